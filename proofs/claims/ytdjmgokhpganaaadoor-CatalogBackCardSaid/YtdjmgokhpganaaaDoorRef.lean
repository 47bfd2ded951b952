/- Ref -/
import Derived.Test.YtdjmgokhpganaaaDoorCat
set_option linter.unusedVariables false
set_option linter.unusedSimpArgs false
section
set_option linter.unusedSimpArgs false
set_option linter.unusedVariables false
set_option maxHeartbeats 4000000
set_option maxRecDepth 10000
namespace Av
open Go
attribute [local irreducible] AWp runO runP runG awS awC awCv awQ awRd awCallR awCvR awQR awR awRdR awB okR plan ris

/-! The reference of chapter 02. -/
def refRow (r : CRow) : V := .agg [V.str r.name, V.int r.kind]
def refRows : List V := rowsL.map refRow
theorem refRows_get {k : Nat} {r : CRow} (h : rowsL[k]? = some r) : refRows[k]? = some (refRow r) := by
  rw [refRows, List.getElem?_map, h]; rfl
theorem crowAt_get {a : Int} (ha : 1 ≤ a ∧ a ≤ 22) : rowsL[a.toNat]? = some (crowAt a) := by
  have hl : rowsL.length = 23 := rfl
  have hk : a.toNat < rowsL.length := by omega
  rw [crowAt, if_pos ha, List.getD_eq_getElem?_getD, List.getElem?_eq_getElem hk, Option.getD_some]

def c_cipherplanref02_rows : AC :=
  seqK [] (.reg [⟨(some 0), .mknil 2, none⟩])
  (seqK [0] (.reg [⟨(some 1), .build [(.string ⟨#[]⟩), (.int .i64 0)] [], none⟩,
      ⟨(some 2), .build [(.string ⟨#[]⟩), (.int .i64 0)] [(0, 1, (.c (V.str [109, 100, 53]))), (1, 1, (.c (V.int 1)))], none⟩,
      ⟨(some 3), .build [(.string ⟨#[]⟩), (.int .i64 0)] [(0, 1, (.c (V.str [115, 104, 97, 49]))), (1, 1, (.c (V.int 1)))], none⟩,
      ⟨(some 4), .build [(.string ⟨#[]⟩), (.int .i64 0)] [(0, 1, (.c (V.str [115, 104, 97, 50, 53, 54]))), (1, 1, (.c (V.int 1)))], none⟩,
      ⟨(some 5), .build [(.string ⟨#[]⟩), (.int .i64 0)] [(0, 1, (.c (V.str [115, 104, 97, 51, 56, 52]))), (1, 1, (.c (V.int 1)))], none⟩,
      ⟨(some 6), .build [(.string ⟨#[]⟩), (.int .i64 0)] [(0, 1, (.c (V.str [114, 115, 97]))), (1, 1, (.c (V.int 2)))], none⟩,
      ⟨(some 7), .build [(.string ⟨#[]⟩), (.int .i64 0)] [(0, 1, (.c (V.str [100, 115, 97]))), (1, 1, (.c (V.int 2)))], none⟩,
      ⟨(some 8), .build [(.string ⟨#[]⟩), (.int .i64 0)] [(0, 1, (.c (V.str [101, 99, 100, 115, 97]))), (1, 1, (.c (V.int 2)))], none⟩,
      ⟨(some 9), .build [(.string ⟨#[]⟩), (.int .i64 0)] [(0, 1, (.c (V.str [101, 100, 50, 53, 53, 49, 57]))), (1, 1, (.c (V.int 2)))], none⟩,
      ⟨(some 10), .build [(.string ⟨#[]⟩), (.int .i64 0)] [(0, 1, (.c (V.str [109, 108, 100, 115, 97]))), (1, 1, (.c (V.int 2)))], none⟩,
      ⟨(some 11), .build [(.string ⟨#[]⟩), (.int .i64 0)] [(0, 1, (.c (V.str [114, 115, 97, 107, 120]))), (1, 1, (.c (V.int 3)))], none⟩,
      ⟨(some 12), .build [(.string ⟨#[]⟩), (.int .i64 0)] [(0, 1, (.c (V.str [100, 104, 101]))), (1, 1, (.c (V.int 3)))], none⟩,
      ⟨(some 13), .build [(.string ⟨#[]⟩), (.int .i64 0)] [(0, 1, (.c (V.str [101, 99, 100, 104, 101]))), (1, 1, (.c (V.int 3)))], none⟩,
      ⟨(some 14), .build [(.string ⟨#[]⟩), (.int .i64 0)] [(0, 1, (.c (V.str [109, 108, 107, 101, 109]))), (1, 1, (.c (V.int 3)))], none⟩,
      ⟨(some 15), .build [(.string ⟨#[]⟩), (.int .i64 0)] [(0, 1, (.c (V.str [114, 99, 52]))), (1, 1, (.c (V.int 4)))], none⟩,
      ⟨(some 16), .build [(.string ⟨#[]⟩), (.int .i64 0)] [(0, 1, (.c (V.str [100, 101, 115, 51]))), (1, 1, (.c (V.int 4)))], none⟩,
      ⟨(some 17), .build [(.string ⟨#[]⟩), (.int .i64 0)] [(0, 1, (.c (V.str [97, 101, 115, 99, 98, 99]))), (1, 1, (.c (V.int 4)))], none⟩,
      ⟨(some 18), .build [(.string ⟨#[]⟩), (.int .i64 0)] [(0, 1, (.c (V.str [97, 101, 115, 103, 99, 109]))), (1, 1, (.c (V.int 4)))], none⟩,
      ⟨(some 19), .build [(.string ⟨#[]⟩), (.int .i64 0)] [(0, 1, (.c (V.str [99, 104, 97, 99, 104, 97]))), (1, 1, (.c (V.int 4)))], none⟩,
      ⟨(some 20), .build [(.string ⟨#[]⟩), (.int .i64 0)] [(0, 1, (.c (V.str [104, 109, 97, 99, 109, 100, 53]))), (1, 1, (.c (V.int 5)))], none⟩,
      ⟨(some 21), .build [(.string ⟨#[]⟩), (.int .i64 0)] [(0, 1, (.c (V.str [104, 109, 97, 99, 115, 104, 97, 49]))), (1, 1, (.c (V.int 5)))], none⟩,
      ⟨(some 22), .build [(.string ⟨#[]⟩), (.int .i64 0)] [(0, 1, (.c (V.str [104, 109, 97, 99, 115, 104, 97, 50, 53, 54]))), (1, 1, (.c (V.int 5)))], none⟩,
      ⟨(some 23), .build [(.string ⟨#[]⟩), (.int .i64 0)] [(0, 1, (.c (V.str [97, 101, 97, 100]))), (1, 1, (.c (V.int 5)))], none⟩,
      ⟨(some 24), .bslice 23 2 true [(.string ⟨#[]⟩), (.int .i64 0)] [(0, (.t 1)), (1, (.t 2)), (2, (.t 3)), (3, (.t 4)), (4, (.t 5)), (5, (.t 6)), (6, (.t 7)), (7, (.t 8)), (8, (.t 9)), (9, (.t 10)), (10, (.t 11)), (11, (.t 12)), (12, (.t 13)), (13, (.t 14)), (14, (.t 15)), (15, (.t 16)), (16, (.t 17)), (17, (.t 18)), (18, (.t 19)), (19, (.t 20)), (20, (.t 21)), (21, (.t 22)), (22, (.t 23))], none⟩,
      ⟨(some 0), .mov (.t 24), none⟩])
   (.ret))

def r_cipherplanref02_rows : List ARes := [.tmp 0]
def CE_cipherplanref02_rows (Γ : Env) (f : Nat) : Prop := EvC Γ f [] (.sl 2 refRows)
theorem ev_cipherplanref02_rows {Γ : Env} {f : Nat} (h : Has Γ.P f 25 c_cipherplanref02_rows r_cipherplanref02_rows)  : CE_cipherplanref02_rows Γ f := by
  refine evC_of_body h (by simp) (by simp only [V.closed]) fun C hC hm => ?_
  subst hC
  unfold c_cipherplanref02_rows
  repeat' (first
    | refine awp_seqR fun K' hK => ?_
    | refine awp_regR fun K' hK => ?_
    | refine awp_seqK ?_
    | refine awp_skip ?_
    | refine awp_block ?_
    | ((first | refine awp_cond ⟨_, rfl, fun hc => ?_, fun hc => ?_⟩ | refine awB_t (fun hc => ?_) (fun hc => ?_) | refine awB_f (fun hc => ?_) (fun hc => ?_)) <;> first | exact Bool.noConfusion hc | (exfalso; simp only [decide_eq_true_eq, decide_eq_false_iff_not, List.length_map, Bool.not_eq_true', Bool.not_eq_false'] at hc; omega) | (try simp only [decide_eq_true_eq, decide_eq_false_iff_not, beq_iff_eq, beq_eq_false_iff_ne, ne_eq, Bool.not_eq_true', Bool.not_eq_false'] at hc))
    | refine awp_ret ?_
    | refine awp_exit ?_
    | simp (maxSteps := 1000000) only [go_sem, Nat.reduceAdd, Nat.reduceMul, Nat.reduceEqDiff, Nat.reduceLeDiff, Nat.reduceLT, Nat.reduceSub, Int.reduceEq, Int.reduceBEq, Int.reduceLT, Int.reduceLE, Int.reduceAdd, Int.reduceToNat, reduceIte, reduceCtorEq]
    | (refine hK _ ?_; clear hK; clear K')
    | refine And.intro ?_ ?_
    | (simp only [List.length_append, List.length_cons, List.length_nil, List.length_map, Nat.reducePow, Nat.reduceAdd]; omega)
    | omega)
  refine ends_r _ rfl ?_; simp only [go_sem, Nat.reduceAdd, Nat.reduceMul, Nat.reduceEqDiff, Nat.reduceLeDiff, Nat.reduceLT, Nat.reduceSub, Int.reduceEq, Int.reduceBEq, Int.reduceLT, Int.reduceLE, Int.reduceAdd, Int.reduceToNat, reduceIte, reduceCtorEq]
  rfl

def c_cipherplanref02_Name (f_cipherplanref02_rows : Nat) : AC :=
  seqK [0] (.reg [⟨(some 2), .mov (.c (V.str [])), none⟩])
  (seqK [0] (seqK [0, 8] (.reg [⟨(some 3), .mov (.t 0), none⟩,
       ⟨(some 4), .bin .lss (.t 3) (.c (V.int 1)), none⟩,
       ⟨(some 5), .mov (.t 4), none⟩,
       ⟨(some 6), .mov (.t 0), (some (5, false))⟩,
       ⟨(some 7), .bin .gtr (.t 6) (.c (V.int 22)), (some (5, false))⟩,
       ⟨(some 8), .pick (.t 5) (.c (V.bool true)) (.t 7), none⟩])
    (.cond (.t 8)
      (seqK [2] (.reg [⟨(some 2), .mov (.c (V.str [])), none⟩])
       (.ret))
      (.skip)))
   (seqK [2] (.reg [⟨(some 9), .call f_cipherplanref02_rows [], none⟩,
       ⟨(some 10), .mov (.t 0), none⟩,
       ⟨(some 11), .iaddr 2 (.t 9) (.t 10), none⟩,
       ⟨(some 12), .faddr 0 (.t 11), none⟩,
       ⟨(some 13), .load false 1 (.t 12), none⟩,
       ⟨(some 2), .mov (.t 13), none⟩])
    (.ret)))

def r_cipherplanref02_Name : List ARes := [.tmp 2]
def CE_cipherplanref02_Name (Γ : Env) (f : Nat) : Prop := ∀ (a : Int), EvN Γ f [V.int a] (V.str (crowAt a).name)
theorem ev_cipherplanref02_Name {Γ : Env} {f f_cipherplanref02_rows : Nat} (h : Has Γ.P f 14 (c_cipherplanref02_Name f_cipherplanref02_rows) r_cipherplanref02_Name) (h_cipherplanref02_rows : CE_cipherplanref02_rows Γ f_cipherplanref02_rows) : CE_cipherplanref02_Name Γ f := by
  intro a
  refine evN_of_body h (by simp) (by simp only [V.closed, closedL, V.noSl, noSlL, and_self, and_true, true_and]) (by simp only [V.closed, closedL, V.noSl, noSlL, and_self, and_true, true_and]) fun C hC hm => ?_
  subst hC
  unfold c_cipherplanref02_Name
  by_cases ha : 1 ≤ a ∧ a ≤ 22
  · have hg := refRows_get (crowAt_get ha)
    repeat' (first
    | refine awp_seqR fun K' hK => ?_
    | refine awp_regR fun K' hK => ?_
    | refine awp_seqK ?_
    | refine awp_skip ?_
    | refine awp_block ?_
    | ((first | refine awp_cond ⟨_, rfl, fun hc => ?_, fun hc => ?_⟩ | refine awB_t (fun hc => ?_) (fun hc => ?_) | refine awB_f (fun hc => ?_) (fun hc => ?_)) <;> first | exact Bool.noConfusion hc | (exfalso; simp only [decide_eq_true_eq, decide_eq_false_iff_not, List.length_map, Bool.not_eq_true', Bool.not_eq_false'] at hc; omega) | (try simp only [decide_eq_true_eq, decide_eq_false_iff_not, beq_iff_eq, beq_eq_false_iff_ne, ne_eq, Bool.not_eq_true', Bool.not_eq_false'] at hc))
    | refine awp_ret ?_
    | refine awp_exit ?_
    | simp (maxSteps := 1000000) only [go_sem, Nat.reduceAdd, Nat.reduceMul, Nat.reduceEqDiff, Nat.reduceLeDiff, Nat.reduceLT, Nat.reduceSub, Int.reduceEq, Int.reduceBEq, Int.reduceLT, Int.reduceLE, Int.reduceAdd, Int.reduceToNat, reduceIte, reduceCtorEq, hg, refRow]
    | (refine hK _ ?_; clear hK; clear K')
    | refine And.intro ?_ ?_
    | (apply awC_A; (focus (simp only [go_sem, Nat.reduceAdd, Nat.reduceMul, Nat.reduceEqDiff, Nat.reduceLeDiff, Nat.reduceLT, Nat.reduceSub, Int.reduceEq, Int.reduceBEq, Int.reduceLT, Int.reduceLE, Int.reduceAdd, Int.reduceToNat, reduceIte, reduceCtorEq, hg, refRow]; first | exact EvC.b h_cipherplanref02_rows)); (focus (simp only [go_sem, Nat.reduceAdd, Nat.reduceMul, Nat.reduceEqDiff, Nat.reduceLeDiff, Nat.reduceLT, Nat.reduceSub, Int.reduceEq, Int.reduceBEq, Int.reduceLT, Int.reduceLE, Int.reduceAdd, Int.reduceToNat, reduceIte, reduceCtorEq, hg, refRow])))
    | (simp only [List.length_append, List.length_cons, List.length_nil, List.length_map, Nat.reducePow, Nat.reduceAdd]; omega)
    | omega)
    all_goals first | (refine ends_r _ rfl ?_; simp only [go_sem, Nat.reduceAdd, Nat.reduceMul, Nat.reduceEqDiff, Nat.reduceLeDiff, Nat.reduceLT, Nat.reduceSub, Int.reduceEq, Int.reduceBEq, Int.reduceLT, Int.reduceLE, Int.reduceAdd, Int.reduceToNat, reduceIte, reduceCtorEq]; done) | (refine ends_r _ rfl ?_; simp only [go_sem, Nat.reduceAdd, Nat.reduceMul, Nat.reduceEqDiff, Nat.reduceLeDiff, Nat.reduceLT, Nat.reduceSub, Int.reduceEq, Int.reduceBEq, Int.reduceLT, Int.reduceLE, Int.reduceAdd, Int.reduceToNat, reduceIte, reduceCtorEq]; simp [*]; done) | (subst hc; refine ends_r _ rfl ?_; simp only [go_sem, Nat.reduceAdd, Nat.reduceMul, Nat.reduceEqDiff, Nat.reduceLeDiff, Nat.reduceLT, Nat.reduceSub, Int.reduceEq, Int.reduceBEq, Int.reduceLT, Int.reduceLE, Int.reduceAdd, Int.reduceToNat, reduceIte, reduceCtorEq]; simp [*]; done) | trace_state
  · have hc0 : crowAt a = row0 := by rw [crowAt, if_neg ha]
    repeat' (first
    | refine awp_seqR fun K' hK => ?_
    | refine awp_regR fun K' hK => ?_
    | refine awp_seqK ?_
    | refine awp_skip ?_
    | refine awp_block ?_
    | ((first | refine awp_cond ⟨_, rfl, fun hc => ?_, fun hc => ?_⟩ | refine awB_t (fun hc => ?_) (fun hc => ?_) | refine awB_f (fun hc => ?_) (fun hc => ?_)) <;> first | exact Bool.noConfusion hc | (exfalso; simp only [decide_eq_true_eq, decide_eq_false_iff_not, List.length_map, Bool.not_eq_true', Bool.not_eq_false'] at hc; omega) | (try simp only [decide_eq_true_eq, decide_eq_false_iff_not, beq_iff_eq, beq_eq_false_iff_ne, ne_eq, Bool.not_eq_true', Bool.not_eq_false'] at hc))
    | refine awp_ret ?_
    | refine awp_exit ?_
    | simp (maxSteps := 1000000) only [go_sem, Nat.reduceAdd, Nat.reduceMul, Nat.reduceEqDiff, Nat.reduceLeDiff, Nat.reduceLT, Nat.reduceSub, Int.reduceEq, Int.reduceBEq, Int.reduceLT, Int.reduceLE, Int.reduceAdd, Int.reduceToNat, reduceIte, reduceCtorEq]
    | (refine hK _ ?_; clear hK; clear K')
    | refine And.intro ?_ ?_
    | (apply awC_A; (focus (simp only [go_sem, Nat.reduceAdd, Nat.reduceMul, Nat.reduceEqDiff, Nat.reduceLeDiff, Nat.reduceLT, Nat.reduceSub, Int.reduceEq, Int.reduceBEq, Int.reduceLT, Int.reduceLE, Int.reduceAdd, Int.reduceToNat, reduceIte, reduceCtorEq]; first | exact EvC.b h_cipherplanref02_rows)); (focus (simp only [go_sem, Nat.reduceAdd, Nat.reduceMul, Nat.reduceEqDiff, Nat.reduceLeDiff, Nat.reduceLT, Nat.reduceSub, Int.reduceEq, Int.reduceBEq, Int.reduceLT, Int.reduceLE, Int.reduceAdd, Int.reduceToNat, reduceIte, reduceCtorEq])))
    | (simp only [List.length_append, List.length_cons, List.length_nil, List.length_map, Nat.reducePow, Nat.reduceAdd]; omega)
    | omega)
    all_goals first | (refine ends_r _ rfl ?_; simp only [go_sem, Nat.reduceAdd, Nat.reduceMul, Nat.reduceEqDiff, Nat.reduceLeDiff, Nat.reduceLT, Nat.reduceSub, Int.reduceEq, Int.reduceBEq, Int.reduceLT, Int.reduceLE, Int.reduceAdd, Int.reduceToNat, reduceIte, reduceCtorEq]; done) | (refine ends_r _ rfl ?_; simp only [go_sem, Nat.reduceAdd, Nat.reduceMul, Nat.reduceEqDiff, Nat.reduceLeDiff, Nat.reduceLT, Nat.reduceSub, Int.reduceEq, Int.reduceBEq, Int.reduceLT, Int.reduceLE, Int.reduceAdd, Int.reduceToNat, reduceIte, reduceCtorEq]; simp [hc0, row0, *]; done) | (subst hc; refine ends_r _ rfl ?_; simp only [go_sem, Nat.reduceAdd, Nat.reduceMul, Nat.reduceEqDiff, Nat.reduceLeDiff, Nat.reduceLT, Nat.reduceSub, Int.reduceEq, Int.reduceBEq, Int.reduceLT, Int.reduceLE, Int.reduceAdd, Int.reduceToNat, reduceIte, reduceCtorEq]; simp [hc0, row0, *]; done) | trace_state

def c_cipherplanref02_Kind (f_cipherplanref02_rows : Nat) : AC :=
  seqK [0] (.reg [⟨(some 2), .mov (.c (V.int 0)), none⟩])
  (seqK [0] (seqK [0, 8] (.reg [⟨(some 3), .mov (.t 0), none⟩,
       ⟨(some 4), .bin .lss (.t 3) (.c (V.int 1)), none⟩,
       ⟨(some 5), .mov (.t 4), none⟩,
       ⟨(some 6), .mov (.t 0), (some (5, false))⟩,
       ⟨(some 7), .bin .gtr (.t 6) (.c (V.int 22)), (some (5, false))⟩,
       ⟨(some 8), .pick (.t 5) (.c (V.bool true)) (.t 7), none⟩])
    (.cond (.t 8)
      (seqK [2] (.reg [⟨(some 2), .mov (.c (V.int 0)), none⟩])
       (.ret))
      (.skip)))
   (seqK [2] (.reg [⟨(some 9), .call f_cipherplanref02_rows [], none⟩,
       ⟨(some 10), .mov (.t 0), none⟩,
       ⟨(some 11), .iaddr 2 (.t 9) (.t 10), none⟩,
       ⟨(some 12), .faddr 1 (.t 11), none⟩,
       ⟨(some 13), .load false 1 (.t 12), none⟩,
       ⟨(some 2), .mov (.t 13), none⟩])
    (.ret)))

def r_cipherplanref02_Kind : List ARes := [.tmp 2]
def CE_cipherplanref02_Kind (Γ : Env) (f : Nat) : Prop := ∀ (a : Int), EvN Γ f [V.int a] (V.int (crowAt a).kind)
theorem ev_cipherplanref02_Kind {Γ : Env} {f f_cipherplanref02_rows : Nat} (h : Has Γ.P f 14 (c_cipherplanref02_Kind f_cipherplanref02_rows) r_cipherplanref02_Kind) (h_cipherplanref02_rows : CE_cipherplanref02_rows Γ f_cipherplanref02_rows) : CE_cipherplanref02_Kind Γ f := by
  intro a
  refine evN_of_body h (by simp) (by simp only [V.closed, closedL, V.noSl, noSlL, and_self, and_true, true_and]) (by simp only [V.closed, closedL, V.noSl, noSlL, and_self, and_true, true_and]) fun C hC hm => ?_
  subst hC
  unfold c_cipherplanref02_Kind
  by_cases ha : 1 ≤ a ∧ a ≤ 22
  · have hg := refRows_get (crowAt_get ha)
    repeat' (first
    | refine awp_seqR fun K' hK => ?_
    | refine awp_regR fun K' hK => ?_
    | refine awp_seqK ?_
    | refine awp_skip ?_
    | refine awp_block ?_
    | ((first | refine awp_cond ⟨_, rfl, fun hc => ?_, fun hc => ?_⟩ | refine awB_t (fun hc => ?_) (fun hc => ?_) | refine awB_f (fun hc => ?_) (fun hc => ?_)) <;> first | exact Bool.noConfusion hc | (exfalso; simp only [decide_eq_true_eq, decide_eq_false_iff_not, List.length_map, Bool.not_eq_true', Bool.not_eq_false'] at hc; omega) | (try simp only [decide_eq_true_eq, decide_eq_false_iff_not, beq_iff_eq, beq_eq_false_iff_ne, ne_eq, Bool.not_eq_true', Bool.not_eq_false'] at hc))
    | refine awp_ret ?_
    | refine awp_exit ?_
    | simp (maxSteps := 1000000) only [go_sem, Nat.reduceAdd, Nat.reduceMul, Nat.reduceEqDiff, Nat.reduceLeDiff, Nat.reduceLT, Nat.reduceSub, Int.reduceEq, Int.reduceBEq, Int.reduceLT, Int.reduceLE, Int.reduceAdd, Int.reduceToNat, reduceIte, reduceCtorEq, hg, refRow]
    | (refine hK _ ?_; clear hK; clear K')
    | refine And.intro ?_ ?_
    | (apply awC_A; (focus (simp only [go_sem, Nat.reduceAdd, Nat.reduceMul, Nat.reduceEqDiff, Nat.reduceLeDiff, Nat.reduceLT, Nat.reduceSub, Int.reduceEq, Int.reduceBEq, Int.reduceLT, Int.reduceLE, Int.reduceAdd, Int.reduceToNat, reduceIte, reduceCtorEq, hg, refRow]; first | exact EvC.b h_cipherplanref02_rows)); (focus (simp only [go_sem, Nat.reduceAdd, Nat.reduceMul, Nat.reduceEqDiff, Nat.reduceLeDiff, Nat.reduceLT, Nat.reduceSub, Int.reduceEq, Int.reduceBEq, Int.reduceLT, Int.reduceLE, Int.reduceAdd, Int.reduceToNat, reduceIte, reduceCtorEq, hg, refRow])))
    | (simp only [List.length_append, List.length_cons, List.length_nil, List.length_map, Nat.reducePow, Nat.reduceAdd]; omega)
    | omega)
    all_goals first | (refine ends_r _ rfl ?_; simp only [go_sem, Nat.reduceAdd, Nat.reduceMul, Nat.reduceEqDiff, Nat.reduceLeDiff, Nat.reduceLT, Nat.reduceSub, Int.reduceEq, Int.reduceBEq, Int.reduceLT, Int.reduceLE, Int.reduceAdd, Int.reduceToNat, reduceIte, reduceCtorEq]; done) | (refine ends_r _ rfl ?_; simp only [go_sem, Nat.reduceAdd, Nat.reduceMul, Nat.reduceEqDiff, Nat.reduceLeDiff, Nat.reduceLT, Nat.reduceSub, Int.reduceEq, Int.reduceBEq, Int.reduceLT, Int.reduceLE, Int.reduceAdd, Int.reduceToNat, reduceIte, reduceCtorEq]; simp [*]; done) | (subst hc; refine ends_r _ rfl ?_; simp only [go_sem, Nat.reduceAdd, Nat.reduceMul, Nat.reduceEqDiff, Nat.reduceLeDiff, Nat.reduceLT, Nat.reduceSub, Int.reduceEq, Int.reduceBEq, Int.reduceLT, Int.reduceLE, Int.reduceAdd, Int.reduceToNat, reduceIte, reduceCtorEq]; simp [*]; done) | trace_state
  · have hc0 : crowAt a = row0 := by rw [crowAt, if_neg ha]
    repeat' (first
    | refine awp_seqR fun K' hK => ?_
    | refine awp_regR fun K' hK => ?_
    | refine awp_seqK ?_
    | refine awp_skip ?_
    | refine awp_block ?_
    | ((first | refine awp_cond ⟨_, rfl, fun hc => ?_, fun hc => ?_⟩ | refine awB_t (fun hc => ?_) (fun hc => ?_) | refine awB_f (fun hc => ?_) (fun hc => ?_)) <;> first | exact Bool.noConfusion hc | (exfalso; simp only [decide_eq_true_eq, decide_eq_false_iff_not, List.length_map, Bool.not_eq_true', Bool.not_eq_false'] at hc; omega) | (try simp only [decide_eq_true_eq, decide_eq_false_iff_not, beq_iff_eq, beq_eq_false_iff_ne, ne_eq, Bool.not_eq_true', Bool.not_eq_false'] at hc))
    | refine awp_ret ?_
    | refine awp_exit ?_
    | simp (maxSteps := 1000000) only [go_sem, Nat.reduceAdd, Nat.reduceMul, Nat.reduceEqDiff, Nat.reduceLeDiff, Nat.reduceLT, Nat.reduceSub, Int.reduceEq, Int.reduceBEq, Int.reduceLT, Int.reduceLE, Int.reduceAdd, Int.reduceToNat, reduceIte, reduceCtorEq]
    | (refine hK _ ?_; clear hK; clear K')
    | refine And.intro ?_ ?_
    | (apply awC_A; (focus (simp only [go_sem, Nat.reduceAdd, Nat.reduceMul, Nat.reduceEqDiff, Nat.reduceLeDiff, Nat.reduceLT, Nat.reduceSub, Int.reduceEq, Int.reduceBEq, Int.reduceLT, Int.reduceLE, Int.reduceAdd, Int.reduceToNat, reduceIte, reduceCtorEq]; first | exact EvC.b h_cipherplanref02_rows)); (focus (simp only [go_sem, Nat.reduceAdd, Nat.reduceMul, Nat.reduceEqDiff, Nat.reduceLeDiff, Nat.reduceLT, Nat.reduceSub, Int.reduceEq, Int.reduceBEq, Int.reduceLT, Int.reduceLE, Int.reduceAdd, Int.reduceToNat, reduceIte, reduceCtorEq])))
    | (simp only [List.length_append, List.length_cons, List.length_nil, List.length_map, Nat.reducePow, Nat.reduceAdd]; omega)
    | omega)
    all_goals first | (refine ends_r _ rfl ?_; simp only [go_sem, Nat.reduceAdd, Nat.reduceMul, Nat.reduceEqDiff, Nat.reduceLeDiff, Nat.reduceLT, Nat.reduceSub, Int.reduceEq, Int.reduceBEq, Int.reduceLT, Int.reduceLE, Int.reduceAdd, Int.reduceToNat, reduceIte, reduceCtorEq]; done) | (refine ends_r _ rfl ?_; simp only [go_sem, Nat.reduceAdd, Nat.reduceMul, Nat.reduceEqDiff, Nat.reduceLeDiff, Nat.reduceLT, Nat.reduceSub, Int.reduceEq, Int.reduceBEq, Int.reduceLT, Int.reduceLE, Int.reduceAdd, Int.reduceToNat, reduceIte, reduceCtorEq]; simp [hc0, row0, *]; done) | (subst hc; refine ends_r _ rfl ?_; simp only [go_sem, Nat.reduceAdd, Nat.reduceMul, Nat.reduceEqDiff, Nat.reduceLeDiff, Nat.reduceLT, Nat.reduceSub, Int.reduceEq, Int.reduceBEq, Int.reduceLT, Int.reduceLE, Int.reduceAdd, Int.reduceToNat, reduceIte, reduceCtorEq]; simp [hc0, row0, *]; done) | trace_state

theorem find_one (s : List UInt8) : findR s 1 (rowsL.drop 1) = findR s 0 rowsL := by rfl

def c_cipherplanref02_Find (f_cipherplanref02_rows : Nat) : AC :=
  seqK [0] (.reg [⟨(some 2), .mov (.c (V.int 0)), none⟩])
  (seqK [] (seqK [0, 3] (.reg [⟨(some 3), .mov (.c (V.int 1)), none⟩])
    (.block 0 (loopK [0, 3] (seqK [0, 3] (seqK [0, 3, 5] (.reg [⟨(some 4), .mov (.t 3), none⟩,
           ⟨(some 5), .bin .leq (.t 4) (.c (V.int 22)), none⟩])
        (.cond (.t 5)
          (.skip)
          (.exit 0)))
       (seqK [0, 3] (.block 1 (seqK [0, 3, 14] (.reg [⟨(some 8), .call f_cipherplanref02_rows [], none⟩,
             ⟨(some 9), .mov (.t 3), none⟩,
             ⟨(some 10), .iaddr 2 (.t 8) (.t 9), none⟩,
             ⟨(some 11), .faddr 0 (.t 10), none⟩,
             ⟨(some 12), .load false 1 (.t 11), none⟩,
             ⟨(some 13), .mov (.t 0), none⟩,
             ⟨(some 14), .bin .eql (.t 12) (.t 13), none⟩])
          (.cond (.t 14)
            (seqK [2] (.reg [⟨(some 15), .mov (.t 3), none⟩,
                ⟨(some 2), .mov (.t 15), none⟩])
             (.ret))
            (.skip))))
        (.reg [⟨(some 6), .mov (.t 3), none⟩,
           ⟨(some 7), .bin .add (.t 6) (.c (V.int 1)), none⟩,
           ⟨(some 3), .mov (.t 7), none⟩]))))))
   (seqK [2] (.reg [⟨(some 2), .mov (.c (V.int 0)), none⟩])
    (.ret)))

def r_cipherplanref02_Find : List ARes := [.tmp 2]
def CE_cipherplanref02_Find (Γ : Env) (f : Nat) : Prop := ∀ (s : List UInt8), EvN Γ f [V.str s] (V.int (findR s 0 rowsL))
theorem ev_cipherplanref02_Find {Γ : Env} {f f_cipherplanref02_rows : Nat} (h : Has Γ.P f 16 (c_cipherplanref02_Find f_cipherplanref02_rows) r_cipherplanref02_Find) (h_cipherplanref02_rows : CE_cipherplanref02_rows Γ f_cipherplanref02_rows) : CE_cipherplanref02_Find Γ f := by
  intro s
  refine evN_of_body h (by simp) (by simp only [V.closed, closedL, V.noSl, noSlL, and_self, and_true, true_and]) (by simp only [V.closed, closedL, V.noSl, noSlL, and_self, and_true, true_and]) fun C hC hm => ?_
  subst hC
  unfold c_cipherplanref02_Find
  repeat' (first
    | refine awp_seqR fun K' hK => ?_
    | refine awp_regR fun K' hK => ?_
    | refine awp_seqK ?_
    | refine awp_skip ?_
    | refine awp_block ?_
    | ((first | refine awp_cond ⟨_, rfl, fun hc => ?_, fun hc => ?_⟩ | refine awB_t (fun hc => ?_) (fun hc => ?_) | refine awB_f (fun hc => ?_) (fun hc => ?_)) <;> first | exact Bool.noConfusion hc | (exfalso; simp only [decide_eq_true_eq, decide_eq_false_iff_not, List.length_map, Bool.not_eq_true', Bool.not_eq_false'] at hc; omega) | (try simp only [decide_eq_true_eq, decide_eq_false_iff_not, beq_iff_eq, beq_eq_false_iff_ne, ne_eq, Bool.not_eq_true', Bool.not_eq_false'] at hc))
    | refine awp_ret ?_
    | refine awp_exit ?_
    | simp (maxSteps := 1000000) only [go_sem, Nat.reduceAdd, Nat.reduceMul, Nat.reduceEqDiff, Nat.reduceLeDiff, Nat.reduceLT, Nat.reduceSub, Int.reduceEq, Int.reduceBEq, Int.reduceLT, Int.reduceLE, Int.reduceAdd, Int.reduceToNat, reduceIte, reduceCtorEq]
    | (refine hK _ ?_; clear hK; clear K')
    | refine And.intro ?_ ?_
    | (apply awC_A; (focus (simp only [go_sem, Nat.reduceAdd, Nat.reduceMul, Nat.reduceEqDiff, Nat.reduceLeDiff, Nat.reduceLT, Nat.reduceSub, Int.reduceEq, Int.reduceBEq, Int.reduceLT, Int.reduceLE, Int.reduceAdd, Int.reduceToNat, reduceIte, reduceCtorEq]; first | exact EvC.b h_cipherplanref02_rows)); (focus (simp only [go_sem, Nat.reduceAdd, Nat.reduceMul, Nat.reduceEqDiff, Nat.reduceLeDiff, Nat.reduceLT, Nat.reduceSub, Int.reduceEq, Int.reduceBEq, Int.reduceLT, Int.reduceLE, Int.reduceAdd, Int.reduceToNat, reduceIte, reduceCtorEq])))
    | (simp only [List.length_append, List.length_cons, List.length_nil, List.length_map, Nat.reducePow, Nat.reduceAdd]; omega)
    | omega)
  refine awp_loopP (ι := Nat) (fun k => 1 ≤ k ∧ k ≤ 23 ∧ findR s k (rowsL.drop k) = findR s 0 rowsL) (fun k => [(3, V.int k)]) (fun k => 23 - k) 1 (by omega) ⟨by simp, by simp, find_one s⟩ (by repeat' first | exact ltO_none | refine ltO_upd (by omega) (by simp only [Ob.lt, ltL, V.lt, and_self, and_true]; try omega) ?_) (fun i hi => by simp only [ovT, lookD, Nat.reduceEqDiff, reduceIte]; (repeat' first | exact ltT_nil | refine ltT_cons ?_ ?_ | simp only [V.lt, ltL, and_self, and_true] | omega)) (by simp only [Nat.reduceAdd, ovT, lookD, Nat.reduceEqDiff, reduceIte, eqT_cons, eqT_nil, renI, u32, u33, u34, u35, u36, u37, u38, u39, and_self, and_true, true_and]; rfl) fun k hk K' hL => ?_
  obtain ⟨hk1, hk, hinv⟩ := hk
  have hl : rowsL.length = 23 := rfl
  simp only [ovT, lookD, Nat.reduceEqDiff, reduceIte]
  by_cases hk2 : k = 23
  · subst hk2
    repeat' (first
    | refine awp_seqR fun K' hK => ?_
    | refine awp_regR fun K' hK => ?_
    | refine awp_seqK ?_
    | refine awp_skip ?_
    | refine awp_block ?_
    | ((first | refine awp_cond ⟨_, rfl, fun hc => ?_, fun hc => ?_⟩ | refine awB_t (fun hc => ?_) (fun hc => ?_) | refine awB_f (fun hc => ?_) (fun hc => ?_)) <;> first | exact Bool.noConfusion hc | (exfalso; simp only [decide_eq_true_eq, decide_eq_false_iff_not, List.length_map, Bool.not_eq_true', Bool.not_eq_false'] at hc; omega) | (try simp only [decide_eq_true_eq, decide_eq_false_iff_not, beq_iff_eq, beq_eq_false_iff_ne, ne_eq, Bool.not_eq_true', Bool.not_eq_false'] at hc))
    | refine awp_ret ?_
    | refine awp_exit ?_
    | simp (maxSteps := 1000000) only [go_sem, Nat.reduceAdd, Nat.reduceMul, Nat.reduceEqDiff, Nat.reduceLeDiff, Nat.reduceLT, Nat.reduceSub, Int.reduceEq, Int.reduceBEq, Int.reduceLT, Int.reduceLE, Int.reduceAdd, Int.reduceToNat, reduceIte, reduceCtorEq]
    | (refine hK _ ?_; clear hK; clear K')
    | refine And.intro ?_ ?_
    | (apply awC_A; (focus (simp only [go_sem, Nat.reduceAdd, Nat.reduceMul, Nat.reduceEqDiff, Nat.reduceLeDiff, Nat.reduceLT, Nat.reduceSub, Int.reduceEq, Int.reduceBEq, Int.reduceLT, Int.reduceLE, Int.reduceAdd, Int.reduceToNat, reduceIte, reduceCtorEq]; first | exact EvC.b h_cipherplanref02_rows)); (focus (simp only [go_sem, Nat.reduceAdd, Nat.reduceMul, Nat.reduceEqDiff, Nat.reduceLeDiff, Nat.reduceLT, Nat.reduceSub, Int.reduceEq, Int.reduceBEq, Int.reduceLT, Int.reduceLE, Int.reduceAdd, Int.reduceToNat, reduceIte, reduceCtorEq])))
    | (simp only [List.length_append, List.length_cons, List.length_nil, List.length_map, Nat.reducePow, Nat.reduceAdd]; omega)
    | omega)
    refine ends_r _ rfl ?_; simp only [go_sem, Nat.reduceAdd, Nat.reduceMul, Nat.reduceEqDiff, Nat.reduceLeDiff, Nat.reduceLT, Nat.reduceSub, Int.reduceEq, Int.reduceBEq, Int.reduceLT, Int.reduceLE, Int.reduceAdd, Int.reduceToNat, reduceIte, reduceCtorEq]
    rw [← hinv]; rfl
  · obtain ⟨r, hr⟩ : ∃ r, rowsL[k]? = some r := ⟨rowsL[k]'(by omega), List.getElem?_eq_getElem (by omega)⟩
    have hg := refRows_get hr
    have hd : rowsL.drop k = r :: rowsL.drop (k + 1) := by
      rw [List.drop_eq_getElem_cons (by omega)]
      rw [List.getElem?_eq_getElem (by omega)] at hr
      cases hr; rfl
    have hw := wrap_succ (k := k) (by omega)
    rw [hd] at hinv
    repeat' (first
    | refine awp_seqR fun K' hK => ?_
    | refine awp_regR fun K' hK => ?_
    | refine awp_seqK ?_
    | refine awp_skip ?_
    | refine awp_block ?_
    | ((first | refine awp_cond ⟨_, rfl, fun hc => ?_, fun hc => ?_⟩ | refine awB_t (fun hc => ?_) (fun hc => ?_) | refine awB_f (fun hc => ?_) (fun hc => ?_)) <;> first | exact Bool.noConfusion hc | (exfalso; simp only [decide_eq_true_eq, decide_eq_false_iff_not, List.length_map, Bool.not_eq_true', Bool.not_eq_false'] at hc; omega) | (try simp only [decide_eq_true_eq, decide_eq_false_iff_not, beq_iff_eq, beq_eq_false_iff_ne, ne_eq, Bool.not_eq_true', Bool.not_eq_false'] at hc))
    | refine awp_ret ?_
    | refine awp_exit ?_
    | simp (maxSteps := 1000000) only [go_sem, Nat.reduceAdd, Nat.reduceMul, Nat.reduceEqDiff, Nat.reduceLeDiff, Nat.reduceLT, Nat.reduceSub, Int.reduceEq, Int.reduceBEq, Int.reduceLT, Int.reduceLE, Int.reduceAdd, Int.reduceToNat, reduceIte, reduceCtorEq, Int.toNat_natCast, hg, refRow, hw]
    | (refine hK _ ?_; clear hK; clear K')
    | refine And.intro ?_ ?_
    | (apply awC_A; (focus (simp only [go_sem, Nat.reduceAdd, Nat.reduceMul, Nat.reduceEqDiff, Nat.reduceLeDiff, Nat.reduceLT, Nat.reduceSub, Int.reduceEq, Int.reduceBEq, Int.reduceLT, Int.reduceLE, Int.reduceAdd, Int.reduceToNat, reduceIte, reduceCtorEq, Int.toNat_natCast, hg, refRow, hw]; first | exact EvC.b h_cipherplanref02_rows)); (focus (simp only [go_sem, Nat.reduceAdd, Nat.reduceMul, Nat.reduceEqDiff, Nat.reduceLeDiff, Nat.reduceLT, Nat.reduceSub, Int.reduceEq, Int.reduceBEq, Int.reduceLT, Int.reduceLE, Int.reduceAdd, Int.reduceToNat, reduceIte, reduceCtorEq, Int.toNat_natCast, hg, refRow, hw])))
    | (simp only [List.length_append, List.length_cons, List.length_nil, List.length_map, Nat.reducePow, Nat.reduceAdd]; omega)
    | omega)
    · refine ends_r _ rfl ?_; simp only [go_sem, Nat.reduceAdd, Nat.reduceMul, Nat.reduceEqDiff, Nat.reduceLeDiff, Nat.reduceLT, Nat.reduceSub, Int.reduceEq, Int.reduceBEq, Int.reduceLT, Int.reduceLE, Int.reduceAdd, Int.reduceToNat, reduceIte, reduceCtorEq]
      rw [← hinv]; simp [findR, hc]; omega
    · refine hL _ (k + 1) (by simp only [Nat.reduceAdd, ovT, lookD, Nat.reduceEqDiff, reduceIte, eqT_cons, eqT_nil, renI, u32, u33, u34, u35, u36, u37, u38, u39, and_self, and_true, true_and]) ⟨by omega, by omega, ?_⟩ (by omega) (fun a ha => by simp only [u32, u33, u34, u35, u36, u37, u38, u39]; repeat rw [if_neg (by omega)])
      rw [← hinv, findR, if_neg (by first | omega | simp [hc])]

def amongL (b : Int) : List Int → List Int → Int
  | x :: xs, y :: ys => if x = b then y else amongL b xs ys
  | _, _ => 0

def c_cipherplanref02_among : AC :=
  seqK [0, 1, 2] (.reg [⟨(some 6), .mov (.c (V.int 0)), none⟩])
  (seqK [] (seqK [0, 1, 2, 7] (.reg [⟨(some 7), .mov (.c (V.int 0)), none⟩])
    (.block 0 (loopK [0, 1, 2, 7] (seqK [0, 1, 2, 7] (seqK [0, 1, 2, 7, 11] (.reg [⟨(some 8), .mov (.t 7), none⟩,
           ⟨(some 9), .mov (.t 1), none⟩,
           ⟨(some 10), .lenL (.t 9), none⟩,
           ⟨(some 11), .bin .lss (.t 8) (.t 10), none⟩])
        (.cond (.t 11)
          (.skip)
          (.exit 0)))
       (seqK [0, 1, 2, 7] (.block 1 (seqK [0, 1, 2, 7, 19] (.reg [⟨(some 14), .mov (.t 1), none⟩,
             ⟨(some 15), .mov (.t 7), none⟩,
             ⟨(some 16), .iaddr 1 (.t 14) (.t 15), none⟩,
             ⟨(some 17), .load false 1 (.t 16), none⟩,
             ⟨(some 18), .mov (.t 0), none⟩,
             ⟨(some 19), .bin .eql (.t 17) (.t 18), none⟩])
          (.cond (.t 19)
            (seqK [6] (.reg [⟨(some 20), .mov (.t 2), none⟩,
                ⟨(some 21), .mov (.t 7), none⟩,
                ⟨(some 22), .iaddr 1 (.t 20) (.t 21), none⟩,
                ⟨(some 23), .load false 1 (.t 22), none⟩,
                ⟨(some 6), .mov (.t 23), none⟩])
             (.ret))
            (.skip))))
        (.reg [⟨(some 12), .mov (.t 7), none⟩,
           ⟨(some 13), .bin .add (.t 12) (.c (V.int 1)), none⟩,
           ⟨(some 7), .mov (.t 13), none⟩]))))))
   (seqK [6] (.reg [⟨(some 6), .mov (.c (V.int 0)), none⟩])
    (.ret)))

def r_cipherplanref02_among : List ARes := [.tmp 6]
def CE_cipherplanref02_among (Γ : Env) (f : Nat) : Prop := ∀ (b : Int) (xs ys : List Int) (hs : xs.length ≤ ys.length) (h2 : xs.length < 2 ^ 62), EvN Γ f [V.int b, .sl 1 (xs.map V.int), .sl 1 (ys.map V.int)] (V.int (amongL b xs ys))
theorem ev_cipherplanref02_among {Γ : Env} {f : Nat} (h : Has Γ.P f 24 c_cipherplanref02_among r_cipherplanref02_among)  : CE_cipherplanref02_among Γ f := by
  intro b xs ys hs h2
  refine evN_of_body h (by simp) (by simp only [V.closed, closedL, V.noSl, noSlL, and_self, and_true, true_and]) (by simp only [V.closed, closedL, V.noSl, noSlL, and_self, and_true, true_and]) fun C hC hm => ?_
  subst hC
  unfold c_cipherplanref02_among
  repeat' (first
    | refine awp_seqR fun K' hK => ?_
    | refine awp_regR fun K' hK => ?_
    | refine awp_seqK ?_
    | refine awp_skip ?_
    | refine awp_block ?_
    | ((first | refine awp_cond ⟨_, rfl, fun hc => ?_, fun hc => ?_⟩ | refine awB_t (fun hc => ?_) (fun hc => ?_) | refine awB_f (fun hc => ?_) (fun hc => ?_)) <;> first | exact Bool.noConfusion hc | (exfalso; simp only [decide_eq_true_eq, decide_eq_false_iff_not, List.length_map, Bool.not_eq_true', Bool.not_eq_false'] at hc; omega) | (try simp only [decide_eq_true_eq, decide_eq_false_iff_not, beq_iff_eq, beq_eq_false_iff_ne, ne_eq, Bool.not_eq_true', Bool.not_eq_false'] at hc))
    | refine awp_ret ?_
    | refine awp_exit ?_
    | simp (maxSteps := 1000000) only [go_sem, Nat.reduceAdd, Nat.reduceMul, Nat.reduceEqDiff, Nat.reduceLeDiff, Nat.reduceLT, Nat.reduceSub, Int.reduceEq, Int.reduceBEq, Int.reduceLT, Int.reduceLE, Int.reduceAdd, Int.reduceToNat, reduceIte, reduceCtorEq]
    | (refine hK _ ?_; clear hK; clear K')
    | refine And.intro ?_ ?_
    | (simp only [List.length_append, List.length_cons, List.length_nil, List.length_map, Nat.reducePow, Nat.reduceAdd]; omega)
    | omega)
  refine awp_loopP (ι := Nat) (fun k => k ≤ xs.length ∧ amongL b (xs.drop k) (ys.drop k) = amongL b xs ys) (fun k => [(7, V.int k)]) (fun k => xs.length - k) 0 (by omega) ⟨by simp, by simp⟩ (by repeat' first | exact ltO_none | refine ltO_upd (by omega) (by simp only [Ob.lt, ltL, V.lt, and_self, and_true]; try omega) ?_) (fun i hi => by simp only [ovT, lookD, Nat.reduceEqDiff, reduceIte]; (repeat' first | exact ltT_nil | refine ltT_cons ?_ ?_ | simp only [V.lt, ltL, and_self, and_true] | omega)) (by simp only [Nat.reduceAdd, ovT, lookD, Nat.reduceEqDiff, reduceIte, eqT_cons, eqT_nil, renI, u32, u33, u34, u35, u36, u37, u38, u39, and_self, and_true, true_and]; rfl) fun k hk K' hL => ?_
  obtain ⟨hk, hinv⟩ := hk
  simp only [ovT, lookD, Nat.reduceEqDiff, reduceIte]
  rcases hd : xs.drop k with _ | ⟨x, r⟩
  · have := drop_nil hd
    rw [hd] at hinv
    repeat' (first
    | refine awp_seqR fun K' hK => ?_
    | refine awp_regR fun K' hK => ?_
    | refine awp_seqK ?_
    | refine awp_skip ?_
    | refine awp_block ?_
    | ((first | refine awp_cond ⟨_, rfl, fun hc => ?_, fun hc => ?_⟩ | refine awB_t (fun hc => ?_) (fun hc => ?_) | refine awB_f (fun hc => ?_) (fun hc => ?_)) <;> first | exact Bool.noConfusion hc | (exfalso; simp only [decide_eq_true_eq, decide_eq_false_iff_not, List.length_map, Bool.not_eq_true', Bool.not_eq_false'] at hc; omega) | (try simp only [decide_eq_true_eq, decide_eq_false_iff_not, beq_iff_eq, beq_eq_false_iff_ne, ne_eq, Bool.not_eq_true', Bool.not_eq_false'] at hc))
    | refine awp_ret ?_
    | refine awp_exit ?_
    | simp (maxSteps := 1000000) only [go_sem, Nat.reduceAdd, Nat.reduceMul, Nat.reduceEqDiff, Nat.reduceLeDiff, Nat.reduceLT, Nat.reduceSub, Int.reduceEq, Int.reduceBEq, Int.reduceLT, Int.reduceLE, Int.reduceAdd, Int.reduceToNat, reduceIte, reduceCtorEq]
    | (refine hK _ ?_; clear hK; clear K')
    | refine And.intro ?_ ?_
    | (simp only [List.length_append, List.length_cons, List.length_nil, List.length_map, Nat.reducePow, Nat.reduceAdd]; omega)
    | omega)
    refine ends_r _ rfl ?_; simp only [go_sem, Nat.reduceAdd, Nat.reduceMul, Nat.reduceEqDiff, Nat.reduceLeDiff, Nat.reduceLT, Nat.reduceSub, Int.reduceEq, Int.reduceBEq, Int.reduceLT, Int.reduceLE, Int.reduceAdd, Int.reduceToNat, reduceIte, reduceCtorEq]
    rw [← hinv]; simp [amongL]
  · obtain ⟨hk', hget, hr⟩ := drop_cons hd
    rcases hd2 : ys.drop k with _ | ⟨y, r2⟩
    · have := drop_nil hd2; omega
    · obtain ⟨hk2, hget2, hr2⟩ := drop_cons hd2
      rw [hd, hd2] at hinv
      have hw := wrap_succ (k := k) (by omega)
      repeat' (first
    | refine awp_seqR fun K' hK => ?_
    | refine awp_regR fun K' hK => ?_
    | refine awp_seqK ?_
    | refine awp_skip ?_
    | refine awp_block ?_
    | ((first | refine awp_cond ⟨_, rfl, fun hc => ?_, fun hc => ?_⟩ | refine awB_t (fun hc => ?_) (fun hc => ?_) | refine awB_f (fun hc => ?_) (fun hc => ?_)) <;> first | exact Bool.noConfusion hc | (exfalso; simp only [decide_eq_true_eq, decide_eq_false_iff_not, List.length_map, Bool.not_eq_true', Bool.not_eq_false'] at hc; omega) | (try simp only [decide_eq_true_eq, decide_eq_false_iff_not, beq_iff_eq, beq_eq_false_iff_ne, ne_eq, Bool.not_eq_true', Bool.not_eq_false'] at hc))
    | refine awp_ret ?_
    | refine awp_exit ?_
    | simp (maxSteps := 1000000) only [go_sem, Nat.reduceAdd, Nat.reduceMul, Nat.reduceEqDiff, Nat.reduceLeDiff, Nat.reduceLT, Nat.reduceSub, Int.reduceEq, Int.reduceBEq, Int.reduceLT, Int.reduceLE, Int.reduceAdd, Int.reduceToNat, reduceIte, reduceCtorEq, Int.toNat_natCast, List.getElem?_map, hget, hget2, hw]
    | (refine hK _ ?_; clear hK; clear K')
    | refine And.intro ?_ ?_
    | (simp only [List.length_append, List.length_cons, List.length_nil, List.length_map, Nat.reducePow, Nat.reduceAdd]; omega)
    | omega)
      · refine ends_r _ rfl ?_; simp only [go_sem, Nat.reduceAdd, Nat.reduceMul, Nat.reduceEqDiff, Nat.reduceLeDiff, Nat.reduceLT, Nat.reduceSub, Int.reduceEq, Int.reduceBEq, Int.reduceLT, Int.reduceLE, Int.reduceAdd, Int.reduceToNat, reduceIte, reduceCtorEq]
        rw [← hinv]; simp [amongL, hc]
      · refine hL _ (k + 1) (by simp only [Nat.reduceAdd, ovT, lookD, Nat.reduceEqDiff, reduceIte, eqT_cons, eqT_nil, renI, u32, u33, u34, u35, u36, u37, u38, u39, and_self, and_true, true_and]) ⟨by omega, ?_⟩ (by omega) (fun a ha => by simp only [u32, u33, u34, u35, u36, u37, u38, u39]; repeat rw [if_neg (by omega)])
        rw [hr, hr2, ← hinv, amongL, if_neg hc]

def singleV (a : Int) : Int := if a = 1 then 18 else if a = 2 then 60 else if a = 3 ∨ a = 8 ∨ a = 21 then 128 else if a = 4 then 192 else if a = 18 ∨ a = 22 then 256 else if a = 19 then 64 else if a = 20 then 80 else 0
def modR (b : Int) : Int := if b < 512 ∨ 16384 < b then 0 else modL b modT

def c_cipherplanref02_single : AC :=
  seqK [0] (.reg [⟨(some 2), .mov (.c (V.int 0)), none⟩])
  (seqK [] (seqK [3] (.reg [⟨(some 3), .mov (.t 0), none⟩])
    (.block 0 (seqK [3, 4] (.reg [⟨(some 5), .bin .eql (.t 3) (.c (V.int 1)), none⟩,
         ⟨(some 4), .mov (.t 5), none⟩])
      (.cond (.t 4)
        (seqK [2] (.reg [⟨(some 2), .mov (.c (V.int 18)), none⟩])
         (.ret))
        (seqK [3, 6] (.reg [⟨(some 7), .bin .eql (.t 3) (.c (V.int 2)), none⟩,
            ⟨(some 6), .mov (.t 7), none⟩])
         (.cond (.t 6)
           (seqK [2] (.reg [⟨(some 2), .mov (.c (V.int 60)), none⟩])
            (.ret))
           (seqK [3, 8] (seqK [3, 8] (.reg [⟨(some 9), .bin .eql (.t 3) (.c (V.int 3)), none⟩,
                ⟨(some 8), .mov (.t 9), none⟩])
             (.cond (.t 8)
               (.skip)
               (seqK [3, 8] (.reg [⟨(some 10), .bin .eql (.t 3) (.c (V.int 8)), none⟩,
                   ⟨(some 8), .mov (.t 10), none⟩])
                (.cond (.t 8)
                  (.skip)
                  (.reg [⟨(some 11), .bin .eql (.t 3) (.c (V.int 21)), none⟩,
                     ⟨(some 8), .mov (.t 11), none⟩])))))
            (.cond (.t 8)
              (seqK [2] (.reg [⟨(some 2), .mov (.c (V.int 128)), none⟩])
               (.ret))
              (seqK [3, 12] (.reg [⟨(some 13), .bin .eql (.t 3) (.c (V.int 4)), none⟩,
                  ⟨(some 12), .mov (.t 13), none⟩])
               (.cond (.t 12)
                 (seqK [2] (.reg [⟨(some 2), .mov (.c (V.int 192)), none⟩])
                  (.ret))
                 (seqK [3, 14] (seqK [3, 14] (.reg [⟨(some 15), .bin .eql (.t 3) (.c (V.int 18)), none⟩,
                      ⟨(some 14), .mov (.t 15), none⟩])
                   (.cond (.t 14)
                     (.skip)
                     (.reg [⟨(some 16), .bin .eql (.t 3) (.c (V.int 22)), none⟩,
                        ⟨(some 14), .mov (.t 16), none⟩])))
                  (.cond (.t 14)
                    (seqK [2] (.reg [⟨(some 2), .mov (.c (V.int 256)), none⟩])
                     (.ret))
                    (seqK [3, 17] (.reg [⟨(some 18), .bin .eql (.t 3) (.c (V.int 19)), none⟩,
                        ⟨(some 17), .mov (.t 18), none⟩])
                     (.cond (.t 17)
                       (seqK [2] (.reg [⟨(some 2), .mov (.c (V.int 64)), none⟩])
                        (.ret))
                       (seqK [19] (.reg [⟨(some 20), .bin .eql (.t 3) (.c (V.int 20)), none⟩,
                           ⟨(some 19), .mov (.t 20), none⟩])
                        (.cond (.t 19)
                          (seqK [2] (.reg [⟨(some 2), .mov (.c (V.int 80)), none⟩])
                           (.ret))
                          (.skip)))))))))))))))))
   (seqK [2] (.reg [⟨(some 2), .mov (.c (V.int 0)), none⟩])
    (.ret)))

def r_cipherplanref02_single : List ARes := [.tmp 2]
def CE_cipherplanref02_single (Γ : Env) (f : Nat) : Prop := ∀ (a : Int), EvN Γ f [V.int a] (V.int (singleV a))
theorem ev_cipherplanref02_single {Γ : Env} {f : Nat} (h : Has Γ.P f 21 c_cipherplanref02_single r_cipherplanref02_single)  : CE_cipherplanref02_single Γ f := by
  intro a
  refine evN_of_body h (by simp) (by simp only [V.closed, closedL, V.noSl, noSlL, and_self, and_true, true_and]) (by simp only [V.closed, closedL, V.noSl, noSlL, and_self, and_true, true_and]) fun C hC hm => ?_
  subst hC
  unfold c_cipherplanref02_single
  repeat' (first
    | refine awp_seqR fun K' hK => ?_
    | refine awp_regR fun K' hK => ?_
    | refine awp_seqK ?_
    | refine awp_skip ?_
    | refine awp_block ?_
    | ((first | refine awp_cond ⟨_, rfl, fun hc => ?_, fun hc => ?_⟩ | refine awB_t (fun hc => ?_) (fun hc => ?_) | refine awB_f (fun hc => ?_) (fun hc => ?_)) <;> first | exact Bool.noConfusion hc | (exfalso; simp only [decide_eq_true_eq, decide_eq_false_iff_not, List.length_map, Bool.not_eq_true', Bool.not_eq_false'] at hc; omega) | (try simp only [decide_eq_true_eq, decide_eq_false_iff_not, beq_iff_eq, beq_eq_false_iff_ne, ne_eq, Bool.not_eq_true', Bool.not_eq_false'] at hc))
    | refine awp_ret ?_
    | refine awp_exit ?_
    | simp (maxSteps := 1000000) only [go_sem, Nat.reduceAdd, Nat.reduceMul, Nat.reduceEqDiff, Nat.reduceLeDiff, Nat.reduceLT, Nat.reduceSub, Int.reduceEq, Int.reduceBEq, Int.reduceLT, Int.reduceLE, Int.reduceAdd, Int.reduceToNat, reduceIte, reduceCtorEq]
    | (refine hK _ ?_; clear hK; clear K')
    | refine And.intro ?_ ?_
    | (simp only [List.length_append, List.length_cons, List.length_nil, List.length_map, Nat.reducePow, Nat.reduceAdd]; omega)
    | omega)
  all_goals (refine ends_r _ rfl ?_; simp only [go_sem, Nat.reduceAdd, Nat.reduceMul, Nat.reduceEqDiff, Nat.reduceLeDiff, Nat.reduceLT, Nat.reduceSub, Int.reduceEq, Int.reduceBEq, Int.reduceLT, Int.reduceLE, Int.reduceAdd, Int.reduceToNat, reduceIte, reduceCtorEq]; simp [singleV, *])

def c_cipherplanref02_modulus : AC :=
  seqK [0] (.reg [⟨(some 2), .mov (.c (V.int 0)), none⟩])
  (seqK [] (.block 0 (seqK [0, 3] (.reg [⟨(some 4), .mov (.t 0), none⟩,
        ⟨(some 5), .bin .lss (.t 4) (.c (V.int 512)), none⟩,
        ⟨(some 6), .mov (.t 5), none⟩,
        ⟨(some 7), .mov (.t 0), (some (6, false))⟩,
        ⟨(some 8), .bin .gtr (.t 7) (.c (V.int 16384)), (some (6, false))⟩,
        ⟨(some 9), .pick (.t 6) (.c (V.bool true)) (.t 8), none⟩,
        ⟨(some 3), .mov (.t 9), none⟩])
     (.cond (.t 3)
       (seqK [2] (.reg [⟨(some 2), .mov (.c (V.int 0)), none⟩])
        (.ret))
       (seqK [0, 10] (.reg [⟨(some 11), .mov (.t 0), none⟩,
           ⟨(some 12), .bin .lss (.t 11) (.c (V.int 1024)), none⟩,
           ⟨(some 10), .mov (.t 12), none⟩])
        (.cond (.t 10)
          (seqK [2] (.reg [⟨(some 2), .mov (.c (V.int 56)), none⟩])
           (.ret))
          (seqK [0, 13] (.reg [⟨(some 14), .mov (.t 0), none⟩,
              ⟨(some 15), .bin .lss (.t 14) (.c (V.int 2048)), none⟩,
              ⟨(some 13), .mov (.t 15), none⟩])
           (.cond (.t 13)
             (seqK [2] (.reg [⟨(some 2), .mov (.c (V.int 80)), none⟩])
              (.ret))
             (seqK [0, 16] (.reg [⟨(some 17), .mov (.t 0), none⟩,
                 ⟨(some 18), .bin .lss (.t 17) (.c (V.int 3072)), none⟩,
                 ⟨(some 16), .mov (.t 18), none⟩])
              (.cond (.t 16)
                (seqK [2] (.reg [⟨(some 2), .mov (.c (V.int 112)), none⟩])
                 (.ret))
                (seqK [0, 19] (.reg [⟨(some 20), .mov (.t 0), none⟩,
                    ⟨(some 21), .bin .lss (.t 20) (.c (V.int 7680)), none⟩,
                    ⟨(some 19), .mov (.t 21), none⟩])
                 (.cond (.t 19)
                   (seqK [2] (.reg [⟨(some 2), .mov (.c (V.int 128)), none⟩])
                    (.ret))
                   (seqK [22] (.reg [⟨(some 23), .mov (.t 0), none⟩,
                       ⟨(some 24), .bin .lss (.t 23) (.c (V.int 15360)), none⟩,
                       ⟨(some 22), .mov (.t 24), none⟩])
                    (.cond (.t 22)
                      (seqK [2] (.reg [⟨(some 2), .mov (.c (V.int 192)), none⟩])
                       (.ret))
                      (.skip))))))))))))))
   (seqK [2] (.reg [⟨(some 2), .mov (.c (V.int 256)), none⟩])
    (.ret)))

def r_cipherplanref02_modulus : List ARes := [.tmp 2]
def CE_cipherplanref02_modulus (Γ : Env) (f : Nat) : Prop := ∀ (b : Int), EvN Γ f [V.int b] (V.int (modR b))
theorem ev_cipherplanref02_modulus {Γ : Env} {f : Nat} (h : Has Γ.P f 25 c_cipherplanref02_modulus r_cipherplanref02_modulus)  : CE_cipherplanref02_modulus Γ f := by
  intro b
  refine evN_of_body h (by simp) (by simp only [V.closed, closedL, V.noSl, noSlL, and_self, and_true, true_and]) (by simp only [V.closed, closedL, V.noSl, noSlL, and_self, and_true, true_and]) fun C hC hm => ?_
  subst hC
  unfold c_cipherplanref02_modulus
  repeat' (first
    | refine awp_seqR fun K' hK => ?_
    | refine awp_regR fun K' hK => ?_
    | refine awp_seqK ?_
    | refine awp_skip ?_
    | refine awp_block ?_
    | ((first | refine awp_cond ⟨_, rfl, fun hc => ?_, fun hc => ?_⟩ | refine awB_t (fun hc => ?_) (fun hc => ?_) | refine awB_f (fun hc => ?_) (fun hc => ?_)) <;> first | exact Bool.noConfusion hc | (exfalso; simp only [decide_eq_true_eq, decide_eq_false_iff_not, List.length_map, Bool.not_eq_true', Bool.not_eq_false'] at hc; omega) | (try simp only [decide_eq_true_eq, decide_eq_false_iff_not, beq_iff_eq, beq_eq_false_iff_ne, ne_eq, Bool.not_eq_true', Bool.not_eq_false'] at hc))
    | refine awp_ret ?_
    | refine awp_exit ?_
    | simp (maxSteps := 1000000) only [go_sem, Nat.reduceAdd, Nat.reduceMul, Nat.reduceEqDiff, Nat.reduceLeDiff, Nat.reduceLT, Nat.reduceSub, Int.reduceEq, Int.reduceBEq, Int.reduceLT, Int.reduceLE, Int.reduceAdd, Int.reduceToNat, reduceIte, reduceCtorEq]
    | (refine hK _ ?_; clear hK; clear K')
    | refine And.intro ?_ ?_
    | (simp only [List.length_append, List.length_cons, List.length_nil, List.length_map, Nat.reducePow, Nat.reduceAdd]; omega)
    | omega)
  all_goals (refine ends_r _ rfl ?_; simp only [go_sem, Nat.reduceAdd, Nat.reduceMul, Nat.reduceEqDiff, Nat.reduceLeDiff, Nat.reduceLT, Nat.reduceSub, Int.reduceEq, Int.reduceBEq, Int.reduceLT, Int.reduceLE, Int.reduceAdd, Int.reduceToNat, reduceIte, reduceCtorEq]; simp only [modR, modL, modT]; repeat' split) <;> omega

def refStrength (a b : Int) : Int :=
  if a = 5 ∨ a = 6 ∨ a = 10 ∨ a = 11 then modR b
  else if a = 7 ∨ a = 12 then (if b = 160 ∨ b = 224 ∨ b = 256 ∨ b = 384 ∨ b = 521 then IntKind.i64.wrap (b.tdiv 2) else 0)
  else if a = 9 then amongL b [44, 65, 87] [128, 192, 256]
  else if a = 13 then amongL b [512, 768, 1024] [128, 192, 256]
  else if a = 14 then amongL b [40, 128] [40, 60]
  else if a = 15 then amongL b [112, 168] [80, 112]
  else if a = 16 ∨ a = 17 then amongL b [128, 256] [128, 256]
  else amongL b [0] [singleV a]

theorem single_out (a : Int) (ha : ¬ (1 ≤ a ∧ a ≤ 22)) : singleV a = 0 := by
  simp only [singleV]; repeat' split
  all_goals omega
theorem refStrength_eq (a b : Int) : refStrength a b = strengthS a b := by
  by_cases ha : 1 ≤ a ∧ a ≤ 22
  · rcases (by omega : a = 1 ∨ a = 2 ∨ a = 3 ∨ a = 4 ∨ a = 5 ∨ a = 6 ∨ a = 7 ∨ a = 8 ∨ a = 9 ∨ a = 10 ∨ a = 11 ∨ a = 12 ∨ a = 13 ∨ a = 14 ∨ a = 15 ∨ a = 16 ∨ a = 17 ∨ a = 18 ∨ a = 19 ∨ a = 20 ∨ a = 21 ∨ a = 22) with rfl | rfl | rfl | rfl | rfl | rfl | rfl | rfl | rfl | rfl | rfl | rfl | rfl | rfl | rfl | rfl | rfl | rfl | rfl | rfl | rfl | rfl
    all_goals simp [refStrength, strengthS, strengthR, crowAt, rowsL, amongL, singleV, find0, modR]
    all_goals (repeat' split) <;> first | omega | rfl | simp_all
  · have hs := single_out a ha
    rw [strengthS, strengthR, if_pos (by simp [ha])]
    simp only [refStrength]
    rw [if_neg (by omega), if_neg (by omega), if_neg (by omega), if_neg (by omega), if_neg (by omega), if_neg (by omega), if_neg (by omega), hs]
    simp [amongL]

def c_cipherplanref02_Strength (f_cipherplanref02_modulus f_cipherplanref02_among f_cipherplanref02_single : Nat) : AC :=
  seqK [1] (.reg [⟨(some 1), .box true 2 (.t 0), none⟩,
     ⟨(some 2), .mov (.c (V.int 0)), none⟩])
  (seqK [1, 3] (.reg [⟨(some 4), .faddr 1 (.t 1), none⟩,
      ⟨(some 5), .load false 1 (.t 4), none⟩,
      ⟨(some 3), .mov (.t 5), none⟩])
   (seqK [1, 3] (seqK [1, 3, 7] (.reg [⟨(some 6), .faddr 0 (.t 1), none⟩,
        ⟨(some 7), .load false 1 (.t 6), none⟩])
     (.block 0 (seqK [1, 3, 7, 8] (seqK [1, 3, 7, 8] (.reg [⟨(some 9), .bin .eql (.t 7) (.c (V.int 5)), none⟩,
           ⟨(some 8), .mov (.t 9), none⟩])
        (.cond (.t 8)
          (.skip)
          (seqK [1, 3, 7, 8] (.reg [⟨(some 10), .bin .eql (.t 7) (.c (V.int 6)), none⟩,
              ⟨(some 8), .mov (.t 10), none⟩])
           (.cond (.t 8)
             (.skip)
             (seqK [1, 3, 7, 8] (.reg [⟨(some 11), .bin .eql (.t 7) (.c (V.int 10)), none⟩,
                 ⟨(some 8), .mov (.t 11), none⟩])
              (.cond (.t 8)
                (.skip)
                (.reg [⟨(some 12), .bin .eql (.t 7) (.c (V.int 11)), none⟩,
                   ⟨(some 8), .mov (.t 12), none⟩])))))))
       (.cond (.t 8)
         (seqK [2] (.reg [⟨(some 13), .mov (.t 3), none⟩,
             ⟨(some 14), .call f_cipherplanref02_modulus [(.t 13)], none⟩,
             ⟨(some 2), .mov (.t 14), none⟩])
          (.ret))
         (seqK [1, 3, 7, 15] (seqK [1, 3, 7, 15] (.reg [⟨(some 16), .bin .eql (.t 7) (.c (V.int 7)), none⟩,
              ⟨(some 15), .mov (.t 16), none⟩])
           (.cond (.t 15)
             (.skip)
             (.reg [⟨(some 17), .bin .eql (.t 7) (.c (V.int 12)), none⟩,
                ⟨(some 15), .mov (.t 17), none⟩])))
          (.cond (.t 15)
            (seqK [] (seqK [3, 35] (.reg [⟨(some 18), .mov (.t 3), none⟩,
                 ⟨(some 19), .bin .eql (.t 18) (.c (V.int 160)), none⟩,
                 ⟨(some 20), .mov (.t 19), none⟩,
                 ⟨(some 21), .mov (.t 3), (some (20, false))⟩,
                 ⟨(some 22), .bin .eql (.t 21) (.c (V.int 224)), (some (20, false))⟩,
                 ⟨(some 23), .pick (.t 20) (.c (V.bool true)) (.t 22), none⟩,
                 ⟨(some 24), .mov (.t 23), none⟩,
                 ⟨(some 25), .mov (.t 3), (some (24, false))⟩,
                 ⟨(some 26), .bin .eql (.t 25) (.c (V.int 256)), (some (24, false))⟩,
                 ⟨(some 27), .pick (.t 24) (.c (V.bool true)) (.t 26), none⟩,
                 ⟨(some 28), .mov (.t 27), none⟩,
                 ⟨(some 29), .mov (.t 3), (some (28, false))⟩,
                 ⟨(some 30), .bin .eql (.t 29) (.c (V.int 384)), (some (28, false))⟩,
                 ⟨(some 31), .pick (.t 28) (.c (V.bool true)) (.t 30), none⟩,
                 ⟨(some 32), .mov (.t 31), none⟩,
                 ⟨(some 33), .mov (.t 3), (some (32, false))⟩,
                 ⟨(some 34), .bin .eql (.t 33) (.c (V.int 521)), (some (32, false))⟩,
                 ⟨(some 35), .pick (.t 32) (.c (V.bool true)) (.t 34), none⟩])
              (.cond (.t 35)
                (seqK [2] (.reg [⟨(some 36), .mov (.t 3), none⟩,
                    ⟨(some 37), .bin .quo (.t 36) (.c (V.int 2)), none⟩,
                    ⟨(some 2), .mov (.t 37), none⟩])
                 (.ret))
                (.skip)))
             (seqK [2] (.reg [⟨(some 2), .mov (.c (V.int 0)), none⟩])
              (.ret)))
            (seqK [1, 3, 7, 38] (.reg [⟨(some 39), .bin .eql (.t 7) (.c (V.int 9)), none⟩,
                ⟨(some 38), .mov (.t 39), none⟩])
             (.cond (.t 38)
               (seqK [2] (.reg [⟨(some 40), .mov (.t 3), none⟩,
                   ⟨(some 41), .bslice 3 1 false [(.int .i64 0)] [(0, (.c (V.int 44))), (1, (.c (V.int 65))), (2, (.c (V.int 87)))], none⟩,
                   ⟨(some 42), .bslice 3 1 false [(.int .i64 0)] [(0, (.c (V.int 128))), (1, (.c (V.int 192))), (2, (.c (V.int 256)))], none⟩,
                   ⟨(some 43), .call f_cipherplanref02_among [(.t 40), (.t 41), (.t 42)], none⟩,
                   ⟨(some 2), .mov (.t 43), none⟩])
                (.ret))
               (seqK [1, 3, 7, 44] (.reg [⟨(some 45), .bin .eql (.t 7) (.c (V.int 13)), none⟩,
                   ⟨(some 44), .mov (.t 45), none⟩])
                (.cond (.t 44)
                  (seqK [2] (.reg [⟨(some 46), .mov (.t 3), none⟩,
                      ⟨(some 47), .bslice 3 1 false [(.int .i64 0)] [(0, (.c (V.int 512))), (1, (.c (V.int 768))), (2, (.c (V.int 1024)))], none⟩,
                      ⟨(some 48), .bslice 3 1 false [(.int .i64 0)] [(0, (.c (V.int 128))), (1, (.c (V.int 192))), (2, (.c (V.int 256)))], none⟩,
                      ⟨(some 49), .call f_cipherplanref02_among [(.t 46), (.t 47), (.t 48)], none⟩,
                      ⟨(some 2), .mov (.t 49), none⟩])
                   (.ret))
                  (seqK [1, 3, 7, 50] (.reg [⟨(some 51), .bin .eql (.t 7) (.c (V.int 14)), none⟩,
                      ⟨(some 50), .mov (.t 51), none⟩])
                   (.cond (.t 50)
                     (seqK [2] (.reg [⟨(some 52), .mov (.t 3), none⟩,
                         ⟨(some 53), .bslice 2 1 false [(.int .i64 0)] [(0, (.c (V.int 40))), (1, (.c (V.int 128)))], none⟩,
                         ⟨(some 54), .bslice 2 1 false [(.int .i64 0)] [(0, (.c (V.int 40))), (1, (.c (V.int 60)))], none⟩,
                         ⟨(some 55), .call f_cipherplanref02_among [(.t 52), (.t 53), (.t 54)], none⟩,
                         ⟨(some 2), .mov (.t 55), none⟩])
                      (.ret))
                     (seqK [1, 3, 7, 56] (.reg [⟨(some 57), .bin .eql (.t 7) (.c (V.int 15)), none⟩,
                         ⟨(some 56), .mov (.t 57), none⟩])
                      (.cond (.t 56)
                        (seqK [2] (.reg [⟨(some 58), .mov (.t 3), none⟩,
                            ⟨(some 59), .bslice 2 1 false [(.int .i64 0)] [(0, (.c (V.int 112))), (1, (.c (V.int 168)))], none⟩,
                            ⟨(some 60), .bslice 2 1 false [(.int .i64 0)] [(0, (.c (V.int 80))), (1, (.c (V.int 112)))], none⟩,
                            ⟨(some 61), .call f_cipherplanref02_among [(.t 58), (.t 59), (.t 60)], none⟩,
                            ⟨(some 2), .mov (.t 61), none⟩])
                         (.ret))
                        (seqK [1, 3, 62] (seqK [1, 3, 7, 62] (.reg [⟨(some 63), .bin .eql (.t 7) (.c (V.int 16)), none⟩,
                             ⟨(some 62), .mov (.t 63), none⟩])
                          (.cond (.t 62)
                            (.skip)
                            (.reg [⟨(some 64), .bin .eql (.t 7) (.c (V.int 17)), none⟩,
                               ⟨(some 62), .mov (.t 64), none⟩])))
                         (.cond (.t 62)
                           (seqK [2] (.reg [⟨(some 65), .mov (.t 3), none⟩,
                               ⟨(some 66), .bslice 2 1 false [(.int .i64 0)] [(0, (.c (V.int 128))), (1, (.c (V.int 256)))], none⟩,
                               ⟨(some 67), .bslice 2 1 false [(.int .i64 0)] [(0, (.c (V.int 128))), (1, (.c (V.int 256)))], none⟩,
                               ⟨(some 68), .call f_cipherplanref02_among [(.t 65), (.t 66), (.t 67)], none⟩,
                               ⟨(some 2), .mov (.t 68), none⟩])
                            (.ret))
                           (.skip)))))))))))))))))
    (seqK [2] (.reg [⟨(some 69), .mov (.t 3), none⟩,
        ⟨(some 70), .bslice 1 1 false [(.int .i64 0)] [(0, (.c (V.int 0)))], none⟩,
        ⟨(some 71), .faddr 0 (.t 1), none⟩,
        ⟨(some 72), .load false 1 (.t 71), none⟩,
        ⟨(some 73), .call f_cipherplanref02_single [(.t 72)], none⟩,
        ⟨(some 74), .bslice 1 1 false [(.int .i64 0)] [(0, (.t 73))], none⟩,
        ⟨(some 75), .call f_cipherplanref02_among [(.t 69), (.t 70), (.t 74)], none⟩,
        ⟨(some 2), .mov (.t 75), none⟩])
     (.ret))))

def r_cipherplanref02_Strength : List ARes := [.tmp 2]
def CE_cipherplanref02_Strength (Γ : Env) (f : Nat) : Prop := ∀ (a b : Int), EvN Γ f [.agg [V.int a, V.int b]] (V.int (strengthS a b))
theorem ev_cipherplanref02_Strength {Γ : Env} {f f_cipherplanref02_modulus f_cipherplanref02_among f_cipherplanref02_single : Nat} (h : Has Γ.P f 76 (c_cipherplanref02_Strength f_cipherplanref02_modulus f_cipherplanref02_among f_cipherplanref02_single) r_cipherplanref02_Strength) (h_cipherplanref02_modulus : CE_cipherplanref02_modulus Γ f_cipherplanref02_modulus) (h_cipherplanref02_among : CE_cipherplanref02_among Γ f_cipherplanref02_among) (h_cipherplanref02_single : CE_cipherplanref02_single Γ f_cipherplanref02_single) : CE_cipherplanref02_Strength Γ f := by
  intro a b
  refine evN_of_body h (by simp) (by simp only [V.closed, closedL, V.noSl, noSlL, and_self, and_true, true_and]) (by simp only [V.closed, closedL, V.noSl, noSlL, and_self, and_true, true_and]) fun C hC hm => ?_
  subst hC
  unfold c_cipherplanref02_Strength
  rw [← refStrength_eq]
  have k1 := h_cipherplanref02_among b [44, 65, 87] [128, 192, 256] (by simp) (by simp)
  have k2 := h_cipherplanref02_among b [512, 768, 1024] [128, 192, 256] (by simp) (by simp)
  have k3 := h_cipherplanref02_among b [40, 128] [40, 60] (by simp) (by simp)
  have k4 := h_cipherplanref02_among b [112, 168] [80, 112] (by simp) (by simp)
  have k5 := h_cipherplanref02_among b [128, 256] [128, 256] (by simp) (by simp)
  have k6 := h_cipherplanref02_among b [0] [singleV a] (by simp) (by simp)
  repeat' (first
    | refine awp_seqR fun K' hK => ?_
    | refine awp_regR fun K' hK => ?_
    | refine awp_seqK ?_
    | refine awp_skip ?_
    | refine awp_block ?_
    | ((first | refine awp_cond ⟨_, rfl, fun hc => ?_, fun hc => ?_⟩ | refine awB_t (fun hc => ?_) (fun hc => ?_) | refine awB_f (fun hc => ?_) (fun hc => ?_)) <;> first | exact Bool.noConfusion hc | (exfalso; simp only [decide_eq_true_eq, decide_eq_false_iff_not, List.length_map, Bool.not_eq_true', Bool.not_eq_false'] at hc; omega) | (try simp only [decide_eq_true_eq, decide_eq_false_iff_not, beq_iff_eq, beq_eq_false_iff_ne, ne_eq, Bool.not_eq_true', Bool.not_eq_false'] at hc))
    | refine awp_ret ?_
    | refine awp_exit ?_
    | simp (maxSteps := 1000000) only [go_sem, Nat.reduceAdd, Nat.reduceMul, Nat.reduceEqDiff, Nat.reduceLeDiff, Nat.reduceLT, Nat.reduceSub, Int.reduceEq, Int.reduceBEq, Int.reduceLT, Int.reduceLE, Int.reduceAdd, Int.reduceToNat, reduceIte, reduceCtorEq]
    | (refine hK _ ?_; clear hK; clear K')
    | refine And.intro ?_ ?_
    | (apply awC_A; (focus (simp only [go_sem, Nat.reduceAdd, Nat.reduceMul, Nat.reduceEqDiff, Nat.reduceLeDiff, Nat.reduceLT, Nat.reduceSub, Int.reduceEq, Int.reduceBEq, Int.reduceLT, Int.reduceLE, Int.reduceAdd, Int.reduceToNat, reduceIte, reduceCtorEq]; first | exact k1.b | exact k2.b | exact k3.b | exact k4.b | exact k5.b | exact k6.b | exact (h_cipherplanref02_modulus _).b | exact (h_cipherplanref02_among _ _ _ (by first | assumption | omega | simp) (by first | assumption | omega | simp)).b | exact (h_cipherplanref02_single _).b)); (focus (simp only [go_sem, Nat.reduceAdd, Nat.reduceMul, Nat.reduceEqDiff, Nat.reduceLeDiff, Nat.reduceLT, Nat.reduceSub, Int.reduceEq, Int.reduceBEq, Int.reduceLT, Int.reduceLE, Int.reduceAdd, Int.reduceToNat, reduceIte, reduceCtorEq])))
    | (simp only [List.length_append, List.length_cons, List.length_nil, List.length_map, Nat.reducePow, Nat.reduceAdd]; omega)
    | omega)
  all_goals (refine ends_r _ rfl ?_; simp only [go_sem, Nat.reduceAdd, Nat.reduceMul, Nat.reduceEqDiff, Nat.reduceLeDiff, Nat.reduceLT, Nat.reduceSub, Int.reduceEq, Int.reduceBEq, Int.reduceLT, Int.reduceLE, Int.reduceAdd, Int.reduceToNat, reduceIte, reduceCtorEq]; simp [refStrength, *])

def c_cipherplanref02_Valid (f_cipherplanref02_Strength : Nat) : AC :=
  seqK [1] (.reg [⟨(some 1), .box true 2 (.t 0), none⟩,
     ⟨(some 2), .mov (.c (V.bool false)), none⟩])
  (seqK [2] (.reg [⟨(some 3), .load true 2 (.t 1), none⟩,
      ⟨(some 4), .call f_cipherplanref02_Strength [(.t 3)], none⟩,
      ⟨(some 5), .bin .gtr (.t 4) (.c (V.int 0)), none⟩,
      ⟨(some 2), .mov (.t 5), none⟩])
   (.ret))

def r_cipherplanref02_Valid : List ARes := [.tmp 2]
def CE_cipherplanref02_Valid (Γ : Env) (f : Nat) : Prop := ∀ (a b : Int), EvN Γ f [.agg [V.int a, V.int b]] (V.bool (decide (strengthS a b > 0)))
theorem ev_cipherplanref02_Valid {Γ : Env} {f f_cipherplanref02_Strength : Nat} (h : Has Γ.P f 6 (c_cipherplanref02_Valid f_cipherplanref02_Strength) r_cipherplanref02_Valid) (h_cipherplanref02_Strength : CE_cipherplanref02_Strength Γ f_cipherplanref02_Strength) : CE_cipherplanref02_Valid Γ f := by
  intro a b
  refine evN_of_body h (by simp) (by simp only [V.closed, closedL, V.noSl, noSlL, and_self, and_true, true_and]) (by simp only [V.closed, closedL, V.noSl, noSlL, and_self, and_true, true_and]) fun C hC hm => ?_
  subst hC
  unfold c_cipherplanref02_Valid
  repeat' (first
    | refine awp_seqR fun K' hK => ?_
    | refine awp_regR fun K' hK => ?_
    | refine awp_seqK ?_
    | refine awp_skip ?_
    | refine awp_block ?_
    | ((first | refine awp_cond ⟨_, rfl, fun hc => ?_, fun hc => ?_⟩ | refine awB_t (fun hc => ?_) (fun hc => ?_) | refine awB_f (fun hc => ?_) (fun hc => ?_)) <;> first | exact Bool.noConfusion hc | (exfalso; simp only [decide_eq_true_eq, decide_eq_false_iff_not, List.length_map, Bool.not_eq_true', Bool.not_eq_false'] at hc; omega) | (try simp only [decide_eq_true_eq, decide_eq_false_iff_not, beq_iff_eq, beq_eq_false_iff_ne, ne_eq, Bool.not_eq_true', Bool.not_eq_false'] at hc))
    | refine awp_ret ?_
    | refine awp_exit ?_
    | simp (maxSteps := 1000000) only [go_sem, Nat.reduceAdd, Nat.reduceMul, Nat.reduceEqDiff, Nat.reduceLeDiff, Nat.reduceLT, Nat.reduceSub, Int.reduceEq, Int.reduceBEq, Int.reduceLT, Int.reduceLE, Int.reduceAdd, Int.reduceToNat, reduceIte, reduceCtorEq]
    | (refine hK _ ?_; clear hK; clear K')
    | refine And.intro ?_ ?_
    | (apply awC_A; (focus (simp only [go_sem, Nat.reduceAdd, Nat.reduceMul, Nat.reduceEqDiff, Nat.reduceLeDiff, Nat.reduceLT, Nat.reduceSub, Int.reduceEq, Int.reduceBEq, Int.reduceLT, Int.reduceLE, Int.reduceAdd, Int.reduceToNat, reduceIte, reduceCtorEq]; first | exact (h_cipherplanref02_Strength _ _).b)); (focus (simp only [go_sem, Nat.reduceAdd, Nat.reduceMul, Nat.reduceEqDiff, Nat.reduceLeDiff, Nat.reduceLT, Nat.reduceSub, Int.reduceEq, Int.reduceBEq, Int.reduceLT, Int.reduceLE, Int.reduceAdd, Int.reduceToNat, reduceIte, reduceCtorEq])))
    | (simp only [List.length_append, List.length_cons, List.length_nil, List.length_map, Nat.reducePow, Nat.reduceAdd]; omega)
    | omega)
  refine ends_r _ rfl ?_; simp only [go_sem, Nat.reduceAdd, Nat.reduceMul, Nat.reduceEqDiff, Nat.reduceLeDiff, Nat.reduceLT, Nat.reduceSub, Int.reduceEq, Int.reduceBEq, Int.reduceLT, Int.reduceLE, Int.reduceAdd, Int.reduceToNat, reduceIte, reduceCtorEq]
end Av
end

section
set_option linter.unusedSimpArgs false
set_option linter.unusedVariables false
set_option maxRecDepth 10000
set_option maxHeartbeats 4000000
namespace Av
open Go
attribute [local irreducible] AWp runO runP runG awS awC awCv awQ awRd awCallR awCvR awQR awR awRdR awB okR plan ris

theorem itoa_small {n : Int} (h0 : 0 ≤ n) (h1 : n < 10) : Lib.itoa n = [UInt8.ofNat (48 + n.toNat)] := by
  rw [Lib.itoa, if_neg (by omega), Lib.decDigits_one (by omega)]
theorem itoa_big {n : Int} (h1 : 10 ≤ n) : Lib.itoa n = Lib.itoa (n / 10) ++ [UInt8.ofNat (48 + (n % 10).toNat)] := by
  have e : (n / 10).toNat = n.toNat / 10 := by omega
  have e2 : (n % 10).toNat = n.toNat % 10 := by omega
  rw [Lib.itoa, if_neg (by omega), Lib.itoa, if_neg (by omega), Lib.decDigits, dif_neg (by omega), e, e2]

theorem dig_wrap {d : Int} (h0 : 0 ≤ d) (h1 : d < 10) : IntKind.u8.wrap (IntKind.i64.wrap (48 + d)) = 48 + d := by
  rcases (by omega : d = 0 ∨ d = 1 ∨ d = 2 ∨ d = 3 ∨ d = 4 ∨ d = 5 ∨ d = 6 ∨ d = 7 ∨ d = 8 ∨ d = 9) with rfl | rfl | rfl | rfl | rfl | rfl | rfl | rfl | rfl | rfl <;> rfl
theorem dig_byte {d : Int} (h0 : 0 ≤ d) (h1 : d < 10) : byteOf (.sc (.int .u8 (48 + d))) = UInt8.ofNat (48 + d.toNat) := by
  rcases (by omega : d = 0 ∨ d = 1 ∨ d = 2 ∨ d = 3 ∨ d = 4 ∨ d = 5 ∨ d = 6 ∨ d = 7 ∨ d = 8 ∨ d = 9) with rfl | rfl | rfl | rfl | rfl | rfl | rfl | rfl | rfl | rfl <;> rfl
theorem dig_val {d : Int} (h0 : 0 ≤ d) (h1 : d < 10) : V.sc (.int .u8 (48 + d)) = V.sc (.int .u8 ((UInt8.ofNat (48 + d.toNat)).toNat)) := by
  rcases (by omega : d = 0 ∨ d = 1 ∨ d = 2 ∨ d = 3 ∨ d = 4 ∨ d = 5 ∨ d = 6 ∨ d = 7 ∨ d = 8 ∨ d = 9) with rfl | rfl | rfl | rfl | rfl | rfl | rfl | rfl | rfl | rfl <;> rfl
theorem one_bytes (c : UInt8) : (∃ l : List UInt8, [V.sc (.int .u8 c.toNat)] = l.map fun c => .sc (.int .u8 c.toNat)) = True := by
  simp only [eq_iff_iff, iff_true]; exact ⟨[c], rfl⟩
theorem byteOf_nat (c : UInt8) : byteOf (.sc (.int .u8 c.toNat)) = c := by simp [byteOf]

-- REGION cipherplanref02_Decimal 0: 11 operations, 1 orders, L [], X false, ok true
def o_cipherplanref02_Decimal_0 (f_cipherplanref02_Decimal : Nat) : List AO :=
  [⟨(some 10), .mov (.t 0), none⟩,
    ⟨(some 11), .bin .quo (.t 10) (.c (V.int 10)), none⟩,
    ⟨(some 12), .call f_cipherplanref02_Decimal [(.t 11)], none⟩,
    ⟨(some 13), .mov (.t 0), none⟩,
    ⟨(some 14), .bin .rem (.t 13) (.c (V.int 10)), none⟩,
    ⟨(some 15), .bin .add (.c (V.int 48)) (.t 14), none⟩,
    ⟨(some 16), .convI .u8 (.t 15), none⟩,
    ⟨(some 17), .bslice 1 1 false [(.int .u8 0)] [(0, (.t 16))], none⟩,
    ⟨(some 18), .convBS (.t 17), none⟩,
    ⟨(some 19), .bin .add (.t 12) (.t 18), none⟩,
    ⟨(some 2), .mov (.t 19), none⟩]
def a_cipherplanref02_Decimal_0 : List (List Nat) := [[], [0], [1], [], [3], [4], [5], [6], [7], [2, 8], [9, 2, 0, 1, 2, 3, 4, 5, 6, 7, 8, 9]]
def t_cipherplanref02_Decimal_0 : OT := .one 0 (.one 1 (.one 2 (.one 3 (.one 4 (.one 5 (.one 6 (.or 7 (.one 8 (.one 9 (.one 10 (.done)))) (.done))))))))
def p_cipherplanref02_Decimal_0 (f_cipherplanref02_Decimal : Nat) : OP :=
  .one 0 false [] ⟨(some 10), .mov (.t 0), none⟩
  (.one 1 false [] ⟨(some 11), .bin .quo (.t 10) (.c (V.int 10)), none⟩
  (.one 2 false [] ⟨(some 12), .call f_cipherplanref02_Decimal [(.t 11)], none⟩
  (.one 3 false [] ⟨(some 13), .mov (.t 0), none⟩
  (.one 4 false [] ⟨(some 14), .bin .rem (.t 13) (.c (V.int 10)), none⟩
  (.one 5 false [] ⟨(some 15), .bin .add (.c (V.int 48)) (.t 14), none⟩
  (.one 6 false [] ⟨(some 16), .convI .u8 (.t 15), none⟩
  (.or 7 false [] ⟨(some 17), .bslice 1 1 false [(.int .u8 0)] [(0, (.t 16))], none⟩
  (.one 8 false [7] ⟨(some 18), .convBS (.t 17), none⟩
   (.one 9 false [7, 2] ⟨(some 19), .bin .add (.t 12) (.t 18), none⟩
   (.one 10 false [7, 2] ⟨(some 2), .mov (.t 19), none⟩
   (.done))))
  (.done))))))))
theorem k_cipherplanref02_Decimal_0 (f_cipherplanref02_Decimal : Nat) : okR (o_cipherplanref02_Decimal_0 f_cipherplanref02_Decimal) a_cipherplanref02_Decimal_0 [] t_cipherplanref02_Decimal_0 = true := by kernel_rfl
theorem q_cipherplanref02_Decimal_0 (f_cipherplanref02_Decimal : Nat) : plan (ris (o_cipherplanref02_Decimal_0 f_cipherplanref02_Decimal) a_cipherplanref02_Decimal_0 []) t_cipherplanref02_Decimal_0 = p_cipherplanref02_Decimal_0 f_cipherplanref02_Decimal := by kernel_rfl

def c_cipherplanref02_Decimal (f_cipherplanref02_Decimal : Nat) : AC :=
  seqK [0] (.reg [⟨(some 2), .mov (.c (V.str [])), none⟩])
  (seqK [0] (seqK [0, 4] (.reg [⟨(some 3), .mov (.t 0), none⟩,
       ⟨(some 4), .bin .lss (.t 3) (.c (V.int 10)), none⟩])
    (.cond (.t 4)
      (seqK [2] (.reg [⟨(some 5), .mov (.t 0), none⟩,
          ⟨(some 6), .bin .add (.c (V.int 48)) (.t 5), none⟩,
          ⟨(some 7), .convI .u8 (.t 6), none⟩,
          ⟨(some 8), .bslice 1 1 false [(.int .u8 0)] [(0, (.t 7))], none⟩,
          ⟨(some 9), .convBS (.t 8), none⟩,
          ⟨(some 2), .mov (.t 9), none⟩])
       (.ret))
      (.skip)))
   (seqK [2] (regK [] t_cipherplanref02_Decimal_0 (p_cipherplanref02_Decimal_0 f_cipherplanref02_Decimal) (o_cipherplanref02_Decimal_0 f_cipherplanref02_Decimal) a_cipherplanref02_Decimal_0)
    (.ret)))

def r_cipherplanref02_Decimal : List ARes := [.tmp 2]
def CE_cipherplanref02_Decimal (Γ : Env) (f : Nat) : Prop := ∀ (n : Int) (h0 : 0 ≤ n) (h1 : n ≤ 9223372036854775807), EvN Γ f [V.int n] (V.str (Lib.itoa n))
theorem ev_cipherplanref02_Decimal {Γ : Env} {f : Nat} (h : Has Γ.P f 20 (c_cipherplanref02_Decimal f) r_cipherplanref02_Decimal)  : CE_cipherplanref02_Decimal Γ f := by
  suffices H : ∀ (kk : Nat), ∀ (n : Int) (h0 : 0 ≤ n) (h1 : n ≤ 9223372036854775807), n.toNat < kk → EvN Γ f [V.int n] (V.str (Lib.itoa n)) from fun n h0 h1 => H _ n h0 h1 (Nat.lt_succ_self _)
  intro kk; induction kk with
  | zero => intros; rename_i hk; exact absurd hk (Nat.not_lt_zero _)
  | succ kk ih =>
  intro n h0 h1 hk
  refine evN_of_body h (by simp) (by simp only [V.closed, closedL, V.noSl, noSlL, and_self, and_true, true_and]) (by simp only [V.closed, closedL, V.noSl, noSlL, and_self, and_true, true_and]) fun C hC hm => ?_
  subst hC
  unfold c_cipherplanref02_Decimal
  by_cases hn : n < 10
  · have e1 := dig_wrap h0 hn
    have e2 := dig_val h0 hn
    have e3 := itoa_small h0 hn
    have e4 : decide (n < 10) = true := by simp [hn]
    repeat' (first
    | refine awp_seqR fun K' hK => ?_
    | refine awp_regR fun K' hK => ?_
    | refine awp_seqP 11 (fun _ => true) rfl (k_cipherplanref02_Decimal_0 _) (q_cipherplanref02_Decimal_0 _) fun K' hK => ?_
    | refine awp_regP 11 (fun _ => true) rfl (k_cipherplanref02_Decimal_0 _) (q_cipherplanref02_Decimal_0 _) fun K' hK => ?_
    | refine awp_seqK ?_
    | refine awp_skip ?_
    | refine awp_block ?_
    | ((first | refine awp_cond ⟨_, rfl, fun hc => ?_, fun hc => ?_⟩ | refine awB_t (fun hc => ?_) (fun hc => ?_) | refine awB_f (fun hc => ?_) (fun hc => ?_)) <;> first | exact Bool.noConfusion hc | (exfalso; simp only [decide_eq_true_eq, decide_eq_false_iff_not, List.length_map, Bool.not_eq_true', Bool.not_eq_false'] at hc; omega) | (try simp only [decide_eq_true_eq, decide_eq_false_iff_not, beq_iff_eq, beq_eq_false_iff_ne, ne_eq, Bool.not_eq_true', Bool.not_eq_false'] at hc))
    | refine awp_ret ?_
    | refine awp_exit ?_
    | simp (maxSteps := 1000000) only [go_sem, Nat.reduceAdd, Nat.reduceMul, Nat.reduceEqDiff, Nat.reduceLeDiff, Nat.reduceLT, Nat.reduceSub, Int.reduceEq, Int.reduceBEq, Int.reduceLT, Int.reduceLE, Int.reduceAdd, Int.reduceToNat, reduceIte, reduceCtorEq, e1, e2, e4, one_bytes, byteOf_nat, p_cipherplanref02_Decimal_0]
    | (refine hK _ ?_; clear hK; clear K')
    | refine And.intro ?_ ?_
    | ((first | apply awC_A | apply awCR_A); (focus (simp only [go_sem, Nat.reduceAdd, Nat.reduceMul, Nat.reduceEqDiff, Nat.reduceLeDiff, Nat.reduceLT, Nat.reduceSub, Int.reduceEq, Int.reduceBEq, Int.reduceLT, Int.reduceLE, Int.reduceAdd, Int.reduceToNat, reduceIte, reduceCtorEq, e1, e2, e4, one_bytes, byteOf_nat]; first | exact (ih _ (by first | assumption | omega | simp) (by first | assumption | omega | simp) (by first | assumption | omega | simp)).b)); (focus (simp only [go_sem, Nat.reduceAdd, Nat.reduceMul, Nat.reduceEqDiff, Nat.reduceLeDiff, Nat.reduceLT, Nat.reduceSub, Int.reduceEq, Int.reduceBEq, Int.reduceLT, Int.reduceLE, Int.reduceAdd, Int.reduceToNat, reduceIte, reduceCtorEq, e1, e2, e4, one_bytes, byteOf_nat])))
    | (simp only [List.length_append, List.length_cons, List.length_nil, List.length_map, Nat.reducePow, Nat.reduceAdd]; omega)
    | omega)
    all_goals first | (refine ends_r _ rfl ?_; simp only [go_sem, Nat.reduceAdd, Nat.reduceMul, Nat.reduceEqDiff, Nat.reduceLeDiff, Nat.reduceLT, Nat.reduceSub, Int.reduceEq, Int.reduceBEq, Int.reduceLT, Int.reduceLE, Int.reduceAdd, Int.reduceToNat, reduceIte, reduceCtorEq]; done) | (refine ends_r _ rfl ?_; simp only [go_sem, Nat.reduceAdd, Nat.reduceMul, Nat.reduceEqDiff, Nat.reduceLeDiff, Nat.reduceLT, Nat.reduceSub, Int.reduceEq, Int.reduceBEq, Int.reduceLT, Int.reduceLE, Int.reduceAdd, Int.reduceToNat, reduceIte, reduceCtorEq]; simp [e3, *]; done) | (subst hc; refine ends_r _ rfl ?_; simp only [go_sem, Nat.reduceAdd, Nat.reduceMul, Nat.reduceEqDiff, Nat.reduceLeDiff, Nat.reduceLT, Nat.reduceSub, Int.reduceEq, Int.reduceBEq, Int.reduceLT, Int.reduceLE, Int.reduceAdd, Int.reduceToNat, reduceIte, reduceCtorEq]; simp [e3, *]; done) | trace_state
  · have e0 : n.tdiv 10 = n / 10 := by rw [Int.tdiv_eq_ediv_of_nonneg h0]
    have e00 : n.tmod 10 = n % 10 := by rw [Int.tmod_eq_emod_of_nonneg h0]
    have e1 := dig_wrap (d := n % 10) (by omega) (by omega)
    have e2 := dig_val (d := n % 10) (by omega) (by omega)
    have e3 := itoa_big (n := n) (by omega)
    have e4 : decide (n < 10) = false := by simp [hn]
    have e5 : IntKind.i64.wrap (n / 10) = n / 10 := wrap_id (by omega) (by omega)
    have hl := Lib.itoa_length_le (n / 10) (by omega) (by omega)
    repeat' (first
    | refine awp_seqR fun K' hK => ?_
    | refine awp_regR fun K' hK => ?_
    | refine awp_seqP 11 (fun _ => true) rfl (k_cipherplanref02_Decimal_0 _) (q_cipherplanref02_Decimal_0 _) fun K' hK => ?_
    | refine awp_regP 11 (fun _ => true) rfl (k_cipherplanref02_Decimal_0 _) (q_cipherplanref02_Decimal_0 _) fun K' hK => ?_
    | refine awp_seqK ?_
    | refine awp_skip ?_
    | refine awp_block ?_
    | ((first | refine awp_cond ⟨_, rfl, fun hc => ?_, fun hc => ?_⟩ | refine awB_t (fun hc => ?_) (fun hc => ?_) | refine awB_f (fun hc => ?_) (fun hc => ?_)) <;> first | exact Bool.noConfusion hc | (exfalso; simp only [decide_eq_true_eq, decide_eq_false_iff_not, List.length_map, Bool.not_eq_true', Bool.not_eq_false'] at hc; omega) | (try simp only [decide_eq_true_eq, decide_eq_false_iff_not, beq_iff_eq, beq_eq_false_iff_ne, ne_eq, Bool.not_eq_true', Bool.not_eq_false'] at hc))
    | refine awp_ret ?_
    | refine awp_exit ?_
    | simp (maxSteps := 1000000) only [go_sem, Nat.reduceAdd, Nat.reduceMul, Nat.reduceEqDiff, Nat.reduceLeDiff, Nat.reduceLT, Nat.reduceSub, Int.reduceEq, Int.reduceBEq, Int.reduceLT, Int.reduceLE, Int.reduceAdd, Int.reduceToNat, reduceIte, reduceCtorEq, e0, e00, e1, e2, e4, e5, one_bytes, byteOf_nat, p_cipherplanref02_Decimal_0]
    | (refine hK _ ?_; clear hK; clear K')
    | refine And.intro ?_ ?_
    | ((first | apply awC_A | apply awCR_A); (focus (simp only [go_sem, Nat.reduceAdd, Nat.reduceMul, Nat.reduceEqDiff, Nat.reduceLeDiff, Nat.reduceLT, Nat.reduceSub, Int.reduceEq, Int.reduceBEq, Int.reduceLT, Int.reduceLE, Int.reduceAdd, Int.reduceToNat, reduceIte, reduceCtorEq, e0, e00, e1, e2, e4, e5, one_bytes, byteOf_nat]; first | exact (ih _ (by first | assumption | omega | simp) (by first | assumption | omega | simp) (by first | assumption | omega | simp)).b)); (focus (simp only [go_sem, Nat.reduceAdd, Nat.reduceMul, Nat.reduceEqDiff, Nat.reduceLeDiff, Nat.reduceLT, Nat.reduceSub, Int.reduceEq, Int.reduceBEq, Int.reduceLT, Int.reduceLE, Int.reduceAdd, Int.reduceToNat, reduceIte, reduceCtorEq, e0, e00, e1, e2, e4, e5, one_bytes, byteOf_nat])))
    | (simp only [List.length_append, List.length_cons, List.length_nil, List.length_map, Nat.reducePow, Nat.reduceAdd]; omega)
    | omega)
    all_goals first | (refine ends_r _ rfl ?_; simp only [go_sem, Nat.reduceAdd, Nat.reduceMul, Nat.reduceEqDiff, Nat.reduceLeDiff, Nat.reduceLT, Nat.reduceSub, Int.reduceEq, Int.reduceBEq, Int.reduceLT, Int.reduceLE, Int.reduceAdd, Int.reduceToNat, reduceIte, reduceCtorEq]; done) | (refine ends_r _ rfl ?_; simp only [go_sem, Nat.reduceAdd, Nat.reduceMul, Nat.reduceEqDiff, Nat.reduceLeDiff, Nat.reduceLT, Nat.reduceSub, Int.reduceEq, Int.reduceBEq, Int.reduceLT, Int.reduceLE, Int.reduceAdd, Int.reduceToNat, reduceIte, reduceCtorEq]; simp [e3, *]; done) | (subst hc; refine ends_r _ rfl ?_; simp only [go_sem, Nat.reduceAdd, Nat.reduceMul, Nat.reduceEqDiff, Nat.reduceLeDiff, Nat.reduceLT, Nat.reduceSub, Int.reduceEq, Int.reduceBEq, Int.reduceLT, Int.reduceLE, Int.reduceAdd, Int.reduceToNat, reduceIte, reduceCtorEq]; simp [e3, *]; done) | trace_state

theorem wrap_u8 {n : Int} (h0 : 0 ≤ n) (h1 : n < 256) : IntKind.u8.wrap n = n := by
  have e1 : IntKind.u8.bits = 8 := rfl
  have e2 : IntKind.u8.signed = false := rfl
  simp only [IntKind.wrap, e1, e2, Bool.false_and]
  simp; omega

def numL (acc : Int) : List UInt8 → Option Int
  | [] => some acc
  | c :: r => if c.toNat < 48 ∨ 57 < c.toNat then none else numL (acc * 10 + ((c.toNat : Int) - 48)) r
def numR (s : List UInt8) : Int × Bool :=
  if s = [] ∨ 15 < s.length ∨ (1 < s.length ∧ s[0]? = some 48) then (0, false)
  else match numL 0 s with | none => (0, false) | some n => (n, true)
def numV (p : Int × Bool) : V := .tup [V.int p.1, V.bool p.2]

theorem pow_le {k : Nat} (h : k ≤ 15) : (10 : Nat) ^ k ≤ 1000000000000000 := Nat.le_trans (Nat.pow_le_pow_right (by omega) h) (by omega)

theorem u8_ofNat_eq (c : UInt8) (h : (c.toNat : Int) = 48) : c = 48 := by
  apply UInt8.toNat_inj.1; simp; omega

def c_cipherplanref02_Number : AC :=
  seqK [0] (.reg [⟨(some 2), .mov (.c (V.int 0)), none⟩,
     ⟨(some 3), .mov (.c (V.bool false)), none⟩])
  (seqK [0] (seqK [0, 23] (.reg [⟨(some 6), .mov (.t 0), none⟩,
       ⟨(some 7), .lenS (.t 6), none⟩,
       ⟨(some 8), .bin .eql (.t 7) (.c (V.int 0)), none⟩,
       ⟨(some 9), .mov (.t 8), none⟩,
       ⟨(some 10), .mov (.t 0), (some (9, false))⟩,
       ⟨(some 11), .lenS (.t 10), (some (9, false))⟩,
       ⟨(some 12), .bin .gtr (.t 11) (.c (V.int 15)), (some (9, false))⟩,
       ⟨(some 13), .pick (.t 9) (.c (V.bool true)) (.t 12), none⟩,
       ⟨(some 14), .mov (.t 13), none⟩,
       ⟨(some 15), .mov (.t 0), (some (14, false))⟩,
       ⟨(some 16), .lenS (.t 15), (some (14, false))⟩,
       ⟨(some 17), .bin .gtr (.t 16) (.c (V.int 1)), (some (14, false))⟩,
       ⟨(some 18), .mov (.t 17), (some (14, false))⟩,
       ⟨(some 19), .mov (.t 0), (some (18, true))⟩,
       ⟨(some 20), .idxS (.t 19) (.c (V.int 0)), (some (18, true))⟩,
       ⟨(some 21), .bin .eql (.t 20) (.c (.sc (.int .u8 48))), (some (18, true))⟩,
       ⟨(some 22), .pick (.t 18) (.t 21) (.c (V.bool false)), (some (14, false))⟩,
       ⟨(some 23), .pick (.t 14) (.c (V.bool true)) (.t 22), none⟩])
    (.cond (.t 23)
      (seqK [2, 3] (.reg [⟨(some 2), .mov (.c (V.int 0)), none⟩,
          ⟨(some 3), .mov (.c (V.bool false)), none⟩])
       (.ret))
      (.skip)))
   (seqK [0, 4] (.reg [⟨(some 4), .mov (.c (V.int 0)), none⟩])
    (seqK [4] (seqK [0, 4, 5] (.reg [⟨(some 5), .mov (.c (V.int 0)), none⟩])
      (.block 0 (loopK [0, 4, 5] (seqK [0, 4, 5] (seqK [0, 4, 5, 27] (.reg [⟨(some 24), .mov (.t 5), none⟩,
             ⟨(some 25), .mov (.t 0), none⟩,
             ⟨(some 26), .lenS (.t 25), none⟩,
             ⟨(some 27), .bin .lss (.t 24) (.t 26), none⟩])
          (.cond (.t 27)
            (.skip)
            (.exit 0)))
         (seqK [0, 4, 5] (.block 1 (seqK [0, 4, 5] (seqK [0, 4, 5, 39] (.reg [⟨(some 30), .mov (.t 0), none⟩,
                ⟨(some 31), .mov (.t 5), none⟩,
                ⟨(some 32), .idxS (.t 30) (.t 31), none⟩,
                ⟨(some 33), .bin .lss (.t 32) (.c (.sc (.int .u8 48))), none⟩,
                ⟨(some 34), .mov (.t 33), none⟩,
                ⟨(some 35), .mov (.t 0), (some (34, false))⟩,
                ⟨(some 36), .mov (.t 5), (some (34, false))⟩,
                ⟨(some 37), .idxS (.t 35) (.t 36), (some (34, false))⟩,
                ⟨(some 38), .bin .gtr (.t 37) (.c (.sc (.int .u8 57))), (some (34, false))⟩,
                ⟨(some 39), .pick (.t 34) (.c (V.bool true)) (.t 38), none⟩])
             (.cond (.t 39)
               (seqK [2, 3] (.reg [⟨(some 2), .mov (.c (V.int 0)), none⟩,
                   ⟨(some 3), .mov (.c (V.bool false)), none⟩])
                (.ret))
               (.skip)))
            (.reg [⟨(some 40), .mov (.t 4), none⟩,
               ⟨(some 41), .bin .mul (.t 40) (.c (V.int 10)), none⟩,
               ⟨(some 42), .mov (.t 0), none⟩,
               ⟨(some 43), .mov (.t 5), none⟩,
               ⟨(some 44), .idxS (.t 42) (.t 43), none⟩,
               ⟨(some 45), .bin .sub (.t 44) (.c (.sc (.int .u8 48))), none⟩,
               ⟨(some 46), .convI .i64 (.t 45), none⟩,
               ⟨(some 47), .bin .add (.t 41) (.t 46), none⟩,
               ⟨(some 4), .mov (.t 47), none⟩])))
          (.reg [⟨(some 28), .mov (.t 5), none⟩,
             ⟨(some 29), .bin .add (.t 28) (.c (V.int 1)), none⟩,
             ⟨(some 5), .mov (.t 29), none⟩]))))))
     (seqK [2, 3] (.reg [⟨(some 48), .mov (.t 4), none⟩,
         ⟨(some 2), .mov (.t 48), none⟩,
         ⟨(some 3), .mov (.c (V.bool true)), none⟩])
      (.ret)))))

def r_cipherplanref02_Number : List ARes := [.tmp 2, .tmp 3]
def CE_cipherplanref02_Number (Γ : Env) (f : Nat) : Prop := ∀ (s : List UInt8), EvN Γ f [V.str s] (numV (numR s))
theorem ev_cipherplanref02_Number {Γ : Env} {f : Nat} (h : Has Γ.P f 49 c_cipherplanref02_Number r_cipherplanref02_Number)  : CE_cipherplanref02_Number Γ f := by
  intro s
  refine evN_of_body h (by simp) (by simp only [numV, V.closed, closedL, V.noSl, noSlL, and_self]) (by simp only [numV, V.closed, closedL, V.noSl, noSlL, and_self]) fun C hC hm => ?_
  subst hC
  unfold c_cipherplanref02_Number
  by_cases hbad : s = [] ∨ 15 < s.length ∨ (1 < s.length ∧ s[0]? = some 48)
  · have hr : numR s = (0, false) := by rw [numR, if_pos hbad]
    rw [hr]
    rcases s with _ | ⟨c, r⟩
    · repeat' (first
    | refine awp_seqR fun K' hK => ?_
    | refine awp_regR fun K' hK => ?_
    | refine awp_seqK ?_
    | refine awp_skip ?_
    | refine awp_block ?_
    | ((first | refine awp_cond ⟨_, rfl, fun hc => ?_, fun hc => ?_⟩ | refine awB_t (fun hc => ?_) (fun hc => ?_) | refine awB_f (fun hc => ?_) (fun hc => ?_)) <;> first | exact Bool.noConfusion hc | (exfalso; simp only [decide_eq_true_eq, decide_eq_false_iff_not, List.length_map, Bool.not_eq_true', Bool.not_eq_false'] at hc; omega) | (try simp only [decide_eq_true_eq, decide_eq_false_iff_not, beq_iff_eq, beq_eq_false_iff_ne, ne_eq, Bool.not_eq_true', Bool.not_eq_false'] at hc))
    | refine awp_ret ?_
    | refine awp_exit ?_
    | simp (maxSteps := 1000000) only [go_sem, Nat.reduceAdd, Nat.reduceMul, Nat.reduceEqDiff, Nat.reduceLeDiff, Nat.reduceLT, Nat.reduceSub, Int.reduceEq, Int.reduceBEq, Int.reduceLT, Int.reduceLE, Int.reduceAdd, Int.reduceToNat, reduceIte, reduceCtorEq]
    | (refine hK _ ?_; clear hK; clear K')
    | refine And.intro ?_ ?_
    | (simp only [List.length_append, List.length_cons, List.length_nil, List.length_map, Nat.reducePow, Nat.reduceAdd]; omega)
    | omega)
      all_goals first | (simp only [numV]; refine ends_r _ rfl ?_; simp only [go_sem, Nat.reduceAdd, Nat.reduceMul, Nat.reduceEqDiff, Nat.reduceLeDiff, Nat.reduceLT, Nat.reduceSub, Int.reduceEq, Int.reduceBEq, Int.reduceLT, Int.reduceLE, Int.reduceAdd, Int.reduceToNat, reduceIte, reduceCtorEq]; done) | trace_state
    · have hl3 : ((((r.length + 1 : Nat) : Int)) == 0) = false := by simp; omega
      by_cases hl : 15 < (c :: r).length
      · have hl4 : decide ((((r.length + 1 : Nat) : Int)) > 15) = true := by simp at hl ⊢; omega
        repeat' (first
    | refine awp_seqR fun K' hK => ?_
    | refine awp_regR fun K' hK => ?_
    | refine awp_seqK ?_
    | refine awp_skip ?_
    | refine awp_block ?_
    | ((first | refine awp_cond ⟨_, rfl, fun hc => ?_, fun hc => ?_⟩ | refine awB_t (fun hc => ?_) (fun hc => ?_) | refine awB_f (fun hc => ?_) (fun hc => ?_)) <;> first | exact Bool.noConfusion hc | (exfalso; simp only [decide_eq_true_eq, decide_eq_false_iff_not, List.length_map, Bool.not_eq_true', Bool.not_eq_false'] at hc; omega) | (try simp only [decide_eq_true_eq, decide_eq_false_iff_not, beq_iff_eq, beq_eq_false_iff_ne, ne_eq, Bool.not_eq_true', Bool.not_eq_false'] at hc))
    | refine awp_ret ?_
    | refine awp_exit ?_
    | simp (maxSteps := 1000000) only [go_sem, Nat.reduceAdd, Nat.reduceMul, Nat.reduceEqDiff, Nat.reduceLeDiff, Nat.reduceLT, Nat.reduceSub, Int.reduceEq, Int.reduceBEq, Int.reduceLT, Int.reduceLE, Int.reduceAdd, Int.reduceToNat, reduceIte, reduceCtorEq, hl3, hl4]
    | (refine hK _ ?_; clear hK; clear K')
    | refine And.intro ?_ ?_
    | (simp only [List.length_append, List.length_cons, List.length_nil, List.length_map, Nat.reducePow, Nat.reduceAdd]; omega)
    | omega)
        all_goals first | (simp only [numV]; refine ends_r _ rfl ?_; simp only [go_sem, Nat.reduceAdd, Nat.reduceMul, Nat.reduceEqDiff, Nat.reduceLeDiff, Nat.reduceLT, Nat.reduceSub, Int.reduceEq, Int.reduceBEq, Int.reduceLT, Int.reduceLE, Int.reduceAdd, Int.reduceToNat, reduceIte, reduceCtorEq]; done) | trace_state
      · have hc : 1 < (c :: r).length ∧ c = 48 := by
          rcases hbad with h | h | h
          · simp at h
          · omega
          · simpa using h
        obtain ⟨hc1, rfl⟩ := hc
        have hl4 : decide ((((r.length + 1 : Nat) : Int)) > 15) = false := by simp at hl ⊢; omega
        have hl5 : decide ((((r.length + 1 : Nat) : Int)) > 1) = true := by simp at hc1 ⊢; omega
        have hl6 : ((((48 : UInt8).toNat : Int)) == 48) = true := rfl
        repeat' (first
    | refine awp_seqR fun K' hK => ?_
    | refine awp_regR fun K' hK => ?_
    | refine awp_seqK ?_
    | refine awp_skip ?_
    | refine awp_block ?_
    | ((first | refine awp_cond ⟨_, rfl, fun hc => ?_, fun hc => ?_⟩ | refine awB_t (fun hc => ?_) (fun hc => ?_) | refine awB_f (fun hc => ?_) (fun hc => ?_)) <;> first | exact Bool.noConfusion hc | (exfalso; simp only [decide_eq_true_eq, decide_eq_false_iff_not, List.length_map, Bool.not_eq_true', Bool.not_eq_false'] at hc; omega) | (try simp only [decide_eq_true_eq, decide_eq_false_iff_not, beq_iff_eq, beq_eq_false_iff_ne, ne_eq, Bool.not_eq_true', Bool.not_eq_false'] at hc))
    | refine awp_ret ?_
    | refine awp_exit ?_
    | simp (maxSteps := 1000000) only [go_sem, Nat.reduceAdd, Nat.reduceMul, Nat.reduceEqDiff, Nat.reduceLeDiff, Nat.reduceLT, Nat.reduceSub, Int.reduceEq, Int.reduceBEq, Int.reduceLT, Int.reduceLE, Int.reduceAdd, Int.reduceToNat, reduceIte, reduceCtorEq, hl3, hl4, hl5, hl6]
    | (refine hK _ ?_; clear hK; clear K')
    | refine And.intro ?_ ?_
    | (simp only [List.length_append, List.length_cons, List.length_nil, List.length_map, Nat.reducePow, Nat.reduceAdd]; omega)
    | omega)
        all_goals first
          | (exfalso; exact hc rfl)
          | (simp only [numV]; refine ends_r _ rfl ?_; simp only [go_sem, Nat.reduceAdd, Nat.reduceMul, Nat.reduceEqDiff, Nat.reduceLeDiff, Nat.reduceLT, Nat.reduceSub, Int.reduceEq, Int.reduceBEq, Int.reduceLT, Int.reduceLE, Int.reduceAdd, Int.reduceToNat, reduceIte, reduceCtorEq])
  · obtain ⟨c0, r0, hs0⟩ : ∃ c r, s = c :: r := by
      rcases s with _ | ⟨c, r⟩
      · simp at hbad
      · exact ⟨_, _, rfl⟩
    have hl3 : ((s.length : Int) == 0) = false := by rw [hs0]; simp; omega
    have hl15 : s.length ≤ 15 := by omega
    have hl4 : decide ((s.length : Int) > 15) = false := by simp; omega
    have hg0 : s[0]? = some c0 := by rw [hs0]; rfl
    have hl6 : 1 < s.length → (c0.toNat : Int) ≠ 48 := fun h1 h => hbad (.inr (.inr ⟨h1, by rw [hg0, u8_ofNat_eq c0 h]⟩))
    have hr : numR s = (match numL 0 s with | none => (0, false) | some n => (n, true)) := by rw [numR, if_neg hbad]
    rw [hr]
    repeat' (first
    | refine awp_seqR fun K' hK => ?_
    | refine awp_regR fun K' hK => ?_
    | refine awp_seqK ?_
    | refine awp_skip ?_
    | refine awp_block ?_
    | ((first | refine awp_cond ⟨_, rfl, fun hc => ?_, fun hc => ?_⟩ | refine awB_t (fun hc => ?_) (fun hc => ?_) | refine awB_f (fun hc => ?_) (fun hc => ?_)) <;> first | exact Bool.noConfusion hc | (exfalso; simp only [decide_eq_true_eq, decide_eq_false_iff_not, List.length_map, Bool.not_eq_true', Bool.not_eq_false'] at hc; omega) | (try simp only [decide_eq_true_eq, decide_eq_false_iff_not, beq_iff_eq, beq_eq_false_iff_ne, ne_eq, Bool.not_eq_true', Bool.not_eq_false'] at hc))
    | refine awp_ret ?_
    | refine awp_exit ?_
    | simp (maxSteps := 1000000) only [go_sem, Nat.reduceAdd, Nat.reduceMul, Nat.reduceEqDiff, Nat.reduceLeDiff, Nat.reduceLT, Nat.reduceSub, Int.reduceEq, Int.reduceBEq, Int.reduceLT, Int.reduceLE, Int.reduceAdd, Int.reduceToNat, reduceIte, reduceCtorEq, hl3, hl4, hg0, Int.toNat_zero]
    | (refine hK _ ?_; clear hK; clear K')
    | refine And.intro ?_ ?_
    | (simp only [List.length_append, List.length_cons, List.length_nil, List.length_map, Nat.reducePow, Nat.reduceAdd]; omega)
    | omega)
    all_goals first
      | (exfalso; have := hl6 (by omega); omega)
      | skip
    all_goals
      refine awp_loopP (ι := Nat × Int) (fun p => p.1 ≤ s.length ∧ 0 ≤ p.2 ∧ p.2 < ((10 ^ p.1 : Nat) : Int) ∧ numL p.2 (s.drop p.1) = numL 0 s) (fun p => [(5, V.int p.1), (4, V.int p.2)]) (fun p => s.length - p.1) (0, 0) (by omega) ⟨by simp, by simp, by simp, by simp⟩ (by repeat' first | exact ltO_none | refine ltO_upd (by omega) (by simp only [Ob.lt, ltL, V.lt, and_self, and_true]; try omega) ?_) (fun i hi => by simp only [ovT, lookD, Nat.reduceEqDiff, reduceIte]; (repeat' first | exact ltT_nil | refine ltT_cons ?_ ?_ | simp only [V.lt, ltL, and_self, and_true] | omega)) (by simp only [Nat.reduceAdd, ovT, lookD, Nat.reduceEqDiff, reduceIte, eqT_cons, eqT_nil, renI, u32, u33, u34, u35, u36, u37, u38, u39, and_self, and_true, true_and]; rfl) fun p hk K' hL => ?_
      obtain ⟨k, n⟩ := p
      obtain ⟨hk, hn0, hn1, hinv⟩ := hk
      simp only [ovT, lookD, Nat.reduceEqDiff, reduceIte] at *
    all_goals
      rcases hd : s.drop k with _ | ⟨c, r⟩
      · have hk' := drop_nil hd
        rw [hd] at hinv
        repeat' (first
    | refine awp_seqR fun K' hK => ?_
    | refine awp_regR fun K' hK => ?_
    | refine awp_seqK ?_
    | refine awp_skip ?_
    | refine awp_block ?_
    | ((first | refine awp_cond ⟨_, rfl, fun hc => ?_, fun hc => ?_⟩ | refine awB_t (fun hc => ?_) (fun hc => ?_) | refine awB_f (fun hc => ?_) (fun hc => ?_)) <;> first | exact Bool.noConfusion hc | (exfalso; simp only [decide_eq_true_eq, decide_eq_false_iff_not, List.length_map, Bool.not_eq_true', Bool.not_eq_false'] at hc; omega) | (try simp only [decide_eq_true_eq, decide_eq_false_iff_not, beq_iff_eq, beq_eq_false_iff_ne, ne_eq, Bool.not_eq_true', Bool.not_eq_false'] at hc))
    | refine awp_ret ?_
    | refine awp_exit ?_
    | simp (maxSteps := 1000000) only [go_sem, Nat.reduceAdd, Nat.reduceMul, Nat.reduceEqDiff, Nat.reduceLeDiff, Nat.reduceLT, Nat.reduceSub, Int.reduceEq, Int.reduceBEq, Int.reduceLT, Int.reduceLE, Int.reduceAdd, Int.reduceToNat, reduceIte, reduceCtorEq]
    | (refine hK _ ?_; clear hK; clear K')
    | refine And.intro ?_ ?_
    | (simp only [List.length_append, List.length_cons, List.length_nil, List.length_map, Nat.reducePow, Nat.reduceAdd]; omega)
    | omega)
        rw [← hinv]
        simp only [numL, numV]
        refine ends_r _ rfl ?_; simp only [go_sem, Nat.reduceAdd, Nat.reduceMul, Nat.reduceEqDiff, Nat.reduceLeDiff, Nat.reduceLT, Nat.reduceSub, Int.reduceEq, Int.reduceBEq, Int.reduceLT, Int.reduceLE, Int.reduceAdd, Int.reduceToNat, reduceIte, reduceCtorEq]
      · obtain ⟨hk', hget, hrd⟩ := drop_cons hd
        rw [hd] at hinv
        have hw := wrap_succ (k := k) (by omega)
        have hp := pow_le (k := k) (by omega)
        have hps : (10 : Nat) ^ (k + 1) = 10 ^ k * 10 := Nat.pow_succ ..
        by_cases hdig : 48 ≤ c.toNat ∧ c.toNat ≤ 57
        · have e1 : IntKind.i64.wrap (n * 10) = n * 10 := wrap_id (by omega) (by omega)
          have e2 : IntKind.u8.wrap ((c.toNat : Int) - 48) = (c.toNat : Int) - 48 := wrap_u8 (by omega) (by omega)
          have e3 : IntKind.i64.wrap ((c.toNat : Int) - 48) = (c.toNat : Int) - 48 := wrap_id (by omega) (by omega)
          have e4 : IntKind.i64.wrap (n * 10 + ((c.toNat : Int) - 48)) = n * 10 + ((c.toNat : Int) - 48) := wrap_id (by omega) (by omega)
          have e5 : decide ((c.toNat : Int) < 48) = false := by simp; omega
          have e6 : decide ((c.toNat : Int) > 57) = false := by simp; omega
          repeat' (first
    | refine awp_seqR fun K' hK => ?_
    | refine awp_regR fun K' hK => ?_
    | refine awp_seqK ?_
    | refine awp_skip ?_
    | refine awp_block ?_
    | ((first | refine awp_cond ⟨_, rfl, fun hc => ?_, fun hc => ?_⟩ | refine awB_t (fun hc => ?_) (fun hc => ?_) | refine awB_f (fun hc => ?_) (fun hc => ?_)) <;> first | exact Bool.noConfusion hc | (exfalso; simp only [decide_eq_true_eq, decide_eq_false_iff_not, List.length_map, Bool.not_eq_true', Bool.not_eq_false'] at hc; omega) | (try simp only [decide_eq_true_eq, decide_eq_false_iff_not, beq_iff_eq, beq_eq_false_iff_ne, ne_eq, Bool.not_eq_true', Bool.not_eq_false'] at hc))
    | refine awp_ret ?_
    | refine awp_exit ?_
    | simp (maxSteps := 1000000) only [go_sem, Nat.reduceAdd, Nat.reduceMul, Nat.reduceEqDiff, Nat.reduceLeDiff, Nat.reduceLT, Nat.reduceSub, Int.reduceEq, Int.reduceBEq, Int.reduceLT, Int.reduceLE, Int.reduceAdd, Int.reduceToNat, reduceIte, reduceCtorEq, Int.toNat_natCast, hget, hw, e1, e2, e3, e4, e5, e6]
    | (refine hK _ ?_; clear hK; clear K')
    | refine And.intro ?_ ?_
    | (simp only [List.length_append, List.length_cons, List.length_nil, List.length_map, Nat.reducePow, Nat.reduceAdd]; omega)
    | omega)
          refine hL _ (k + 1, n * 10 + ((c.toNat : Int) - 48)) (by simp only [Nat.reduceAdd, ovT, lookD, Nat.reduceEqDiff, reduceIte, eqT_cons, eqT_nil, renI, u32, u33, u34, u35, u36, u37, u38, u39, and_self, and_true, true_and]) ⟨by omega, by omega, ?_, ?_⟩ (by omega) (fun a ha => by simp only [u32, u33, u34, u35, u36, u37, u38, u39]; repeat rw [if_neg (by omega)])
          · show n * 10 + ((c.toNat : Int) - 48) < ((10 ^ (k + 1) : Nat) : Int)
            rw [hps]; omega
          · show numL (n * 10 + ((c.toNat : Int) - 48)) (s.drop (k + 1)) = numL 0 s
            rw [hrd, ← hinv, numL, if_neg (by omega)]
        · have hno : numL n (c :: r) = none := by rw [numL, if_pos (by omega)]
          rw [hno] at hinv
          by_cases e5 : c.toNat < 48
          · have e6 : decide ((c.toNat : Int) < 48) = true := by simp; omega
            repeat' (first
    | refine awp_seqR fun K' hK => ?_
    | refine awp_regR fun K' hK => ?_
    | refine awp_seqK ?_
    | refine awp_skip ?_
    | refine awp_block ?_
    | ((first | refine awp_cond ⟨_, rfl, fun hc => ?_, fun hc => ?_⟩ | refine awB_t (fun hc => ?_) (fun hc => ?_) | refine awB_f (fun hc => ?_) (fun hc => ?_)) <;> first | exact Bool.noConfusion hc | (exfalso; simp only [decide_eq_true_eq, decide_eq_false_iff_not, List.length_map, Bool.not_eq_true', Bool.not_eq_false'] at hc; omega) | (try simp only [decide_eq_true_eq, decide_eq_false_iff_not, beq_iff_eq, beq_eq_false_iff_ne, ne_eq, Bool.not_eq_true', Bool.not_eq_false'] at hc))
    | refine awp_ret ?_
    | refine awp_exit ?_
    | simp (maxSteps := 1000000) only [go_sem, Nat.reduceAdd, Nat.reduceMul, Nat.reduceEqDiff, Nat.reduceLeDiff, Nat.reduceLT, Nat.reduceSub, Int.reduceEq, Int.reduceBEq, Int.reduceLT, Int.reduceLE, Int.reduceAdd, Int.reduceToNat, reduceIte, reduceCtorEq, Int.toNat_natCast, hget, hw, e6]
    | (refine hK _ ?_; clear hK; clear K')
    | refine And.intro ?_ ?_
    | (simp only [List.length_append, List.length_cons, List.length_nil, List.length_map, Nat.reducePow, Nat.reduceAdd]; omega)
    | omega)
            all_goals (rw [← hinv]; simp only [numV]; refine ends_r _ rfl ?_; simp only [go_sem, Nat.reduceAdd, Nat.reduceMul, Nat.reduceEqDiff, Nat.reduceLeDiff, Nat.reduceLT, Nat.reduceSub, Int.reduceEq, Int.reduceBEq, Int.reduceLT, Int.reduceLE, Int.reduceAdd, Int.reduceToNat, reduceIte, reduceCtorEq])
          · have e6 : decide ((c.toNat : Int) < 48) = false := by simp; omega
            have e7 : decide ((c.toNat : Int) > 57) = true := by simp; omega
            repeat' (first
    | refine awp_seqR fun K' hK => ?_
    | refine awp_regR fun K' hK => ?_
    | refine awp_seqK ?_
    | refine awp_skip ?_
    | refine awp_block ?_
    | ((first | refine awp_cond ⟨_, rfl, fun hc => ?_, fun hc => ?_⟩ | refine awB_t (fun hc => ?_) (fun hc => ?_) | refine awB_f (fun hc => ?_) (fun hc => ?_)) <;> first | exact Bool.noConfusion hc | (exfalso; simp only [decide_eq_true_eq, decide_eq_false_iff_not, List.length_map, Bool.not_eq_true', Bool.not_eq_false'] at hc; omega) | (try simp only [decide_eq_true_eq, decide_eq_false_iff_not, beq_iff_eq, beq_eq_false_iff_ne, ne_eq, Bool.not_eq_true', Bool.not_eq_false'] at hc))
    | refine awp_ret ?_
    | refine awp_exit ?_
    | simp (maxSteps := 1000000) only [go_sem, Nat.reduceAdd, Nat.reduceMul, Nat.reduceEqDiff, Nat.reduceLeDiff, Nat.reduceLT, Nat.reduceSub, Int.reduceEq, Int.reduceBEq, Int.reduceLT, Int.reduceLE, Int.reduceAdd, Int.reduceToNat, reduceIte, reduceCtorEq, Int.toNat_natCast, hget, hw, e6, e7]
    | (refine hK _ ?_; clear hK; clear K')
    | refine And.intro ?_ ?_
    | (simp only [List.length_append, List.length_cons, List.length_nil, List.length_map, Nat.reducePow, Nat.reduceAdd]; omega)
    | omega)
            all_goals (rw [← hinv]; simp only [numV]; refine ends_r _ rfl ?_; simp only [go_sem, Nat.reduceAdd, Nat.reduceMul, Nat.reduceEqDiff, Nat.reduceLeDiff, Nat.reduceLT, Nat.reduceSub, Int.reduceEq, Int.reduceBEq, Int.reduceLT, Int.reduceLE, Int.reduceAdd, Int.reduceToNat, reduceIte, reduceCtorEq])

theorem ref_text (a b : Int) (h : 0 < strengthS a b) (hb : b ≠ 0) : textS a b = (crowAt a).name ++ [45] ++ Lib.itoa b := by
  rw [textS, if_pos h, if_neg hb]

-- REGION cipherplanref02_Text 0: 9 operations, 1 orders, L [], X false, ok true
def o_cipherplanref02_Text_0 (f_cipherplanref02_Name f_cipherplanref02_Decimal : Nat) : List AO :=
  [⟨(some 12), .faddr 0 (.t 1), none⟩,
    ⟨(some 13), .load false 1 (.t 12), none⟩,
    ⟨(some 14), .call f_cipherplanref02_Name [(.t 13)], none⟩,
    ⟨(some 15), .bin .add (.t 14) (.c (V.str [45])), none⟩,
    ⟨(some 16), .faddr 1 (.t 1), none⟩,
    ⟨(some 17), .load false 1 (.t 16), none⟩,
    ⟨(some 18), .call f_cipherplanref02_Decimal [(.t 17)], none⟩,
    ⟨(some 19), .bin .add (.t 15) (.t 18), none⟩,
    ⟨(some 2), .mov (.t 19), none⟩]
def a_cipherplanref02_Text_0 : List (List Nat) := [[], [0], [1], [2], [], [4], [5, 2], [3, 6], [7, 6, 0, 1, 2, 3, 4, 5, 6, 7]]
def t_cipherplanref02_Text_0 : OT := .one 0 (.one 1 (.one 4 (.one 5 (.or 2 (.one 3 (.one 6 (.one 7 (.one 8 (.done))))) (.done)))))
def p_cipherplanref02_Text_0 (f_cipherplanref02_Name f_cipherplanref02_Decimal : Nat) : OP :=
  .one 0 false [] ⟨(some 12), .faddr 0 (.t 1), none⟩
  (.one 1 false [] ⟨(some 13), .load false 1 (.t 12), none⟩
  (.one 4 false [] ⟨(some 16), .faddr 1 (.t 1), none⟩
  (.one 5 false [] ⟨(some 17), .load false 1 (.t 16), none⟩
  (.or 2 false [] ⟨(some 14), .call f_cipherplanref02_Name [(.t 13)], none⟩
  (.one 3 false [2] ⟨(some 15), .bin .add (.t 14) (.c (V.str [45])), none⟩
   (.one 6 false [] ⟨(some 18), .call f_cipherplanref02_Decimal [(.t 17)], none⟩
   (.one 7 false [6, 2] ⟨(some 19), .bin .add (.t 15) (.t 18), none⟩
   (.one 8 false [6, 2] ⟨(some 2), .mov (.t 19), none⟩
   (.done)))))
  (.done)))))
theorem k_cipherplanref02_Text_0 (f_cipherplanref02_Name f_cipherplanref02_Decimal : Nat) : okR (o_cipherplanref02_Text_0 f_cipherplanref02_Name f_cipherplanref02_Decimal) a_cipherplanref02_Text_0 [] t_cipherplanref02_Text_0 = true := by kernel_rfl
theorem q_cipherplanref02_Text_0 (f_cipherplanref02_Name f_cipherplanref02_Decimal : Nat) : plan (ris (o_cipherplanref02_Text_0 f_cipherplanref02_Name f_cipherplanref02_Decimal) a_cipherplanref02_Text_0 []) t_cipherplanref02_Text_0 = p_cipherplanref02_Text_0 f_cipherplanref02_Name f_cipherplanref02_Decimal := by kernel_rfl

def c_cipherplanref02_Text (f_cipherplanref02_Valid f_cipherplanref02_Name f_cipherplanref02_Decimal : Nat) : AC :=
  seqK [1] (.reg [⟨(some 1), .box true 2 (.t 0), none⟩,
     ⟨(some 2), .mov (.c (V.str [])), none⟩])
  (seqK [1] (seqK [1, 5] (.reg [⟨(some 3), .load true 2 (.t 1), none⟩,
       ⟨(some 4), .call f_cipherplanref02_Valid [(.t 3)], none⟩,
       ⟨(some 5), .un .not (.t 4), none⟩])
    (.cond (.t 5)
      (seqK [2] (.reg [⟨(some 2), .mov (.c (V.str [])), none⟩])
       (.ret))
      (.skip)))
   (seqK [1] (seqK [1, 8] (.reg [⟨(some 6), .faddr 1 (.t 1), none⟩,
        ⟨(some 7), .load false 1 (.t 6), none⟩,
        ⟨(some 8), .bin .eql (.t 7) (.c (V.int 0)), none⟩])
     (.cond (.t 8)
       (seqK [2] (.reg [⟨(some 9), .faddr 0 (.t 1), none⟩,
           ⟨(some 10), .load false 1 (.t 9), none⟩,
           ⟨(some 11), .call f_cipherplanref02_Name [(.t 10)], none⟩,
           ⟨(some 2), .mov (.t 11), none⟩])
        (.ret))
       (.skip)))
    (seqK [2] (regK [] t_cipherplanref02_Text_0 (p_cipherplanref02_Text_0 f_cipherplanref02_Name f_cipherplanref02_Decimal) (o_cipherplanref02_Text_0 f_cipherplanref02_Name f_cipherplanref02_Decimal) a_cipherplanref02_Text_0)
     (.ret))))

def r_cipherplanref02_Text : List ARes := [.tmp 2]
def CE_cipherplanref02_Text (Γ : Env) (f : Nat) : Prop := ∀ (a b : Int), EvN Γ f [.agg [V.int a, V.int b]] (V.str (textS a b))
theorem ev_cipherplanref02_Text {Γ : Env} {f f_cipherplanref02_Valid f_cipherplanref02_Name f_cipherplanref02_Decimal : Nat} (h : Has Γ.P f 20 (c_cipherplanref02_Text f_cipherplanref02_Valid f_cipherplanref02_Name f_cipherplanref02_Decimal) r_cipherplanref02_Text) (h_cipherplanref02_Valid : CE_cipherplanref02_Valid Γ f_cipherplanref02_Valid) (h_cipherplanref02_Name : CE_cipherplanref02_Name Γ f_cipherplanref02_Name) (h_cipherplanref02_Decimal : CE_cipherplanref02_Decimal Γ f_cipherplanref02_Decimal) : CE_cipherplanref02_Text Γ f := by
  intro a b
  refine evN_of_body h (by simp) (by simp only [V.closed, closedL, V.noSl, noSlL, and_self, and_true, true_and]) (by simp only [V.closed, closedL, V.noSl, noSlL, and_self, and_true, true_and]) fun C hC hm => ?_
  subst hC
  unfold c_cipherplanref02_Text
  have hn := crow_name a
  by_cases hv : 0 < strengthS a b
  · have hb := strength_bits a b hv
    have hi := Lib.itoa_length_le b (by omega) (by omega)
    repeat' (first
    | refine awp_seqR fun K' hK => ?_
    | refine awp_regR fun K' hK => ?_
    | refine awp_seqP 9 (fun _ => true) rfl (k_cipherplanref02_Text_0 _ _) (q_cipherplanref02_Text_0 _ _) fun K' hK => ?_
    | refine awp_regP 9 (fun _ => true) rfl (k_cipherplanref02_Text_0 _ _) (q_cipherplanref02_Text_0 _ _) fun K' hK => ?_
    | refine awp_seqK ?_
    | refine awp_skip ?_
    | refine awp_block ?_
    | ((first | refine awp_cond ⟨_, rfl, fun hc => ?_, fun hc => ?_⟩ | refine awB_t (fun hc => ?_) (fun hc => ?_) | refine awB_f (fun hc => ?_) (fun hc => ?_)) <;> first | exact Bool.noConfusion hc | (exfalso; simp only [decide_eq_true_eq, decide_eq_false_iff_not, List.length_map, Bool.not_eq_true', Bool.not_eq_false'] at hc; omega) | (try simp only [decide_eq_true_eq, decide_eq_false_iff_not, beq_iff_eq, beq_eq_false_iff_ne, ne_eq, Bool.not_eq_true', Bool.not_eq_false'] at hc))
    | refine awp_ret ?_
    | refine awp_exit ?_
    | simp (maxSteps := 1000000) only [go_sem, Nat.reduceAdd, Nat.reduceMul, Nat.reduceEqDiff, Nat.reduceLeDiff, Nat.reduceLT, Nat.reduceSub, Int.reduceEq, Int.reduceBEq, Int.reduceLT, Int.reduceLE, Int.reduceAdd, Int.reduceToNat, reduceIte, reduceCtorEq, p_cipherplanref02_Text_0]
    | (refine hK _ ?_; clear hK; clear K')
    | refine And.intro ?_ ?_
    | ((first | apply awC_A | apply awCR_A); (focus (simp only [go_sem, Nat.reduceAdd, Nat.reduceMul, Nat.reduceEqDiff, Nat.reduceLeDiff, Nat.reduceLT, Nat.reduceSub, Int.reduceEq, Int.reduceBEq, Int.reduceLT, Int.reduceLE, Int.reduceAdd, Int.reduceToNat, reduceIte, reduceCtorEq]; first | exact (h_cipherplanref02_Valid _ _).b | exact (h_cipherplanref02_Name _).b | exact (h_cipherplanref02_Decimal _ (by first | assumption | omega | simp) (by first | assumption | omega | simp)).b)); (focus (simp only [go_sem, Nat.reduceAdd, Nat.reduceMul, Nat.reduceEqDiff, Nat.reduceLeDiff, Nat.reduceLT, Nat.reduceSub, Int.reduceEq, Int.reduceBEq, Int.reduceLT, Int.reduceLE, Int.reduceAdd, Int.reduceToNat, reduceIte, reduceCtorEq])))
    | (simp only [List.length_append, List.length_cons, List.length_nil, List.length_map, Nat.reducePow, Nat.reduceAdd]; omega)
    | omega)
    all_goals first | (refine ends_r _ rfl ?_; simp only [go_sem, Nat.reduceAdd, Nat.reduceMul, Nat.reduceEqDiff, Nat.reduceLeDiff, Nat.reduceLT, Nat.reduceSub, Int.reduceEq, Int.reduceBEq, Int.reduceLT, Int.reduceLE, Int.reduceAdd, Int.reduceToNat, reduceIte, reduceCtorEq]; done) | (refine ends_r _ rfl ?_; simp only [go_sem, Nat.reduceAdd, Nat.reduceMul, Nat.reduceEqDiff, Nat.reduceLeDiff, Nat.reduceLT, Nat.reduceSub, Int.reduceEq, Int.reduceBEq, Int.reduceLT, Int.reduceLE, Int.reduceAdd, Int.reduceToNat, reduceIte, reduceCtorEq]; simp [textS, *]; done) | (subst hc; refine ends_r _ rfl ?_; simp only [go_sem, Nat.reduceAdd, Nat.reduceMul, Nat.reduceEqDiff, Nat.reduceLeDiff, Nat.reduceLT, Nat.reduceSub, Int.reduceEq, Int.reduceBEq, Int.reduceLT, Int.reduceLE, Int.reduceAdd, Int.reduceToNat, reduceIte, reduceCtorEq]; simp [textS, *]; done) | trace_state
  · repeat' (first
    | refine awp_seqR fun K' hK => ?_
    | refine awp_regR fun K' hK => ?_
    | refine awp_seqP 9 (fun _ => true) rfl (k_cipherplanref02_Text_0 _ _) (q_cipherplanref02_Text_0 _ _) fun K' hK => ?_
    | refine awp_regP 9 (fun _ => true) rfl (k_cipherplanref02_Text_0 _ _) (q_cipherplanref02_Text_0 _ _) fun K' hK => ?_
    | refine awp_seqK ?_
    | refine awp_skip ?_
    | refine awp_block ?_
    | ((first | refine awp_cond ⟨_, rfl, fun hc => ?_, fun hc => ?_⟩ | refine awB_t (fun hc => ?_) (fun hc => ?_) | refine awB_f (fun hc => ?_) (fun hc => ?_)) <;> first | exact Bool.noConfusion hc | (exfalso; simp only [decide_eq_true_eq, decide_eq_false_iff_not, List.length_map, Bool.not_eq_true', Bool.not_eq_false'] at hc; omega) | (try simp only [decide_eq_true_eq, decide_eq_false_iff_not, beq_iff_eq, beq_eq_false_iff_ne, ne_eq, Bool.not_eq_true', Bool.not_eq_false'] at hc))
    | refine awp_ret ?_
    | refine awp_exit ?_
    | simp (maxSteps := 1000000) only [go_sem, Nat.reduceAdd, Nat.reduceMul, Nat.reduceEqDiff, Nat.reduceLeDiff, Nat.reduceLT, Nat.reduceSub, Int.reduceEq, Int.reduceBEq, Int.reduceLT, Int.reduceLE, Int.reduceAdd, Int.reduceToNat, reduceIte, reduceCtorEq, p_cipherplanref02_Text_0]
    | (refine hK _ ?_; clear hK; clear K')
    | refine And.intro ?_ ?_
    | ((first | apply awC_A | apply awCR_A); (focus (simp only [go_sem, Nat.reduceAdd, Nat.reduceMul, Nat.reduceEqDiff, Nat.reduceLeDiff, Nat.reduceLT, Nat.reduceSub, Int.reduceEq, Int.reduceBEq, Int.reduceLT, Int.reduceLE, Int.reduceAdd, Int.reduceToNat, reduceIte, reduceCtorEq]; first | exact (h_cipherplanref02_Valid _ _).b | exact (h_cipherplanref02_Name _).b | exact (h_cipherplanref02_Decimal _ (by first | assumption | omega | simp) (by first | assumption | omega | simp)).b)); (focus (simp only [go_sem, Nat.reduceAdd, Nat.reduceMul, Nat.reduceEqDiff, Nat.reduceLeDiff, Nat.reduceLT, Nat.reduceSub, Int.reduceEq, Int.reduceBEq, Int.reduceLT, Int.reduceLE, Int.reduceAdd, Int.reduceToNat, reduceIte, reduceCtorEq])))
    | (simp only [List.length_append, List.length_cons, List.length_nil, List.length_map, Nat.reducePow, Nat.reduceAdd]; omega)
    | omega)
    all_goals first | (refine ends_r _ rfl ?_; simp only [go_sem, Nat.reduceAdd, Nat.reduceMul, Nat.reduceEqDiff, Nat.reduceLeDiff, Nat.reduceLT, Nat.reduceSub, Int.reduceEq, Int.reduceBEq, Int.reduceLT, Int.reduceLE, Int.reduceAdd, Int.reduceToNat, reduceIte, reduceCtorEq]; done) | (refine ends_r _ rfl ?_; simp only [go_sem, Nat.reduceAdd, Nat.reduceMul, Nat.reduceEqDiff, Nat.reduceLeDiff, Nat.reduceLT, Nat.reduceSub, Int.reduceEq, Int.reduceBEq, Int.reduceLT, Int.reduceLE, Int.reduceAdd, Int.reduceToNat, reduceIte, reduceCtorEq]; simp [textS, *]; done) | (subst hc; refine ends_r _ rfl ?_; simp only [go_sem, Nat.reduceAdd, Nat.reduceMul, Nat.reduceEqDiff, Nat.reduceLeDiff, Nat.reduceLT, Nat.reduceSub, Int.reduceEq, Int.reduceBEq, Int.reduceLT, Int.reduceLE, Int.reduceAdd, Int.reduceToNat, reduceIte, reduceCtorEq]; simp [textS, *]; done) | trace_state

def refCut : List UInt8 → Option (List UInt8 × List UInt8)
  | [] => none
  | c :: r => if c = 45 then some ([], r) else (refCut r).map fun p => (c :: p.1, p.2)
def useV (a b : Int) : V := if 0 < strengthS a b then .tup [.agg [V.int a, V.int b], V.int 0] else .tup [.agg [V.int 0, V.int 0], V.int 7]
def refParse (s : List UInt8) : V :=
  match refCut s with
  | none => useV (findR s 0 rowsL) 0
  | some (a, r) => if (numR r).2 = true ∧ 0 < (numR r).1 then useV (findR a 0 rowsL) (numR r).1 else .tup [.agg [V.int 0, V.int 0], V.int 7]
theorem refParse_closed (s : List UInt8) : (refParse s).closed := by
  unfold refParse useV; repeat' split
  all_goals simp only [V.closed, closedL, and_self]
theorem refParse_noSl (s : List UInt8) : (refParse s).noSl := by
  unfold refParse useV; repeat' split
  all_goals simp only [V.noSl, noSlL, and_self]
theorem u8_45 (c : UInt8) : ((c.toNat : Int) = 45) = (c = 45) := by
  apply propext; constructor
  · intro h; apply UInt8.toNat_inj.1; simp; omega
  · rintro rfl; rfl

def c_cipherplanref02_Parse (f_cipherplanref02_Number f_cipherplanref02_Find f_cipherplanref02_Valid : Nat) : AC :=
  seqK [0, 2] (.reg [⟨(some 2), .alloc [.val (.int .i64 0), .val (.int .i64 0)], none⟩,
     ⟨(some 3), .mov (.c (V.int 0)), none⟩])
  (seqK [0, 2] (seqK [0, 2, 4] (.reg [⟨(some 4), .mov (.c (V.int 0)), none⟩])
    (.block 0 (loopK [0, 2, 4] (seqK [0, 2, 4] (seqK [0, 2, 4, 12] (.reg [⟨(some 9), .mov (.t 4), none⟩,
           ⟨(some 10), .mov (.t 0), none⟩,
           ⟨(some 11), .lenS (.t 10), none⟩,
           ⟨(some 12), .bin .lss (.t 9) (.t 11), none⟩])
        (.cond (.t 12)
          (.skip)
          (.exit 0)))
       (seqK [0, 2, 4] (.block 1 (seqK [0, 2, 4] (seqK [0, 2, 4, 18] (.reg [⟨(some 15), .mov (.t 0), none⟩,
              ⟨(some 16), .mov (.t 4), none⟩,
              ⟨(some 17), .idxS (.t 15) (.t 16), none⟩,
              ⟨(some 18), .bin .neq (.t 17) (.c (.sc (.int .u8 45))), none⟩])
           (.cond (.t 18)
             (.exit 1)
             (.skip)))
          (seqK [0, 2, 4, 5, 6] (.reg [⟨(some 20), .mov (.t 0), none⟩,
              ⟨(some 21), .mov (.t 4), none⟩,
              ⟨(some 22), .bin .add (.t 21) (.c (V.int 1)), none⟩,
              ⟨(some 23), .slstr (.t 20) (some (.t 22)) none, none⟩,
              ⟨(some 24), .call f_cipherplanref02_Number [(.t 23)], none⟩,
              ⟨(some 19), .mov (.t 24), none⟩,
              ⟨(some 25), .ext (.t 19) 0, none⟩,
              ⟨(some 26), .ext (.t 19) 1, none⟩,
              ⟨(some 5), .mov (.t 25), none⟩,
              ⟨(some 6), .mov (.t 26), none⟩])
           (seqK [2] (seqK [2, 5, 6, 7] (.reg [⟨(some 27), .mov (.t 0), none⟩,
                ⟨(some 28), .mov (.t 4), none⟩,
                ⟨(some 29), .slstr (.t 27) none (some (.t 28)), none⟩,
                ⟨(some 30), .call f_cipherplanref02_Find [(.t 29)], none⟩,
                ⟨(some 31), .mov (.t 5), none⟩,
                ⟨(some 32), .build [(.int .i64 0), (.int .i64 0)] [(0, 1, (.t 30)), (1, 1, (.t 31))], none⟩,
                ⟨(some 7), .alloc [.val (.int .i64 0), .val (.int .i64 0)], none⟩,
                ⟨none, .store 2 (.t 7) (.t 32), none⟩])
             (seqK [2, 7, 41] (.reg [⟨(some 33), .mov (.t 6), none⟩,
                 ⟨(some 34), .mov (.t 33), none⟩,
                 ⟨(some 35), .mov (.t 5), (some (34, true))⟩,
                 ⟨(some 36), .bin .gtr (.t 35) (.c (V.int 0)), (some (34, true))⟩,
                 ⟨(some 37), .pick (.t 34) (.t 36) (.c (V.bool false)), none⟩,
                 ⟨(some 38), .mov (.t 37), none⟩,
                 ⟨(some 39), .load true 2 (.t 7), (some (38, true))⟩,
                 ⟨(some 40), .call f_cipherplanref02_Valid [(.t 39)], (some (38, true))⟩,
                 ⟨(some 41), .pick (.t 38) (.t 40) (.c (V.bool false)), none⟩])
              (.cond (.t 41)
                (seqK [2, 3] (.reg [⟨(some 42), .load true 2 (.t 7), none⟩,
                    ⟨none, .store 2 (.t 2) (.t 42), none⟩,
                    ⟨(some 3), .mov (.c (V.int 0)), none⟩])
                 (.ret))
                (.skip))))
            (seqK [2, 3] (.reg [⟨(some 43), .build [(.int .i64 0), (.int .i64 0)] [], none⟩,
                ⟨none, .store 2 (.t 2) (.t 43), none⟩,
                ⟨(some 3), .mov (.c (V.int 7)), none⟩])
             (.ret))))))
        (.reg [⟨(some 13), .mov (.t 4), none⟩,
           ⟨(some 14), .bin .add (.t 13) (.c (V.int 1)), none⟩,
           ⟨(some 4), .mov (.t 14), none⟩]))))))
   (seqK [2] (seqK [2, 8] (.reg [⟨(some 44), .mov (.t 0), none⟩,
        ⟨(some 45), .call f_cipherplanref02_Find [(.t 44)], none⟩,
        ⟨(some 46), .build [(.int .i64 0), (.int .i64 0)] [(0, 1, (.t 45))], none⟩,
        ⟨(some 8), .alloc [.val (.int .i64 0), .val (.int .i64 0)], none⟩,
        ⟨none, .store 2 (.t 8) (.t 46), none⟩])
     (seqK [2, 8, 48] (.reg [⟨(some 47), .load true 2 (.t 8), none⟩,
         ⟨(some 48), .call f_cipherplanref02_Valid [(.t 47)], none⟩])
      (.cond (.t 48)
        (seqK [2, 3] (.reg [⟨(some 49), .load true 2 (.t 8), none⟩,
            ⟨none, .store 2 (.t 2) (.t 49), none⟩,
            ⟨(some 3), .mov (.c (V.int 0)), none⟩])
         (.ret))
        (.skip))))
    (seqK [2, 3] (.reg [⟨(some 50), .build [(.int .i64 0), (.int .i64 0)] [], none⟩,
        ⟨none, .store 2 (.t 2) (.t 50), none⟩,
        ⟨(some 3), .mov (.c (V.int 7)), none⟩])
     (.ret))))

def r_cipherplanref02_Parse : List ARes := [.cell 2 true 2, .tmp 3]
def CE_cipherplanref02_Parse (Γ : Env) (f : Nat) : Prop := ∀ (s : List UInt8) (hs : s.length < 2 ^ 62), EvN Γ f [V.str s] (refParse s)
theorem ev_cipherplanref02_Parse {Γ : Env} {f f_cipherplanref02_Number f_cipherplanref02_Find f_cipherplanref02_Valid : Nat} (h : Has Γ.P f 51 (c_cipherplanref02_Parse f_cipherplanref02_Number f_cipherplanref02_Find f_cipherplanref02_Valid) r_cipherplanref02_Parse) (h_cipherplanref02_Number : CE_cipherplanref02_Number Γ f_cipherplanref02_Number) (h_cipherplanref02_Find : CE_cipherplanref02_Find Γ f_cipherplanref02_Find) (h_cipherplanref02_Valid : CE_cipherplanref02_Valid Γ f_cipherplanref02_Valid) : CE_cipherplanref02_Parse Γ f := by
  intro s hs
  refine evN_of_body h (by simp) (by first | exact refParse_closed s | exact refParse_noSl s) (by first | exact refParse_closed s | exact refParse_noSl s) fun C hC hm => ?_
  subst hC
  unfold c_cipherplanref02_Parse
  repeat' (first
    | refine awp_seqR fun K' hK => ?_
    | refine awp_regR fun K' hK => ?_
    | refine awp_seqK ?_
    | refine awp_skip ?_
    | refine awp_block ?_
    | ((first | refine awp_cond ⟨_, rfl, fun hc => ?_, fun hc => ?_⟩ | refine awB_t (fun hc => ?_) (fun hc => ?_) | refine awB_f (fun hc => ?_) (fun hc => ?_)) <;> first | exact Bool.noConfusion hc | (exfalso; simp only [decide_eq_true_eq, decide_eq_false_iff_not, List.length_map, Bool.not_eq_true', Bool.not_eq_false'] at hc; omega) | (try simp only [decide_eq_true_eq, decide_eq_false_iff_not, beq_iff_eq, beq_eq_false_iff_ne, ne_eq, Bool.not_eq_true', Bool.not_eq_false'] at hc))
    | refine awp_ret ?_
    | refine awp_exit ?_
    | simp (maxSteps := 1000000) only [go_sem, Nat.reduceAdd, Nat.reduceMul, Nat.reduceEqDiff, Nat.reduceLeDiff, Nat.reduceLT, Nat.reduceSub, Int.reduceEq, Int.reduceBEq, Int.reduceLT, Int.reduceLE, Int.reduceAdd, Int.reduceToNat, reduceIte, reduceCtorEq]
    | (refine hK _ ?_; clear hK; clear K')
    | refine And.intro ?_ ?_
    | (apply awC_A; (focus (simp only [go_sem, Nat.reduceAdd, Nat.reduceMul, Nat.reduceEqDiff, Nat.reduceLeDiff, Nat.reduceLT, Nat.reduceSub, Int.reduceEq, Int.reduceBEq, Int.reduceLT, Int.reduceLE, Int.reduceAdd, Int.reduceToNat, reduceIte, reduceCtorEq]; first | exact (h_cipherplanref02_Number _).b | exact (h_cipherplanref02_Find _).b | exact (h_cipherplanref02_Valid _ _).b)); (focus (simp only [go_sem, Nat.reduceAdd, Nat.reduceMul, Nat.reduceEqDiff, Nat.reduceLeDiff, Nat.reduceLT, Nat.reduceSub, Int.reduceEq, Int.reduceBEq, Int.reduceLT, Int.reduceLE, Int.reduceAdd, Int.reduceToNat, reduceIte, reduceCtorEq])))
    | (simp only [List.length_append, List.length_cons, List.length_nil, List.length_map, Nat.reducePow, Nat.reduceAdd]; omega)
    | omega)
  refine awp_loopV (ι := Nat) (fun k => k ≤ s.length ∧ refCut s = (refCut (s.drop k)).map fun p => (s.take k ++ p.1, p.2)) (fun k => mkSt [(0, V.str s), (2, .ptr 0 0), (4, V.int k)] [(0, .box true [V.int 0, V.int 0])] 1) (fun k => s.length - k) 0 (by refine ⟨by omega, ?_⟩; cases h : refCut s <;> simp [h]) (lookN [(0, 0)]) (weak_g _ (by simp only [Nat.reduceAdd, Nat.reduceMul, Nat.reduceEqDiff, Nat.reduceLeDiff, Nat.reduceLT, Nat.reduceSub, Int.reduceEq, Int.reduceBEq, Int.reduceLT, Int.reduceLE, Int.reduceAdd, Int.reduceToNat, reduceIte, reduceCtorEq, KK, u32, u33, u34, u35, u36, u37, u38, u39, forall_cons, forall_nil, V.ren, renL, lookN, V.lt, ltL, Ob.weak, and_true, true_and, implies_true, Option.some.injEq, exists_eq_left', closedL_ren, closed_ren]; (repeat' (first | rfl | refine And.intro ?_ ?_ | omega | exact fun h => h))) (by simp only [Nat.reduceAdd, Nat.reduceMul, Nat.reduceEqDiff, Nat.reduceLeDiff, Nat.reduceLT, Nat.reduceSub, Int.reduceEq, Int.reduceBEq, Int.reduceLT, Int.reduceLE, Int.reduceAdd, Int.reduceToNat, reduceIte, reduceCtorEq, KK, u32, u33, u34, u35, u36, u37, u38, u39, forall_cons, forall_nil, V.ren, renL, lookN, V.lt, ltL, Ob.weak, and_true, true_and, implies_true, Option.some.injEq, exists_eq_left', closedL_ren, closed_ren]; (repeat' (first | rfl | refine And.intro ?_ ?_ | omega | exact fun h => h))) (by simp) (by simp; omega) (by omega)) fun k hk K' hL => ?_
  obtain ⟨hk, hinv⟩ := hk
  rcases hd : s.drop k with _ | ⟨c, r⟩
  · have hk' := drop_nil hd
    rw [hd] at hinv
    have hp : refParse s = useV (findR s 0 rowsL) 0 := by rw [refParse, hinv]; rfl
    rw [hp]
    repeat' (first
    | refine awp_seqR fun K' hK => ?_
    | refine awp_regR fun K' hK => ?_
    | refine awp_seqK ?_
    | refine awp_skip ?_
    | refine awp_block ?_
    | ((first | refine awp_cond ⟨_, rfl, fun hc => ?_, fun hc => ?_⟩ | refine awB_t (fun hc => ?_) (fun hc => ?_) | refine awB_f (fun hc => ?_) (fun hc => ?_)) <;> first | exact Bool.noConfusion hc | (exfalso; simp only [decide_eq_true_eq, decide_eq_false_iff_not, List.length_map, Bool.not_eq_true', Bool.not_eq_false'] at hc; omega) | (try simp only [decide_eq_true_eq, decide_eq_false_iff_not, beq_iff_eq, beq_eq_false_iff_ne, ne_eq, Bool.not_eq_true', Bool.not_eq_false'] at hc))
    | refine awp_ret ?_
    | refine awp_exit ?_
    | simp (maxSteps := 1000000) only [go_sem, Nat.reduceAdd, Nat.reduceMul, Nat.reduceEqDiff, Nat.reduceLeDiff, Nat.reduceLT, Nat.reduceSub, Int.reduceEq, Int.reduceBEq, Int.reduceLT, Int.reduceLE, Int.reduceAdd, Int.reduceToNat, reduceIte, reduceCtorEq, mkSt]
    | (refine hK _ ?_; clear hK; clear K')
    | refine And.intro ?_ ?_
    | (apply awC_A; (focus (simp only [go_sem, Nat.reduceAdd, Nat.reduceMul, Nat.reduceEqDiff, Nat.reduceLeDiff, Nat.reduceLT, Nat.reduceSub, Int.reduceEq, Int.reduceBEq, Int.reduceLT, Int.reduceLE, Int.reduceAdd, Int.reduceToNat, reduceIte, reduceCtorEq, mkSt]; first | exact (h_cipherplanref02_Number _).b | exact (h_cipherplanref02_Find _).b | exact (h_cipherplanref02_Valid _ _).b)); (focus (simp only [go_sem, Nat.reduceAdd, Nat.reduceMul, Nat.reduceEqDiff, Nat.reduceLeDiff, Nat.reduceLT, Nat.reduceSub, Int.reduceEq, Int.reduceBEq, Int.reduceLT, Int.reduceLE, Int.reduceAdd, Int.reduceToNat, reduceIte, reduceCtorEq, mkSt])))
    | (simp only [List.length_append, List.length_cons, List.length_nil, List.length_map, Nat.reducePow, Nat.reduceAdd]; omega)
    | omega)
    all_goals first
      | (rw [useV, if_pos (by assumption)]; refine ends_r _ rfl ?_; simp only [go_sem, Nat.reduceAdd, Nat.reduceMul, Nat.reduceEqDiff, Nat.reduceLeDiff, Nat.reduceLT, Nat.reduceSub, Int.reduceEq, Int.reduceBEq, Int.reduceLT, Int.reduceLE, Int.reduceAdd, Int.reduceToNat, reduceIte, reduceCtorEq]; done)
      | (rw [useV, if_neg (by assumption)]; refine ends_r _ rfl ?_; simp only [go_sem, Nat.reduceAdd, Nat.reduceMul, Nat.reduceEqDiff, Nat.reduceLeDiff, Nat.reduceLT, Nat.reduceSub, Int.reduceEq, Int.reduceBEq, Int.reduceLT, Int.reduceLE, Int.reduceAdd, Int.reduceToNat, reduceIte, reduceCtorEq]; done)
  · obtain ⟨hk', hget, hrd⟩ := drop_cons hd
    rw [hd] at hinv
    have hw := wrap_succ (k := k) (by omega)
    by_cases hc45 : c = 45
    · subst hc45
      have hcut : refCut s = some (s.take k, r) := by rw [hinv]; simp [refCut]
      have hp : refParse s = if (numR r).2 = true ∧ 0 < (numR r).1 then useV (findR (s.take k) 0 rowsL) (numR r).1 else .tup [.agg [V.int 0, V.int 0], V.int 7] := by rw [refParse, hcut]
      rw [hp]
      have hne : (((45 : UInt8).toNat : Int) != 45) = false := rfl
      have hlr : r.take (s.length - (k + 1)) = r := by
        have : r.length = s.length - (k + 1) := by rw [← hrd, List.length_drop]
        rw [← this, List.take_length]
      have hlk : (s.take k).length ≤ s.length := by rw [List.length_take]; omega
      repeat' (first
    | refine awp_seqR fun K' hK => ?_
    | refine awp_regR fun K' hK => ?_
    | refine awp_seqK ?_
    | refine awp_skip ?_
    | refine awp_block ?_
    | ((first | refine awp_cond ⟨_, rfl, fun hc => ?_, fun hc => ?_⟩ | refine awB_t (fun hc => ?_) (fun hc => ?_) | refine awB_f (fun hc => ?_) (fun hc => ?_)) <;> first | exact Bool.noConfusion hc | (exfalso; simp only [decide_eq_true_eq, decide_eq_false_iff_not, List.length_map, Bool.not_eq_true', Bool.not_eq_false'] at hc; omega) | (try simp only [decide_eq_true_eq, decide_eq_false_iff_not, beq_iff_eq, beq_eq_false_iff_ne, ne_eq, Bool.not_eq_true', Bool.not_eq_false'] at hc))
    | refine awp_ret ?_
    | refine awp_exit ?_
    | simp (maxSteps := 1000000) only [go_sem, Nat.reduceAdd, Nat.reduceMul, Nat.reduceEqDiff, Nat.reduceLeDiff, Nat.reduceLT, Nat.reduceSub, Int.reduceEq, Int.reduceBEq, Int.reduceLT, Int.reduceLE, Int.reduceAdd, Int.reduceToNat, reduceIte, reduceCtorEq, mkSt, Int.toNat_natCast, hget, hw, hne, hrd, hlr, numV, List.drop_zero, Nat.sub_zero]
    | (refine hK _ ?_; clear hK; clear K')
    | refine And.intro ?_ ?_
    | (apply awC_A; (focus (simp only [go_sem, Nat.reduceAdd, Nat.reduceMul, Nat.reduceEqDiff, Nat.reduceLeDiff, Nat.reduceLT, Nat.reduceSub, Int.reduceEq, Int.reduceBEq, Int.reduceLT, Int.reduceLE, Int.reduceAdd, Int.reduceToNat, reduceIte, reduceCtorEq, mkSt, Int.toNat_natCast, hget, hw, hne, hrd, hlr, numV, List.drop_zero, Nat.sub_zero]; first | exact (h_cipherplanref02_Number _).b | exact (h_cipherplanref02_Find _).b | exact (h_cipherplanref02_Valid _ _).b)); (focus (simp only [go_sem, Nat.reduceAdd, Nat.reduceMul, Nat.reduceEqDiff, Nat.reduceLeDiff, Nat.reduceLT, Nat.reduceSub, Int.reduceEq, Int.reduceBEq, Int.reduceLT, Int.reduceLE, Int.reduceAdd, Int.reduceToNat, reduceIte, reduceCtorEq, mkSt, Int.toNat_natCast, hget, hw, hne, hrd, hlr, numV, List.drop_zero, Nat.sub_zero])))
    | (simp only [List.length_append, List.length_cons, List.length_nil, List.length_map, Nat.reducePow, Nat.reduceAdd]; omega)
    | omega)
      all_goals first
        | (rw [if_pos ⟨by assumption, by assumption⟩, useV, if_pos (by assumption)]; refine ends_r _ rfl ?_; simp only [go_sem, Nat.reduceAdd, Nat.reduceMul, Nat.reduceEqDiff, Nat.reduceLeDiff, Nat.reduceLT, Nat.reduceSub, Int.reduceEq, Int.reduceBEq, Int.reduceLT, Int.reduceLE, Int.reduceAdd, Int.reduceToNat, reduceIte, reduceCtorEq]; done)
        | (rw [if_pos ⟨by assumption, by assumption⟩, useV, if_neg (by assumption)]; refine ends_r _ rfl ?_; simp only [go_sem, Nat.reduceAdd, Nat.reduceMul, Nat.reduceEqDiff, Nat.reduceLeDiff, Nat.reduceLT, Nat.reduceSub, Int.reduceEq, Int.reduceBEq, Int.reduceLT, Int.reduceLE, Int.reduceAdd, Int.reduceToNat, reduceIte, reduceCtorEq]; done)
        | (rw [if_neg (by intro hh; first | exact absurd hh.2 (by assumption) | (have h1 := hh.1; simp_all))]; refine ends_r _ rfl ?_; simp only [go_sem, Nat.reduceAdd, Nat.reduceMul, Nat.reduceEqDiff, Nat.reduceLeDiff, Nat.reduceLT, Nat.reduceSub, Int.reduceEq, Int.reduceBEq, Int.reduceLT, Int.reduceLE, Int.reduceAdd, Int.reduceToNat, reduceIte, reduceCtorEq]; done)
        | trace_state
    · have hcut : refCut s = (refCut r).map fun p => (s.take (k + 1) ++ p.1, p.2) := by
        rw [hinv, refCut, if_neg hc45]
        have ht : s.take (k + 1) = s.take k ++ [c] := by rw [List.take_add_one, hget]; rfl
        rw [ht]
        cases refCut r <;> simp
      have hne : ((c.toNat : Int) != 45) = true := by simp only [bne_iff_ne, ne_eq, u8_45]; exact hc45
      repeat' (first
    | refine awp_seqR fun K' hK => ?_
    | refine awp_regR fun K' hK => ?_
    | refine awp_seqK ?_
    | refine awp_skip ?_
    | refine awp_block ?_
    | ((first | refine awp_cond ⟨_, rfl, fun hc => ?_, fun hc => ?_⟩ | refine awB_t (fun hc => ?_) (fun hc => ?_) | refine awB_f (fun hc => ?_) (fun hc => ?_)) <;> first | exact Bool.noConfusion hc | (exfalso; simp only [decide_eq_true_eq, decide_eq_false_iff_not, List.length_map, Bool.not_eq_true', Bool.not_eq_false'] at hc; omega) | (try simp only [decide_eq_true_eq, decide_eq_false_iff_not, beq_iff_eq, beq_eq_false_iff_ne, ne_eq, Bool.not_eq_true', Bool.not_eq_false'] at hc))
    | refine awp_ret ?_
    | refine awp_exit ?_
    | simp (maxSteps := 1000000) only [go_sem, Nat.reduceAdd, Nat.reduceMul, Nat.reduceEqDiff, Nat.reduceLeDiff, Nat.reduceLT, Nat.reduceSub, Int.reduceEq, Int.reduceBEq, Int.reduceLT, Int.reduceLE, Int.reduceAdd, Int.reduceToNat, reduceIte, reduceCtorEq, mkSt, Int.toNat_natCast, hget, hw, hne]
    | (refine hK _ ?_; clear hK; clear K')
    | refine And.intro ?_ ?_
    | (apply awC_A; (focus (simp only [go_sem, Nat.reduceAdd, Nat.reduceMul, Nat.reduceEqDiff, Nat.reduceLeDiff, Nat.reduceLT, Nat.reduceSub, Int.reduceEq, Int.reduceBEq, Int.reduceLT, Int.reduceLE, Int.reduceAdd, Int.reduceToNat, reduceIte, reduceCtorEq, mkSt, Int.toNat_natCast, hget, hw, hne]; first | exact (h_cipherplanref02_Number _).b | exact (h_cipherplanref02_Find _).b | exact (h_cipherplanref02_Valid _ _).b)); (focus (simp only [go_sem, Nat.reduceAdd, Nat.reduceMul, Nat.reduceEqDiff, Nat.reduceLeDiff, Nat.reduceLT, Nat.reduceSub, Int.reduceEq, Int.reduceBEq, Int.reduceLT, Int.reduceLE, Int.reduceAdd, Int.reduceToNat, reduceIte, reduceCtorEq, mkSt, Int.toNat_natCast, hget, hw, hne])))
    | (simp only [List.length_append, List.length_cons, List.length_nil, List.length_map, Nat.reducePow, Nat.reduceAdd]; omega)
    | omega)
      refine hL _ (k + 1) (lookN []) ⟨by omega, by rw [hrd, hcut]⟩ (by omega) (weak_g [] (by simp only [Nat.reduceAdd, Nat.reduceMul, Nat.reduceEqDiff, Nat.reduceLeDiff, Nat.reduceLT, Nat.reduceSub, Int.reduceEq, Int.reduceBEq, Int.reduceLT, Int.reduceLE, Int.reduceAdd, Int.reduceToNat, reduceIte, reduceCtorEq, KK, u32, u33, u34, u35, u36, u37, u38, u39, forall_cons, forall_nil, V.ren, renL, lookN, V.lt, ltL, Ob.weak, and_true, true_and, implies_true, Option.some.injEq, exists_eq_left', closedL_ren, closed_ren]; (repeat' (first | rfl | refine And.intro ?_ ?_ | omega | exact fun h => h))) (by simp only [Nat.reduceAdd, Nat.reduceMul, Nat.reduceEqDiff, Nat.reduceLeDiff, Nat.reduceLT, Nat.reduceSub, Int.reduceEq, Int.reduceBEq, Int.reduceLT, Int.reduceLE, Int.reduceAdd, Int.reduceToNat, reduceIte, reduceCtorEq, KK, u32, u33, u34, u35, u36, u37, u38, u39, forall_cons, forall_nil, V.ren, renL, lookN, V.lt, ltL, Ob.weak, and_true, true_and, implies_true, Option.some.injEq, exists_eq_left', closedL_ren, closed_ren]; (repeat' (first | rfl | refine And.intro ?_ ?_ | omega | exact fun h => h))) (by simp) (by simp) (by omega))
end Av
end

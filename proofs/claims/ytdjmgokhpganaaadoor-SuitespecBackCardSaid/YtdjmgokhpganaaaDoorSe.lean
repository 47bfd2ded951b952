/- Se -/
import Derived.Test.YtdjmgokhpganaaaDoorSd
set_option linter.unusedVariables false
set_option linter.unusedSimpArgs false
section
set_option linter.unusedSimpArgs false
set_option linter.unusedVariables false
set_option maxRecDepth 10000
set_option maxHeartbeats 4000000
namespace Av
open Go
attribute [local irreducible] AWp runO runP runG awS awC awCv awQ awRd awCallR awCvR awQR awR awRdR awB okR plan ris
theorem join_cons (c : UInt8) : ∀ (r : List (List UInt8)) (x : List UInt8), [c].intercalate (x :: r) = x ++ (r.map fun y => c :: y).flatten
  | [], x => by simp [List.intercalate]
  | y :: r, x => by
    have := join_cons c r y
    simp only [List.intercalate, List.intersperse_cons_cons, List.flatten_cons] at this ⊢
    rw [this]; simp
theorem joinT_flat : ∀ r : List Int, joinT r = ((r.map nameP).map fun y => (58 : UInt8) :: y).flatten
  | [] => rfl
  | x :: r => by rw [joinT, joinT_flat r]; simp
theorem join_names (l : List Int) : ([58] : List UInt8).intercalate (l.map nameP) = joinN l := by
  cases l with
  | nil => rfl
  | cons x r => rw [List.map_cons, join_cons, joinN, joinT_flat]
theorem joinN_len (l : List Int) : (joinN l).length ≤ 41 * l.length := by
  cases l with
  | nil => simp [joinN]
  | cons x r => have := nameP_len x; have := joinT_len r; simp [joinN]; omega
def findB (c : Int) : Bool := decide (findR (suiteAt c).name 0 rowsL > 0) == decide ((suiteAt c).name = [99, 104, 97, 99, 104, 97])
theorem find_chacha : ∀ x ∈ ([1, 2, 3, 4, 5, 6, 7, 8, 9, 10, 11, 12, 13, 14, 15, 16] : List Int), findB x = true := by decide +kernel
theorem name_find {x : Int} (h : 1 ≤ x ∧ x ≤ 16) : nameP x = (suiteAt x).name ++ if findR (suiteAt x).name 0 rowsL > 0 then [43, 118, 52] else [] := by
  have := find_chacha x (by simp; omega)
  simp only [findB, beq_iff_eq, decide_eq_decide] at this
  unfold nameP
  by_cases hc : (suiteAt x).name = [99, 104, 97, 99, 104, 97]
  · rw [if_pos hc, if_pos (this.2 hc)]
  · rw [if_neg hc, if_neg (fun h => hc (this.1 h))]
theorem printG_twice : ∀ (r p : List Int) (s : List UInt8), p.Nodup → ¬ (p ++ r).Nodup → printG p r s = none
  | [], p, s, h1, h2 => absurd (by simpa using h1) h2
  | x :: r, p, s, h1, h2 => by
    rw [printG]
    split
    · rfl
    · rename_i h
      have hx : x ∉ p := by simpa using h
      refine printG_twice r _ _ ?_ (by simpa using h2)
      exact List.nodup_append.2 ⟨h1, by simp, fun a ha b hb e => by simp at hb; subst hb; subst e; exact hx ha⟩
def CE_strings_Join (Γ : Env) (f : Nat) : Prop := ∀ (xs : List (List UInt8)) (sep : List UInt8) (hn : xs.length < 2 ^ 40) (hl : (sep.intercalate xs).length < 2 ^ 40), EvN Γ f [.sl 1 (xs.map V.str), V.str sep] (V.str (sep.intercalate xs))
def c_suitespec_Print (f_catalog_Suite f_catalog_Find f_slices_Contains___int_int f_strings_Join : Nat) : AC := seqK [0] (.reg [mc 2 (V.str []), mc 3 (V.int 0)]) (seqK [0, 4] (.reg [xo 4 (.mknil 1)]) (seqK [0, 4] (seqK [0, 4, 11, 12, 13] (.reg [mv 11 0, ln 12 11, mc 13 (V.int 0)]) (.block 0 (loopK [0, 4, 11, 12, 13] (seqK [0, 4, 11, 12, 13, 14] (.reg [bn 14 .lss 13 12]) (seqK [0, 4, 11, 12, 13] (.cond (.t 14) (.skip) (.exit 0)) (seqK [0, 4, 11, 12, 13] (.block 1 (seqK [0, 4, 6, 11, 12, 13] (.reg [ia 15 1 11 13, ld 16 1 15, mv 6 16]) (seqK [0, 4, 7, 8, 11, 12, 13] (.reg [mv 18 6, cl 19 f_catalog_Suite [18], mv 17 19, ex 20 17 0, ex 21 17 1, xo 7 (.alloc [.val (.int .i64 0), .val (.string ⟨#[]⟩), .val (.int .i64 0), .val (.int .i64 0), .val (.int .i64 0), .val (.int .i64 0), .val (.int .i64 0), .val (.int .i64 0), .val (.int .i64 0), .val (.int .i64 0), .val (.int .i64 0), .val (.int .i64 0)]), xs 12 7 20, mv 8 21]) (seqK [0, 4, 7, 11, 12, 13] (seqK [0, 4, 7, 8, 11, 12, 13, 23] (.reg [mv 22 8, bc 23 .neq 22 (V.int 0)]) (.cond (.t 23) (seqK [2, 3] (.reg [mv 24 8, mc 2 (V.str []), mv 3 24]) (.ret)) (.skip))) (seqK [0, 4, 7, 11, 12, 13] (seqK [0, 4, 7, 11, 12, 13, 28] (.reg [fa 25 1 7, ld 26 1 25, cl 27 f_catalog_Find [26], bc 28 .gtr 27 (V.int 0)]) (.cond (.t 28) (.reg [fa 29 1 7, ld 30 1 29, bc 31 .add 30 (V.str [43, 118, 52]), fa 32 1 7, xs 1 32 31]) (.skip))) (.reg [mv 33 4, fa 34 1 7, ld 35 1 34, xo 36 (.bslice 1 1 false [(.string ⟨#[]⟩)] [(0, (.t 35))]), xo 37 (.append 1 16 [(.string ⟨#[]⟩)] (.t 33) (.t 36)), mv 4 37])))))) (.reg [bc 38 .add 13 (V.int 1), mv 13 38]))))))) (seqK [4] (seqK [0, 4, 39, 40, 41] (.reg [mv 39 0, ln 40 39, mc 41 (V.int 0)]) (.block 2 (loopK [0, 4, 39, 40, 41] (seqK [0, 4, 39, 40, 41, 42] (.reg [bn 42 .lss 41 40]) (seqK [0, 4, 39, 40, 41] (.cond (.t 42) (.skip) (.exit 2)) (seqK [0, 4, 39, 40, 41] (.block 3 (seqK [0, 4, 9, 10, 39, 40, 41] (.reg [mv 43 41, ia 44 1 39 41, ld 45 1 44, mv 9 43, mv 10 45]) (seqK [0, 4, 39, 40, 41, 50] (.reg [mv 46 0, mv 47 9, xo 48 (.slsl 1 (.t 46) none (some (.t 47))), mv 49 10, cl 50 f_slices_Contains___int_int [48, 49]]) (.cond (.t 50) (seqK [2, 3] (.reg [mc 2 (V.str []), mc 3 (V.int 5)]) (.ret)) (.skip))))) (.reg [bc 51 .add 41 (V.int 1), mv 41 51]))))))) (seqK [2, 3] (.reg [mv 52 4, xo 53 (.call f_strings_Join [(.t 52), (.c (V.str [58]))]), mv 2 53, mc 3 (V.int 0)]) (.ret))))) def r_suitespec_Print : List ARes := [.tmp 2, .tmp 3]
def CE_suitespec_Print (Γ : Env) (f : Nat) : Prop := ∀ (l : List Int) (hl : l.length < 2 ^ 30), EvN Γ f [.sl 1 (l.map V.int)] (printV l)
theorem ev_suitespec_Print {Γ : Env} {f f_catalog_Suite f_catalog_Find f_slices_Contains___int_int f_strings_Join : Nat} (h : Has Γ.P f 54 (c_suitespec_Print f_catalog_Suite f_catalog_Find f_slices_Contains___int_int f_strings_Join) r_suitespec_Print) (h_catalog_Suite : CE_catalog_Suite Γ f_catalog_Suite) (h_catalog_Find : CE_catalog_Find Γ f_catalog_Find) (h_slices_Contains___int_int : CE_slices_Contains___int_int Γ f_slices_Contains___int_int) (h_strings_Join : CE_strings_Join Γ f_strings_Join) : CE_suitespec_Print Γ f := by
  intro l hl
  refine evN_of_body h (by simp) (by first | exact printV_closed _ | exact printV_noSl _) (by first | exact printV_closed _ | exact printV_noSl _) fun C hC hm => ?_
  subst hC
  unfold c_suitespec_Print
  repeat' (first | refine awp_seqR fun K' hK => ?_ | refine awp_regR fun K' hK => ?_ | refine awp_seqK ?_ | refine awp_skip ?_ | refine awp_block ?_ | ((first | refine awp_cond ⟨_, rfl, fun hc => ?_, fun hc => ?_⟩ | refine awB_t (fun hc => ?_) (fun hc => ?_) | refine awB_f (fun hc => ?_) (fun hc => ?_)) <;> first | exact Bool.noConfusion hc | ((try simp only [decide_eq_true_eq, decide_eq_false_iff_not, beq_iff_eq, beq_eq_false_iff_ne, ne_eq, Bool.not_eq_true', Bool.not_eq_false'] at hc); first | (exfalso; simp only [List.length_map] at hc; omega) | (exfalso; omega) | skip)) | refine awp_ret ?_ | refine awp_exit ?_ | simp (maxSteps := 1000000) only [go_sem, Nat.reduceAdd, Nat.reduceMul, Nat.reduceEqDiff, Nat.reduceLeDiff, Nat.reduceLT, Nat.reduceSub, Int.reduceEq, Int.reduceBEq, Int.reduceLT, Int.reduceLE, Int.reduceAdd, Int.reduceToNat, reduceIte, reduceCtorEq] | (refine hK _ ?_; clear hK; clear K') | refine And.intro ?_ ?_ | (apply awCs_A; (focus (first | exact (h_catalog_Suite _).b | exact (h_catalog_Find _).b | exact (h_slices_Contains___int_int _ _ (by first | assumption | omega | (simp; done))).b | exact (h_strings_Join _ _ (by first | assumption | omega | (simp; done)) (by first | assumption | omega | (simp; done))).b))) | (simp only [List.length_append, List.length_cons, List.length_nil, List.length_map, Nat.reducePow, Nat.reduceAdd]; omega) | omega | exact List.mem_singleton_self _)
  refine awp_loopV (ι := Nat) (fun k => k ≤ l.length ∧ (∀ x ∈ l.take k, badC x = false)) (fun k => mkSt [(0, .sl 1 (l.map V.int)), (4, .hd 0 0 ((l.take k).map nameP).length), (11, .sl 1 (l.map V.int)), (12, V.int (l.map V.int).length), (13, V.int k)] [(0, .buf true 1 (((l.take k).map nameP).map V.str))] 1) (fun k => l.length - k) 0 ⟨by omega, by simp⟩ (lookN [(0, 2000)]) (weak_g [(0, 2000)] (by simp only [go_sem, Nat.reduceAdd, Nat.reduceMul, Nat.reduceEqDiff, Nat.reduceLT, Int.reduceToNat, reduceIte, reduceCtorEq, and_true, true_and, implies_true, Option.some.injEq, exists_eq_left', closedL_ren, closed_ren]; (repeat' (first | rfl | refine And.intro ?_ ?_ | omega | exact fun h => h | exact Exists.intro _ rfl))) (by simp only [go_sem, Nat.reduceAdd, Nat.reduceMul, Nat.reduceEqDiff, Nat.reduceLT, Int.reduceToNat, reduceIte, reduceCtorEq, and_true, true_and, implies_true, Option.some.injEq, exists_eq_left', closedL_ren, closed_ren]; (repeat' (first | rfl | refine And.intro ?_ ?_ | omega | exact fun h => h | exact Exists.intro _ rfl))) (by simp [lookN]) (by simp; omega) (by omega)) fun k hk K' hL => ?_
  obtain ⟨hk, hgood⟩ := hk
  rcases hd : l.drop k with _ | ⟨x, r⟩
  · have hkl := drop_nil hd
    have e1 : decide ((k : Int) < (((l.map V.int).length : Nat) : Int)) = false := by simp; omega
    have e3 : l.take k = l := List.take_of_length_le hkl
    rw [e3] at hgood ⊢
    have hng : ¬ l.any badC = true := by simpa using hgood
    have hr : ∀ x ∈ l, 1 ≤ x ∧ x ≤ 16 := fun x hx => by have := hgood x hx; simp [badC] at this; omega
    have hpv : printG [] l [] = none → printV l = .tup [V.str [], V.int 5] := fun h => by rw [printV, if_neg hng, h]
    repeat' (first | refine awp_seqR fun K' hK => ?_ | refine awp_regR fun K' hK => ?_ | refine awp_seqK ?_ | refine awp_skip ?_ | refine awp_block ?_ | ((first | refine awp_cond ⟨_, rfl, fun hc => ?_, fun hc => ?_⟩ | refine awB_t (fun hc => ?_) (fun hc => ?_) | refine awB_f (fun hc => ?_) (fun hc => ?_)) <;> first | exact Bool.noConfusion hc | ((try simp only [decide_eq_true_eq, decide_eq_false_iff_not, beq_iff_eq, beq_eq_false_iff_ne, ne_eq, Bool.not_eq_true', Bool.not_eq_false'] at hc); first | (exfalso; simp only [List.length_map] at hc; omega) | (exfalso; omega) | skip)) | refine awp_ret ?_ | refine awp_exit ?_ | simp (maxSteps := 1000000) only [go_sem, Nat.reduceAdd, Nat.reduceMul, Nat.reduceEqDiff, Nat.reduceLeDiff, Nat.reduceLT, Nat.reduceSub, Int.reduceEq, Int.reduceBEq, Int.reduceLT, Int.reduceLE, Int.reduceAdd, Int.reduceToNat, reduceIte, reduceCtorEq, mkSt, e1] | (refine hK _ ?_; clear hK; clear K') | refine And.intro ?_ ?_ | (apply awCs_A; (focus (first | exact (h_catalog_Suite _).b | exact (h_catalog_Find _).b | exact (h_slices_Contains___int_int _ _ (by first | assumption | omega | (simp; done))).b | exact (h_strings_Join _ _ (by first | assumption | omega | (simp; done)) (by first | assumption | omega | (simp; done))).b))) | (simp only [List.length_append, List.length_cons, List.length_nil, List.length_map, Nat.reducePow, Nat.reduceAdd]; omega) | omega | exact List.mem_singleton_self _)
    refine awp_loopP (ι := Nat) (fun j => j ≤ l.length ∧ (l.take j).Nodup) (fun j => [(41, V.int j)]) (fun j => l.length - j) 0 (by omega) ⟨by omega, by simp⟩ (by repeat' first | exact ltO_none | refine ltO_upd (by omega) (by simp only [Ob.lt, ltL, V.lt, and_self, and_true]; try omega) ?_) (fun i hi => by simp only [ovT, lookD, Nat.reduceEqDiff, reduceIte]; (repeat' first | exact ltT_nil | refine ltT_cons ?_ ?_ | simp only [V.lt, ltL, and_self, and_true] | omega)) (by simp only [Nat.reduceAdd, ovT, lookD, Nat.reduceEqDiff, reduceIte, eqT_cons, eqT_nil, renI, u32, u33, u34, u35, u36, u37, u38, u39, and_self, and_true, true_and]; first | done | rfl) fun j hj K'' hL2 => ?_
    obtain ⟨hj, hnd⟩ := hj
    simp only [ovT, lookD, Nat.reduceEqDiff, reduceIte]
    rcases hdj : l.drop j with _ | ⟨y, r2⟩
    · have hjl := drop_nil hdj
      have e2 : decide ((j : Int) < (((l.map V.int).length : Nat) : Int)) = false := by simp; omega
      have e4 : l.take j = l := List.take_of_length_le hjl
      rw [e4] at hnd
      have hjn := join_names l
      have hjl2 := joinN_len l
      have hjoin := (h_strings_Join (l.map nameP) [58] (by simp; omega) (by rw [hjn]; omega)).b
      rw [hjn] at hjoin
      rw [printV_join hnd hr]
      have e5 : (l.map nameP).length = l.length := by simp
      repeat' (first | refine awp_seqR fun K' hK => ?_ | refine awp_regR fun K' hK => ?_ | refine awp_seqK ?_ | refine awp_skip ?_ | refine awp_block ?_ | ((first | refine awp_cond ⟨_, rfl, fun hc => ?_, fun hc => ?_⟩ | refine awB_t (fun hc => ?_) (fun hc => ?_) | refine awB_f (fun hc => ?_) (fun hc => ?_)) <;> first | exact Bool.noConfusion hc | ((try simp only [decide_eq_true_eq, decide_eq_false_iff_not, beq_iff_eq, beq_eq_false_iff_ne, ne_eq, Bool.not_eq_true', Bool.not_eq_false'] at hc); first | (exfalso; simp only [List.length_map] at hc; omega) | (exfalso; omega) | skip)) | refine awp_ret ?_ | refine awp_exit ?_ | simp (maxSteps := 1000000) only [go_sem, Nat.reduceAdd, Nat.reduceMul, Nat.reduceEqDiff, Nat.reduceLeDiff, Nat.reduceLT, Nat.reduceSub, Int.reduceEq, Int.reduceBEq, Int.reduceLT, Int.reduceLE, Int.reduceAdd, Int.reduceToNat, reduceIte, reduceCtorEq, e2, take_lm] | (refine hK _ ?_; clear hK; clear K') | refine And.intro ?_ ?_ | (apply awCs_A; (focus (first | exact hjoin | exact (h_catalog_Suite _).b | exact (h_catalog_Find _).b | exact (h_slices_Contains___int_int _ _ (by first | assumption | omega | (simp; done))).b | exact (h_strings_Join _ _ (by first | assumption | omega | (simp; done)) (by first | assumption | omega | (simp; done))).b))) | (simp only [List.length_append, List.length_cons, List.length_nil, List.length_map, Nat.reducePow, Nat.reduceAdd]; omega) | omega | exact List.mem_singleton_self _)
      all_goals first | (refine ends_r _ rfl ?_; simp only [go_sem, Nat.reduceEqDiff, Nat.reduceAdd, reduceIte, reduceCtorEq]; done) | trace_state
    · obtain ⟨hj', hgj, hrj⟩ := drop_cons hdj
      have hwj := wrap_succ (k := j) (by omega)
      have e2 : decide ((j : Int) < (((l.map V.int).length : Nat) : Int)) = true := by simp; omega
      have hA : List.take (j - 0) (l.map V.int) = (l.take j).map V.int := by rw [Nat.sub_zero, List.map_take]
      have hf := find0_iff y (l.take j) 0
      have hc1 := (h_slices_Contains___int_int (l.take j) y (by rw [List.length_take]; omega)).b
      by_cases hin : y ∈ l.take j
      · rw [decide_eq_true (hf.2 hin)] at hc1
        have hnn : ¬ l.Nodup := by
          intro h
          have := not_in_take' h hgj
          exact this hin
        rw [hpv (printG_twice l [] [] List.nodup_nil (by simpa using hnn))]
        repeat' (first | refine awp_seqR fun K' hK => ?_ | refine awp_regR fun K' hK => ?_ | refine awp_seqK ?_ | refine awp_skip ?_ | refine awp_block ?_ | ((first | refine awp_cond ⟨_, rfl, fun hc => ?_, fun hc => ?_⟩ | refine awB_t (fun hc => ?_) (fun hc => ?_) | refine awB_f (fun hc => ?_) (fun hc => ?_)) <;> first | exact Bool.noConfusion hc | ((try simp only [decide_eq_true_eq, decide_eq_false_iff_not, beq_iff_eq, beq_eq_false_iff_ne, ne_eq, Bool.not_eq_true', Bool.not_eq_false'] at hc); first | (exfalso; simp only [List.length_map] at hc; omega) | (exfalso; omega) | skip)) | refine awp_ret ?_ | refine awp_exit ?_ | simp (maxSteps := 1000000) only [go_sem, Nat.reduceAdd, Nat.reduceMul, Nat.reduceEqDiff, Nat.reduceLeDiff, Nat.reduceLT, Nat.reduceSub, Int.reduceEq, Int.reduceBEq, Int.reduceLT, Int.reduceLE, Int.reduceAdd, Int.reduceToNat, reduceIte, reduceCtorEq, e2, hwj, Int.toNat_natCast, List.getElem?_map, hgj, hA] | (refine hK _ ?_; clear hK; clear K') | refine And.intro ?_ ?_ | (apply awCs_A; (focus (first | exact hc1 | exact (h_catalog_Suite _).b | exact (h_catalog_Find _).b | exact (h_slices_Contains___int_int _ _ (by first | assumption | omega | (simp; done))).b | exact (h_strings_Join _ _ (by first | assumption | omega | (simp; done)) (by first | assumption | omega | (simp; done))).b))) | (simp only [List.length_append, List.length_cons, List.length_nil, List.length_map, Nat.reducePow, Nat.reduceAdd]; omega) | omega | exact List.mem_singleton_self _)
        all_goals first | (refine ends_r _ rfl ?_; simp only [go_sem, Nat.reduceEqDiff, Nat.reduceAdd, reduceIte, reduceCtorEq]; done) | trace_state
      · rw [decide_eq_false (fun h => hin (hf.1 h))] at hc1
        have hnd2 : (l.take (j + 1)).Nodup := by
          rw [List.take_add_one, hgj]
          exact List.nodup_append.2 ⟨hnd, by simp, fun a ha b hb e => by simp at hb; subst hb; subst e; exact hin ha⟩
        repeat' (first | refine awp_seqR fun K' hK => ?_ | refine awp_regR fun K' hK => ?_ | refine awp_seqK ?_ | refine awp_skip ?_ | refine awp_block ?_ | ((first | refine awp_cond ⟨_, rfl, fun hc => ?_, fun hc => ?_⟩ | refine awB_t (fun hc => ?_) (fun hc => ?_) | refine awB_f (fun hc => ?_) (fun hc => ?_)) <;> first | exact Bool.noConfusion hc | ((try simp only [decide_eq_true_eq, decide_eq_false_iff_not, beq_iff_eq, beq_eq_false_iff_ne, ne_eq, Bool.not_eq_true', Bool.not_eq_false'] at hc); first | (exfalso; simp only [List.length_map] at hc; omega) | (exfalso; omega) | skip)) | refine awp_ret ?_ | refine awp_exit ?_ | simp (maxSteps := 1000000) only [go_sem, Nat.reduceAdd, Nat.reduceMul, Nat.reduceEqDiff, Nat.reduceLeDiff, Nat.reduceLT, Nat.reduceSub, Int.reduceEq, Int.reduceBEq, Int.reduceLT, Int.reduceLE, Int.reduceAdd, Int.reduceToNat, reduceIte, reduceCtorEq, e2, hwj, Int.toNat_natCast, List.getElem?_map, hgj, hA] | (refine hK _ ?_; clear hK; clear K') | refine And.intro ?_ ?_ | (apply awCs_A; (focus (first | exact hc1 | exact (h_catalog_Suite _).b | exact (h_catalog_Find _).b | exact (h_slices_Contains___int_int _ _ (by first | assumption | omega | (simp; done))).b | exact (h_strings_Join _ _ (by first | assumption | omega | (simp; done)) (by first | assumption | omega | (simp; done))).b))) | (simp only [List.length_append, List.length_cons, List.length_nil, List.length_map, Nat.reducePow, Nat.reduceAdd]; omega) | omega | exact List.mem_singleton_self _)
        all_goals first | exact hL2 _ (j + 1) (by simp only [Nat.reduceAdd, ovT, lookD, Nat.reduceEqDiff, reduceIte, eqT_cons, eqT_nil, renI, u32, u33, u34, u35, u36, u37, u38, u39, and_self, and_true, true_and]) ⟨by omega, hnd2⟩ (by omega) (fun a ha => by simp only [u32, u33, u34, u35, u36, u37, u38, u39]; repeat rw [if_neg (by omega)]) | trace_state
  · obtain ⟨hk', hget, hr⟩ := drop_cons hd
    have hw := wrap_succ (k := k) (by omega)
    have e1 : decide ((k : Int) < (((l.map V.int).length : Nat) : Int)) = true := by simp; omega
    by_cases hx : 1 ≤ x ∧ x ≤ 16
    · have hsv : suiteV x = .tup [(suiteAt x).v, V.int 0] := by rw [suiteV, if_pos hx]
      have hnf := name_find hx
      have hnl := nameP_len x
      have hgood2 : ∀ y ∈ l.take (k + 1), badC y = false := by
        rw [List.take_add_one, hget]
        intro y hy
        rcases List.mem_append.1 hy with hy | hy
        · exact hgood y hy
        · simp at hy; subst hy; simp [badC]; omega
      have hns : (l.take (k + 1)).map nameP = (l.take k).map nameP ++ [nameP x] := by rw [List.take_add_one, hget, List.map_append]; rfl
      have hnl2 : ((l.take k).map nameP).length ≤ 2 ^ 30 := by simp; omega
      generalize (l.take k).map nameP = ns at *
      have hb : List.map V.str ns ++ [V.str (nameP x)] = (ns ++ [nameP x]).map V.str := by rw [List.map_append]; rfl
      have hln : ns.length + 1 = (ns ++ [nameP x]).length := by simp
      rcases hfd : decide (findR (suiteAt x).name 0 rowsL > 0) with _ | _
      · rw [if_neg (of_decide_eq_false hfd), List.append_nil] at hnf
        rw [hnf] at hb hln hns hnl
        repeat' (first | refine awp_seqR fun K' hK => ?_ | refine awp_regR fun K' hK => ?_ | refine awp_seqK ?_ | refine awp_skip ?_ | refine awp_block ?_ | ((first | refine awp_cond ⟨_, rfl, fun hc => ?_, fun hc => ?_⟩ | refine awB_t (fun hc => ?_) (fun hc => ?_) | refine awB_f (fun hc => ?_) (fun hc => ?_)) <;> first | exact Bool.noConfusion hc | ((try simp only [decide_eq_true_eq, decide_eq_false_iff_not, beq_iff_eq, beq_eq_false_iff_ne, ne_eq, Bool.not_eq_true', Bool.not_eq_false'] at hc); first | (exfalso; simp only [List.length_map] at hc; omega) | (exfalso; omega) | skip)) | refine awp_ret ?_ | refine awp_exit ?_ | simp (maxSteps := 1000000) only [go_sem, Nat.reduceAdd, Nat.reduceMul, Nat.reduceEqDiff, Nat.reduceLeDiff, Nat.reduceLT, Nat.reduceSub, Int.reduceEq, Int.reduceBEq, Int.reduceLT, Int.reduceLE, Int.reduceAdd, Int.reduceToNat, reduceIte, reduceCtorEq, mkSt, e1, hsv, hw, hfd, Int.toNat_natCast, List.getElem?_map, hget, CSuite.v, CSuite.cells, take_lm, hb, hln] | (refine hK _ ?_; clear hK; clear K') | refine And.intro ?_ ?_ | (apply awCs_A; (focus (first | exact (h_catalog_Suite _).b | exact (h_catalog_Find _).b | exact (h_slices_Contains___int_int _ _ (by first | assumption | omega | (simp; done))).b | exact (h_strings_Join _ _ (by first | assumption | omega | (simp; done)) (by first | assumption | omega | (simp; done))).b))) | (simp only [List.length_append, List.length_cons, List.length_nil, List.length_map, Nat.reducePow, Nat.reduceAdd]; omega) | omega | exact List.mem_singleton_self _)
        all_goals first
          | (refine hL _ (k + 1) (lookN [(0, 22001)]) ⟨by omega, hgood2⟩ (by omega) ?_
             rw [hns]
             exact weak_g [(0, 22001)] (by simp only [go_sem, Nat.reduceAdd, Nat.reduceMul, Nat.reduceEqDiff, Nat.reduceLT, Int.reduceToNat, reduceIte, reduceCtorEq, and_true, true_and, implies_true, Option.some.injEq, exists_eq_left', closedL_ren, closed_ren]; (repeat' (first | rfl | refine And.intro ?_ ?_ | omega | exact fun h => h | exact Exists.intro _ rfl))) (by simp only [go_sem, Nat.reduceAdd, Nat.reduceMul, Nat.reduceEqDiff, Nat.reduceLT, Int.reduceToNat, reduceIte, reduceCtorEq, and_true, true_and, implies_true, Option.some.injEq, exists_eq_left', closedL_ren, closed_ren]; (repeat' (first | rfl | refine And.intro ?_ ?_ | omega | exact fun h => h | exact Exists.intro _ rfl))) (by simp [lookN]) (by simp; omega) (by omega))
          | (simp only [List.length_append, List.length_singleton]; omega)
          | trace_state
      · rw [if_pos (of_decide_eq_true hfd)] at hnf
        rw [hnf] at hb hln hns hnl
        repeat' (first | refine awp_seqR fun K' hK => ?_ | refine awp_regR fun K' hK => ?_ | refine awp_seqK ?_ | refine awp_skip ?_ | refine awp_block ?_ | ((first | refine awp_cond ⟨_, rfl, fun hc => ?_, fun hc => ?_⟩ | refine awB_t (fun hc => ?_) (fun hc => ?_) | refine awB_f (fun hc => ?_) (fun hc => ?_)) <;> first | exact Bool.noConfusion hc | ((try simp only [decide_eq_true_eq, decide_eq_false_iff_not, beq_iff_eq, beq_eq_false_iff_ne, ne_eq, Bool.not_eq_true', Bool.not_eq_false'] at hc); first | (exfalso; simp only [List.length_map] at hc; omega) | (exfalso; omega) | skip)) | refine awp_ret ?_ | refine awp_exit ?_ | simp (maxSteps := 1000000) only [go_sem, Nat.reduceAdd, Nat.reduceMul, Nat.reduceEqDiff, Nat.reduceLeDiff, Nat.reduceLT, Nat.reduceSub, Int.reduceEq, Int.reduceBEq, Int.reduceLT, Int.reduceLE, Int.reduceAdd, Int.reduceToNat, reduceIte, reduceCtorEq, mkSt, e1, hsv, hw, hfd, Int.toNat_natCast, List.getElem?_map, hget, CSuite.v, CSuite.cells, take_lm, hb, hln] | (refine hK _ ?_; clear hK; clear K') | refine And.intro ?_ ?_ | (apply awCs_A; (focus (first | exact (h_catalog_Suite _).b | exact (h_catalog_Find _).b | exact (h_slices_Contains___int_int _ _ (by first | assumption | omega | (simp; done))).b | exact (h_strings_Join _ _ (by first | assumption | omega | (simp; done)) (by first | assumption | omega | (simp; done))).b))) | (simp only [List.length_append, List.length_cons, List.length_nil, List.length_map, Nat.reducePow, Nat.reduceAdd]; omega) | omega | exact List.mem_singleton_self _)
        all_goals first
          | (refine hL _ (k + 1) (lookN [(0, 27001)]) ⟨by omega, hgood2⟩ (by omega) ?_
             rw [hns]
             exact weak_g [(0, 27001)] (by simp only [go_sem, Nat.reduceAdd, Nat.reduceMul, Nat.reduceEqDiff, Nat.reduceLT, Int.reduceToNat, reduceIte, reduceCtorEq, and_true, true_and, implies_true, Option.some.injEq, exists_eq_left', closedL_ren, closed_ren]; (repeat' (first | rfl | refine And.intro ?_ ?_ | omega | exact fun h => h | exact Exists.intro _ rfl))) (by simp only [go_sem, Nat.reduceAdd, Nat.reduceMul, Nat.reduceEqDiff, Nat.reduceLT, Int.reduceToNat, reduceIte, reduceCtorEq, and_true, true_and, implies_true, Option.some.injEq, exists_eq_left', closedL_ren, closed_ren]; (repeat' (first | rfl | refine And.intro ?_ ?_ | omega | exact fun h => h | exact Exists.intro _ rfl))) (by simp [lookN]) (by simp; omega) (by omega))
          | (simp only [List.length_append, List.length_singleton] at *; omega)
          | trace_state
    · have hsv : suiteV x = .tup [(suiteAt x).v, V.int 8] := by rw [suiteV, if_neg hx]
      have hbad : printV l = .tup [V.str [], V.int 8] := by
        rw [printV, if_pos]
        rw [List.any_eq_true]
        exact ⟨x, List.mem_of_getElem? hget, by simp [badC]; omega⟩
      rw [hbad]
      repeat' (first | refine awp_seqR fun K' hK => ?_ | refine awp_regR fun K' hK => ?_ | refine awp_seqK ?_ | refine awp_skip ?_ | refine awp_block ?_ | ((first | refine awp_cond ⟨_, rfl, fun hc => ?_, fun hc => ?_⟩ | refine awB_t (fun hc => ?_) (fun hc => ?_) | refine awB_f (fun hc => ?_) (fun hc => ?_)) <;> first | exact Bool.noConfusion hc | ((try simp only [decide_eq_true_eq, decide_eq_false_iff_not, beq_iff_eq, beq_eq_false_iff_ne, ne_eq, Bool.not_eq_true', Bool.not_eq_false'] at hc); first | (exfalso; simp only [List.length_map] at hc; omega) | (exfalso; omega) | skip)) | refine awp_ret ?_ | refine awp_exit ?_ | simp (maxSteps := 1000000) only [go_sem, Nat.reduceAdd, Nat.reduceMul, Nat.reduceEqDiff, Nat.reduceLeDiff, Nat.reduceLT, Nat.reduceSub, Int.reduceEq, Int.reduceBEq, Int.reduceLT, Int.reduceLE, Int.reduceAdd, Int.reduceToNat, reduceIte, reduceCtorEq, mkSt, e1, hsv, hw, Int.toNat_natCast, List.getElem?_map, hget, CSuite.v, CSuite.cells] | (refine hK _ ?_; clear hK; clear K') | refine And.intro ?_ ?_ | (apply awCs_A; (focus (first | exact (h_catalog_Suite _).b | exact (h_catalog_Find _).b | exact (h_slices_Contains___int_int _ _ (by first | assumption | omega | (simp; done))).b | exact (h_strings_Join _ _ (by first | assumption | omega | (simp; done)) (by first | assumption | omega | (simp; done))).b))) | (simp only [List.length_append, List.length_cons, List.length_nil, List.length_map, Nat.reducePow, Nat.reduceAdd]; omega) | omega | exact List.mem_singleton_self _)
      all_goals first | (refine ends_r _ rfl ?_; simp only [go_sem, Nat.reduceEqDiff, Nat.reduceAdd, reduceIte, reduceCtorEq]; done) | trace_state
end Av
end
section
set_option linter.unusedSimpArgs false
set_option linter.unusedVariables false
set_option maxRecDepth 10000
set_option maxHeartbeats 4000000
namespace Av
open Go
attribute [local irreducible] AWp runO runP runG awS awC awCv awQ awRd awCallR awCvR awQR awR awRdR awB okR plan ris
def suitesGo (l : List Int) : Nat → List Int → Nat → List Int × Nat
  | 0, a, k => (a, k)
  | i + 1, a, k => suitesGo l i (if a.contains (1 + (nextD l k 16).1) = true then a else a ++ [1 + (nextD l k 16).1]) (nextD l k 16).2
def suites1 (l : List Int) (k : Nat) : List Int × Nat := suitesGo l (2 + (nextD l k 9).1).toNat [] (nextD l k 9).2
def suitesD (l : List Int) (k : Nat) : List Int × Nat := (if (nextD l (suites1 l k).2 4).1 = 3 then sortS (suites1 l k).1 else (suites1 l k).1, (nextD l (suites1 l k).2 4).2)
structure NR (a : List Int) : Prop where
  nd : a.Nodup
  rg : ∀ x ∈ a, 1 ≤ x ∧ x ≤ 16
theorem NR.add {a : List Int} (h : NR a) (l : List Int) (k : Nat) : NR (if a.contains (1 + (nextD l k 16).1) = true then a else a ++ [1 + (nextD l k 16).1]) := by
  have hr := nextD_range (l := l) (k := k) (n := 16) (by omega) (by omega)
  split
  · exact h
  · rename_i hc
    have hx : 1 + (nextD l k 16).1 ∉ a := by simpa using hc
    refine ⟨List.nodup_append.2 ⟨h.nd, by simp, fun x hx2 y hy e => ?_⟩, fun x hx2 => ?_⟩
    · simp at hy; subst hy; subst e; exact hx hx2
    · rcases List.mem_append.1 hx2 with h1 | h1
      · exact h.rg x h1
      · simp at h1; omega
theorem suitesGo_ok (l : List Int) : ∀ (i : Nat) (a : List Int) (k : Nat), NR a → k ≤ l.length → NR (suitesGo l i a k).1 ∧ (suitesGo l i a k).2 ≤ l.length
  | 0, a, k, h, hk => ⟨h, hk⟩
  | i + 1, a, k, h, hk => suitesGo_ok l i _ _ (h.add l k) (nextD_le hk)
theorem suites1_ok {l : List Int} {k : Nat} (hk : k ≤ l.length) : NR (suites1 l k).1 ∧ (suites1 l k).2 ≤ l.length :=
  suitesGo_ok l _ _ _ ⟨List.nodup_nil, fun x h => by simp at h⟩ (nextD_le hk)
theorem suitesD_ok {l : List Int} {k : Nat} (hk : k ≤ l.length) : NR (suitesD l k).1 ∧ (suitesD l k).2 ≤ l.length := by
  have h := suites1_ok hk
  refine ⟨?_, nextD_le h.2⟩
  unfold suitesD
  split
  · have hp := sortS_perm (suites1 l k).1
    exact ⟨hp.nodup_iff.2 h.1.nd, fun x hx => h.1.rg x (hp.mem_iff.1 hx)⟩
  · exact h.1
def c_make_Suites (f_make_Dice__Next f_ref02_Has f_make_Dice__One f_ref08_Sort : Nat) : AC := seqK [0] (.reg [xo 2 (.mknil 1)]) (seqK [0, 3] (.reg [xo 3 (.mknil 1)]) (seqK [0, 3] (seqK [0, 3, 4] (.reg [mv 6 0, xo 7 (.call f_make_Dice__Next [(.t 6), (.c (V.int 9))]), xo 8 (.bin .add (.c (V.int 2)) (.t 7)), mv 4 8]) (.block 0 (loopK [0, 3, 4] (seqK [0, 3, 4] (seqK [0, 3, 4, 10] (.reg [mv 9 4, bc 10 .gtr 9 (V.int 0)]) (.cond (.t 10) (.skip) (.exit 0))) (seqK [0, 3, 4] (.block 1 (seqK [0, 3, 4, 5] (.reg [mv 13 0, xo 14 (.call f_make_Dice__Next [(.t 13), (.c (V.int 16))]), xo 15 (.bin .add (.c (V.int 1)) (.t 14)), mv 5 15]) (seqK [0, 3, 4, 5, 19] (.reg [mv 16 3, mv 17 5, cl 18 f_ref02_Has [16, 17], xo 19 (.un .not (.t 18))]) (.cond (.t 19) (.reg [mv 20 3, mv 21 5, xo 22 (.bslice 1 1 false [(.int .i64 0)] [(0, (.t 21))]), xo 23 (.append 1 8 [(.int .i64 0)] (.t 20) (.t 22)), mv 3 23]) (.skip))))) (.reg [mv 11 4, bc 12 .sub 11 (V.int 1), mv 4 12])))))) (seqK [3] (seqK [3, 25] (.reg [mv 24 0, xo 25 (.call f_make_Dice__One [(.t 24), (.c (V.int 4))])]) (.cond (.t 25) (.reg [mv 26 3, cl 27 f_ref08_Sort [26], mv 3 27]) (.skip))) (seqK [2] (.reg [mv 28 3, mv 2 28]) (.ret))))) def r_make_Suites : List ARes := [.tmp 2]
def CE_make_Suites (Γ : Env) (f : Nat) : Prop := ∀ (l : List Int) (k : Nat) (hl : l.length ≤ 400) (hk : k ≤ l.length), EvD Γ f [] (dcell l k) (.sl 1 ((suitesD l k).1.map V.int)) (dcell l (suitesD l k).2)
theorem ev_make_Suites {Γ : Env} {f f_make_Dice__Next f_ref02_Has f_make_Dice__One f_ref08_Sort : Nat} (h : Has Γ.P f 29 (c_make_Suites f_make_Dice__Next f_ref02_Has f_make_Dice__One f_ref08_Sort) r_make_Suites) (h_make_Dice__Next : CE_make_Dice__Next Γ f_make_Dice__Next) (h_ref02_Has : CE_ref02_Has Γ f_ref02_Has) (h_make_Dice__One : CE_make_Dice__One Γ f_make_Dice__One) (h_ref08_Sort : CE_ref08_Sort Γ f_ref08_Sort) : CE_make_Suites Γ f := by
  intro l k hl hk
  refine evD_of_body h (by simp) (by simp only [V.closed, closedL, V.noSl, noSlL, and_self, and_true, true_and]) (by first | exact dcell_closed _ _ | simp only [V.closed, closedL, and_self, and_true, true_and]) (by first | exact dcell_closed _ _ | simp only [V.closed, closedL, and_self, and_true, true_and]) fun C hC hm => ?_
  subst hC
  unfold c_make_Suites
  have n1 := h_make_Dice__Next l k 9 hl hk
  have hr := nextD_range (l := l) (k := k) (n := 9) (by omega) (by omega)
  have hk1 := nextD_le (n := 9) hk
  have hw2 : IntKind.i64.wrap (2 + (nextD l k 9).1) = 2 + (nextD l k 9).1 := wrap_id (by omega) (by omega)
  obtain ⟨n, hn⟩ : ∃ n : Nat, 2 + (nextD l k 9).1 = (n : Int) := ⟨(2 + (nextD l k 9).1).toNat, by omega⟩
  have h1 : suites1 l k = suitesGo l n [] (nextD l k 9).2 := by rw [suites1, hn]; rfl
  have hok := suites1_ok hk
  unfold suitesD
  rw [h1] at hok ⊢
  have hnn : n ≤ 10 := by omega
  generalize nextD l k 9 = u at *
  obtain ⟨c, k1⟩ := u
  simp only [dcell] at n1 hk1 hw2 hn hok ⊢
  rw [hn] at hw2
  repeat' (first | refine awp_seqR fun K' hK => ?_ | refine awp_regR fun K' hK => ?_ | refine awp_seqK ?_ | refine awp_skip ?_ | refine awp_block ?_ | ((first | refine awp_cond ⟨_, rfl, fun hc => ?_, fun hc => ?_⟩ | refine awB_t (fun hc => ?_) (fun hc => ?_) | refine awB_f (fun hc => ?_) (fun hc => ?_)) <;> first | exact Bool.noConfusion hc | ((try simp only [decide_eq_true_eq, decide_eq_false_iff_not, beq_iff_eq, beq_eq_false_iff_ne, ne_eq, Bool.not_eq_true', Bool.not_eq_false'] at hc); first | (exfalso; simp only [List.length_map] at hc; omega) | (exfalso; omega) | skip)) | refine awp_ret ?_ | refine awp_exit ?_ | simp (maxSteps := 1000000) only [go_sem, Nat.reduceAdd, Nat.reduceMul, Nat.reduceEqDiff, Nat.reduceLeDiff, Nat.reduceLT, Nat.reduceSub, Int.reduceEq, Int.reduceBEq, Int.reduceLT, Int.reduceLE, Int.reduceAdd, Int.reduceToNat, reduceIte, reduceCtorEq, hn, hw2] | (refine hK _ ?_; clear hK; clear K') | refine And.intro ?_ ?_ | (apply awCs_D; (focus (exact rfl)); (focus (first | exact n1 | exact (h_make_Dice__Next _ _ _ (by first | assumption | omega | (simp; done)) (by first | assumption | omega | (simp; done))) | exact (h_make_Dice__One _ _ _ (by first | assumption | omega | (simp; done)) (by first | assumption | omega | (simp; done)) (by first | assumption | omega | (simp; done)) (by first | assumption | omega | (simp; done))))); (focus (exact rfl)); (focus (exact rfl))) | (apply awCs_W; (focus (first | exact (h_ref08_Sort _ (by first | assumption | omega | (simp; done)))))) | (apply awCs_A; (focus (first | exact (h_ref02_Has _ _ (by first | assumption | omega | (simp; done))).b))) | (simp only [List.length_append, List.length_cons, List.length_nil, List.length_map, Nat.reducePow, Nat.reduceAdd]; omega) | omega | exact List.mem_singleton_self _)
  refine awp_loopV (ι := Nat × List Int × Nat) (fun p => p.1 ≤ 10 ∧ NR p.2.1 ∧ p.2.2 ≤ l.length ∧ suitesGo l p.1 p.2.1 p.2.2 = suitesGo l n [] k1) (fun p => mkSt [(0, .ptr 0 0), (3, .hd 1 0 p.2.1.length), (4, V.int p.1)] [(0, .box true [.sl 1 (l.map V.int), V.int p.2.2]), (1, .buf true 1 (p.2.1.map V.int))] 2) (fun p => p.1) (n, [], k1) ⟨hnn, ⟨List.nodup_nil, fun x h => by simp at h⟩, hk1, rfl⟩ (lookN [(1, 1001)]) (weak_g [(1, 1001)] (by simp only [go_sem, Nat.reduceAdd, Nat.reduceMul, Nat.reduceEqDiff, Nat.reduceLT, Int.reduceToNat, reduceIte, reduceCtorEq, and_true, true_and, implies_true, Option.some.injEq, exists_eq_left', closedL_ren, closed_ren]; (repeat' (first | rfl | refine And.intro ?_ ?_ | omega | exact fun h => h | exact Exists.intro _ rfl))) (by simp only [go_sem, Nat.reduceAdd, Nat.reduceMul, Nat.reduceEqDiff, Nat.reduceLT, Int.reduceToNat, reduceIte, reduceCtorEq, and_true, true_and, implies_true, Option.some.injEq, exists_eq_left', closedL_ren, closed_ren]; (repeat' (first | rfl | refine And.intro ?_ ?_ | omega | exact fun h => h | exact Exists.intro _ rfl))) (by simp [lookN]) (by simp; omega) (by omega)) fun p hp K' hL => ?_
  obtain ⟨i, a, k2⟩ := p
  obtain ⟨hi, ha, hk2, hinv⟩ := hp
  simp only at hi ha hk2 hinv
  have hal := nd_len ha.nd ha.rg
  rcases i with _ | i
  · rw [← hinv] at hok ⊢
    simp only [suitesGo] at hok ⊢
    have o1 := h_make_Dice__One l k2 4 hl hk2 (by omega) (by omega)
    have e4 : ∀ v : Int, (v == 4 - 1) = decide (v = 3) := fun v => by rw [Bool.eq_iff_iff]; simp
    rw [e4] at o1
    simp only [dcell] at o1
    have hs := h_ref08_Sort a (by omega)
    obtain ⟨v, k3, hd4⟩ : ∃ v k3, nextD l k2 4 = (v, k3) := ⟨_, _, rfl⟩
    simp only [hd4] at o1 ⊢
    by_cases hv : v = 3
    · rw [decide_eq_true hv] at o1
      rw [if_pos hv]
      repeat' (first | refine awp_seqR fun K' hK => ?_ | refine awp_regR fun K' hK => ?_ | refine awp_seqK ?_ | refine awp_skip ?_ | refine awp_block ?_ | ((first | refine awp_cond ⟨_, rfl, fun hc => ?_, fun hc => ?_⟩ | refine awB_t (fun hc => ?_) (fun hc => ?_) | refine awB_f (fun hc => ?_) (fun hc => ?_)) <;> first | exact Bool.noConfusion hc | ((try simp only [decide_eq_true_eq, decide_eq_false_iff_not, beq_iff_eq, beq_eq_false_iff_ne, ne_eq, Bool.not_eq_true', Bool.not_eq_false'] at hc); first | (exfalso; simp only [List.length_map] at hc; omega) | (exfalso; omega) | skip)) | refine awp_ret ?_ | refine awp_exit ?_ | simp (maxSteps := 1000000) only [go_sem, Nat.reduceAdd, Nat.reduceMul, Nat.reduceEqDiff, Nat.reduceLeDiff, Nat.reduceLT, Nat.reduceSub, Int.reduceEq, Int.reduceBEq, Int.reduceLT, Int.reduceLE, Int.reduceAdd, Int.reduceToNat, reduceIte, reduceCtorEq, mkSt, take_lm] | (refine hK _ ?_; clear hK; clear K') | refine And.intro ?_ ?_ | (apply awCs_D; (focus (exact rfl)); (focus (first | exact o1 | exact (h_make_Dice__Next _ _ _ (by first | assumption | omega | (simp; done)) (by first | assumption | omega | (simp; done))) | exact (h_make_Dice__One _ _ _ (by first | assumption | omega | (simp; done)) (by first | assumption | omega | (simp; done)) (by first | assumption | omega | (simp; done)) (by first | assumption | omega | (simp; done))))); (focus (exact rfl)); (focus (exact rfl))) | (apply awCs_W; (focus (first | exact hs | exact (h_ref08_Sort _ (by first | assumption | omega | (simp; done)))))) | (apply awCs_A; (focus (first | exact (h_ref02_Has _ _ (by first | assumption | omega | (simp; done))).b))) | (simp only [List.length_append, List.length_cons, List.length_nil, List.length_map, Nat.reducePow, Nat.reduceAdd]; omega) | omega | exact List.mem_singleton_self _)
      all_goals (refine ends_d _ rfl rfl (by simp only [V.closed, closedL, and_self, and_true, true_and]) ?_; simp only [go_sem, Nat.reduceEqDiff, Nat.reduceAdd, reduceIte, reduceCtorEq]; exact ⟨by decide, (List.take_of_length_le (by simp)).symm⟩)
    · rw [decide_eq_false hv] at o1
      rw [if_neg hv]
      repeat' (first | refine awp_seqR fun K' hK => ?_ | refine awp_regR fun K' hK => ?_ | refine awp_seqK ?_ | refine awp_skip ?_ | refine awp_block ?_ | ((first | refine awp_cond ⟨_, rfl, fun hc => ?_, fun hc => ?_⟩ | refine awB_t (fun hc => ?_) (fun hc => ?_) | refine awB_f (fun hc => ?_) (fun hc => ?_)) <;> first | exact Bool.noConfusion hc | ((try simp only [decide_eq_true_eq, decide_eq_false_iff_not, beq_iff_eq, beq_eq_false_iff_ne, ne_eq, Bool.not_eq_true', Bool.not_eq_false'] at hc); first | (exfalso; simp only [List.length_map] at hc; omega) | (exfalso; omega) | skip)) | refine awp_ret ?_ | refine awp_exit ?_ | simp (maxSteps := 1000000) only [go_sem, Nat.reduceAdd, Nat.reduceMul, Nat.reduceEqDiff, Nat.reduceLeDiff, Nat.reduceLT, Nat.reduceSub, Int.reduceEq, Int.reduceBEq, Int.reduceLT, Int.reduceLE, Int.reduceAdd, Int.reduceToNat, reduceIte, reduceCtorEq, mkSt, take_lm] | (refine hK _ ?_; clear hK; clear K') | refine And.intro ?_ ?_ | (apply awCs_D; (focus (exact rfl)); (focus (first | exact o1 | exact (h_make_Dice__Next _ _ _ (by first | assumption | omega | (simp; done)) (by first | assumption | omega | (simp; done))) | exact (h_make_Dice__One _ _ _ (by first | assumption | omega | (simp; done)) (by first | assumption | omega | (simp; done)) (by first | assumption | omega | (simp; done)) (by first | assumption | omega | (simp; done))))); (focus (exact rfl)); (focus (exact rfl))) | (apply awCs_W; (focus (first | exact (h_ref08_Sort _ (by first | assumption | omega | (simp; done)))))) | (apply awCs_A; (focus (first | exact (h_ref02_Has _ _ (by first | assumption | omega | (simp; done))).b))) | (simp only [List.length_append, List.length_cons, List.length_nil, List.length_map, Nat.reducePow, Nat.reduceAdd]; omega) | omega | exact List.mem_singleton_self _)
      all_goals (refine ends_d _ rfl rfl (by simp only [V.closed, closedL, and_self, and_true, true_and]) ?_; simp only [go_sem, Nat.reduceEqDiff, Nat.reduceAdd, reduceIte, reduceCtorEq]; exact ⟨by decide, (List.take_of_length_le (by simp)).symm⟩)
  · have e1 : decide (((i + 1 : Nat) : Int) > 0) = true := decide_eq_true (by omega)
    have hwi : IntKind.i64.wrap (((i + 1 : Nat) : Int) - 1) = (i : Int) := by rw [wrap_id (by omega) (by omega)]; omega
    have n2 := h_make_Dice__Next l k2 16 hl hk2
    have hr2 := nextD_range (l := l) (k := k2) (n := 16) (by omega) (by omega)
    have hk3 := nextD_le (n := 16) hk2
    have hadd := ha.add l k2
    rw [suitesGo] at hinv
    generalize nextD l k2 16 = d at *
    obtain ⟨v, k3⟩ := d
    simp only [dcell] at n2 hr2 hk3 hadd hinv
    have hwv : IntKind.i64.wrap (1 + v) = 1 + v := wrap_id (by omega) (by omega)
    have hc1 := (h_ref02_Has a (1 + v) (by omega)).b
    rcases hin : a.contains (1 + v) with _ | _
    · rw [hin] at hc1 hadd hinv
      simp only [Bool.false_eq_true, if_false] at hadd hinv
      have hb : List.map V.int a ++ [V.int (1 + v)] = (a ++ [1 + v]).map V.int := by rw [List.map_append]; rfl
      have hln : a.length + 1 = (a ++ [1 + v]).length := by simp
      repeat' (first | refine awp_seqR fun K' hK => ?_ | refine awp_regR fun K' hK => ?_ | refine awp_seqK ?_ | refine awp_skip ?_ | refine awp_block ?_ | ((first | refine awp_cond ⟨_, rfl, fun hc => ?_, fun hc => ?_⟩ | refine awB_t (fun hc => ?_) (fun hc => ?_) | refine awB_f (fun hc => ?_) (fun hc => ?_)) <;> first | exact Bool.noConfusion hc | ((try simp only [decide_eq_true_eq, decide_eq_false_iff_not, beq_iff_eq, beq_eq_false_iff_ne, ne_eq, Bool.not_eq_true', Bool.not_eq_false'] at hc); first | (exfalso; simp only [List.length_map] at hc; omega) | (exfalso; omega) | skip)) | refine awp_ret ?_ | refine awp_exit ?_ | simp (maxSteps := 1000000) only [go_sem, Nat.reduceAdd, Nat.reduceMul, Nat.reduceEqDiff, Nat.reduceLeDiff, Nat.reduceLT, Nat.reduceSub, Int.reduceEq, Int.reduceBEq, Int.reduceLT, Int.reduceLE, Int.reduceAdd, Int.reduceToNat, reduceIte, reduceCtorEq, mkSt, e1, hwi, hwv, take_lm, hb, hln] | (refine hK _ ?_; clear hK; clear K') | refine And.intro ?_ ?_ | (apply awCs_D; (focus (exact rfl)); (focus (first | exact n2 | exact (h_make_Dice__Next _ _ _ (by first | assumption | omega | (simp; done)) (by first | assumption | omega | (simp; done))) | exact (h_make_Dice__One _ _ _ (by first | assumption | omega | (simp; done)) (by first | assumption | omega | (simp; done)) (by first | assumption | omega | (simp; done)) (by first | assumption | omega | (simp; done))))); (focus (exact rfl)); (focus (exact rfl))) | (apply awCs_W; (focus (first | exact (h_ref08_Sort _ (by first | assumption | omega | (simp; done)))))) | (apply awCs_A; (focus (first | exact hc1 | exact (h_ref02_Has _ _ (by first | assumption | omega | (simp; done))).b))) | (simp only [List.length_append, List.length_cons, List.length_nil, List.length_map, Nat.reducePow, Nat.reduceAdd]; omega) | omega | exact List.mem_singleton_self _)
      all_goals first
        | exact hL _ (i, a ++ [1 + v], k3) (lookN [(1, 13002)]) ⟨by simp only; omega, hadd, hk3, hinv⟩ (by simp only; omega) (weak_g [(1, 13002)] (by simp only [go_sem, Nat.reduceAdd, Nat.reduceMul, Nat.reduceEqDiff, Nat.reduceLT, Int.reduceToNat, reduceIte, reduceCtorEq, and_true, true_and, implies_true, Option.some.injEq, exists_eq_left', closedL_ren, closed_ren]; (repeat' (first | rfl | refine And.intro ?_ ?_ | omega | exact fun h => h | exact Exists.intro _ rfl))) (by simp only [go_sem, Nat.reduceAdd, Nat.reduceMul, Nat.reduceEqDiff, Nat.reduceLT, Int.reduceToNat, reduceIte, reduceCtorEq, and_true, true_and, implies_true, Option.some.injEq, exists_eq_left', closedL_ren, closed_ren]; (repeat' (first | rfl | refine And.intro ?_ ?_ | omega | exact fun h => h | exact Exists.intro _ rfl))) (by simp [lookN]) (by simp; omega) (by omega))
        | (simp only [List.length_append, List.length_singleton]; omega)
        | trace_state
    · rw [hin] at hc1 hadd hinv
      simp only [if_true] at hadd hinv
      repeat' (first | refine awp_seqR fun K' hK => ?_ | refine awp_regR fun K' hK => ?_ | refine awp_seqK ?_ | refine awp_skip ?_ | refine awp_block ?_ | ((first | refine awp_cond ⟨_, rfl, fun hc => ?_, fun hc => ?_⟩ | refine awB_t (fun hc => ?_) (fun hc => ?_) | refine awB_f (fun hc => ?_) (fun hc => ?_)) <;> first | exact Bool.noConfusion hc | ((try simp only [decide_eq_true_eq, decide_eq_false_iff_not, beq_iff_eq, beq_eq_false_iff_ne, ne_eq, Bool.not_eq_true', Bool.not_eq_false'] at hc); first | (exfalso; simp only [List.length_map] at hc; omega) | (exfalso; omega) | skip)) | refine awp_ret ?_ | refine awp_exit ?_ | simp (maxSteps := 1000000) only [go_sem, Nat.reduceAdd, Nat.reduceMul, Nat.reduceEqDiff, Nat.reduceLeDiff, Nat.reduceLT, Nat.reduceSub, Int.reduceEq, Int.reduceBEq, Int.reduceLT, Int.reduceLE, Int.reduceAdd, Int.reduceToNat, reduceIte, reduceCtorEq, mkSt, e1, hwi, hwv, take_lm] | (refine hK _ ?_; clear hK; clear K') | refine And.intro ?_ ?_ | (apply awCs_D; (focus (exact rfl)); (focus (first | exact n2 | exact (h_make_Dice__Next _ _ _ (by first | assumption | omega | (simp; done)) (by first | assumption | omega | (simp; done))) | exact (h_make_Dice__One _ _ _ (by first | assumption | omega | (simp; done)) (by first | assumption | omega | (simp; done)) (by first | assumption | omega | (simp; done)) (by first | assumption | omega | (simp; done))))); (focus (exact rfl)); (focus (exact rfl))) | (apply awCs_W; (focus (first | exact (h_ref08_Sort _ (by first | assumption | omega | (simp; done)))))) | (apply awCs_A; (focus (first | exact hc1 | exact (h_ref02_Has _ _ (by first | assumption | omega | (simp; done))).b))) | (simp only [List.length_append, List.length_cons, List.length_nil, List.length_map, Nat.reducePow, Nat.reduceAdd]; omega) | omega | exact List.mem_singleton_self _)
      all_goals first
        | exact hL _ (i, a, k3) (lookN []) ⟨by simp only; omega, hadd, hk3, hinv⟩ (by simp only; omega) (weak_g [] (by simp only [go_sem, Nat.reduceAdd, Nat.reduceMul, Nat.reduceEqDiff, Nat.reduceLT, Int.reduceToNat, reduceIte, reduceCtorEq, and_true, true_and, implies_true, Option.some.injEq, exists_eq_left', closedL_ren, closed_ren]; (repeat' (first | rfl | refine And.intro ?_ ?_ | omega | exact fun h => h | exact Exists.intro _ rfl))) (by simp only [go_sem, Nat.reduceAdd, Nat.reduceMul, Nat.reduceEqDiff, Nat.reduceLT, Int.reduceToNat, reduceIte, reduceCtorEq, and_true, true_and, implies_true, Option.some.injEq, exists_eq_left', closedL_ren, closed_ren]; (repeat' (first | rfl | refine And.intro ?_ ?_ | omega | exact fun h => h | exact Exists.intro _ rfl))) (by simp [lookN]) (by simp) (by omega))
        | trace_state
end Av
end

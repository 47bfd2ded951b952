/- A contract serves for arguments that say more: a nil slice is a slice of nothing. -/
import Derived.Test.YtalpffbofjlfgaaDoorK13
import Derived.Test.YtalpffbofjlfgaaDoorK15
import Derived.KernelRfl
set_option linter.unusedVariables false
set_option linter.unusedSimpArgs false
section
set_option linter.unusedSimpArgs false
set_option linter.unusedVariables false
set_option maxRecDepth 10000
set_option maxHeartbeats 4000000
namespace Av
open Go
attribute [local irreducible] AWp Y0 Xe Xo awS awC Wo awQ Wp QS JT Wm awR JV awB okR Y6 ris
def acn (n : Int) : Bool := decide (n < 0) || decide (n > 99999)
def W1 (v : List Int) : Bool := decide (1 ≤ v.length) && decide (v.length ≤ 4) && !v.any acn
def X6 : AC := QP [0] (.reg [mc 2 (V.bool false)]) (QP [0] (QP [0, 5, 6, 7] (.reg [mv 5 0, ln 6 5, mc 7 (V.int 0)]) (.block 0 (VC [0, 5, 6, 7] (QP [0, 5, 6, 7, 8] (.reg [bn 8 .lss 7 6]) (QP [0, 5, 6, 7] (.cond (.t 8) (.skip) (.exit 0)) (QP [0, 5, 6, 7] (.block 1 (QP [0, 4, 5, 6, 7] (.reg [ia 9 1 5 7, ld 10 1 9, mv 4 10]) (QP [0, 5, 6, 7, 16] (.reg [mv 11 4, bc 12 .lss 11 (V.int 0), mv 13 12, mg 14 4 13 false, xg 15 (.bin .gtr (.t 14) (.c (V.int 99999))) 13 false, xo 16 (.pick (.t 13) (.c (V.bool true)) (.t 15))]) (.cond (.t 16) (QP [2] (.reg [mc 2 (V.bool false)]) (.ret)) (.skip))))) (.reg [bc 17 .add 7 (V.int 1), mv 7 17]))))))) (QP [2] (.reg [mv 18 0, ln 19 18, bc 20 .geq 19 (V.int 1), mv 21 20, mg 22 0 21 true, xg 23 (.lenL (.t 22)) 21 true, xg 24 (.bin .leq (.t 23) (.c (V.int 4))) 21 true, xo 25 (.pick (.t 21) (.t 24) (.c (V.bool false))), mv 2 25]) (.ret))) def r_packages_version : List Xq := [.tmp 2]
def JX (Γ : Env) (f : Nat) : Prop := ∀ (v : List Int) (hv : v.length < 2 ^ 62), EvN Γ f [.sl 1 (v.map V.int)] (V.bool (W1 v))
theorem Kv {Γ : Env} {f : Nat} (h : Has Γ.P f 26 X6 r_packages_version)  : JX Γ f := by
  intro v hv
  refine Q1 h (by simp) (by simp only [V.closed, Qg, V.noSl, Jw, and_self, and_true, true_and]) (by simp only [V.closed, Qg, V.noSl, Jw, and_self, and_true, true_and]) fun C hC hm => ?_
  subst hC
  unfold X6
  repeat' (first | refine Qe fun K' hK => ?_ | refine Qk fun K' hK => ?_ | refine Qf ?_ | refine Qj ?_ | refine Qa ?_ | ((first | refine Qi ⟨_, rfl, fun hc => ?_, fun hc => ?_⟩ | refine QY (fun hc => ?_) (fun hc => ?_) | refine QZ (fun hc => ?_) (fun hc => ?_)) <;> first | exact Bool.noConfusion hc | ((try simp only [znz] at hc); first | exact znf | skip)) | refine Qn ?_ | refine Qh ?_ | simp (maxSteps := 1000000) only [go_sem, Nat.reduceAdd, Nat.reduceMul, Nat.reduceEqDiff, Nat.reduceLeDiff, Nat.reduceLT, Nat.reduceSub, Int.reduceEq, Int.reduceBEq, Int.reduceLT, Int.reduceLE, Int.reduceAdd, Int.reduceToNat, reduceIte, reduceCtorEq] | (refine hK _ ?_; clear hK; clear K') | refine And.intro ?_ ?_ | exact zlo | omega | exact zms)
  refine Wg (ι := Nat) (fun k => k ≤ v.length ∧ (v.drop k).any acn = v.any acn) (fun k => [(7, V.int k)]) (fun k => v.length - k) 0 (by omega) ⟨by omega, by simp⟩ (by repeat' first | exact WY | refine VZ (by omega) (by simp only [Ob.lt, ltL, V.lt, and_self, and_true]; try omega) ?_) (fun i hi => by simp only [ovT, YL, Nat.reduceEqDiff, reduceIte]; (repeat' first | exact VY | refine WX ?_ ?_ | simp only [V.lt, ltL, and_self, and_true] | omega)) (by simp only [Nat.reduceAdd, ovT, YL, Nat.reduceEqDiff, reduceIte, J7, YP, yz, u32, u33, u34, u35, u36, u37, u38, u39, and_self, and_true, true_and]; first | done | rfl) fun k hk K' hL => ?_
  obtain ⟨hk, hinv⟩ := hk
  simp only [ovT, YL, Nat.reduceEqDiff, reduceIte]
  rcases hd : v.drop k with _ | ⟨x, r⟩
  · have hkl := Vt hd
    rw [hd] at hinv
    have e1 : decide ((k : Int) < (((v.map V.int).length : Nat) : Int)) = false := by simp; omega
    have hok : W1 v = (decide ((((v.map V.int).length : Nat) : Int) ≥ 1) && decide ((((v.map V.int).length : Nat) : Int) ≤ 4)) := by
      rw [W1, ← hinv]
      simp only [List.any_nil, Bool.not_false, Bool.and_true, List.length_map]
      congr 1 <;> (rw [decide_eq_decide]; omega)
    rw [hok]
    rcases hq : decide ((((v.map V.int).length : Nat) : Int) ≥ 1) with _ | _
    · repeat' (first | refine Qe fun K' hK => ?_ | refine Qk fun K' hK => ?_ | refine Qf ?_ | refine Qj ?_ | refine Qa ?_ | ((first | refine Qi ⟨_, rfl, fun hc => ?_, fun hc => ?_⟩ | refine QY (fun hc => ?_) (fun hc => ?_) | refine QZ (fun hc => ?_) (fun hc => ?_)) <;> first | exact Bool.noConfusion hc | ((try simp only [znz] at hc); first | exact znf | skip)) | refine Qn ?_ | refine Qh ?_ | simp (maxSteps := 1000000) only [go_sem, Nat.reduceAdd, Nat.reduceMul, Nat.reduceEqDiff, Nat.reduceLeDiff, Nat.reduceLT, Nat.reduceSub, Int.reduceEq, Int.reduceBEq, Int.reduceLT, Int.reduceLE, Int.reduceAdd, Int.reduceToNat, reduceIte, reduceCtorEq, e1, hq] | (refine hK _ ?_; clear hK; clear K') | refine And.intro ?_ ?_ | exact zlo | omega | exact zms)
      all_goals first | (refine Q5 _ rfl ?_; simp only [go_sem, Nat.reduceEqDiff, Nat.reduceAdd, reduceIte, reduceCtorEq]; done) | trace_state
    · repeat' (first | refine Qe fun K' hK => ?_ | refine Qk fun K' hK => ?_ | refine Qf ?_ | refine Qj ?_ | refine Qa ?_ | ((first | refine Qi ⟨_, rfl, fun hc => ?_, fun hc => ?_⟩ | refine QY (fun hc => ?_) (fun hc => ?_) | refine QZ (fun hc => ?_) (fun hc => ?_)) <;> first | exact Bool.noConfusion hc | ((try simp only [znz] at hc); first | exact znf | skip)) | refine Qn ?_ | refine Qh ?_ | simp (maxSteps := 1000000) only [go_sem, Nat.reduceAdd, Nat.reduceMul, Nat.reduceEqDiff, Nat.reduceLeDiff, Nat.reduceLT, Nat.reduceSub, Int.reduceEq, Int.reduceBEq, Int.reduceLT, Int.reduceLE, Int.reduceAdd, Int.reduceToNat, reduceIte, reduceCtorEq, e1, hq] | (refine hK _ ?_; clear hK; clear K') | refine And.intro ?_ ?_ | exact zlo | omega | exact zms)
      all_goals first | (refine Q5 _ rfl ?_; simp only [go_sem, Nat.reduceEqDiff, Nat.reduceAdd, reduceIte, reduceCtorEq]; done) | (refine Q5 _ rfl ?_; simp only [go_sem, Nat.reduceEqDiff, Nat.reduceAdd, reduceIte, reduceCtorEq]; simp; done) | trace_state
  · obtain ⟨hk', hget, hr⟩ := WK hd
    rw [hd] at hinv
    have hw := Yg (k := k) (by omega)
    have e1 : decide ((k : Int) < (((v.map V.int).length : Nat) : Int)) = true := by simp; omega
    rcases h1 : decide (x < 0) with _ | _
    · rcases h2 : decide (x > 99999) with _ | _
      · repeat' (first | refine Qe fun K' hK => ?_ | refine Qk fun K' hK => ?_ | refine Qf ?_ | refine Qj ?_ | refine Qa ?_ | ((first | refine Qi ⟨_, rfl, fun hc => ?_, fun hc => ?_⟩ | refine QY (fun hc => ?_) (fun hc => ?_) | refine QZ (fun hc => ?_) (fun hc => ?_)) <;> first | exact Bool.noConfusion hc | ((try simp only [znz] at hc); first | exact znf | skip)) | refine Qn ?_ | refine Qh ?_ | simp (maxSteps := 1000000) only [go_sem, Nat.reduceAdd, Nat.reduceMul, Nat.reduceEqDiff, Nat.reduceLeDiff, Nat.reduceLT, Nat.reduceSub, Int.reduceEq, Int.reduceBEq, Int.reduceLT, Int.reduceLE, Int.reduceAdd, Int.reduceToNat, reduceIte, reduceCtorEq, e1, hw, Int.toNat_natCast, List.getElem?_map, hget, h1, h2] | (refine hK _ ?_; clear hK; clear K') | refine And.intro ?_ ?_ | exact zlo | omega | exact zms)
        all_goals
          refine hL _ (k + 1) (by simp only [Nat.reduceAdd, ovT, YL, Nat.reduceEqDiff, reduceIte, J7, YP, yz, u32, u33, u34, u35, u36, u37, u38, u39, and_self, and_true, true_and]) ⟨by omega, ?_⟩ (by omega) (fun a ha => by simp only [u32, u33, u34, u35, u36, u37, u38, u39]; repeat rw [if_neg (by omega)])
          rw [hr, ← hinv]; simp only [List.any_cons, acn, h1, h2, Bool.or_self, Bool.false_or]
      · have hbad : W1 v = false := by rw [W1, ← hinv]; simp only [List.any_cons, acn, h2, Bool.or_true, Bool.true_or, Bool.not_true, Bool.and_false]
        rw [hbad]
        repeat' (first | refine Qe fun K' hK => ?_ | refine Qk fun K' hK => ?_ | refine Qf ?_ | refine Qj ?_ | refine Qa ?_ | ((first | refine Qi ⟨_, rfl, fun hc => ?_, fun hc => ?_⟩ | refine QY (fun hc => ?_) (fun hc => ?_) | refine QZ (fun hc => ?_) (fun hc => ?_)) <;> first | exact Bool.noConfusion hc | ((try simp only [znz] at hc); first | exact znf | skip)) | refine Qn ?_ | refine Qh ?_ | simp (maxSteps := 1000000) only [go_sem, Nat.reduceAdd, Nat.reduceMul, Nat.reduceEqDiff, Nat.reduceLeDiff, Nat.reduceLT, Nat.reduceSub, Int.reduceEq, Int.reduceBEq, Int.reduceLT, Int.reduceLE, Int.reduceAdd, Int.reduceToNat, reduceIte, reduceCtorEq, e1, hw, Int.toNat_natCast, List.getElem?_map, hget, h1, h2] | (refine hK _ ?_; clear hK; clear K') | refine And.intro ?_ ?_ | exact zlo | omega | exact zms)
        all_goals first | (refine Q5 _ rfl ?_; simp only [go_sem, Nat.reduceEqDiff, Nat.reduceAdd, reduceIte, reduceCtorEq]; done) | trace_state
    · have hbad : W1 v = false := by rw [W1, ← hinv]; simp only [List.any_cons, acn, h1, Bool.or_true, Bool.true_or, Bool.not_true, Bool.and_false]
      rw [hbad]
      repeat' (first | refine Qe fun K' hK => ?_ | refine Qk fun K' hK => ?_ | refine Qf ?_ | refine Qj ?_ | refine Qa ?_ | ((first | refine Qi ⟨_, rfl, fun hc => ?_, fun hc => ?_⟩ | refine QY (fun hc => ?_) (fun hc => ?_) | refine QZ (fun hc => ?_) (fun hc => ?_)) <;> first | exact Bool.noConfusion hc | ((try simp only [znz] at hc); first | exact znf | skip)) | refine Qn ?_ | refine Qh ?_ | simp (maxSteps := 1000000) only [go_sem, Nat.reduceAdd, Nat.reduceMul, Nat.reduceEqDiff, Nat.reduceLeDiff, Nat.reduceLT, Nat.reduceSub, Int.reduceEq, Int.reduceBEq, Int.reduceLT, Int.reduceLE, Int.reduceAdd, Int.reduceToNat, reduceIte, reduceCtorEq, e1, hw, Int.toNat_natCast, List.getElem?_map, hget, h1] | (refine hK _ ?_; clear hK; clear K') | refine And.intro ?_ ?_ | exact zlo | omega | exact zms)
      all_goals first | (refine Q5 _ rfl ?_; simp only [go_sem, Nat.reduceEqDiff, Nat.reduceAdd, reduceIte, reduceCtorEq]; done) | trace_state
def W9 : AC := QP [0, 1] (.reg [mc 4 (V.int 0)]) (QP [] (QP [0, 1, 8] (.reg [mv 5 1, mv 6 0, ln 7 6, bn 8 .lss 5 7]) (.cond (.t 8) (QP [4] (.reg [mv 9 0, mv 10 1, ia 11 1 9 10, ld 12 1 11, mv 4 12]) (.ret)) (.skip))) (QP [4] (.reg [mc 4 (V.int 0)]) (.ret))) def r_packages_part : List Xq := [.tmp 4]
def WS (Γ : Env) (f : Nat) : Prop := ∀ (v : List Int) (i : Nat) (hi : i < 2 ^ 62), EvN Γ f [.sl 1 (v.map V.int), V.int i] (V.int (v.getD i 0))
theorem ji {Γ : Env} {f : Nat} (h : Has Γ.P f 13 W9 r_packages_part)  : WS Γ f := by
  intro v i hi
  refine Q1 h (by simp) (by simp only [V.closed, Qg, V.noSl, Jw, and_self, and_true, true_and]) (by simp only [V.closed, Qg, V.noSl, Jw, and_self, and_true, true_and]) fun C hC hm => ?_
  subst hC
  unfold W9
  by_cases h : i < v.length
  · have e1 : decide ((i : Int) < (((v.map V.int).length : Nat) : Int)) = true := by simp; omega
    have hget : v[i]? = some (v.getD i 0) := by simp [List.getD_eq_getElem?_getD, List.getElem?_eq_getElem h]
    repeat' (first | refine Qe fun K' hK => ?_ | refine Qk fun K' hK => ?_ | refine Qf ?_ | refine Qj ?_ | refine Qa ?_ | ((first | refine Qi ⟨_, rfl, fun hc => ?_, fun hc => ?_⟩ | refine QY (fun hc => ?_) (fun hc => ?_) | refine QZ (fun hc => ?_) (fun hc => ?_)) <;> first | exact Bool.noConfusion hc | ((try simp only [znz] at hc); first | exact znf | skip)) | refine Qn ?_ | refine Qh ?_ | simp (maxSteps := 1000000) only [go_sem, Nat.reduceAdd, Nat.reduceMul, Nat.reduceEqDiff, Nat.reduceLeDiff, Nat.reduceLT, Nat.reduceSub, Int.reduceEq, Int.reduceBEq, Int.reduceLT, Int.reduceLE, Int.reduceAdd, Int.reduceToNat, reduceIte, reduceCtorEq, e1, Int.toNat_natCast, List.getElem?_map, hget] | (refine hK _ ?_; clear hK; clear K') | refine And.intro ?_ ?_ | exact zlo | omega | exact zms)
    all_goals first | (refine Q5 _ rfl ?_; simp only [go_sem, Nat.reduceEqDiff, Nat.reduceAdd, reduceIte, reduceCtorEq]; done) | trace_state
  · have e1 : decide ((i : Int) < (((v.map V.int).length : Nat) : Int)) = false := by simp; omega
    have hget : v.getD i 0 = 0 := by simp [List.getD_eq_getElem?_getD, List.getElem?_eq_none (Nat.not_lt.1 h)]
    rw [hget]
    repeat' (first | refine Qe fun K' hK => ?_ | refine Qk fun K' hK => ?_ | refine Qf ?_ | refine Qj ?_ | refine Qa ?_ | ((first | refine Qi ⟨_, rfl, fun hc => ?_, fun hc => ?_⟩ | refine QY (fun hc => ?_) (fun hc => ?_) | refine QZ (fun hc => ?_) (fun hc => ?_)) <;> first | exact Bool.noConfusion hc | ((try simp only [znz] at hc); first | exact znf | skip)) | refine Qn ?_ | refine Qh ?_ | simp (maxSteps := 1000000) only [go_sem, Nat.reduceAdd, Nat.reduceMul, Nat.reduceEqDiff, Nat.reduceLeDiff, Nat.reduceLT, Nat.reduceSub, Int.reduceEq, Int.reduceBEq, Int.reduceLT, Int.reduceLE, Int.reduceAdd, Int.reduceToNat, reduceIte, reduceCtorEq, e1] | (refine hK _ ?_; clear hK; clear K') | refine And.intro ?_ ?_ | exact zlo | omega | exact zms)
    all_goals first | (refine Q5 _ rfl ?_; simp only [go_sem, Nat.reduceEqDiff, Nat.reduceAdd, reduceIte, reduceCtorEq]; done) | trace_state
def adl (x y : Int) : Int := if x < y then -1 else if x > y then 1 else 0
def Ve : AC := QP [0] (.reg [mc 2 (V.bool false)]) (QP [2] (.reg [mv 3 0, mv 4 0, bn 5 .neq 3 4, mv 2 5]) (.ret)) def r_cmp_isNaN_int : List Xq := [.tmp 2]
def WV (Γ : Env) (f : Nat) : Prop := ∀ (x : Int), EvN Γ f [V.int x] (V.bool false)
theorem jn {Γ : Env} {f : Nat} (h : Has Γ.P f 6 Ve r_cmp_isNaN_int)  : WV Γ f := by
  intro x
  refine Q1 h (by simp) (by simp only [V.closed, Qg, V.noSl, Jw, and_self, and_true, true_and]) (by simp only [V.closed, Qg, V.noSl, Jw, and_self, and_true, true_and]) fun C hC hm => ?_
  subst hC
  unfold Ve
  have e : (x != x) = false := by simp
  repeat' (first | refine Qe fun K' hK => ?_ | refine Qk fun K' hK => ?_ | refine Qf ?_ | refine Qj ?_ | refine Qa ?_ | ((first | refine Qi ⟨_, rfl, fun hc => ?_, fun hc => ?_⟩ | refine QY (fun hc => ?_) (fun hc => ?_) | refine QZ (fun hc => ?_) (fun hc => ?_)) <;> first | exact Bool.noConfusion hc | ((try simp only [znz] at hc); first | exact znf | skip)) | refine Qn ?_ | refine Qh ?_ | simp (maxSteps := 1000000) only [go_sem, Nat.reduceAdd, Nat.reduceMul, Nat.reduceEqDiff, Nat.reduceLeDiff, Nat.reduceLT, Nat.reduceSub, Int.reduceEq, Int.reduceBEq, Int.reduceLT, Int.reduceLE, Int.reduceAdd, Int.reduceToNat, reduceIte, reduceCtorEq, e] | (refine hK _ ?_; clear hK; clear K') | refine And.intro ?_ ?_ | exact zlo | omega | exact zms)
  all_goals first | (refine Q5 _ rfl ?_; simp only [go_sem, Nat.reduceEqDiff, Nat.reduceAdd, reduceIte, reduceCtorEq]; done) | trace_state
def Wz (Xa : Nat) : AC := QP [0, 1] (.reg [mc 4 (V.int 0)]) (QP [0, 1, 5] (.reg [mv 7 0, cl 8 Xa [7], mv 5 8]) (QP [0, 1, 5, 6] (.reg [mv 9 1, cl 10 Xa [9], mv 6 10]) (QP [0, 1, 6] (QP [0, 1, 6, 11] (.reg [mv 11 5]) (.cond (.t 11) (QP [] (QP [12] (.reg [mv 12 6]) (.cond (.t 12) (QP [4] (.reg [mc 4 (V.int 0)]) (.ret)) (.skip))) (QP [4] (.reg [mc 4 (V.int (-1))]) (.ret))) (.skip))) (QP [0, 1] (QP [0, 1, 13] (.reg [mv 13 6]) (.cond (.t 13) (QP [4] (.reg [mc 4 (V.int 1)]) (.ret)) (.skip))) (QP [0, 1] (QP [0, 1, 16] (.reg [mv 14 0, mv 15 1, bn 16 .lss 14 15]) (.cond (.t 16) (QP [4] (.reg [mc 4 (V.int (-1))]) (.ret)) (.skip))) (QP [] (QP [19] (.reg [mv 17 0, mv 18 1, bn 19 .gtr 17 18]) (.cond (.t 19) (QP [4] (.reg [mc 4 (V.int 1)]) (.ret)) (.skip))) (QP [4] (.reg [mc 4 (V.int 0)]) (.ret)))))))) def r_cmp_Compare_int : List Xq := [.tmp 4]
def Wl (Γ : Env) (f : Nat) : Prop := ∀ (x y : Int), EvN Γ f [V.int x, V.int y] (V.int (adl x y))
theorem K8 {Γ : Env} {f Xa : Nat} (h : Has Γ.P f 20 (Wz Xa) r_cmp_Compare_int) (W5 : WV Γ Xa) : Wl Γ f := by
  intro x y
  refine Q1 h (by simp) (by simp only [V.closed, Qg, V.noSl, Jw, and_self, and_true, true_and]) (by simp only [V.closed, Qg, V.noSl, Jw, and_self, and_true, true_and]) fun C hC hm => ?_
  subst hC
  unfold Wz
  unfold adl
  by_cases h1 : x < y
  · have e1 : decide (x < y) = true := decide_eq_true h1
    rw [if_pos h1]
    repeat' (first | refine Qe fun K' hK => ?_ | refine Qk fun K' hK => ?_ | refine Qf ?_ | refine Qj ?_ | refine Qa ?_ | ((first | refine Qi ⟨_, rfl, fun hc => ?_, fun hc => ?_⟩ | refine QY (fun hc => ?_) (fun hc => ?_) | refine QZ (fun hc => ?_) (fun hc => ?_)) <;> first | exact Bool.noConfusion hc | ((try simp only [znz] at hc); first | exact znf | skip)) | refine Qn ?_ | refine Qh ?_ | simp (maxSteps := 1000000) only [go_sem, Nat.reduceAdd, Nat.reduceMul, Nat.reduceEqDiff, Nat.reduceLeDiff, Nat.reduceLT, Nat.reduceSub, Int.reduceEq, Int.reduceBEq, Int.reduceLT, Int.reduceLE, Int.reduceAdd, Int.reduceToNat, reduceIte, reduceCtorEq, e1] | (refine hK _ ?_; clear hK; clear K') | refine And.intro ?_ ?_ | (apply Q7; (focus first | exact (W5 _).b)) | exact zlo | omega | exact zms)
    all_goals first | (refine Q5 _ rfl ?_; simp only [go_sem, Nat.reduceEqDiff, Nat.reduceAdd, reduceIte, reduceCtorEq]; done) | trace_state
  · have e1 : decide (x < y) = false := decide_eq_false h1
    rw [if_neg h1]
    by_cases h2 : x > y
    · have e2 : decide (x > y) = true := decide_eq_true h2
      rw [if_pos h2]
      repeat' (first | refine Qe fun K' hK => ?_ | refine Qk fun K' hK => ?_ | refine Qf ?_ | refine Qj ?_ | refine Qa ?_ | ((first | refine Qi ⟨_, rfl, fun hc => ?_, fun hc => ?_⟩ | refine QY (fun hc => ?_) (fun hc => ?_) | refine QZ (fun hc => ?_) (fun hc => ?_)) <;> first | exact Bool.noConfusion hc | ((try simp only [znz] at hc); first | exact znf | skip)) | refine Qn ?_ | refine Qh ?_ | simp (maxSteps := 1000000) only [go_sem, Nat.reduceAdd, Nat.reduceMul, Nat.reduceEqDiff, Nat.reduceLeDiff, Nat.reduceLT, Nat.reduceSub, Int.reduceEq, Int.reduceBEq, Int.reduceLT, Int.reduceLE, Int.reduceAdd, Int.reduceToNat, reduceIte, reduceCtorEq, e1, e2] | (refine hK _ ?_; clear hK; clear K') | refine And.intro ?_ ?_ | (apply Q7; (focus first | exact (W5 _).b)) | exact zlo | omega | exact zms)
      all_goals first | (refine Q5 _ rfl ?_; simp only [go_sem, Nat.reduceEqDiff, Nat.reduceAdd, reduceIte, reduceCtorEq]; done) | trace_state
    · have e2 : decide (x > y) = false := decide_eq_false h2
      rw [if_neg h2]
      repeat' (first | refine Qe fun K' hK => ?_ | refine Qk fun K' hK => ?_ | refine Qf ?_ | refine Qj ?_ | refine Qa ?_ | ((first | refine Qi ⟨_, rfl, fun hc => ?_, fun hc => ?_⟩ | refine QY (fun hc => ?_) (fun hc => ?_) | refine QZ (fun hc => ?_) (fun hc => ?_)) <;> first | exact Bool.noConfusion hc | ((try simp only [znz] at hc); first | exact znf | skip)) | refine Qn ?_ | refine Qh ?_ | simp (maxSteps := 1000000) only [go_sem, Nat.reduceAdd, Nat.reduceMul, Nat.reduceEqDiff, Nat.reduceLeDiff, Nat.reduceLT, Nat.reduceSub, Int.reduceEq, Int.reduceBEq, Int.reduceLT, Int.reduceLE, Int.reduceAdd, Int.reduceToNat, reduceIte, reduceCtorEq, e1, e2] | (refine hK _ ?_; clear hK; clear K') | refine And.intro ?_ ?_ | (apply Q7; (focus first | exact (W5 _).b)) | exact zlo | omega | exact zms)
      all_goals first | (refine Q5 _ rfl ?_; simp only [go_sem, Nat.reduceEqDiff, Nat.reduceAdd, reduceIte, reduceCtorEq]; done) | trace_state
def acP : Nat → Nat → List Int → List Int → Int
  | 0, _, _, _ => 0
  | n + 1, k, a, b => if adl (a.getD k 0) (b.getD k 0) ≠ 0 then adl (a.getD k 0) (b.getD k 0) else acP n (k + 1) a b
def adE (a b : List Int) : Int := acP (max a.length b.length) 0 a b
theorem abt {n k : Nat} {a b : List Int} (h : k < n) : acP (n - k) k a b = if adl (a.getD k 0) (b.getD k 0) ≠ 0 then adl (a.getD k 0) (b.getD k 0) else acP (n - (k + 1)) (k + 1) a b := by
  obtain ⟨m, hm⟩ : ∃ m, n - k = m + 1 := ⟨n - k - 1, by omega⟩
  have : n - (k + 1) = m := by omega
  rw [hm, this, acP]
def X9 (Y9 Xi : Nat) : AC := QP [0, 1] (.reg [mc 4 (V.int 0)]) (QP [] (QP [0, 1, 11, 12] (.reg [mv 7 0, ln 8 7, mv 9 1, ln 10 9, xo 11 (.mm true [(.t 8), (.t 10)]), mc 12 (V.int 0)]) (.block 0 (VC [0, 1, 11, 12] (QP [0, 1, 11, 12, 13] (.reg [bn 13 .lss 12 11]) (QP [0, 1, 11, 12] (.cond (.t 13) (.skip) (.exit 0)) (QP [0, 1, 11, 12] (.block 1 (QP [0, 1, 5, 11, 12] (.reg [mv 14 12, mv 5 14]) (QP [0, 1, 6, 11, 12] (.reg [mv 15 0, mv 16 5, cl 17 Y9 [15, 16], mv 18 1, mv 19 5, cl 20 Y9 [18, 19], cl 21 Xi [17, 20], mv 6 21]) (QP [0, 1, 6, 11, 12, 23] (.reg [mv 22 6, bc 23 .neq 22 (V.int 0)]) (.cond (.t 23) (QP [4] (.reg [mv 24 6, mv 4 24]) (.ret)) (.skip)))))) (.reg [bc 25 .add 12 (V.int 1), mv 12 25]))))))) (QP [4] (.reg [mc 4 (V.int 0)]) (.ret))) def r_packages_Compare : List Xq := [.tmp 4]
def YS (Γ : Env) (f : Nat) : Prop := ∀ (a b : List Int) (ha : a.length < 2 ^ 60) (hb : b.length < 2 ^ 60), EvN Γ f [.sl 1 (a.map V.int), .sl 1 (b.map V.int)] (V.int (adE a b))
theorem Ky {Γ : Env} {f Y9 Xi : Nat} (h : Has Γ.P f 26 (X9 Y9 Xi) r_packages_Compare) (Yz : WS Γ Y9) (YA : Wl Γ Xi) : YS Γ f := by
  intro a b ha hb
  refine Q1 h (by simp) (by simp only [V.closed, Qg, V.noSl, Jw, and_self, and_true, true_and]) (by simp only [V.closed, Qg, V.noSl, Jw, and_self, and_true, true_and]) fun C hC hm => ?_
  subst hC
  unfold X9
  have hmx : (if (((a.map V.int).length : Nat) : Int) < (((b.map V.int).length : Nat) : Int) then (((b.map V.int).length : Nat) : Int) else (((a.map V.int).length : Nat) : Int)) = ((max a.length b.length : Nat) : Int) := by
    simp only [List.length_map]
    split <;> omega
  unfold adE
  generalize hn : max a.length b.length = n at *
  have hnn : n < 2 ^ 61 := by omega
  repeat' (first | refine Qe fun K' hK => ?_ | refine Qk fun K' hK => ?_ | refine Qf ?_ | refine Qj ?_ | refine Qa ?_ | ((first | refine Qi ⟨_, rfl, fun hc => ?_, fun hc => ?_⟩ | refine QY (fun hc => ?_) (fun hc => ?_) | refine QZ (fun hc => ?_) (fun hc => ?_)) <;> first | exact Bool.noConfusion hc | ((try simp only [znz] at hc); first | exact znf | skip)) | refine Qn ?_ | refine Qh ?_ | simp (maxSteps := 1000000) only [go_sem, Nat.reduceAdd, Nat.reduceMul, Nat.reduceEqDiff, Nat.reduceLeDiff, Nat.reduceLT, Nat.reduceSub, Int.reduceEq, Int.reduceBEq, Int.reduceLT, Int.reduceLE, Int.reduceAdd, Int.reduceToNat, reduceIte, reduceCtorEq, List.foldl_cons, List.foldl_nil, List.all_cons, List.all_nil, VR, hmx] | (refine hK _ ?_; clear hK; clear K') | refine And.intro ?_ ?_ | (apply Q7; (focus first | exact (Yz _ _ zsd).b | exact (YA _ _).b)) | exact zlo | omega | exact zms)
  refine Wg (ι := Nat) (fun k => k ≤ n ∧ acP (n - k) k a b = acP n 0 a b) (fun k => [(12, V.int k)]) (fun k => n - k) 0 (by omega) ⟨by omega, by simp⟩ (by repeat' first | exact WY | refine VZ (by omega) (by simp only [Ob.lt, ltL, V.lt, and_self, and_true]; try omega) ?_) (fun i hi => by simp only [ovT, YL, Nat.reduceEqDiff, reduceIte]; (repeat' first | exact VY | refine WX ?_ ?_ | simp only [V.lt, ltL, and_self, and_true] | omega)) (by simp only [Nat.reduceAdd, ovT, YL, Nat.reduceEqDiff, reduceIte, J7, YP, yz, u32, u33, u34, u35, u36, u37, u38, u39, and_self, and_true, true_and]; first | done | rfl) fun k hk K' hL => ?_
  obtain ⟨hk, hinv⟩ := hk
  simp only [ovT, YL, Nat.reduceEqDiff, reduceIte]
  by_cases hkn : k = n
  · subst hkn
    have e1 : decide ((k : Int) < (k : Int)) = false := by simp
    have e2 : acP k 0 a b = 0 := by rw [← hinv, Nat.sub_self]; rfl
    rw [e2]
    repeat' (first | refine Qe fun K' hK => ?_ | refine Qk fun K' hK => ?_ | refine Qf ?_ | refine Qj ?_ | refine Qa ?_ | ((first | refine Qi ⟨_, rfl, fun hc => ?_, fun hc => ?_⟩ | refine QY (fun hc => ?_) (fun hc => ?_) | refine QZ (fun hc => ?_) (fun hc => ?_)) <;> first | exact Bool.noConfusion hc | ((try simp only [znz] at hc); first | exact znf | skip)) | refine Qn ?_ | refine Qh ?_ | simp (maxSteps := 1000000) only [go_sem, Nat.reduceAdd, Nat.reduceMul, Nat.reduceEqDiff, Nat.reduceLeDiff, Nat.reduceLT, Nat.reduceSub, Int.reduceEq, Int.reduceBEq, Int.reduceLT, Int.reduceLE, Int.reduceAdd, Int.reduceToNat, reduceIte, reduceCtorEq, e1] | (refine hK _ ?_; clear hK; clear K') | refine And.intro ?_ ?_ | (apply Q7; (focus first | exact (Yz _ _ zsd).b | exact (YA _ _).b)) | exact zlo | omega | exact zms)
    all_goals first | (refine Q5 _ rfl ?_; simp only [go_sem, Nat.reduceEqDiff, Nat.reduceAdd, reduceIte, reduceCtorEq]; done) | trace_state
  · have e1 : decide ((k : Int) < (n : Int)) = true := by simp; omega
    have hw := Yg (k := k) (by omega)
    rw [abt (by omega)] at hinv
    have p1 := (Yz a k (by omega)).b
    have p2 := (Yz b k (by omega)).b
    have p3 := (YA (a.getD k 0) (b.getD k 0)).b
    generalize adl (a.getD k 0) (b.getD k 0) = c at *
    by_cases hc0 : c = 0
    · subst hc0
      rw [if_neg (by simp)] at hinv
      repeat' (first | refine Qe fun K' hK => ?_ | refine Qk fun K' hK => ?_ | refine Qf ?_ | refine Qj ?_ | refine Qa ?_ | ((first | refine Qi ⟨_, rfl, fun hc => ?_, fun hc => ?_⟩ | refine QY (fun hc => ?_) (fun hc => ?_) | refine QZ (fun hc => ?_) (fun hc => ?_)) <;> first | exact Bool.noConfusion hc | ((try simp only [znz] at hc); first | exact znf | skip)) | refine Qn ?_ | refine Qh ?_ | simp (maxSteps := 1000000) only [go_sem, Nat.reduceAdd, Nat.reduceMul, Nat.reduceEqDiff, Nat.reduceLeDiff, Nat.reduceLT, Nat.reduceSub, Int.reduceEq, Int.reduceBEq, Int.reduceLT, Int.reduceLE, Int.reduceAdd, Int.reduceToNat, reduceIte, reduceCtorEq, e1, hw] | (refine hK _ ?_; clear hK; clear K') | refine And.intro ?_ ?_ | (apply Q7; (focus first | exact p1 | exact p2 | exact p3 | exact (Yz _ _ zsd).b | exact (YA _ _).b)) | exact zlo | omega | exact zms)
      all_goals first | exact hL _ (k + 1) (by simp only [Nat.reduceAdd, ovT, YL, Nat.reduceEqDiff, reduceIte, J7, YP, yz, u32, u33, u34, u35, u36, u37, u38, u39, and_self, and_true, true_and]) ⟨by omega, hinv⟩ (by omega) (fun a ha => by simp only [u32, u33, u34, u35, u36, u37, u38, u39]; repeat rw [if_neg (by omega)]) | trace_state
    · rw [if_pos hc0] at hinv
      have e2 : (c != 0) = true := by simpa using hc0
      rw [← hinv]
      repeat' (first | refine Qe fun K' hK => ?_ | refine Qk fun K' hK => ?_ | refine Qf ?_ | refine Qj ?_ | refine Qa ?_ | ((first | refine Qi ⟨_, rfl, fun hc => ?_, fun hc => ?_⟩ | refine QY (fun hc => ?_) (fun hc => ?_) | refine QZ (fun hc => ?_) (fun hc => ?_)) <;> first | exact Bool.noConfusion hc | ((try simp only [znz] at hc); first | exact znf | skip)) | refine Qn ?_ | refine Qh ?_ | simp (maxSteps := 1000000) only [go_sem, Nat.reduceAdd, Nat.reduceMul, Nat.reduceEqDiff, Nat.reduceLeDiff, Nat.reduceLT, Nat.reduceSub, Int.reduceEq, Int.reduceBEq, Int.reduceLT, Int.reduceLE, Int.reduceAdd, Int.reduceToNat, reduceIte, reduceCtorEq, e1, e2, hw] | (refine hK _ ?_; clear hK; clear K') | refine And.intro ?_ ?_ | (apply Q7; (focus first | exact p1 | exact p2 | exact p3 | exact (Yz _ _ zsd).b | exact (YA _ _).b)) | exact zlo | omega | exact zms)
      all_goals first | (refine Q5 _ rfl ?_; simp only [go_sem, Nat.reduceEqDiff, Nat.reduceAdd, reduceIte, reduceCtorEq]; done) | trace_state
abbrev yA (lo up : List Int) : V := .agg [.sl 1 (lo.map V.int), .sl 1 (up.map V.int)]
def inV (lo up v : List Int) : Bool := (lo.isEmpty || decide (adE v lo ≥ 0)) && (up.isEmpty || decide (adE v up < 0))
theorem qc (l : List Int) : ((((l.map V.int).length : Nat) : Int) == 0) = l.isEmpty := by
  cases l with
  | nil => rfl
  | cons x r => simp; omega
def V6 (Jq : Nat) : AC := QP [1, 2] (.reg [xo 2 (.box true 2 (.t 0)), mc 4 (V.bool false)]) (QP [4] (.reg [fa 5 0 2, ld 6 1 5, ln 7 6, bc 8 .eql 7 (V.int 0), mv 9 8, mg 10 1 9 false, xg 11 (.faddr 0 (.t 2)) 9 false, xg 12 (.load false 1 (.t 11)) 9 false, xg 13 (.call Jq [(.t 10), (.t 12)]) 9 false, xg 14 (.bin .geq (.t 13) (.c (V.int 0))) 9 false, xo 15 (.pick (.t 9) (.c (V.bool true)) (.t 14)), mv 16 15, xg 17 (.faddr 1 (.t 2)) 16 true, xg 18 (.load false 1 (.t 17)) 16 true, xg 19 (.lenL (.t 18)) 16 true, xg 20 (.bin .eql (.t 19) (.c (V.int 0))) 16 true, mg 21 20 16 true, mg 22 1 21 false, xg 23 (.faddr 1 (.t 2)) 21 false, xg 24 (.load false 1 (.t 23)) 21 false, xg 25 (.call Jq [(.t 22), (.t 24)]) 21 false, xg 26 (.bin .lss (.t 25) (.c (V.int 0))) 21 false, xg 27 (.pick (.t 21) (.c (V.bool true)) (.t 26)) 16 true, xo 28 (.pick (.t 16) (.t 27) (.c (V.bool false))), mv 4 28]) (.ret)) def r_packages_In : List Xq := [.tmp 4]
def WH (Γ : Env) (f : Nat) : Prop := ∀ (lo up v : List Int) (ha : lo.length < 2 ^ 60) (hb : up.length < 2 ^ 60) (hv : v.length < 2 ^ 60), EvN Γ f [yA lo up, .sl 1 (v.map V.int)] (V.bool (inV lo up v))
theorem yl {Γ : Env} {f Jq : Nat} (h : Has Γ.P f 29 (V6 Jq) r_packages_In) (Jk : YS Γ Jq) : WH Γ f := by
  intro lo up v ha hb hv
  refine Q1 h (by simp) (by simp only [V.closed, Qg, V.noSl, Jw, and_self, and_true, true_and]) (by simp only [V.closed, Qg, V.noSl, Jw, and_self, and_true, true_and]) fun C hC hm => ?_
  subst hC
  unfold V6
  have c1 := (Jk v lo hv ha).b
  have c2 := (Jk v up hv hb).b
  have e1 := qc lo
  have e2 := qc up
  unfold inV
  rcases h1 : lo.isEmpty with _ | _
  · rcases h2 : decide (adE v lo ≥ 0) with _ | _
    · rw [h1] at e1
      repeat' (first | refine Qe fun K' hK => ?_ | refine Qk fun K' hK => ?_ | refine Qf ?_ | refine Qj ?_ | refine Qa ?_ | ((first | refine Qi ⟨_, rfl, fun hc => ?_, fun hc => ?_⟩ | refine QY (fun hc => ?_) (fun hc => ?_) | refine QZ (fun hc => ?_) (fun hc => ?_)) <;> first | exact Bool.noConfusion hc | ((try simp only [znz] at hc); first | exact znf | skip)) | refine Qn ?_ | refine Qh ?_ | simp (maxSteps := 1000000) only [go_sem, Nat.reduceAdd, Nat.reduceMul, Nat.reduceEqDiff, Nat.reduceLeDiff, Nat.reduceLT, Nat.reduceSub, Int.reduceEq, Int.reduceBEq, Int.reduceLT, Int.reduceLE, Int.reduceAdd, Int.reduceToNat, reduceIte, reduceCtorEq, e1, e2, h1, h2] | (refine hK _ ?_; clear hK; clear K') | refine And.intro ?_ ?_ | (apply Q7; (focus first | exact c1 | exact c2 | exact (Jk _ _ zsd zsd).b)) | exact zlo | omega | exact zms)
      all_goals first | (refine Q5 _ rfl ?_; simp only [go_sem, Nat.reduceEqDiff, Nat.reduceAdd, reduceIte, reduceCtorEq]; done) | trace_state
    · rcases h3 : up.isEmpty with _ | _
      · rw [h1] at e1
        rw [h3] at e2
        repeat' (first | refine Qe fun K' hK => ?_ | refine Qk fun K' hK => ?_ | refine Qf ?_ | refine Qj ?_ | refine Qa ?_ | ((first | refine Qi ⟨_, rfl, fun hc => ?_, fun hc => ?_⟩ | refine QY (fun hc => ?_) (fun hc => ?_) | refine QZ (fun hc => ?_) (fun hc => ?_)) <;> first | exact Bool.noConfusion hc | ((try simp only [znz] at hc); first | exact znf | skip)) | refine Qn ?_ | refine Qh ?_ | simp (maxSteps := 1000000) only [go_sem, Nat.reduceAdd, Nat.reduceMul, Nat.reduceEqDiff, Nat.reduceLeDiff, Nat.reduceLT, Nat.reduceSub, Int.reduceEq, Int.reduceBEq, Int.reduceLT, Int.reduceLE, Int.reduceAdd, Int.reduceToNat, reduceIte, reduceCtorEq, e1, e2, h1, h2, h3] | (refine hK _ ?_; clear hK; clear K') | refine And.intro ?_ ?_ | (apply Q7; (focus first | exact c1 | exact c2 | exact (Jk _ _ zsd zsd).b)) | exact zlo | omega | exact zms)
        all_goals first | (refine Q5 _ rfl ?_; simp only [go_sem, Nat.reduceEqDiff, Nat.reduceAdd, reduceIte, reduceCtorEq]; done) | (refine Q5 _ rfl ?_; simp only [go_sem, Nat.reduceEqDiff, Nat.reduceAdd, reduceIte, reduceCtorEq]; simp; done) | trace_state
      · rw [h1] at e1
        rw [h3] at e2
        repeat' (first | refine Qe fun K' hK => ?_ | refine Qk fun K' hK => ?_ | refine Qf ?_ | refine Qj ?_ | refine Qa ?_ | ((first | refine Qi ⟨_, rfl, fun hc => ?_, fun hc => ?_⟩ | refine QY (fun hc => ?_) (fun hc => ?_) | refine QZ (fun hc => ?_) (fun hc => ?_)) <;> first | exact Bool.noConfusion hc | ((try simp only [znz] at hc); first | exact znf | skip)) | refine Qn ?_ | refine Qh ?_ | simp (maxSteps := 1000000) only [go_sem, Nat.reduceAdd, Nat.reduceMul, Nat.reduceEqDiff, Nat.reduceLeDiff, Nat.reduceLT, Nat.reduceSub, Int.reduceEq, Int.reduceBEq, Int.reduceLT, Int.reduceLE, Int.reduceAdd, Int.reduceToNat, reduceIte, reduceCtorEq, e1, e2, h1, h2, h3] | (refine hK _ ?_; clear hK; clear K') | refine And.intro ?_ ?_ | (apply Q7; (focus first | exact c1 | exact c2 | exact (Jk _ _ zsd zsd).b)) | exact zlo | omega | exact zms)
        all_goals first | (refine Q5 _ rfl ?_; simp only [go_sem, Nat.reduceEqDiff, Nat.reduceAdd, reduceIte, reduceCtorEq]; done) | (refine Q5 _ rfl ?_; simp only [go_sem, Nat.reduceEqDiff, Nat.reduceAdd, reduceIte, reduceCtorEq]; simp; done) | trace_state
  · rcases h3 : up.isEmpty with _ | _
    · rw [h1] at e1
      rw [h3] at e2
      repeat' (first | refine Qe fun K' hK => ?_ | refine Qk fun K' hK => ?_ | refine Qf ?_ | refine Qj ?_ | refine Qa ?_ | ((first | refine Qi ⟨_, rfl, fun hc => ?_, fun hc => ?_⟩ | refine QY (fun hc => ?_) (fun hc => ?_) | refine QZ (fun hc => ?_) (fun hc => ?_)) <;> first | exact Bool.noConfusion hc | ((try simp only [znz] at hc); first | exact znf | skip)) | refine Qn ?_ | refine Qh ?_ | simp (maxSteps := 1000000) only [go_sem, Nat.reduceAdd, Nat.reduceMul, Nat.reduceEqDiff, Nat.reduceLeDiff, Nat.reduceLT, Nat.reduceSub, Int.reduceEq, Int.reduceBEq, Int.reduceLT, Int.reduceLE, Int.reduceAdd, Int.reduceToNat, reduceIte, reduceCtorEq, e1, e2, h1, h3] | (refine hK _ ?_; clear hK; clear K') | refine And.intro ?_ ?_ | (apply Q7; (focus first | exact c1 | exact c2 | exact (Jk _ _ zsd zsd).b)) | exact zlo | omega | exact zms)
      all_goals first | (refine Q5 _ rfl ?_; simp only [go_sem, Nat.reduceEqDiff, Nat.reduceAdd, reduceIte, reduceCtorEq]; done) | (refine Q5 _ rfl ?_; simp only [go_sem, Nat.reduceEqDiff, Nat.reduceAdd, reduceIte, reduceCtorEq]; simp; done) | trace_state
    · rw [h1] at e1
      rw [h3] at e2
      repeat' (first | refine Qe fun K' hK => ?_ | refine Qk fun K' hK => ?_ | refine Qf ?_ | refine Qj ?_ | refine Qa ?_ | ((first | refine Qi ⟨_, rfl, fun hc => ?_, fun hc => ?_⟩ | refine QY (fun hc => ?_) (fun hc => ?_) | refine QZ (fun hc => ?_) (fun hc => ?_)) <;> first | exact Bool.noConfusion hc | ((try simp only [znz] at hc); first | exact znf | skip)) | refine Qn ?_ | refine Qh ?_ | simp (maxSteps := 1000000) only [go_sem, Nat.reduceAdd, Nat.reduceMul, Nat.reduceEqDiff, Nat.reduceLeDiff, Nat.reduceLT, Nat.reduceSub, Int.reduceEq, Int.reduceBEq, Int.reduceLT, Int.reduceLE, Int.reduceAdd, Int.reduceToNat, reduceIte, reduceCtorEq, e1, e2, h1, h3] | (refine hK _ ?_; clear hK; clear K') | refine And.intro ?_ ?_ | (apply Q7; (focus first | exact c1 | exact c2 | exact (Jk _ _ zsd zsd).b)) | exact zlo | omega | exact zms)
      all_goals first | (refine Q5 _ rfl ?_; simp only [go_sem, Nat.reduceEqDiff, Nat.reduceAdd, reduceIte, reduceCtorEq]; done) | (refine Q5 _ rfl ?_; simp only [go_sem, Nat.reduceEqDiff, Nat.reduceAdd, reduceIte, reduceCtorEq]; simp; done) | trace_state
end Av
end
section
set_option linter.unusedSimpArgs false
set_option linter.unusedVariables false
set_option maxRecDepth 10000
set_option maxHeartbeats 4000000
namespace Av
open Go
attribute [local irreducible] AWp Y0 Xe Xo awS awC Wo awQ Wp QS JT Wm awR JV awB okR Y6 ris
def jB (v : List Int) : List UInt8 := ([46] : List UInt8).intercalate (v.map Lib.itoa)
def Kj (v : List Int) : V := if W1 v = true then .tup [V.str (jB v), V.int 0] else .tup [V.str [], V.int 22]
theorem Kb (v : List Int) : (Kj v).closed := by unfold Kj; split <;> simp only [V.closed, Qg, and_self]
theorem qZ (v : List Int) : (Kj v).noSl := by unfold Kj; split <;> simp only [V.noSl, Jw, and_self]
theorem KM {v : List Int} (h : W1 v = true) : 1 ≤ v.length ∧ v.length ≤ 4 ∧ ∀ x ∈ v, 0 ≤ x ∧ x ≤ 99999 := by
  simp only [W1, Bool.and_eq_true, decide_eq_true_eq, Bool.not_eq_true', List.any_eq_false] at h
  refine ⟨h.1.1, h.1.2, fun x hx => ?_⟩
  have := h.2 x hx
  simp [acn] at this; omega
theorem aad (c : UInt8) : ∀ (r : List (List UInt8)) (x : List UInt8), [c].intercalate (x :: r) = x ++ (r.map fun y => c :: y).flatten := xS c
theorem xT {n : Int} (h0 : 0 ≤ n) (h1 : n ≤ 99999) : (Lib.itoa n).length ≤ 21 := Lib.itoa_length_le n (by omega) (by omega)
theorem vu : ∀ (r : List Int), (∀ x ∈ r, 0 ≤ x ∧ x ≤ 99999) → ((r.map Lib.itoa).map fun y => (46 : UInt8) :: y).flatten.length ≤ 22 * r.length
  | [], _ => by simp
  | x :: r, h => by
    have h1 := xT (h x (by simp)).1 (h x (by simp)).2
    have h2 := vu r (fun y hy => h y (by simp [hy]))
    simp only [List.map_cons, List.flatten_cons, List.length_append, List.length_cons] at h2 ⊢
    omega
theorem wv {v : List Int} (h : W1 v = true) : (jB v).length ≤ 100 := by
  obtain ⟨h1, h2, h3⟩ := KM h
  cases v with
  | nil => simp at h1
  | cons x r =>
    have a := xT (h3 x (by simp)).1 (h3 x (by simp)).2
    have b := vu r (fun y hy => h3 y (by simp [hy]))
    unfold jB
    rw [List.map_cons, aad, List.length_append]
    simp only [List.length_cons] at h2
    omega
def Vb (QN JY WD : Nat) : AC := QP [0] (.reg [mc 2 (V.str []), mc 3 (V.int 0)]) (QP [0] (QP [0, 9] (.reg [mv 7 0, cl 8 QN [7], xo 9 (.un .not (.t 8))]) (.cond (.t 9) (QP [2, 3] (.reg [mc 2 (V.str []), mc 3 (V.int 22)]) (.ret)) (.skip))) (QP [0, 4] (.reg [xo 4 (.mknil 1)]) (QP [4] (QP [4, 10, 11, 12] (.reg [mv 10 0, ln 11 10, mc 12 (V.int 0)]) (.block 0 (VC [4, 10, 11, 12] (QP [4, 10, 11, 12, 13] (.reg [bn 13 .lss 12 11]) (QP [4, 10, 11, 12] (.cond (.t 13) (.skip) (.exit 0)) (QP [4, 10, 11, 12] (.block 1 (QP [4, 6, 10, 11, 12] (.reg [ia 14 1 10 12, ld 15 1 14, mv 6 15]) (.reg [mv 16 4, mv 17 6, cl 18 JY [17], xo 19 (.bslice 1 1 false [(.string ⟨#[]⟩)] [(0, (.t 18))]), xo 20 (.append 1 16 [(.string ⟨#[]⟩)] (.t 16) (.t 19)), mv 4 20]))) (.reg [bc 21 .add 12 (V.int 1), mv 12 21]))))))) (QP [2, 3] (.reg [mv 22 4, xo 23 (.call WD [(.t 22), (.c (V.str [46]))]), mv 2 23, mc 3 (V.int 0)]) (.ret))))) def r_packages_Text : List Xq := [.tmp 2, .tmp 3]
def WU (Γ : Env) (f : Nat) : Prop := ∀ (v : List Int) (hv : v.length < 2 ^ 60), EvN Γ f [.sl 1 (v.map V.int)] (Kj v)
theorem jk {Γ : Env} {f QN JY WD : Nat} (h : Has Γ.P f 24 (Vb QN JY WD) r_packages_Text) (QM : JX Γ QN) (JA : Vi Γ JY) (Xt : UO Γ WD) : WU Γ f := by
  intro v hv
  refine Q1 h (by simp) (by first | exact Kb _ | exact qZ _) (by first | exact Kb _ | exact qZ _) fun C hC hm => ?_
  subst hC
  unfold Vb
  have g := (QM v (by omega)).b
  unfold Kj
  rcases hok : W1 v with _ | _
  · rw [hok] at g
    simp only [Bool.false_eq_true, if_false]
    repeat' (first | refine Qe fun K' hK => ?_ | refine Qk fun K' hK => ?_ | refine Qf ?_ | refine Qj ?_ | refine Qa ?_ | ((first | refine Qi ⟨_, rfl, fun hc => ?_, fun hc => ?_⟩ | refine QY (fun hc => ?_) (fun hc => ?_) | refine QZ (fun hc => ?_) (fun hc => ?_)) <;> first | exact Bool.noConfusion hc | ((try simp only [znz] at hc); first | exact znf | skip)) | refine Qn ?_ | refine Qh ?_ | simp (maxSteps := 1000000) only [go_sem, Nat.reduceAdd, Nat.reduceMul, Nat.reduceEqDiff, Nat.reduceLeDiff, Nat.reduceLT, Nat.reduceSub, Int.reduceEq, Int.reduceBEq, Int.reduceLT, Int.reduceLE, Int.reduceAdd, Int.reduceToNat, reduceIte, reduceCtorEq] | (refine hK _ ?_; clear hK; clear K') | refine And.intro ?_ ?_ | (apply Q7; (focus first | exact g | exact (QM _ zsd).b | exact (JA _ zsd zsd).b | exact (Xt _ _ zsd zsd).b)) | exact zlo | omega | exact zms)
    all_goals first | (refine Q5 _ rfl ?_; simp only [go_sem, Nat.reduceEqDiff, Nat.reduceAdd, reduceIte, reduceCtorEq]; done) | trace_state
  · rw [hok] at g
    simp only [if_true]
    obtain ⟨o1, o2, o3⟩ := KM hok
    have hl := wv hok
    repeat' (first | refine Qe fun K' hK => ?_ | refine Qk fun K' hK => ?_ | refine Qf ?_ | refine Qj ?_ | refine Qa ?_ | ((first | refine Qi ⟨_, rfl, fun hc => ?_, fun hc => ?_⟩ | refine QY (fun hc => ?_) (fun hc => ?_) | refine QZ (fun hc => ?_) (fun hc => ?_)) <;> first | exact Bool.noConfusion hc | ((try simp only [znz] at hc); first | exact znf | skip)) | refine Qn ?_ | refine Qh ?_ | simp (maxSteps := 1000000) only [go_sem, Nat.reduceAdd, Nat.reduceMul, Nat.reduceEqDiff, Nat.reduceLeDiff, Nat.reduceLT, Nat.reduceSub, Int.reduceEq, Int.reduceBEq, Int.reduceLT, Int.reduceLE, Int.reduceAdd, Int.reduceToNat, reduceIte, reduceCtorEq] | (refine hK _ ?_; clear hK; clear K') | refine And.intro ?_ ?_ | (apply Q7; (focus first | exact g | exact (QM _ zsd).b | exact (JA _ zsd zsd).b | exact (Xt _ _ zsd zsd).b)) | exact zlo | omega | exact zms)
    refine Wf (ι := Nat) (fun k => k ≤ v.length) (fun k => q8 [(4, .hd 0 0 ((v.take k).map Lib.itoa).length), (10, .sl 1 (v.map V.int)), (11, V.int (v.map V.int).length), (12, V.int k)] [(0, .buf true 1 (((v.take k).map Lib.itoa).map V.str))] 1) (fun k => v.length - k) 0 (by omega) (Ja [(0, 5000)]) (Us [(0, 5000)] (by simp only [go_sem, Nat.reduceAdd, Nat.reduceMul, Nat.reduceEqDiff, Nat.reduceLT, Int.reduceToNat, reduceIte, reduceCtorEq, and_true, true_and, implies_true, Option.some.injEq, exists_eq_left', QJ, QU]; (repeat' (first | rfl | refine And.intro ?_ ?_ | omega | exact fun h => h | exact Exists.intro _ rfl))) (by simp only [go_sem, Nat.reduceAdd, Nat.reduceMul, Nat.reduceEqDiff, Nat.reduceLT, Int.reduceToNat, reduceIte, reduceCtorEq, and_true, true_and, implies_true, Option.some.injEq, exists_eq_left', QJ, QU]; (repeat' (first | rfl | refine And.intro ?_ ?_ | omega | exact fun h => h | exact Exists.intro _ rfl))) (by simp [Ja]) (by simp; omega) (by omega)) fun k hk K' hL => ?_
    rcases hd : v.drop k with _ | ⟨x, r⟩
    · have hkl := Vt hd
      have e1 : decide ((k : Int) < (((v.map V.int).length : Nat) : Int)) = false := by simp; omega
      have e3 : v.take k = v := List.take_of_length_le hkl
      rw [e3]
      have hjoin := (Xt (v.map Lib.itoa) [46] (by simp; omega) (by show (jB v).length < 2 ^ 40; omega)).b
      have hj2 : ([46] : List UInt8).intercalate (v.map Lib.itoa) = jB v := rfl
      rw [hj2] at hjoin
      repeat' (first | refine Qe fun K' hK => ?_ | refine Qk fun K' hK => ?_ | refine Qf ?_ | refine Qj ?_ | refine Qa ?_ | ((first | refine Qi ⟨_, rfl, fun hc => ?_, fun hc => ?_⟩ | refine QY (fun hc => ?_) (fun hc => ?_) | refine QZ (fun hc => ?_) (fun hc => ?_)) <;> first | exact Bool.noConfusion hc | ((try simp only [znz] at hc); first | exact znf | skip)) | refine Qn ?_ | refine Qh ?_ | simp (maxSteps := 1000000) only [go_sem, Nat.reduceAdd, Nat.reduceMul, Nat.reduceEqDiff, Nat.reduceLeDiff, Nat.reduceLT, Nat.reduceSub, Int.reduceEq, Int.reduceBEq, Int.reduceLT, Int.reduceLE, Int.reduceAdd, Int.reduceToNat, reduceIte, reduceCtorEq, q8, e1, WM] | (refine hK _ ?_; clear hK; clear K') | refine And.intro ?_ ?_ | (apply Q7; (focus first | exact hjoin | exact (QM _ zsd).b | exact (JA _ zsd zsd).b | exact (Xt _ _ zsd zsd).b)) | exact zlo | omega | exact zms)
      all_goals first | (refine Q5 _ rfl ?_; simp only [go_sem, Nat.reduceEqDiff, Nat.reduceAdd, reduceIte, reduceCtorEq]; done) | trace_state
    · obtain ⟨hk', hget, hr⟩ := WK hd
      have hw := Yg (k := k) (by omega)
      have e1 : decide ((k : Int) < (((v.map V.int).length : Nat) : Int)) = true := by simp; omega
      have hx := o3 x (List.mem_of_getElem? hget)
      have hns : (v.take (k + 1)).map Lib.itoa = (v.take k).map Lib.itoa ++ [Lib.itoa x] := by rw [List.take_add_one, hget, List.map_append]; rfl
      have hnl : ((v.take k).map Lib.itoa).length ≤ 4 := by simp; omega
      generalize (v.take k).map Lib.itoa = ns at *
      have hb : List.map V.str ns ++ [V.str (Lib.itoa x)] = (ns ++ [Lib.itoa x]).map V.str := by rw [List.map_append]; rfl
      have hln : ns.length + 1 = (ns ++ [Lib.itoa x]).length := by simp
      repeat' (first | refine Qe fun K' hK => ?_ | refine Qk fun K' hK => ?_ | refine Qf ?_ | refine Qj ?_ | refine Qa ?_ | ((first | refine Qi ⟨_, rfl, fun hc => ?_, fun hc => ?_⟩ | refine QY (fun hc => ?_) (fun hc => ?_) | refine QZ (fun hc => ?_) (fun hc => ?_)) <;> first | exact Bool.noConfusion hc | ((try simp only [znz] at hc); first | exact znf | skip)) | refine Qn ?_ | refine Qh ?_ | simp (maxSteps := 1000000) only [go_sem, Nat.reduceAdd, Nat.reduceMul, Nat.reduceEqDiff, Nat.reduceLeDiff, Nat.reduceLT, Nat.reduceSub, Int.reduceEq, Int.reduceBEq, Int.reduceLT, Int.reduceLE, Int.reduceAdd, Int.reduceToNat, reduceIte, reduceCtorEq, q8, e1, hw, Int.toNat_natCast, List.getElem?_map, hget, WM, hb, hln] | (refine hK _ ?_; clear hK; clear K') | refine And.intro ?_ ?_ | (apply Q7; (focus first | exact (QM _ zsd).b | exact (JA _ zsd zsd).b | exact (Xt _ _ zsd zsd).b)) | exact zlo | omega | exact zms)
      all_goals first
        | (refine hL _ (k + 1) (Ja [(0, 8001)]) (by omega) (by omega) ?_
           rw [hns]
           exact Us [(0, 8001)] (by simp only [go_sem, Nat.reduceAdd, Nat.reduceMul, Nat.reduceEqDiff, Nat.reduceLT, Int.reduceToNat, reduceIte, reduceCtorEq, and_true, true_and, implies_true, Option.some.injEq, exists_eq_left', QJ, QU]; (repeat' (first | rfl | refine And.intro ?_ ?_ | omega | exact fun h => h | exact Exists.intro _ rfl))) (by simp only [go_sem, Nat.reduceAdd, Nat.reduceMul, Nat.reduceEqDiff, Nat.reduceLT, Int.reduceToNat, reduceIte, reduceCtorEq, and_true, true_and, implies_true, Option.some.injEq, exists_eq_left', QJ, QU]; (repeat' (first | rfl | refine And.intro ?_ ?_ | omega | exact fun h => h | exact Exists.intro _ rfl))) (by simp [Ja]) (by simp; omega) (by omega))
        | (simp only [List.length_append, List.length_singleton]; omega)
        | trace_state
end Av
end
section
set_option linter.unusedSimpArgs false
set_option linter.unusedVariables false
set_option maxRecDepth 10000
set_option maxHeartbeats 4000000
namespace Av
open Go
attribute [local irreducible] AWp Y0 Xe Xo awS awC Wo awQ Wp QS JT Wm awR JV awB okR Y6 ris
def Kd (w : List UInt8) : Bool := (match Lib.atoiAll w with | .ok _ => true | _ => false) && (Lib.itoa (WA w) == w)
def abK (ws : List (List UInt8)) : V := if (ws.all Kd && W1 (ws.map WA)) = true then .tup [.sl 1 ((ws.map WA).map V.int), V.int 0] else .tup [.sl 1 [], V.int 22]
def ael (s : List UInt8) : V := abK (YT 46 s)
theorem wu (ws : List (List UInt8)) : (abK ws).closed := by unfold abK; split <;> simp only [V.closed, Qg, and_self]
theorem acu (w : List UInt8) : -9223372036854775808 ≤ WA w ∧ WA w ≤ 9223372036854775807 := by
  unfold WA
  split
  · rename_i v h
    unfold Lib.atoiAll at h
    split at h
    · exact absurd h (by simp)
    · dsimp only at h
      split at h
      · exact absurd h (by simp)
      · exact absurd h (by simp)
      · rename_i u _
        split at h
        · exact absurd h (by simp)
        · split at h
          · exact absurd h (by simp)
          · rename_i h1 h2
            injection h with h
            subst h
            split <;> rename_i h3 <;> simp only [h3, not_true_eq_false, not_false_eq_true, true_and, false_and] at h1 h2 <;> omega
  · unfold Lib.atoiSat; split <;> omega
  · omega
def X7 (X2 WE JY QN : Nat) : AC := QP [0] (.reg [xo 2 (.mknil 1), mc 3 (V.int 0)]) (QP [0, 4] (.reg [xo 4 (.mknil 1)]) (QP [4] (QP [4, 10, 11, 12] (.reg [mv 9 0, xo 10 (.call X2 [(.t 9), (.c (V.str [46]))]), ln 11 10, mc 12 (V.int 0)]) (.block 0 (VC [4, 10, 11, 12] (QP [4, 10, 11, 12, 13] (.reg [bn 13 .lss 12 11]) (QP [4, 10, 11, 12] (.cond (.t 13) (.skip) (.exit 0)) (QP [4, 10, 11, 12] (.block 1 (QP [4, 6, 10, 11, 12] (.reg [ia 14 1 10 12, ld 15 1 14, mv 6 15]) (QP [4, 6, 7, 8, 10, 11, 12] (.reg [mv 17 6, cl 18 WE [17], mv 16 18, ex 19 16 0, ex 20 16 1, mv 7 19, mv 8 20]) (QP [4, 7, 10, 11, 12] (QP [4, 7, 10, 11, 12, 28] (.reg [mv 21 8, xo 22 (.isnilI true (.t 21)), mv 23 22, mg 24 7 23 false, xg 25 (.call JY [(.t 24)]) 23 false, mg 26 6 23 false, xg 27 (.bin .neq (.t 25) (.t 26)) 23 false, xo 28 (.pick (.t 23) (.c (V.bool true)) (.t 27))]) (.cond (.t 28) (QP [2, 3] (.reg [xo 2 (.mknil 1), mc 3 (V.int 22)]) (.ret)) (.skip))) (.reg [mv 29 4, mv 30 7, xo 31 (.bslice 1 1 false [(.int .i64 0)] [(0, (.t 30))]), xo 32 (.append 1 8 [(.int .i64 0)] (.t 29) (.t 31)), mv 4 32]))))) (.reg [bc 33 .add 12 (V.int 1), mv 12 33]))))))) (QP [4] (QP [4, 36] (.reg [mv 34 4, cl 35 QN [34], xo 36 (.un .not (.t 35))]) (.cond (.t 36) (QP [2, 3] (.reg [xo 2 (.mknil 1), mc 3 (V.int 22)]) (.ret)) (.skip))) (QP [2, 3] (.reg [mv 37 4, mv 2 37, mc 3 (V.int 0)]) (.ret))))) def r_packages_Version : List Xq := [.tmp 2, .tmp 3]
def XM (Γ : Env) (f : Nat) : Prop := ∀ (s : List UInt8) (hs : s.length < 2 ^ 30), EvC Γ f [V.str s] (ael s)
theorem Kw {Γ : Env} {f X2 WE JY QN : Nat} (h : Has Γ.P f 38 (X7 X2 WE JY QN) r_packages_Version) (Yb : Uo Γ X2) (Yt : UP Γ WE) (JA : Vi Γ JY) (QM : JX Γ QN) : XM Γ f := by
  intro s hs
  refine jX h (by simp) (wu _) fun C hC hm => ?_
  subst hC
  unfold X7
  have hsp := (Yb s 46 (by omega)).b
  have hlen := vK 46 s
  have hmem : ∀ w ∈ YT 46 s, w.length < 2 ^ 30 := fun w hw => by have := vJ hw; omega
  unfold ael
  generalize YT 46 s = ws at *
  repeat' (first | refine Qe fun K' hK => ?_ | refine Qk fun K' hK => ?_ | refine Qf ?_ | refine Qj ?_ | refine Qa ?_ | ((first | refine Qi ⟨_, rfl, fun hc => ?_, fun hc => ?_⟩ | refine QY (fun hc => ?_) (fun hc => ?_) | refine QZ (fun hc => ?_) (fun hc => ?_)) <;> first | exact Bool.noConfusion hc | ((try simp only [znz] at hc); first | exact znf | skip)) | refine Qn ?_ | refine Qh ?_ | simp (maxSteps := 1000000) only [go_sem, Nat.reduceAdd, Nat.reduceMul, Nat.reduceEqDiff, Nat.reduceLeDiff, Nat.reduceLT, Nat.reduceSub, Int.reduceEq, Int.reduceBEq, Int.reduceLT, Int.reduceLE, Int.reduceAdd, Int.reduceToNat, reduceIte, reduceCtorEq] | (refine hK _ ?_; clear hK; clear K') | refine And.intro ?_ ?_ | (apply Q7; (focus first | exact hsp | exact (Yb _ _ zsd).b | exact (Yt _ zsd).b | exact (JA _ zsd zsd).b | exact (QM _ zsd).b)) | exact zlo | omega | exact zms)
  refine Wf (ι := Nat) (fun k => k ≤ ws.length ∧ (ws.take k).all Kd = true) (fun k => q8 [(4, .hd 0 0 ((ws.take k).map WA).length), (10, .sl 1 (ws.map V.str)), (11, V.int (ws.map V.str).length), (12, V.int k)] [(0, .buf true 1 (((ws.take k).map WA).map V.int))] 1) (fun k => ws.length - k) 0 ⟨by omega, by simp⟩ (Ja [(0, 2000)]) (Us [(0, 2000)] (by simp only [go_sem, Nat.reduceAdd, Nat.reduceMul, Nat.reduceEqDiff, Nat.reduceLT, Int.reduceToNat, reduceIte, reduceCtorEq, and_true, true_and, implies_true, Option.some.injEq, exists_eq_left', QJ, QU]; (repeat' (first | rfl | refine And.intro ?_ ?_ | omega | exact fun h => h | exact Exists.intro _ rfl))) (by simp only [go_sem, Nat.reduceAdd, Nat.reduceMul, Nat.reduceEqDiff, Nat.reduceLT, Int.reduceToNat, reduceIte, reduceCtorEq, and_true, true_and, implies_true, Option.some.injEq, exists_eq_left', QJ, QU]; (repeat' (first | rfl | refine And.intro ?_ ?_ | omega | exact fun h => h | exact Exists.intro _ rfl))) (by simp [Ja]) (by simp; omega) (by omega)) fun k hk K' hL => ?_
  obtain ⟨hk, hall⟩ := hk
  rcases hd : ws.drop k with _ | ⟨w, r⟩
  · have hkl := Vt hd
    have e1 : decide ((k : Int) < (((ws.map V.str).length : Nat) : Int)) = false := by simp; omega
    have e3 : ws.take k = ws := List.take_of_length_le hkl
    rw [e3] at hall ⊢
    have g := (QM (ws.map WA) (by simp; omega)).b
    rcases hok : W1 (ws.map WA) with _ | _
    · rw [hok] at g
      have hv : abK ws = .tup [.sl 1 [], V.int 22] := by rw [abK, hok, Bool.and_false]; rfl
      rw [hv]
      repeat' (first | refine Qe fun K' hK => ?_ | refine Qk fun K' hK => ?_ | refine Qf ?_ | refine Qj ?_ | refine Qa ?_ | ((first | refine Qi ⟨_, rfl, fun hc => ?_, fun hc => ?_⟩ | refine QY (fun hc => ?_) (fun hc => ?_) | refine QZ (fun hc => ?_) (fun hc => ?_)) <;> first | exact Bool.noConfusion hc | ((try simp only [znz] at hc); first | exact znf | skip)) | refine Qn ?_ | refine Qh ?_ | simp (maxSteps := 1000000) only [go_sem, Nat.reduceAdd, Nat.reduceMul, Nat.reduceEqDiff, Nat.reduceLeDiff, Nat.reduceLT, Nat.reduceSub, Int.reduceEq, Int.reduceBEq, Int.reduceLT, Int.reduceLE, Int.reduceAdd, Int.reduceToNat, reduceIte, reduceCtorEq, q8, e1, WM] | (refine hK _ ?_; clear hK; clear K') | refine And.intro ?_ ?_ | (apply Q7; (focus first | exact g | exact (Yb _ _ zsd).b | exact (Yt _ zsd).b | exact (JA _ zsd zsd).b | exact (QM _ zsd).b)) | exact zlo | omega | exact zms)
      all_goals first | (refine Q5 _ rfl ?_; simp only [go_sem, Nat.reduceEqDiff, Nat.reduceAdd, reduceIte, reduceCtorEq]; first | done | rfl | exact ⟨_, _, rfl⟩) | trace_state
    · rw [hok] at g
      have hv : abK ws = .tup [.sl 1 ((ws.map WA).map V.int), V.int 0] := by rw [abK, hok, hall]; rfl
      rw [hv]
      repeat' (first | refine Qe fun K' hK => ?_ | refine Qk fun K' hK => ?_ | refine Qf ?_ | refine Qj ?_ | refine Qa ?_ | ((first | refine Qi ⟨_, rfl, fun hc => ?_, fun hc => ?_⟩ | refine QY (fun hc => ?_) (fun hc => ?_) | refine QZ (fun hc => ?_) (fun hc => ?_)) <;> first | exact Bool.noConfusion hc | ((try simp only [znz] at hc); first | exact znf | skip)) | refine Qn ?_ | refine Qh ?_ | simp (maxSteps := 1000000) only [go_sem, Nat.reduceAdd, Nat.reduceMul, Nat.reduceEqDiff, Nat.reduceLeDiff, Nat.reduceLT, Nat.reduceSub, Int.reduceEq, Int.reduceBEq, Int.reduceLT, Int.reduceLE, Int.reduceAdd, Int.reduceToNat, reduceIte, reduceCtorEq, q8, e1, WM] | (refine hK _ ?_; clear hK; clear K') | refine And.intro ?_ ?_ | (apply Q7; (focus first | exact g | exact (Yb _ _ zsd).b | exact (Yt _ zsd).b | exact (JA _ zsd zsd).b | exact (QM _ zsd).b)) | exact zlo | omega | exact zms)
      all_goals first | (refine Q5 _ rfl ?_; simp only [go_sem, Nat.reduceEqDiff, Nat.reduceAdd, reduceIte, reduceCtorEq]; rw [WM]) | trace_state
  · obtain ⟨hk', hget, hr⟩ := WK hd
    have hw := Yg (k := k) (by omega)
    have e1 : decide ((k : Int) < (((ws.map V.str).length : Nat) : Int)) = true := by simp; omega
    have hwm := List.mem_of_getElem? hget
    have hwl := hmem w hwm
    have ga := (Yt w (by omega)).b
    have hrng := acu w
    have gi := (JA (WA w) hrng.1 hrng.2).b
    have hbad : Kd w = false → abK ws = .tup [.sl 1 [], V.int 22] := by
      intro h
      have : ws.all Kd = false := by rw [List.all_eq_false]; exact ⟨w, hwm, by simp [h]⟩
      rw [abK, this]; rfl
    have hns : (ws.take (k + 1)).map WA = (ws.take k).map WA ++ [WA w] := by rw [List.take_add_one, hget, List.map_append]; rfl
    have hall2 : Kd w = true → (ws.take (k + 1)).all Kd = true := by
      intro h; rw [List.take_add_one, hget, List.all_append, hall]; simp [h]
    have hnl : ((ws.take k).map WA).length ≤ 2 ^ 30 := by simp; omega
    generalize (ws.take k).map WA = ns at *
    have hb : List.map V.int ns ++ [V.int (WA w)] = (ns ++ [WA w]).map V.int := by rw [List.map_append]; rfl
    have hln : ns.length + 1 = (ns ++ [WA w]).length := by simp
    by_cases hok : ∃ n, Lib.atoiAll w = .ok n
    · obtain ⟨n, hn⟩ := hok
      have he : abo w = .sc .nilIface := by rw [abo, hn]
      have hpo : Kd w = (Lib.itoa (WA w) == w) := by rw [Kd, hn]; rfl
      rw [he] at ga
      rcases hq : (Lib.itoa (WA w) == w) with _ | _
      · rw [hbad (by rw [hpo, hq])]
        repeat' (first | refine Qe fun K' hK => ?_ | refine Qk fun K' hK => ?_ | refine Qf ?_ | refine Qj ?_ | refine Qa ?_ | ((first | refine Qi ⟨_, rfl, fun hc => ?_, fun hc => ?_⟩ | refine QY (fun hc => ?_) (fun hc => ?_) | refine QZ (fun hc => ?_) (fun hc => ?_)) <;> first | exact Bool.noConfusion hc | ((try simp only [znz] at hc); first | exact znf | skip)) | refine Qn ?_ | refine Qh ?_ | simp (maxSteps := 1000000) only [go_sem, Nat.reduceAdd, Nat.reduceMul, Nat.reduceEqDiff, Nat.reduceLeDiff, Nat.reduceLT, Nat.reduceSub, Int.reduceEq, Int.reduceBEq, Int.reduceLT, Int.reduceLE, Int.reduceAdd, Int.reduceToNat, reduceIte, reduceCtorEq, q8, e1, hw, hq, Int.toNat_natCast, List.getElem?_map, hget] | (refine hK _ ?_; clear hK; clear K') | refine And.intro ?_ ?_ | (apply Q7; (focus first | exact ga | exact gi | exact (Yb _ _ zsd).b | exact (Yt _ zsd).b | exact (JA _ zsd zsd).b | exact (QM _ zsd).b)) | exact zlo | omega | exact zms)
        all_goals first | (refine Q5 _ rfl ?_; simp only [go_sem, Nat.reduceEqDiff, Nat.reduceAdd, reduceIte, reduceCtorEq]; first | done | rfl | exact ⟨_, _, rfl⟩) | trace_state
      · repeat' (first | refine Qe fun K' hK => ?_ | refine Qk fun K' hK => ?_ | refine Qf ?_ | refine Qj ?_ | refine Qa ?_ | ((first | refine Qi ⟨_, rfl, fun hc => ?_, fun hc => ?_⟩ | refine QY (fun hc => ?_) (fun hc => ?_) | refine QZ (fun hc => ?_) (fun hc => ?_)) <;> first | exact Bool.noConfusion hc | ((try simp only [znz] at hc); first | exact znf | skip)) | refine Qn ?_ | refine Qh ?_ | simp (maxSteps := 1000000) only [go_sem, Nat.reduceAdd, Nat.reduceMul, Nat.reduceEqDiff, Nat.reduceLeDiff, Nat.reduceLT, Nat.reduceSub, Int.reduceEq, Int.reduceBEq, Int.reduceLT, Int.reduceLE, Int.reduceAdd, Int.reduceToNat, reduceIte, reduceCtorEq, q8, e1, hw, hq, Int.toNat_natCast, List.getElem?_map, hget, WM, hb, hln] | (refine hK _ ?_; clear hK; clear K') | refine And.intro ?_ ?_ | (apply Q7; (focus first | exact ga | exact gi | exact (Yb _ _ zsd).b | exact (Yt _ zsd).b | exact (JA _ zsd zsd).b | exact (QM _ zsd).b)) | exact zlo | omega | exact zms)
        all_goals first
          | (refine hL _ (k + 1) (Ja [(0, 22001)]) ⟨by omega, hall2 (by rw [hpo, hq])⟩ (by omega) ?_
             rw [hns]
             exact Us [(0, 22001)] (by simp only [go_sem, Nat.reduceAdd, Nat.reduceMul, Nat.reduceEqDiff, Nat.reduceLT, Int.reduceToNat, reduceIte, reduceCtorEq, and_true, true_and, implies_true, Option.some.injEq, exists_eq_left', QJ, QU]; (repeat' (first | rfl | refine And.intro ?_ ?_ | omega | exact fun h => h | exact Exists.intro _ rfl))) (by simp only [go_sem, Nat.reduceAdd, Nat.reduceMul, Nat.reduceEqDiff, Nat.reduceLT, Int.reduceToNat, reduceIte, reduceCtorEq, and_true, true_and, implies_true, Option.some.injEq, exists_eq_left', QJ, QU]; (repeat' (first | rfl | refine And.intro ?_ ?_ | omega | exact fun h => h | exact Exists.intro _ rfl))) (by simp [Ja]) (by simp; omega) (by omega))
          | (simp only [List.length_append, List.length_singleton]; omega)
          | trace_state
    · have he : abo w = .nn := by
        unfold abo; split
        · rename_i n h; exact absurd ⟨n, h⟩ hok
        · rfl
      have hpo : Kd w = false := by
        unfold Kd
        have : (match Lib.atoiAll w with | .ok _ => true | _ => false) = false := by
          split
          · rename_i n h; exact absurd ⟨n, h⟩ hok
          · rfl
        rw [this]; rfl
      rw [he] at ga
      rw [hbad hpo]
      repeat' (first | refine Qe fun K' hK => ?_ | refine Qk fun K' hK => ?_ | refine Qf ?_ | refine Qj ?_ | refine Qa ?_ | ((first | refine Qi ⟨_, rfl, fun hc => ?_, fun hc => ?_⟩ | refine QY (fun hc => ?_) (fun hc => ?_) | refine QZ (fun hc => ?_) (fun hc => ?_)) <;> first | exact Bool.noConfusion hc | ((try simp only [znz] at hc); first | exact znf | skip)) | refine Qn ?_ | refine Qh ?_ | simp (maxSteps := 1000000) only [go_sem, Nat.reduceAdd, Nat.reduceMul, Nat.reduceEqDiff, Nat.reduceLeDiff, Nat.reduceLT, Nat.reduceSub, Int.reduceEq, Int.reduceBEq, Int.reduceLT, Int.reduceLE, Int.reduceAdd, Int.reduceToNat, reduceIte, reduceCtorEq, q8, e1, hw, Int.toNat_natCast, List.getElem?_map, hget] | (refine hK _ ?_; clear hK; clear K') | refine And.intro ?_ ?_ | (apply Q7; (focus first | exact ga | exact gi | exact (Yb _ _ zsd).b | exact (Yt _ zsd).b | exact (JA _ zsd zsd).b | exact (QM _ zsd).b)) | exact zlo | omega | exact zms)
      all_goals first | (refine Q5 _ rfl ?_; simp only [go_sem, Nat.reduceEqDiff, Nat.reduceAdd, reduceIte, reduceCtorEq]; first | done | rfl | exact ⟨_, _, rfl⟩) | trace_state
end Av
end
section
set_option linter.unusedSimpArgs false
set_option linter.unusedVariables false
set_option maxRecDepth 10000
set_option maxHeartbeats 4000000
namespace Av
open Go
attribute [local irreducible] AWp Y0 Xe Xo awS awC Wo awQ Wp QS JT Wm awR JV awB okR Y6 ris
end Av
end
section
set_option linter.unusedSimpArgs false
set_option linter.unusedVariables false
set_option maxRecDepth 10000
set_option maxHeartbeats 4000000
namespace Av
open Go
attribute [local irreducible] AWp Y0 Xe Xo awS awC Wo awQ Wp QS JT Wm awR JV awB okR Y6 ris
def vs5 : List Int := [0, 1, 2, 10, 99999]
def KN (l : List Int) : Nat → List Int → Nat → List Int × Nat
  | 0, v, k => (v, k)
  | i + 1, v, k => KN l i (v ++ [(ofD l k vs5).1]) (ofD l k vs5).2
def wt (l : List Int) (k : Nat) : List Int × Nat := KN l (JE l (JE l k 4).2 3).1.toNat [(JE l k 4).1] (JE l (JE l k 4).2 3).2
theorem acV {x : Int} (h : x ∈ vs5) : 0 ≤ x ∧ x ≤ 99999 := by
  simp only [vs5, List.mem_cons, List.mem_nil_iff, or_false] at h; omega
theorem w7 (l : List Int) : ∀ (i : Nat) (v : List Int) (k : Nat), k ≤ l.length → (KN l i v k).2 ≤ l.length
  | 0, _, _, h => h
  | i + 1, v, k, h => w7 l i _ _ (aa0 h)
theorem w6 (l : List Int) : ∀ (i : Nat) (v : List Int) (k : Nat), (∀ x ∈ v, 0 ≤ x ∧ x ≤ 99999) → (KN l i v k).1.length = v.length + i ∧ ∀ x ∈ (KN l i v k).1, 0 ≤ x ∧ x ≤ 99999
  | 0, v, k, h => ⟨rfl, h⟩
  | i + 1, v, k, h => by
    have := w6 l i (v ++ [(ofD l k vs5).1]) (ofD l k vs5).2 fun x hx => by
      rcases List.mem_append.1 hx with h1 | h1
      · exact h x h1
      · rw [List.mem_singleton.1 h1]; exact acV (adc (by simp [vs5]) (by simp [vs5]))
    simp only [List.length_append, List.length_singleton] at this
    exact ⟨by rw [KN, this.1]; omega, this.2⟩
theorem aaB {l : List Int} {k : Nat} (hk : k ≤ l.length) : (wt l k).2 ≤ l.length := w7 l _ _ _ (Yx (Yx hk))
theorem aaA (l : List Int) (k : Nat) : W1 (wt l k).1 = true := by
  have r1 := J2 (l := l) (k := k) (n := 4) (by omega) (by omega)
  have r2 := J2 (l := l) (k := (JE l k 4).2) (n := 3) (by omega) (by omega)
  obtain ⟨h1, h2⟩ := w6 l (JE l (JE l k 4).2 3).1.toNat [(JE l k 4).1] (JE l (JE l k 4).2 3).2 (by simp; omega)
  simp only [List.length_singleton] at h1
  have hb : (wt l k).1.any acn = false := by
    rw [List.any_eq_false]
    intro x hx
    have := h2 x hx
    simp [acn]; omega
  unfold W1
  rw [hb, decide_eq_true (show 1 ≤ (wt l k).1.length by show 1 ≤ (KN l _ _ _).1.length; omega), decide_eq_true (show (wt l k).1.length ≤ 4 by show (KN l _ _ _).1.length ≤ 4; omega)]; rfl
def Vd (Qm Qw : Nat) : AC := QP [0] (.reg [xo 2 (.mknil 1)]) (QP [0, 3] (.reg [mv 5 0, xo 6 (.call Qm [(.t 5), (.c (V.int 4))]), xo 7 (.bslice 1 1 false [(.int .i64 0)] [(0, (.t 6))]), mv 3 7]) (QP [3] (QP [0, 3, 4] (.reg [mv 8 0, xo 9 (.call Qm [(.t 8), (.c (V.int 3))]), mv 4 9]) (.block 0 (VC [0, 3, 4] (QP [0, 3, 4] (QP [0, 3, 4, 11] (.reg [mv 10 4, bc 11 .gtr 10 (V.int 0)]) (.cond (.t 11) (.skip) (.exit 0))) (QP [0, 3, 4] (.block 1 (.reg [mv 14 3, mv 15 0, xo 16 (.bslice 5 1 false [(.int .i64 0)] [(0, (.c (V.int 0))), (1, (.c (V.int 1))), (2, (.c (V.int 2))), (3, (.c (V.int 10))), (4, (.c (V.int 99999)))]), cl 17 Qw [15, 16], xo 18 (.bslice 1 1 false [(.int .i64 0)] [(0, (.t 17))]), xo 19 (.append 1 8 [(.int .i64 0)] (.t 14) (.t 18)), mv 3 19])) (.reg [mv 12 4, bc 13 .sub 12 (V.int 1), mv 4 13])))))) (QP [2] (.reg [mv 20 3, mv 2 20]) (.ret)))) def r_law12_version : List Xq := [.tmp 2]
def Xz (Γ : Env) (f : Nat) : Prop := ∀ (l : List Int) (k : Nat) (hl : l.length ≤ 400) (hk : k ≤ l.length), EvD Γ f [] (Jy l k) (.sl 1 ((wt l k).1.map V.int)) (Jy l (wt l k).2)
theorem jm {Γ : Env} {f Qm Qw : Nat} (h : Has Γ.P f 21 (Vd Qm Qw) r_law12_version) (Qb : JQ Γ Qm) (Qs : Xy Γ Qw) : Xz Γ f := by
  intro l k hl hk
  refine Ws h (by simp) (by simp only [V.closed, Qg, V.noSl, Jw, and_self, and_true, true_and]) (by first | exact JG _ _ | simp only [V.closed, Qg, and_self, and_true, true_and]) (by first | exact JG _ _ | simp only [V.closed, Qg, and_self, and_true, true_and]) fun C hC hm => ?_
  subst hC
  unfold Vd
  have n0 := Qb l k 4 hl hk
  have hk0 := Yx (n := 4) hk
  have e2 : wt l k = KN l (JE l (JE l k 4).2 3).1.toNat [(JE l k 4).1] (JE l (JE l k 4).2 3).2 := rfl
  rw [e2]
  generalize JE l k 4 = u at *
  obtain ⟨x0, k0⟩ := u
  simp only at hk0 n0 ⊢
  have n1 := Qb l k0 3 hl hk0
  have hr := J2 (l := l) (k := k0) (n := 3) (by omega) (by omega)
  have hk1 := Yx (n := 3) hk0
  generalize JE l k0 3 = w at *
  obtain ⟨i0, k1⟩ := w
  obtain ⟨i0, rfl⟩ : ∃ j : Nat, i0 = (j : Int) := ⟨i0.toNat, by simp only at hr; omega⟩
  simp only [Jy, Int.toNat_natCast] at n0 n1 hr hk1 ⊢
  repeat' (first | refine Qe fun K' hK => ?_ | refine Qk fun K' hK => ?_ | refine Qf ?_ | refine Qj ?_ | refine Qa ?_ | ((first | refine Qi ⟨_, rfl, fun hc => ?_, fun hc => ?_⟩ | refine QY (fun hc => ?_) (fun hc => ?_) | refine QZ (fun hc => ?_) (fun hc => ?_)) <;> first | exact Bool.noConfusion hc | ((try simp only [znz] at hc); first | exact znf | skip)) | refine Qn ?_ | refine Qh ?_ | simp (maxSteps := 1000000) only [go_sem, Nat.reduceAdd, Nat.reduceMul, Nat.reduceEqDiff, Nat.reduceLeDiff, Nat.reduceLT, Nat.reduceSub, Int.reduceEq, Int.reduceBEq, Int.reduceLT, Int.reduceLE, Int.reduceAdd, Int.reduceToNat, reduceIte, reduceCtorEq, Jy] | (refine hK _ ?_; clear hK; clear K') | refine And.intro ?_ ?_ | (apply YX; (focus exact rfl); (focus first | exact n0 | exact n1 | exact (Qb _ _ _ zsd zsd) | exact (Qs _ _ _ zsd zsd zsd zsd)); (focus exact rfl); (focus exact rfl)) | exact zlo | omega | exact zms)
  refine Wf (ι := Nat × List Int × Nat) (fun p => p.1 ≤ 2 ∧ p.2.2 ≤ l.length ∧ p.2.1.length + p.1 ≤ 3 ∧ KN l p.1 p.2.1 p.2.2 = KN l i0 [x0] k1) (fun p => q8 [(0, .ptr 0 0), (3, .hd 1 0 p.2.1.length), (4, V.int p.1)] [(0, .box true [.sl 1 (l.map V.int), V.int p.2.2]), (1, .buf true 1 (p.2.1.map V.int))] 2) (fun p => p.1) (i0, [x0], k1) ⟨(by show i0 ≤ 2; omega), hk1, (by show [x0].length + i0 ≤ 3; simp; omega), rfl⟩ (Ja [(1, 3001)]) (Us [(1, 3001)] (by simp only [go_sem, Nat.reduceAdd, Nat.reduceMul, Nat.reduceEqDiff, Nat.reduceLT, Int.reduceToNat, reduceIte, reduceCtorEq, and_true, true_and, implies_true, Option.some.injEq, exists_eq_left', QJ, QU]; (repeat' (first | rfl | refine And.intro ?_ ?_ | omega | exact fun h => h | exact Exists.intro _ rfl))) (by simp only [go_sem, Nat.reduceAdd, Nat.reduceMul, Nat.reduceEqDiff, Nat.reduceLT, Int.reduceToNat, reduceIte, reduceCtorEq, and_true, true_and, implies_true, Option.some.injEq, exists_eq_left', QJ, QU]; (repeat' (first | rfl | refine And.intro ?_ ?_ | omega | exact fun h => h | exact Exists.intro _ rfl))) (by simp [Ja]) (by simp; omega) (by omega)) fun p hp K' hL => ?_
  obtain ⟨i, v, k⟩ := p
  obtain ⟨hi, hk, hv, hinv⟩ := hp
  simp only at hi hk hv hinv
  rcases i with _ | i
  · rw [← hinv]
    repeat' (first | refine Qe fun K' hK => ?_ | refine Qk fun K' hK => ?_ | refine Qf ?_ | refine Qj ?_ | refine Qa ?_ | ((first | refine Qi ⟨_, rfl, fun hc => ?_, fun hc => ?_⟩ | refine QY (fun hc => ?_) (fun hc => ?_) | refine QZ (fun hc => ?_) (fun hc => ?_)) <;> first | exact Bool.noConfusion hc | ((try simp only [znz] at hc); first | exact znf | skip)) | refine Qn ?_ | refine Qh ?_ | simp (maxSteps := 1000000) only [go_sem, Nat.reduceAdd, Nat.reduceMul, Nat.reduceEqDiff, Nat.reduceLeDiff, Nat.reduceLT, Nat.reduceSub, Int.reduceEq, Int.reduceBEq, Int.reduceLT, Int.reduceLE, Int.reduceAdd, Int.reduceToNat, reduceIte, reduceCtorEq, q8, Jy, KN, WM] | (refine hK _ ?_; clear hK; clear K') | refine And.intro ?_ ?_ | (apply YX; (focus exact rfl); (focus first | exact (Qb _ _ _ zsd zsd) | exact (Qs _ _ _ zsd zsd zsd zsd)); (focus exact rfl); (focus exact rfl)) | exact zlo | omega | exact zms)
    all_goals
      refine Kf _ rfl rfl (by simp only [V.closed, Qg, and_self, and_true, true_and]) ?_; simp only [go_sem, Nat.reduceEqDiff, Nat.reduceAdd, reduceIte, reduceCtorEq]
      all_goals first | done | exact ⟨by simp, by rw [WM]⟩
  · have n1 := Qs l k [0, 1, 2, 10, 99999] hl hk (by simp) (by simp)
    have hk1 := aa0 (xs := [0, 1, 2, 10, 99999]) hk
    have e4 : KN l (i + 1) v k = KN l i (v ++ [(ofD l k [0, 1, 2, 10, 99999]).1]) (ofD l k [0, 1, 2, 10, 99999]).2 := rfl
    rw [e4] at hinv
    generalize ofD l k [0, 1, 2, 10, 99999] = u at *
    obtain ⟨c, k2⟩ := u
    simp only [Jy, List.map_cons, List.map_nil] at n1 hk1 hinv
    have e1 : decide (((i + 1 : Nat) : Int) > 0) = true := decide_eq_true (by omega)
    have ew : IntKind.i64.wrap (((i + 1 : Nat) : Int) - 1) = (i : Int) := by rw [Wq (by omega) (by omega)]; omega
    have hb : List.map V.int v ++ [V.int c] = (v ++ [c]).map V.int := by rw [List.map_append]; rfl
    have hln : v.length + 1 = (v ++ [c]).length := by simp
    repeat' (first | refine Qe fun K' hK => ?_ | refine Qk fun K' hK => ?_ | refine Qf ?_ | refine Qj ?_ | refine Qa ?_ | ((first | refine Qi ⟨_, rfl, fun hc => ?_, fun hc => ?_⟩ | refine QY (fun hc => ?_) (fun hc => ?_) | refine QZ (fun hc => ?_) (fun hc => ?_)) <;> first | exact Bool.noConfusion hc | ((try simp only [znz] at hc); first | exact znf | skip)) | refine Qn ?_ | refine Qh ?_ | simp (maxSteps := 1000000) only [go_sem, Nat.reduceAdd, Nat.reduceMul, Nat.reduceEqDiff, Nat.reduceLeDiff, Nat.reduceLT, Nat.reduceSub, Int.reduceEq, Int.reduceBEq, Int.reduceLT, Int.reduceLE, Int.reduceAdd, Int.reduceToNat, reduceIte, reduceCtorEq, q8, e1, ew, WM, hb, hln] | (refine hK _ ?_; clear hK; clear K') | refine And.intro ?_ ?_ | (apply YX; (focus exact rfl); (focus first | exact n1 | exact (Qb _ _ _ zsd zsd) | exact (Qs _ _ _ zsd zsd zsd zsd)); (focus exact rfl); (focus exact rfl)) | exact zlo | omega | exact zms)
    all_goals first
      | exact hL _ (i, v ++ [c], k2) (Ja [(1, 7002)]) ⟨by simp only; omega, hk1, by simp; omega, hinv⟩ (by simp only; omega) (Us [(1, 7002)] (by simp only [go_sem, Nat.reduceAdd, Nat.reduceMul, Nat.reduceEqDiff, Nat.reduceLT, Int.reduceToNat, reduceIte, reduceCtorEq, and_true, true_and, implies_true, Option.some.injEq, exists_eq_left', QJ, QU]; (repeat' (first | rfl | refine And.intro ?_ ?_ | omega | exact fun h => h | exact Exists.intro _ rfl))) (by simp only [go_sem, Nat.reduceAdd, Nat.reduceMul, Nat.reduceEqDiff, Nat.reduceLT, Int.reduceToNat, reduceIte, reduceCtorEq, and_true, true_and, implies_true, Option.some.injEq, exists_eq_left', QJ, QU]; (repeat' (first | rfl | refine And.intro ?_ ?_ | omega | exact fun h => h | exact Exists.intro _ rfl))) (by simp [Ja]) (by simp; omega) (by omega))
      | (simp only [List.length_append, List.length_singleton]; omega)
      | trace_state
end Av
end
section
set_option linter.unusedSimpArgs false
set_option linter.unusedVariables false
set_option maxRecDepth 10000
set_option maxHeartbeats 4000000
namespace Av
open Go
attribute [local irreducible] AWp Y0 Xe Xo awS awC Wo awQ Wp QS JT Wm awR JV awB okR Y6 ris
def WZ (l : List Int) (k : Nat) : List Int × Nat := if (JE l k 2).1 == 1 then wt l (JE l k 2).2 else ([], (JE l k 2).2)
def wj (l : List Int) (k : Nat) : (List Int × List Int) × Nat := (((WZ l k).1, (WZ l (WZ l k).2).1), (WZ l (WZ l k).2).2)
theorem xi {l : List Int} {k : Nat} (hk : k ≤ l.length) : (WZ l k).2 ≤ l.length := by
  unfold WZ; split
  · exact aaB (Yx hk)
  · exact Yx hk
theorem xV (l : List Int) (k : Nat) : (WZ l k).1.length ≤ 4 := by
  unfold WZ; split
  · exact (KM (aaA l _)).2.1
  · simp
def V7 (JB Q0 : Nat) : AC := QP [0, 2] (.reg [xo 2 (.alloc [.nil 1, .nil 1])]) (QP [0, 2, 3] (.reg [xo 3 (.alloc [.nil 1, .nil 1])]) (QP [0, 2, 3] (QP [0, 2, 3, 5] (.reg [mv 4 0, xo 5 (.call JB [(.t 4), (.c (V.int 2))])]) (.cond (.t 5) (.reg [mv 6 0, cl 7 Q0 [6], fa 8 0 3, xs 1 8 7]) (.skip))) (QP [2, 3] (QP [0, 2, 3, 10] (.reg [mv 9 0, xo 10 (.call JB [(.t 9), (.c (V.int 2))])]) (.cond (.t 10) (.reg [mv 11 0, cl 12 Q0 [11], fa 13 1 3, xs 1 13 12]) (.skip))) (QP [2] (.reg [xo 14 (.load true 2 (.t 3)), xs 2 2 14]) (.ret))))) def r_law12_bound : List Xq := [.cell 2 true 2]
def VI (Γ : Env) (f : Nat) : Prop := ∀ (l : List Int) (k : Nat) (hl : l.length ≤ 400) (hk : k ≤ l.length), EvD Γ f [] (Jy l k) (yA (wj l k).1.1 (wj l k).1.2) (Jy l (wj l k).2)
theorem ym {Γ : Env} {f JB Q0 : Nat} (h : Has Γ.P f 15 (V7 JB Q0) r_law12_bound) (Qo : Xn Γ JB) (Qp : Xz Γ Q0) : VI Γ f := by
  intro l k hl hk
  refine Ws h (by simp) (by simp only [V.closed, Qg, V.noSl, Jw, and_self, and_true, true_and]) (by first | exact JG _ _ | simp only [V.closed, Qg, and_self, and_true, true_and]) (by first | exact JG _ _ | simp only [V.closed, Qg, and_self, and_true, true_and]) fun C hC hm => ?_
  subst hC
  unfold V7
  have o1 := Qo l k 2 hl hk (by omega) (by omega)
  have k1 := Yx (n := 2) hk
  have v1 := Qp l (JE l k 2).2 hl k1
  have kh := xi hk
  have o2 := Qo l (WZ l k).2 2 hl kh (by omega) (by omega)
  have k2 := Yx (n := 2) kh
  have v2 := Qp l (JE l (WZ l k).2 2).2 hl k2
  have e1 : (WZ l k) = if ((JE l k 2).1 == 2 - 1) = true then wt l (JE l k 2).2 else ([], (JE l k 2).2) := rfl
  have e2 : (WZ l (WZ l k).2) = if ((JE l (WZ l k).2 2).1 == 2 - 1) = true then wt l (JE l (WZ l k).2 2).2 else ([], (JE l (WZ l k).2 2).2) := rfl
  unfold wj
  generalize hH : WZ l (WZ l k).2 = H2 at *
  generalize WZ l k = H1 at *
  obtain ⟨b1, q1⟩ := H1
  obtain ⟨b2, q2⟩ := H2
  generalize hc1 : ((JE l k 2).1 == 2 - 1) = c1 at *
  generalize hc2 : ((JE l q1 2).1 == 2 - 1) = c2 at *
  simp only at o2 v2 e1 e2
  rcases c1 with _ | _ <;> rcases c2 with _ | _
  all_goals
    simp only [Bool.false_eq_true, if_false, if_true, Prod.mk.injEq] at e1 e2
  · obtain ⟨rfl, rfl⟩ := e1
    obtain ⟨rfl, rfl⟩ := e2
    simp only [Jy] at o1 v1 o2 v2
    repeat' (first | refine Qe fun K' hK => ?_ | refine Qk fun K' hK => ?_ | refine Qf ?_ | refine Qj ?_ | refine Qa ?_ | ((first | refine Qi ⟨_, rfl, fun hc => ?_, fun hc => ?_⟩ | refine QY (fun hc => ?_) (fun hc => ?_) | refine QZ (fun hc => ?_) (fun hc => ?_)) <;> first | exact Bool.noConfusion hc | ((try simp only [znz] at hc); first | exact znf | skip)) | refine Qn ?_ | refine Qh ?_ | simp (maxSteps := 1000000) only [go_sem, Nat.reduceAdd, Nat.reduceMul, Nat.reduceEqDiff, Nat.reduceLeDiff, Nat.reduceLT, Nat.reduceSub, Int.reduceEq, Int.reduceBEq, Int.reduceLT, Int.reduceLE, Int.reduceAdd, Int.reduceToNat, reduceIte, reduceCtorEq, Jy] | (refine hK _ ?_; clear hK; clear K') | refine And.intro ?_ ?_ | (apply YX; (focus exact rfl); (focus first | exact o1 | exact o2 | exact (Qo _ _ _ zsd zsd zsd zsd) | exact (Qp _ _ zsd zsd)); (focus exact rfl); (focus exact rfl)) | exact zlo | omega | exact zms)
    all_goals (refine Kf _ rfl rfl (by simp only [V.closed, Qg, and_self, and_true, true_and]) ?_; simp only [go_sem, Nat.reduceEqDiff, Nat.reduceAdd, reduceIte, reduceCtorEq])
    all_goals first | done | exact ⟨⟨by simp, _, _, rfl⟩, by simp, _, _, rfl⟩ | exact ⟨by simp, _, _, rfl⟩ | (simp; done) | trace_state
  · obtain ⟨rfl, rfl⟩ := e1
    generalize wt l (JE l (JE l k 2).2 2).2 = y2 at *
    subst e2
    simp only [Jy] at o1 v1 o2 v2
    repeat' (first | refine Qe fun K' hK => ?_ | refine Qk fun K' hK => ?_ | refine Qf ?_ | refine Qj ?_ | refine Qa ?_ | ((first | refine Qi ⟨_, rfl, fun hc => ?_, fun hc => ?_⟩ | refine QY (fun hc => ?_) (fun hc => ?_) | refine QZ (fun hc => ?_) (fun hc => ?_)) <;> first | exact Bool.noConfusion hc | ((try simp only [znz] at hc); first | exact znf | skip)) | refine Qn ?_ | refine Qh ?_ | simp (maxSteps := 1000000) only [go_sem, Nat.reduceAdd, Nat.reduceMul, Nat.reduceEqDiff, Nat.reduceLeDiff, Nat.reduceLT, Nat.reduceSub, Int.reduceEq, Int.reduceBEq, Int.reduceLT, Int.reduceLE, Int.reduceAdd, Int.reduceToNat, reduceIte, reduceCtorEq, Jy] | (refine hK _ ?_; clear hK; clear K') | refine And.intro ?_ ?_ | (apply YX; (focus exact rfl); (focus first | exact o1 | exact o2 | exact v2 | exact (Qo _ _ _ zsd zsd zsd zsd) | exact (Qp _ _ zsd zsd)); (focus exact rfl); (focus exact rfl)) | exact zlo | omega | exact zms)
    all_goals (refine Kf _ rfl rfl (by simp only [V.closed, Qg, and_self, and_true, true_and]) ?_; simp only [go_sem, Nat.reduceEqDiff, Nat.reduceAdd, reduceIte, reduceCtorEq])
    all_goals first | done | exact ⟨⟨by simp, _, _, rfl⟩, by simp, _, _, rfl⟩ | exact ⟨by simp, _, _, rfl⟩ | (simp; done) | trace_state
  · generalize wt l (JE l k 2).2 = y1 at *
    subst e1
    obtain ⟨rfl, rfl⟩ := e2
    simp only [Jy] at o1 v1 o2 v2
    repeat' (first | refine Qe fun K' hK => ?_ | refine Qk fun K' hK => ?_ | refine Qf ?_ | refine Qj ?_ | refine Qa ?_ | ((first | refine Qi ⟨_, rfl, fun hc => ?_, fun hc => ?_⟩ | refine QY (fun hc => ?_) (fun hc => ?_) | refine QZ (fun hc => ?_) (fun hc => ?_)) <;> first | exact Bool.noConfusion hc | ((try simp only [znz] at hc); first | exact znf | skip)) | refine Qn ?_ | refine Qh ?_ | simp (maxSteps := 1000000) only [go_sem, Nat.reduceAdd, Nat.reduceMul, Nat.reduceEqDiff, Nat.reduceLeDiff, Nat.reduceLT, Nat.reduceSub, Int.reduceEq, Int.reduceBEq, Int.reduceLT, Int.reduceLE, Int.reduceAdd, Int.reduceToNat, reduceIte, reduceCtorEq, Jy] | (refine hK _ ?_; clear hK; clear K') | refine And.intro ?_ ?_ | (apply YX; (focus exact rfl); (focus first | exact o1 | exact v1 | exact o2 | exact (Qo _ _ _ zsd zsd zsd zsd) | exact (Qp _ _ zsd zsd)); (focus exact rfl); (focus exact rfl)) | exact zlo | omega | exact zms)
    all_goals (refine Kf _ rfl rfl (by simp only [V.closed, Qg, and_self, and_true, true_and]) ?_; simp only [go_sem, Nat.reduceEqDiff, Nat.reduceAdd, reduceIte, reduceCtorEq])
    all_goals first | done | exact ⟨⟨by simp, _, _, rfl⟩, by simp, _, _, rfl⟩ | exact ⟨by simp, _, _, rfl⟩ | (simp; done) | trace_state
  · generalize wt l (JE l k 2).2 = y1 at *
    subst e1
    generalize wt l (JE l q1 2).2 = y2 at *
    subst e2
    simp only [Jy] at o1 v1 o2 v2
    repeat' (first | refine Qe fun K' hK => ?_ | refine Qk fun K' hK => ?_ | refine Qf ?_ | refine Qj ?_ | refine Qa ?_ | ((first | refine Qi ⟨_, rfl, fun hc => ?_, fun hc => ?_⟩ | refine QY (fun hc => ?_) (fun hc => ?_) | refine QZ (fun hc => ?_) (fun hc => ?_)) <;> first | exact Bool.noConfusion hc | ((try simp only [znz] at hc); first | exact znf | skip)) | refine Qn ?_ | refine Qh ?_ | simp (maxSteps := 1000000) only [go_sem, Nat.reduceAdd, Nat.reduceMul, Nat.reduceEqDiff, Nat.reduceLeDiff, Nat.reduceLT, Nat.reduceSub, Int.reduceEq, Int.reduceBEq, Int.reduceLT, Int.reduceLE, Int.reduceAdd, Int.reduceToNat, reduceIte, reduceCtorEq, Jy] | (refine hK _ ?_; clear hK; clear K') | refine And.intro ?_ ?_ | (apply YX; (focus exact rfl); (focus first | exact o1 | exact v1 | exact o2 | exact v2 | exact (Qo _ _ _ zsd zsd zsd zsd) | exact (Qp _ _ zsd zsd)); (focus exact rfl); (focus exact rfl)) | exact zlo | omega | exact zms)
    all_goals (refine Kf _ rfl rfl (by simp only [V.closed, Qg, and_self, and_true, true_and]) ?_; simp only [go_sem, Nat.reduceEqDiff, Nat.reduceAdd, reduceIte, reduceCtorEq])
    all_goals first | done | exact ⟨⟨by simp, _, _, rfl⟩, by simp, _, _, rfl⟩ | exact ⟨by simp, _, _, rfl⟩ | (simp; done) | trace_state
end Av
end
section
set_option linter.unusedSimpArgs false
set_option linter.unusedVariables false
set_option maxRecDepth 10000
set_option maxHeartbeats 4000000
namespace Av
open Go
attribute [local irreducible] AWp Y0 Xe Xo awS awC Wo awQ Wp QS JT Wm awR JV awB okR Y6 ris
theorem aeV : ael [49, 46, 49, 48] = .tup [.sl 1 [V.int 1, V.int 10], V.int 0] := by kernel_rfl
theorem aeW : Kj [1, 10] = .tup [V.str [49, 46, 49, 48], V.int 0] := by kernel_rfl
theorem aeZ : adE [1, 10] [1, 9] = 1 := by decide +kernel
theorem aeY : inV [1, 2] [2] [1, 99] = true := by decide +kernel
theorem aeX : inV [1, 2] [2] [2, 0] = false := by decide +kernel
def V8 (Y1 X4 Jq Q8 : Nat) : AC := QP [] (.reg [mc 0 (V.bool false)]) (QP [1, 2] (.reg [xo 6 (.call Y1 [(.c (V.str [49, 46, 49, 48]))]), mv 5 6, ex 7 5 0, ex 8 5 1, mv 1 7, mv 2 8]) (QP [1, 2, 3, 4] (.reg [mv 10 1, cl 11 X4 [10], mv 9 11, ex 12 9 0, ex 13 9 1, mv 3 12, mv 4 13]) (QP [0] (.reg [mv 14 2, bc 15 .eql 14 (V.int 0), mv 16 15, mg 17 4 16 true, xg 18 (.bin .eql (.t 17) (.c (V.int 0))) 16 true, xo 19 (.pick (.t 16) (.t 18) (.c (V.bool false))), mv 20 19, mg 21 3 20 true, xg 22 (.bin .eql (.t 21) (.c (V.str [49, 46, 49, 48]))) 20 true, xo 23 (.pick (.t 20) (.t 22) (.c (V.bool false))), mv 24 23, mg 25 1 24 true, xg 26 (.bslice 2 1 false [(.int .i64 0)] [(0, (.c (V.int 1))), (1, (.c (V.int 9)))]) 24 true, xg 27 (.call Jq [(.t 25), (.t 26)]) 24 true, xg 28 (.bin .eql (.t 27) (.c (V.int 1))) 24 true, xo 29 (.pick (.t 24) (.t 28) (.c (V.bool false))), mv 30 29, xg 31 (.bslice 2 1 false [(.int .i64 0)] [(0, (.c (V.int 1))), (1, (.c (V.int 2)))]) 30 true, xg 32 (.bslice 1 1 false [(.int .i64 0)] [(0, (.c (V.int 2)))]) 30 true, xg 33 (.build [(.slice none 0 0), (.slice none 0 0)] [(0, 1, (.t 31)), (1, 1, (.t 32))]) 30 true, xg 34 (.bslice 2 1 false [(.int .i64 0)] [(0, (.c (V.int 1))), (1, (.c (V.int 99)))]) 30 true, xg 35 (.call Q8 [(.t 33), (.t 34)]) 30 true, xo 36 (.pick (.t 30) (.t 35) (.c (V.bool false))), mv 37 36, xg 38 (.bslice 2 1 false [(.int .i64 0)] [(0, (.c (V.int 1))), (1, (.c (V.int 2)))]) 37 true, xg 39 (.bslice 1 1 false [(.int .i64 0)] [(0, (.c (V.int 2)))]) 37 true, xg 40 (.build [(.slice none 0 0), (.slice none 0 0)] [(0, 1, (.t 38)), (1, 1, (.t 39))]) 37 true, xg 41 (.bslice 2 1 false [(.int .i64 0)] [(0, (.c (V.int 2))), (1, (.c (V.int 0)))]) 37 true, xg 42 (.call Q8 [(.t 40), (.t 41)]) 37 true, xg 43 (.un .not (.t 42)) 37 true, xo 44 (.pick (.t 37) (.t 43) (.c (V.bool false))), mv 0 44]) (.ret)))) def r_law12_awake : List Xq := [.tmp 0]
def VJ (Γ : Env) (f : Nat) : Prop := EvN Γ f [] (V.bool true)
theorem yn {Γ : Env} {f Y1 X4 Jq Q8 : Nat} (h : Has Γ.P f 45 (V8 Y1 X4 Jq Q8) r_law12_awake) (Vp : XM Γ Y1) (UA : WU Γ X4) (Jk : YS Γ Jq) (Yk : WH Γ Q8) : VJ Γ f := by
  refine Q1 h (by simp) (by simp only [V.closed, Qg, V.noSl, Jw, and_self, and_true, true_and]) (by simp only [V.closed, Qg, V.noSl, Jw, and_self, and_true, true_and]) fun C hC hm => ?_
  subst hC
  unfold V8
  have g1 := (Vp [49, 46, 49, 48] (by simp)).b
  have g2 := (UA [1, 10] (by simp)).b
  have g3 := (Jk [1, 10] [1, 9] (by simp) (by simp)).b
  have g4 := (Yk [1, 2] [2] [1, 99] (by simp) (by simp) (by simp)).b
  have g5 := (Yk [1, 2] [2] [2, 0] (by simp) (by simp) (by simp)).b
  rw [aeV] at g1
  rw [aeW] at g2
  rw [aeZ] at g3
  rw [aeY] at g4
  rw [aeX] at g5
  simp only [List.map_cons, List.map_nil, yA] at g2 g3 g4 g5
  repeat' (first | refine Qe fun K' hK => ?_ | refine Qk fun K' hK => ?_ | refine Qf ?_ | refine Qj ?_ | refine Qa ?_ | ((first | refine Qi ⟨_, rfl, fun hc => ?_, fun hc => ?_⟩ | refine QY (fun hc => ?_) (fun hc => ?_) | refine QZ (fun hc => ?_) (fun hc => ?_)) <;> first | exact Bool.noConfusion hc | ((try simp only [znz] at hc); first | exact znf | skip)) | refine Qn ?_ | refine Qh ?_ | simp (maxSteps := 1000000) only [go_sem, Nat.reduceAdd, Nat.reduceMul, Nat.reduceEqDiff, Nat.reduceLeDiff, Nat.reduceLT, Nat.reduceSub, Int.reduceEq, Int.reduceBEq, Int.reduceLT, Int.reduceLE, Int.reduceAdd, Int.reduceToNat, reduceIte, reduceCtorEq] | (refine hK _ ?_; clear hK; clear K') | refine And.intro ?_ ?_ | (apply Q7; (focus first | exact g1 | exact g2 | exact g3 | exact g4 | exact g5 | exact (Vp _ zsd).b | exact (UA _ zsd).b | exact (Jk _ _ zsd zsd).b | exact (Yk _ _ _ zsd zsd zsd).b)) | exact zlo | omega | exact zms)
  all_goals first | (refine Q5 _ rfl ?_; simp only [go_sem, Nat.reduceEqDiff, Nat.reduceAdd, reduceIte, reduceCtorEq]; done) | trace_state
end Av
end
section
set_option linter.unusedSimpArgs false
set_option linter.unusedVariables false
set_option maxRecDepth 10000
set_option maxHeartbeats 4000000
namespace Av
open Go
attribute [local irreducible] AWp Y0 Xe Xo awS awC Wo awQ Wp QS JT Wm awR JV awB okR Y6 ris
end Av
end
section
namespace Av
open Go
def LeV (x y : V) : Prop := ∀ (w : World) (Z : Nat → Nat → Prop) (μ : Nat → Option Cn) (v : Value), Rep w Z μ v x → Rep w Z μ v y
theorem LeV.refl (x : V) : LeV x x := fun _ _ _ _ h => h
theorem LeV.nil (sz : Nat) : LeV (.sc (.slice none 0 0)) (.sl sz []) := fun _ _ _ _ h => by cases h; exact .sl0
theorem LeV.agg {xs ys : List V} (hl : xs.length = ys.length) (h : ∀ j (h1 : j < xs.length) (h2 : j < ys.length), LeV xs[j] ys[j]) : LeV (.agg xs) (.agg ys) := fun w Z μ v hv => by
  cases hv with
  | agg h1 h2 h3 => exact .agg (h1.trans hl) h2 fun j hj hj' => h j (by omega) hj _ _ _ _ (h3 j (by omega) hj')
theorem EvB.le {Γ : Env} {f : FuncId} {args args' : List V} {res : V} {B : Option (List Nat)} (h : EvB Γ f args res B) (hl : args'.length = args.length)
    (hr : ∀ i (h1 : i < args'.length) (h2 : i < args.length), LeV args'[i] args[i]) : EvB Γ f args' res B :=
  ⟨fun C cargs h1 h2 h3 h4 h5 h6 h7 => h.ev C cargs h1 h2 h3 h4 h5 (h6.trans hl) fun i hi hi' => hr i (by omega) hi _ _ _ _ (h7 i (by omega) hi'), h.cl, h.sh⟩
section
variable {Γ : Env} {A W : Nat → Bool} {b : Nat} {s : St} {d : Option Nat} {f : FuncId} {acts : List V} {res : V} {J : St → Prop} {cs cs2 : List V} {a : Nat}
theorem aeb (l : List Nat) (hA : A a = true) (hW : W a = true) (ha : s.o a = some (.box true cs)) (h : EvD Γ f (Yc (J8 A s.o) acts) cs res cs2) (hc : Jf (J8 A s.o) (some l) acts) (hal : a ∉ l) (hl : ∀ x ∈ l, A x = true ∧ W x = true) (hab : a < b)
    (hk : J { t := (s.put d res).t, o := upd (KY (some l) [a] s.o) a (some (.box true cs2)), n := s.n }) : QS Γ A W b s d f (.ptr a 0 :: acts) J := by
  have hra : J8 A s.o a = some (.box true cs) := by rw [vQ, if_pos hA, ha]
  refine ⟨_, _, _, _, [a], some l, h.ev, ⟨?_, Wu _ [a] l ?_ acts hc⟩, ⟨⟨_, hra, Ju _ _ _ _ h.c1⟩, trivial⟩, by simp, by simpa using ⟨hab, hW⟩, Nat.le_refl _, by simp [KK], fun h => by simp at h, fun l' hl' => by cases hl'; exact hl, ?_⟩
  · simp [conv]
  · intro x hx hxa
    simp only [List.mem_singleton] at hxa
    subst hxa; exact hal hx
  · rw [QU _ _ h.cl]
    simp only [Xf, XT, Ob.ren, QJ _ _ h.c2]
    exact hk
theorem XI {x : V} {args : List V} {okf : Option (List Nat) → Prop} (ha : s.o a = some (.box true cs)) (hA : A a = true) (hW : W a = true) (h : EvD Γ f args cs res cs2) (hal : (Y8 acts).contains a = false) (hab : decide (a < b) = true) (hl : ((Y8 acts).all fun x => A x && W x) = true) (hc : Jf (J8 A s.o) (some (Y8 acts)) acts)
    (hk : J { t := (s.put d res).t, o := upd (KY (some (Y8 acts)) [a] s.o) a (some (.box true cs2)), n := s.n }) : acs Γ A W b s d f (.ptr a 0 :: acts) (x :: args) okf J := by
  intro h1 _
  simp only [Yc, List.cons.injEq] at h1
  obtain ⟨_, rfl⟩ := h1
  exact aeb _ hA hW ha h hc (by simpa using hal) (fun x hx => by simpa using List.all_eq_true.1 hl x hx) (of_decide_eq_true hab) hk
end
end Av
end
section
set_option linter.unusedSimpArgs false
set_option linter.unusedVariables false
set_option maxRecDepth 10000
set_option maxHeartbeats 4000000
namespace Av
open Go
attribute [local irreducible] AWp Y0 Xe Xo awS awC Wo awQ Wp QS JT Wm awR JV awB okR Y6 ris
structure Js where
  name : List UInt8
  lo : List Int
  up : List Int
def Js.cells (n : Js) : List V := [V.str n.name, .sl 1 (n.lo.map V.int), .sl 1 (n.up.map V.int)]
def Js.v (n : Js) : V := .agg n.cells
structure QB where
  name : List UInt8
  ver : List Int
  needs : List Js
def QB.cells (p : QB) : List V := [V.str p.name, .sl 1 (p.ver.map V.int), .sl 3 (p.needs.map Js.v)]
def QB.v (p : QB) : V := .agg p.cells
theorem ju {α : Type} (p : α → Bool) : ∀ (xs : List α) (k : Nat), decide (yP p k xs ≥ 0) = xs.any p
  | [], k => by simp [yP]
  | x :: r, k => by
    have ih := ju p r (k + 1)
    rw [yP, List.any_cons]
    by_cases h : p x = true
    · rw [if_pos h, h]; simp
    · have h2 : p x = false := by simpa using h
      rw [if_neg h, h2, ih]; rfl
def JD : AC := QP [0, 1] (.reg [mc 4 (V.int 0)]) (QP [] (QP [0, 1, 7, 8] (.reg [mv 6 0, ln 7 6, mc 8 (V.int 0)]) (.block 0 (VC [0, 1, 7, 8] (QP [0, 1, 7, 8, 9] (.reg [bn 9 .lss 8 7]) (QP [0, 1, 7, 8] (.cond (.t 9) (.skip) (.exit 0)) (QP [0, 1, 7, 8] (.block 1 (QP [0, 1, 5, 7, 8] (.reg [mv 10 8, mv 5 10]) (QP [0, 1, 5, 7, 8, 16] (.reg [mv 11 1, mv 12 0, mv 13 5, ia 14 3 12 13, xo 15 (.load true 3 (.t 14)), xo 16 (.callv (.t 11) [(.t 15)])]) (.cond (.t 16) (QP [4] (.reg [mv 17 5, mv 4 17]) (.ret)) (.skip))))) (.reg [bc 18 .add 8 (V.int 1), mv 8 18]))))))) (QP [4] (.reg [mc 4 (V.int (-1))]) (.ret))) def r_slices_IndexFunc___api_Need_api_Need : List Xq := [.tmp 4]
def Jz (Γ : Env) (f : Nat) : Prop := ∀ (xs : List Js) (g : Nat) (cap : List V) (p : Js → Bool) (hp : ∀ x ∈ xs, EvN Γ g (x.v :: cap) (V.bool (p x))) (hcap : Qg cap) (hl : xs.length < 2 ^ 62), EvN Γ f [.sl 3 (xs.map Js.v), .clo g cap] (V.int (yP p 0 xs))
theorem Xb {Γ : Env} {f : Nat} (h : Has Γ.P f 19 JD r_slices_IndexFunc___api_Need_api_Need)  : Jz Γ f := by
  intro xs g cap p hp hcap hl
  refine Q1 h (by simp) (by simp only [V.closed, Qg, V.noSl, Jw, and_self, and_true, true_and]) (by simp only [V.closed, Qg, V.noSl, Jw, and_self, and_true, true_and]) fun C hC hm => ?_
  subst hC
  unfold JD
  have s1 : ∀ o, Yc o cap = cap := fun o => JS o cap hcap
  have s2 : ∀ o B, Jf o B cap = True := fun o B => eq_true (JC o B cap hcap)
  repeat' (first | refine Qe fun K' hK => ?_ | refine Qk fun K' hK => ?_ | refine Qf ?_ | refine Qj ?_ | refine Qa ?_ | ((first | refine Qi ⟨_, rfl, fun hc => ?_, fun hc => ?_⟩ | refine QY (fun hc => ?_) (fun hc => ?_) | refine QZ (fun hc => ?_) (fun hc => ?_)) <;> first | exact Bool.noConfusion hc | ((try simp only [znz] at hc); first | exact znf | skip)) | refine Qn ?_ | refine Qh ?_ | simp (maxSteps := 1000000) only [go_sem, Nat.reduceAdd, Nat.reduceMul, Nat.reduceEqDiff, Nat.reduceLeDiff, Nat.reduceLT, Nat.reduceSub, Int.reduceEq, Int.reduceBEq, Int.reduceLT, Int.reduceLE, Int.reduceAdd, Int.reduceToNat, reduceIte, reduceCtorEq] | (refine hK _ ?_; clear hK; clear K') | refine And.intro ?_ ?_ | exact zlo | omega | exact zms)
  refine Wg (ι := Nat) (fun k => k ≤ xs.length ∧ yP p k (xs.drop k) = yP p 0 xs) (fun k => [(8, V.int k)]) (fun k => xs.length - k) 0 (by omega) ⟨by simp, by simp⟩ (by repeat' first | exact WY | refine VZ (by omega) (by simp only [Ob.lt, ltL, V.lt, and_self, and_true]; try omega) ?_) (fun i hi => by simp only [ovT, YL, Nat.reduceEqDiff, reduceIte]; (repeat' first | exact VY | refine WX ?_ ?_ | simp only [V.lt, ltL, and_self, and_true] | omega); exact W0 _ _ hcap) (by simp only [Nat.reduceAdd, ovT, YL, Nat.reduceEqDiff, reduceIte, J7, YP, yz, u32, u33, u34, u35, u36, u37, u38, u39, and_self, and_true, true_and]; first | rfl | exact QJ _ _ hcap) fun k hk K' hL => ?_
  obtain ⟨hk, hinv⟩ := hk
  simp only [ovT, YL, Nat.reduceEqDiff, reduceIte]
  rcases hd : xs.drop k with _ | ⟨y, r⟩
  · have := Vt hd
    rw [hd] at hinv
    have e1 : decide ((k : Int) < (((xs.map Js.v).length : Nat) : Int)) = false := by simp; omega
    repeat' (first | refine Qe fun K' hK => ?_ | refine Qk fun K' hK => ?_ | refine Qf ?_ | refine Qj ?_ | refine Qa ?_ | ((first | refine Qi ⟨_, rfl, fun hc => ?_, fun hc => ?_⟩ | refine QY (fun hc => ?_) (fun hc => ?_) | refine QZ (fun hc => ?_) (fun hc => ?_)) <;> first | exact Bool.noConfusion hc | ((try simp only [znz] at hc); first | exact znf | skip)) | refine Qn ?_ | refine Qh ?_ | simp (maxSteps := 1000000) only [go_sem, Nat.reduceAdd, Nat.reduceMul, Nat.reduceEqDiff, Nat.reduceLeDiff, Nat.reduceLT, Nat.reduceSub, Int.reduceEq, Int.reduceBEq, Int.reduceLT, Int.reduceLE, Int.reduceAdd, Int.reduceToNat, reduceIte, reduceCtorEq, e1] | (refine hK _ ?_; clear hK; clear K') | refine And.intro ?_ ?_ | exact zlo | omega | exact zms)
    refine Q5 _ rfl ?_
    simp only [go_sem, Nat.reduceEqDiff, Nat.reduceAdd, reduceIte, reduceCtorEq]
    rw [← hinv]; rfl
  · obtain ⟨hk, hget, hr⟩ := WK hd
    rw [hd] at hinv
    have hw := Yg (k := k) (by omega)
    have e1 : decide ((k : Int) < (((xs.map Js.v).length : Nat) : Int)) = true := by simp; omega
    have hpy := hp y (List.mem_of_getElem? hget)
    by_cases hy : p y = true
    · rw [hy] at hpy
      repeat' (first | refine Qe fun K' hK => ?_ | refine Qk fun K' hK => ?_ | refine Qf ?_ | refine Qj ?_ | refine Qa ?_ | ((first | refine Qi ⟨_, rfl, fun hc => ?_, fun hc => ?_⟩ | refine QY (fun hc => ?_) (fun hc => ?_) | refine QZ (fun hc => ?_) (fun hc => ?_)) <;> first | exact Bool.noConfusion hc | ((try simp only [znz] at hc); first | exact znf | skip)) | refine Qn ?_ | refine Qh ?_ | simp (maxSteps := 1000000) only [go_sem, Nat.reduceAdd, Nat.reduceMul, Nat.reduceEqDiff, Nat.reduceLeDiff, Nat.reduceLT, Nat.reduceSub, Int.reduceEq, Int.reduceBEq, Int.reduceLT, Int.reduceLE, Int.reduceAdd, Int.reduceToNat, reduceIte, reduceCtorEq, Int.toNat_natCast, List.getElem?_map, hget, hw, e1, Js.v, Js.cells, s1, s2] | (refine hK _ ?_; clear hK; clear K') | refine And.intro ?_ ?_ | (apply Q7; (focus first | exact hpy.b)) | exact zlo | omega | exact zms)
      refine Q5 _ rfl ?_; simp only [go_sem, Nat.reduceEqDiff, Nat.reduceAdd, reduceIte, reduceCtorEq]
      rw [← hinv]; simp [yP, hy]
    · have hy' : p y = false := by simpa using hy
      rw [hy'] at hpy
      repeat' (first | refine Qe fun K' hK => ?_ | refine Qk fun K' hK => ?_ | refine Qf ?_ | refine Qj ?_ | refine Qa ?_ | ((first | refine Qi ⟨_, rfl, fun hc => ?_, fun hc => ?_⟩ | refine QY (fun hc => ?_) (fun hc => ?_) | refine QZ (fun hc => ?_) (fun hc => ?_)) <;> first | exact Bool.noConfusion hc | ((try simp only [znz] at hc); first | exact znf | skip)) | refine Qn ?_ | refine Qh ?_ | simp (maxSteps := 1000000) only [go_sem, Nat.reduceAdd, Nat.reduceMul, Nat.reduceEqDiff, Nat.reduceLeDiff, Nat.reduceLT, Nat.reduceSub, Int.reduceEq, Int.reduceBEq, Int.reduceLT, Int.reduceLE, Int.reduceAdd, Int.reduceToNat, reduceIte, reduceCtorEq, Int.toNat_natCast, List.getElem?_map, hget, hw, e1, Js.v, Js.cells, s1, s2] | (refine hK _ ?_; clear hK; clear K') | refine And.intro ?_ ?_ | (apply Q7; (focus first | exact hpy.b)) | exact zlo | omega | exact zms)
      refine hL _ (k + 1) (by simp only [Nat.reduceAdd, ovT, YL, Nat.reduceEqDiff, reduceIte, J7, YP, yz, u32, u33, u34, u35, u36, u37, u38, u39, and_self, and_true, true_and]) ⟨by omega, ?_⟩ (by omega) (fun a ha => by simp only [u32, u33, u34, u35, u36, u37, u38, u39]; repeat rw [if_neg (by omega)])
      rw [hr, ← hinv, yP, if_neg hy]
def Jv (Ji : Nat) : AC := QP [0, 1] (.reg [mc 4 (V.bool false)]) (QP [4] (.reg [mv 5 0, mv 6 1, cl 7 Ji [5, 6], bc 8 .geq 7 (V.int 0), mv 4 8]) (.ret)) def r_slices_ContainsFunc___api_Need_api_Need : List Xq := [.tmp 4]
def Je (Γ : Env) (f : Nat) : Prop := ∀ (xs : List Js) (g : Nat) (cap : List V) (p : Js → Bool) (hp : ∀ x ∈ xs, EvN Γ g (x.v :: cap) (V.bool (p x))) (hcap : Qg cap) (hl : xs.length < 2 ^ 62), EvN Γ f [.sl 3 (xs.map Js.v), .clo g cap] (V.bool (xs.any p))
theorem YW {Γ : Env} {f Ji : Nat} (h : Has Γ.P f 9 (Jv Ji) r_slices_ContainsFunc___api_Need_api_Need) (J0 : Jz Γ Ji) : Je Γ f := by
  intro xs g cap p hp hcap hl
  refine Q1 h (by simp) (by simp only [V.closed, Qg, V.noSl, Jw, and_self, and_true, true_and]) (by simp only [V.closed, Qg, V.noSl, Jw, and_self, and_true, true_and]) fun C hC hm => ?_
  subst hC
  unfold Jv
  have s1 : ∀ o, Yc o cap = cap := fun o => JS o cap hcap
  have s2 : ∀ o B, Jf o B cap = True := fun o B => eq_true (JC o B cap hcap)
  have hi := (J0 xs g cap p hp hcap hl).b
  have e1 := ju p xs 0
  repeat' (first | refine Qe fun K' hK => ?_ | refine Qk fun K' hK => ?_ | refine Qf ?_ | refine Qj ?_ | refine Qa ?_ | ((first | refine Qi ⟨_, rfl, fun hc => ?_, fun hc => ?_⟩ | refine QY (fun hc => ?_) (fun hc => ?_) | refine QZ (fun hc => ?_) (fun hc => ?_)) <;> first | exact Bool.noConfusion hc | ((try simp only [znz] at hc); first | exact znf | skip)) | refine Qn ?_ | refine Qh ?_ | simp (maxSteps := 1000000) only [go_sem, Nat.reduceAdd, Nat.reduceMul, Nat.reduceEqDiff, Nat.reduceLeDiff, Nat.reduceLT, Nat.reduceSub, Int.reduceEq, Int.reduceBEq, Int.reduceLT, Int.reduceLE, Int.reduceAdd, Int.reduceToNat, reduceIte, reduceCtorEq, s1, s2, e1] | (refine hK _ ?_; clear hK; clear K') | refine And.intro ?_ ?_ | (apply Q7; (focus first | exact hi | exact (J0 _ _ _ _ zsd zsd zsd).b)) | exact zlo | omega | exact zms)
  all_goals first | (refine Q5 _ rfl ?_; simp only [go_sem, Nat.reduceEqDiff, Nat.reduceAdd, reduceIte, reduceCtorEq]; done) | trace_state
def Jr : AC := QP [0, 1] (.reg [mc 4 (V.int 0)]) (QP [] (QP [0, 1, 7, 8] (.reg [mv 6 0, ln 7 6, mc 8 (V.int 0)]) (.block 0 (VC [0, 1, 7, 8] (QP [0, 1, 7, 8, 9] (.reg [bn 9 .lss 8 7]) (QP [0, 1, 7, 8] (.cond (.t 9) (.skip) (.exit 0)) (QP [0, 1, 7, 8] (.block 1 (QP [0, 1, 5, 7, 8] (.reg [mv 10 8, mv 5 10]) (QP [0, 1, 5, 7, 8, 16] (.reg [mv 11 1, mv 12 0, mv 13 5, ia 14 3 12 13, xo 15 (.load true 3 (.t 14)), xo 16 (.callv (.t 11) [(.t 15)])]) (.cond (.t 16) (QP [4] (.reg [mv 17 5, mv 4 17]) (.ret)) (.skip))))) (.reg [bc 18 .add 8 (V.int 1), mv 8 18]))))))) (QP [4] (.reg [mc 4 (V.int (-1))]) (.ret))) def r_slices_IndexFunc___api_Package_api_Package : List Xq := [.tmp 4]
def Q9 (Γ : Env) (f : Nat) : Prop := ∀ (xs : List QB) (g : Nat) (cap : List V) (p : QB → Bool) (hp : ∀ x ∈ xs, EvN Γ g (x.v :: cap) (V.bool (p x))) (hcap : Qg cap) (hl : xs.length < 2 ^ 62), EvN Γ f [.sl 3 (xs.map QB.v), .clo g cap] (V.int (yP p 0 xs))
theorem YC {Γ : Env} {f : Nat} (h : Has Γ.P f 19 Jr r_slices_IndexFunc___api_Package_api_Package)  : Q9 Γ f := by
  intro xs g cap p hp hcap hl
  refine Q1 h (by simp) (by simp only [V.closed, Qg, V.noSl, Jw, and_self, and_true, true_and]) (by simp only [V.closed, Qg, V.noSl, Jw, and_self, and_true, true_and]) fun C hC hm => ?_
  subst hC
  unfold Jr
  have s1 : ∀ o, Yc o cap = cap := fun o => JS o cap hcap
  have s2 : ∀ o B, Jf o B cap = True := fun o B => eq_true (JC o B cap hcap)
  repeat' (first | refine Qe fun K' hK => ?_ | refine Qk fun K' hK => ?_ | refine Qf ?_ | refine Qj ?_ | refine Qa ?_ | ((first | refine Qi ⟨_, rfl, fun hc => ?_, fun hc => ?_⟩ | refine QY (fun hc => ?_) (fun hc => ?_) | refine QZ (fun hc => ?_) (fun hc => ?_)) <;> first | exact Bool.noConfusion hc | ((try simp only [znz] at hc); first | exact znf | skip)) | refine Qn ?_ | refine Qh ?_ | simp (maxSteps := 1000000) only [go_sem, Nat.reduceAdd, Nat.reduceMul, Nat.reduceEqDiff, Nat.reduceLeDiff, Nat.reduceLT, Nat.reduceSub, Int.reduceEq, Int.reduceBEq, Int.reduceLT, Int.reduceLE, Int.reduceAdd, Int.reduceToNat, reduceIte, reduceCtorEq] | (refine hK _ ?_; clear hK; clear K') | refine And.intro ?_ ?_ | exact zlo | omega | exact zms)
  refine Wg (ι := Nat) (fun k => k ≤ xs.length ∧ yP p k (xs.drop k) = yP p 0 xs) (fun k => [(8, V.int k)]) (fun k => xs.length - k) 0 (by omega) ⟨by simp, by simp⟩ (by repeat' first | exact WY | refine VZ (by omega) (by simp only [Ob.lt, ltL, V.lt, and_self, and_true]; try omega) ?_) (fun i hi => by simp only [ovT, YL, Nat.reduceEqDiff, reduceIte]; (repeat' first | exact VY | refine WX ?_ ?_ | simp only [V.lt, ltL, and_self, and_true] | omega); exact W0 _ _ hcap) (by simp only [Nat.reduceAdd, ovT, YL, Nat.reduceEqDiff, reduceIte, J7, YP, yz, u32, u33, u34, u35, u36, u37, u38, u39, and_self, and_true, true_and]; first | rfl | exact QJ _ _ hcap) fun k hk K' hL => ?_
  obtain ⟨hk, hinv⟩ := hk
  simp only [ovT, YL, Nat.reduceEqDiff, reduceIte]
  rcases hd : xs.drop k with _ | ⟨y, r⟩
  · have := Vt hd
    rw [hd] at hinv
    have e1 : decide ((k : Int) < (((xs.map QB.v).length : Nat) : Int)) = false := by simp; omega
    repeat' (first | refine Qe fun K' hK => ?_ | refine Qk fun K' hK => ?_ | refine Qf ?_ | refine Qj ?_ | refine Qa ?_ | ((first | refine Qi ⟨_, rfl, fun hc => ?_, fun hc => ?_⟩ | refine QY (fun hc => ?_) (fun hc => ?_) | refine QZ (fun hc => ?_) (fun hc => ?_)) <;> first | exact Bool.noConfusion hc | ((try simp only [znz] at hc); first | exact znf | skip)) | refine Qn ?_ | refine Qh ?_ | simp (maxSteps := 1000000) only [go_sem, Nat.reduceAdd, Nat.reduceMul, Nat.reduceEqDiff, Nat.reduceLeDiff, Nat.reduceLT, Nat.reduceSub, Int.reduceEq, Int.reduceBEq, Int.reduceLT, Int.reduceLE, Int.reduceAdd, Int.reduceToNat, reduceIte, reduceCtorEq, e1] | (refine hK _ ?_; clear hK; clear K') | refine And.intro ?_ ?_ | exact zlo | omega | exact zms)
    refine Q5 _ rfl ?_
    simp only [go_sem, Nat.reduceEqDiff, Nat.reduceAdd, reduceIte, reduceCtorEq]
    rw [← hinv]; rfl
  · obtain ⟨hk, hget, hr⟩ := WK hd
    rw [hd] at hinv
    have hw := Yg (k := k) (by omega)
    have e1 : decide ((k : Int) < (((xs.map QB.v).length : Nat) : Int)) = true := by simp; omega
    have hpy := hp y (List.mem_of_getElem? hget)
    by_cases hy : p y = true
    · rw [hy] at hpy
      repeat' (first | refine Qe fun K' hK => ?_ | refine Qk fun K' hK => ?_ | refine Qf ?_ | refine Qj ?_ | refine Qa ?_ | ((first | refine Qi ⟨_, rfl, fun hc => ?_, fun hc => ?_⟩ | refine QY (fun hc => ?_) (fun hc => ?_) | refine QZ (fun hc => ?_) (fun hc => ?_)) <;> first | exact Bool.noConfusion hc | ((try simp only [znz] at hc); first | exact znf | skip)) | refine Qn ?_ | refine Qh ?_ | simp (maxSteps := 1000000) only [go_sem, Nat.reduceAdd, Nat.reduceMul, Nat.reduceEqDiff, Nat.reduceLeDiff, Nat.reduceLT, Nat.reduceSub, Int.reduceEq, Int.reduceBEq, Int.reduceLT, Int.reduceLE, Int.reduceAdd, Int.reduceToNat, reduceIte, reduceCtorEq, Int.toNat_natCast, List.getElem?_map, hget, hw, e1, QB.v, QB.cells, s1, s2] | (refine hK _ ?_; clear hK; clear K') | refine And.intro ?_ ?_ | (apply Q7; (focus first | exact hpy.b)) | exact zlo | omega | exact zms)
      refine Q5 _ rfl ?_; simp only [go_sem, Nat.reduceEqDiff, Nat.reduceAdd, reduceIte, reduceCtorEq]
      rw [← hinv]; simp [yP, hy]
    · have hy' : p y = false := by simpa using hy
      rw [hy'] at hpy
      repeat' (first | refine Qe fun K' hK => ?_ | refine Qk fun K' hK => ?_ | refine Qf ?_ | refine Qj ?_ | refine Qa ?_ | ((first | refine Qi ⟨_, rfl, fun hc => ?_, fun hc => ?_⟩ | refine QY (fun hc => ?_) (fun hc => ?_) | refine QZ (fun hc => ?_) (fun hc => ?_)) <;> first | exact Bool.noConfusion hc | ((try simp only [znz] at hc); first | exact znf | skip)) | refine Qn ?_ | refine Qh ?_ | simp (maxSteps := 1000000) only [go_sem, Nat.reduceAdd, Nat.reduceMul, Nat.reduceEqDiff, Nat.reduceLeDiff, Nat.reduceLT, Nat.reduceSub, Int.reduceEq, Int.reduceBEq, Int.reduceLT, Int.reduceLE, Int.reduceAdd, Int.reduceToNat, reduceIte, reduceCtorEq, Int.toNat_natCast, List.getElem?_map, hget, hw, e1, QB.v, QB.cells, s1, s2] | (refine hK _ ?_; clear hK; clear K') | refine And.intro ?_ ?_ | (apply Q7; (focus first | exact hpy.b)) | exact zlo | omega | exact zms)
      refine hL _ (k + 1) (by simp only [Nat.reduceAdd, ovT, YL, Nat.reduceEqDiff, reduceIte, J7, YP, yz, u32, u33, u34, u35, u36, u37, u38, u39, and_self, and_true, true_and]) ⟨by omega, ?_⟩ (by omega) (fun a ha => by simp only [u32, u33, u34, u35, u36, u37, u38, u39]; repeat rw [if_neg (by omega)])
      rw [hr, ← hinv, yP, if_neg hy]
def Jh (Qv : Nat) : AC := QP [0, 1] (.reg [mc 4 (V.bool false)]) (QP [4] (.reg [mv 5 0, mv 6 1, cl 7 Qv [5, 6], bc 8 .geq 7 (V.int 0), mv 4 8]) (.ret)) def r_slices_ContainsFunc___api_Package_api_Package : List Xq := [.tmp 4]
def Q6 (Γ : Env) (f : Nat) : Prop := ∀ (xs : List QB) (g : Nat) (cap : List V) (p : QB → Bool) (hp : ∀ x ∈ xs, EvN Γ g (x.v :: cap) (V.bool (p x))) (hcap : Qg cap) (hl : xs.length < 2 ^ 62), EvN Γ f [.sl 3 (xs.map QB.v), .clo g cap] (V.bool (xs.any p))
theorem Yq {Γ : Env} {f Qv : Nat} (h : Has Γ.P f 9 (Jh Qv) r_slices_ContainsFunc___api_Package_api_Package) (Q3 : Q9 Γ Qv) : Q6 Γ f := by
  intro xs g cap p hp hcap hl
  refine Q1 h (by simp) (by simp only [V.closed, Qg, V.noSl, Jw, and_self, and_true, true_and]) (by simp only [V.closed, Qg, V.noSl, Jw, and_self, and_true, true_and]) fun C hC hm => ?_
  subst hC
  unfold Jh
  have s1 : ∀ o, Yc o cap = cap := fun o => JS o cap hcap
  have s2 : ∀ o B, Jf o B cap = True := fun o B => eq_true (JC o B cap hcap)
  have hi := (Q3 xs g cap p hp hcap hl).b
  have e1 := ju p xs 0
  repeat' (first | refine Qe fun K' hK => ?_ | refine Qk fun K' hK => ?_ | refine Qf ?_ | refine Qj ?_ | refine Qa ?_ | ((first | refine Qi ⟨_, rfl, fun hc => ?_, fun hc => ?_⟩ | refine QY (fun hc => ?_) (fun hc => ?_) | refine QZ (fun hc => ?_) (fun hc => ?_)) <;> first | exact Bool.noConfusion hc | ((try simp only [znz] at hc); first | exact znf | skip)) | refine Qn ?_ | refine Qh ?_ | simp (maxSteps := 1000000) only [go_sem, Nat.reduceAdd, Nat.reduceMul, Nat.reduceEqDiff, Nat.reduceLeDiff, Nat.reduceLT, Nat.reduceSub, Int.reduceEq, Int.reduceBEq, Int.reduceLT, Int.reduceLE, Int.reduceAdd, Int.reduceToNat, reduceIte, reduceCtorEq, s1, s2, e1] | (refine hK _ ?_; clear hK; clear K') | refine And.intro ?_ ?_ | (apply Q7; (focus first | exact hi | exact (Q3 _ _ _ _ zsd zsd zsd).b)) | exact zlo | omega | exact zms)
  all_goals first | (refine Q5 _ rfl ?_; simp only [go_sem, Nat.reduceEqDiff, Nat.reduceAdd, reduceIte, reduceCtorEq]; done) | trace_state
end Av
end
section
set_option linter.unusedSimpArgs false
set_option linter.unusedVariables false
set_option maxRecDepth 10000
set_option maxHeartbeats 4000000
namespace Av
open Go
attribute [local irreducible] AWp Y0 Xe Xo awS awC Wo awQ Wp QS JT Wm awR JV awB okR Y6 ris
def vR (c : UInt8) : Bool := decide ((c.toNat : Int) ≤ 32) || decide ((c.toNat : Int) > 126)
def XG (s : List UInt8) : Bool := !s.any vR && (decide ((s.length : Int) ≥ 1) && decide ((s.length : Int) ≤ 32))
def VT (lo up : List Int) : Bool := (lo.isEmpty || W1 lo) && (up.isEmpty || W1 up)
def Vf : AC := QP [0] (.reg [mc 2 (V.bool false)]) (QP [0] (QP [0, 6, 7, 8] (.reg [mv 5 0, xo 6 (.convSB (.t 5)), ln 7 6, mc 8 (V.int 0)]) (.block 0 (VC [0, 6, 7, 8] (QP [0, 6, 7, 8, 9] (.reg [bn 9 .lss 8 7]) (QP [0, 6, 7, 8] (.cond (.t 9) (.skip) (.exit 0)) (QP [0, 6, 7, 8] (.block 1 (QP [0, 4, 6, 7, 8] (.reg [ia 10 1 6 8, ld 11 1 10, mv 4 11]) (QP [0, 6, 7, 8, 17] (.reg [mv 12 4, bc 13 .leq 12 (.sc (.int .u8 32)), mv 14 13, mg 15 4 14 false, xg 16 (.bin .gtr (.t 15) (.c (.sc (.int .u8 126)))) 14 false, xo 17 (.pick (.t 14) (.c (V.bool true)) (.t 16))]) (.cond (.t 17) (QP [2] (.reg [mc 2 (V.bool false)]) (.ret)) (.skip))))) (.reg [bc 18 .add 8 (V.int 1), mv 8 18]))))))) (QP [2] (.reg [mv 19 0, xo 20 (.lenS (.t 19)), bc 21 .geq 20 (V.int 1), mv 22 21, mg 23 0 22 true, xg 24 (.lenS (.t 23)) 22 true, xg 25 (.bin .leq (.t 24) (.c (V.int 32))) 22 true, xo 26 (.pick (.t 22) (.t 25) (.c (V.bool false))), mv 2 26]) (.ret))) def r_catalog_Named : List Xq := [.tmp 2]
def XA (Γ : Env) (f : Nat) : Prop := ∀ (s : List UInt8) (hs : s.length < 2 ^ 60), EvN Γ f [V.str s] (V.bool (XG s))
theorem jo {Γ : Env} {f : Nat} (h : Has Γ.P f 27 Vf r_catalog_Named)  : XA Γ f := by
  intro s hs
  refine Q1 h (by simp) (by simp only [V.closed, Qg, V.noSl, Jw, and_self, and_true, true_and]) (by simp only [V.closed, Qg, V.noSl, Jw, and_self, and_true, true_and]) fun C hC hm => ?_
  subst hC
  unfold Vf
  repeat' (first | refine Qe fun K' hK => ?_ | refine Qk fun K' hK => ?_ | refine Qf ?_ | refine Qj ?_ | refine Qa ?_ | ((first | refine Qi ⟨_, rfl, fun hc => ?_, fun hc => ?_⟩ | refine QY (fun hc => ?_) (fun hc => ?_) | refine QZ (fun hc => ?_) (fun hc => ?_)) <;> first | exact Bool.noConfusion hc | ((try simp only [znz] at hc); first | exact znf | skip)) | refine Qn ?_ | refine Qh ?_ | simp (maxSteps := 1000000) only [go_sem, Nat.reduceAdd, Nat.reduceMul, Nat.reduceEqDiff, Nat.reduceLeDiff, Nat.reduceLT, Nat.reduceSub, Int.reduceEq, Int.reduceBEq, Int.reduceLT, Int.reduceLE, Int.reduceAdd, Int.reduceToNat, reduceIte, reduceCtorEq] | (refine hK _ ?_; clear hK; clear K') | refine And.intro ?_ ?_ | exact zlo | omega | exact zms)
  refine Wf (ι := Nat) (fun k => k ≤ s.length ∧ (s.drop k).any vR = s.any vR) (fun k => q8 [(0, V.str s), (6, .hd 0 0 s.length), (7, V.int s.length), (8, V.int k)] [(0, .buf true 1 (s.map fun c => V.sc (.int .u8 c.toNat)))] 1) (fun k => s.length - k) 0 ⟨by omega, by simp⟩ (Ja [(0, 2000)]) (Us [(0, 2000)] (by simp only [go_sem, Nat.reduceAdd, Nat.reduceMul, Nat.reduceEqDiff, Nat.reduceLT, Int.reduceToNat, reduceIte, reduceCtorEq, and_true, true_and, implies_true, Option.some.injEq, exists_eq_left', QJ, QU]; (repeat' (first | rfl | refine And.intro ?_ ?_ | omega | exact fun h => h | exact Exists.intro _ rfl))) (by simp only [go_sem, Nat.reduceAdd, Nat.reduceMul, Nat.reduceEqDiff, Nat.reduceLT, Int.reduceToNat, reduceIte, reduceCtorEq, and_true, true_and, implies_true, Option.some.injEq, exists_eq_left', QJ, QU]; (repeat' (first | rfl | refine And.intro ?_ ?_ | omega | exact fun h => h | exact Exists.intro _ rfl))) (by simp [Ja]) (by simp; omega) (by omega)) fun k hk K' hL => ?_
  obtain ⟨hk, hinv⟩ := hk
  rcases hd : s.drop k with _ | ⟨c, r⟩
  · have hkl := Vt hd
    rw [hd] at hinv
    have e1 : decide ((k : Int) < ((s.length : Nat) : Int)) = false := by simp; omega
    have hok : XG s = (decide ((s.length : Int) ≥ 1) && decide ((s.length : Int) ≤ 32)) := by rw [XG, ← hinv]; rfl
    rw [hok]
    rcases hq : decide ((s.length : Int) ≥ 1) with _ | _
    · repeat' (first | refine Qe fun K' hK => ?_ | refine Qk fun K' hK => ?_ | refine Qf ?_ | refine Qj ?_ | refine Qa ?_ | ((first | refine Qi ⟨_, rfl, fun hc => ?_, fun hc => ?_⟩ | refine QY (fun hc => ?_) (fun hc => ?_) | refine QZ (fun hc => ?_) (fun hc => ?_)) <;> first | exact Bool.noConfusion hc | ((try simp only [znz] at hc); first | exact znf | skip)) | refine Qn ?_ | refine Qh ?_ | simp (maxSteps := 1000000) only [go_sem, Nat.reduceAdd, Nat.reduceMul, Nat.reduceEqDiff, Nat.reduceLeDiff, Nat.reduceLT, Nat.reduceSub, Int.reduceEq, Int.reduceBEq, Int.reduceLT, Int.reduceLE, Int.reduceAdd, Int.reduceToNat, reduceIte, reduceCtorEq, q8, e1, hq] | (refine hK _ ?_; clear hK; clear K') | refine And.intro ?_ ?_ | exact zlo | omega | exact zms)
      all_goals first | (refine Q5 _ rfl ?_; simp only [go_sem, Nat.reduceEqDiff, Nat.reduceAdd, reduceIte, reduceCtorEq]; done) | trace_state
    · repeat' (first | refine Qe fun K' hK => ?_ | refine Qk fun K' hK => ?_ | refine Qf ?_ | refine Qj ?_ | refine Qa ?_ | ((first | refine Qi ⟨_, rfl, fun hc => ?_, fun hc => ?_⟩ | refine QY (fun hc => ?_) (fun hc => ?_) | refine QZ (fun hc => ?_) (fun hc => ?_)) <;> first | exact Bool.noConfusion hc | ((try simp only [znz] at hc); first | exact znf | skip)) | refine Qn ?_ | refine Qh ?_ | simp (maxSteps := 1000000) only [go_sem, Nat.reduceAdd, Nat.reduceMul, Nat.reduceEqDiff, Nat.reduceLeDiff, Nat.reduceLT, Nat.reduceSub, Int.reduceEq, Int.reduceBEq, Int.reduceLT, Int.reduceLE, Int.reduceAdd, Int.reduceToNat, reduceIte, reduceCtorEq, q8, e1, hq] | (refine hK _ ?_; clear hK; clear K') | refine And.intro ?_ ?_ | exact zlo | omega | exact zms)
      all_goals first | (refine Q5 _ rfl ?_; simp only [go_sem, Nat.reduceEqDiff, Nat.reduceAdd, reduceIte, reduceCtorEq]; done) | (refine Q5 _ rfl ?_; simp only [go_sem, Nat.reduceEqDiff, Nat.reduceAdd, reduceIte, reduceCtorEq]; simp; done) | trace_state
  · obtain ⟨hk', hget, hr⟩ := WK hd
    rw [hd] at hinv
    have hw := Yg (k := k) (by omega)
    have e1 : decide ((k : Int) < ((s.length : Nat) : Int)) = true := by simp; omega
    rcases h1 : decide ((c.toNat : Int) ≤ 32) with _ | _
    · rcases h2 : decide ((c.toNat : Int) > 126) with _ | _
      · repeat' (first | refine Qe fun K' hK => ?_ | refine Qk fun K' hK => ?_ | refine Qf ?_ | refine Qj ?_ | refine Qa ?_ | ((first | refine Qi ⟨_, rfl, fun hc => ?_, fun hc => ?_⟩ | refine QY (fun hc => ?_) (fun hc => ?_) | refine QZ (fun hc => ?_) (fun hc => ?_)) <;> first | exact Bool.noConfusion hc | ((try simp only [znz] at hc); first | exact znf | skip)) | refine Qn ?_ | refine Qh ?_ | simp (maxSteps := 1000000) only [go_sem, Nat.reduceAdd, Nat.reduceMul, Nat.reduceEqDiff, Nat.reduceLeDiff, Nat.reduceLT, Nat.reduceSub, Int.reduceEq, Int.reduceBEq, Int.reduceLT, Int.reduceLE, Int.reduceAdd, Int.reduceToNat, reduceIte, reduceCtorEq, q8, e1, hw, Int.toNat_natCast, List.getElem?_map, hget, h1, h2] | (refine hK _ ?_; clear hK; clear K') | refine And.intro ?_ ?_ | exact zlo | omega | exact zms)
        all_goals first
          | exact hL _ (k + 1) (Ja [(0, 0)]) ⟨by omega, by rw [hr, ← hinv]; simp only [List.any_cons, vR, h1, h2, Bool.or_self, Bool.false_or]⟩ (by omega) (Us [(0, 0)] (by simp only [go_sem, Nat.reduceAdd, Nat.reduceMul, Nat.reduceEqDiff, Nat.reduceLT, Int.reduceToNat, reduceIte, reduceCtorEq, and_true, true_and, implies_true, Option.some.injEq, exists_eq_left', QJ, QU]; (repeat' (first | rfl | refine And.intro ?_ ?_ | omega | exact fun h => h | exact Exists.intro _ rfl))) (by simp only [go_sem, Nat.reduceAdd, Nat.reduceMul, Nat.reduceEqDiff, Nat.reduceLT, Int.reduceToNat, reduceIte, reduceCtorEq, and_true, true_and, implies_true, Option.some.injEq, exists_eq_left', QJ, QU]; (repeat' (first | rfl | refine And.intro ?_ ?_ | omega | exact fun h => h | exact Exists.intro _ rfl))) (by simp [Ja]) (by simp; omega) (by omega))
          | trace_state
      · have hok : XG s = false := by rw [XG, ← hinv]; simp only [List.any_cons, vR, h2, Bool.or_true, Bool.true_or, Bool.not_true, Bool.false_and]
        rw [hok]
        repeat' (first | refine Qe fun K' hK => ?_ | refine Qk fun K' hK => ?_ | refine Qf ?_ | refine Qj ?_ | refine Qa ?_ | ((first | refine Qi ⟨_, rfl, fun hc => ?_, fun hc => ?_⟩ | refine QY (fun hc => ?_) (fun hc => ?_) | refine QZ (fun hc => ?_) (fun hc => ?_)) <;> first | exact Bool.noConfusion hc | ((try simp only [znz] at hc); first | exact znf | skip)) | refine Qn ?_ | refine Qh ?_ | simp (maxSteps := 1000000) only [go_sem, Nat.reduceAdd, Nat.reduceMul, Nat.reduceEqDiff, Nat.reduceLeDiff, Nat.reduceLT, Nat.reduceSub, Int.reduceEq, Int.reduceBEq, Int.reduceLT, Int.reduceLE, Int.reduceAdd, Int.reduceToNat, reduceIte, reduceCtorEq, q8, e1, hw, Int.toNat_natCast, List.getElem?_map, hget, h1, h2] | (refine hK _ ?_; clear hK; clear K') | refine And.intro ?_ ?_ | exact zlo | omega | exact zms)
        all_goals first | (refine Q5 _ rfl ?_; simp only [go_sem, Nat.reduceEqDiff, Nat.reduceAdd, reduceIte, reduceCtorEq]; done) | trace_state
    · have hok : XG s = false := by rw [XG, ← hinv]; simp only [List.any_cons, vR, h1, Bool.or_true, Bool.true_or, Bool.not_true, Bool.false_and]
      rw [hok]
      repeat' (first | refine Qe fun K' hK => ?_ | refine Qk fun K' hK => ?_ | refine Qf ?_ | refine Qj ?_ | refine Qa ?_ | ((first | refine Qi ⟨_, rfl, fun hc => ?_, fun hc => ?_⟩ | refine QY (fun hc => ?_) (fun hc => ?_) | refine QZ (fun hc => ?_) (fun hc => ?_)) <;> first | exact Bool.noConfusion hc | ((try simp only [znz] at hc); first | exact znf | skip)) | refine Qn ?_ | refine Qh ?_ | simp (maxSteps := 1000000) only [go_sem, Nat.reduceAdd, Nat.reduceMul, Nat.reduceEqDiff, Nat.reduceLeDiff, Nat.reduceLT, Nat.reduceSub, Int.reduceEq, Int.reduceBEq, Int.reduceLT, Int.reduceLE, Int.reduceAdd, Int.reduceToNat, reduceIte, reduceCtorEq, q8, e1, hw, Int.toNat_natCast, List.getElem?_map, hget, h1] | (refine hK _ ?_; clear hK; clear K') | refine And.intro ?_ ?_ | exact zlo | omega | exact zms)
      all_goals first | (refine Q5 _ rfl ?_; simp only [go_sem, Nat.reduceEqDiff, Nat.reduceAdd, reduceIte, reduceCtorEq]; done) | trace_state
def Ww (QN : Nat) : AC := QP [1] (.reg [xo 1 (.box true 2 (.t 0)), mc 2 (V.bool false)]) (QP [2] (.reg [fa 3 0 1, ld 4 1 3, ln 5 4, bc 6 .eql 5 (V.int 0), mv 7 6, xg 8 (.faddr 0 (.t 1)) 7 false, xg 9 (.load false 1 (.t 8)) 7 false, xg 10 (.call QN [(.t 9)]) 7 false, xo 11 (.pick (.t 7) (.c (V.bool true)) (.t 10)), mv 12 11, xg 13 (.faddr 1 (.t 1)) 12 true, xg 14 (.load false 1 (.t 13)) 12 true, xg 15 (.lenL (.t 14)) 12 true, xg 16 (.bin .eql (.t 15) (.c (V.int 0))) 12 true, mg 17 16 12 true, xg 18 (.faddr 1 (.t 1)) 17 false, xg 19 (.load false 1 (.t 18)) 17 false, xg 20 (.call QN [(.t 19)]) 17 false, xg 21 (.pick (.t 17) (.c (V.bool true)) (.t 20)) 12 true, xo 22 (.pick (.t 12) (.t 21) (.c (V.bool false))), mv 2 22]) (.ret)) def r_packages_ranged : List Xq := [.tmp 2]
def Wi (Γ : Env) (f : Nat) : Prop := ∀ (lo up : List Int) (ha : lo.length < 2 ^ 60) (hb : up.length < 2 ^ 60), EvN Γ f [yA lo up] (V.bool (VT lo up))
theorem K1 {Γ : Env} {f QN : Nat} (h : Has Γ.P f 23 (Ww QN) r_packages_ranged) (QM : JX Γ QN) : Wi Γ f := by
  intro lo up ha hb
  refine Q1 h (by simp) (by simp only [V.closed, Qg, V.noSl, Jw, and_self, and_true, true_and]) (by simp only [V.closed, Qg, V.noSl, Jw, and_self, and_true, true_and]) fun C hC hm => ?_
  subst hC
  unfold Ww
  have c1 := (QM lo (by omega)).b
  have c2 := (QM up (by omega)).b
  have e1 := qc lo
  have e2 := qc up
  unfold VT
  rcases h1 : lo.isEmpty with _ | _ <;> rcases h2 : up.isEmpty with _ | _ <;> rcases h3 : W1 lo with _ | _ <;> rw [h1] at e1 <;> rw [h2] at e2 <;> rw [h3] at c1
  all_goals
    repeat' (first | refine Qe fun K' hK => ?_ | refine Qk fun K' hK => ?_ | refine Qf ?_ | refine Qj ?_ | refine Qa ?_ | ((first | refine Qi ⟨_, rfl, fun hc => ?_, fun hc => ?_⟩ | refine QY (fun hc => ?_) (fun hc => ?_) | refine QZ (fun hc => ?_) (fun hc => ?_)) <;> first | exact Bool.noConfusion hc | ((try simp only [znz] at hc); first | exact znf | skip)) | refine Qn ?_ | refine Qh ?_ | simp (maxSteps := 1000000) only [go_sem, Nat.reduceAdd, Nat.reduceMul, Nat.reduceEqDiff, Nat.reduceLeDiff, Nat.reduceLT, Nat.reduceSub, Int.reduceEq, Int.reduceBEq, Int.reduceLT, Int.reduceLE, Int.reduceAdd, Int.reduceToNat, reduceIte, reduceCtorEq, e1, e2, h1, h2, h3] | (refine hK _ ?_; clear hK; clear K') | refine And.intro ?_ ?_ | (apply Q7; (focus first | exact c1 | exact c2 | exact (QM _ zsd).b)) | exact zlo | omega | exact zms)
    all_goals first | (refine Q5 _ rfl ?_; simp only [go_sem, Nat.reduceEqDiff, Nat.reduceAdd, reduceIte, reduceCtorEq]; done) | (refine Q5 _ rfl ?_; simp only [go_sem, Nat.reduceEqDiff, Nat.reduceAdd, reduceIte, reduceCtorEq]; simp; done) | trace_state
def We : AC := QP [1] (.reg [xo 1 (.box true 3 (.t 0)), mc 2 (V.bool false)]) (QP [2] (.reg [fa 3 2 1, ld 4 1 3, ln 5 4, bc 6 .gtr 5 (V.int 8), mv 2 6]) (.ret)) def r_packages_Check_1 : List Xq := [.tmp 2]
def XS (Γ : Env) (f : Nat) : Prop := ∀ (p : QB), EvN Γ f [p.v] (V.bool (decide ((p.needs.length : Int) > 8)))
theorem KD {Γ : Env} {f : Nat} (h : Has Γ.P f 7 We r_packages_Check_1)  : XS Γ f := by
  intro p
  refine Q1 h (by simp) (by simp only [V.closed, Qg, V.noSl, Jw, and_self, and_true, true_and]) (by simp only [V.closed, Qg, V.noSl, Jw, and_self, and_true, true_and]) fun C hC hm => ?_
  subst hC
  unfold We
  repeat' (first | refine Qe fun K' hK => ?_ | refine Qk fun K' hK => ?_ | refine Qf ?_ | refine Qj ?_ | refine Qa ?_ | ((first | refine Qi ⟨_, rfl, fun hc => ?_, fun hc => ?_⟩ | refine QY (fun hc => ?_) (fun hc => ?_) | refine QZ (fun hc => ?_) (fun hc => ?_)) <;> first | exact Bool.noConfusion hc | ((try simp only [znz] at hc); first | exact znf | skip)) | refine Qn ?_ | refine Qh ?_ | simp (maxSteps := 1000000) only [go_sem, Nat.reduceAdd, Nat.reduceMul, Nat.reduceEqDiff, Nat.reduceLeDiff, Nat.reduceLT, Nat.reduceSub, Int.reduceEq, Int.reduceBEq, Int.reduceLT, Int.reduceLE, Int.reduceAdd, Int.reduceToNat, reduceIte, reduceCtorEq, QB.v, QB.cells, List.length_map] | (refine hK _ ?_; clear hK; clear K') | refine And.intro ?_ ?_ | exact zlo | omega | exact zms)
  all_goals first | (refine Q5 _ rfl ?_; simp only [go_sem, Nat.reduceEqDiff, Nat.reduceAdd, reduceIte, reduceCtorEq]; done) | trace_state
def Wd (JO : Nat) : AC := QP [1] (.reg [xo 1 (.box true 3 (.t 0)), mc 2 (V.bool false)]) (QP [2] (.reg [fa 3 0 1, ld 4 1 3, cl 5 JO [4], xo 6 (.un .not (.t 5)), mv 2 6]) (.ret)) def r_packages_Check_2 : List Xq := [.tmp 2]
def XR (Γ : Env) (f : Nat) : Prop := ∀ (p : QB) (hn : p.name.length < 2 ^ 60), EvN Γ f [p.v] (V.bool (!XG p.name))
theorem KC {Γ : Env} {f JO : Nat} (h : Has Γ.P f 7 (Wd JO) r_packages_Check_2) (W6 : XA Γ JO) : XR Γ f := by
  intro p hn
  refine Q1 h (by simp) (by simp only [V.closed, Qg, V.noSl, Jw, and_self, and_true, true_and]) (by simp only [V.closed, Qg, V.noSl, Jw, and_self, and_true, true_and]) fun C hC hm => ?_
  subst hC
  unfold Wd
  repeat' (first | refine Qe fun K' hK => ?_ | refine Qk fun K' hK => ?_ | refine Qf ?_ | refine Qj ?_ | refine Qa ?_ | ((first | refine Qi ⟨_, rfl, fun hc => ?_, fun hc => ?_⟩ | refine QY (fun hc => ?_) (fun hc => ?_) | refine QZ (fun hc => ?_) (fun hc => ?_)) <;> first | exact Bool.noConfusion hc | ((try simp only [znz] at hc); first | exact znf | skip)) | refine Qn ?_ | refine Qh ?_ | simp (maxSteps := 1000000) only [go_sem, Nat.reduceAdd, Nat.reduceMul, Nat.reduceEqDiff, Nat.reduceLeDiff, Nat.reduceLT, Nat.reduceSub, Int.reduceEq, Int.reduceBEq, Int.reduceLT, Int.reduceLE, Int.reduceAdd, Int.reduceToNat, reduceIte, reduceCtorEq, QB.v, QB.cells] | (refine hK _ ?_; clear hK; clear K') | refine And.intro ?_ ?_ | (apply Q7; (focus first | exact (W6 _ zsd).b)) | exact zlo | omega | exact zms)
  all_goals first | (refine Q5 _ rfl ?_; simp only [go_sem, Nat.reduceEqDiff, Nat.reduceAdd, reduceIte, reduceCtorEq]; done) | trace_state
def Wc (JO : Nat) : AC := QP [1] (.reg [xo 1 (.box true 3 (.t 0)), mc 2 (V.bool false)]) (QP [2] (.reg [fa 3 0 1, ld 4 1 3, cl 5 JO [4], xo 6 (.un .not (.t 5)), mv 2 6]) (.ret)) def r_packages_Check_3 : List Xq := [.tmp 2]
def XQ (Γ : Env) (f : Nat) : Prop := ∀ (p : Js) (hn : p.name.length < 2 ^ 60), EvN Γ f [p.v] (V.bool (!XG p.name))
theorem KB {Γ : Env} {f JO : Nat} (h : Has Γ.P f 7 (Wc JO) r_packages_Check_3) (W6 : XA Γ JO) : XQ Γ f := by
  intro p hn
  refine Q1 h (by simp) (by simp only [V.closed, Qg, V.noSl, Jw, and_self, and_true, true_and]) (by simp only [V.closed, Qg, V.noSl, Jw, and_self, and_true, true_and]) fun C hC hm => ?_
  subst hC
  unfold Wc
  repeat' (first | refine Qe fun K' hK => ?_ | refine Qk fun K' hK => ?_ | refine Qf ?_ | refine Qj ?_ | refine Qa ?_ | ((first | refine Qi ⟨_, rfl, fun hc => ?_, fun hc => ?_⟩ | refine QY (fun hc => ?_) (fun hc => ?_) | refine QZ (fun hc => ?_) (fun hc => ?_)) <;> first | exact Bool.noConfusion hc | ((try simp only [znz] at hc); first | exact znf | skip)) | refine Qn ?_ | refine Qh ?_ | simp (maxSteps := 1000000) only [go_sem, Nat.reduceAdd, Nat.reduceMul, Nat.reduceEqDiff, Nat.reduceLeDiff, Nat.reduceLT, Nat.reduceSub, Int.reduceEq, Int.reduceBEq, Int.reduceLT, Int.reduceLE, Int.reduceAdd, Int.reduceToNat, reduceIte, reduceCtorEq, Js.v, Js.cells] | (refine hK _ ?_; clear hK; clear K') | refine And.intro ?_ ?_ | (apply Q7; (focus first | exact (W6 _ zsd).b)) | exact zlo | omega | exact zms)
  all_goals first | (refine Q5 _ rfl ?_; simp only [go_sem, Nat.reduceEqDiff, Nat.reduceAdd, reduceIte, reduceCtorEq]; done) | trace_state
def Wb (QN : Nat) : AC := QP [1] (.reg [xo 1 (.box true 3 (.t 0)), mc 2 (V.bool false)]) (QP [2] (.reg [fa 3 1 1, ld 4 1 3, cl 5 QN [4], xo 6 (.un .not (.t 5)), mv 2 6]) (.ret)) def r_packages_Check_4 : List Xq := [.tmp 2]
def XP (Γ : Env) (f : Nat) : Prop := ∀ (p : QB) (hn : p.ver.length < 2 ^ 60), EvN Γ f [p.v] (V.bool (!W1 p.ver))
theorem KA {Γ : Env} {f QN : Nat} (h : Has Γ.P f 7 (Wb QN) r_packages_Check_4) (QM : JX Γ QN) : XP Γ f := by
  intro p hn
  refine Q1 h (by simp) (by simp only [V.closed, Qg, V.noSl, Jw, and_self, and_true, true_and]) (by simp only [V.closed, Qg, V.noSl, Jw, and_self, and_true, true_and]) fun C hC hm => ?_
  subst hC
  unfold Wb
  have g := (QM p.ver (by omega)).b
  repeat' (first | refine Qe fun K' hK => ?_ | refine Qk fun K' hK => ?_ | refine Qf ?_ | refine Qj ?_ | refine Qa ?_ | ((first | refine Qi ⟨_, rfl, fun hc => ?_, fun hc => ?_⟩ | refine QY (fun hc => ?_) (fun hc => ?_) | refine QZ (fun hc => ?_) (fun hc => ?_)) <;> first | exact Bool.noConfusion hc | ((try simp only [znz] at hc); first | exact znf | skip)) | refine Qn ?_ | refine Qh ?_ | simp (maxSteps := 1000000) only [go_sem, Nat.reduceAdd, Nat.reduceMul, Nat.reduceEqDiff, Nat.reduceLeDiff, Nat.reduceLT, Nat.reduceSub, Int.reduceEq, Int.reduceBEq, Int.reduceLT, Int.reduceLE, Int.reduceAdd, Int.reduceToNat, reduceIte, reduceCtorEq, QB.v, QB.cells] | (refine hK _ ?_; clear hK; clear K') | refine And.intro ?_ ?_ | (apply Q7; (focus first | exact g | exact (QM _ zsd).b)) | exact zlo | omega | exact zms)
  all_goals first | (refine Q5 _ rfl ?_; simp only [go_sem, Nat.reduceEqDiff, Nat.reduceAdd, reduceIte, reduceCtorEq]; done) | trace_state
def Wa (Xg : Nat) : AC := QP [1] (.reg [xo 1 (.box true 3 (.t 0)), mc 2 (V.bool false)]) (QP [2] (.reg [fa 3 1 1, xo 4 (.load true 2 (.t 3)), cl 5 Xg [4], xo 6 (.un .not (.t 5)), mv 2 6]) (.ret)) def r_packages_Check_5 : List Xq := [.tmp 2]
def XO (Γ : Env) (f : Nat) : Prop := ∀ (p : Js) (ha : p.lo.length < 2 ^ 60) (hb : p.up.length < 2 ^ 60), EvN Γ f [p.v] (V.bool (!VT p.lo p.up))
theorem Kz {Γ : Env} {f Xg : Nat} (h : Has Γ.P f 7 (Wa Xg) r_packages_Check_5) (VL : Wi Γ Xg) : XO Γ f := by
  intro p ha hb
  refine Q1 h (by simp) (by simp only [V.closed, Qg, V.noSl, Jw, and_self, and_true, true_and]) (by simp only [V.closed, Qg, V.noSl, Jw, and_self, and_true, true_and]) fun C hC hm => ?_
  subst hC
  unfold Wa
  have g := (VL p.lo p.up ha hb).b
  repeat' (first | refine Qe fun K' hK => ?_ | refine Qk fun K' hK => ?_ | refine Qf ?_ | refine Qj ?_ | refine Qa ?_ | ((first | refine Qi ⟨_, rfl, fun hc => ?_, fun hc => ?_⟩ | refine QY (fun hc => ?_) (fun hc => ?_) | refine QZ (fun hc => ?_) (fun hc => ?_)) <;> first | exact Bool.noConfusion hc | ((try simp only [znz] at hc); first | exact znf | skip)) | refine Qn ?_ | refine Qh ?_ | simp (maxSteps := 1000000) only [go_sem, Nat.reduceAdd, Nat.reduceMul, Nat.reduceEqDiff, Nat.reduceLeDiff, Nat.reduceLT, Nat.reduceSub, Int.reduceEq, Int.reduceBEq, Int.reduceLT, Int.reduceLE, Int.reduceAdd, Int.reduceToNat, reduceIte, reduceCtorEq, Js.v, Js.cells] | (refine hK _ ?_; clear hK; clear K') | refine And.intro ?_ ?_ | (apply Q7; (focus first | exact g | exact (VL _ _ zsd zsd).b)) | exact zlo | omega | exact zms)
  all_goals first | (refine Q5 _ rfl ?_; simp only [go_sem, Nat.reduceEqDiff, Nat.reduceAdd, reduceIte, reduceCtorEq]; done) | trace_state
def WP (QA : Nat) : AC := QP [1, 2, 3] (.reg [xo 3 (.box true 3 (.t 0)), mc 4 (V.bool false)]) (QP [4] (.reg [ld 5 1 1, xo 6 (.load true 3 (.t 3)), xo 7 (.callv (.t 5) [(.t 6)]), mv 8 7, xg 9 (.faddr 2 (.t 3)) 8 false, xg 10 (.load false 1 (.t 9)) 8 false, xg 11 (.load false 1 (.t 2)) 8 false, xg 12 (.call QA [(.t 10), (.t 11)]) 8 false, xo 13 (.pick (.t 8) (.c (V.bool true)) (.t 12)), mv 4 13]) (.ret)) def r_packages_any_1 : List Xq := [.tmp 4]
def WC (Γ : Env) (f : Nat) : Prop := ∀ (x : QB) (g1 : Nat) (c1 : List V) (g2 : Nat) (c2 : List V) (p : QB → Bool) (q : Js → Bool) (hp : EvN Γ g1 (x.v :: c1) (V.bool (p x))) (hq : ∀ y ∈ x.needs, EvN Γ g2 (y.v :: c2) (V.bool (q y))) (hc1 : Qg c1) (hc2 : Qg c2) (hl : x.needs.length < 2 ^ 62), EvN Γ f [x.v, .ro [.clo g1 c1] 0, .ro [.clo g2 c2] 0] (V.bool (p x || x.needs.any q))
theorem qO {Γ : Env} {f QA : Nat} (h : Has Γ.P f 14 (WP QA) r_packages_any_1) (Qu : Je Γ QA) : WC Γ f := by
  intro x g1 c1 g2 c2 p q hp hq hc1 hc2 hl
  refine Q1 h (by simp) (by simp only [V.closed, Qg, V.noSl, Jw, and_self, and_true, true_and]) (by simp only [V.closed, Qg, V.noSl, Jw, and_self, and_true, true_and]) fun C hC hm => ?_
  subst hC
  unfold WP
  have s1 : ∀ o, Yc o c1 = c1 := fun o => JS o c1 hc1
  have s2 : ∀ o B, Jf o B c1 = True := fun o B => eq_true (JC o B c1 hc1)
  have s3 : ∀ o, Yc o c2 = c2 := fun o => JS o c2 hc2
  have s4 : ∀ o B, Jf o B c2 = True := fun o B => eq_true (JC o B c2 hc2)
  have gq := (Qu x.needs g2 c2 q hq hc2 hl).b
  have gp := hp.b
  simp only [QB.v, QB.cells] at gp
  rcases hpx : p x with _ | _
  · rw [hpx] at gp
    repeat' (first | refine Qe fun K' hK => ?_ | refine Qk fun K' hK => ?_ | refine Qf ?_ | refine Qj ?_ | refine Qa ?_ | ((first | refine Qi ⟨_, rfl, fun hc => ?_, fun hc => ?_⟩ | refine QY (fun hc => ?_) (fun hc => ?_) | refine QZ (fun hc => ?_) (fun hc => ?_)) <;> first | exact Bool.noConfusion hc | ((try simp only [znz] at hc); first | exact znf | skip)) | refine Qn ?_ | refine Qh ?_ | simp (maxSteps := 1000000) only [go_sem, Nat.reduceAdd, Nat.reduceMul, Nat.reduceEqDiff, Nat.reduceLeDiff, Nat.reduceLT, Nat.reduceSub, Int.reduceEq, Int.reduceBEq, Int.reduceLT, Int.reduceLE, Int.reduceAdd, Int.reduceToNat, reduceIte, reduceCtorEq, QB.v, QB.cells, s1, s2, s3, s4] | (refine hK _ ?_; clear hK; clear K') | refine And.intro ?_ ?_ | (apply Q7; (focus first | exact gp | exact gq | exact (Qu _ _ _ _ zsd zsd zsd).b)) | exact zlo | omega | exact zms)
    all_goals first | (refine Q5 _ rfl ?_; simp only [go_sem, Nat.reduceEqDiff, Nat.reduceAdd, reduceIte, reduceCtorEq]; done) | (refine Q5 _ rfl ?_; simp only [go_sem, Nat.reduceEqDiff, Nat.reduceAdd, reduceIte, reduceCtorEq]; simp; done) | trace_state
  · rw [hpx] at gp
    repeat' (first | refine Qe fun K' hK => ?_ | refine Qk fun K' hK => ?_ | refine Qf ?_ | refine Qj ?_ | refine Qa ?_ | ((first | refine Qi ⟨_, rfl, fun hc => ?_, fun hc => ?_⟩ | refine QY (fun hc => ?_) (fun hc => ?_) | refine QZ (fun hc => ?_) (fun hc => ?_)) <;> first | exact Bool.noConfusion hc | ((try simp only [znz] at hc); first | exact znf | skip)) | refine Qn ?_ | refine Qh ?_ | simp (maxSteps := 1000000) only [go_sem, Nat.reduceAdd, Nat.reduceMul, Nat.reduceEqDiff, Nat.reduceLeDiff, Nat.reduceLT, Nat.reduceSub, Int.reduceEq, Int.reduceBEq, Int.reduceLT, Int.reduceLE, Int.reduceAdd, Int.reduceToNat, reduceIte, reduceCtorEq, QB.v, QB.cells, s1, s2, s3, s4] | (refine hK _ ?_; clear hK; clear K') | refine And.intro ?_ ?_ | (apply Q7; (focus first | exact gp | exact gq | exact (Qu _ _ _ _ zsd zsd zsd).b)) | exact zlo | omega | exact zms)
    all_goals first | (refine Q5 _ rfl ?_; simp only [go_sem, Nat.reduceEqDiff, Nat.reduceAdd, reduceIte, reduceCtorEq]; done) | (refine Q5 _ rfl ?_; simp only [go_sem, Nat.reduceEqDiff, Nat.reduceAdd, reduceIte, reduceCtorEq]; simp; done) | trace_state
end Av
end

/- Slices of bytes. -/
import Derived.Test.YtalpffbofjlfgaaDoorK14
import Derived.Test.YtalpffbofjlfgaaDoorK11
import Derived.Test.YtalpffbofjlfgaaDoorK12
set_option linter.unusedVariables false
set_option linter.unusedSimpArgs false
section
set_option linter.unusedSimpArgs false
set_option linter.unusedVariables false
set_option maxRecDepth 10000
set_option maxHeartbeats 4000000
namespace Av
open Go
attribute [local irreducible] AWp Y0 Xe Xo awS awC Wo awQ Wp QS JT Wm awR JV awB okR Y6 ris
end Av
end
section
set_option linter.unusedSimpArgs false
set_option linter.unusedVariables false
set_option maxRecDepth 10000
set_option maxHeartbeats 4000000
namespace Av
open Go
attribute [local irreducible] AWp Y0 Xe Xo awS awC Wo awQ Wp QS JT Wm awR JV awB okR Y6 ris
end Av
end
section
set_option linter.unusedSimpArgs false
set_option linter.unusedVariables false
set_option maxRecDepth 10000
set_option maxHeartbeats 4000000
namespace Av
open Go
attribute [local irreducible] AWp Y0 Xe Xo awS awC Wo awQ Wp QS JT Wm awR JV awB okR Y6 ris
def Jy (l : List Int) (k : Nat) : List V := [.sl 1 (l.map V.int), V.int k]
theorem JG (l : List Int) (k : Nat) : Qg (Jy l k) := by simp only [Jy, V.closed, Qg, and_self]
def JE (l : List Int) (k : Nat) (n : Int) : Int × Nat := if k < l.length then (acJ (l.getD k 0) n, k + 1) else (0, k)
theorem Yx {l : List Int} {k : Nat} {n : Int} (hk : k ≤ l.length) : (JE l k n).2 ≤ l.length := by
  unfold JE; split
  · show k + 1 ≤ l.length; omega
  · exact hk
theorem aaa {a n : Int} (h1 : 1 ≤ n) (h2 : n < 2 ^ 62) : 0 ≤ acJ a n ∧ acJ a n < n := by
  unfold acJ
  rw [if_neg (by omega)]
  have ha := Int.tmod_lt_of_pos a (show 0 < n by omega)
  have hb : -n < a.tmod n := by
    have := Int.tmod_lt_of_pos (-a) (show 0 < n by omega)
    rw [Int.neg_tmod] at this; omega
  rw [Wq (by omega) (by omega)]
  exact ⟨Int.tmod_nonneg _ (by omega), Int.tmod_lt_of_pos _ (by omega)⟩
theorem J2 {l : List Int} {k : Nat} {n : Int} (h1 : 1 ≤ n) (h2 : n < 2 ^ 62) : 0 ≤ (JE l k n).1 ∧ (JE l k n).1 < n := by
  unfold JE; split
  · exact aaa h1 h2
  · show (0 : Int) ≤ 0 ∧ (0 : Int) < n; omega
def UH : AC := QP [0] (.reg [mc 2 (V.bool false)]) (QP [2] (.reg [mv 3 0, ln 4 3, bc 5 .leq 4 (V.int 400), mv 2 5]) (.ret)) def r_make_Light : List Xq := [.tmp 2]
def Ud (Γ : Env) (f : Nat) : Prop := ∀ (l : List Int), EvN Γ f [.sl 1 (l.map V.int)] (V.bool (decide ((l.length : Int) ≤ 400)))
theorem xl {Γ : Env} {f : Nat} (h : Has Γ.P f 6 UH r_make_Light)  : Ud Γ f := by
  intro l
  refine Q1 h (by simp) (by simp only [V.closed, Qg, V.noSl, Jw, and_self, and_true, true_and]) (by simp only [V.closed, Qg, V.noSl, Jw, and_self, and_true, true_and]) fun C hC hm => ?_
  subst hC
  unfold UH
  repeat' (first | refine Qe fun K' hK => ?_ | refine Qk fun K' hK => ?_ | refine Qf ?_ | refine Qj ?_ | refine Qa ?_ | ((first | refine Qi ⟨_, rfl, fun hc => ?_, fun hc => ?_⟩ | refine QY (fun hc => ?_) (fun hc => ?_) | refine QZ (fun hc => ?_) (fun hc => ?_)) <;> first | exact Bool.noConfusion hc | ((try simp only [znz] at hc); first | exact znf | skip)) | refine Qn ?_ | refine Qh ?_ | simp (maxSteps := 1000000) only [go_sem, Nat.reduceAdd, Nat.reduceMul, Nat.reduceEqDiff, Nat.reduceLeDiff, Nat.reduceLT, Nat.reduceSub, Int.reduceEq, Int.reduceBEq, Int.reduceLT, Int.reduceLE, Int.reduceAdd, Int.reduceToNat, reduceIte, reduceCtorEq, List.length_map] | (refine hK _ ?_; clear hK; clear K') | refine And.intro ?_ ?_ | exact zlo | omega | exact zms)
  refine Q5 _ rfl ?_; simp only [go_sem, Nat.reduceEqDiff, Nat.reduceAdd, reduceIte, reduceCtorEq]
def KG : AC := QP [0] (.reg [mc 2 (.sc (.pointer none))]) (QP [2] (.reg [mv 3 0, xo 4 (.build [(.slice none 0 0), (.int .i64 0)] [(0, 1, (.t 3))]), xo 5 (.box true 2 (.t 4)), mv 2 5]) (.ret)) def r_make_Roll : List Xq := [.tmp 2]
def UQ (Γ : Env) (f : Nat) : Prop := ∀ (l : List Int), EvR Γ f [.sl 1 (l.map V.int)] (Jy l 0)
theorem x8 {Γ : Env} {f : Nat} (h : Has Γ.P f 6 KG r_make_Roll)  : UQ Γ f := by
  intro l
  refine wQ h (by simp) (by simp only [Jy, V.closed, Qg, and_self]) fun C hC hm => ?_
  subst hC
  unfold KG
  repeat' (first | refine Qe fun K' hK => ?_ | refine Qk fun K' hK => ?_ | refine Qf ?_ | refine Qj ?_ | refine Qa ?_ | ((first | refine Qi ⟨_, rfl, fun hc => ?_, fun hc => ?_⟩ | refine QY (fun hc => ?_) (fun hc => ?_) | refine QZ (fun hc => ?_) (fun hc => ?_)) <;> first | exact Bool.noConfusion hc | ((try simp only [znz] at hc); first | exact znf | skip)) | refine Qn ?_ | refine Qh ?_ | simp (maxSteps := 1000000) only [go_sem, Nat.reduceAdd, Nat.reduceMul, Nat.reduceEqDiff, Nat.reduceLeDiff, Nat.reduceLT, Nat.reduceSub, Int.reduceEq, Int.reduceBEq, Int.reduceLT, Int.reduceLE, Int.reduceAdd, Int.reduceToNat, reduceIte, reduceCtorEq] | (refine hK _ ?_; clear hK; clear K') | refine And.intro ?_ ?_ | exact zlo | omega | exact zms)
  refine adT _ rfl rfl (by simp only [Jy, V.closed, Qg, and_self])
def XF : List AO := [mv 5 0, nk 6 5, fa 7 1 6, ld 8 1 7, mv 9 0, nk 10 9, fa 11 0 10, ld 12 1 11, ln 13 12, bn 14 .geq 8 13]
def XL : List (List Nat) := [[], [0], [1], [2], [], [4], [5], [6], [7], [3, 8]]
def XC : OT := .one 0 (.one 1 (.one 2 (.one 3 (.one 4 (.one 5 (.one 6 (.one 7 (.one 8 (.one 9 (.done))))))))))
def YJ : OP := .one 0 false [] (mv 5 0) (.one 1 false [] (nk 6 5) (.one 2 false [] (fa 7 1 6) (.one 3 false [] (ld 8 1 7) (.one 4 false [] (mv 9 0) (.one 5 false [] (nk 10 9) (.one 6 false [] (fa 11 0 10) (.one 7 false [] (ld 12 1 11) (.one 8 false [] (ln 13 12) (.one 9 false [] (bn 14 .geq 8 13) (.done))))))))))
theorem YN : okR (XF) XL [] XC = true := by kernel_rfl
theorem YH : Y6 (ris (XF) XL []) XC = YJ := by kernel_rfl
def XE (J1 : Nat) : List AO := [mv 22 0, nk 23 22, fa 24 0 23, ld 25 1 24, mv 26 0, nk 27 26, fa 28 1 27, ld 29 1 28, bc 30 .sub 29 (V.int 1), ia 31 1 25 30, ld 32 1 31, mv 33 1, cl 34 J1 [32, 33], mv 4 34]
def XK : List (List Nat) := [[], [0], [1], [2], [], [4], [5], [6], [7], [3, 8], [9], [], [10, 11], [12, 12, 0, 1, 2, 3, 4, 5, 6, 7, 8, 9, 10, 11, 12]]
def XB : OT := .one 0 (.one 1 (.one 2 (.one 3 (.one 4 (.one 5 (.one 6 (.one 7 (.one 8 (.one 9 (.one 10 (.one 11 (.one 12 (.one 13 (.done))))))))))))))
def YI (J1 : Nat) : OP := .one 0 false [] (mv 22 0) (.one 1 false [] (nk 23 22) (.one 2 false [] (fa 24 0 23) (.one 3 false [] (ld 25 1 24) (.one 4 false [] (mv 26 0) (.one 5 false [] (nk 27 26) (.one 6 false [] (fa 28 1 27) (.one 7 false [] (ld 29 1 28) (.one 8 false [] (bc 30 .sub 29 (V.int 1)) (.one 9 false [] (ia 31 1 25 30) (.one 10 false [] (ld 32 1 31) (.one 11 false [] (mv 33 1) (.one 12 false [] (cl 34 J1 [32, 33]) (.one 13 false [12] (mv 4 34) (.done))))))))))))))
theorem YM (J1 : Nat) : okR (XE J1) XK [] XB = true := by kernel_rfl
theorem YG (J1 : Nat) : Y6 (ris (XE J1) XK []) XB = YI J1 := by kernel_rfl def c_make_Dice__Next (J1 : Nat) : AC := QP [0, 1] (.reg [mc 4 (V.int 0)]) (QP [0, 1] (QP [0, 1, 14] (aaM [] XC (YJ) (XF) XL) (.cond (.t 14) (QP [4] (.reg [mc 4 (V.int 0)]) (.ret)) (.skip))) (QP [0, 1] (.reg [mv 15 0, nk 16 15, fa 17 1 16, ld 18 1 17, bc 19 .add 18 (V.int 1), nk 20 15, fa 21 1 20, xs 1 21 19]) (QP [4] (aaM [] XB (YI J1) (XE J1) XK) (.ret)))) def r_make_Dice__Next : List Xq := [.tmp 4]
def JQ (Γ : Env) (f : Nat) : Prop := ∀ (l : List Int) (k : Nat) (n : Int) (hl : l.length ≤ 400) (hk : k ≤ l.length), EvD Γ f [V.int n] (Jy l k) (V.int (JE l k n).1) (Jy l (JE l k n).2)
theorem K7 {Γ : Env} {f J1 : Nat} (h : Has Γ.P f 35 (c_make_Dice__Next J1) r_make_Dice__Next) (yQ : KJ Γ J1) : JQ Γ f := by
  intro l k n hl hk
  refine Ws h (by simp) (by simp only [V.closed, Qg, V.noSl, Jw, and_self, and_true, true_and]) (by first | exact JG _ _ | simp only [V.closed, Qg, and_self, and_true, true_and]) (by first | exact JG _ _ | simp only [V.closed, Qg, and_self, and_true, true_and]) fun C hC hm => ?_
  subst hC
  unfold c_make_Dice__Next
  by_cases h1 : k < l.length
  · have e1 : decide ((k : Int) ≥ (((l.map V.int).length : Nat) : Int)) = false := by simp; omega
    have hget : l[k]? = some (l.getD k 0) := by simp [List.getD_eq_getElem?_getD, List.getElem?_eq_getElem h1]
    have hw := Yg (k := k) (by omega)
    have hw2 : IntKind.i64.wrap (((k + 1 : Nat) : Int) - 1) = (k : Int) := by rw [Wq (by omega) (by omega)]; omega
    have hn : JE l k n = (acJ (l.getD k 0) n, k + 1) := by rw [JE, if_pos h1]
    rw [hn]
    repeat' (first | refine Qe fun K' hK => ?_ | refine Qk fun K' hK => ?_ | refine Qy 10 (fun _ => true) rfl (YN) (YH) fun K' hK => ?_ | refine Qz 10 (fun _ => true) rfl (YN) (YH) fun K' hK => ?_ | refine Qy 14 (fun _ => true) rfl (YM _) (YG _) fun K' hK => ?_ | refine Qz 14 (fun _ => true) rfl (YM _) (YG _) fun K' hK => ?_ | refine Qf ?_ | refine Qj ?_ | refine Qa ?_ | ((first | refine Qi ⟨_, rfl, fun hc => ?_, fun hc => ?_⟩ | refine QY (fun hc => ?_) (fun hc => ?_) | refine QZ (fun hc => ?_) (fun hc => ?_)) <;> first | exact Bool.noConfusion hc | ((try simp only [znz] at hc); first | exact znf | skip)) | refine Qn ?_ | refine Qh ?_ | simp (maxSteps := 1000000) only [go_sem, Nat.reduceAdd, Nat.reduceMul, Nat.reduceEqDiff, Nat.reduceLeDiff, Nat.reduceLT, Nat.reduceSub, Int.reduceEq, Int.reduceBEq, Int.reduceLT, Int.reduceLE, Int.reduceAdd, Int.reduceToNat, reduceIte, reduceCtorEq, Jy, e1, hw, hw2, Int.toNat_natCast, List.getElem?_map, hget, YJ, YI] | (refine hK _ ?_; clear hK; clear K') | refine And.intro ?_ ?_ | ((first | apply Q7 | apply JP); (focus first | exact (yQ _ _).b)) | exact zlo | omega | exact zms)
    all_goals (refine Kf _ rfl rfl (by simp only [V.closed, Qg, and_self, and_true, true_and]) ?_; simp only [go_sem, Nat.reduceEqDiff, Nat.reduceAdd, reduceIte, reduceCtorEq])
  · have e1 : decide ((k : Int) ≥ (((l.map V.int).length : Nat) : Int)) = true := by simp; omega
    have hn : JE l k n = (0, k) := by rw [JE, if_neg h1]
    rw [hn]
    repeat' (first | refine Qe fun K' hK => ?_ | refine Qk fun K' hK => ?_ | refine Qy 10 (fun _ => true) rfl (YN) (YH) fun K' hK => ?_ | refine Qz 10 (fun _ => true) rfl (YN) (YH) fun K' hK => ?_ | refine Qy 14 (fun _ => true) rfl (YM _) (YG _) fun K' hK => ?_ | refine Qz 14 (fun _ => true) rfl (YM _) (YG _) fun K' hK => ?_ | refine Qf ?_ | refine Qj ?_ | refine Qa ?_ | ((first | refine Qi ⟨_, rfl, fun hc => ?_, fun hc => ?_⟩ | refine QY (fun hc => ?_) (fun hc => ?_) | refine QZ (fun hc => ?_) (fun hc => ?_)) <;> first | exact Bool.noConfusion hc | ((try simp only [znz] at hc); first | exact znf | skip)) | refine Qn ?_ | refine Qh ?_ | simp (maxSteps := 1000000) only [go_sem, Nat.reduceAdd, Nat.reduceMul, Nat.reduceEqDiff, Nat.reduceLeDiff, Nat.reduceLT, Nat.reduceSub, Int.reduceEq, Int.reduceBEq, Int.reduceLT, Int.reduceLE, Int.reduceAdd, Int.reduceToNat, reduceIte, reduceCtorEq, Jy, e1, YJ, YI] | (refine hK _ ?_; clear hK; clear K') | refine And.intro ?_ ?_ | ((first | apply Q7 | apply JP); (focus first | exact (yQ _ _).b)) | exact zlo | omega | exact zms)
    all_goals (refine Kf _ rfl rfl (by simp only [V.closed, Qg, and_self, and_true, true_and]) ?_; simp only [go_sem, Nat.reduceEqDiff, Nat.reduceAdd, reduceIte, reduceCtorEq])
def ofD (l : List Int) (k : Nat) (xs : List Int) : Int × Nat := (xs.getD (JE l k xs.length).1.toNat 0, (JE l k xs.length).2)
theorem adc {l : List Int} {k : Nat} {xs : List Int} (h : xs ≠ []) (h2 : xs.length < 2 ^ 62) : (ofD l k xs).1 ∈ xs := by
  have h1 : 1 ≤ xs.length := by cases xs with | nil => exact (h rfl).elim | cons _ _ => simp
  have := J2 (l := l) (k := k) (n := xs.length) (by omega) (by omega)
  have hk : (JE l k xs.length).1.toNat < xs.length := by omega
  unfold ofD
  simp only [List.getD_eq_getElem?_getD, List.getElem?_eq_getElem hk, Option.getD_some]
  exact List.getElem_mem hk
theorem aa0 {l : List Int} {k : Nat} {xs : List Int} (hk : k ≤ l.length) : (ofD l k xs).2 ≤ l.length := Yx hk
def Vc (Qm : Nat) : AC := QP [0, 1] (.reg [mc 4 (V.int 0)]) (QP [4] (.reg [mv 5 1, mv 6 0, mv 7 1, ln 8 7, cl 9 Qm [6, 8], ia 10 1 5 9, ld 11 1 10, mv 4 11]) (.ret)) def r_make_Dice__Of : List Xq := [.tmp 4]
def Xy (Γ : Env) (f : Nat) : Prop := ∀ (l : List Int) (k : Nat) (xs : List Int) (hl : l.length ≤ 400) (hk : k ≤ l.length) (hx : 1 ≤ xs.length) (hx2 : xs.length < 2 ^ 62), EvD Γ f [.sl 1 (xs.map V.int)] (Jy l k) (V.int (ofD l k xs).1) (Jy l (ofD l k xs).2)
theorem jl {Γ : Env} {f Qm : Nat} (h : Has Γ.P f 12 (Vc Qm) r_make_Dice__Of) (Qb : JQ Γ Qm) : Xy Γ f := by
  intro l k xs hl hk hx hx2
  refine Ws h (by simp) (by simp only [V.closed, Qg, V.noSl, Jw, and_self, and_true, true_and]) (by first | exact JG _ _ | simp only [V.closed, Qg, and_self, and_true, true_and]) (by first | exact JG _ _ | simp only [V.closed, Qg, and_self, and_true, true_and]) fun C hC hm => ?_
  subst hC
  unfold Vc
  have hr := J2 (l := l) (k := k) (n := xs.length) (by omega) (by omega)
  have hget : xs[(JE l k xs.length).1.toNat]? = some (ofD l k xs).1 := by
    have hk : (JE l k xs.length).1.toNat < xs.length := by omega
    simp [ofD, List.getD_eq_getElem?_getD, List.getElem?_eq_getElem hk]
  have hn := Qb l k xs.length hl hk
  have e2 : Jy l (ofD l k xs).2 = Jy l (JE l k xs.length).2 := rfl
  rw [e2]
  simp only [Jy] at hn
  repeat' (first | refine Qe fun K' hK => ?_ | refine Qk fun K' hK => ?_ | refine Qf ?_ | refine Qj ?_ | refine Qa ?_ | ((first | refine Qi ⟨_, rfl, fun hc => ?_, fun hc => ?_⟩ | refine QY (fun hc => ?_) (fun hc => ?_) | refine QZ (fun hc => ?_) (fun hc => ?_)) <;> first | exact Bool.noConfusion hc | ((try simp only [znz] at hc); first | exact znf | skip)) | refine Qn ?_ | refine Qh ?_ | simp (maxSteps := 1000000) only [go_sem, Nat.reduceAdd, Nat.reduceMul, Nat.reduceEqDiff, Nat.reduceLeDiff, Nat.reduceLT, Nat.reduceSub, Int.reduceEq, Int.reduceBEq, Int.reduceLT, Int.reduceLE, Int.reduceAdd, Int.reduceToNat, reduceIte, reduceCtorEq, Jy, List.length_map, List.getElem?_map, hget] | (refine hK _ ?_; clear hK; clear K') | refine And.intro ?_ ?_ | (apply YX; (focus exact rfl); (focus first | exact hn | exact (Qb _ _ _ zsd zsd)); (focus exact rfl); (focus exact rfl)) | exact zlo | omega | exact zms)
  refine Kf _ rfl rfl (by simp only [V.closed, Qg, and_self, and_true, true_and]) ?_; simp only [go_sem, Nat.reduceEqDiff, Nat.reduceAdd, reduceIte, reduceCtorEq]
end Av
end
section
set_option linter.unusedSimpArgs false
set_option linter.unusedVariables false
set_option maxRecDepth 10000
set_option maxHeartbeats 4000000
namespace Av
open Go
attribute [local irreducible] AWp Y0 Xe Xo awS awC Wo awQ Wp QS JT Wm awR JV awB okR Y6 ris
def WQ (Qm : Nat) : AC := QP [0, 1] (.reg [mc 4 (V.bool false)]) (QP [4] (.reg [mv 5 0, mv 6 1, cl 7 Qm [5, 6], mv 8 1, bc 9 .sub 8 (V.int 1), bn 10 .eql 7 9, mv 4 10]) (.ret)) def r_make_Dice__One : List Xq := [.tmp 4]
def Xn (Γ : Env) (f : Nat) : Prop := ∀ (l : List Int) (k : Nat) (n : Int) (hl : l.length ≤ 400) (hk : k ≤ l.length) (h1 : 1 ≤ n) (h2 : n < 2 ^ 62), EvD Γ f [V.int n] (Jy l k) (V.bool ((JE l k n).1 == n - 1)) (Jy l (JE l k n).2)
theorem qQ {Γ : Env} {f Qm : Nat} (h : Has Γ.P f 11 (WQ Qm) r_make_Dice__One) (Qb : JQ Γ Qm) : Xn Γ f := by
  intro l k n hl hk h1 h2
  refine Ws h (by simp) (by simp only [V.closed, Qg, V.noSl, Jw, and_self, and_true, true_and]) (by first | exact JG _ _ | simp only [V.closed, Qg, and_self, and_true, true_and]) (by first | exact JG _ _ | simp only [V.closed, Qg, and_self, and_true, true_and]) fun C hC hm => ?_
  subst hC
  unfold WQ
  have hn := Qb l k n hl hk
  have hw : IntKind.i64.wrap (n - 1) = n - 1 := Wq (by omega) (by omega)
  simp only [Jy] at hn
  repeat' (first | refine Qe fun K' hK => ?_ | refine Qk fun K' hK => ?_ | refine Qf ?_ | refine Qj ?_ | refine Qa ?_ | ((first | refine Qi ⟨_, rfl, fun hc => ?_, fun hc => ?_⟩ | refine QY (fun hc => ?_) (fun hc => ?_) | refine QZ (fun hc => ?_) (fun hc => ?_)) <;> first | exact Bool.noConfusion hc | ((try simp only [znz] at hc); first | exact znf | skip)) | refine Qn ?_ | refine Qh ?_ | simp (maxSteps := 1000000) only [go_sem, Nat.reduceAdd, Nat.reduceMul, Nat.reduceEqDiff, Nat.reduceLeDiff, Nat.reduceLT, Nat.reduceSub, Int.reduceEq, Int.reduceBEq, Int.reduceLT, Int.reduceLE, Int.reduceAdd, Int.reduceToNat, reduceIte, reduceCtorEq, Jy, hw] | (refine hK _ ?_; clear hK; clear K') | refine And.intro ?_ ?_ | (apply YX; (focus exact rfl); (focus first | exact hn | exact (Qb _ _ _ zsd zsd)); (focus exact rfl); (focus exact rfl)) | exact zlo | omega | exact zms)
  refine Kf _ rfl rfl (by simp only [V.closed, Qg, and_self, and_true, true_and]) ?_; simp only [go_sem, Nat.reduceEqDiff, Nat.reduceAdd, reduceIte, reduceCtorEq]
def ye (l : List Int) (k : Nat) (xs : List (List UInt8)) : List UInt8 × Nat := (xs.getD (JE l k xs.length).1.toNat [], (JE l k xs.length).2)
theorem xw {l : List Int} {k : Nat} {xs : List (List UInt8)} (h1 : 1 ≤ xs.length) (h2 : xs.length < 2 ^ 62) : (ye l k xs).1 ∈ xs := by
  have := J2 (l := l) (k := k) (n := xs.length) (by omega) (by omega)
  have hk : (JE l k xs.length).1.toNat < xs.length := by omega
  unfold ye
  simp only [List.getD_eq_getElem?_getD, List.getElem?_eq_getElem hk, Option.getD_some]
  exact List.getElem_mem hk
theorem w5 {l : List Int} {k : Nat} {xs : List (List UInt8)} (hk : k ≤ l.length) : (ye l k xs).2 ≤ l.length := Yx hk
def Wy (Qm : Nat) : AC := QP [0, 1] (.reg [mc 4 (V.str [])]) (QP [4] (.reg [mv 5 1, mv 6 0, mv 7 1, ln 8 7, cl 9 Qm [6, 8], ia 10 1 5 9, ld 11 1 10, mv 4 11]) (.ret)) def r_make_Dice__Word : List Xq := [.tmp 4]
def Wk (Γ : Env) (f : Nat) : Prop := ∀ (l : List Int) (k : Nat) (xs : List (List UInt8)) (hl : l.length ≤ 400) (hk : k ≤ l.length) (hx : 1 ≤ xs.length) (hx2 : xs.length < 2 ^ 62), EvD Γ f [.sl 1 (xs.map V.str)] (Jy l k) (V.str (ye l k xs).1) (Jy l (ye l k xs).2)
theorem K6 {Γ : Env} {f Qm : Nat} (h : Has Γ.P f 12 (Wy Qm) r_make_Dice__Word) (Qb : JQ Γ Qm) : Wk Γ f := by
  intro l k xs hl hk hx hx2
  refine Ws h (by simp) (by simp only [V.closed, Qg, V.noSl, Jw, and_self, and_true, true_and]) (by first | exact JG _ _ | simp only [V.closed, Qg, and_self, and_true, true_and]) (by first | exact JG _ _ | simp only [V.closed, Qg, and_self, and_true, true_and]) fun C hC hm => ?_
  subst hC
  unfold Wy
  have hr := J2 (l := l) (k := k) (n := xs.length) (by omega) (by omega)
  have hget : xs[(JE l k xs.length).1.toNat]? = some (ye l k xs).1 := by
    have hk : (JE l k xs.length).1.toNat < xs.length := by omega
    simp [ye, List.getD_eq_getElem?_getD, List.getElem?_eq_getElem hk]
  have hn := Qb l k xs.length hl hk
  have e2 : Jy l (ye l k xs).2 = Jy l (JE l k xs.length).2 := rfl
  rw [e2]
  simp only [Jy] at hn
  repeat' (first | refine Qe fun K' hK => ?_ | refine Qk fun K' hK => ?_ | refine Qf ?_ | refine Qj ?_ | refine Qa ?_ | ((first | refine Qi ⟨_, rfl, fun hc => ?_, fun hc => ?_⟩ | refine QY (fun hc => ?_) (fun hc => ?_) | refine QZ (fun hc => ?_) (fun hc => ?_)) <;> first | exact Bool.noConfusion hc | ((try simp only [znz] at hc); first | exact znf | skip)) | refine Qn ?_ | refine Qh ?_ | simp (maxSteps := 1000000) only [go_sem, Nat.reduceAdd, Nat.reduceMul, Nat.reduceEqDiff, Nat.reduceLeDiff, Nat.reduceLT, Nat.reduceSub, Int.reduceEq, Int.reduceBEq, Int.reduceLT, Int.reduceLE, Int.reduceAdd, Int.reduceToNat, reduceIte, reduceCtorEq, Jy, List.length_map, List.getElem?_map, hget] | (refine hK _ ?_; clear hK; clear K') | refine And.intro ?_ ?_ | (apply YX; (focus exact rfl); (focus first | exact hn | exact (Qb _ _ _ zsd zsd)); (focus exact rfl); (focus exact rfl)) | exact zlo | omega | exact zms)
  refine Kf _ rfl rfl (by simp only [V.closed, Qg, and_self, and_true, true_and]) ?_; simp only [go_sem, Nat.reduceEqDiff, Nat.reduceAdd, reduceIte, reduceCtorEq]
def acI : List (List UInt8) := [[101, 99, 100, 104, 101], [118, 51], [104, 105, 103, 104], [114, 115, 97], [97, 101, 97, 100]]
end Av
end
section
set_option linter.unusedSimpArgs false
set_option linter.unusedVariables false
set_option maxRecDepth 10000
set_option maxHeartbeats 4000000
namespace Av
open Go
attribute [local irreducible] AWp Y0 Xe Xo awS awC Wo awQ Wp QS JT Wm awR JV awB okR Y6 ris
theorem ac0 (s : List UInt8) : (aen s).2 = (YT 43 s).all vm := by
  unfold aen; split
  · rename_i h; rw [h]
  · rename_i h; simpa using h
structure Kh (s : List UInt8) : Prop where
  colon : (58 : UInt8) ∉ s
  known : (YT 43 s).all vm = true
  head : ∃ c r, s = c :: r ∧ c ≠ 45 ∧ c ≠ 33 ∧ c ≠ 43 ∧ c ≠ 64
def wI (s : List UInt8) : Bool := !s.contains 58 && (YT 43 s).all vm && (match s with | c :: _ => c != 45 && c != 33 && c != 43 && c != 64 | [] => false)
theorem aa9 {s : List UInt8} (h : wI s = true) : Kh s := by
  simp only [wI, Bool.and_eq_true, Bool.not_eq_true'] at h
  refine ⟨by simpa using h.1.1, h.1.2, ?_⟩
  have h3 := h.2
  cases s with
  | nil => simp at h3
  | cons c r => simp at h3; exact ⟨c, r, rfl, h3.1.1.1, h3.1.1.2, h3.1.2, h3.2⟩
theorem aa7 : ∀ x ∈ acI, wI x = true := by decide
theorem Kh.join {s t : List UInt8} (hs : Kh s) (ht : t ∈ acI) : Kh (s ++ [43] ++ t) := by
  have h2 := aa9 (aa7 t ht)
  refine ⟨?_, ?_, ?_⟩
  · simp only [List.mem_append, List.mem_singleton, not_or]; exact ⟨⟨hs.colon, by decide⟩, h2.colon⟩
  · rw [qr, List.all_append, hs.known, h2.known]; rfl
  · obtain ⟨c, r, rfl, h⟩ := hs.head
    exact ⟨c, r ++ [43] ++ t, by simp, h⟩
theorem Kh.sign {s : List UInt8} (h : Kh s) : acY s = (0, s) := by
  obtain ⟨c, r, rfl, h1, h2, h3, _⟩ := h.head
  rw [acY, if_neg (by simp [h1, h2, h3])]
theorem Kh.ne {s : List UInt8} (h : Kh s) : (s == aem) = false := by
  obtain ⟨c, r, rfl, _, _, _, h4⟩ := h.head
  simp [aem, h4]
theorem Kh.okW {s : List UInt8} (h : Kh s) : wordOk s = true := by rw [Av.wordOk, h.sign, ac0, h.known, Bool.or_true]
structure vI (s : List UInt8) (n : Nat) : Prop where
  few : s ≠ [] → (YT 58 s).length ≤ n
  ok : s ≠ [] → ∀ w ∈ YT 58 s, wordOk w = true
theorem vI.app {s t : List UInt8} {n m : Nat} (hs : vI s n) (ht : vI t m) (h1 : s ≠ []) (h2 : t ≠ []) : vI (s ++ [58] ++ t) (n + m) := by
  refine ⟨fun _ => ?_, fun _ x hx => ?_⟩
  · have := hs.few h1; have := ht.few h2; rw [qr]; simp; omega
  · rw [qr] at hx
    rcases List.mem_append.1 hx with hx | hx
    · exact hs.ok h1 x hx
    · exact ht.ok h2 x hx
end Av
end
section
namespace Av
open Go
end Av
end
section
set_option linter.unusedSimpArgs false
set_option linter.unusedVariables false
set_option maxRecDepth 10000
set_option maxHeartbeats 4000000
namespace Av
open Go
attribute [local irreducible] AWp Y0 Xe Xo awS awC Wo awQ Wp QS JT Wm awR JV awB okR Y6 ris
end Av
end
section
set_option linter.unusedSimpArgs false
set_option linter.unusedVariables false
set_option maxRecDepth 10000
set_option maxHeartbeats 4000000
namespace Av
open Go
attribute [local irreducible] AWp Y0 Xe Xo awS awC Wo awQ Wp QS JT Wm awR JV awB okR Y6 ris
theorem xS (c : UInt8) : ∀ (r : List (List UInt8)) (x : List UInt8), [c].intercalate (x :: r) = x ++ (r.map fun y => c :: y).flatten
  | [], x => by simp [List.intercalate]
  | y :: r, x => by
    have := xS c r y
    simp only [List.intercalate, List.intersperse_cons_cons, List.flatten_cons] at this ⊢
    rw [this]; simp
def UO (Γ : Env) (f : Nat) : Prop := ∀ (xs : List (List UInt8)) (sep : List UInt8) (hn : xs.length < 2 ^ 40) (hl : (sep.intercalate xs).length < 2 ^ 40), EvN Γ f [.sl 1 (xs.map V.str), V.str sep] (V.str (sep.intercalate xs))
end Av
end

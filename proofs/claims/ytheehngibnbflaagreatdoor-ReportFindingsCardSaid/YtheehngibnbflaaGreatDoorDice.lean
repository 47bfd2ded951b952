/- Dice -/
import Derived.Test.YtheehngibnbflaaGreatDoorCat
import Derived.Test.YtheehngibnbflaaGreatDoorAvM
set_option linter.unusedVariables false
set_option linter.unusedSimpArgs false
section
set_option linter.unusedSimpArgs false
set_option linter.unusedVariables false
set_option maxRecDepth 10000
set_option maxHeartbeats 4000000
namespace Av
open Go
attribute [local irreducible] AWp Yd Yy YK awS awC XQ awQ XW Qr Jj XP awR Jk awB okR Yk ris
def X9 (l : List Int) (k : Nat) : List V := [.sl 1 (l.map V.int), V.int k]
theorem JL (l : List Int) (k : Nat) : Qc (X9 l k) := by simp only [X9, V.closed, Qc, and_self]
def JB (l : List Int) (k : Nat) (n : Int) : Int × Nat := if k < l.length then (aby (l.getD k 0) n, k + 1) else (0, k)
theorem U1 {l : List Int} {k : Nat} {n : Int} (hk : k ≤ l.length) : (JB l k n).2 ≤ l.length := by
  unfold JB; split
  · show k + 1 ≤ l.length; omega
  · exact hk
theorem wI {a n : Int} (h1 : 1 ≤ n) (h2 : n < 2 ^ 62) : 0 ≤ aby a n ∧ aby a n < n := by
  unfold aby
  rw [if_neg (by omega)]
  have ha := Int.tmod_lt_of_pos a (show 0 < n by omega)
  have hb : -n < a.tmod n := by
    have := Int.tmod_lt_of_pos (-a) (show 0 < n by omega)
    rw [Int.neg_tmod] at this; omega
  rw [Wp (by omega) (by omega)]
  exact ⟨Int.tmod_nonneg _ (by omega), Int.tmod_lt_of_pos _ (by omega)⟩
theorem Q1 {l : List Int} {k : Nat} {n : Int} (h1 : 1 ≤ n) (h2 : n < 2 ^ 62) : 0 ≤ (JB l k n).1 ∧ (JB l k n).1 < n := by
  unfold JB; split
  · exact wI h1 h2
  · show (0 : Int) ≤ 0 ∧ (0 : Int) < n; omega
def V5 : AC := Qt [0] (.reg [mc 2 (V.bool false)]) (Qt [2] (.reg [mv 3 0, ln 4 3, bc 5 .leq 4 (V.int 400), mv 2 5]) (.ret)) def r_make_Light : List YJ := [.tmp 2]
def VE (Γ : Env) (f : Nat) : Prop := ∀ (l : List Int), EvN Γ f [.sl 1 (l.map V.int)] (V.bool (decide ((l.length : Int) ≤ 400)))
theorem yd {Γ : Env} {f : Nat} (h : Has Γ.P f 6 V5 r_make_Light)  : VE Γ f := by
  intro l
  refine QA h (by simp) (by simp only [V.closed, Qc, V.noSl, Jh, and_self, and_true, true_and]) (by simp only [V.closed, Qc, V.noSl, Jh, and_self, and_true, true_and]) fun C hC hm => ?_
  subst hC
  unfold V5
  repeat' (first | refine Qi fun K' hK => ?_ | refine Ql fun K' hK => ?_ | refine Qj ?_ | refine Qk ?_ | refine Qd ?_ | ((first | refine Qn ⟨_, rfl, fun hc => ?_, fun hc => ?_⟩ | refine QV (fun hc => ?_) (fun hc => ?_) | refine QW (fun hc => ?_) (fun hc => ?_)) <;> first | exact Bool.noConfusion hc | ((try simp only [znz] at hc); first | exact znf | skip)) | refine Qq ?_ | refine Qm ?_ | simp (maxSteps := 1000000) only [go_sem, Nat.reduceAdd, Nat.reduceMul, Nat.reduceEqDiff, Nat.reduceLeDiff, Nat.reduceLT, Nat.reduceSub, Int.reduceEq, Int.reduceBEq, Int.reduceLT, Int.reduceLE, Int.reduceAdd, Int.reduceToNat, reduceIte, reduceCtorEq, List.length_map] | (refine hK _ ?_; clear hK; clear K') | refine And.intro ?_ ?_ | exact zlo | omega | exact zms)
  refine QF _ rfl ?_; simp only [go_sem, Nat.reduceEqDiff, Nat.reduceAdd, reduceIte, reduceCtorEq]
def UQ : AC := Qt [0] (.reg [mc 2 (.sc (.pointer none))]) (Qt [2] (.reg [mv 3 0, xo 4 (.build [(.slice none 0 0), (.int .i64 0)] [(0, 1, (.t 3))]), xo 5 (.box true 2 (.t 4)), mv 2 5]) (.ret)) def r_make_Roll : List YJ := [.tmp 2]
def Ud (Γ : Env) (f : Nat) : Prop := ∀ (l : List Int), EvR Γ f [.sl 1 (l.map V.int)] (X9 l 0)
theorem yP {Γ : Env} {f : Nat} (h : Has Γ.P f 6 UQ r_make_Roll)  : Ud Γ f := by
  intro l
  refine xx h (by simp) (by simp only [X9, V.closed, Qc, and_self]) fun C hC hm => ?_
  subst hC
  unfold UQ
  repeat' (first | refine Qi fun K' hK => ?_ | refine Ql fun K' hK => ?_ | refine Qj ?_ | refine Qk ?_ | refine Qd ?_ | ((first | refine Qn ⟨_, rfl, fun hc => ?_, fun hc => ?_⟩ | refine QV (fun hc => ?_) (fun hc => ?_) | refine QW (fun hc => ?_) (fun hc => ?_)) <;> first | exact Bool.noConfusion hc | ((try simp only [znz] at hc); first | exact znf | skip)) | refine Qq ?_ | refine Qm ?_ | simp (maxSteps := 1000000) only [go_sem, Nat.reduceAdd, Nat.reduceMul, Nat.reduceEqDiff, Nat.reduceLeDiff, Nat.reduceLT, Nat.reduceSub, Int.reduceEq, Int.reduceBEq, Int.reduceLT, Int.reduceLE, Int.reduceAdd, Int.reduceToNat, reduceIte, reduceCtorEq] | (refine hK _ ?_; clear hK; clear K') | refine And.intro ?_ ?_ | exact zlo | omega | exact zms)
  refine acI _ rfl rfl (by simp only [X9, V.closed, Qc, and_self])
def Y6 : List AO := [mv 5 0, nk 6 5, fa 7 1 6, ld 8 1 7, mv 9 0, nk 10 9, fa 11 0 10, ld 12 1 11, ln 13 12, bn 14 .geq 8 13]
def Xd : List (List Nat) := [[], [0], [1], [2], [], [4], [5], [6], [7], [3, 8]]
def Y2 : OT := .one 0 (.one 1 (.one 2 (.one 3 (.one 4 (.one 5 (.one 6 (.one 7 (.one 8 (.one 9 (.done))))))))))
def J3 : OP := .one 0 false [] (mv 5 0) (.one 1 false [] (nk 6 5) (.one 2 false [] (fa 7 1 6) (.one 3 false [] (ld 8 1 7) (.one 4 false [] (mv 9 0) (.one 5 false [] (nk 10 9) (.one 6 false [] (fa 11 0 10) (.one 7 false [] (ld 12 1 11) (.one 8 false [] (ln 13 12) (.one 9 false [] (bn 14 .geq 8 13) (.done))))))))))
theorem J6 : okR (Y6) Xd [] Y2 = true := by kernel_rfl
theorem J0 : Yk (ris (Y6) Xd []) Y2 = J3 := by kernel_rfl
def Y5 (Jw : Nat) : List AO := [mv 22 0, nk 23 22, fa 24 0 23, ld 25 1 24, mv 26 0, nk 27 26, fa 28 1 27, ld 29 1 28, bc 30 .sub 29 (V.int 1), ia 31 1 25 30, ld 32 1 31, mv 33 1, cl 34 Jw [32, 33], mv 4 34]
def Xc : List (List Nat) := [[], [0], [1], [2], [], [4], [5], [6], [7], [3, 8], [9], [], [10, 11], [12, 12, 0, 1, 2, 3, 4, 5, 6, 7, 8, 9, 10, 11, 12]]
def Y1 : OT := .one 0 (.one 1 (.one 2 (.one 3 (.one 4 (.one 5 (.one 6 (.one 7 (.one 8 (.one 9 (.one 10 (.one 11 (.one 12 (.one 13 (.done))))))))))))))
def J2 (Jw : Nat) : OP := .one 0 false [] (mv 22 0) (.one 1 false [] (nk 23 22) (.one 2 false [] (fa 24 0 23) (.one 3 false [] (ld 25 1 24) (.one 4 false [] (mv 26 0) (.one 5 false [] (nk 27 26) (.one 6 false [] (fa 28 1 27) (.one 7 false [] (ld 29 1 28) (.one 8 false [] (bc 30 .sub 29 (V.int 1)) (.one 9 false [] (ia 31 1 25 30) (.one 10 false [] (ld 32 1 31) (.one 11 false [] (mv 33 1) (.one 12 false [] (cl 34 Jw [32, 33]) (.one 13 false [12] (mv 4 34) (.done))))))))))))))
theorem J5 (Jw : Nat) : okR (Y5 Jw) Xc [] Y1 = true := by kernel_rfl
theorem JZ (Jw : Nat) : Yk (ris (Y5 Jw) Xc []) Y1 = J2 Jw := by kernel_rfl def c_make_Dice__Next (Jw : Nat) : AC := Qt [0, 1] (.reg [mc 4 (V.int 0)]) (Qt [0, 1] (Qt [0, 1, 14] (ww [] Y2 (J3) (Y6) Xd) (.cond (.t 14) (Qt [4] (.reg [mc 4 (V.int 0)]) (.ret)) (.skip))) (Qt [0, 1] (.reg [mv 15 0, nk 16 15, fa 17 1 16, ld 18 1 17, bc 19 .add 18 (V.int 1), nk 20 15, fa 21 1 20, xs 1 21 19]) (Qt [4] (ww [] Y1 (J2 Jw) (Y5 Jw) Xc) (.ret)))) def r_make_Dice__Next : List YJ := [.tmp 4]
def JM (Γ : Env) (f : Nat) : Prop := ∀ (l : List Int) (k : Nat) (n : Int) (hl : l.length ≤ 400) (hk : k ≤ l.length), EvD Γ f [V.int n] (X9 l k) (V.int (JB l k n).1) (X9 l (JB l k n).2)
theorem Kf {Γ : Env} {f Jw : Nat} (h : Has Γ.P f 35 (c_make_Dice__Next Jw) r_make_Dice__Next) (jM : UV Γ Jw) : JM Γ f := by
  intro l k n hl hk
  refine Vw h (by simp) (by simp only [V.closed, Qc, V.noSl, Jh, and_self, and_true, true_and]) (by first | exact JL _ _ | simp only [V.closed, Qc, and_self, and_true, true_and]) (by first | exact JL _ _ | simp only [V.closed, Qc, and_self, and_true, true_and]) fun C hC hm => ?_
  subst hC
  unfold c_make_Dice__Next
  by_cases h1 : k < l.length
  · have e1 : decide ((k : Int) ≥ (((l.map V.int).length : Nat) : Int)) = false := by simp; omega
    have hget : l[k]? = some (l.getD k 0) := by simp [List.getD_eq_getElem?_getD, List.getElem?_eq_getElem h1]
    have hw := UW (k := k) (by omega)
    have hw2 : IntKind.i64.wrap (((k + 1 : Nat) : Int) - 1) = (k : Int) := by rw [Wp (by omega) (by omega)]; omega
    have hn : JB l k n = (aby (l.getD k 0) n, k + 1) := by rw [JB, if_pos h1]
    rw [hn]
    repeat' (first | refine Qi fun K' hK => ?_ | refine Ql fun K' hK => ?_ | refine QZ 10 (fun _ => true) rfl (J6) (J0) fun K' hK => ?_ | refine Q0 10 (fun _ => true) rfl (J6) (J0) fun K' hK => ?_ | refine QZ 14 (fun _ => true) rfl (J5 _) (JZ _) fun K' hK => ?_ | refine Q0 14 (fun _ => true) rfl (J5 _) (JZ _) fun K' hK => ?_ | refine Qj ?_ | refine Qk ?_ | refine Qd ?_ | ((first | refine Qn ⟨_, rfl, fun hc => ?_, fun hc => ?_⟩ | refine QV (fun hc => ?_) (fun hc => ?_) | refine QW (fun hc => ?_) (fun hc => ?_)) <;> first | exact Bool.noConfusion hc | ((try simp only [znz] at hc); first | exact znf | skip)) | refine Qq ?_ | refine Qm ?_ | simp (maxSteps := 1000000) only [go_sem, Nat.reduceAdd, Nat.reduceMul, Nat.reduceEqDiff, Nat.reduceLeDiff, Nat.reduceLT, Nat.reduceSub, Int.reduceEq, Int.reduceBEq, Int.reduceLT, Int.reduceLE, Int.reduceAdd, Int.reduceToNat, reduceIte, reduceCtorEq, X9, e1, hw, hw2, Int.toNat_natCast, List.getElem?_map, hget, J3, J2] | (refine hK _ ?_; clear hK; clear K') | refine And.intro ?_ ?_ | ((first | apply QY | apply Yg); (focus first | exact (jM _ _).b)) | exact zlo | omega | exact zms)
    all_goals (refine yR _ rfl rfl (by simp only [V.closed, Qc, and_self, and_true, true_and]) ?_; simp only [go_sem, Nat.reduceEqDiff, Nat.reduceAdd, reduceIte, reduceCtorEq])
  · have e1 : decide ((k : Int) ≥ (((l.map V.int).length : Nat) : Int)) = true := by simp; omega
    have hn : JB l k n = (0, k) := by rw [JB, if_neg h1]
    rw [hn]
    repeat' (first | refine Qi fun K' hK => ?_ | refine Ql fun K' hK => ?_ | refine QZ 10 (fun _ => true) rfl (J6) (J0) fun K' hK => ?_ | refine Q0 10 (fun _ => true) rfl (J6) (J0) fun K' hK => ?_ | refine QZ 14 (fun _ => true) rfl (J5 _) (JZ _) fun K' hK => ?_ | refine Q0 14 (fun _ => true) rfl (J5 _) (JZ _) fun K' hK => ?_ | refine Qj ?_ | refine Qk ?_ | refine Qd ?_ | ((first | refine Qn ⟨_, rfl, fun hc => ?_, fun hc => ?_⟩ | refine QV (fun hc => ?_) (fun hc => ?_) | refine QW (fun hc => ?_) (fun hc => ?_)) <;> first | exact Bool.noConfusion hc | ((try simp only [znz] at hc); first | exact znf | skip)) | refine Qq ?_ | refine Qm ?_ | simp (maxSteps := 1000000) only [go_sem, Nat.reduceAdd, Nat.reduceMul, Nat.reduceEqDiff, Nat.reduceLeDiff, Nat.reduceLT, Nat.reduceSub, Int.reduceEq, Int.reduceBEq, Int.reduceLT, Int.reduceLE, Int.reduceAdd, Int.reduceToNat, reduceIte, reduceCtorEq, X9, e1, J3, J2] | (refine hK _ ?_; clear hK; clear K') | refine And.intro ?_ ?_ | ((first | apply QY | apply Yg); (focus first | exact (jM _ _).b)) | exact zlo | omega | exact zms)
    all_goals (refine yR _ rfl rfl (by simp only [V.closed, Qc, and_self, and_true, true_and]) ?_; simp only [go_sem, Nat.reduceEqDiff, Nat.reduceAdd, reduceIte, reduceCtorEq])
def ofD (l : List Int) (k : Nat) (xs : List Int) : Int × Nat := (xs.getD (JB l k xs.length).1.toNat 0, (JB l k xs.length).2)
theorem xj {l : List Int} {k : Nat} {xs : List Int} (h : xs ≠ []) (h2 : xs.length < 2 ^ 62) : (ofD l k xs).1 ∈ xs := by
  have h1 : 1 ≤ xs.length := by cases xs with | nil => exact (h rfl).elim | cons _ _ => simp
  have := Q1 (l := l) (k := k) (n := xs.length) (by omega) (by omega)
  have hk : (JB l k xs.length).1.toNat < xs.length := by omega
  unfold ofD
  simp only [List.getD_eq_getElem?_getD, List.getElem?_eq_getElem hk, Option.getD_some]
  exact List.getElem_mem hk
theorem vP {l : List Int} {k : Nat} {xs : List Int} (hk : k ≤ l.length) : (ofD l k xs).2 ≤ l.length := U1 hk
def WA (Qp : Nat) : AC := Qt [0, 1] (.reg [mc 4 (V.int 0)]) (Qt [4] (.reg [mv 5 1, mv 6 0, mv 7 1, ln 8 7, cl 9 Qp [6, 8], ia 10 1 5 9, ld 11 1 10, mv 4 11]) (.ret)) def r_make_Dice__Of : List YJ := [.tmp 4]
def Wh (Γ : Env) (f : Nat) : Prop := ∀ (l : List Int) (k : Nat) (xs : List Int) (hl : l.length ≤ 400) (hk : k ≤ l.length) (hx : 1 ≤ xs.length) (hx2 : xs.length < 2 ^ 62), EvD Γ f [.sl 1 (xs.map V.int)] (X9 l k) (V.int (ofD l k xs).1) (X9 l (ofD l k xs).2)
theorem K8 {Γ : Env} {f Qp : Nat} (h : Has Γ.P f 12 (WA Qp) r_make_Dice__Of) (Qx : JM Γ Qp) : Wh Γ f := by
  intro l k xs hl hk hx hx2
  refine Vw h (by simp) (by simp only [V.closed, Qc, V.noSl, Jh, and_self, and_true, true_and]) (by first | exact JL _ _ | simp only [V.closed, Qc, and_self, and_true, true_and]) (by first | exact JL _ _ | simp only [V.closed, Qc, and_self, and_true, true_and]) fun C hC hm => ?_
  subst hC
  unfold WA
  have hr := Q1 (l := l) (k := k) (n := xs.length) (by omega) (by omega)
  have hget : xs[(JB l k xs.length).1.toNat]? = some (ofD l k xs).1 := by
    have hk : (JB l k xs.length).1.toNat < xs.length := by omega
    simp [ofD, List.getD_eq_getElem?_getD, List.getElem?_eq_getElem hk]
  have hn := Qx l k xs.length hl hk
  have e2 : X9 l (ofD l k xs).2 = X9 l (JB l k xs.length).2 := rfl
  rw [e2]
  simp only [X9] at hn
  repeat' (first | refine Qi fun K' hK => ?_ | refine Ql fun K' hK => ?_ | refine Qj ?_ | refine Qk ?_ | refine Qd ?_ | ((first | refine Qn ⟨_, rfl, fun hc => ?_, fun hc => ?_⟩ | refine QV (fun hc => ?_) (fun hc => ?_) | refine QW (fun hc => ?_) (fun hc => ?_)) <;> first | exact Bool.noConfusion hc | ((try simp only [znz] at hc); first | exact znf | skip)) | refine Qq ?_ | refine Qm ?_ | simp (maxSteps := 1000000) only [go_sem, Nat.reduceAdd, Nat.reduceMul, Nat.reduceEqDiff, Nat.reduceLeDiff, Nat.reduceLT, Nat.reduceSub, Int.reduceEq, Int.reduceBEq, Int.reduceLT, Int.reduceLE, Int.reduceAdd, Int.reduceToNat, reduceIte, reduceCtorEq, X9, List.length_map, List.getElem?_map, hget] | (refine hK _ ?_; clear hK; clear K') | refine And.intro ?_ ?_ | (apply y3; (focus exact rfl); (focus first | exact hn | exact (Qx _ _ _ zsd zsd)); (focus exact rfl); (focus exact rfl)) | exact zlo | omega | exact zms)
  refine yR _ rfl rfl (by simp only [V.closed, Qc, and_self, and_true, true_and]) ?_; simp only [go_sem, Nat.reduceEqDiff, Nat.reduceAdd, reduceIte, reduceCtorEq]
end Av
end
section
set_option linter.unusedSimpArgs false
set_option linter.unusedVariables false
set_option maxRecDepth 10000
set_option maxHeartbeats 4000000
namespace Av
open Go
attribute [local irreducible] AWp Yd Yy YK awS awC XQ awQ XW Qr Jj XP awR Jk awB okR Yk ris
def Vh (l : List Int) (k : Nat) (xs : List (List UInt8)) : List UInt8 × Nat := (xs.getD (JB l k xs.length).1.toNat [], (JB l k xs.length).2)
theorem ql {l : List Int} {k : Nat} {xs : List (List UInt8)} (h1 : 1 ≤ xs.length) (h2 : xs.length < 2 ^ 62) : (Vh l k xs).1 ∈ xs := by
  have := Q1 (l := l) (k := k) (n := xs.length) (by omega) (by omega)
  have hk : (JB l k xs.length).1.toNat < xs.length := by omega
  unfold Vh
  simp only [List.getD_eq_getElem?_getD, List.getElem?_eq_getElem hk, Option.getD_some]
  exact List.getElem_mem hk
theorem xI {l : List Int} {k : Nat} {xs : List (List UInt8)} (hk : k ≤ l.length) : (Vh l k xs).2 ≤ l.length := U1 hk
def XT (Qp : Nat) : AC := Qt [0, 1] (.reg [mc 4 (V.str [])]) (Qt [4] (.reg [mv 5 1, mv 6 0, mv 7 1, ln 8 7, cl 9 Qp [6, 8], ia 10 1 5 9, ld 11 1 10, mv 4 11]) (.ret)) def r_make_Dice__Word : List YJ := [.tmp 4]
def XJ (Γ : Env) (f : Nat) : Prop := ∀ (l : List Int) (k : Nat) (xs : List (List UInt8)) (hl : l.length ≤ 400) (hk : k ≤ l.length) (hx : 1 ≤ xs.length) (hx2 : xs.length < 2 ^ 62), EvD Γ f [.sl 1 (xs.map V.str)] (X9 l k) (V.str (Vh l k xs).1) (X9 l (Vh l k xs).2)
theorem Ke {Γ : Env} {f Qp : Nat} (h : Has Γ.P f 12 (XT Qp) r_make_Dice__Word) (Qx : JM Γ Qp) : XJ Γ f := by
  intro l k xs hl hk hx hx2
  refine Vw h (by simp) (by simp only [V.closed, Qc, V.noSl, Jh, and_self, and_true, true_and]) (by first | exact JL _ _ | simp only [V.closed, Qc, and_self, and_true, true_and]) (by first | exact JL _ _ | simp only [V.closed, Qc, and_self, and_true, true_and]) fun C hC hm => ?_
  subst hC
  unfold XT
  have hr := Q1 (l := l) (k := k) (n := xs.length) (by omega) (by omega)
  have hget : xs[(JB l k xs.length).1.toNat]? = some (Vh l k xs).1 := by
    have hk : (JB l k xs.length).1.toNat < xs.length := by omega
    simp [Vh, List.getD_eq_getElem?_getD, List.getElem?_eq_getElem hk]
  have hn := Qx l k xs.length hl hk
  have e2 : X9 l (Vh l k xs).2 = X9 l (JB l k xs.length).2 := rfl
  rw [e2]
  simp only [X9] at hn
  repeat' (first | refine Qi fun K' hK => ?_ | refine Ql fun K' hK => ?_ | refine Qj ?_ | refine Qk ?_ | refine Qd ?_ | ((first | refine Qn ⟨_, rfl, fun hc => ?_, fun hc => ?_⟩ | refine QV (fun hc => ?_) (fun hc => ?_) | refine QW (fun hc => ?_) (fun hc => ?_)) <;> first | exact Bool.noConfusion hc | ((try simp only [znz] at hc); first | exact znf | skip)) | refine Qq ?_ | refine Qm ?_ | simp (maxSteps := 1000000) only [go_sem, Nat.reduceAdd, Nat.reduceMul, Nat.reduceEqDiff, Nat.reduceLeDiff, Nat.reduceLT, Nat.reduceSub, Int.reduceEq, Int.reduceBEq, Int.reduceLT, Int.reduceLE, Int.reduceAdd, Int.reduceToNat, reduceIte, reduceCtorEq, X9, List.length_map, List.getElem?_map, hget] | (refine hK _ ?_; clear hK; clear K') | refine And.intro ?_ ?_ | (apply y3; (focus exact rfl); (focus first | exact hn | exact (Qx _ _ _ zsd zsd)); (focus exact rfl); (focus exact rfl)) | exact zlo | omega | exact zms)
  refine yR _ rfl rfl (by simp only [V.closed, Qc, and_self, and_true, true_and]) ?_; simp only [go_sem, Nat.reduceEqDiff, Nat.reduceAdd, reduceIte, reduceCtorEq]
def abx : List (List UInt8) := [[101, 99, 100, 104, 101], [118, 51], [104, 105, 103, 104], [114, 115, 97], [97, 101, 97, 100]]
end Av
end

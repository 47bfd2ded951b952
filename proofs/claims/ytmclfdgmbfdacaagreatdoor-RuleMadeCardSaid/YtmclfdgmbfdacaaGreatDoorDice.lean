/- Dice -/
import Derived.Test.YtmclfdgmbfdacaaGreatDoorCat
import Derived.Test.YtmclfdgmbfdacaaGreatDoorAvM
set_option linter.unusedVariables false
set_option linter.unusedSimpArgs false
section
set_option linter.unusedSimpArgs false
set_option linter.unusedVariables false
set_option maxRecDepth 10000
set_option maxHeartbeats 4000000
namespace Av
open Go
attribute [local irreducible] AWp XV WG WJ awS awC VK awQ V4 Jq Xf VH awR Xk awB okR XT ris
def Jk (l : List Int) (k : Nat) : List V := [.sl 1 (l.map V.int), V.int k]
theorem J0 (l : List Int) (k : Nat) : Qq (Jk l k) := by simp only [Jk, V.closed, Qq, and_self]
def JR (l : List Int) (k : Nat) (n : Int) : Int × Nat := if k < l.length then (ahb (l.getD k 0) n, k + 1) else (0, k)
theorem Xb {l : List Int} {k : Nat} {n : Int} (hk : k ≤ l.length) : (JR l k n).2 ≤ l.length := by
  unfold JR; split
  · show k + 1 ≤ l.length; omega
  · exact hk
theorem aez {a n : Int} (h1 : 1 ≤ n) (h2 : n < 2 ^ 62) : 0 ≤ ahb a n ∧ ahb a n < n := by
  unfold ahb
  rw [if_neg (by omega)]
  have ha := Int.tmod_lt_of_pos a (show 0 < n by omega)
  have hb : -n < a.tmod n := by
    have := Int.tmod_lt_of_pos (-a) (show 0 < n by omega)
    rw [Int.neg_tmod] at this; omega
  rw [VL (by omega) (by omega)]
  exact ⟨Int.tmod_nonneg _ (by omega), Int.tmod_lt_of_pos _ (by omega)⟩
theorem Xr {l : List Int} {k : Nat} {n : Int} (h1 : 1 ≤ n) (h2 : n < 2 ^ 62) : 0 ≤ (JR l k n).1 ∧ (JR l k n).1 < n := by
  unfold JR; split
  · exact aez h1 h2
  · show (0 : Int) ≤ 0 ∧ (0 : Int) < n; omega
def yf : AC := QR [0] (.reg [mc 2 (V.bool false)]) (QR [2] (.reg [mv 3 0, ln 4 3, bc 5 .leq 4 (V.int 400), mv 2 5]) (.ret)) def r_make_Light : List XY := [.tmp 2]
def jI (Γ : Env) (f : Nat) : Prop := ∀ (l : List Int), EvN Γ f [.sl 1 (l.map V.int)] (V.bool (decide ((l.length : Int) ≤ 400)))
theorem aby {Γ : Env} {f : Nat} (h : Has Γ.P f 6 yf r_make_Light)  : jI Γ f := by
  intro l
  refine JD h (by simp) (by simp only [V.closed, Qq, V.noSl, Yq, and_self, and_true, true_and]) (by simp only [V.closed, Qq, V.noSl, Yq, and_self, and_true, true_and]) fun C hC hm => ?_
  subst hC
  unfold yf
  repeat' (first | refine Qf fun K' hK => ?_ | refine Qi fun K' hK => ?_ | refine Qg ?_ | refine Qh ?_ | refine Qa ?_ | ((first | refine Qk ⟨_, rfl, fun hc => ?_, fun hc => ?_⟩ | refine QM (fun hc => ?_) (fun hc => ?_) | refine QN (fun hc => ?_) (fun hc => ?_)) <;> first | exact Bool.noConfusion hc | ((try simp only [znz] at hc); first | exact znf | skip)) | refine Qo ?_ | refine Qj ?_ | simp (maxSteps := 1000000) only [go_sem, Nat.reduceAdd, Nat.reduceMul, Nat.reduceEqDiff, Nat.reduceLeDiff, Nat.reduceLT, Nat.reduceSub, Int.reduceEq, Int.reduceBEq, Int.reduceLT, Int.reduceLE, Int.reduceAdd, Int.reduceToNat, reduceIte, reduceCtorEq, List.length_map] | (refine hK _ ?_; clear hK; clear K') | refine And.intro ?_ ?_ | exact zlo | omega | exact zms)
  refine QQ _ rfl ?_; simp only [go_sem, Nat.reduceEqDiff, Nat.reduceAdd, reduceIte, reduceCtorEq]
def y6 : AC := QR [0] (.reg [mc 2 (.sc (.pointer none))]) (QR [2] (.reg [mv 3 0, xo 4 (.build [(.slice none 0 0), (.int .i64 0)] [(0, 1, (.t 3))]), xo 5 (.box true 2 (.t 4)), mv 2 5]) (.ret)) def r_make_Roll : List XY := [.tmp 2]
def yv (Γ : Env) (f : Nat) : Prop := ∀ (l : List Int), EvR Γ f [.sl 1 (l.map V.int)] (Jk l 0)
theorem acw {Γ : Env} {f : Nat} (h : Has Γ.P f 6 y6 r_make_Roll)  : yv Γ f := by
  intro l
  refine adl h (by simp) (by simp only [Jk, V.closed, Qq, and_self]) fun C hC hm => ?_
  subst hC
  unfold y6
  repeat' (first | refine Qf fun K' hK => ?_ | refine Qi fun K' hK => ?_ | refine Qg ?_ | refine Qh ?_ | refine Qa ?_ | ((first | refine Qk ⟨_, rfl, fun hc => ?_, fun hc => ?_⟩ | refine QM (fun hc => ?_) (fun hc => ?_) | refine QN (fun hc => ?_) (fun hc => ?_)) <;> first | exact Bool.noConfusion hc | ((try simp only [znz] at hc); first | exact znf | skip)) | refine Qo ?_ | refine Qj ?_ | simp (maxSteps := 1000000) only [go_sem, Nat.reduceAdd, Nat.reduceMul, Nat.reduceEqDiff, Nat.reduceLeDiff, Nat.reduceLT, Nat.reduceSub, Int.reduceEq, Int.reduceBEq, Int.reduceLT, Int.reduceLE, Int.reduceAdd, Int.reduceToNat, reduceIte, reduceCtorEq] | (refine hK _ ?_; clear hK; clear K') | refine And.intro ?_ ?_ | exact zlo | omega | exact zms)
  refine aiz _ rfl rfl (by simp only [Jk, V.closed, Qq, and_self])
def Vu : List AO := [mv 5 0, nk 6 5, fa 7 1 6, ld 8 1 7, mv 9 0, nk 10 9, fa 11 0 10, ld 12 1 11, ln 13 12, bn 14 .geq 8 13]
def VD : List (List Nat) := [[], [0], [1], [2], [], [4], [5], [6], [7], [3, 8]]
def Vo : OT := .one 0 (.one 1 (.one 2 (.one 3 (.one 4 (.one 5 (.one 6 (.one 7 (.one 8 (.one 9 (.done))))))))))
def Wh : OP := .one 0 false [] (mv 5 0) (.one 1 false [] (nk 6 5) (.one 2 false [] (fa 7 1 6) (.one 3 false [] (ld 8 1 7) (.one 4 false [] (mv 9 0) (.one 5 false [] (nk 10 9) (.one 6 false [] (fa 11 0 10) (.one 7 false [] (ld 12 1 11) (.one 8 false [] (ln 13 12) (.one 9 false [] (bn 14 .geq 8 13) (.done))))))))))
theorem Wj : okR (Vu) VD [] Vo = true := by kernel_rfl
theorem Wf : XT (ris (Vu) VD []) Vo = Wh := by kernel_rfl
def Vt (XI : Nat) : List AO := [mv 22 0, nk 23 22, fa 24 0 23, ld 25 1 24, mv 26 0, nk 27 26, fa 28 1 27, ld 29 1 28, bc 30 .sub 29 (V.int 1), ia 31 1 25 30, ld 32 1 31, mv 33 1, cl 34 XI [32, 33], mv 4 34]
def VC : List (List Nat) := [[], [0], [1], [2], [], [4], [5], [6], [7], [3, 8], [9], [], [10, 11], [12, 12, 0, 1, 2, 3, 4, 5, 6, 7, 8, 9, 10, 11, 12]]
def Vn : OT := .one 0 (.one 1 (.one 2 (.one 3 (.one 4 (.one 5 (.one 6 (.one 7 (.one 8 (.one 9 (.one 10 (.one 11 (.one 12 (.one 13 (.done))))))))))))))
def Wg (XI : Nat) : OP := .one 0 false [] (mv 22 0) (.one 1 false [] (nk 23 22) (.one 2 false [] (fa 24 0 23) (.one 3 false [] (ld 25 1 24) (.one 4 false [] (mv 26 0) (.one 5 false [] (nk 27 26) (.one 6 false [] (fa 28 1 27) (.one 7 false [] (ld 29 1 28) (.one 8 false [] (bc 30 .sub 29 (V.int 1)) (.one 9 false [] (ia 31 1 25 30) (.one 10 false [] (ld 32 1 31) (.one 11 false [] (mv 33 1) (.one 12 false [] (cl 34 XI [32, 33]) (.one 13 false [12] (mv 4 34) (.done))))))))))))))
theorem Wi (XI : Nat) : okR (Vt XI) VC [] Vn = true := by kernel_rfl
theorem We (XI : Nat) : XT (ris (Vt XI) VC []) Vn = Wg XI := by kernel_rfl def c_make_Dice__Next (XI : Nat) : AC := QR [0, 1] (.reg [mc 4 (V.int 0)]) (QR [0, 1] (QR [0, 1, 14] (yO [] Vo (Wh) (Vu) VD) (.cond (.t 14) (QR [4] (.reg [mc 4 (V.int 0)]) (.ret)) (.skip))) (QR [0, 1] (.reg [mv 15 0, nk 16 15, fa 17 1 16, ld 18 1 17, bc 19 .add 18 (V.int 1), nk 20 15, fa 21 1 20, xs 1 21 19]) (QR [4] (yO [] Vn (Wg XI) (Vt XI) VC) (.ret)))) def r_make_Dice__Next : List XY := [.tmp 4]
def Xl (Γ : Env) (f : Nat) : Prop := ∀ (l : List Int) (k : Nat) (n : Int) (hl : l.length ≤ 400) (hk : k ≤ l.length), EvD Γ f [V.int n] (Jk l k) (V.int (JR l k n).1) (Jk l (JR l k n).2)
theorem xq {Γ : Env} {f XI : Nat} (h : Has Γ.P f 35 (c_make_Dice__Next XI) r_make_Dice__Next) (aaS : y8 Γ XI) : Xl Γ f := by
  intro l k n hl hk
  refine WO h (by simp) (by simp only [V.closed, Qq, V.noSl, Yq, and_self, and_true, true_and]) (by first | exact J0 _ _ | simp only [V.closed, Qq, and_self, and_true, true_and]) (by first | exact J0 _ _ | simp only [V.closed, Qq, and_self, and_true, true_and]) fun C hC hm => ?_
  subst hC
  unfold c_make_Dice__Next
  by_cases h1 : k < l.length
  · have e1 : decide ((k : Int) ≥ (((l.map V.int).length : Nat) : Int)) = false := by simp; omega
    have hget : l[k]? = some (l.getD k 0) := by simp [List.getD_eq_getElem?_getD, List.getElem?_eq_getElem h1]
    have hw := Xh (k := k) (by omega)
    have hw2 : IntKind.i64.wrap (((k + 1 : Nat) : Int) - 1) = (k : Int) := by rw [VL (by omega) (by omega)]; omega
    have hn : JR l k n = (ahb (l.getD k 0) n, k + 1) := by rw [JR, if_pos h1]
    rw [hn]
    repeat' (first | refine Qf fun K' hK => ?_ | refine Qi fun K' hK => ?_ | refine Qb 10 (fun _ => true) rfl (Wj) (Wf) fun K' hK => ?_ | refine Qc 10 (fun _ => true) rfl (Wj) (Wf) fun K' hK => ?_ | refine Qb 14 (fun _ => true) rfl (Wi _) (We _) fun K' hK => ?_ | refine Qc 14 (fun _ => true) rfl (Wi _) (We _) fun K' hK => ?_ | refine Qg ?_ | refine Qh ?_ | refine Qa ?_ | ((first | refine Qk ⟨_, rfl, fun hc => ?_, fun hc => ?_⟩ | refine QM (fun hc => ?_) (fun hc => ?_) | refine QN (fun hc => ?_) (fun hc => ?_)) <;> first | exact Bool.noConfusion hc | ((try simp only [znz] at hc); first | exact znf | skip)) | refine Qo ?_ | refine Qj ?_ | simp (maxSteps := 1000000) only [go_sem, Nat.reduceAdd, Nat.reduceMul, Nat.reduceEqDiff, Nat.reduceLeDiff, Nat.reduceLT, Nat.reduceSub, Int.reduceEq, Int.reduceBEq, Int.reduceLT, Int.reduceLE, Int.reduceAdd, Int.reduceToNat, reduceIte, reduceCtorEq, Jk, e1, hw, hw2, Int.toNat_natCast, List.getElem?_map, hget, Wh, Wg] | (refine hK _ ?_; clear hK; clear K') | refine And.intro ?_ ?_ | ((first | apply QS | apply QT); (focus first | exact (aaS _ _).b)) | exact zlo | omega | exact zms)
    all_goals (refine WP _ rfl rfl (by simp only [V.closed, Qq, and_self, and_true, true_and]) ?_; simp only [go_sem, Nat.reduceEqDiff, Nat.reduceAdd, reduceIte, reduceCtorEq])
  · have e1 : decide ((k : Int) ≥ (((l.map V.int).length : Nat) : Int)) = true := by simp; omega
    have hn : JR l k n = (0, k) := by rw [JR, if_neg h1]
    rw [hn]
    repeat' (first | refine Qf fun K' hK => ?_ | refine Qi fun K' hK => ?_ | refine Qb 10 (fun _ => true) rfl (Wj) (Wf) fun K' hK => ?_ | refine Qc 10 (fun _ => true) rfl (Wj) (Wf) fun K' hK => ?_ | refine Qb 14 (fun _ => true) rfl (Wi _) (We _) fun K' hK => ?_ | refine Qc 14 (fun _ => true) rfl (Wi _) (We _) fun K' hK => ?_ | refine Qg ?_ | refine Qh ?_ | refine Qa ?_ | ((first | refine Qk ⟨_, rfl, fun hc => ?_, fun hc => ?_⟩ | refine QM (fun hc => ?_) (fun hc => ?_) | refine QN (fun hc => ?_) (fun hc => ?_)) <;> first | exact Bool.noConfusion hc | ((try simp only [znz] at hc); first | exact znf | skip)) | refine Qo ?_ | refine Qj ?_ | simp (maxSteps := 1000000) only [go_sem, Nat.reduceAdd, Nat.reduceMul, Nat.reduceEqDiff, Nat.reduceLeDiff, Nat.reduceLT, Nat.reduceSub, Int.reduceEq, Int.reduceBEq, Int.reduceLT, Int.reduceLE, Int.reduceAdd, Int.reduceToNat, reduceIte, reduceCtorEq, Jk, e1, Wh, Wg] | (refine hK _ ?_; clear hK; clear K') | refine And.intro ?_ ?_ | ((first | apply QS | apply QT); (focus first | exact (aaS _ _).b)) | exact zlo | omega | exact zms)
    all_goals (refine WP _ rfl rfl (by simp only [V.closed, Qq, and_self, and_true, true_and]) ?_; simp only [go_sem, Nat.reduceEqDiff, Nat.reduceAdd, reduceIte, reduceCtorEq])
def ofD (l : List Int) (k : Nat) (xs : List Int) : Int × Nat := (xs.getD (JR l k xs.length).1.toNat 0, (JR l k xs.length).2)
theorem j4 {l : List Int} {k : Nat} {xs : List Int} (h : xs ≠ []) (h2 : xs.length < 2 ^ 62) : (ofD l k xs).1 ∈ xs := by
  have h1 : 1 ≤ xs.length := by cases xs with | nil => exact (h rfl).elim | cons _ _ => simp
  have := Xr (l := l) (k := k) (n := xs.length) (by omega) (by omega)
  have hk : (JR l k xs.length).1.toNat < xs.length := by omega
  unfold ofD
  simp only [List.getD_eq_getElem?_getD, List.getElem?_eq_getElem hk, Option.getD_some]
  exact List.getElem_mem hk
theorem qL {l : List Int} {k : Nat} {xs : List Int} (hk : k ≤ l.length) : (ofD l k xs).2 ≤ l.length := Xb hk
def KB (Qr : Nat) : AC := QR [0, 1] (.reg [mc 4 (V.int 0)]) (QR [4] (.reg [mv 5 1, mv 6 0, mv 7 1, ln 8 7, cl 9 Qr [6, 8], ia 10 1 5 9, ld 11 1 10, mv 4 11]) (.ret)) def r_make_Dice__Of : List XY := [.tmp 4]
def Vm (Γ : Env) (f : Nat) : Prop := ∀ (l : List Int) (k : Nat) (xs : List Int) (hl : l.length ≤ 400) (hk : k ≤ l.length) (hx : 1 ≤ xs.length) (hx2 : xs.length < 2 ^ 62), EvD Γ f [.sl 1 (xs.map V.int)] (Jk l k) (V.int (ofD l k xs).1) (Jk l (ofD l k xs).2)
theorem wN {Γ : Env} {f Qr : Nat} (h : Has Γ.P f 12 (KB Qr) r_make_Dice__Of) (Qe : Xl Γ Qr) : Vm Γ f := by
  intro l k xs hl hk hx hx2
  refine WO h (by simp) (by simp only [V.closed, Qq, V.noSl, Yq, and_self, and_true, true_and]) (by first | exact J0 _ _ | simp only [V.closed, Qq, and_self, and_true, true_and]) (by first | exact J0 _ _ | simp only [V.closed, Qq, and_self, and_true, true_and]) fun C hC hm => ?_
  subst hC
  unfold KB
  have hr := Xr (l := l) (k := k) (n := xs.length) (by omega) (by omega)
  have hget : xs[(JR l k xs.length).1.toNat]? = some (ofD l k xs).1 := by
    have hk : (JR l k xs.length).1.toNat < xs.length := by omega
    simp [ofD, List.getD_eq_getElem?_getD, List.getElem?_eq_getElem hk]
  have hn := Qe l k xs.length hl hk
  have e2 : Jk l (ofD l k xs).2 = Jk l (JR l k xs.length).2 := rfl
  rw [e2]
  simp only [Jk] at hn
  repeat' (first | refine Qf fun K' hK => ?_ | refine Qi fun K' hK => ?_ | refine Qg ?_ | refine Qh ?_ | refine Qa ?_ | ((first | refine Qk ⟨_, rfl, fun hc => ?_, fun hc => ?_⟩ | refine QM (fun hc => ?_) (fun hc => ?_) | refine QN (fun hc => ?_) (fun hc => ?_)) <;> first | exact Bool.noConfusion hc | ((try simp only [znz] at hc); first | exact znf | skip)) | refine Qo ?_ | refine Qj ?_ | simp (maxSteps := 1000000) only [go_sem, Nat.reduceAdd, Nat.reduceMul, Nat.reduceEqDiff, Nat.reduceLeDiff, Nat.reduceLT, Nat.reduceSub, Int.reduceEq, Int.reduceBEq, Int.reduceLT, Int.reduceLE, Int.reduceAdd, Int.reduceToNat, reduceIte, reduceCtorEq, Jk, List.length_map, List.getElem?_map, hget] | (refine hK _ ?_; clear hK; clear K') | refine And.intro ?_ ?_ | (apply Yd; (focus exact rfl); (focus first | exact hn | exact (Qe _ _ _ zsd zsd)); (focus exact rfl); (focus exact rfl)) | exact zlo | omega | exact zms)
  refine WP _ rfl rfl (by simp only [V.closed, Qq, and_self, and_true, true_and]) ?_; simp only [go_sem, Nat.reduceEqDiff, Nat.reduceAdd, reduceIte, reduceCtorEq]
end Av
end
section
set_option linter.unusedSimpArgs false
set_option linter.unusedVariables false
set_option maxRecDepth 10000
set_option maxHeartbeats 4000000
namespace Av
open Go
attribute [local irreducible] AWp XV WG WJ awS awC VK awQ V4 Jq Xf VH awR Xk awB okR XT ris
def UZ (Qr : Nat) : AC := QR [0, 1] (.reg [mc 4 (V.bool false)]) (QR [4] (.reg [mv 5 0, mv 6 1, cl 7 Qr [5, 6], mv 8 1, bc 9 .sub 8 (V.int 1), bn 10 .eql 7 9, mv 4 10]) (.ret)) def r_make_Dice__One : List XY := [.tmp 4]
def Us (Γ : Env) (f : Nat) : Prop := ∀ (l : List Int) (k : Nat) (n : Int) (hl : l.length ≤ 400) (hk : k ≤ l.length) (h1 : 1 ≤ n) (h2 : n < 2 ^ 62), EvD Γ f [V.int n] (Jk l k) (V.bool ((JR l k n).1 == n - 1)) (Jk l (JR l k n).2)
theorem x7 {Γ : Env} {f Qr : Nat} (h : Has Γ.P f 11 (UZ Qr) r_make_Dice__One) (Qe : Xl Γ Qr) : Us Γ f := by
  intro l k n hl hk h1 h2
  refine WO h (by simp) (by simp only [V.closed, Qq, V.noSl, Yq, and_self, and_true, true_and]) (by first | exact J0 _ _ | simp only [V.closed, Qq, and_self, and_true, true_and]) (by first | exact J0 _ _ | simp only [V.closed, Qq, and_self, and_true, true_and]) fun C hC hm => ?_
  subst hC
  unfold UZ
  have hn := Qe l k n hl hk
  have hw : IntKind.i64.wrap (n - 1) = n - 1 := VL (by omega) (by omega)
  simp only [Jk] at hn
  repeat' (first | refine Qf fun K' hK => ?_ | refine Qi fun K' hK => ?_ | refine Qg ?_ | refine Qh ?_ | refine Qa ?_ | ((first | refine Qk ⟨_, rfl, fun hc => ?_, fun hc => ?_⟩ | refine QM (fun hc => ?_) (fun hc => ?_) | refine QN (fun hc => ?_) (fun hc => ?_)) <;> first | exact Bool.noConfusion hc | ((try simp only [znz] at hc); first | exact znf | skip)) | refine Qo ?_ | refine Qj ?_ | simp (maxSteps := 1000000) only [go_sem, Nat.reduceAdd, Nat.reduceMul, Nat.reduceEqDiff, Nat.reduceLeDiff, Nat.reduceLT, Nat.reduceSub, Int.reduceEq, Int.reduceBEq, Int.reduceLT, Int.reduceLE, Int.reduceAdd, Int.reduceToNat, reduceIte, reduceCtorEq, Jk, hw] | (refine hK _ ?_; clear hK; clear K') | refine And.intro ?_ ?_ | (apply Yd; (focus exact rfl); (focus first | exact hn | exact (Qe _ _ _ zsd zsd)); (focus exact rfl); (focus exact rfl)) | exact zlo | omega | exact zms)
  refine WP _ rfl rfl (by simp only [V.closed, Qq, and_self, and_true, true_and]) ?_; simp only [go_sem, Nat.reduceEqDiff, Nat.reduceAdd, reduceIte, reduceCtorEq]
def aeg (l : List Int) (k : Nat) (xs : List (List UInt8)) : List UInt8 × Nat := (xs.getD (JR l k xs.length).1.toNat [], (JR l k xs.length).2)
def Un (Qr : Nat) : AC := QR [0, 1] (.reg [mc 4 (V.str [])]) (QR [4] (.reg [mv 5 1, mv 6 0, mv 7 1, ln 8 7, cl 9 Qr [6, 8], ia 10 1 5 9, ld 11 1 10, mv 4 11]) (.ret)) def r_make_Dice__Word : List XY := [.tmp 4]
def Uc (Γ : Env) (f : Nat) : Prop := ∀ (l : List Int) (k : Nat) (xs : List (List UInt8)) (hl : l.length ≤ 400) (hk : k ≤ l.length) (hx : 1 ≤ xs.length) (hx2 : xs.length < 2 ^ 62), EvD Γ f [.sl 1 (xs.map V.str)] (Jk l k) (V.str (aeg l k xs).1) (Jk l (aeg l k xs).2)
theorem xp {Γ : Env} {f Qr : Nat} (h : Has Γ.P f 12 (Un Qr) r_make_Dice__Word) (Qe : Xl Γ Qr) : Uc Γ f := by
  intro l k xs hl hk hx hx2
  refine WO h (by simp) (by simp only [V.closed, Qq, V.noSl, Yq, and_self, and_true, true_and]) (by first | exact J0 _ _ | simp only [V.closed, Qq, and_self, and_true, true_and]) (by first | exact J0 _ _ | simp only [V.closed, Qq, and_self, and_true, true_and]) fun C hC hm => ?_
  subst hC
  unfold Un
  have hr := Xr (l := l) (k := k) (n := xs.length) (by omega) (by omega)
  have hget : xs[(JR l k xs.length).1.toNat]? = some (aeg l k xs).1 := by
    have hk : (JR l k xs.length).1.toNat < xs.length := by omega
    simp [aeg, List.getD_eq_getElem?_getD, List.getElem?_eq_getElem hk]
  have hn := Qe l k xs.length hl hk
  have e2 : Jk l (aeg l k xs).2 = Jk l (JR l k xs.length).2 := rfl
  rw [e2]
  simp only [Jk] at hn
  repeat' (first | refine Qf fun K' hK => ?_ | refine Qi fun K' hK => ?_ | refine Qg ?_ | refine Qh ?_ | refine Qa ?_ | ((first | refine Qk ⟨_, rfl, fun hc => ?_, fun hc => ?_⟩ | refine QM (fun hc => ?_) (fun hc => ?_) | refine QN (fun hc => ?_) (fun hc => ?_)) <;> first | exact Bool.noConfusion hc | ((try simp only [znz] at hc); first | exact znf | skip)) | refine Qo ?_ | refine Qj ?_ | simp (maxSteps := 1000000) only [go_sem, Nat.reduceAdd, Nat.reduceMul, Nat.reduceEqDiff, Nat.reduceLeDiff, Nat.reduceLT, Nat.reduceSub, Int.reduceEq, Int.reduceBEq, Int.reduceLT, Int.reduceLE, Int.reduceAdd, Int.reduceToNat, reduceIte, reduceCtorEq, Jk, List.length_map, List.getElem?_map, hget] | (refine hK _ ?_; clear hK; clear K') | refine And.intro ?_ ?_ | (apply Yd; (focus exact rfl); (focus first | exact hn | exact (Qe _ _ _ zsd zsd)); (focus exact rfl); (focus exact rfl)) | exact zlo | omega | exact zms)
  refine WP _ rfl rfl (by simp only [V.closed, Qq, and_self, and_true, true_and]) ?_; simp only [go_sem, Nat.reduceEqDiff, Nat.reduceAdd, reduceIte, reduceCtorEq]
def aha : List (List UInt8) := [[101, 99, 100, 104, 101], [118, 51], [104, 105, 103, 104], [114, 115, 97], [97, 101, 97, 100]]
end Av
end

/- Slices of bytes. -/
import Derived.Test.YtalpffbofjlfgaaGreatDoorK14
import Derived.Test.YtalpffbofjlfgaaGreatDoorK11
import Derived.Test.YtalpffbofjlfgaaGreatDoorK12
set_option linter.unusedVariables false
set_option linter.unusedSimpArgs false
section
set_option linter.unusedSimpArgs false
set_option linter.unusedVariables false
set_option maxRecDepth 10000
set_option maxHeartbeats 4000000
namespace Av
open Go
attribute [local irreducible] AWp Wz WQ W4 awS awC V1 awQ Ue Jc YR VY awR YY awB okR Wt ris
end Av
end
section
set_option linter.unusedSimpArgs false
set_option linter.unusedVariables false
set_option maxRecDepth 10000
set_option maxHeartbeats 4000000
namespace Av
open Go
attribute [local irreducible] AWp Wz WQ W4 awS awC V1 awQ Ue Jc YR VY awR YY awB okR Wt ris
end Av
end
section
set_option linter.unusedSimpArgs false
set_option linter.unusedVariables false
set_option maxRecDepth 10000
set_option maxHeartbeats 4000000
namespace Av
open Go
attribute [local irreducible] AWp Wz WQ W4 awS awC V1 awQ Ue Jc YR VY awR YY awB okR Wt ris
def JJ (l : List Int) (k : Nat) : List V := [.sl 1 (l.map V.int), V.int k]
theorem Jx (l : List Int) (k : Nat) : Qj (JJ l k) := by simp only [JJ, V.closed, Qj, and_self]
def J2 (l : List Int) (k : Nat) (n : Int) : Int × Nat := if k < l.length then (ajQ (l.getD k 0) n, k + 1) else (0, k)
theorem XW {l : List Int} {k : Nat} {n : Int} (hk : k ≤ l.length) : (J2 l k n).2 ≤ l.length := by
  unfold J2; split
  · show k + 1 ≤ l.length; omega
  · exact hk
theorem agS {a n : Int} (h1 : 1 ≤ n) (h2 : n < 2 ^ 62) : 0 ≤ ajQ a n ∧ ajQ a n < n := by
  unfold ajQ
  rw [if_neg (by omega)]
  have ha := Int.tmod_lt_of_pos a (show 0 < n by omega)
  have hb : -n < a.tmod n := by
    have := Int.tmod_lt_of_pos (-a) (show 0 < n by omega)
    rw [Int.neg_tmod] at this; omega
  rw [Wl (by omega) (by omega)]
  exact ⟨Int.tmod_nonneg _ (by omega), Int.tmod_lt_of_pos _ (by omega)⟩
theorem Y0 {l : List Int} {k : Nat} {n : Int} (h1 : 1 ≤ n) (h2 : n < 2 ^ 62) : 0 ≤ (J2 l k n).1 ∧ (J2 l k n).1 < n := by
  unfold J2; split
  · exact agS h1 h2
  · show (0 : Int) ≤ 0 ∧ (0 : Int) < n; omega
def y8 : AC := Qr [0] (.reg [mc 2 (V.bool false)]) (Qr [2] (.reg [mv 3 0, ln 4 3, bc 5 .leq 4 (V.int 400), mv 2 5]) (.ret)) def r_make_Light : List Wc := [.tmp 2]
def yA (Γ : Env) (f : Nat) : Prop := ∀ (l : List Int), EvN Γ f [.sl 1 (l.map V.int)] (V.bool (decide ((l.length : Int) ≤ 400)))
theorem adH {Γ : Env} {f : Nat} (h : Has Γ.P f 6 y8 r_make_Light)  : yA Γ f := by
  intro l
  refine QV h (by simp) (by simp only [V.closed, Qj, V.noSl, Jy, and_self, and_true, true_and]) (by simp only [V.closed, Qj, V.noSl, Jy, and_self, and_true, true_and]) fun C hC hm => ?_
  subst hC
  unfold y8
  repeat' (first | refine Qb fun K' hK => ?_ | refine Qe fun K' hK => ?_ | refine Qc ?_ | refine Qd ?_ | refine Qa ?_ | ((first | refine Qg ⟨_, rfl, fun hc => ?_, fun hc => ?_⟩ | refine QL (fun hc => ?_) (fun hc => ?_) | refine QM (fun hc => ?_) (fun hc => ?_)) <;> first | exact Bool.noConfusion hc | ((try simp only [znz] at hc); first | exact znf | skip)) | refine Qi ?_ | refine Qf ?_ | simp (maxSteps := 1000000) only [go_sem, Nat.reduceAdd, Nat.reduceMul, Nat.reduceEqDiff, Nat.reduceLeDiff, Nat.reduceLT, Nat.reduceSub, Int.reduceEq, Int.reduceBEq, Int.reduceLT, Int.reduceLE, Int.reduceAdd, Int.reduceToNat, reduceIte, reduceCtorEq, List.length_map] | (refine hK _ ?_; clear hK; clear K') | refine And.intro ?_ ?_ | exact zlo | omega | exact zms)
  refine Jb _ rfl ?_; simp only [go_sem, Nat.reduceEqDiff, Nat.reduceAdd, reduceIte, reduceCtorEq]
def wI : AC := Qr [0] (.reg [mc 2 (.sc (.pointer none))]) (Qr [2] (.reg [mv 3 0, xo 4 (.build [(.slice none 0 0), (.int .i64 0)] [(0, 1, (.t 3))]), xo 5 (.box true 2 (.t 4)), mv 2 5]) (.ret)) def r_make_Roll : List Wc := [.tmp 2]
def xm (Γ : Env) (f : Nat) : Prop := ∀ (l : List Int), EvR Γ f [.sl 1 (l.map V.int)] (JJ l 0)
theorem aeC {Γ : Env} {f : Nat} (h : Has Γ.P f 6 wI r_make_Roll)  : xm Γ f := by
  intro l
  refine afr h (by simp) (by simp only [JJ, V.closed, Qj, and_self]) fun C hC hm => ?_
  subst hC
  unfold wI
  repeat' (first | refine Qb fun K' hK => ?_ | refine Qe fun K' hK => ?_ | refine Qc ?_ | refine Qd ?_ | refine Qa ?_ | ((first | refine Qg ⟨_, rfl, fun hc => ?_, fun hc => ?_⟩ | refine QL (fun hc => ?_) (fun hc => ?_) | refine QM (fun hc => ?_) (fun hc => ?_)) <;> first | exact Bool.noConfusion hc | ((try simp only [znz] at hc); first | exact znf | skip)) | refine Qi ?_ | refine Qf ?_ | simp (maxSteps := 1000000) only [go_sem, Nat.reduceAdd, Nat.reduceMul, Nat.reduceEqDiff, Nat.reduceLeDiff, Nat.reduceLT, Nat.reduceSub, Int.reduceEq, Int.reduceBEq, Int.reduceLT, Int.reduceLE, Int.reduceAdd, Int.reduceToNat, reduceIte, reduceCtorEq] | (refine hK _ ?_; clear hK; clear K') | refine And.intro ?_ ?_ | exact zlo | omega | exact zms)
  refine ald _ rfl rfl (by simp only [JJ, V.closed, Qj, and_self])
def UO : List AO := [mv 5 0, nk 6 5, fa 7 1 6, ld 8 1 7, mv 9 0, nk 10 9, fa 11 0 10, ld 12 1 11, ln 13 12, bn 14 .geq 8 13]
def UU : List (List Nat) := [[], [0], [1], [2], [], [4], [5], [6], [7], [3, 8]]
def UK : OT := .one 0 (.one 1 (.one 2 (.one 3 (.one 4 (.one 5 (.one 6 (.one 7 (.one 8 (.one 9 (.done))))))))))
def Vb : OP := .one 0 false [] (mv 5 0) (.one 1 false [] (nk 6 5) (.one 2 false [] (fa 7 1 6) (.one 3 false [] (ld 8 1 7) (.one 4 false [] (mv 9 0) (.one 5 false [] (nk 10 9) (.one 6 false [] (fa 11 0 10) (.one 7 false [] (ld 12 1 11) (.one 8 false [] (ln 13 12) (.one 9 false [] (bn 14 .geq 8 13) (.done))))))))))
theorem Ve : okR (UO) UU [] UK = true := by kernel_rfl
theorem W9 : Wt (ris (UO) UU []) UK = Vb := by kernel_rfl
def UN (Wg : Nat) : List AO := [mv 22 0, nk 23 22, fa 24 0 23, ld 25 1 24, mv 26 0, nk 27 26, fa 28 1 27, ld 29 1 28, bc 30 .sub 29 (V.int 1), ia 31 1 25 30, ld 32 1 31, mv 33 1, cl 34 Wg [32, 33], mv 4 34]
def UT : List (List Nat) := [[], [0], [1], [2], [], [4], [5], [6], [7], [3, 8], [9], [], [10, 11], [12, 12, 0, 1, 2, 3, 4, 5, 6, 7, 8, 9, 10, 11, 12]]
def UJ : OT := .one 0 (.one 1 (.one 2 (.one 3 (.one 4 (.one 5 (.one 6 (.one 7 (.one 8 (.one 9 (.one 10 (.one 11 (.one 12 (.one 13 (.done))))))))))))))
def Va (Wg : Nat) : OP := .one 0 false [] (mv 22 0) (.one 1 false [] (nk 23 22) (.one 2 false [] (fa 24 0 23) (.one 3 false [] (ld 25 1 24) (.one 4 false [] (mv 26 0) (.one 5 false [] (nk 27 26) (.one 6 false [] (fa 28 1 27) (.one 7 false [] (ld 29 1 28) (.one 8 false [] (bc 30 .sub 29 (V.int 1)) (.one 9 false [] (ia 31 1 25 30) (.one 10 false [] (ld 32 1 31) (.one 11 false [] (mv 33 1) (.one 12 false [] (cl 34 Wg [32, 33]) (.one 13 false [12] (mv 4 34) (.done))))))))))))))
theorem Vd (Wg : Nat) : okR (UN Wg) UT [] UJ = true := by kernel_rfl
theorem W8 (Wg : Nat) : Wt (ris (UN Wg) UT []) UJ = Va Wg := by kernel_rfl def c_make_Dice__Next (Wg : Nat) : AC := Qr [0, 1] (.reg [mc 4 (V.int 0)]) (Qr [0, 1] (Qr [0, 1, 14] (acq [] UK (Vb) (UO) UU) (.cond (.t 14) (Qr [4] (.reg [mc 4 (V.int 0)]) (.ret)) (.skip))) (Qr [0, 1] (.reg [mv 15 0, nk 16 15, fa 17 1 16, ld 18 1 17, bc 19 .add 18 (V.int 1), nk 20 15, fa 21 1 20, xs 1 21 19]) (Qr [4] (acq [] UJ (Va Wg) (UN Wg) UT) (.ret)))) def r_make_Dice__Next : List Wc := [.tmp 4]
def Yy (Γ : Env) (f : Nat) : Prop := ∀ (l : List Int) (k : Nat) (n : Int) (hl : l.length ≤ 400) (hk : k ≤ l.length), EvD Γ f [V.int n] (JJ l k) (V.int (J2 l k n).1) (JJ l (J2 l k n).2)
theorem vD {Γ : Env} {f Wg : Nat} (h : Has Γ.P f 35 (c_make_Dice__Next Wg) r_make_Dice__Next) (ac4 : wK Γ Wg) : Yy Γ f := by
  intro l k n hl hk
  refine VU h (by simp) (by simp only [V.closed, Qj, V.noSl, Jy, and_self, and_true, true_and]) (by first | exact Jx _ _ | simp only [V.closed, Qj, and_self, and_true, true_and]) (by first | exact Jx _ _ | simp only [V.closed, Qj, and_self, and_true, true_and]) fun C hC hm => ?_
  subst hC
  unfold c_make_Dice__Next
  by_cases h1 : k < l.length
  · have e1 : decide ((k : Int) ≥ (((l.map V.int).length : Nat) : Int)) = false := by simp; omega
    have hget : l[k]? = some (l.getD k 0) := by simp [List.getD_eq_getElem?_getD, List.getElem?_eq_getElem h1]
    have hw := JS (k := k) (by omega)
    have hw2 : IntKind.i64.wrap (((k + 1 : Nat) : Int) - 1) = (k : Int) := by rw [Wl (by omega) (by omega)]; omega
    have hn : J2 l k n = (ajQ (l.getD k 0) n, k + 1) := by rw [J2, if_pos h1]
    rw [hn]
    repeat' (first | refine Qb fun K' hK => ?_ | refine Qe fun K' hK => ?_ | refine Qp 10 (fun _ => true) rfl (Ve) (W9) fun K' hK => ?_ | refine Qq 10 (fun _ => true) rfl (Ve) (W9) fun K' hK => ?_ | refine Qp 14 (fun _ => true) rfl (Vd _) (W8 _) fun K' hK => ?_ | refine Qq 14 (fun _ => true) rfl (Vd _) (W8 _) fun K' hK => ?_ | refine Qc ?_ | refine Qd ?_ | refine Qa ?_ | ((first | refine Qg ⟨_, rfl, fun hc => ?_, fun hc => ?_⟩ | refine QL (fun hc => ?_) (fun hc => ?_) | refine QM (fun hc => ?_) (fun hc => ?_)) <;> first | exact Bool.noConfusion hc | ((try simp only [znz] at hc); first | exact znf | skip)) | refine Qi ?_ | refine Qf ?_ | simp (maxSteps := 1000000) only [go_sem, Nat.reduceAdd, Nat.reduceMul, Nat.reduceEqDiff, Nat.reduceLeDiff, Nat.reduceLT, Nat.reduceSub, Int.reduceEq, Int.reduceBEq, Int.reduceLT, Int.reduceLE, Int.reduceAdd, Int.reduceToNat, reduceIte, reduceCtorEq, JJ, e1, hw, hw2, Int.toNat_natCast, List.getElem?_map, hget, Vb, Va] | (refine hK _ ?_; clear hK; clear K') | refine And.intro ?_ ?_ | ((first | apply QX | apply YB); (focus first | exact (ac4 _ _).b)) | exact zlo | omega | exact zms)
    all_goals (refine jA _ rfl rfl (by simp only [V.closed, Qj, and_self, and_true, true_and]) ?_; simp only [go_sem, Nat.reduceEqDiff, Nat.reduceAdd, reduceIte, reduceCtorEq])
  · have e1 : decide ((k : Int) ≥ (((l.map V.int).length : Nat) : Int)) = true := by simp; omega
    have hn : J2 l k n = (0, k) := by rw [J2, if_neg h1]
    rw [hn]
    repeat' (first | refine Qb fun K' hK => ?_ | refine Qe fun K' hK => ?_ | refine Qp 10 (fun _ => true) rfl (Ve) (W9) fun K' hK => ?_ | refine Qq 10 (fun _ => true) rfl (Ve) (W9) fun K' hK => ?_ | refine Qp 14 (fun _ => true) rfl (Vd _) (W8 _) fun K' hK => ?_ | refine Qq 14 (fun _ => true) rfl (Vd _) (W8 _) fun K' hK => ?_ | refine Qc ?_ | refine Qd ?_ | refine Qa ?_ | ((first | refine Qg ⟨_, rfl, fun hc => ?_, fun hc => ?_⟩ | refine QL (fun hc => ?_) (fun hc => ?_) | refine QM (fun hc => ?_) (fun hc => ?_)) <;> first | exact Bool.noConfusion hc | ((try simp only [znz] at hc); first | exact znf | skip)) | refine Qi ?_ | refine Qf ?_ | simp (maxSteps := 1000000) only [go_sem, Nat.reduceAdd, Nat.reduceMul, Nat.reduceEqDiff, Nat.reduceLeDiff, Nat.reduceLT, Nat.reduceSub, Int.reduceEq, Int.reduceBEq, Int.reduceLT, Int.reduceLE, Int.reduceAdd, Int.reduceToNat, reduceIte, reduceCtorEq, JJ, e1, Vb, Va] | (refine hK _ ?_; clear hK; clear K') | refine And.intro ?_ ?_ | ((first | apply QX | apply YB); (focus first | exact (ac4 _ _).b)) | exact zlo | omega | exact zms)
    all_goals (refine jA _ rfl rfl (by simp only [V.closed, Qj, and_self, and_true, true_and]) ?_; simp only [go_sem, Nat.reduceEqDiff, Nat.reduceAdd, reduceIte, reduceCtorEq])
def ofD (l : List Int) (k : Nat) (xs : List Int) : Int × Nat := (xs.getD (J2 l k xs.length).1.toNat 0, (J2 l k xs.length).2)
theorem ahY {l : List Int} {k : Nat} {xs : List Int} (h : xs ≠ []) (h2 : xs.length < 2 ^ 62) : (ofD l k xs).1 ∈ xs := by
  have h1 : 1 ≤ xs.length := by cases xs with | nil => exact (h rfl).elim | cons _ _ => simp
  have := Y0 (l := l) (k := k) (n := xs.length) (by omega) (by omega)
  have hk : (J2 l k xs.length).1.toNat < xs.length := by omega
  unfold ofD
  simp only [List.getD_eq_getElem?_getD, List.getElem?_eq_getElem hk, Option.getD_some]
  exact List.getElem_mem hk
theorem afX {l : List Int} {k : Nat} {xs : List Int} (hk : k ≤ l.length) : (ofD l k xs).2 ≤ l.length := XW hk
def q9 (Qn : Nat) : AC := Qr [0, 1] (.reg [mc 4 (V.int 0)]) (Qr [4] (.reg [mv 5 1, mv 6 0, mv 7 1, ln 8 7, cl 9 Qn [6, 8], ia 10 1 5 9, ld 11 1 10, mv 4 11]) (.ret)) def r_make_Dice__Of : List Wc := [.tmp 4]
def Vy (Γ : Env) (f : Nat) : Prop := ∀ (l : List Int) (k : Nat) (xs : List Int) (hl : l.length ≤ 400) (hk : k ≤ l.length) (hx : 1 ≤ xs.length) (hx2 : xs.length < 2 ^ 62), EvD Γ f [.sl 1 (xs.map V.int)] (JJ l k) (V.int (ofD l k xs).1) (JJ l (ofD l k xs).2)
theorem abg {Γ : Env} {f Qn : Nat} (h : Has Γ.P f 12 (q9 Qn) r_make_Dice__Of) (Qh : Yy Γ Qn) : Vy Γ f := by
  intro l k xs hl hk hx hx2
  refine VU h (by simp) (by simp only [V.closed, Qj, V.noSl, Jy, and_self, and_true, true_and]) (by first | exact Jx _ _ | simp only [V.closed, Qj, and_self, and_true, true_and]) (by first | exact Jx _ _ | simp only [V.closed, Qj, and_self, and_true, true_and]) fun C hC hm => ?_
  subst hC
  unfold q9
  have hr := Y0 (l := l) (k := k) (n := xs.length) (by omega) (by omega)
  have hget : xs[(J2 l k xs.length).1.toNat]? = some (ofD l k xs).1 := by
    have hk : (J2 l k xs.length).1.toNat < xs.length := by omega
    simp [ofD, List.getD_eq_getElem?_getD, List.getElem?_eq_getElem hk]
  have hn := Qh l k xs.length hl hk
  have e2 : JJ l (ofD l k xs).2 = JJ l (J2 l k xs.length).2 := rfl
  rw [e2]
  simp only [JJ] at hn
  repeat' (first | refine Qb fun K' hK => ?_ | refine Qe fun K' hK => ?_ | refine Qc ?_ | refine Qd ?_ | refine Qa ?_ | ((first | refine Qg ⟨_, rfl, fun hc => ?_, fun hc => ?_⟩ | refine QL (fun hc => ?_) (fun hc => ?_) | refine QM (fun hc => ?_) (fun hc => ?_)) <;> first | exact Bool.noConfusion hc | ((try simp only [znz] at hc); first | exact znf | skip)) | refine Qi ?_ | refine Qf ?_ | simp (maxSteps := 1000000) only [go_sem, Nat.reduceAdd, Nat.reduceMul, Nat.reduceEqDiff, Nat.reduceLeDiff, Nat.reduceLT, Nat.reduceSub, Int.reduceEq, Int.reduceBEq, Int.reduceLT, Int.reduceLE, Int.reduceAdd, Int.reduceToNat, reduceIte, reduceCtorEq, JJ, List.length_map, List.getElem?_map, hget] | (refine hK _ ?_; clear hK; clear K') | refine And.intro ?_ ?_ | (apply XS; (focus exact rfl); (focus first | exact hn | exact (Qh _ _ _ zsd zsd)); (focus exact rfl); (focus exact rfl)) | exact zlo | omega | exact zms)
  refine jA _ rfl rfl (by simp only [V.closed, Qj, and_self, and_true, true_and]) ?_; simp only [go_sem, Nat.reduceEqDiff, Nat.reduceAdd, reduceIte, reduceCtorEq]
def j5 (a : Int) : List Int :=
  if a = 5 ∨ a = 6 ∨ a = 10 ∨ a = 11 then [2048, 1024, 512, 3072, 1023, 4096, 16384]
  else if a = 7 ∨ a = 12 then [256, 160, 224, 384, 521]
  else if a = 9 then [65, 44, 87]
  else if a = 13 then [768, 512, 1024]
  else if a = 14 then [128, 40]
  else if a = 15 then [168, 112]
  else if a = 16 ∨ a = 17 then [128, 256]
  else []
def aaa (l : List Int) (k : Nat) (a : Int) : Int × Nat := if j5 a = [] then (0, k) else ofD l k (j5 a)
def wH (QH : Nat) : AC := Qr [0, 1] (.reg [mc 4 (V.int 0)]) (Qr [] (Qr [0, 5] (.reg [mv 5 1]) (.block 0 (Qr [0, 5, 6] (Qr [0, 5, 6] (.reg [bc 7 .eql 5 (V.int 5), mv 6 7]) (.cond (.t 6) (.skip) (Qr [0, 5, 6] (.reg [bc 8 .eql 5 (V.int 6), mv 6 8]) (.cond (.t 6) (.skip) (Qr [0, 5, 6] (.reg [bc 9 .eql 5 (V.int 10), mv 6 9]) (.cond (.t 6) (.skip) (.reg [bc 10 .eql 5 (V.int 11), mv 6 10]))))))) (.cond (.t 6) (Qr [4] (.reg [mv 11 0, xo 12 (.bslice 7 1 false [(.int .i64 0)] [(0, (.c (V.int 2048))), (1, (.c (V.int 1024))), (2, (.c (V.int 512))), (3, (.c (V.int 3072))), (4, (.c (V.int 1023))), (5, (.c (V.int 4096))), (6, (.c (V.int 16384)))]), cl 13 QH [11, 12], mv 4 13]) (.ret)) (Qr [0, 5, 14] (Qr [0, 5, 14] (.reg [bc 15 .eql 5 (V.int 7), mv 14 15]) (.cond (.t 14) (.skip) (.reg [bc 16 .eql 5 (V.int 12), mv 14 16]))) (.cond (.t 14) (Qr [4] (.reg [mv 17 0, xo 18 (.bslice 5 1 false [(.int .i64 0)] [(0, (.c (V.int 256))), (1, (.c (V.int 160))), (2, (.c (V.int 224))), (3, (.c (V.int 384))), (4, (.c (V.int 521)))]), cl 19 QH [17, 18], mv 4 19]) (.ret)) (Qr [0, 5, 20] (.reg [bc 21 .eql 5 (V.int 9), mv 20 21]) (.cond (.t 20) (Qr [4] (.reg [mv 22 0, xo 23 (.bslice 3 1 false [(.int .i64 0)] [(0, (.c (V.int 65))), (1, (.c (V.int 44))), (2, (.c (V.int 87)))]), cl 24 QH [22, 23], mv 4 24]) (.ret)) (Qr [0, 5, 25] (.reg [bc 26 .eql 5 (V.int 13), mv 25 26]) (.cond (.t 25) (Qr [4] (.reg [mv 27 0, xo 28 (.bslice 3 1 false [(.int .i64 0)] [(0, (.c (V.int 768))), (1, (.c (V.int 512))), (2, (.c (V.int 1024)))]), cl 29 QH [27, 28], mv 4 29]) (.ret)) (Qr [0, 5, 30] (.reg [bc 31 .eql 5 (V.int 14), mv 30 31]) (.cond (.t 30) (Qr [4] (.reg [mv 32 0, xo 33 (.bslice 2 1 false [(.int .i64 0)] [(0, (.c (V.int 128))), (1, (.c (V.int 40)))]), cl 34 QH [32, 33], mv 4 34]) (.ret)) (Qr [0, 5, 35] (.reg [bc 36 .eql 5 (V.int 15), mv 35 36]) (.cond (.t 35) (Qr [4] (.reg [mv 37 0, xo 38 (.bslice 2 1 false [(.int .i64 0)] [(0, (.c (V.int 168))), (1, (.c (V.int 112)))]), cl 39 QH [37, 38], mv 4 39]) (.ret)) (Qr [0, 40] (Qr [0, 5, 40] (.reg [bc 41 .eql 5 (V.int 16), mv 40 41]) (.cond (.t 40) (.skip) (.reg [bc 42 .eql 5 (V.int 17), mv 40 42]))) (.cond (.t 40) (Qr [4] (.reg [mv 43 0, xo 44 (.bslice 2 1 false [(.int .i64 0)] [(0, (.c (V.int 128))), (1, (.c (V.int 256)))]), cl 45 QH [43, 44], mv 4 45]) (.ret)) (.skip))))))))))))))))) (Qr [4] (.reg [mc 4 (V.int 0)]) (.ret))) def r_make_size : List Wc := [.tmp 4]
def xl (Γ : Env) (f : Nat) : Prop := ∀ (l : List Int) (k : Nat) (a : Int) (hl : l.length ≤ 400) (hk : k ≤ l.length), EvD Γ f [V.int a] (JJ l k) (V.int (aaa l k a).1) (JJ l (aaa l k a).2)
theorem aeB {Γ : Env} {f QH : Nat} (h : Has Γ.P f 46 (wH QH) r_make_size) (QC : Vy Γ QH) : xl Γ f := by
  intro l k a hl hk
  refine VU h (by simp) (by simp only [V.closed, Qj, V.noSl, Jy, and_self, and_true, true_and]) (by first | exact Jx _ _ | simp only [V.closed, Qj, and_self, and_true, true_and]) (by first | exact Jx _ _ | simp only [V.closed, Qj, and_self, and_true, true_and]) fun C hC hm => ?_
  subst hC
  unfold wH
  have o1 := QC l k [2048, 1024, 512, 3072, 1023, 4096, 16384] hl hk (by simp) (by simp)
  have o2 := QC l k [256, 160, 224, 384, 521] hl hk (by simp) (by simp)
  have o3 := QC l k [65, 44, 87] hl hk (by simp) (by simp)
  have o4 := QC l k [768, 512, 1024] hl hk (by simp) (by simp)
  have o5 := QC l k [128, 40] hl hk (by simp) (by simp)
  have o6 := QC l k [168, 112] hl hk (by simp) (by simp)
  have o7 := QC l k [128, 256] hl hk (by simp) (by simp)
  simp only [JJ] at o1 o2 o3 o4 o5 o6 o7
  repeat' (first | refine Qb fun K' hK => ?_ | refine Qe fun K' hK => ?_ | refine Qc ?_ | refine Qd ?_ | refine Qa ?_ | ((first | refine Qg ⟨_, rfl, fun hc => ?_, fun hc => ?_⟩ | refine QL (fun hc => ?_) (fun hc => ?_) | refine QM (fun hc => ?_) (fun hc => ?_)) <;> first | exact Bool.noConfusion hc | ((try simp only [znz] at hc); first | exact znf | skip)) | refine Qi ?_ | refine Qf ?_ | simp (maxSteps := 1000000) only [go_sem, Nat.reduceAdd, Nat.reduceMul, Nat.reduceEqDiff, Nat.reduceLeDiff, Nat.reduceLT, Nat.reduceSub, Int.reduceEq, Int.reduceBEq, Int.reduceLT, Int.reduceLE, Int.reduceAdd, Int.reduceToNat, reduceIte, reduceCtorEq, JJ] | (refine hK _ ?_; clear hK; clear K') | refine And.intro ?_ ?_ | (apply XS; (focus exact rfl); (focus first | exact o1 | exact o2 | exact o3 | exact o4 | exact o5 | exact o6 | exact o7 | exact (QC _ _ _ zsd zsd zsd zsd)); (focus exact rfl); (focus exact rfl)) | exact zlo | omega | exact zms)
  all_goals (first | subst hc | skip)
  all_goals first
    | (have es : aaa l k 5 = ofD l k [2048, 1024, 512, 3072, 1023, 4096, 16384] := rfl
       rw [es]; refine jA _ rfl rfl (by simp only [V.closed, Qj, and_self, and_true, true_and]) ?_; simp only [go_sem, Nat.reduceEqDiff, Nat.reduceAdd, reduceIte, reduceCtorEq]; done)
    | (simp only [show ∀ x, aaa l k x = if j5 x = [] then (0, k) else ofD l k (j5 x) from fun _ => rfl]
       simp only [j5, Int.reduceEq, reduceIte, or_self, or_true, or_false, true_or, false_or, reduceCtorEq, *]
       refine jA _ rfl rfl (by simp only [V.closed, Qj, and_self, and_true, true_and]) ?_; simp only [go_sem, Nat.reduceEqDiff, Nat.reduceAdd, reduceIte, reduceCtorEq]; done)
    | trace_state
def aj9 (l : List Int) (k : Nat) : (Int × Int) × Nat := ((1 + (J2 l k 22).1, (aaa l (J2 l k 22).2 (1 + (J2 l k 22).1)).1), (aaa l (J2 l k 22).2 (1 + (J2 l k 22).1)).2)
def aaJ (Qn yk : Nat) : AC := Qr [0, 2] (.reg [xo 2 (.alloc [.val (.int .i64 0), .val (.int .i64 0)])]) (Qr [0, 2, 3] (.reg [mv 4 0, xo 5 (.call Qn [(.t 4), (.c (V.int 22))]), xo 6 (.bin .add (.c (V.int 1)) (.t 5)), mv 3 6]) (Qr [2] (.reg [mv 7 3, mv 8 0, mv 9 3, cl 10 yk [8, 9], xo 11 (.build [(.int .i64 0), (.int .i64 0)] [(0, 1, (.t 7)), (1, 1, (.t 10))]), xs 2 2 11]) (.ret))) def r_make_Use : List Wc := [.cell 2 true 2]
def wJ (Γ : Env) (f : Nat) : Prop := ∀ (l : List Int) (k : Nat) (hl : l.length ≤ 400) (hk : k ≤ l.length), EvD Γ f [] (JJ l k) (.agg [V.int (aj9 l k).1.1, V.int (aj9 l k).1.2]) (JJ l (aj9 l k).2)
theorem afn {Γ : Env} {f Qn yk : Nat} (h : Has Γ.P f 12 (aaJ Qn yk) r_make_Use) (Qh : Yy Γ Qn) (abW : xl Γ yk) : wJ Γ f := by
  intro l k hl hk
  refine VU h (by simp) (by simp only [V.closed, Qj, V.noSl, Jy, and_self, and_true, true_and]) (by first | exact Jx _ _ | simp only [V.closed, Qj, and_self, and_true, true_and]) (by first | exact Jx _ _ | simp only [V.closed, Qj, and_self, and_true, true_and]) fun C hC hm => ?_
  subst hC
  unfold aaJ
  have hr := Y0 (l := l) (k := k) (n := 22) (by omega) (by omega)
  have hle := XW (n := 22) hk
  have hw : IntKind.i64.wrap (1 + (J2 l k 22).1) = 1 + (J2 l k 22).1 := Wl (by omega) (by omega)
  have n1 := Qh l k 22 hl hk
  have n2 := abW l (J2 l k 22).2 (1 + (J2 l k 22).1) hl hle
  simp only [JJ] at n1 n2
  repeat' (first | refine Qb fun K' hK => ?_ | refine Qe fun K' hK => ?_ | refine Qc ?_ | refine Qd ?_ | refine Qa ?_ | ((first | refine Qg ⟨_, rfl, fun hc => ?_, fun hc => ?_⟩ | refine QL (fun hc => ?_) (fun hc => ?_) | refine QM (fun hc => ?_) (fun hc => ?_)) <;> first | exact Bool.noConfusion hc | ((try simp only [znz] at hc); first | exact znf | skip)) | refine Qi ?_ | refine Qf ?_ | simp (maxSteps := 1000000) only [go_sem, Nat.reduceAdd, Nat.reduceMul, Nat.reduceEqDiff, Nat.reduceLeDiff, Nat.reduceLT, Nat.reduceSub, Int.reduceEq, Int.reduceBEq, Int.reduceLT, Int.reduceLE, Int.reduceAdd, Int.reduceToNat, reduceIte, reduceCtorEq, JJ, hw] | (refine hK _ ?_; clear hK; clear K') | refine And.intro ?_ ?_ | (apply XS; (focus exact rfl); (focus first | exact n1 | exact n2 | exact (Qh _ _ _ zsd zsd) | exact (abW _ _ _ zsd zsd)); (focus exact rfl); (focus exact rfl)) | exact zlo | omega | exact zms)
  refine jA _ rfl rfl (by simp only [V.closed, Qj, and_self, and_true, true_and]) ?_; simp only [go_sem, Nat.reduceEqDiff, Nat.reduceAdd, reduceIte, reduceCtorEq]
  simp only [aj9, and_self]
end Av
end
section
set_option linter.unusedSimpArgs false
set_option linter.unusedVariables false
set_option maxRecDepth 10000
set_option maxHeartbeats 4000000
namespace Av
open Go
attribute [local irreducible] AWp Wz WQ W4 awS awC V1 awQ Ue Jc YR VY awR YY awB okR Wt ris
def qC (Qn : Nat) : AC := Qr [0, 1] (.reg [mc 4 (V.bool false)]) (Qr [4] (.reg [mv 5 0, mv 6 1, cl 7 Qn [5, 6], mv 8 1, bc 9 .sub 8 (V.int 1), bn 10 .eql 7 9, mv 4 10]) (.ret)) def r_make_Dice__One : List Wc := [.tmp 4]
def W3 (Γ : Env) (f : Nat) : Prop := ∀ (l : List Int) (k : Nat) (n : Int) (hl : l.length ≤ 400) (hk : k ≤ l.length) (h1 : 1 ≤ n) (h2 : n < 2 ^ 62), EvD Γ f [V.int n] (JJ l k) (V.bool ((J2 l k n).1 == n - 1)) (JJ l (J2 l k n).2)
theorem aaF {Γ : Env} {f Qn : Nat} (h : Has Γ.P f 11 (qC Qn) r_make_Dice__One) (Qh : Yy Γ Qn) : W3 Γ f := by
  intro l k n hl hk h1 h2
  refine VU h (by simp) (by simp only [V.closed, Qj, V.noSl, Jy, and_self, and_true, true_and]) (by first | exact Jx _ _ | simp only [V.closed, Qj, and_self, and_true, true_and]) (by first | exact Jx _ _ | simp only [V.closed, Qj, and_self, and_true, true_and]) fun C hC hm => ?_
  subst hC
  unfold qC
  have hn := Qh l k n hl hk
  have hw : IntKind.i64.wrap (n - 1) = n - 1 := Wl (by omega) (by omega)
  simp only [JJ] at hn
  repeat' (first | refine Qb fun K' hK => ?_ | refine Qe fun K' hK => ?_ | refine Qc ?_ | refine Qd ?_ | refine Qa ?_ | ((first | refine Qg ⟨_, rfl, fun hc => ?_, fun hc => ?_⟩ | refine QL (fun hc => ?_) (fun hc => ?_) | refine QM (fun hc => ?_) (fun hc => ?_)) <;> first | exact Bool.noConfusion hc | ((try simp only [znz] at hc); first | exact znf | skip)) | refine Qi ?_ | refine Qf ?_ | simp (maxSteps := 1000000) only [go_sem, Nat.reduceAdd, Nat.reduceMul, Nat.reduceEqDiff, Nat.reduceLeDiff, Nat.reduceLT, Nat.reduceSub, Int.reduceEq, Int.reduceBEq, Int.reduceLT, Int.reduceLE, Int.reduceAdd, Int.reduceToNat, reduceIte, reduceCtorEq, JJ, hw] | (refine hK _ ?_; clear hK; clear K') | refine And.intro ?_ ?_ | (apply XS; (focus exact rfl); (focus first | exact hn | exact (Qh _ _ _ zsd zsd)); (focus exact rfl); (focus exact rfl)) | exact zlo | omega | exact zms)
  refine jA _ rfl rfl (by simp only [V.closed, Qj, and_self, and_true, true_and]) ?_; simp only [go_sem, Nat.reduceEqDiff, Nat.reduceAdd, reduceIte, reduceCtorEq]
def aa1 (l : List Int) (k : Nat) (xs : List (List UInt8)) : List UInt8 × Nat := (xs.getD (J2 l k xs.length).1.toNat [], (J2 l k xs.length).2)
theorem aby {l : List Int} {k : Nat} {xs : List (List UInt8)} (h1 : 1 ≤ xs.length) (h2 : xs.length < 2 ^ 62) : (aa1 l k xs).1 ∈ xs := by
  have := Y0 (l := l) (k := k) (n := xs.length) (by omega) (by omega)
  have hk : (J2 l k xs.length).1.toNat < xs.length := by omega
  unfold aa1
  simp only [List.getD_eq_getElem?_getD, List.getElem?_eq_getElem hk, Option.getD_some]
  exact List.getElem_mem hk
theorem adi {l : List Int} {k : Nat} {xs : List (List UInt8)} (hk : k ≤ l.length) : (aa1 l k xs).2 ≤ l.length := XW hk
def KZ (Qn : Nat) : AC := Qr [0, 1] (.reg [mc 4 (V.str [])]) (Qr [4] (.reg [mv 5 1, mv 6 0, mv 7 1, ln 8 7, cl 9 Qn [6, 8], ia 10 1 5 9, ld 11 1 10, mv 4 11]) (.ret)) def r_make_Dice__Word : List Wc := [.tmp 4]
def VK (Γ : Env) (f : Nat) : Prop := ∀ (l : List Int) (k : Nat) (xs : List (List UInt8)) (hl : l.length ≤ 400) (hk : k ≤ l.length) (hx : 1 ≤ xs.length) (hx2 : xs.length < 2 ^ 62), EvD Γ f [.sl 1 (xs.map V.str)] (JJ l k) (V.str (aa1 l k xs).1) (JJ l (aa1 l k xs).2)
theorem vC {Γ : Env} {f Qn : Nat} (h : Has Γ.P f 12 (KZ Qn) r_make_Dice__Word) (Qh : Yy Γ Qn) : VK Γ f := by
  intro l k xs hl hk hx hx2
  refine VU h (by simp) (by simp only [V.closed, Qj, V.noSl, Jy, and_self, and_true, true_and]) (by first | exact Jx _ _ | simp only [V.closed, Qj, and_self, and_true, true_and]) (by first | exact Jx _ _ | simp only [V.closed, Qj, and_self, and_true, true_and]) fun C hC hm => ?_
  subst hC
  unfold KZ
  have hr := Y0 (l := l) (k := k) (n := xs.length) (by omega) (by omega)
  have hget : xs[(J2 l k xs.length).1.toNat]? = some (aa1 l k xs).1 := by
    have hk : (J2 l k xs.length).1.toNat < xs.length := by omega
    simp [aa1, List.getD_eq_getElem?_getD, List.getElem?_eq_getElem hk]
  have hn := Qh l k xs.length hl hk
  have e2 : JJ l (aa1 l k xs).2 = JJ l (J2 l k xs.length).2 := rfl
  rw [e2]
  simp only [JJ] at hn
  repeat' (first | refine Qb fun K' hK => ?_ | refine Qe fun K' hK => ?_ | refine Qc ?_ | refine Qd ?_ | refine Qa ?_ | ((first | refine Qg ⟨_, rfl, fun hc => ?_, fun hc => ?_⟩ | refine QL (fun hc => ?_) (fun hc => ?_) | refine QM (fun hc => ?_) (fun hc => ?_)) <;> first | exact Bool.noConfusion hc | ((try simp only [znz] at hc); first | exact znf | skip)) | refine Qi ?_ | refine Qf ?_ | simp (maxSteps := 1000000) only [go_sem, Nat.reduceAdd, Nat.reduceMul, Nat.reduceEqDiff, Nat.reduceLeDiff, Nat.reduceLT, Nat.reduceSub, Int.reduceEq, Int.reduceBEq, Int.reduceLT, Int.reduceLE, Int.reduceAdd, Int.reduceToNat, reduceIte, reduceCtorEq, JJ, List.length_map, List.getElem?_map, hget] | (refine hK _ ?_; clear hK; clear K') | refine And.intro ?_ ?_ | (apply XS; (focus exact rfl); (focus first | exact hn | exact (Qh _ _ _ zsd zsd)); (focus exact rfl); (focus exact rfl)) | exact zlo | omega | exact zms)
  refine jA _ rfl rfl (by simp only [V.closed, Qj, and_self, and_true, true_and]) ?_; simp only [go_sem, Nat.reduceEqDiff, Nat.reduceAdd, reduceIte, reduceCtorEq]
def ajP : List (List UInt8) := [[101, 99, 100, 104, 101], [118, 51], [104, 105, 103, 104], [114, 115, 97], [97, 101, 97, 100]]
end Av
end
section
set_option linter.unusedSimpArgs false
set_option linter.unusedVariables false
set_option maxRecDepth 10000
set_option maxHeartbeats 4000000
namespace Av
open Go
attribute [local irreducible] AWp Wz WQ W4 awS awC V1 awQ Ue Jc YR VY awR YY awB okR Wt ris
theorem ake (s : List UInt8) : (alJ s).2 = (Vo 43 s).all af2 := by
  unfold alJ; split
  · rename_i h; rw [h]
  · rename_i h; simpa using h
structure xW (s : List UInt8) : Prop where
  colon : (58 : UInt8) ∉ s
  known : (Vo 43 s).all af2 = true
  head : ∃ c r, s = c :: r ∧ c ≠ 45 ∧ c ≠ 33 ∧ c ≠ 43 ∧ c ≠ 64
def aff (s : List UInt8) : Bool := !s.contains 58 && (Vo 43 s).all af2 && (match s with | c :: _ => c != 45 && c != 33 && c != 43 && c != 64 | [] => false)
theorem ah7 {s : List UInt8} (h : aff s = true) : xW s := by
  simp only [aff, Bool.and_eq_true, Bool.not_eq_true'] at h
  refine ⟨by simpa using h.1.1, h.1.2, ?_⟩
  have h3 := h.2
  cases s with
  | nil => simp at h3
  | cons c r => simp at h3; exact ⟨c, r, rfl, h3.1.1.1, h3.1.1.2, h3.1.2, h3.2⟩
theorem ah5 : ∀ x ∈ ajP, aff x = true := by decide
theorem xW.join {s t : List UInt8} (hs : xW s) (ht : t ∈ ajP) : xW (s ++ [43] ++ t) := by
  have h2 := ah7 (ah5 t ht)
  refine ⟨?_, ?_, ?_⟩
  · simp only [List.mem_append, List.mem_singleton, not_or]; exact ⟨⟨hs.colon, by decide⟩, h2.colon⟩
  · rw [vZ, List.all_append, hs.known, h2.known]; rfl
  · obtain ⟨c, r, rfl, h⟩ := hs.head
    exact ⟨c, r ++ [43] ++ t, by simp, h⟩
theorem xW.sign {s : List UInt8} (h : xW s) : akc s = (0, s) := by
  obtain ⟨c, r, rfl, h1, h2, h3, _⟩ := h.head
  rw [akc, if_neg (by simp [h1, h2, h3])]
theorem xW.ne {s : List UInt8} (h : xW s) : (s == alI) = false := by
  obtain ⟨c, r, rfl, _, _, _, h4⟩ := h.head
  simp [alI, h4]
theorem xW.okW {s : List UInt8} (h : xW s) : wordOk s = true := by rw [Av.wordOk, h.sign, ake, h.known, Bool.or_true]
structure agt (s : List UInt8) (n : Nat) : Prop where
  few : s ≠ [] → (Vo 58 s).length ≤ n
  ok : s ≠ [] → ∀ w ∈ Vo 58 s, wordOk w = true
theorem agt.app {s t : List UInt8} {n m : Nat} (hs : agt s n) (ht : agt t m) (h1 : s ≠ []) (h2 : t ≠ []) : agt (s ++ [58] ++ t) (n + m) := by
  refine ⟨fun _ => ?_, fun _ x hx => ?_⟩
  · have := hs.few h1; have := ht.few h2; rw [vZ]; simp; omega
  · rw [vZ] at hx
    rcases List.mem_append.1 hx with hx | hx
    · exact hs.ok h1 x hx
    · exact ht.ok h2 x hx
end Av
end
section
namespace Av
open Go
end Av
end
section
set_option linter.unusedSimpArgs false
set_option linter.unusedVariables false
set_option maxRecDepth 10000
set_option maxHeartbeats 4000000
namespace Av
open Go
attribute [local irreducible] AWp Wz WQ W4 awS awC V1 awQ Ue Jc YR VY awR YY awB okR Wt ris
end Av
end
section
set_option linter.unusedSimpArgs false
set_option linter.unusedVariables false
set_option maxRecDepth 10000
set_option maxHeartbeats 4000000
namespace Av
open Go
attribute [local irreducible] AWp Wz WQ W4 awS awC V1 awQ Ue Jc YR VY awR YY awB okR Wt ris
theorem aek (c : UInt8) : ∀ (r : List (List UInt8)) (x : List UInt8), [c].intercalate (x :: r) = x ++ (r.map fun y => c :: y).flatten
  | [], x => by simp [List.intercalate]
  | y :: r, x => by
    have := aek c r y
    simp only [List.intercalate, List.intersperse_cons_cons, List.flatten_cons] at this ⊢
    rw [this]; simp
def xj (Γ : Env) (f : Nat) : Prop := ∀ (xs : List (List UInt8)) (sep : List UInt8) (hn : xs.length < 2 ^ 40) (hl : (sep.intercalate xs).length < 2 ^ 40), EvN Γ f [.sl 1 (xs.map V.str), V.str sep] (V.str (sep.intercalate xs))
end Av
end

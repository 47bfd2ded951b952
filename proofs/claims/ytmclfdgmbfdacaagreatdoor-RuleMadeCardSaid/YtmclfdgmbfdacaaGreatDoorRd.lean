/- Rd -/
import Derived.Test.YtmclfdgmbfdacaaGreatDoorRc
import Derived.KernelRfl
import Derived.Test.YtmclfdgmbfdacaaGreatDoorDice
set_option linter.unusedVariables false
set_option linter.unusedSimpArgs false
section
set_option linter.unusedSimpArgs false
set_option linter.unusedVariables false
set_option maxRecDepth 10000
set_option maxHeartbeats 4000000
namespace Av
open Go
attribute [local irreducible] AWp XV WG WJ awS awC VK awQ V4 Jq Xf VH awR Xk awB okR XT ris
def eqR (a b : Qp) : Bool := (a.allow == b.allow) && ((a.alg == b.alg) && ((a.below == b.below) && ((a.purp == b.purp) && ((a.frm == b.frm) && (a.til == b.til)))))
def eqK (a b : Qs) : Bool := (a.purp == b.purp) && (a.days == b.days)
def Kh {α : Type} (eq : α → α → Bool) : List α → List α → Bool
  | [], [] => true
  | x :: xs, y :: ys => eq x y && Kh eq xs ys
  | _, _ => false
theorem jX {α : Type} {eq : α → α → Bool} : ∀ {xs ys : List α}, xs.length ≠ ys.length → Kh eq xs ys = false
  | [], [], h => absurd rfl h
  | [], _ :: _, _ => rfl
  | _ :: _, [], _ => rfl
  | x :: xs, y :: ys, h => by rw [Kh, jX (fun e => h (by simp [e]))]; simp
theorem xG {α : Type} {eq : α → α → Bool} (h : ∀ x, eq x x = true) : ∀ xs : List α, Kh eq xs xs = true
  | [] => rfl
  | x :: xs => by rw [Kh, h, xG h xs]; rfl
theorem agL (r : Qp) : eqR r r = true := by simp [eqR]
theorem agM (r : Qs) : eqK r r = true := by simp [eqK]
def Vp (rs : List Qp) (ks : List Qs) (rs2 : List Qp) (ks2 : List Qs) : Bool := Kh eqR rs rs2 && Kh eqK ks ks2
theorem wd (rs : List Qp) (ks : List Qs) : Vp rs ks rs ks = true := by rw [Vp, xG agL, xG agM]; rfl
def qk : List AO := [fa 30 0 2, ld 31 1 30, mv 32 5, ia 33 6 31 32, xo 34 (.load true 6 (.t 33)), fa 35 0 3, ld 36 1 35, mv 37 5, ia 38 6 36 37, xo 39 (.load true 6 (.t 38)), xo 40 (.eqagg true [2, 0, 0, 0, 0, 0] (.t 34) (.t 39))]
def qB : List (List Nat) := [[], [0], [], [1, 2], [3], [], [5], [], [6, 7], [8], [4, 9]]
def qf : OT := .one 0 (.one 1 (.one 2 (.one 3 (.one 4 (.one 5 (.one 6 (.one 7 (.one 8 (.one 9 (.one 10 (.done)))))))))))
def Y1 : OP := .one 0 false [] (fa 30 0 2) (.one 1 false [] (ld 31 1 30) (.one 2 false [] (mv 32 5) (.one 3 false [] (ia 33 6 31 32) (.one 4 false [] (xo 34 (.load true 6 (.t 33))) (.one 5 false [] (fa 35 0 3) (.one 6 false [] (ld 36 1 35) (.one 7 false [] (mv 37 5) (.one 8 false [] (ia 38 6 36 37) (.one 9 false [] (xo 39 (.load true 6 (.t 38))) (.one 10 false [] (xo 40 (.eqagg true [2, 0, 0, 0, 0, 0] (.t 34) (.t 39))) (.done)))))))))))
theorem JW : okR (qk) qB [] qf = true := by kernel_rfl
theorem JU : XT (ris (qk) qB []) qf = Y1 := by kernel_rfl
def qj : List AO := [fa 48 1 2, ld 49 1 48, mv 50 6, ia 51 2 49 50, xo 52 (.load true 2 (.t 51)), fa 53 1 3, ld 54 1 53, mv 55 6, ia 56 2 54 55, xo 57 (.load true 2 (.t 56)), xo 58 (.eqagg true [0, 0] (.t 52) (.t 57))]
def qA : List (List Nat) := [[], [0], [], [1, 2], [3], [], [5], [], [6, 7], [8], [4, 9]]
def qe : OT := .one 0 (.one 1 (.one 2 (.one 3 (.one 4 (.one 5 (.one 6 (.one 7 (.one 8 (.one 9 (.one 10 (.done)))))))))))
def Y0 : OP := .one 0 false [] (fa 48 1 2) (.one 1 false [] (ld 49 1 48) (.one 2 false [] (mv 50 6) (.one 3 false [] (ia 51 2 49 50) (.one 4 false [] (xo 52 (.load true 2 (.t 51))) (.one 5 false [] (fa 53 1 3) (.one 6 false [] (ld 54 1 53) (.one 7 false [] (mv 55 6) (.one 8 false [] (ia 56 2 54 55) (.one 9 false [] (xo 57 (.load true 2 (.t 56))) (.one 10 false [] (xo 58 (.eqagg true [0, 0] (.t 52) (.t 57))) (.done)))))))))))
theorem JV : okR (qj) qA [] qe = true := by kernel_rfl
theorem JT : XT (ris (qj) qA []) qe = Y0 := by kernel_rfl def c_ref17_Same : AC := QR [2, 3] (.reg [xo 2 (.box true 2 (.t 0)), xo 3 (.box true 2 (.t 1)), mc 4 (V.bool false)]) (QR [2, 3] (QR [2, 3, 22] (.reg [fa 7 0 2, ld 8 1 7, ln 9 8, fa 10 0 3, ld 11 1 10, ln 12 11, bn 13 .neq 9 12, mv 14 13, xg 15 (.faddr 1 (.t 2)) 14 false, xg 16 (.load false 1 (.t 15)) 14 false, xg 17 (.lenL (.t 16)) 14 false, xg 18 (.faddr 1 (.t 3)) 14 false, xg 19 (.load false 1 (.t 18)) 14 false, xg 20 (.lenL (.t 19)) 14 false, xg 21 (.bin .neq (.t 17) (.t 20)) 14 false, xo 22 (.pick (.t 14) (.c (V.bool true)) (.t 21))]) (.cond (.t 22) (QR [4] (.reg [mc 4 (V.bool false)]) (.ret)) (.skip))) (QR [2, 3] (QR [2, 3, 5] (.reg [mc 5 (V.int 0)]) (.block 0 (Kv [2, 3, 5] (QR [2, 3, 5] (QR [2, 3, 5, 27] (.reg [mv 23 5, fa 24 0 2, ld 25 1 24, ln 26 25, bn 27 .lss 23 26]) (.cond (.t 27) (.skip) (.exit 0))) (QR [2, 3, 5] (.block 1 (QR [2, 3, 5, 40] (yO [] qf (Y1) (qk) qB) (.cond (.t 40) (QR [4] (.reg [mc 4 (V.bool false)]) (.ret)) (.skip)))) (.reg [mv 28 5, bc 29 .add 28 (V.int 1), mv 5 29])))))) (QR [] (QR [2, 3, 6] (.reg [mc 6 (V.int 0)]) (.block 2 (Kv [2, 3, 6] (QR [2, 3, 6] (QR [2, 3, 6, 45] (.reg [mv 41 6, fa 42 1 2, ld 43 1 42, ln 44 43, bn 45 .lss 41 44]) (.cond (.t 45) (.skip) (.exit 2))) (QR [2, 3, 6] (.block 3 (QR [2, 3, 6, 58] (yO [] qe (Y0) (qj) qA) (.cond (.t 58) (QR [4] (.reg [mc 4 (V.bool false)]) (.ret)) (.skip)))) (.reg [mv 46 6, bc 47 .add 46 (V.int 1), mv 6 47])))))) (QR [4] (.reg [mc 4 (V.bool true)]) (.ret))))) def r_ref17_Same : List XY := [.tmp 4]
def jF (Γ : Env) (f : Nat) : Prop := ∀ (rs : List Qp) (ks : List Qs) (rs2 : List Qp) (ks2 : List Qs) (h1 : rs.length < 2 ^ 40) (h2 : ks.length < 2 ^ 40) (h3 : rs2.length < 2 ^ 40) (h4 : ks2.length < 2 ^ 40), EvN Γ f [ae0 rs ks, ae0 rs2 ks2] (V.bool (Vp rs ks rs2 ks2))
theorem abv {Γ : Env} {f : Nat} (h : Has Γ.P f 59 c_ref17_Same r_ref17_Same)  : jF Γ f := by
  intro rs ks rs2 ks2 h1 h2 h3 h4
  refine JD h (by simp) (by simp only [V.closed, Qq, V.noSl, Yq, and_self, and_true, true_and]) (by simp only [V.closed, Qq, V.noSl, Yq, and_self, and_true, true_and]) fun C hC hm => ?_
  subst hC
  unfold c_ref17_Same
  by_cases hr : rs.length = rs2.length
  · have e1 : ((((rs.map Qp.v).length : Nat) : Int) != (((rs2.map Qp.v).length : Nat) : Int)) = false := by simp [hr]
    by_cases hk : ks.length = ks2.length
    · have e2 : ((((ks.map Qs.v).length : Nat) : Int) != (((ks2.map Qs.v).length : Nat) : Int)) = false := by simp [hk]
      repeat' (first | refine Qf fun K' hK => ?_ | refine Qi fun K' hK => ?_ | refine Qb 11 (fun _ => true) rfl (JW) (JU) fun K' hK => ?_ | refine Qc 11 (fun _ => true) rfl (JW) (JU) fun K' hK => ?_ | refine Qb 11 (fun _ => true) rfl (JV) (JT) fun K' hK => ?_ | refine Qc 11 (fun _ => true) rfl (JV) (JT) fun K' hK => ?_ | refine Qg ?_ | refine Qh ?_ | refine Qa ?_ | ((first | refine Qk ⟨_, rfl, fun hc => ?_, fun hc => ?_⟩ | refine QM (fun hc => ?_) (fun hc => ?_) | refine QN (fun hc => ?_) (fun hc => ?_)) <;> first | exact Bool.noConfusion hc | ((try simp only [znz] at hc); first | exact znf | skip)) | refine Qo ?_ | refine Qj ?_ | simp (maxSteps := 1000000) only [go_sem, Nat.reduceAdd, Nat.reduceMul, Nat.reduceEqDiff, Nat.reduceLeDiff, Nat.reduceLT, Nat.reduceSub, Int.reduceEq, Int.reduceBEq, Int.reduceLT, Int.reduceLE, Int.reduceAdd, Int.reduceToNat, reduceIte, reduceCtorEq, e1, e2, Y1, Y0] | (refine hK _ ?_; clear hK; clear K') | refine And.intro ?_ ?_ | exact zlo | omega | exact zms)
      refine Vk (ι := Nat) (fun k => k ≤ rs.length ∧ Kh eqR (rs.drop k) (rs2.drop k) = Kh eqR rs rs2) (fun k => [(5, V.int k)]) (fun k => rs.length - k) 0 (by omega) ⟨by simp, by simp⟩ (by repeat' first | exact Uu | refine qm (by omega) (by simp only [Ob.lt, ltL, V.lt, and_self, and_true]; try omega) ?_) (fun i hi => by simp only [ovT, XS, Nat.reduceEqDiff, reduceIte]; (repeat' first | exact ql | refine Ut ?_ ?_ | simp only [V.lt, ltL, and_self, and_true] | omega)) (by simp only [Nat.reduceAdd, ovT, XS, Nat.reduceEqDiff, reduceIte, YW, XB, xJ, u32, u33, u34, u35, u36, u37, u38, u39, and_self, and_true, true_and]; rfl) fun k hk0 K' hL => ?_
      obtain ⟨hk1, hinv⟩ := hk0
      simp only [ovT, XS, Nat.reduceEqDiff, reduceIte]
      rcases hd : rs.drop k with _ | ⟨y, r⟩
      · have hkl := XU hd
        have e5 : decide ((k : Int) < (((rs.map Qp.v).length : Nat) : Int)) = false := by simp; omega
        have hd2 : rs2.drop k = [] := List.drop_eq_nil_of_le (by omega)
        rw [hd, hd2] at hinv
        have hs : Vp rs ks rs2 ks2 = Kh eqK ks ks2 := by rw [Vp, ← hinv]; rfl
        rw [hs]
        repeat' (first | refine Qf fun K' hK => ?_ | refine Qi fun K' hK => ?_ | refine Qb 11 (fun _ => true) rfl (JW) (JU) fun K' hK => ?_ | refine Qc 11 (fun _ => true) rfl (JW) (JU) fun K' hK => ?_ | refine Qb 11 (fun _ => true) rfl (JV) (JT) fun K' hK => ?_ | refine Qc 11 (fun _ => true) rfl (JV) (JT) fun K' hK => ?_ | refine Qg ?_ | refine Qh ?_ | refine Qa ?_ | ((first | refine Qk ⟨_, rfl, fun hc => ?_, fun hc => ?_⟩ | refine QM (fun hc => ?_) (fun hc => ?_) | refine QN (fun hc => ?_) (fun hc => ?_)) <;> first | exact Bool.noConfusion hc | ((try simp only [znz] at hc); first | exact znf | skip)) | refine Qo ?_ | refine Qj ?_ | simp (maxSteps := 1000000) only [go_sem, Nat.reduceAdd, Nat.reduceMul, Nat.reduceEqDiff, Nat.reduceLeDiff, Nat.reduceLT, Nat.reduceSub, Int.reduceEq, Int.reduceBEq, Int.reduceLT, Int.reduceLE, Int.reduceAdd, Int.reduceToNat, reduceIte, reduceCtorEq, e5, Y1, Y0] | (refine hK _ ?_; clear hK; clear K') | refine And.intro ?_ ?_ | exact zlo | omega | exact zms)
        refine Vk (ι := Nat) (fun j => j ≤ ks.length ∧ Kh eqK (ks.drop j) (ks2.drop j) = Kh eqK ks ks2) (fun j => [(6, V.int j)]) (fun j => ks.length - j) 0 (by omega) ⟨by simp, by simp⟩ (by repeat' first | exact Uu | refine qm (by omega) (by simp only [Ob.lt, ltL, V.lt, and_self, and_true]; try omega) ?_) (fun i hi => by simp only [ovT, XS, Nat.reduceEqDiff, reduceIte]; (repeat' first | exact ql | refine Ut ?_ ?_ | simp only [V.lt, ltL, and_self, and_true] | omega)) (by simp only [Nat.reduceAdd, ovT, XS, Nat.reduceEqDiff, reduceIte, YW, XB, xJ, u32, u33, u34, u35, u36, u37, u38, u39, and_self, and_true, true_and]; rfl) fun j hj0 K' hL => ?_
        obtain ⟨hj1, hinv2⟩ := hj0
        simp only [ovT, XS, Nat.reduceEqDiff, reduceIte]
        rcases hd3 : ks.drop j with _ | ⟨z, r2⟩
        · have hjl := XU hd3
          have e6 : decide ((j : Int) < (((ks.map Qs.v).length : Nat) : Int)) = false := by simp; omega
          have hd4 : ks2.drop j = [] := List.drop_eq_nil_of_le (by omega)
          rw [hd3, hd4] at hinv2
          rw [← hinv2]
          repeat' (first | refine Qf fun K' hK => ?_ | refine Qi fun K' hK => ?_ | refine Qb 11 (fun _ => true) rfl (JW) (JU) fun K' hK => ?_ | refine Qc 11 (fun _ => true) rfl (JW) (JU) fun K' hK => ?_ | refine Qb 11 (fun _ => true) rfl (JV) (JT) fun K' hK => ?_ | refine Qc 11 (fun _ => true) rfl (JV) (JT) fun K' hK => ?_ | refine Qg ?_ | refine Qh ?_ | refine Qa ?_ | ((first | refine Qk ⟨_, rfl, fun hc => ?_, fun hc => ?_⟩ | refine QM (fun hc => ?_) (fun hc => ?_) | refine QN (fun hc => ?_) (fun hc => ?_)) <;> first | exact Bool.noConfusion hc | ((try simp only [znz] at hc); first | exact znf | skip)) | refine Qo ?_ | refine Qj ?_ | simp (maxSteps := 1000000) only [go_sem, Nat.reduceAdd, Nat.reduceMul, Nat.reduceEqDiff, Nat.reduceLeDiff, Nat.reduceLT, Nat.reduceSub, Int.reduceEq, Int.reduceBEq, Int.reduceLT, Int.reduceLE, Int.reduceAdd, Int.reduceToNat, reduceIte, reduceCtorEq, e6, Y1, Y0] | (refine hK _ ?_; clear hK; clear K') | refine And.intro ?_ ?_ | exact zlo | omega | exact zms)
          all_goals first | (refine QQ _ rfl ?_; simp only [go_sem, Nat.reduceEqDiff, Nat.reduceAdd, reduceIte, reduceCtorEq]; done) | (refine QQ _ rfl ?_; simp only [go_sem, Nat.reduceEqDiff, Nat.reduceAdd, reduceIte, reduceCtorEq]; rfl) | trace_state
        · obtain ⟨hj', hget, hr2⟩ := Xq hd3
          have hw := Xh (k := j) (by omega)
          have e6 : decide ((j : Int) < (((ks.map Qs.v).length : Nat) : Int)) = true := by simp; omega
          obtain ⟨z2, hget2⟩ : ∃ z2, ks2[j]? = some z2 := ⟨ks2[j]'(by omega), List.getElem?_eq_getElem (by omega)⟩
          have hd4 : ks2.drop j = z2 :: ks2.drop (j + 1) := by
            rw [List.drop_eq_getElem_cons (by omega)]; congr 1
            rw [List.getElem?_eq_getElem (by omega)] at hget2; exact Option.some.inj hget2
          rw [hd3, hd4, Kh] at hinv2
          have heq : eqK z z2 = ((z.purp == z2.purp) && (z.days == z2.days)) := rfl
          rcases hz : eqK z z2 with _ | _
          · rw [hz] at hinv2
            rw [hz] at heq
            rw [← hinv2]
            repeat' (first | refine Qf fun K' hK => ?_ | refine Qi fun K' hK => ?_ | refine Qb 11 (fun _ => true) rfl (JW) (JU) fun K' hK => ?_ | refine Qc 11 (fun _ => true) rfl (JW) (JU) fun K' hK => ?_ | refine Qb 11 (fun _ => true) rfl (JV) (JT) fun K' hK => ?_ | refine Qc 11 (fun _ => true) rfl (JV) (JT) fun K' hK => ?_ | refine Qg ?_ | refine Qh ?_ | refine Qa ?_ | ((first | refine Qk ⟨_, rfl, fun hc => ?_, fun hc => ?_⟩ | refine QM (fun hc => ?_) (fun hc => ?_) | refine QN (fun hc => ?_) (fun hc => ?_)) <;> first | exact Bool.noConfusion hc | ((try simp only [znz] at hc); first | exact znf | skip)) | refine Qo ?_ | refine Qj ?_ | simp (maxSteps := 1000000) only [go_sem, Nat.reduceAdd, Nat.reduceMul, Nat.reduceEqDiff, Nat.reduceLeDiff, Nat.reduceLT, Nat.reduceSub, Int.reduceEq, Int.reduceBEq, Int.reduceLT, Int.reduceLE, Int.reduceAdd, Int.reduceToNat, reduceIte, reduceCtorEq, e6, hw, ← heq, Int.toNat_natCast, List.getElem?_map, hget, hget2, Qs.v, Qs.cells, Y1, Y0] | (refine hK _ ?_; clear hK; clear K') | refine And.intro ?_ ?_ | exact zlo | omega | exact zms)
            all_goals first | (refine QQ _ rfl ?_; simp only [go_sem, Nat.reduceEqDiff, Nat.reduceAdd, reduceIte, reduceCtorEq]; done) | (refine QQ _ rfl ?_; simp only [go_sem, Nat.reduceEqDiff, Nat.reduceAdd, reduceIte, reduceCtorEq]; rfl) | trace_state
          · rw [hz] at hinv2
            rw [hz] at heq
            repeat' (first | refine Qf fun K' hK => ?_ | refine Qi fun K' hK => ?_ | refine Qb 11 (fun _ => true) rfl (JW) (JU) fun K' hK => ?_ | refine Qc 11 (fun _ => true) rfl (JW) (JU) fun K' hK => ?_ | refine Qb 11 (fun _ => true) rfl (JV) (JT) fun K' hK => ?_ | refine Qc 11 (fun _ => true) rfl (JV) (JT) fun K' hK => ?_ | refine Qg ?_ | refine Qh ?_ | refine Qa ?_ | ((first | refine Qk ⟨_, rfl, fun hc => ?_, fun hc => ?_⟩ | refine QM (fun hc => ?_) (fun hc => ?_) | refine QN (fun hc => ?_) (fun hc => ?_)) <;> first | exact Bool.noConfusion hc | ((try simp only [znz] at hc); first | exact znf | skip)) | refine Qo ?_ | refine Qj ?_ | simp (maxSteps := 1000000) only [go_sem, Nat.reduceAdd, Nat.reduceMul, Nat.reduceEqDiff, Nat.reduceLeDiff, Nat.reduceLT, Nat.reduceSub, Int.reduceEq, Int.reduceBEq, Int.reduceLT, Int.reduceLE, Int.reduceAdd, Int.reduceToNat, reduceIte, reduceCtorEq, e6, hw, ← heq, Int.toNat_natCast, List.getElem?_map, hget, hget2, Qs.v, Qs.cells, Y1, Y0] | (refine hK _ ?_; clear hK; clear K') | refine And.intro ?_ ?_ | exact zlo | omega | exact zms)
            all_goals first
              | exact hL _ (j + 1) (by simp only [Nat.reduceAdd, ovT, XS, Nat.reduceEqDiff, reduceIte, YW, XB, xJ, u32, u33, u34, u35, u36, u37, u38, u39, and_self, and_true, true_and]) ⟨by omega, by rw [hr2]; simpa using hinv2⟩ (by omega) (fun a ha => by simp only [u32, u33, u34, u35, u36, u37, u38, u39]; repeat rw [if_neg (by omega)])
              | exact hL _ (j + 1) (by simp only [Nat.reduceAdd, ovT, XS, Nat.reduceEqDiff, reduceIte, YW, XB, xJ, u32, u33, u34, u35, u36, u37, u38, u39, and_self, and_true, true_and]) ⟨by omega, by rw [hr2]; simpa using hinv2⟩ (by omega) (fun a ha => rfl)
              | trace_state
      · obtain ⟨hk', hget, hr2⟩ := Xq hd
        have hw := Xh (k := k) (by omega)
        have e5 : decide ((k : Int) < (((rs.map Qp.v).length : Nat) : Int)) = true := by simp; omega
        obtain ⟨z2, hget2⟩ : ∃ z2, rs2[k]? = some z2 := ⟨rs2[k]'(by omega), List.getElem?_eq_getElem (by omega)⟩
        have hd4 : rs2.drop k = z2 :: rs2.drop (k + 1) := by
          rw [List.drop_eq_getElem_cons (by omega)]; congr 1
          rw [List.getElem?_eq_getElem (by omega)] at hget2; exact Option.some.inj hget2
        rw [hd, hd4, Kh] at hinv
        have heq : eqR y z2 = ((y.allow == z2.allow) && ((y.alg == z2.alg) && ((y.below == z2.below) && ((y.purp == z2.purp) && ((y.frm == z2.frm) && (y.til == z2.til)))))) := rfl
        rcases hz : eqR y z2 with _ | _
        · rw [hz] at hinv heq
          have hs : Vp rs ks rs2 ks2 = false := by rw [Vp, ← hinv]; rfl
          rw [hs]
          repeat' (first | refine Qf fun K' hK => ?_ | refine Qi fun K' hK => ?_ | refine Qb 11 (fun _ => true) rfl (JW) (JU) fun K' hK => ?_ | refine Qc 11 (fun _ => true) rfl (JW) (JU) fun K' hK => ?_ | refine Qb 11 (fun _ => true) rfl (JV) (JT) fun K' hK => ?_ | refine Qc 11 (fun _ => true) rfl (JV) (JT) fun K' hK => ?_ | refine Qg ?_ | refine Qh ?_ | refine Qa ?_ | ((first | refine Qk ⟨_, rfl, fun hc => ?_, fun hc => ?_⟩ | refine QM (fun hc => ?_) (fun hc => ?_) | refine QN (fun hc => ?_) (fun hc => ?_)) <;> first | exact Bool.noConfusion hc | ((try simp only [znz] at hc); first | exact znf | skip)) | refine Qo ?_ | refine Qj ?_ | simp (maxSteps := 1000000) only [go_sem, Nat.reduceAdd, Nat.reduceMul, Nat.reduceEqDiff, Nat.reduceLeDiff, Nat.reduceLT, Nat.reduceSub, Int.reduceEq, Int.reduceBEq, Int.reduceLT, Int.reduceLE, Int.reduceAdd, Int.reduceToNat, reduceIte, reduceCtorEq, e5, hw, ← heq, Int.toNat_natCast, List.getElem?_map, hget, hget2, Qp.v, Qp.cells, Y1, Y0] | (refine hK _ ?_; clear hK; clear K') | refine And.intro ?_ ?_ | exact zlo | omega | exact zms)
          all_goals first | (refine QQ _ rfl ?_; simp only [go_sem, Nat.reduceEqDiff, Nat.reduceAdd, reduceIte, reduceCtorEq]; done) | (refine QQ _ rfl ?_; simp only [go_sem, Nat.reduceEqDiff, Nat.reduceAdd, reduceIte, reduceCtorEq]; rfl) | trace_state
        · rw [hz] at hinv heq
          repeat' (first | refine Qf fun K' hK => ?_ | refine Qi fun K' hK => ?_ | refine Qb 11 (fun _ => true) rfl (JW) (JU) fun K' hK => ?_ | refine Qc 11 (fun _ => true) rfl (JW) (JU) fun K' hK => ?_ | refine Qb 11 (fun _ => true) rfl (JV) (JT) fun K' hK => ?_ | refine Qc 11 (fun _ => true) rfl (JV) (JT) fun K' hK => ?_ | refine Qg ?_ | refine Qh ?_ | refine Qa ?_ | ((first | refine Qk ⟨_, rfl, fun hc => ?_, fun hc => ?_⟩ | refine QM (fun hc => ?_) (fun hc => ?_) | refine QN (fun hc => ?_) (fun hc => ?_)) <;> first | exact Bool.noConfusion hc | ((try simp only [znz] at hc); first | exact znf | skip)) | refine Qo ?_ | refine Qj ?_ | simp (maxSteps := 1000000) only [go_sem, Nat.reduceAdd, Nat.reduceMul, Nat.reduceEqDiff, Nat.reduceLeDiff, Nat.reduceLT, Nat.reduceSub, Int.reduceEq, Int.reduceBEq, Int.reduceLT, Int.reduceLE, Int.reduceAdd, Int.reduceToNat, reduceIte, reduceCtorEq, e5, hw, ← heq, Int.toNat_natCast, List.getElem?_map, hget, hget2, Qp.v, Qp.cells, Y1, Y0] | (refine hK _ ?_; clear hK; clear K') | refine And.intro ?_ ?_ | exact zlo | omega | exact zms)
          all_goals first
            | exact hL _ (k + 1) (by simp only [Nat.reduceAdd, ovT, XS, Nat.reduceEqDiff, reduceIte, YW, XB, xJ, u32, u33, u34, u35, u36, u37, u38, u39, and_self, and_true, true_and]) ⟨by omega, by rw [hr2]; simpa using hinv⟩ (by omega) (fun a ha => by simp only [u32, u33, u34, u35, u36, u37, u38, u39]; repeat rw [if_neg (by omega)])
            | exact hL _ (k + 1) (by simp only [Nat.reduceAdd, ovT, XS, Nat.reduceEqDiff, reduceIte, YW, XB, xJ, u32, u33, u34, u35, u36, u37, u38, u39, and_self, and_true, true_and]) ⟨by omega, by rw [hr2]; simpa using hinv⟩ (by omega) (fun a ha => rfl)
            | trace_state
    · have e2 : ((((ks.map Qs.v).length : Nat) : Int) != (((ks2.map Qs.v).length : Nat) : Int)) = true := by simp; omega
      have hs : Vp rs ks rs2 ks2 = false := by rw [Vp, jX hk]; simp
      rw [hs]
      repeat' (first | refine Qf fun K' hK => ?_ | refine Qi fun K' hK => ?_ | refine Qb 11 (fun _ => true) rfl (JW) (JU) fun K' hK => ?_ | refine Qc 11 (fun _ => true) rfl (JW) (JU) fun K' hK => ?_ | refine Qb 11 (fun _ => true) rfl (JV) (JT) fun K' hK => ?_ | refine Qc 11 (fun _ => true) rfl (JV) (JT) fun K' hK => ?_ | refine Qg ?_ | refine Qh ?_ | refine Qa ?_ | ((first | refine Qk ⟨_, rfl, fun hc => ?_, fun hc => ?_⟩ | refine QM (fun hc => ?_) (fun hc => ?_) | refine QN (fun hc => ?_) (fun hc => ?_)) <;> first | exact Bool.noConfusion hc | ((try simp only [znz] at hc); first | exact znf | skip)) | refine Qo ?_ | refine Qj ?_ | simp (maxSteps := 1000000) only [go_sem, Nat.reduceAdd, Nat.reduceMul, Nat.reduceEqDiff, Nat.reduceLeDiff, Nat.reduceLT, Nat.reduceSub, Int.reduceEq, Int.reduceBEq, Int.reduceLT, Int.reduceLE, Int.reduceAdd, Int.reduceToNat, reduceIte, reduceCtorEq, e1, e2, Y1, Y0] | (refine hK _ ?_; clear hK; clear K') | refine And.intro ?_ ?_ | exact zlo | omega | exact zms)
      all_goals first | (refine QQ _ rfl ?_; simp only [go_sem, Nat.reduceEqDiff, Nat.reduceAdd, reduceIte, reduceCtorEq]; done) | trace_state
  · have e1 : ((((rs.map Qp.v).length : Nat) : Int) != (((rs2.map Qp.v).length : Nat) : Int)) = true := by simp; omega
    have hs : Vp rs ks rs2 ks2 = false := by rw [Vp, jX hr]; simp
    rw [hs]
    repeat' (first | refine Qf fun K' hK => ?_ | refine Qi fun K' hK => ?_ | refine Qb 11 (fun _ => true) rfl (JW) (JU) fun K' hK => ?_ | refine Qc 11 (fun _ => true) rfl (JW) (JU) fun K' hK => ?_ | refine Qb 11 (fun _ => true) rfl (JV) (JT) fun K' hK => ?_ | refine Qc 11 (fun _ => true) rfl (JV) (JT) fun K' hK => ?_ | refine Qg ?_ | refine Qh ?_ | refine Qa ?_ | ((first | refine Qk ⟨_, rfl, fun hc => ?_, fun hc => ?_⟩ | refine QM (fun hc => ?_) (fun hc => ?_) | refine QN (fun hc => ?_) (fun hc => ?_)) <;> first | exact Bool.noConfusion hc | ((try simp only [znz] at hc); first | exact znf | skip)) | refine Qo ?_ | refine Qj ?_ | simp (maxSteps := 1000000) only [go_sem, Nat.reduceAdd, Nat.reduceMul, Nat.reduceEqDiff, Nat.reduceLeDiff, Nat.reduceLT, Nat.reduceSub, Int.reduceEq, Int.reduceBEq, Int.reduceLT, Int.reduceLE, Int.reduceAdd, Int.reduceToNat, reduceIte, reduceCtorEq, e1, Y1, Y0] | (refine hK _ ?_; clear hK; clear K') | refine And.intro ?_ ?_ | exact zlo | omega | exact zms)
    all_goals first | (refine QQ _ rfl ?_; simp only [go_sem, Nat.reduceEqDiff, Nat.reduceAdd, reduceIte, reduceCtorEq]; done) | trace_state
theorem ajO : wg [102, 111, 114, 98, 105, 100, 32, 114, 115, 97, 32, 98, 101, 108, 111, 119, 32, 50, 48, 52, 56, 32, 102, 111, 114, 32, 115, 105, 103, 110, 32, 102, 114, 111, 109, 32, 49, 48, 48, 10, 107, 101, 101, 112, 32, 98, 97, 99, 107, 117, 112, 32, 51, 48, 10] = ([⟨false, 5, 2048, 2, 100, 40001⟩], [⟨3, 30⟩], 0, 0) := by kernel_rfl
def ju (K0 : Nat) : AC := QR [] (.reg [mc 0 (V.bool false)]) (QR [1, 2, 3] (.reg [xo 5 (.call K0 [(.c (V.str [102, 111, 114, 98, 105, 100, 32, 114, 115, 97, 32, 98, 101, 108, 111, 119, 32, 50, 48, 52, 56, 32, 102, 111, 114, 32, 115, 105, 103, 110, 32, 102, 114, 111, 109, 32, 49, 48, 48, 10, 107, 101, 101, 112, 32, 98, 97, 99, 107, 117, 112, 32, 51, 48, 10]))]), mv 4 5, ex 6 4 0, ex 7 4 1, ex 8 4 2, xo 1 (.alloc [.nil 6, .nil 2]), xs 2 1 6, mv 2 7, mv 3 8]) (QR [0] (.reg [mv 9 3, bc 10 .eql 9 (V.int 0), mv 11 10, mg 12 2 11 true, xg 13 (.bin .eql (.t 12) (.c (V.int 0))) 11 true, xo 14 (.pick (.t 11) (.t 13) (.c (V.bool false))), mv 15 14, xg 16 (.faddr 0 (.t 1)) 15 true, xg 17 (.load false 1 (.t 16)) 15 true, xg 18 (.lenL (.t 17)) 15 true, xg 19 (.bin .eql (.t 18) (.c (V.int 1))) 15 true, xo 20 (.pick (.t 15) (.t 19) (.c (V.bool false))), mv 21 20, xg 22 (.faddr 0 (.t 1)) 21 true, xg 23 (.load false 1 (.t 22)) 21 true, xg 24 (.iaddr 6 (.t 23) (.c (V.int 0))) 21 true, xg 25 (.load true 6 (.t 24)) 21 true, xg 26 (.build [(.bool false), (.int .i64 0), (.int .i64 0), (.int .i64 0), (.int .i64 0), (.int .i64 0)] [(1, 1, (.c (V.int 5))), (2, 1, (.c (V.int 2048))), (3, 1, (.c (V.int 2))), (4, 1, (.c (V.int 100))), (5, 1, (.c (V.int 40001)))]) 21 true, xg 27 (.eqagg false [2, 0, 0, 0, 0, 0] (.t 25) (.t 26)) 21 true, xo 28 (.pick (.t 21) (.t 27) (.c (V.bool false))), mv 29 28, xg 30 (.faddr 1 (.t 1)) 29 true, xg 31 (.load false 1 (.t 30)) 29 true, xg 32 (.lenL (.t 31)) 29 true, xg 33 (.bin .eql (.t 32) (.c (V.int 1))) 29 true, xo 34 (.pick (.t 29) (.t 33) (.c (V.bool false))), mv 0 34]) (.ret))) def r_law17_awake : List XY := [.tmp 0]
def qG (Γ : Env) (f : Nat) : Prop := EvN Γ f [] (V.bool true)
theorem aat {Γ : Env} {f K0 : Nat} (h : Has Γ.P f 35 (ju K0) r_law17_awake) (wi : jD Γ K0) : qG Γ f := by
  refine JD h (by simp) (by simp only [V.closed, Qq, V.noSl, Yq, and_self, and_true, true_and]) (by simp only [V.closed, Qq, V.noSl, Yq, and_self, and_true, true_and]) fun C hC hm => ?_
  subst hC
  unfold ju
  have n1 := (wi [102, 111, 114, 98, 105, 100, 32, 114, 115, 97, 32, 98, 101, 108, 111, 119, 32, 50, 48, 52, 56, 32, 102, 111, 114, 32, 115, 105, 103, 110, 32, 102, 114, 111, 109, 32, 49, 48, 48, 10, 107, 101, 101, 112, 32, 98, 97, 99, 107, 117, 112, 32, 51, 48, 10] (by simp)).b
  rw [ajO] at n1
  simp only [ahz, ae0, List.map_cons, List.map_nil, Qp.v, Qp.cells, Qs.v, Qs.cells] at n1
  repeat' (first | refine Qf fun K' hK => ?_ | refine Qi fun K' hK => ?_ | refine Qg ?_ | refine Qh ?_ | refine Qa ?_ | ((first | refine Qk ⟨_, rfl, fun hc => ?_, fun hc => ?_⟩ | refine QM (fun hc => ?_) (fun hc => ?_) | refine QN (fun hc => ?_) (fun hc => ?_)) <;> first | exact Bool.noConfusion hc | ((try simp only [znz] at hc); first | exact znf | skip)) | refine Qo ?_ | refine Qj ?_ | simp (maxSteps := 1000000) only [go_sem, Nat.reduceAdd, Nat.reduceMul, Nat.reduceEqDiff, Nat.reduceLeDiff, Nat.reduceLT, Nat.reduceSub, Int.reduceEq, Int.reduceBEq, Int.reduceLT, Int.reduceLE, Int.reduceAdd, Int.reduceToNat, reduceIte, reduceCtorEq] | (refine hK _ ?_; clear hK; clear K') | refine And.intro ?_ ?_ | (apply QS; (focus first | exact n1 | exact (wi _ zsd).b)) | exact zlo | omega | exact zms)
  all_goals first | (refine QQ _ rfl ?_; simp only [go_sem, Nat.reduceEqDiff, Nat.reduceAdd, reduceIte, reduceCtorEq]; done) | trace_state
end Av
end
section
set_option linter.unusedSimpArgs false
set_option linter.unusedVariables false
set_option maxRecDepth 10000
set_option maxHeartbeats 4000000
namespace Av
open Go
attribute [local irreducible] AWp XV WG WJ awS awC VK awQ V4 Jq Xf VH awR Xk awB okR XT ris
end Av
end

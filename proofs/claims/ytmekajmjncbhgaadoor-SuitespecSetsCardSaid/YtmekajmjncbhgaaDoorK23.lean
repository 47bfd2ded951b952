/- K23 -/
import Derived.Test.YtmekajmjncbhgaaDoorK21
set_option linter.unusedVariables false
set_option linter.unusedSimpArgs false
section
set_option linter.unusedSimpArgs false
set_option linter.unusedVariables false
set_option maxRecDepth 10000
set_option maxHeartbeats 4000000
namespace Av
open Go
attribute [local irreducible] AWp W8 V7 V8 awS awC KI awQ KY Ji XK KE awR XZ awB okR WO ris
def U3 (l : List Int) : Nat → List Int → Nat → List Int × Nat
  | 0, a, k => (a, k)
  | i + 1, a, k => U3 l i (if a.contains (1 + (XB l k 16).1) = true then a else a ++ [1 + (XB l k 16).1]) (XB l k 16).2
def qD (l : List Int) (k : Nat) : List Int × Nat := U3 l (2 + (XB l k 9).1).toNat [] (XB l k 9).2
def yA (l : List Int) (k : Nat) : List Int × Nat := (if (XB l (qD l k).2 4).1 = 3 then Kl (qD l k).1 else (qD l k).1, (XB l (qD l k).2 4).2)
structure NR (a : List Int) : Prop where
  nd : a.Nodup
  rg : ∀ x ∈ a, 1 ≤ x ∧ x ≤ 16
theorem NR.add {a : List Int} (h : NR a) (l : List Int) (k : Nat) : NR (if a.contains (1 + (XB l k 16).1) = true then a else a ++ [1 + (XB l k 16).1]) := by
  have hr := Kq (l := l) (k := k) (n := 16) (by omega) (by omega)
  split
  · exact h
  · rename_i hc
    have hx : 1 + (XB l k 16).1 ∉ a := by simpa using hc
    refine ⟨List.nodup_append.2 ⟨h.nd, by simp, fun x hx2 y hy e => ?_⟩, fun x hx2 => ?_⟩
    · simp at hy; subst hy; subst e; exact hx hx2
    · rcases List.mem_append.1 hx2 with h1 | h1
      · exact h.rg x h1
      · simp at h1; omega
theorem vc (l : List Int) : ∀ (i : Nat) (a : List Int) (k : Nat), NR a → k ≤ l.length → NR (U3 l i a k).1 ∧ (U3 l i a k).2 ≤ l.length
  | 0, a, k, h, hk => ⟨h, hk⟩
  | i + 1, a, k, h, hk => vc l i _ _ (h.add l k) (qL hk)
theorem aaJ {l : List Int} {k : Nat} (hk : k ≤ l.length) : NR (qD l k).1 ∧ (qD l k).2 ≤ l.length :=
  vc l _ _ _ ⟨List.nodup_nil, fun x h => by simp at h⟩ (qL hk)
theorem aee {l : List Int} {k : Nat} (hk : k ≤ l.length) : NR (yA l k).1 ∧ (yA l k).2 ≤ l.length := by
  have h := aaJ hk
  refine ⟨?_, qL h.2⟩
  unfold yA
  split
  · have hp := aaN (qD l k).1
    exact ⟨hp.nodup_iff.2 h.1.nd, fun x hx => h.1.rg x (hp.mem_iff.1 hx)⟩
  · exact h.1
def je (Jk JS Yn XX : Nat) : AC := QI [0] (.reg [xo 2 (.mknil 1)]) (QI [0, 3] (.reg [xo 3 (.mknil 1)]) (QI [0, 3] (QI [0, 3, 4] (.reg [mv 6 0, xo 7 (.call Jk [(.t 6), (.c (V.int 9))]), xo 8 (.bin .add (.c (V.int 2)) (.t 7)), mv 4 8]) (.block 0 (X2 [0, 3, 4] (QI [0, 3, 4] (QI [0, 3, 4, 10] (.reg [mv 9 4, bc 10 .gtr 9 (V.int 0)]) (.cond (.t 10) (.skip) (.exit 0))) (QI [0, 3, 4] (.block 1 (QI [0, 3, 4, 5] (.reg [mv 13 0, xo 14 (.call Jk [(.t 13), (.c (V.int 16))]), xo 15 (.bin .add (.c (V.int 1)) (.t 14)), mv 5 15]) (QI [0, 3, 4, 5, 19] (.reg [mv 16 3, mv 17 5, cl 18 JS [16, 17], xo 19 (.un .not (.t 18))]) (.cond (.t 19) (.reg [mv 20 3, mv 21 5, xo 22 (.bslice 1 1 false [(.int .i64 0)] [(0, (.t 21))]), xo 23 (.append 1 8 [(.int .i64 0)] (.t 20) (.t 22)), mv 3 23]) (.skip))))) (.reg [mv 11 4, bc 12 .sub 11 (V.int 1), mv 4 12])))))) (QI [3] (QI [3, 25] (.reg [mv 24 0, xo 25 (.call Yn [(.t 24), (.c (V.int 4))])]) (.cond (.t 25) (.reg [mv 26 3, cl 27 XX [26], mv 3 27]) (.skip))) (QI [2] (.reg [mv 28 3, mv 2 28]) (.ret))))) def r_make_Suites : List XG := [.tmp 2]
def qp (Γ : Env) (f : Nat) : Prop := ∀ (l : List Int) (k : Nat) (hl : l.length ≤ 400) (hk : k ≤ l.length), EvD Γ f [] (Wh l k) (.sl 1 ((yA l k).1.map V.int)) (Wh l (yA l k).2)
theorem aaA {Γ : Env} {f Jk JS Yn XX : Nat} (h : Has Γ.P f 29 (je Jk JS Yn XX) r_make_Suites) (Jy : X1 Γ Jk) (Yh : K0 Γ JS) (JT : W5 Γ Yn) (JX : Kf Γ XX) : qp Γ f := by
  intro l k hl hk
  refine Ku h (by simp) (by simp only [V.closed, QK, V.noSl, JM, and_self, and_true, true_and]) (by first | exact Xy _ _ | simp only [V.closed, QK, and_self, and_true, true_and]) (by first | exact Xy _ _ | simp only [V.closed, QK, and_self, and_true, true_and]) fun C hC hm => ?_
  subst hC
  unfold je
  have n1 := Jy l k 9 hl hk
  have hr := Kq (l := l) (k := k) (n := 9) (by omega) (by omega)
  have hk1 := qL (n := 9) hk
  have hw2 : IntKind.i64.wrap (2 + (XB l k 9).1) = 2 + (XB l k 9).1 := JY (by omega) (by omega)
  obtain ⟨n, hn⟩ : ∃ n : Nat, 2 + (XB l k 9).1 = (n : Int) := ⟨(2 + (XB l k 9).1).toNat, by omega⟩
  have h1 : qD l k = U3 l n [] (XB l k 9).2 := by rw [qD, hn]; rfl
  have hok := aaJ hk
  unfold yA
  rw [h1] at hok ⊢
  have hnn : n ≤ 10 := by omega
  generalize XB l k 9 = u at *
  obtain ⟨c, k1⟩ := u
  simp only [Wh] at n1 hk1 hw2 hn hok ⊢
  rw [hn] at hw2
  repeat' (first | refine Qp fun K' hK => ?_ | refine Qt fun K' hK => ?_ | refine Qq ?_ | refine Qr ?_ | refine Ql ?_ | ((first | refine Qs ⟨_, rfl, fun hc => ?_, fun hc => ?_⟩ | refine QQ (fun hc => ?_) (fun hc => ?_) | refine QR (fun hc => ?_) (fun hc => ?_)) <;> first | exact Bool.noConfusion hc | ((try simp only [znz] at hc); first | exact znf | skip)) | refine Qv ?_ | refine Qu ?_ | simp (maxSteps := 1000000) only [go_sem, Nat.reduceAdd, Nat.reduceMul, Nat.reduceEqDiff, Nat.reduceLeDiff, Nat.reduceLT, Nat.reduceSub, Int.reduceEq, Int.reduceBEq, Int.reduceLT, Int.reduceLE, Int.reduceAdd, Int.reduceToNat, reduceIte, reduceCtorEq, hn, hw2] | (refine hK _ ?_; clear hK; clear K') | refine And.intro ?_ ?_ | (apply V9; (focus exact rfl); (focus first | exact n1 | exact (Jy _ _ _ zsd zsd) | exact (JT _ _ _ zsd zsd zsd zsd)); (focus exact rfl); (focus exact rfl)) | (apply XF; (focus first | exact (JX _ zsd))) | (apply QT; (focus first | exact (Yh _ _ zsd).b)) | exact zlo | omega | exact zms)
  refine Ju (ι := Nat × List Int × Nat) (fun p => p.1 ≤ 10 ∧ NR p.2.1 ∧ p.2.2 ≤ l.length ∧ U3 l p.1 p.2.1 p.2.2 = U3 l n [] k1) (fun p => J0 [(0, .ptr 0 0), (3, .hd 1 0 p.2.1.length), (4, V.int p.1)] [(0, .box true [.sl 1 (l.map V.int), V.int p.2.2]), (1, .buf true 1 (p.2.1.map V.int))] 2) (fun p => p.1) (n, [], k1) ⟨hnn, ⟨List.nodup_nil, fun x h => by simp at h⟩, hk1, rfl⟩ (Jb [(1, 1001)]) (Jd [(1, 1001)] (by simp only [go_sem, Nat.reduceAdd, Nat.reduceMul, Nat.reduceEqDiff, Nat.reduceLT, Int.reduceToNat, reduceIte, reduceCtorEq, and_true, true_and, implies_true, Option.some.injEq, exists_eq_left', Qk, Qm]; (repeat' (first | rfl | refine And.intro ?_ ?_ | omega | exact fun h => h | exact Exists.intro _ rfl))) (by simp only [go_sem, Nat.reduceAdd, Nat.reduceMul, Nat.reduceEqDiff, Nat.reduceLT, Int.reduceToNat, reduceIte, reduceCtorEq, and_true, true_and, implies_true, Option.some.injEq, exists_eq_left', Qk, Qm]; (repeat' (first | rfl | refine And.intro ?_ ?_ | omega | exact fun h => h | exact Exists.intro _ rfl))) (by simp [Jb]) (by simp; omega) (by omega)) fun p hp K' hL => ?_
  obtain ⟨i, a, k2⟩ := p
  obtain ⟨hi, ha, hk2, hinv⟩ := hp
  simp only at hi ha hk2 hinv
  have hal := afI ha.nd ha.rg
  rcases i with _ | i
  · rw [← hinv] at hok ⊢
    simp only [U3] at hok ⊢
    have o1 := JT l k2 4 hl hk2 (by omega) (by omega)
    have e4 : ∀ v : Int, (v == 4 - 1) = decide (v = 3) := fun v => by rw [Bool.eq_iff_iff]; simp
    rw [e4] at o1
    simp only [Wh] at o1
    have hs := JX a (by omega)
    obtain ⟨v, k3, hd4⟩ : ∃ v k3, XB l k2 4 = (v, k3) := ⟨_, _, rfl⟩
    simp only [hd4] at o1 ⊢
    by_cases hv : v = 3
    · rw [decide_eq_true hv] at o1
      rw [if_pos hv]
      repeat' (first | refine Qp fun K' hK => ?_ | refine Qt fun K' hK => ?_ | refine Qq ?_ | refine Qr ?_ | refine Ql ?_ | ((first | refine Qs ⟨_, rfl, fun hc => ?_, fun hc => ?_⟩ | refine QQ (fun hc => ?_) (fun hc => ?_) | refine QR (fun hc => ?_) (fun hc => ?_)) <;> first | exact Bool.noConfusion hc | ((try simp only [znz] at hc); first | exact znf | skip)) | refine Qv ?_ | refine Qu ?_ | simp (maxSteps := 1000000) only [go_sem, Nat.reduceAdd, Nat.reduceMul, Nat.reduceEqDiff, Nat.reduceLeDiff, Nat.reduceLT, Nat.reduceSub, Int.reduceEq, Int.reduceBEq, Int.reduceLT, Int.reduceLE, Int.reduceAdd, Int.reduceToNat, reduceIte, reduceCtorEq, J0, Kj] | (refine hK _ ?_; clear hK; clear K') | refine And.intro ?_ ?_ | (apply V9; (focus exact rfl); (focus first | exact o1 | exact (Jy _ _ _ zsd zsd) | exact (JT _ _ _ zsd zsd zsd zsd)); (focus exact rfl); (focus exact rfl)) | (apply XF; (focus first | exact hs | exact (JX _ zsd))) | (apply QT; (focus first | exact (Yh _ _ zsd).b)) | exact zlo | omega | exact zms)
      all_goals (refine vU _ rfl rfl (by simp only [V.closed, QK, and_self, and_true, true_and]) ?_; simp only [go_sem, Nat.reduceEqDiff, Nat.reduceAdd, reduceIte, reduceCtorEq]; exact ⟨by decide, (List.take_of_length_le (by simp)).symm⟩)
    · rw [decide_eq_false hv] at o1
      rw [if_neg hv]
      repeat' (first | refine Qp fun K' hK => ?_ | refine Qt fun K' hK => ?_ | refine Qq ?_ | refine Qr ?_ | refine Ql ?_ | ((first | refine Qs ⟨_, rfl, fun hc => ?_, fun hc => ?_⟩ | refine QQ (fun hc => ?_) (fun hc => ?_) | refine QR (fun hc => ?_) (fun hc => ?_)) <;> first | exact Bool.noConfusion hc | ((try simp only [znz] at hc); first | exact znf | skip)) | refine Qv ?_ | refine Qu ?_ | simp (maxSteps := 1000000) only [go_sem, Nat.reduceAdd, Nat.reduceMul, Nat.reduceEqDiff, Nat.reduceLeDiff, Nat.reduceLT, Nat.reduceSub, Int.reduceEq, Int.reduceBEq, Int.reduceLT, Int.reduceLE, Int.reduceAdd, Int.reduceToNat, reduceIte, reduceCtorEq, J0, Kj] | (refine hK _ ?_; clear hK; clear K') | refine And.intro ?_ ?_ | (apply V9; (focus exact rfl); (focus first | exact o1 | exact (Jy _ _ _ zsd zsd) | exact (JT _ _ _ zsd zsd zsd zsd)); (focus exact rfl); (focus exact rfl)) | (apply XF; (focus first | exact (JX _ zsd))) | (apply QT; (focus first | exact (Yh _ _ zsd).b)) | exact zlo | omega | exact zms)
      all_goals (refine vU _ rfl rfl (by simp only [V.closed, QK, and_self, and_true, true_and]) ?_; simp only [go_sem, Nat.reduceEqDiff, Nat.reduceAdd, reduceIte, reduceCtorEq]; exact ⟨by decide, (List.take_of_length_le (by simp)).symm⟩)
  · have e1 : decide (((i + 1 : Nat) : Int) > 0) = true := decide_eq_true (by omega)
    have hwi : IntKind.i64.wrap (((i + 1 : Nat) : Int) - 1) = (i : Int) := by rw [JY (by omega) (by omega)]; omega
    have n2 := Jy l k2 16 hl hk2
    have hr2 := Kq (l := l) (k := k2) (n := 16) (by omega) (by omega)
    have hk3 := qL (n := 16) hk2
    have hadd := ha.add l k2
    rw [U3] at hinv
    generalize XB l k2 16 = d at *
    obtain ⟨v, k3⟩ := d
    simp only [Wh] at n2 hr2 hk3 hadd hinv
    have hwv : IntKind.i64.wrap (1 + v) = 1 + v := JY (by omega) (by omega)
    have hc1 := (Yh a (1 + v) (by omega)).b
    rcases hin : a.contains (1 + v) with _ | _
    · rw [hin] at hc1 hadd hinv
      simp only [Bool.false_eq_true, if_false] at hadd hinv
      have hb : List.map V.int a ++ [V.int (1 + v)] = (a ++ [1 + v]).map V.int := by rw [List.map_append]; rfl
      have hln : a.length + 1 = (a ++ [1 + v]).length := by simp
      repeat' (first | refine Qp fun K' hK => ?_ | refine Qt fun K' hK => ?_ | refine Qq ?_ | refine Qr ?_ | refine Ql ?_ | ((first | refine Qs ⟨_, rfl, fun hc => ?_, fun hc => ?_⟩ | refine QQ (fun hc => ?_) (fun hc => ?_) | refine QR (fun hc => ?_) (fun hc => ?_)) <;> first | exact Bool.noConfusion hc | ((try simp only [znz] at hc); first | exact znf | skip)) | refine Qv ?_ | refine Qu ?_ | simp (maxSteps := 1000000) only [go_sem, Nat.reduceAdd, Nat.reduceMul, Nat.reduceEqDiff, Nat.reduceLeDiff, Nat.reduceLT, Nat.reduceSub, Int.reduceEq, Int.reduceBEq, Int.reduceLT, Int.reduceLE, Int.reduceAdd, Int.reduceToNat, reduceIte, reduceCtorEq, J0, e1, hwi, hwv, Kj, hb, hln] | (refine hK _ ?_; clear hK; clear K') | refine And.intro ?_ ?_ | (apply V9; (focus exact rfl); (focus first | exact n2 | exact (Jy _ _ _ zsd zsd) | exact (JT _ _ _ zsd zsd zsd zsd)); (focus exact rfl); (focus exact rfl)) | (apply XF; (focus first | exact (JX _ zsd))) | (apply QT; (focus first | exact hc1 | exact (Yh _ _ zsd).b)) | exact zlo | omega | exact zms)
      all_goals first
        | exact hL _ (i, a ++ [1 + v], k3) (Jb [(1, 13002)]) ⟨by simp only; omega, hadd, hk3, hinv⟩ (by simp only; omega) (Jd [(1, 13002)] (by simp only [go_sem, Nat.reduceAdd, Nat.reduceMul, Nat.reduceEqDiff, Nat.reduceLT, Int.reduceToNat, reduceIte, reduceCtorEq, and_true, true_and, implies_true, Option.some.injEq, exists_eq_left', Qk, Qm]; (repeat' (first | rfl | refine And.intro ?_ ?_ | omega | exact fun h => h | exact Exists.intro _ rfl))) (by simp only [go_sem, Nat.reduceAdd, Nat.reduceMul, Nat.reduceEqDiff, Nat.reduceLT, Int.reduceToNat, reduceIte, reduceCtorEq, and_true, true_and, implies_true, Option.some.injEq, exists_eq_left', Qk, Qm]; (repeat' (first | rfl | refine And.intro ?_ ?_ | omega | exact fun h => h | exact Exists.intro _ rfl))) (by simp [Jb]) (by simp; omega) (by omega))
        | (simp only [List.length_append, List.length_singleton]; omega)
        | trace_state
    · rw [hin] at hc1 hadd hinv
      simp only [if_true] at hadd hinv
      repeat' (first | refine Qp fun K' hK => ?_ | refine Qt fun K' hK => ?_ | refine Qq ?_ | refine Qr ?_ | refine Ql ?_ | ((first | refine Qs ⟨_, rfl, fun hc => ?_, fun hc => ?_⟩ | refine QQ (fun hc => ?_) (fun hc => ?_) | refine QR (fun hc => ?_) (fun hc => ?_)) <;> first | exact Bool.noConfusion hc | ((try simp only [znz] at hc); first | exact znf | skip)) | refine Qv ?_ | refine Qu ?_ | simp (maxSteps := 1000000) only [go_sem, Nat.reduceAdd, Nat.reduceMul, Nat.reduceEqDiff, Nat.reduceLeDiff, Nat.reduceLT, Nat.reduceSub, Int.reduceEq, Int.reduceBEq, Int.reduceLT, Int.reduceLE, Int.reduceAdd, Int.reduceToNat, reduceIte, reduceCtorEq, J0, e1, hwi, hwv, Kj] | (refine hK _ ?_; clear hK; clear K') | refine And.intro ?_ ?_ | (apply V9; (focus exact rfl); (focus first | exact n2 | exact (Jy _ _ _ zsd zsd) | exact (JT _ _ _ zsd zsd zsd zsd)); (focus exact rfl); (focus exact rfl)) | (apply XF; (focus first | exact (JX _ zsd))) | (apply QT; (focus first | exact hc1 | exact (Yh _ _ zsd).b)) | exact zlo | omega | exact zms)
      all_goals first
        | exact hL _ (i, a, k3) (Jb []) ⟨by simp only; omega, hadd, hk3, hinv⟩ (by simp only; omega) (Jd [] (by simp only [go_sem, Nat.reduceAdd, Nat.reduceMul, Nat.reduceEqDiff, Nat.reduceLT, Int.reduceToNat, reduceIte, reduceCtorEq, and_true, true_and, implies_true, Option.some.injEq, exists_eq_left', Qk, Qm]; (repeat' (first | rfl | refine And.intro ?_ ?_ | omega | exact fun h => h | exact Exists.intro _ rfl))) (by simp only [go_sem, Nat.reduceAdd, Nat.reduceMul, Nat.reduceEqDiff, Nat.reduceLT, Int.reduceToNat, reduceIte, reduceCtorEq, and_true, true_and, implies_true, Option.some.injEq, exists_eq_left', Qk, Qm]; (repeat' (first | rfl | refine And.intro ?_ ?_ | omega | exact fun h => h | exact Exists.intro _ rfl))) (by simp [Jb]) (by simp) (by omega))
        | trace_state
end Av
end
section
set_option linter.unusedSimpArgs false
set_option linter.unusedVariables false
set_option maxRecDepth 10000
set_option maxHeartbeats 4000000
namespace Av
open Go
attribute [local irreducible] AWp W8 V7 V8 awS awC KI awQ KY Ji XK KE awR XZ awB okR WO ris
end Av
end
section
set_option linter.unusedSimpArgs false
set_option linter.unusedVariables false
set_option maxRecDepth 10000
set_option maxHeartbeats 4000000
namespace Av
open Go
attribute [local irreducible] AWp W8 V7 V8 awS awC KI awQ KY Ji XK KE awR XZ awB okR WO ris
theorem adc (l : List Int) : ∃ (t : List UInt8) (e : Int), VA l = .tup [V.str t, V.int e] := by
  unfold VA; split
  · exact ⟨_, _, rfl⟩
  · split
    · exact ⟨_, _, rfl⟩
    · exact ⟨_, _, rfl⟩
def vh (l : List Int) (raw : List UInt8) (i : Nat) (s : List UInt8) (row : List Int) (k : Nat) : St :=
  J0 [(1, V.str raw), (2, .sl 1 (row.map V.int)), (7, .ptr 0 0), (8, V.str s), (9, V.int i)] [(0, .box true (Wh l k))] 1
def WT (KV VN qY Kc YF qX WZ Ka JU Ym XX Kb JF Q6 : Nat) : AC := QI [0, 1, 2] (.reg [mc 6 (V.bool false)]) (QI [0, 1, 2] (QI [0, 1, 2, 31] (.reg [mv 19 0, cl 20 KV [19], xo 21 (.un .not (.t 20)), mv 22 21, mg 23 1 22 false, xg 24 (.lenS (.t 23)) 22 false, xg 25 (.bin .gtr (.t 24) (.c (V.int 300))) 22 false, xo 26 (.pick (.t 22) (.c (V.bool true)) (.t 25)), mv 27 26, mg 28 2 27 false, xg 29 (.lenL (.t 28)) 27 false, xg 30 (.bin .gtr (.t 29) (.c (V.int 40))) 27 false, xo 31 (.pick (.t 27) (.c (V.bool true)) (.t 30))]) (.cond (.t 31) (QI [6] (.reg [cl 32 VN [], mv 6 32]) (.ret)) (.skip))) (QI [1, 2, 7] (.reg [mv 33 0, cl 34 qY [33], mv 7 34]) (QI [1, 2, 7, 8] (.reg [mv 35 7, cl 36 Kc [35], mv 8 36]) (QI [] (QI [1, 2, 7, 8, 9] (.reg [mc 9 (V.int 0)]) (.block 0 (X2 [1, 2, 7, 8, 9] (QI [1, 2, 7, 8, 9] (QI [1, 2, 7, 8, 9, 38] (.reg [mv 37 9, bc 38 .lss 37 (V.int 2)]) (.cond (.t 38) (.skip) (.exit 0))) (QI [1, 2, 7, 8, 9] (.block 1 (QI [1, 2, 7, 8, 9, 10, 11] (.reg [mv 42 8, cl 43 YF [42], mv 41 43, ex 44 41 0, ex 45 41 1, mv 10 44, mv 11 45]) (QI [1, 2, 7, 9, 10, 11, 12, 13] (.reg [mv 47 8, cl 48 qX [47], mv 46 48, ex 49 46 0, ex 50 46 1, mv 12 49, mv 13 50]) (QI [1, 2, 7, 9, 10, 11, 12, 13, 14, 15] (.reg [mv 52 2, cl 53 WZ [52], mv 51 53, ex 54 51 0, ex 55 51 1, mv 14 54, mv 15 55]) (QI [1, 2, 7, 9, 10, 11, 12, 13, 14, 15, 16, 17] (.reg [mv 57 2, cl 58 Ka [57], mv 56 58, ex 59 56 0, ex 60 56 1, mv 16 59, mv 17 60]) (QI [1, 7, 9] (QI [1, 7, 9, 87] (.reg [mv 61 11, mv 62 13, xo 63 (.eqb true (.t 61) (.t 62)), mv 64 63, mg 65 10 64 false, mg 66 12 64 false, xg 67 (.call JU [(.t 65), (.t 66)]) 64 false, xg 68 (.un .not (.t 67)) 64 false, xo 69 (.pick (.t 64) (.c (V.bool true)) (.t 68)), mv 70 69, mg 71 15 70 false, mg 72 17 70 false, xg 73 (.bin .neq (.t 71) (.t 72)) 70 false, xo 74 (.pick (.t 70) (.c (V.bool true)) (.t 73)), mv 75 74, mg 76 14 75 false, mg 77 16 75 false, xg 78 (.bin .neq (.t 76) (.t 77)) 75 false, xo 79 (.pick (.t 75) (.c (V.bool true)) (.t 78)), mv 80 79, mg 81 2 80 false, xg 82 (.call Ym [(.t 81)]) 80 false, mg 83 2 80 false, xg 84 (.call XX [(.t 83)]) 80 false, xg 85 (.call JU [(.t 82), (.t 84)]) 80 false, xg 86 (.un .not (.t 85)) 80 false, xo 87 (.pick (.t 80) (.c (V.bool true)) (.t 86))]) (.cond (.t 87) (QI [6] (.reg [mc 6 (V.bool false)]) (.ret)) (.skip))) (.reg [mv 88 1, mv 89 7, cl 90 Kb [89], mv 8 88, mv 2 90]))))))) (.reg [mv 39 9, bc 40 .add 39 (V.int 1), mv 9 40])))))) (QI [] (QI [18] (.reg [mc 18 (V.int (-1))]) (.block 2 (X2 [18] (QI [18] (QI [18, 92] (.reg [mv 91 18, bc 92 .lss 91 (V.int 20)]) (.cond (.t 92) (.skip) (.exit 2))) (QI [18] (.block 3 (QI [18, 99] (.reg [mv 95 18, cl 96 JF [95], mv 97 18, cl 98 Q6 [97], bn 99 .neq 96 98]) (.cond (.t 99) (QI [6] (.reg [mc 6 (V.bool false)]) (.ret)) (.skip)))) (.reg [mv 93 18, bc 94 .add 93 (V.int 1), mv 18 94])))))) (QI [6] (.reg [cl 100 VN [], mv 6 100]) (.ret))))))) def r_law08_SuitespecSets : List XG := [.tmp 6]
def Ua (Γ : Env) (f : Nat) : Prop := ∀ (l : List Int) (raw : List UInt8) (row : List Int), EvN Γ f [.sl 1 (l.map V.int), V.str raw, .sl 1 (row.map V.int)] (V.bool true)
theorem jH {Γ : Env} {f KV VN qY Kc YF qX WZ Ka JU Ym XX Kb JF Q6 : Nat} (h : Has Γ.P f 101 (WT KV VN qY Kc YF qX WZ Ka JU Ym XX Kb JF Q6) r_law08_SuitespecSets) (Wj : jp Γ KV) (XT : qr Γ VN) (Ww : yb Γ qY) (Xr : qq Γ Kc) (Q7 : Vl Γ YF) (Wu : j8 Γ qX) (Yd : VZ Γ WZ) (Xp : qm Γ Ka) (Jz : W4 Γ JU) (Q4 : W3 Γ Ym) (JX : Kf Γ XX) (Xq : qp Γ Kb) (JE : X0 Γ JF) (Q5 : Wf Γ Q6) : Ua Γ f := by
  intro l raw row
  refine Jc h (by simp) (by simp only [V.closed, QK, V.noSl, JM, and_self, and_true, true_and]) (by simp only [V.closed, QK, V.noSl, JM, and_self, and_true, true_and]) fun C hC hm => ?_
  subst hC
  unfold WT
  by_cases hlen : l.length ≤ 400
  · have e0 : decide ((l.length : Int) ≤ 400) = true := by simp; omega
    by_cases hraw : raw.length > 300
    · have e1 : decide ((raw.length : Int) > 300) = true := by simp; omega
      repeat' (first | refine Qp fun K' hK => ?_ | refine Qt fun K' hK => ?_ | refine Qq ?_ | refine Qr ?_ | refine Ql ?_ | ((first | refine Qs ⟨_, rfl, fun hc => ?_, fun hc => ?_⟩ | refine QQ (fun hc => ?_) (fun hc => ?_) | refine QR (fun hc => ?_) (fun hc => ?_)) <;> first | exact Bool.noConfusion hc | ((try simp only [znz] at hc); first | exact znf | skip)) | refine Qv ?_ | refine Qu ?_ | simp (maxSteps := 1000000) only [go_sem, Nat.reduceAdd, Nat.reduceMul, Nat.reduceEqDiff, Nat.reduceLeDiff, Nat.reduceLT, Nat.reduceSub, Int.reduceEq, Int.reduceBEq, Int.reduceLT, Int.reduceLE, Int.reduceAdd, Int.reduceToNat, reduceIte, reduceCtorEq, e0, e1] | (refine hK _ ?_; clear hK; clear K') | refine And.intro ?_ ?_ | (apply V9; (focus exact rfl); (focus first | exact (Xr _ _ zsd zsd) | exact (Xq _ _ zsd zsd)); (focus exact rfl); (focus exact rfl)) | (apply wF; (focus first | exact (Ww _))) | (apply XF; (focus first | exact (Q4 _ zsd) | exact (JX _ zsd))) | (apply QT; (focus first | exact (Wj _).b | exact EvN.b XT | exact (Q7 _ zsd).b | exact (Wu _ zsd).b | exact (Yd _ zsd).b | exact (Xp _ zsd).b | exact (Jz _ _ zsd).b | exact (JE _).b | exact (Q5 _).b)) | exact zlo | omega | exact zms)
      all_goals first | (refine Ja _ rfl ?_; simp only [go_sem, Nat.reduceEqDiff, Nat.reduceAdd, reduceIte, reduceCtorEq]; done) | trace_state
    · have e1 : decide ((raw.length : Int) > 300) = false := by simp; omega
      by_cases hrow : row.length > 40
      · have e2 : decide ((row.length : Int) > 40) = true := by simp; omega
        repeat' (first | refine Qp fun K' hK => ?_ | refine Qt fun K' hK => ?_ | refine Qq ?_ | refine Qr ?_ | refine Ql ?_ | ((first | refine Qs ⟨_, rfl, fun hc => ?_, fun hc => ?_⟩ | refine QQ (fun hc => ?_) (fun hc => ?_) | refine QR (fun hc => ?_) (fun hc => ?_)) <;> first | exact Bool.noConfusion hc | ((try simp only [znz] at hc); first | exact znf | skip)) | refine Qv ?_ | refine Qu ?_ | simp (maxSteps := 1000000) only [go_sem, Nat.reduceAdd, Nat.reduceMul, Nat.reduceEqDiff, Nat.reduceLeDiff, Nat.reduceLT, Nat.reduceSub, Int.reduceEq, Int.reduceBEq, Int.reduceLT, Int.reduceLE, Int.reduceAdd, Int.reduceToNat, reduceIte, reduceCtorEq, e0, e1, e2, List.length_map] | (refine hK _ ?_; clear hK; clear K') | refine And.intro ?_ ?_ | (apply V9; (focus exact rfl); (focus first | exact (Xr _ _ zsd zsd) | exact (Xq _ _ zsd zsd)); (focus exact rfl); (focus exact rfl)) | (apply wF; (focus first | exact (Ww _))) | (apply XF; (focus first | exact (Q4 _ zsd) | exact (JX _ zsd))) | (apply QT; (focus first | exact (Wj _).b | exact EvN.b XT | exact (Q7 _ zsd).b | exact (Wu _ zsd).b | exact (Yd _ zsd).b | exact (Xp _ zsd).b | exact (Jz _ _ zsd).b | exact (JE _).b | exact (Q5 _).b)) | exact zlo | omega | exact zms)
        all_goals first | (refine Ja _ rfl ?_; simp only [go_sem, Nat.reduceEqDiff, Nat.reduceAdd, reduceIte, reduceCtorEq]; done) | trace_state
      · have e2 : decide ((row.length : Int) > 40) = false := by simp; omega
        have n1 := Ww l
        have n2 := Xr l 0 hlen (Nat.zero_le _)
        have hk0 := afJ (l := l) (k := 0) (Nat.zero_le _)
        have hs0 := aeA (l := l) (k := 0) (Nat.zero_le _)
        generalize aaZ l 0 = q at *
        obtain ⟨s0, k0⟩ := q
        simp only at n2 hk0 hs0
        simp only [Wh] at n1 n2
        repeat' (first | refine Qp fun K' hK => ?_ | refine Qt fun K' hK => ?_ | refine Qq ?_ | refine Qr ?_ | refine Ql ?_ | ((first | refine Qs ⟨_, rfl, fun hc => ?_, fun hc => ?_⟩ | refine QQ (fun hc => ?_) (fun hc => ?_) | refine QR (fun hc => ?_) (fun hc => ?_)) <;> first | exact Bool.noConfusion hc | ((try simp only [znz] at hc); first | exact znf | skip)) | refine Qv ?_ | refine Qu ?_ | simp (maxSteps := 1000000) only [go_sem, Nat.reduceAdd, Nat.reduceMul, Nat.reduceEqDiff, Nat.reduceLeDiff, Nat.reduceLT, Nat.reduceSub, Int.reduceEq, Int.reduceBEq, Int.reduceLT, Int.reduceLE, Int.reduceAdd, Int.reduceToNat, reduceIte, reduceCtorEq, e0, e1, e2, List.length_map] | (refine hK _ ?_; clear hK; clear K') | refine And.intro ?_ ?_ | (apply V9; (focus exact rfl); (focus first | exact n2 | exact (Xr _ _ zsd zsd) | exact (Xq _ _ zsd zsd)); (focus exact rfl); (focus exact rfl)) | (apply wF; (focus first | exact n1 | exact (Ww _))) | (apply XF; (focus first | exact (Q4 _ zsd) | exact (JX _ zsd))) | (apply QT; (focus first | exact (Wj _).b | exact EvN.b XT | exact (Q7 _ zsd).b | exact (Wu _ zsd).b | exact (Yd _ zsd).b | exact (Xp _ zsd).b | exact (Jz _ _ zsd).b | exact (JE _).b | exact (Q5 _).b)) | exact zlo | omega | exact zms)
        refine Ju (ι := Nat × List UInt8 × List Int × Nat) (fun q => q.1 ≤ 2 ∧ q.2.1.length ≤ 5000 ∧ q.2.2.1.length ≤ 40 ∧ q.2.2.2 ≤ l.length) (fun q => vh l raw q.1 q.2.1 q.2.2.1 q.2.2.2) (fun q => 2 - q.1) (0, s0, row, k0) ⟨by simp only; omega, by simp only; omega, by simp only; omega, hk0⟩ (Jb [(0, 15000)]) (Jd [(0, 15000)] (by simp only [go_sem, Nat.reduceAdd, Nat.reduceMul, Nat.reduceEqDiff, Nat.reduceLT, Int.reduceToNat, reduceIte, reduceCtorEq, and_true, true_and, implies_true, Option.some.injEq, exists_eq_left', Qk, Qm, vh, Wh, J0]; (repeat' (first | rfl | refine And.intro ?_ ?_ | omega | exact fun h => h | exact Exists.intro _ rfl))) (by simp only [go_sem, Nat.reduceAdd, Nat.reduceMul, Nat.reduceEqDiff, Nat.reduceLT, Int.reduceToNat, reduceIte, reduceCtorEq, and_true, true_and, implies_true, Option.some.injEq, exists_eq_left', Qk, Qm, vh, Wh, J0]; (repeat' (first | rfl | refine And.intro ?_ ?_ | omega | exact fun h => h | exact Exists.intro _ rfl))) (by simp [Jb]) (by simp; omega) (by omega)) fun q hq K' hL => ?_
        obtain ⟨i, s, r, k⟩ := q
        simp only at hq hL ⊢
        obtain ⟨hq1, hq2, hq3, hq4⟩ := hq
        by_cases hi : i = 2
        · subst hi
          have e3 : decide (((2 : Nat) : Int) < 2) = false := rfl
          repeat' (first | refine Qp fun K' hK => ?_ | refine Qt fun K' hK => ?_ | refine Qq ?_ | refine Qr ?_ | refine Ql ?_ | ((first | refine Qs ⟨_, rfl, fun hc => ?_, fun hc => ?_⟩ | refine QQ (fun hc => ?_) (fun hc => ?_) | refine QR (fun hc => ?_) (fun hc => ?_)) <;> first | exact Bool.noConfusion hc | ((try simp only [znz] at hc); first | exact znf | skip)) | refine Qv ?_ | refine Qu ?_ | simp (maxSteps := 1000000) only [go_sem, Nat.reduceAdd, Nat.reduceMul, Nat.reduceEqDiff, Nat.reduceLeDiff, Nat.reduceLT, Nat.reduceSub, Int.reduceEq, Int.reduceBEq, Int.reduceLT, Int.reduceLE, Int.reduceAdd, Int.reduceToNat, reduceIte, reduceCtorEq, vh, Wh, J0, e3] | (refine hK _ ?_; clear hK; clear K') | refine And.intro ?_ ?_ | (apply V9; (focus exact rfl); (focus first | exact (Xr _ _ zsd zsd) | exact (Xq _ _ zsd zsd)); (focus exact rfl); (focus exact rfl)) | (apply wF; (focus first | exact (Ww _))) | (apply XF; (focus first | exact (Q4 _ zsd) | exact (JX _ zsd))) | (apply QT; (focus first | exact (Wj _).b | exact EvN.b XT | exact (Q7 _ zsd).b | exact (Wu _ zsd).b | exact (Yd _ zsd).b | exact (Xp _ zsd).b | exact (Jz _ _ zsd).b | exact (JE _).b | exact (Q5 _).b)) | exact zlo | omega | exact zms)
          refine Xb (ι := Int) (fun j => -1 ≤ j ∧ j ≤ 20) (fun j => [(18, V.int j)]) (fun j => (20 - j).toNat) (-1) (by omega) ⟨by omega, by omega⟩ (by repeat' first | exact XR | refine WR (by omega) (by simp only [Ob.lt, ltL, V.lt, and_self, and_true]; try omega) ?_) (fun i hi => by simp only [ovT, JV, Nat.reduceEqDiff, reduceIte]; (repeat' first | exact WQ | refine XQ ?_ ?_ | simp only [V.lt, ltL, and_self, and_true] | omega)) (by simp only [Nat.reduceAdd, ovT, JV, Nat.reduceEqDiff, reduceIte, Jr, JQ, qv, u32, u33, u34, u35, u36, u37, u38, u39, and_self, and_true, true_and]) fun j hj K'' hL2 => ?_
          simp only [ovT, JV, Nat.reduceEqDiff, reduceIte]
          by_cases hj2 : j < 20
          · have e4 : decide (j < 20) = true := decide_eq_true hj2
            have hw : IntKind.i64.wrap (j + 1) = j + 1 := JY (by omega) (by omega)
            have hb : (qF j != qF j) = false := by simp
            repeat' (first | refine Qp fun K' hK => ?_ | refine Qt fun K' hK => ?_ | refine Qq ?_ | refine Qr ?_ | refine Ql ?_ | ((first | refine Qs ⟨_, rfl, fun hc => ?_, fun hc => ?_⟩ | refine QQ (fun hc => ?_) (fun hc => ?_) | refine QR (fun hc => ?_) (fun hc => ?_)) <;> first | exact Bool.noConfusion hc | ((try simp only [znz] at hc); first | exact znf | skip)) | refine Qv ?_ | refine Qu ?_ | simp (maxSteps := 1000000) only [go_sem, Nat.reduceAdd, Nat.reduceMul, Nat.reduceEqDiff, Nat.reduceLeDiff, Nat.reduceLT, Nat.reduceSub, Int.reduceEq, Int.reduceBEq, Int.reduceLT, Int.reduceLE, Int.reduceAdd, Int.reduceToNat, reduceIte, reduceCtorEq, e4, hw, hb] | (refine hK _ ?_; clear hK; clear K') | refine And.intro ?_ ?_ | (apply V9; (focus exact rfl); (focus first | exact (Xr _ _ zsd zsd) | exact (Xq _ _ zsd zsd)); (focus exact rfl); (focus exact rfl)) | (apply wF; (focus first | exact (Ww _))) | (apply XF; (focus first | exact (Q4 _ zsd) | exact (JX _ zsd))) | (apply QT; (focus first | exact (Wj _).b | exact EvN.b XT | exact (Q7 _ zsd).b | exact (Wu _ zsd).b | exact (Yd _ zsd).b | exact (Xp _ zsd).b | exact (Jz _ _ zsd).b | exact (JE _).b | exact (Q5 _).b)) | exact zlo | omega | exact zms)
            all_goals first | exact hL2 _ (j + 1) (by simp only [Nat.reduceAdd, ovT, JV, Nat.reduceEqDiff, reduceIte, Jr, JQ, qv, u32, u33, u34, u35, u36, u37, u38, u39, and_self, and_true, true_and]) ⟨by omega, by omega⟩ (by omega) (fun a ha => by simp only [u32, u33, u34, u35, u36, u37, u38, u39]; repeat rw [if_neg (by omega)]) | trace_state
          · have e4 : decide (j < 20) = false := decide_eq_false hj2
            repeat' (first | refine Qp fun K' hK => ?_ | refine Qt fun K' hK => ?_ | refine Qq ?_ | refine Qr ?_ | refine Ql ?_ | ((first | refine Qs ⟨_, rfl, fun hc => ?_, fun hc => ?_⟩ | refine QQ (fun hc => ?_) (fun hc => ?_) | refine QR (fun hc => ?_) (fun hc => ?_)) <;> first | exact Bool.noConfusion hc | ((try simp only [znz] at hc); first | exact znf | skip)) | refine Qv ?_ | refine Qu ?_ | simp (maxSteps := 1000000) only [go_sem, Nat.reduceAdd, Nat.reduceMul, Nat.reduceEqDiff, Nat.reduceLeDiff, Nat.reduceLT, Nat.reduceSub, Int.reduceEq, Int.reduceBEq, Int.reduceLT, Int.reduceLE, Int.reduceAdd, Int.reduceToNat, reduceIte, reduceCtorEq, e4] | (refine hK _ ?_; clear hK; clear K') | refine And.intro ?_ ?_ | (apply V9; (focus exact rfl); (focus first | exact (Xr _ _ zsd zsd) | exact (Xq _ _ zsd zsd)); (focus exact rfl); (focus exact rfl)) | (apply wF; (focus first | exact (Ww _))) | (apply XF; (focus first | exact (Q4 _ zsd) | exact (JX _ zsd))) | (apply QT; (focus first | exact (Wj _).b | exact EvN.b XT | exact (Q7 _ zsd).b | exact (Wu _ zsd).b | exact (Yd _ zsd).b | exact (Xp _ zsd).b | exact (Jz _ _ zsd).b | exact (JE _).b | exact (Q5 _).b)) | exact zlo | omega | exact zms)
            all_goals first | (refine Ja _ rfl ?_; simp only [go_sem, Nat.reduceEqDiff, Nat.reduceAdd, reduceIte, reduceCtorEq]; done) | trace_state
        · have e3 : decide ((i : Int) < 2) = true := by simp; omega
          have hwi := JD (k := i) (by omega)
          have a1 := (Q7 s (by omega)).b
          have a2 := (Wu s (by omega)).b
          have a3 := (Yd r (by omega)).b
          have a4 := (Xp r (by omega)).b
          have w1 := Q4 r hq3
          have w2 := JX r (by omega)
          have hsl : (Kl r).length < 2 ^ 62 := by rw [y4]; omega
          have a6 := (Jz (Kl r) (Kl r) hsl).b
          have hset : (y5 s).1.length ≤ 2 ^ 60 := by
            have := abl s; omega
          have a5 := (Jz (y5 s).1 (y5 s).1 (by omega)).b
          rw [ad3] at a5 a6
          obtain ⟨t, e, hp⟩ := adc r
          rw [hp] at a3 a4
          generalize y5 s = z at *
          obtain ⟨z1, z2⟩ := z
          simp only at a1 a2 a5
          have n3 := Xq l k hlen hq4
          obtain ⟨hr, hk⟩ := aee (l := l) (k := k) hq4
          have hrl := afI hr.nd hr.rg
          generalize yA l k = u at *
          obtain ⟨r2, k2⟩ := u
          simp only at n3 hr hk hrl
          simp only [Wh] at n3
          have hb1 : (e != e) = false := by simp
          have hb2 : (t == t) = true := by simp
          have hb3 : (z2 != z2) = false := by simp
          generalize Kl r = so at *
          cases z2
          all_goals
            repeat' (first | refine Qp fun K' hK => ?_ | refine Qt fun K' hK => ?_ | refine Qq ?_ | refine Qr ?_ | refine Ql ?_ | ((first | refine Qs ⟨_, rfl, fun hc => ?_, fun hc => ?_⟩ | refine QQ (fun hc => ?_) (fun hc => ?_) | refine QR (fun hc => ?_) (fun hc => ?_)) <;> first | exact Bool.noConfusion hc | ((try simp only [znz] at hc); first | exact znf | skip)) | refine Qv ?_ | refine Qu ?_ | simp (maxSteps := 1000000) only [go_sem, Nat.reduceAdd, Nat.reduceMul, Nat.reduceEqDiff, Nat.reduceLeDiff, Nat.reduceLT, Nat.reduceSub, Int.reduceEq, Int.reduceBEq, Int.reduceLT, Int.reduceLE, Int.reduceAdd, Int.reduceToNat, reduceIte, reduceCtorEq, vh, Wh, J0, e3, hwi, hb1, hb2, hb3, List.take_length] | (refine hK _ ?_; clear hK; clear K') | refine And.intro ?_ ?_ | (apply V9; (focus exact rfl); (focus first | exact n3 | exact (Xr _ _ zsd zsd) | exact (Xq _ _ zsd zsd)); (focus exact rfl); (focus exact rfl)) | (apply wF; (focus first | exact (Ww _))) | (apply XF; (focus first | exact w1 | exact w2 | exact (Q4 _ zsd) | exact (JX _ zsd))) | (apply QT; (focus first | exact a1 | exact a2 | exact a3 | exact a4 | exact a5 | exact a6 | exact (Wj _).b | exact EvN.b XT | exact (Q7 _ zsd).b | exact (Wu _ zsd).b | exact (Yd _ zsd).b | exact (Xp _ zsd).b | exact (Jz _ _ zsd).b | exact (JE _).b | exact (Q5 _).b)) | exact zlo | omega | exact zms)
            all_goals first | exact hL _ (i + 1, raw, r2, k2) (Jb []) ⟨by simp only; omega, by simp only; omega, by simp only; omega, hk⟩ (by simp only; omega) (Jd [] (by simp only [go_sem, Nat.reduceAdd, Nat.reduceMul, Nat.reduceEqDiff, Nat.reduceLT, Int.reduceToNat, reduceIte, reduceCtorEq, and_true, true_and, implies_true, Option.some.injEq, exists_eq_left', Qk, Qm, vh, Wh, J0]; (repeat' (first | rfl | refine And.intro ?_ ?_ | omega | exact fun h => h | exact Exists.intro _ rfl))) (by simp only [go_sem, Nat.reduceAdd, Nat.reduceMul, Nat.reduceEqDiff, Nat.reduceLT, Int.reduceToNat, reduceIte, reduceCtorEq, and_true, true_and, implies_true, Option.some.injEq, exists_eq_left', Qk, Qm, vh, Wh, J0]; (repeat' (first | rfl | refine And.intro ?_ ?_ | omega | exact fun h => h | exact Exists.intro _ rfl))) (by simp [Jb]) (by simp) (by omega)) | trace_state
  · have e0 : decide ((l.length : Int) ≤ 400) = false := by simp; omega
    repeat' (first | refine Qp fun K' hK => ?_ | refine Qt fun K' hK => ?_ | refine Qq ?_ | refine Qr ?_ | refine Ql ?_ | ((first | refine Qs ⟨_, rfl, fun hc => ?_, fun hc => ?_⟩ | refine QQ (fun hc => ?_) (fun hc => ?_) | refine QR (fun hc => ?_) (fun hc => ?_)) <;> first | exact Bool.noConfusion hc | ((try simp only [znz] at hc); first | exact znf | skip)) | refine Qv ?_ | refine Qu ?_ | simp (maxSteps := 1000000) only [go_sem, Nat.reduceAdd, Nat.reduceMul, Nat.reduceEqDiff, Nat.reduceLeDiff, Nat.reduceLT, Nat.reduceSub, Int.reduceEq, Int.reduceBEq, Int.reduceLT, Int.reduceLE, Int.reduceAdd, Int.reduceToNat, reduceIte, reduceCtorEq, e0] | (refine hK _ ?_; clear hK; clear K') | refine And.intro ?_ ?_ | (apply V9; (focus exact rfl); (focus first | exact (Xr _ _ zsd zsd) | exact (Xq _ _ zsd zsd)); (focus exact rfl); (focus exact rfl)) | (apply wF; (focus first | exact (Ww _))) | (apply XF; (focus first | exact (Q4 _ zsd) | exact (JX _ zsd))) | (apply QT; (focus first | exact (Wj _).b | exact EvN.b XT | exact (Q7 _ zsd).b | exact (Wu _ zsd).b | exact (Yd _ zsd).b | exact (Xp _ zsd).b | exact (Jz _ _ zsd).b | exact (JE _).b | exact (Q5 _).b)) | exact zlo | omega | exact zms)
    all_goals first | (refine Ja _ rfl ?_; simp only [go_sem, Nat.reduceEqDiff, Nat.reduceAdd, reduceIte, reduceCtorEq]; done) | trace_state
end Av
end

/- Slices of bytes. -/
import Derived.Test.YtmekajmjncbhgaaDoorK19
import Derived.Test.YtmekajmjncbhgaaDoorK11
import Derived.Test.YtmekajmjncbhgaaDoorK12
import Derived.Test.YtmekajmjncbhgaaDoorK14
set_option linter.unusedVariables false
set_option linter.unusedSimpArgs false
section
set_option linter.unusedSimpArgs false
set_option linter.unusedVariables false
set_option maxRecDepth 10000
set_option maxHeartbeats 4000000
namespace Av
open Go
attribute [local irreducible] AWp W8 V7 V8 awS awC KI awQ KY Ji XK KE awR XZ awB okR WO ris
theorem afq {lt : Int → Int → Bool} (xs : List Int) : yn lt xs 0 xs.length = XH lt xs := by simp [yn]
theorem ahG (lt : Int → Int → Bool) (xs : List Int) : (if 0 = xs.length then xs.map V.int else (yn lt xs 0 xs.length).map V.int) = (XH lt xs).map V.int := by
  split
  · rename_i h
    have : xs = [] := List.eq_nil_of_length_eq_zero h.symm
    subst this; rfl
  · rw [afq]
theorem aen {lt : Int → Int → Bool} {X Y : List Int} {n : Nat} (h : n = X.length) : yn lt (X ++ Y) 0 n = XH lt X ++ Y := by
  subst h; simp [yn]
theorem afo {lt : Int → Int → Bool} {X Y : List Int} {m n : Nat} (h : m = X.length) (h' : n = X.length + Y.length) : yn lt (X ++ Y) m n = X ++ XH lt Y := by
  subst h; subst h'; simp [yn, List.take_of_length_le]
def XI (Q8 Jf : Nat) : AC := QI [0, 1, 2, 6] (.reg [mc 6 (V.int 20)]) (QI [0, 1, 2, 6, 7, 8] (.reg [mv 10 6, mc 7 (V.int 0), mv 8 10]) (QI [0, 1, 2, 6, 7] (.block 0 (X2 [0, 1, 2, 6, 7, 8] (QI [0, 1, 2, 6, 7, 8] (QI [0, 1, 2, 6, 7, 8, 13] (.reg [mv 11 8, mv 12 1, bn 13 .leq 11 12]) (.cond (.t 13) (.skip) (.exit 0))) (.block 1 (QI [0, 1, 2, 6, 8] (.reg [mv 14 0, mv 15 7, mv 16 8, mv 17 2, cl 18 Q8 [14, 15, 16, 17]]) (QI [0, 1, 2, 6, 7, 8] (.reg [mv 19 8, mv 7 19]) (.reg [mv 20 8, mv 21 6, bn 22 .add 20 21, mv 8 22]))))))) (QI [0, 1, 2, 6] (.reg [mv 23 0, mv 24 7, mv 25 1, mv 26 2, cl 27 Q8 [23, 24, 25, 26]]) (.block 2 (X2 [0, 1, 2, 6] (QI [0, 1, 2, 6] (QI [0, 1, 2, 6, 30] (.reg [mv 28 6, mv 29 1, bn 30 .lss 28 29]) (.cond (.t 30) (.skip) (.exit 2))) (.block 3 (QI [0, 1, 2, 6, 7, 8] (.reg [mv 31 6, xo 32 (.bin .mul (.c (V.int 2)) (.t 31)), mc 7 (V.int 0), mv 8 32]) (QI [0, 1, 2, 6, 7] (.block 4 (X2 [0, 1, 2, 6, 7, 8] (QI [0, 1, 2, 6, 7, 8] (QI [0, 1, 2, 6, 7, 8, 35] (.reg [mv 33 8, mv 34 1, bn 35 .leq 33 34]) (.cond (.t 35) (.skip) (.exit 4))) (.block 5 (QI [0, 1, 2, 6, 8] (.reg [mv 36 0, mv 37 7, mv 38 7, mv 39 6, bn 40 .add 38 39, mv 41 8, mv 42 2, cl 43 Jf [36, 37, 40, 41, 42]]) (QI [0, 1, 2, 6, 7, 8] (.reg [mv 44 8, mv 7 44]) (.reg [mv 45 8, mv 46 6, xo 47 (.bin .mul (.c (V.int 2)) (.t 46)), bn 48 .add 45 47, mv 8 48]))))))) (QI [0, 1, 2, 6] (QI [0, 1, 2, 6, 7, 9] (.reg [mv 49 7, mv 50 6, bn 51 .add 49 50, mv 9 51]) (QI [0, 1, 2, 6, 7, 9, 54] (.reg [mv 52 9, mv 53 1, bn 54 .lss 52 53]) (.cond (.t 54) (.reg [mv 55 0, mv 56 7, mv 57 9, mv 58 1, mv 59 2, cl 60 Jf [55, 56, 57, 58, 59]]) (.skip)))) (.reg [mv 61 6, bc 62 .mul 61 (V.int 2), mv 6 62]))))))))))) def r_slices_stableCmpFunc_int : List XG := []
def XD (Γ : Env) (f : Nat) : Prop := ∀ (xs : List Int) (g : Nat) (c : Int → Int → Int) (key : Int → Int) (hcmp : ∀ x y, EvN Γ g [V.int x, V.int y] (V.int (c x y))) (hkey : ∀ x y, decide (c x y < 0) = ltK key x y) (hx : xs.length ≤ 40), EvL Γ f [V.int xs.length, .clo g []] 1 (xs.map V.int) (.tup []) (((XH (fun x y => decide (c x y < 0)) xs).map V.int))
theorem Ks {Γ : Env} {f Q8 Jf : Nat} (h : Has Γ.P f 63 (XI Q8 Jf) r_slices_stableCmpFunc_int) (QC : Yx Γ Q8) (QL : Xn Γ Jf) : XD Γ f := by
  intro xs g c key hcmp hkey hx
  refine Ug h (by simp) (by simp only [V.closed, QK, V.noSl, JM, and_self, and_true, true_and]) fun C hC hm => ?_
  subst hC
  unfold XI
  by_cases h21 : 20 < xs.length
  · have hfun : (fun x y => decide (c x y < 0)) = ltK key := by funext x y; exact hkey x y
    obtain ⟨X, Y, hXY, hX⟩ : ∃ X Y, xs = X ++ Y ∧ X.length = 20 := ⟨xs.take 20, xs.drop 20, (List.take_append_drop _ _).symm, by simp; omega⟩
    have hnl : xs.length = 20 + Y.length := by rw [hXY, List.length_append, hX]
    have hi1 := QC xs 0 20 g c hcmp (by omega) (by omega) (by omega)
    rw [if_neg (by omega), hXY, aen hX.symm] at hi1
    have hSX : (XH (fun x y => decide (c x y < 0)) X).length = 20 := by rw [jK, hX]
    have hi2 := QC (XH (fun x y => decide (c x y < 0)) X ++ Y) 20 xs.length g c hcmp (by omega) (by rw [List.length_append, hSX]; omega) (by rw [List.length_append, hSX]; omega)
    rw [if_neg (by omega), afo hSX.symm (by rw [hSX]; omega)] at hi2
    have hSY : (XH (fun x y => decide (c x y < 0)) Y).length = Y.length := jK _ _
    have hso : XH (fun x y => decide (c x y < 0)) xs = KQ key (XH (fun x y => decide (c x y < 0)) X) (XH (fun x y => decide (c x y < 0)) Y) := by rw [hXY, hfun, ago]
    have hme := QL [] (XH (fun x y => decide (c x y < 0)) X) (XH (fun x y => decide (c x y < 0)) Y) [] g c key hcmp hkey (by rw [hfun]; exact abk key X) (by rw [hfun]; exact abk key Y) (by omega) (by omega) (by rw [hSX, hSY]; simp; omega)
    have hsl : (XH (fun x y => decide (c x y < 0)) xs).length = xs.length := jK _ _
    rw [← hso, hSX, hSY] at hme
    simp only [List.nil_append, List.append_nil, List.length_nil, Nat.zero_add] at hme
    rw [← hnl] at hme
    rw [← hXY] at hi1
    generalize XH (fun x y => decide (c x y < 0)) X = SX at *
    generalize XH (fun x y => decide (c x y < 0)) Y = SY at *
    generalize XH (fun x y => decide (c x y < 0)) xs = SS at *
    have hl1 : (SX ++ Y).length = xs.length := by rw [List.length_append]; omega
    have hl2 : (SX ++ SY).length = xs.length := by rw [List.length_append]; omega
    have g1 : EvL C.env Q8 [V.int 0, V.int 20, .clo g []] 1 (xs.map V.int) (.tup []) ((SX ++ Y).map V.int) := hi1
    have g2 : EvL C.env Q8 [V.int 20, V.int xs.length, .clo g []] 1 ((SX ++ Y).map V.int) (.tup []) ((SX ++ SY).map V.int) := hi2
    have g4 : EvL C.env Jf [V.int 0, V.int 20, V.int xs.length, .clo g []] 1 ((SX ++ SY).map V.int) (.tup []) (SS.map V.int) := hme
    have q1 : decide ((20 : Int) ≤ (xs.length : Int)) = true := by simp; omega
    have q2 : decide ((20 : Int) < (xs.length : Int)) = true := by simp; omega
    have q3 : decide ((40 : Int) < (xs.length : Int)) = false := by simp; omega
    have q4 : decide ((60 : Int) ≤ (xs.length : Int)) = false := by simp; omega
    have q5 : decide ((60 : Int) < (xs.length : Int)) = false := by simp; omega
    have q6 : decide ((80 : Int) ≤ (xs.length : Int)) = false := by simp; omega
    by_cases h40 : xs.length = 40
    · have hi3 := QC (SX ++ SY) 40 40 g c hcmp (by omega) (by omega) (by omega)
      rw [if_pos rfl] at hi3
      have g3 : EvL C.env Q8 [V.int 40, V.int 40, .clo g []] 1 ((SX ++ SY).map V.int) (.tup []) ((SX ++ SY).map V.int) := hi3
      rw [h40] at g2 g4 hl1 hl2 hsl
      have e40 : ((40 : Nat) : Int) = 40 := rfl
      rw [h40, e40]
      rw [e40] at g2 g4
      have hlx : (xs.map V.int).length = 40 := by rw [List.length_map, h40]
      have hly : ((SX ++ Y).map V.int).length = 40 := by rw [List.length_map, hl1]
      have hlz : ((SX ++ SY).map V.int).length = 40 := by rw [List.length_map, hl2]
      have hls : (SS.map V.int).length = 40 := by rw [List.length_map, hsl]
      have hd1 : ∀ i : Nat, i < 3 → i = 0 ∨ i = 1 ∨ i = 2 := by omega
      repeat' (first | refine Qp fun K' hK => ?_ | refine Qt fun K' hK => ?_ | refine Qq ?_ | refine Qr ?_ | refine Ql ?_ | ((first | refine Qs ⟨_, rfl, fun hc => ?_, fun hc => ?_⟩ | refine QQ (fun hc => ?_) (fun hc => ?_) | refine QR (fun hc => ?_) (fun hc => ?_)) <;> first | exact Bool.noConfusion hc | ((try simp only [znz] at hc); first | exact znf | skip)) | refine Qv ?_ | refine Qu ?_ | simp (maxSteps := 1000000) only [go_sem, Nat.reduceAdd, Nat.reduceMul, Nat.reduceEqDiff, Nat.reduceLeDiff, Nat.reduceLT, Nat.reduceSub, Int.reduceEq, Int.reduceBEq, Int.reduceLT, Int.reduceLE, Int.reduceAdd, Int.reduceToNat, reduceIte, reduceCtorEq, hlx] | (refine hK _ ?_; clear hK; clear K') | refine And.intro ?_ ?_ | (apply JI; (focus exact rfl); (focus first | exact (QC _ _ _ _ _ zsd zsd zsd zsd) | exact (QL _ _ _ _ _ _ _ zsd zsd zsd zsd zsd zsd zsd)); (focus exact rfl); (focus (first | (simp; done) | omega | (simp only [List.length_map]; omega)))) | exact zlo | omega | exact zms)
      refine Ju (ι := Nat) (fun i => i < 3) (fun i => J0 [(0, .hd 0 0 40), (1, V.int 40), (2, .clo g []), (6, V.int 20), (7, V.int (if i = 0 then 0 else if i = 1 then 20 else 40)), (8, V.int (if i = 0 then 20 else if i = 1 then 40 else 60))] [(0, .buf true 1 ((if i = 0 then xs else if i = 1 then SX ++ Y else SX ++ SY).map V.int))] 1) (fun i => 3 - i) 0 (by omega) (Jb []) (Jd [] (by simp only [go_sem, Nat.reduceAdd, Nat.reduceMul, Nat.reduceEqDiff, Nat.reduceLT, Int.reduceToNat, reduceIte, reduceCtorEq, and_true, true_and, implies_true, Option.some.injEq, exists_eq_left', Qk, Qm, hlx]; (repeat' (first | rfl | refine And.intro ?_ ?_ | omega | exact fun h => h | exact Exists.intro _ rfl))) (by simp only [go_sem, Nat.reduceAdd, Nat.reduceMul, Nat.reduceEqDiff, Nat.reduceLT, Int.reduceToNat, reduceIte, reduceCtorEq, and_true, true_and, implies_true, Option.some.injEq, exists_eq_left', Qk, Qm]; (repeat' (first | rfl | refine And.intro ?_ ?_ | omega | exact fun h => h | exact Exists.intro _ rfl))) (by simp) (by simp) (by omega)) fun i hi K' hL => ?_
      rcases hd1 i hi with rfl | rfl | rfl
      · repeat' (first | refine Qp fun K' hK => ?_ | refine Qt fun K' hK => ?_ | refine Qq ?_ | refine Qr ?_ | refine Ql ?_ | ((first | refine Qs ⟨_, rfl, fun hc => ?_, fun hc => ?_⟩ | refine QQ (fun hc => ?_) (fun hc => ?_) | refine QR (fun hc => ?_) (fun hc => ?_)) <;> first | exact Bool.noConfusion hc | ((try simp only [znz] at hc); first | exact znf | skip)) | refine Qv ?_ | refine Qu ?_ | simp (maxSteps := 1000000) only [go_sem, Nat.reduceAdd, Nat.reduceMul, Nat.reduceEqDiff, Nat.reduceLeDiff, Nat.reduceLT, Nat.reduceSub, Int.reduceEq, Int.reduceBEq, Int.reduceLT, Int.reduceLE, Int.reduceAdd, Int.reduceToNat, reduceIte, reduceCtorEq, J0] | (refine hK _ ?_; clear hK; clear K') | refine And.intro ?_ ?_ | (apply JI; (focus exact rfl); (focus first | exact g1 | exact (QC _ _ _ _ _ zsd zsd zsd zsd) | exact (QL _ _ _ _ _ _ _ zsd zsd zsd zsd zsd zsd zsd)); (focus exact rfl); (focus (first | (simp; done) | omega | (simp only [List.length_map]; omega)))) | exact zlo | omega | exact zms)
        all_goals first | exact hL _ 1 (Jb []) (by omega) (by omega) (Jd [] (by simp only [go_sem, Nat.reduceAdd, Nat.reduceMul, Nat.reduceEqDiff, Nat.reduceLT, Int.reduceToNat, reduceIte, reduceCtorEq, and_true, true_and, implies_true, Option.some.injEq, exists_eq_left', Qk, Qm]; (repeat' (first | rfl | refine And.intro ?_ ?_ | omega | exact fun h => h | exact Exists.intro _ rfl))) (by simp only [go_sem, Nat.reduceAdd, Nat.reduceMul, Nat.reduceEqDiff, Nat.reduceLT, Int.reduceToNat, reduceIte, reduceCtorEq, and_true, true_and, implies_true, Option.some.injEq, exists_eq_left', Qk, Qm]; (repeat' (first | rfl | refine And.intro ?_ ?_ | omega | exact fun h => h | exact Exists.intro _ rfl))) (by simp) (by simp) (by omega)) | trace_state
      · repeat' (first | refine Qp fun K' hK => ?_ | refine Qt fun K' hK => ?_ | refine Qq ?_ | refine Qr ?_ | refine Ql ?_ | ((first | refine Qs ⟨_, rfl, fun hc => ?_, fun hc => ?_⟩ | refine QQ (fun hc => ?_) (fun hc => ?_) | refine QR (fun hc => ?_) (fun hc => ?_)) <;> first | exact Bool.noConfusion hc | ((try simp only [znz] at hc); first | exact znf | skip)) | refine Qv ?_ | refine Qu ?_ | simp (maxSteps := 1000000) only [go_sem, Nat.reduceAdd, Nat.reduceMul, Nat.reduceEqDiff, Nat.reduceLeDiff, Nat.reduceLT, Nat.reduceSub, Int.reduceEq, Int.reduceBEq, Int.reduceLT, Int.reduceLE, Int.reduceAdd, Int.reduceToNat, reduceIte, reduceCtorEq, J0] | (refine hK _ ?_; clear hK; clear K') | refine And.intro ?_ ?_ | (apply JI; (focus exact rfl); (focus first | exact g2 | exact (QC _ _ _ _ _ zsd zsd zsd zsd) | exact (QL _ _ _ _ _ _ _ zsd zsd zsd zsd zsd zsd zsd)); (focus exact rfl); (focus (first | (simp; done) | omega | (simp only [List.length_map]; omega)))) | exact zlo | omega | exact zms)
        all_goals first | exact hL _ 2 (Jb []) (by omega) (by omega) (Jd [] (by simp only [go_sem, Nat.reduceAdd, Nat.reduceMul, Nat.reduceEqDiff, Nat.reduceLT, Int.reduceToNat, reduceIte, reduceCtorEq, and_true, true_and, implies_true, Option.some.injEq, exists_eq_left', Qk, Qm]; (repeat' (first | rfl | refine And.intro ?_ ?_ | omega | exact fun h => h | exact Exists.intro _ rfl))) (by simp only [go_sem, Nat.reduceAdd, Nat.reduceMul, Nat.reduceEqDiff, Nat.reduceLT, Int.reduceToNat, reduceIte, reduceCtorEq, and_true, true_and, implies_true, Option.some.injEq, exists_eq_left', Qk, Qm]; (repeat' (first | rfl | refine And.intro ?_ ?_ | omega | exact fun h => h | exact Exists.intro _ rfl))) (by simp) (by simp) (by omega)) | trace_state
      · repeat' (first | refine Qp fun K' hK => ?_ | refine Qt fun K' hK => ?_ | refine Qq ?_ | refine Qr ?_ | refine Ql ?_ | ((first | refine Qs ⟨_, rfl, fun hc => ?_, fun hc => ?_⟩ | refine QQ (fun hc => ?_) (fun hc => ?_) | refine QR (fun hc => ?_) (fun hc => ?_)) <;> first | exact Bool.noConfusion hc | ((try simp only [znz] at hc); first | exact znf | skip)) | refine Qv ?_ | refine Qu ?_ | simp (maxSteps := 1000000) only [go_sem, Nat.reduceAdd, Nat.reduceMul, Nat.reduceEqDiff, Nat.reduceLeDiff, Nat.reduceLT, Nat.reduceSub, Int.reduceEq, Int.reduceBEq, Int.reduceLT, Int.reduceLE, Int.reduceAdd, Int.reduceToNat, reduceIte, reduceCtorEq, J0] | (refine hK _ ?_; clear hK; clear K') | refine And.intro ?_ ?_ | (apply JI; (focus exact rfl); (focus first | exact g3 | exact (QC _ _ _ _ _ zsd zsd zsd zsd) | exact (QL _ _ _ _ _ _ _ zsd zsd zsd zsd zsd zsd zsd)); (focus exact rfl); (focus (first | (simp; done) | omega | (simp only [List.length_map]; omega)))) | exact zlo | omega | exact zms)
        refine Ju (ι := Bool) (fun _ => True) (fun t => J0 [(0, .hd 0 0 40), (1, V.int 40), (2, .clo g []), (6, V.int (if t then 20 else 40))] [(0, .buf true 1 ((if t then SX ++ SY else SS).map V.int))] 1) (fun t => if t then 1 else 0) true trivial (Jb []) (Jd [] (by simp only [go_sem, Nat.reduceAdd, Nat.reduceMul, Nat.reduceEqDiff, Nat.reduceLT, Int.reduceToNat, reduceIte, reduceCtorEq, and_true, true_and, implies_true, Option.some.injEq, exists_eq_left', Qk, Qm]; (repeat' (first | rfl | refine And.intro ?_ ?_ | omega | exact fun h => h | exact Exists.intro _ rfl))) (by simp only [go_sem, Nat.reduceAdd, Nat.reduceMul, Nat.reduceEqDiff, Nat.reduceLT, Int.reduceToNat, reduceIte, reduceCtorEq, and_true, true_and, implies_true, Option.some.injEq, exists_eq_left', Qk, Qm]; (repeat' (first | rfl | refine And.intro ?_ ?_ | omega | exact fun h => h | exact Exists.intro _ rfl))) (by simp) (by simp) (by omega)) fun t ht K2 hL2 => ?_
        rcases t with _ | _
        · simp only [Bool.false_eq_true, if_false]
          repeat' (first | refine Qp fun K' hK => ?_ | refine Qt fun K' hK => ?_ | refine Qq ?_ | refine Qr ?_ | refine Ql ?_ | ((first | refine Qs ⟨_, rfl, fun hc => ?_, fun hc => ?_⟩ | refine QQ (fun hc => ?_) (fun hc => ?_) | refine QR (fun hc => ?_) (fun hc => ?_)) <;> first | exact Bool.noConfusion hc | ((try simp only [znz] at hc); first | exact znf | skip)) | refine Qv ?_ | refine Qu ?_ | simp (maxSteps := 1000000) only [go_sem, Nat.reduceAdd, Nat.reduceMul, Nat.reduceEqDiff, Nat.reduceLeDiff, Nat.reduceLT, Nat.reduceSub, Int.reduceEq, Int.reduceBEq, Int.reduceLT, Int.reduceLE, Int.reduceAdd, Int.reduceToNat, reduceIte, reduceCtorEq, J0] | (refine hK _ ?_; clear hK; clear K') | refine And.intro ?_ ?_ | (apply JI; (focus exact rfl); (focus first | exact (QC _ _ _ _ _ zsd zsd zsd zsd) | exact (QL _ _ _ _ _ _ _ zsd zsd zsd zsd zsd zsd zsd)); (focus exact rfl); (focus (first | (simp; done) | omega | (simp only [List.length_map]; omega)))) | exact zlo | omega | exact zms)
          all_goals first | (refine VP _ rfl rfl (by simp only [go_sem, Nat.reduceEqDiff, Nat.reduceAdd, reduceIte, reduceCtorEq]) ?_; done) | (refine VP _ rfl rfl (by simp only [go_sem, Nat.reduceEqDiff, Nat.reduceAdd, reduceIte, reduceCtorEq]) ?_; rfl) | trace_state
        · simp only [if_true]
          repeat' (first | refine Qp fun K' hK => ?_ | refine Qt fun K' hK => ?_ | refine Qq ?_ | refine Qr ?_ | refine Ql ?_ | ((first | refine Qs ⟨_, rfl, fun hc => ?_, fun hc => ?_⟩ | refine QQ (fun hc => ?_) (fun hc => ?_) | refine QR (fun hc => ?_) (fun hc => ?_)) <;> first | exact Bool.noConfusion hc | ((try simp only [znz] at hc); first | exact znf | skip)) | refine Qv ?_ | refine Qu ?_ | simp (maxSteps := 1000000) only [go_sem, Nat.reduceAdd, Nat.reduceMul, Nat.reduceEqDiff, Nat.reduceLeDiff, Nat.reduceLT, Nat.reduceSub, Int.reduceEq, Int.reduceBEq, Int.reduceLT, Int.reduceLE, Int.reduceAdd, Int.reduceToNat, reduceIte, reduceCtorEq, J0] | (refine hK _ ?_; clear hK; clear K') | refine And.intro ?_ ?_ | (apply JI; (focus exact rfl); (focus first | exact (QC _ _ _ _ _ zsd zsd zsd zsd) | exact (QL _ _ _ _ _ _ _ zsd zsd zsd zsd zsd zsd zsd)); (focus exact rfl); (focus (first | (simp; done) | omega | (simp only [List.length_map]; omega)))) | exact zlo | omega | exact zms)
          refine Ju (ι := Bool) (fun _ => True) (fun t => J0 [(0, .hd 0 0 40), (1, V.int 40), (2, .clo g []), (6, V.int 20), (7, V.int (if t then 0 else 40)), (8, V.int (if t then 40 else 80))] [(0, .buf true 1 ((if t then SX ++ SY else SS).map V.int))] 1) (fun t => if t then 1 else 0) true trivial (Jb []) (Jd [] (by simp only [go_sem, Nat.reduceAdd, Nat.reduceMul, Nat.reduceEqDiff, Nat.reduceLT, Int.reduceToNat, reduceIte, reduceCtorEq, and_true, true_and, implies_true, Option.some.injEq, exists_eq_left', Qk, Qm]; (repeat' (first | rfl | refine And.intro ?_ ?_ | omega | exact fun h => h | exact Exists.intro _ rfl))) (by simp only [go_sem, Nat.reduceAdd, Nat.reduceMul, Nat.reduceEqDiff, Nat.reduceLT, Int.reduceToNat, reduceIte, reduceCtorEq, and_true, true_and, implies_true, Option.some.injEq, exists_eq_left', Qk, Qm]; (repeat' (first | rfl | refine And.intro ?_ ?_ | omega | exact fun h => h | exact Exists.intro _ rfl))) (by simp) (by simp) (by omega)) fun t ht K3 hL3 => ?_
          rcases t with _ | _
          · simp only [Bool.false_eq_true, if_false]
            repeat' (first | refine Qp fun K' hK => ?_ | refine Qt fun K' hK => ?_ | refine Qq ?_ | refine Qr ?_ | refine Ql ?_ | ((first | refine Qs ⟨_, rfl, fun hc => ?_, fun hc => ?_⟩ | refine QQ (fun hc => ?_) (fun hc => ?_) | refine QR (fun hc => ?_) (fun hc => ?_)) <;> first | exact Bool.noConfusion hc | ((try simp only [znz] at hc); first | exact znf | skip)) | refine Qv ?_ | refine Qu ?_ | simp (maxSteps := 1000000) only [go_sem, Nat.reduceAdd, Nat.reduceMul, Nat.reduceEqDiff, Nat.reduceLeDiff, Nat.reduceLT, Nat.reduceSub, Int.reduceEq, Int.reduceBEq, Int.reduceLT, Int.reduceLE, Int.reduceAdd, Int.reduceToNat, reduceIte, reduceCtorEq, J0] | (refine hK _ ?_; clear hK; clear K') | refine And.intro ?_ ?_ | (apply JI; (focus exact rfl); (focus first | exact (QC _ _ _ _ _ zsd zsd zsd zsd) | exact (QL _ _ _ _ _ _ _ zsd zsd zsd zsd zsd zsd zsd)); (focus exact rfl); (focus (first | (simp; done) | omega | (simp only [List.length_map]; omega)))) | exact zlo | omega | exact zms)
            all_goals first | exact hL2 _ false (Jb []) trivial (by simp) (Jd [] (by simp only [go_sem, Nat.reduceAdd, Nat.reduceMul, Nat.reduceEqDiff, Nat.reduceLT, Int.reduceToNat, reduceIte, reduceCtorEq, and_true, true_and, implies_true, Option.some.injEq, exists_eq_left', Qk, Qm]; (repeat' (first | rfl | refine And.intro ?_ ?_ | omega | exact fun h => h | exact Exists.intro _ rfl))) (by simp only [go_sem, Nat.reduceAdd, Nat.reduceMul, Nat.reduceEqDiff, Nat.reduceLT, Int.reduceToNat, reduceIte, reduceCtorEq, and_true, true_and, implies_true, Option.some.injEq, exists_eq_left', Qk, Qm]; (repeat' (first | rfl | refine And.intro ?_ ?_ | omega | exact fun h => h | exact Exists.intro _ rfl))) (by simp) (by simp) (by omega)) | trace_state
          · simp only [if_true]
            repeat' (first | refine Qp fun K' hK => ?_ | refine Qt fun K' hK => ?_ | refine Qq ?_ | refine Qr ?_ | refine Ql ?_ | ((first | refine Qs ⟨_, rfl, fun hc => ?_, fun hc => ?_⟩ | refine QQ (fun hc => ?_) (fun hc => ?_) | refine QR (fun hc => ?_) (fun hc => ?_)) <;> first | exact Bool.noConfusion hc | ((try simp only [znz] at hc); first | exact znf | skip)) | refine Qv ?_ | refine Qu ?_ | simp (maxSteps := 1000000) only [go_sem, Nat.reduceAdd, Nat.reduceMul, Nat.reduceEqDiff, Nat.reduceLeDiff, Nat.reduceLT, Nat.reduceSub, Int.reduceEq, Int.reduceBEq, Int.reduceLT, Int.reduceLE, Int.reduceAdd, Int.reduceToNat, reduceIte, reduceCtorEq, J0] | (refine hK _ ?_; clear hK; clear K') | refine And.intro ?_ ?_ | (apply JI; (focus exact rfl); (focus first | exact g4 | exact (QC _ _ _ _ _ zsd zsd zsd zsd) | exact (QL _ _ _ _ _ _ _ zsd zsd zsd zsd zsd zsd zsd)); (focus exact rfl); (focus (first | (simp; done) | omega | (simp only [List.length_map]; omega)))) | exact zlo | omega | exact zms)
            all_goals first | exact hL3 _ false (Jb []) trivial (by simp) (Jd [] (by simp only [go_sem, Nat.reduceAdd, Nat.reduceMul, Nat.reduceEqDiff, Nat.reduceLT, Int.reduceToNat, reduceIte, reduceCtorEq, and_true, true_and, implies_true, Option.some.injEq, exists_eq_left', Qk, Qm]; (repeat' (first | rfl | refine And.intro ?_ ?_ | omega | exact fun h => h | exact Exists.intro _ rfl))) (by simp only [go_sem, Nat.reduceAdd, Nat.reduceMul, Nat.reduceEqDiff, Nat.reduceLT, Int.reduceToNat, reduceIte, reduceCtorEq, and_true, true_and, implies_true, Option.some.injEq, exists_eq_left', Qk, Qm]; (repeat' (first | rfl | refine And.intro ?_ ?_ | omega | exact fun h => h | exact Exists.intro _ rfl))) (by simp) (by simp) (by omega)) | trace_state
    · have q7 : decide ((40 : Int) ≤ (xs.length : Int)) = false := by simp; omega
      have hlx : (xs.map V.int).length = xs.length := List.length_map _
      have hly : ((SX ++ Y).map V.int).length = xs.length := by rw [List.length_map, hl1]
      have hlz : ((SX ++ SY).map V.int).length = xs.length := by rw [List.length_map, hl2]
      have hls : (SS.map V.int).length = xs.length := by rw [List.length_map, hsl]
      repeat' (first | refine Qp fun K' hK => ?_ | refine Qt fun K' hK => ?_ | refine Qq ?_ | refine Qr ?_ | refine Ql ?_ | ((first | refine Qs ⟨_, rfl, fun hc => ?_, fun hc => ?_⟩ | refine QQ (fun hc => ?_) (fun hc => ?_) | refine QR (fun hc => ?_) (fun hc => ?_)) <;> first | exact Bool.noConfusion hc | ((try simp only [znz] at hc); first | exact znf | skip)) | refine Qv ?_ | refine Qu ?_ | simp (maxSteps := 1000000) only [go_sem, Nat.reduceAdd, Nat.reduceMul, Nat.reduceEqDiff, Nat.reduceLeDiff, Nat.reduceLT, Nat.reduceSub, Int.reduceEq, Int.reduceBEq, Int.reduceLT, Int.reduceLE, Int.reduceAdd, Int.reduceToNat, reduceIte, reduceCtorEq, hlx] | (refine hK _ ?_; clear hK; clear K') | refine And.intro ?_ ?_ | (apply JI; (focus exact rfl); (focus first | exact (QC _ _ _ _ _ zsd zsd zsd zsd) | exact (QL _ _ _ _ _ _ _ zsd zsd zsd zsd zsd zsd zsd)); (focus exact rfl); (focus (first | (simp; done) | omega | (simp only [List.length_map]; omega)))) | exact zlo | omega | exact zms)
      refine Ju (ι := Bool) (fun _ => True) (fun t => J0 [(0, .hd 0 0 xs.length), (1, V.int xs.length), (2, .clo g []), (6, V.int 20), (7, V.int (if t then 0 else 20)), (8, V.int (if t then 20 else 40))] [(0, .buf true 1 ((if t then xs else SX ++ Y).map V.int))] 1) (fun t => if t then 1 else 0) true trivial (Jb []) (Jd [] (by simp only [go_sem, Nat.reduceAdd, Nat.reduceMul, Nat.reduceEqDiff, Nat.reduceLT, Int.reduceToNat, reduceIte, reduceCtorEq, and_true, true_and, implies_true, Option.some.injEq, exists_eq_left', Qk, Qm, hlx]; (repeat' (first | rfl | refine And.intro ?_ ?_ | omega | exact fun h => h | exact Exists.intro _ rfl))) (by simp only [go_sem, Nat.reduceAdd, Nat.reduceMul, Nat.reduceEqDiff, Nat.reduceLT, Int.reduceToNat, reduceIte, reduceCtorEq, and_true, true_and, implies_true, Option.some.injEq, exists_eq_left', Qk, Qm]; (repeat' (first | rfl | refine And.intro ?_ ?_ | omega | exact fun h => h | exact Exists.intro _ rfl))) (by simp) (by simp) (by omega)) fun t ht K' hL => ?_
      rcases t with _ | _
      · simp only [Bool.false_eq_true, if_false]
        repeat' (first | refine Qp fun K' hK => ?_ | refine Qt fun K' hK => ?_ | refine Qq ?_ | refine Qr ?_ | refine Ql ?_ | ((first | refine Qs ⟨_, rfl, fun hc => ?_, fun hc => ?_⟩ | refine QQ (fun hc => ?_) (fun hc => ?_) | refine QR (fun hc => ?_) (fun hc => ?_)) <;> first | exact Bool.noConfusion hc | ((try simp only [znz] at hc); first | exact znf | skip)) | refine Qv ?_ | refine Qu ?_ | simp (maxSteps := 1000000) only [go_sem, Nat.reduceAdd, Nat.reduceMul, Nat.reduceEqDiff, Nat.reduceLeDiff, Nat.reduceLT, Nat.reduceSub, Int.reduceEq, Int.reduceBEq, Int.reduceLT, Int.reduceLE, Int.reduceAdd, Int.reduceToNat, reduceIte, reduceCtorEq, J0, q7] | (refine hK _ ?_; clear hK; clear K') | refine And.intro ?_ ?_ | (apply JI; (focus exact rfl); (focus first | exact g2 | exact (QC _ _ _ _ _ zsd zsd zsd zsd) | exact (QL _ _ _ _ _ _ _ zsd zsd zsd zsd zsd zsd zsd)); (focus exact rfl); (focus (first | (simp; done) | omega | (simp only [List.length_map]; omega)))) | exact zlo | omega | exact zms)
        refine Ju (ι := Bool) (fun _ => True) (fun t => J0 [(0, .hd 0 0 xs.length), (1, V.int xs.length), (2, .clo g []), (6, V.int (if t then 20 else 40))] [(0, .buf true 1 ((if t then SX ++ SY else SS).map V.int))] 1) (fun t => if t then 1 else 0) true trivial (Jb []) (Jd [] (by simp only [go_sem, Nat.reduceAdd, Nat.reduceMul, Nat.reduceEqDiff, Nat.reduceLT, Int.reduceToNat, reduceIte, reduceCtorEq, and_true, true_and, implies_true, Option.some.injEq, exists_eq_left', Qk, Qm]; (repeat' (first | rfl | refine And.intro ?_ ?_ | omega | exact fun h => h | exact Exists.intro _ rfl))) (by simp only [go_sem, Nat.reduceAdd, Nat.reduceMul, Nat.reduceEqDiff, Nat.reduceLT, Int.reduceToNat, reduceIte, reduceCtorEq, and_true, true_and, implies_true, Option.some.injEq, exists_eq_left', Qk, Qm]; (repeat' (first | rfl | refine And.intro ?_ ?_ | omega | exact fun h => h | exact Exists.intro _ rfl))) (by simp) (by simp) (by omega)) fun t ht K2 hL2 => ?_
        rcases t with _ | _
        · simp only [Bool.false_eq_true, if_false]
          repeat' (first | refine Qp fun K' hK => ?_ | refine Qt fun K' hK => ?_ | refine Qq ?_ | refine Qr ?_ | refine Ql ?_ | ((first | refine Qs ⟨_, rfl, fun hc => ?_, fun hc => ?_⟩ | refine QQ (fun hc => ?_) (fun hc => ?_) | refine QR (fun hc => ?_) (fun hc => ?_)) <;> first | exact Bool.noConfusion hc | ((try simp only [znz] at hc); first | exact znf | skip)) | refine Qv ?_ | refine Qu ?_ | simp (maxSteps := 1000000) only [go_sem, Nat.reduceAdd, Nat.reduceMul, Nat.reduceEqDiff, Nat.reduceLeDiff, Nat.reduceLT, Nat.reduceSub, Int.reduceEq, Int.reduceBEq, Int.reduceLT, Int.reduceLE, Int.reduceAdd, Int.reduceToNat, reduceIte, reduceCtorEq, J0, q3] | (refine hK _ ?_; clear hK; clear K') | refine And.intro ?_ ?_ | (apply JI; (focus exact rfl); (focus first | exact (QC _ _ _ _ _ zsd zsd zsd zsd) | exact (QL _ _ _ _ _ _ _ zsd zsd zsd zsd zsd zsd zsd)); (focus exact rfl); (focus (first | (simp; done) | omega | (simp only [List.length_map]; omega)))) | exact zlo | omega | exact zms)
          all_goals first | (refine VP _ rfl rfl (by simp only [go_sem, Nat.reduceEqDiff, Nat.reduceAdd, reduceIte, reduceCtorEq]) ?_; done) | (refine VP _ rfl rfl (by simp only [go_sem, Nat.reduceEqDiff, Nat.reduceAdd, reduceIte, reduceCtorEq]) ?_; rfl) | trace_state
        · simp only [if_true]
          repeat' (first | refine Qp fun K' hK => ?_ | refine Qt fun K' hK => ?_ | refine Qq ?_ | refine Qr ?_ | refine Ql ?_ | ((first | refine Qs ⟨_, rfl, fun hc => ?_, fun hc => ?_⟩ | refine QQ (fun hc => ?_) (fun hc => ?_) | refine QR (fun hc => ?_) (fun hc => ?_)) <;> first | exact Bool.noConfusion hc | ((try simp only [znz] at hc); first | exact znf | skip)) | refine Qv ?_ | refine Qu ?_ | simp (maxSteps := 1000000) only [go_sem, Nat.reduceAdd, Nat.reduceMul, Nat.reduceEqDiff, Nat.reduceLeDiff, Nat.reduceLT, Nat.reduceSub, Int.reduceEq, Int.reduceBEq, Int.reduceLT, Int.reduceLE, Int.reduceAdd, Int.reduceToNat, reduceIte, reduceCtorEq, J0, q2] | (refine hK _ ?_; clear hK; clear K') | refine And.intro ?_ ?_ | (apply JI; (focus exact rfl); (focus first | exact (QC _ _ _ _ _ zsd zsd zsd zsd) | exact (QL _ _ _ _ _ _ _ zsd zsd zsd zsd zsd zsd zsd)); (focus exact rfl); (focus (first | (simp; done) | omega | (simp only [List.length_map]; omega)))) | exact zlo | omega | exact zms)
          refine Ju (ι := Unit) (fun _ => True) (fun _ => J0 [(0, .hd 0 0 xs.length), (1, V.int xs.length), (2, .clo g []), (6, V.int 20), (7, V.int 0), (8, V.int 40)] [(0, .buf true 1 ((SX ++ SY).map V.int))] 1) (fun _ => 0) () trivial (Jb []) (Jd [] (by simp only [go_sem, Nat.reduceAdd, Nat.reduceMul, Nat.reduceEqDiff, Nat.reduceLT, Int.reduceToNat, reduceIte, reduceCtorEq, and_true, true_and, implies_true, Option.some.injEq, exists_eq_left', Qk, Qm]; (repeat' (first | rfl | refine And.intro ?_ ?_ | omega | exact fun h => h | exact Exists.intro _ rfl))) (by simp only [go_sem, Nat.reduceAdd, Nat.reduceMul, Nat.reduceEqDiff, Nat.reduceLT, Int.reduceToNat, reduceIte, reduceCtorEq, and_true, true_and, implies_true, Option.some.injEq, exists_eq_left', Qk, Qm]; (repeat' (first | rfl | refine And.intro ?_ ?_ | omega | exact fun h => h | exact Exists.intro _ rfl))) (by simp) (by simp) (by omega)) fun u hu K3 hL3 => ?_
          have hw20 : IntKind.i64.wrap 20 = 20 := by decide
          repeat' (first | refine Qp fun K' hK => ?_ | refine Qt fun K' hK => ?_ | refine Qq ?_ | refine Qr ?_ | refine Ql ?_ | ((first | refine Qs ⟨_, rfl, fun hc => ?_, fun hc => ?_⟩ | refine QQ (fun hc => ?_) (fun hc => ?_) | refine QR (fun hc => ?_) (fun hc => ?_)) <;> first | exact Bool.noConfusion hc | ((try simp only [znz] at hc); first | exact znf | skip)) | refine Qv ?_ | refine Qu ?_ | simp (maxSteps := 1000000) only [go_sem, Nat.reduceAdd, Nat.reduceMul, Nat.reduceEqDiff, Nat.reduceLeDiff, Nat.reduceLT, Nat.reduceSub, Int.reduceEq, Int.reduceBEq, Int.reduceLT, Int.reduceLE, Int.reduceAdd, Int.reduceToNat, reduceIte, reduceCtorEq, J0, q7, hw20, q2] | (refine hK _ ?_; clear hK; clear K') | refine And.intro ?_ ?_ | (apply JI; (focus exact rfl); (focus first | exact g4 | exact (QC _ _ _ _ _ zsd zsd zsd zsd) | exact (QL _ _ _ _ _ _ _ zsd zsd zsd zsd zsd zsd zsd)); (focus exact rfl); (focus (first | (simp; done) | omega | (simp only [List.length_map]; omega)))) | exact zlo | omega | exact zms)
          all_goals first | exact hL2 _ false (Jb []) trivial (by simp) (Jd [] (by simp only [go_sem, Nat.reduceAdd, Nat.reduceMul, Nat.reduceEqDiff, Nat.reduceLT, Int.reduceToNat, reduceIte, reduceCtorEq, and_true, true_and, implies_true, Option.some.injEq, exists_eq_left', Qk, Qm]; (repeat' (first | rfl | refine And.intro ?_ ?_ | omega | exact fun h => h | exact Exists.intro _ rfl))) (by simp only [go_sem, Nat.reduceAdd, Nat.reduceMul, Nat.reduceEqDiff, Nat.reduceLT, Int.reduceToNat, reduceIte, reduceCtorEq, and_true, true_and, implies_true, Option.some.injEq, exists_eq_left', Qk, Qm]; (repeat' (first | rfl | refine And.intro ?_ ?_ | omega | exact fun h => h | exact Exists.intro _ rfl))) (by simp) (by simp) (by omega)) | trace_state
      · simp only [if_true]
        repeat' (first | refine Qp fun K' hK => ?_ | refine Qt fun K' hK => ?_ | refine Qq ?_ | refine Qr ?_ | refine Ql ?_ | ((first | refine Qs ⟨_, rfl, fun hc => ?_, fun hc => ?_⟩ | refine QQ (fun hc => ?_) (fun hc => ?_) | refine QR (fun hc => ?_) (fun hc => ?_)) <;> first | exact Bool.noConfusion hc | ((try simp only [znz] at hc); first | exact znf | skip)) | refine Qv ?_ | refine Qu ?_ | simp (maxSteps := 1000000) only [go_sem, Nat.reduceAdd, Nat.reduceMul, Nat.reduceEqDiff, Nat.reduceLeDiff, Nat.reduceLT, Nat.reduceSub, Int.reduceEq, Int.reduceBEq, Int.reduceLT, Int.reduceLE, Int.reduceAdd, Int.reduceToNat, reduceIte, reduceCtorEq, J0, q1] | (refine hK _ ?_; clear hK; clear K') | refine And.intro ?_ ?_ | (apply JI; (focus exact rfl); (focus first | exact g1 | exact (QC _ _ _ _ _ zsd zsd zsd zsd) | exact (QL _ _ _ _ _ _ _ zsd zsd zsd zsd zsd zsd zsd)); (focus exact rfl); (focus (first | (simp; done) | omega | (simp only [List.length_map]; omega)))) | exact zlo | omega | exact zms)
        all_goals first | exact hL _ false (Jb []) trivial (by simp) (Jd [] (by simp only [go_sem, Nat.reduceAdd, Nat.reduceMul, Nat.reduceEqDiff, Nat.reduceLT, Int.reduceToNat, reduceIte, reduceCtorEq, and_true, true_and, implies_true, Option.some.injEq, exists_eq_left', Qk, Qm]; (repeat' (first | rfl | refine And.intro ?_ ?_ | omega | exact fun h => h | exact Exists.intro _ rfl))) (by simp only [go_sem, Nat.reduceAdd, Nat.reduceMul, Nat.reduceEqDiff, Nat.reduceLT, Int.reduceToNat, reduceIte, reduceCtorEq, and_true, true_and, implies_true, Option.some.injEq, exists_eq_left', Qk, Qm]; (repeat' (first | rfl | refine And.intro ?_ ?_ | omega | exact fun h => h | exact Exists.intro _ rfl))) (by simp) (by simp) (by omega)) | trace_state
  have hi := QC xs 0 xs.length g c hcmp (by omega) (by omega) (by omega)
  rw [ahG] at hi
  have hi0 : EvL C.env Q8 [V.int 0, V.int xs.length, .clo g []] 1 (xs.map V.int) (.tup []) ((XH (fun x y => decide (c x y < 0)) xs).map V.int) := hi
  have hln : (XH (fun x y => decide (c x y < 0)) xs).length = xs.length := jK _ _
  have e9 : decide ((20 : Int) < (xs.length : Int)) = false := by simp; omega
  by_cases h20 : xs.length = 20
  · have hj := QC (XH (fun x y => decide (c x y < 0)) xs) 20 20 g c hcmp (by omega) (by omega) (by omega)
    rw [if_pos rfl] at hj
    generalize XH (fun x y => decide (c x y < 0)) xs = ys at *
    rw [h20] at hi0 e9 ⊢
    have hj0 : EvL C.env Q8 [V.int 20, V.int 20, .clo g []] 1 (ys.map V.int) (.tup []) (ys.map V.int) := hj
    have e20 : ((20 : Nat) : Int) = 20 := rfl
    rw [e20] at hi0 e9 ⊢
    repeat' (first | refine Qp fun K' hK => ?_ | refine Qt fun K' hK => ?_ | refine Qq ?_ | refine Qr ?_ | refine Ql ?_ | ((first | refine Qs ⟨_, rfl, fun hc => ?_, fun hc => ?_⟩ | refine QQ (fun hc => ?_) (fun hc => ?_) | refine QR (fun hc => ?_) (fun hc => ?_)) <;> first | exact Bool.noConfusion hc | ((try simp only [znz] at hc); first | exact znf | skip)) | refine Qv ?_ | refine Qu ?_ | simp (maxSteps := 1000000) only [go_sem, Nat.reduceAdd, Nat.reduceMul, Nat.reduceEqDiff, Nat.reduceLeDiff, Nat.reduceLT, Nat.reduceSub, Int.reduceEq, Int.reduceBEq, Int.reduceLT, Int.reduceLE, Int.reduceAdd, Int.reduceToNat, reduceIte, reduceCtorEq] | (refine hK _ ?_; clear hK; clear K') | refine And.intro ?_ ?_ | (apply JI; (focus exact rfl); (focus first | exact (QC _ _ _ _ _ zsd zsd zsd zsd) | exact (QL _ _ _ _ _ _ _ zsd zsd zsd zsd zsd zsd zsd)); (focus exact rfl); (focus (first | (simp; done) | omega | (simp only [List.length_map]; omega)))) | exact zlo | omega | exact zms)
    refine Ju (ι := Bool) (fun _ => True) (fun t => J0 [(0, .hd 0 0 (xs.map V.int).length), (1, V.int 20), (2, .clo g []), (6, V.int 20), (7, V.int (if t then 0 else 20)), (8, V.int (if t then 20 else 40))] [(0, .buf true 1 ((if t then xs else ys).map V.int))] 1) (fun t => if t then 1 else 0) true trivial (Jb []) (Jd [] (by simp only [go_sem, Nat.reduceAdd, Nat.reduceMul, Nat.reduceEqDiff, Nat.reduceLT, Int.reduceToNat, reduceIte, reduceCtorEq, and_true, true_and, implies_true, Option.some.injEq, exists_eq_left', Qk, Qm]; (repeat' (first | rfl | refine And.intro ?_ ?_ | omega | exact fun h => h | exact Exists.intro _ rfl))) (by simp only [go_sem, Nat.reduceAdd, Nat.reduceMul, Nat.reduceEqDiff, Nat.reduceLT, Int.reduceToNat, reduceIte, reduceCtorEq, and_true, true_and, implies_true, Option.some.injEq, exists_eq_left', Qk, Qm]; (repeat' (first | rfl | refine And.intro ?_ ?_ | omega | exact fun h => h | exact Exists.intro _ rfl))) (by simp) (by simp) (by omega)) fun t ht K' hL => ?_
    rcases t with _ | _
    · simp only [Bool.false_eq_true, if_false]
      repeat' (first | refine Qp fun K' hK => ?_ | refine Qt fun K' hK => ?_ | refine Qq ?_ | refine Qr ?_ | refine Ql ?_ | ((first | refine Qs ⟨_, rfl, fun hc => ?_, fun hc => ?_⟩ | refine QQ (fun hc => ?_) (fun hc => ?_) | refine QR (fun hc => ?_) (fun hc => ?_)) <;> first | exact Bool.noConfusion hc | ((try simp only [znz] at hc); first | exact znf | skip)) | refine Qv ?_ | refine Qu ?_ | simp (maxSteps := 1000000) only [go_sem, Nat.reduceAdd, Nat.reduceMul, Nat.reduceEqDiff, Nat.reduceLeDiff, Nat.reduceLT, Nat.reduceSub, Int.reduceEq, Int.reduceBEq, Int.reduceLT, Int.reduceLE, Int.reduceAdd, Int.reduceToNat, reduceIte, reduceCtorEq, J0] | (refine hK _ ?_; clear hK; clear K') | refine And.intro ?_ ?_ | (apply JI; (focus exact rfl); (focus first | exact hj0 | exact (QC _ _ _ _ _ zsd zsd zsd zsd) | exact (QL _ _ _ _ _ _ _ zsd zsd zsd zsd zsd zsd zsd)); (focus exact rfl); (focus (first | (simp; done) | omega | (simp only [List.length_map]; omega)))) | exact zlo | omega | exact zms)
      refine Ju (ι := Unit) (fun _ => True) (fun _ => J0 [(0, .hd 0 0 (xs.map V.int).length), (1, V.int 20), (2, .clo g []), (6, V.int 20)] [(0, .buf true 1 (ys.map V.int))] 1) (fun _ => 0) () trivial (Jb []) (Jd [] (by simp only [go_sem, Nat.reduceAdd, Nat.reduceMul, Nat.reduceEqDiff, Nat.reduceLT, Int.reduceToNat, reduceIte, reduceCtorEq, and_true, true_and, implies_true, Option.some.injEq, exists_eq_left', Qk, Qm]; (repeat' (first | rfl | refine And.intro ?_ ?_ | omega | exact fun h => h | exact Exists.intro _ rfl))) (by simp only [go_sem, Nat.reduceAdd, Nat.reduceMul, Nat.reduceEqDiff, Nat.reduceLT, Int.reduceToNat, reduceIte, reduceCtorEq, and_true, true_and, implies_true, Option.some.injEq, exists_eq_left', Qk, Qm]; (repeat' (first | rfl | refine And.intro ?_ ?_ | omega | exact fun h => h | exact Exists.intro _ rfl))) (by simp) (by simp) (by omega)) fun u hu K'' hL2 => ?_
      repeat' (first | refine Qp fun K' hK => ?_ | refine Qt fun K' hK => ?_ | refine Qq ?_ | refine Qr ?_ | refine Ql ?_ | ((first | refine Qs ⟨_, rfl, fun hc => ?_, fun hc => ?_⟩ | refine QQ (fun hc => ?_) (fun hc => ?_) | refine QR (fun hc => ?_) (fun hc => ?_)) <;> first | exact Bool.noConfusion hc | ((try simp only [znz] at hc); first | exact znf | skip)) | refine Qv ?_ | refine Qu ?_ | simp (maxSteps := 1000000) only [go_sem, Nat.reduceAdd, Nat.reduceMul, Nat.reduceEqDiff, Nat.reduceLeDiff, Nat.reduceLT, Nat.reduceSub, Int.reduceEq, Int.reduceBEq, Int.reduceLT, Int.reduceLE, Int.reduceAdd, Int.reduceToNat, reduceIte, reduceCtorEq, J0] | (refine hK _ ?_; clear hK; clear K') | refine And.intro ?_ ?_ | (apply JI; (focus exact rfl); (focus first | exact (QC _ _ _ _ _ zsd zsd zsd zsd) | exact (QL _ _ _ _ _ _ _ zsd zsd zsd zsd zsd zsd zsd)); (focus exact rfl); (focus (first | (simp; done) | omega | (simp only [List.length_map]; omega)))) | exact zlo | omega | exact zms)
      all_goals first | (refine VP _ rfl rfl (by simp only [go_sem, Nat.reduceEqDiff, Nat.reduceAdd, reduceIte, reduceCtorEq]) ?_; done) | (refine VP _ rfl rfl (by simp only [go_sem, Nat.reduceEqDiff, Nat.reduceAdd, reduceIte, reduceCtorEq]) ?_; rfl) | trace_state
    · simp only [if_true]
      repeat' (first | refine Qp fun K' hK => ?_ | refine Qt fun K' hK => ?_ | refine Qq ?_ | refine Qr ?_ | refine Ql ?_ | ((first | refine Qs ⟨_, rfl, fun hc => ?_, fun hc => ?_⟩ | refine QQ (fun hc => ?_) (fun hc => ?_) | refine QR (fun hc => ?_) (fun hc => ?_)) <;> first | exact Bool.noConfusion hc | ((try simp only [znz] at hc); first | exact znf | skip)) | refine Qv ?_ | refine Qu ?_ | simp (maxSteps := 1000000) only [go_sem, Nat.reduceAdd, Nat.reduceMul, Nat.reduceEqDiff, Nat.reduceLeDiff, Nat.reduceLT, Nat.reduceSub, Int.reduceEq, Int.reduceBEq, Int.reduceLT, Int.reduceLE, Int.reduceAdd, Int.reduceToNat, reduceIte, reduceCtorEq, J0] | (refine hK _ ?_; clear hK; clear K') | refine And.intro ?_ ?_ | (apply JI; (focus exact rfl); (focus first | exact hi0 | exact (QC _ _ _ _ _ zsd zsd zsd zsd) | exact (QL _ _ _ _ _ _ _ zsd zsd zsd zsd zsd zsd zsd)); (focus exact rfl); (focus (first | (simp; done) | omega | (simp only [List.length_map]; omega)))) | exact zlo | omega | exact zms)
      all_goals exact hL _ false (Jb []) trivial (by simp) (Jd [] (by simp only [go_sem, Nat.reduceAdd, Nat.reduceMul, Nat.reduceEqDiff, Nat.reduceLT, Int.reduceToNat, reduceIte, reduceCtorEq, and_true, true_and, implies_true, Option.some.injEq, exists_eq_left', Qk, Qm]; (repeat' (first | rfl | refine And.intro ?_ ?_ | omega | exact fun h => h | exact Exists.intro _ rfl))) (by simp only [go_sem, Nat.reduceAdd, Nat.reduceMul, Nat.reduceEqDiff, Nat.reduceLT, Int.reduceToNat, reduceIte, reduceCtorEq, and_true, true_and, implies_true, Option.some.injEq, exists_eq_left', Qk, Qm]; (repeat' (first | rfl | refine And.intro ?_ ?_ | omega | exact fun h => h | exact Exists.intro _ rfl))) (by simp) (by simp) (by omega))
  · generalize XH (fun x y => decide (c x y < 0)) xs = ys at *
    have e8 : decide ((20 : Int) ≤ (xs.length : Int)) = false := by simp; omega
    repeat' (first | refine Qp fun K' hK => ?_ | refine Qt fun K' hK => ?_ | refine Qq ?_ | refine Qr ?_ | refine Ql ?_ | ((first | refine Qs ⟨_, rfl, fun hc => ?_, fun hc => ?_⟩ | refine QQ (fun hc => ?_) (fun hc => ?_) | refine QR (fun hc => ?_) (fun hc => ?_)) <;> first | exact Bool.noConfusion hc | ((try simp only [znz] at hc); first | exact znf | skip)) | refine Qv ?_ | refine Qu ?_ | simp (maxSteps := 1000000) only [go_sem, Nat.reduceAdd, Nat.reduceMul, Nat.reduceEqDiff, Nat.reduceLeDiff, Nat.reduceLT, Nat.reduceSub, Int.reduceEq, Int.reduceBEq, Int.reduceLT, Int.reduceLE, Int.reduceAdd, Int.reduceToNat, reduceIte, reduceCtorEq] | (refine hK _ ?_; clear hK; clear K') | refine And.intro ?_ ?_ | (apply JI; (focus exact rfl); (focus first | exact (QC _ _ _ _ _ zsd zsd zsd zsd) | exact (QL _ _ _ _ _ _ _ zsd zsd zsd zsd zsd zsd zsd)); (focus exact rfl); (focus (first | (simp; done) | omega | (simp only [List.length_map]; omega)))) | exact zlo | omega | exact zms)
    refine Ju (ι := Unit) (fun _ => True) (fun _ => J0 [(0, .hd 0 0 (xs.map V.int).length), (1, V.int xs.length), (2, .clo g []), (6, V.int 20), (7, V.int 0), (8, V.int 20)] [(0, .buf true 1 (xs.map V.int))] 1) (fun _ => 0) () trivial (Jb []) (Jd [] (by simp only [go_sem, Nat.reduceAdd, Nat.reduceMul, Nat.reduceEqDiff, Nat.reduceLT, Int.reduceToNat, reduceIte, reduceCtorEq, and_true, true_and, implies_true, Option.some.injEq, exists_eq_left', Qk, Qm]; (repeat' (first | rfl | refine And.intro ?_ ?_ | omega | exact fun h => h | exact Exists.intro _ rfl))) (by simp only [go_sem, Nat.reduceAdd, Nat.reduceMul, Nat.reduceEqDiff, Nat.reduceLT, Int.reduceToNat, reduceIte, reduceCtorEq, and_true, true_and, implies_true, Option.some.injEq, exists_eq_left', Qk, Qm]; (repeat' (first | rfl | refine And.intro ?_ ?_ | omega | exact fun h => h | exact Exists.intro _ rfl))) (by simp) (by simp) (by omega)) fun u hu K' hL => ?_
    repeat' (first | refine Qp fun K' hK => ?_ | refine Qt fun K' hK => ?_ | refine Qq ?_ | refine Qr ?_ | refine Ql ?_ | ((first | refine Qs ⟨_, rfl, fun hc => ?_, fun hc => ?_⟩ | refine QQ (fun hc => ?_) (fun hc => ?_) | refine QR (fun hc => ?_) (fun hc => ?_)) <;> first | exact Bool.noConfusion hc | ((try simp only [znz] at hc); first | exact znf | skip)) | refine Qv ?_ | refine Qu ?_ | simp (maxSteps := 1000000) only [go_sem, Nat.reduceAdd, Nat.reduceMul, Nat.reduceEqDiff, Nat.reduceLeDiff, Nat.reduceLT, Nat.reduceSub, Int.reduceEq, Int.reduceBEq, Int.reduceLT, Int.reduceLE, Int.reduceAdd, Int.reduceToNat, reduceIte, reduceCtorEq, J0, e8] | (refine hK _ ?_; clear hK; clear K') | refine And.intro ?_ ?_ | (apply JI; (focus exact rfl); (focus first | exact hi0 | exact (QC _ _ _ _ _ zsd zsd zsd zsd) | exact (QL _ _ _ _ _ _ _ zsd zsd zsd zsd zsd zsd zsd)); (focus exact rfl); (focus (first | (simp; done) | omega | (simp only [List.length_map]; omega)))) | exact zlo | omega | exact zms)
    refine Ju (ι := Unit) (fun _ => True) (fun _ => J0 [(0, .hd 0 0 (xs.map V.int).length), (1, V.int xs.length), (2, .clo g []), (6, V.int 20)] [(0, .buf true 1 (ys.map V.int))] 1) (fun _ => 0) () trivial (Jb []) (Jd [] (by simp only [go_sem, Nat.reduceAdd, Nat.reduceMul, Nat.reduceEqDiff, Nat.reduceLT, Int.reduceToNat, reduceIte, reduceCtorEq, and_true, true_and, implies_true, Option.some.injEq, exists_eq_left', Qk, Qm]; (repeat' (first | rfl | refine And.intro ?_ ?_ | omega | exact fun h => h | exact Exists.intro _ rfl))) (by simp only [go_sem, Nat.reduceAdd, Nat.reduceMul, Nat.reduceEqDiff, Nat.reduceLT, Int.reduceToNat, reduceIte, reduceCtorEq, and_true, true_and, implies_true, Option.some.injEq, exists_eq_left', Qk, Qm]; (repeat' (first | rfl | refine And.intro ?_ ?_ | omega | exact fun h => h | exact Exists.intro _ rfl))) (by simp) (by simp) (by omega)) fun u hu K' hL => ?_
    repeat' (first | refine Qp fun K' hK => ?_ | refine Qt fun K' hK => ?_ | refine Qq ?_ | refine Qr ?_ | refine Ql ?_ | ((first | refine Qs ⟨_, rfl, fun hc => ?_, fun hc => ?_⟩ | refine QQ (fun hc => ?_) (fun hc => ?_) | refine QR (fun hc => ?_) (fun hc => ?_)) <;> first | exact Bool.noConfusion hc | ((try simp only [znz] at hc); first | exact znf | skip)) | refine Qv ?_ | refine Qu ?_ | simp (maxSteps := 1000000) only [go_sem, Nat.reduceAdd, Nat.reduceMul, Nat.reduceEqDiff, Nat.reduceLeDiff, Nat.reduceLT, Nat.reduceSub, Int.reduceEq, Int.reduceBEq, Int.reduceLT, Int.reduceLE, Int.reduceAdd, Int.reduceToNat, reduceIte, reduceCtorEq, J0, e9] | (refine hK _ ?_; clear hK; clear K') | refine And.intro ?_ ?_ | (apply JI; (focus exact rfl); (focus first | exact (QC _ _ _ _ _ zsd zsd zsd zsd) | exact (QL _ _ _ _ _ _ _ zsd zsd zsd zsd zsd zsd zsd)); (focus exact rfl); (focus (first | (simp; done) | omega | (simp only [List.length_map]; omega)))) | exact zlo | omega | exact zms)
    all_goals first | (refine VP _ rfl rfl (by simp only [go_sem, Nat.reduceEqDiff, Nat.reduceAdd, reduceIte, reduceCtorEq]) ?_; done) | (refine VP _ rfl rfl (by simp only [go_sem, Nat.reduceEqDiff, Nat.reduceAdd, reduceIte, reduceCtorEq]) ?_; rfl) | trace_state
def YI (YJ : Nat) : AC := .reg [mv 4 0, mv 5 0, ln 6 5, mv 7 1, cl 8 YJ [4, 6, 7]] def r_slices_SortStableFunc___int_int : List XG := []
def Yy (Γ : Env) (f : Nat) : Prop := ∀ (xs : List Int) (g : Nat) (c : Int → Int → Int) (key : Int → Int) (hcmp : ∀ x y, EvN Γ g [V.int x, V.int y] (V.int (c x y))) (hkey : ∀ x y, decide (c x y < 0) = ltK key x y) (hx : xs.length ≤ 40), EvL Γ f [.clo g []] 1 (xs.map V.int) (.tup []) (((XH (fun x y => decide (c x y < 0)) xs).map V.int))
theorem VE {Γ : Env} {f YJ : Nat} (h : Has Γ.P f 9 (YI YJ) r_slices_SortStableFunc___int_int) (W6 : XD Γ YJ) : Yy Γ f := by
  intro xs g c key hcmp hkey hx
  refine Ug h (by simp) (by simp only [V.closed, QK, V.noSl, JM, and_self, and_true, true_and]) fun C hC hm => ?_
  subst hC
  unfold YI
  have hi := W6 xs g c key hcmp hkey hx
  have e : ((xs.map V.int).length : Int) = (xs.length : Int) := by simp
  repeat' (first | refine Qp fun K' hK => ?_ | refine Qt fun K' hK => ?_ | refine Qq ?_ | refine Qr ?_ | refine Ql ?_ | ((first | refine Qs ⟨_, rfl, fun hc => ?_, fun hc => ?_⟩ | refine QQ (fun hc => ?_) (fun hc => ?_) | refine QR (fun hc => ?_) (fun hc => ?_)) <;> first | exact Bool.noConfusion hc | ((try simp only [znz] at hc); first | exact znf | skip)) | refine Qv ?_ | refine Qu ?_ | simp (maxSteps := 1000000) only [go_sem, Nat.reduceAdd, Nat.reduceMul, Nat.reduceEqDiff, Nat.reduceLeDiff, Nat.reduceLT, Nat.reduceSub, Int.reduceEq, Int.reduceBEq, Int.reduceLT, Int.reduceLE, Int.reduceAdd, Int.reduceToNat, reduceIte, reduceCtorEq, e] | (refine hK _ ?_; clear hK; clear K') | refine And.intro ?_ ?_ | (apply JI; (focus exact rfl); (focus first | exact hi | exact (W6 _ _ _ _ zsd zsd zsd)); (focus exact rfl); (focus (first | (simp; done) | omega | (simp only [List.length_map]; omega)))) | exact zlo | omega | exact zms)
  all_goals first | (refine VP _ rfl rfl (by simp only [go_sem, Nat.reduceEqDiff, Nat.reduceAdd, reduceIte, reduceCtorEq]) ?_; done) | (refine VP _ rfl rfl (by simp only [go_sem, Nat.reduceEqDiff, Nat.reduceAdd, reduceIte, reduceCtorEq]) ?_; rfl) | trace_state
theorem aaK (c : Int) : 0 ≤ qF c ∧ qF c ≤ 512 := by
  unfold qF; split
  · exact aah _ _
  · exact ⟨by omega, by omega⟩
def VQ (JF : Nat) : AC := QI [0, 1] (.reg [mc 4 (V.int 0)]) (QI [4] (.reg [mv 5 1, cl 6 JF [5], mv 7 0, cl 8 JF [7], bn 9 .sub 6 8, mv 4 9]) (.ret)) def r_suitespec_Sort_1 : List XG := [.tmp 4]
def Vz (Γ : Env) (f : Nat) : Prop := ∀ (x y : Int), EvN Γ f [V.int x, V.int y] (V.int (qF y - qF x))
theorem yN {Γ : Env} {f JF : Nat} (h : Has Γ.P f 10 (VQ JF) r_suitespec_Sort_1) (JE : X0 Γ JF) : Vz Γ f := by
  intro x y
  refine Jc h (by simp) (by simp only [V.closed, QK, V.noSl, JM, and_self, and_true, true_and]) (by simp only [V.closed, QK, V.noSl, JM, and_self, and_true, true_and]) fun C hC hm => ?_
  subst hC
  unfold VQ
  have h1 := aaK x
  have h2 := aaK y
  have hw : IntKind.i64.wrap (qF y - qF x) = qF y - qF x := JY (by omega) (by omega)
  repeat' (first | refine Qp fun K' hK => ?_ | refine Qt fun K' hK => ?_ | refine Qq ?_ | refine Qr ?_ | refine Ql ?_ | ((first | refine Qs ⟨_, rfl, fun hc => ?_, fun hc => ?_⟩ | refine QQ (fun hc => ?_) (fun hc => ?_) | refine QR (fun hc => ?_) (fun hc => ?_)) <;> first | exact Bool.noConfusion hc | ((try simp only [znz] at hc); first | exact znf | skip)) | refine Qv ?_ | refine Qu ?_ | simp (maxSteps := 1000000) only [go_sem, Nat.reduceAdd, Nat.reduceMul, Nat.reduceEqDiff, Nat.reduceLeDiff, Nat.reduceLT, Nat.reduceSub, Int.reduceEq, Int.reduceBEq, Int.reduceLT, Int.reduceLE, Int.reduceAdd, Int.reduceToNat, reduceIte, reduceCtorEq, hw] | (refine hK _ ?_; clear hK; clear K') | refine And.intro ?_ ?_ | (apply QT; (focus first | exact (JE _).b)) | exact zlo | omega | exact zms)
  all_goals (refine Ja _ rfl ?_; simp only [go_sem, Nat.reduceEqDiff, Nat.reduceAdd, reduceIte, reduceCtorEq])
def UK (Xk J1 XW : Nat) : AC := QI [0] (.reg [xo 2 (.mknil 1)]) (QI [3] (.reg [mv 4 0, cl 5 Xk [4], mv 3 5]) (QI [3] (.reg [mv 6 3, xo 7 (.call J1 [(.t 6), (.c (.clo XW []))])]) (QI [2] (.reg [mv 8 3, mv 2 8]) (.ret)))) def r_suitespec_Sort : List XG := [.tmp 2]
def W3 (Γ : Env) (f : Nat) : Prop := ∀ (l : List Int) (hl : l.length ≤ 40), EvW Γ f [.sl 1 (l.map V.int)] 1 ((Kl l).map V.int)
theorem x6 {Γ : Env} {f Xk J1 XW : Nat} (h : Has Γ.P f 9 (UK Xk J1 XW) r_suitespec_Sort) (qw : X3 Γ Xk) (XS : Yy Γ J1) (KR : Vz Γ XW) : W3 Γ f := by
  intro l hl
  refine yP h (by simp) (by first | exact vz _ | exact vf _) fun C hC hm => ?_
  subst hC
  unfold UK
  have hs := XS l XW (fun x y => qF y - qF x) (fun x => - qF x) (fun x y => KR x y) (fun x y => by simp only [ltK]; congr 1; apply propext; omega) hl
  have e : (fun x y : Int => decide (qF y - qF x < 0)) = ltS := by
    funext x y; simp only [ltS]; congr 1; apply propext; omega
  rw [e, ahm] at hs
  have hln := y4 l
  repeat' (first | refine Qp fun K' hK => ?_ | refine Qt fun K' hK => ?_ | refine Qq ?_ | refine Qr ?_ | refine Ql ?_ | ((first | refine Qs ⟨_, rfl, fun hc => ?_, fun hc => ?_⟩ | refine QQ (fun hc => ?_) (fun hc => ?_) | refine QR (fun hc => ?_) (fun hc => ?_)) <;> first | exact Bool.noConfusion hc | ((try simp only [znz] at hc); first | exact znf | skip)) | refine Qv ?_ | refine Qu ?_ | simp (maxSteps := 1000000) only [go_sem, Nat.reduceAdd, Nat.reduceMul, Nat.reduceEqDiff, Nat.reduceLeDiff, Nat.reduceLT, Nat.reduceSub, Int.reduceEq, Int.reduceBEq, Int.reduceLT, Int.reduceLE, Int.reduceAdd, Int.reduceToNat, reduceIte, reduceCtorEq] | (refine hK _ ?_; clear hK; clear K') | refine And.intro ?_ ?_ | (apply XF; (focus first | exact (qw _ zsd))) | (apply JI; (focus exact rfl); (focus first | exact hs | exact (XS _ _ _ _ zsd zsd zsd)); (focus exact rfl); (focus (first | (simp; done) | omega | (simp only [List.length_map]; omega)))) | (apply QT; (focus first | exact (KR _ _).b)) | exact zlo | omega | exact zms)
  all_goals first | (refine acI _ _ rfl ?_ ?_ <;> first | rfl | (simp; done) | (simp only [List.length_map]; omega)) | trace_state
end Av
end
section
set_option linter.unusedSimpArgs false
set_option linter.unusedVariables false
set_option maxRecDepth 10000
set_option maxHeartbeats 4000000
namespace Av
open Go
attribute [local irreducible] AWp W8 V7 V8 awS awC KI awQ KY Ji XK KE awR XZ awB okR WO ris
def WC (QJ : Nat) : AC := QI [0, 1] (.reg [mc 3 (V.bool false)]) (QI [3] (.reg [ld 4 1 1, mv 5 0, cl 6 QJ [4, 5], mv 3 6]) (.ret)) def r_suitespec_row__word_1 : List XG := [.tmp 3]
def We (Γ : Env) (f : Nat) : Prop := ∀ (x : Int) (m : List Int) (hm2 : m.length < 2 ^ 62), EvN Γ f [V.int x, .ro [.sl 1 (m.map V.int)] 0] (V.bool (m.contains x))
theorem qz {Γ : Env} {f QJ : Nat} (h : Has Γ.P f 7 (WC QJ) r_suitespec_row__word_1) (Qw : Jv Γ QJ) : We Γ f := by
  intro x m hm2
  refine Jc h (by simp) (by simp only [V.closed, QK, V.noSl, JM, and_self, and_true, true_and]) (by simp only [V.closed, QK, V.noSl, JM, and_self, and_true, true_and]) fun C hC hm => ?_
  subst hC
  unfold WC
  have e : decide (WW x 0 m ≥ 0) = m.contains x := by
    have := qy x m 0
    rw [Bool.eq_iff_iff]; simp only [decide_eq_true_eq, List.contains_eq_mem]; exact this
  repeat' (first | refine Qp fun K' hK => ?_ | refine Qt fun K' hK => ?_ | refine Qq ?_ | refine Qr ?_ | refine Ql ?_ | ((first | refine Qs ⟨_, rfl, fun hc => ?_, fun hc => ?_⟩ | refine QQ (fun hc => ?_) (fun hc => ?_) | refine QR (fun hc => ?_) (fun hc => ?_)) <;> first | exact Bool.noConfusion hc | ((try simp only [znz] at hc); first | exact znf | skip)) | refine Qv ?_ | refine Qu ?_ | simp (maxSteps := 1000000) only [go_sem, Nat.reduceAdd, Nat.reduceMul, Nat.reduceEqDiff, Nat.reduceLeDiff, Nat.reduceLT, Nat.reduceSub, Int.reduceEq, Int.reduceBEq, Int.reduceLT, Int.reduceLE, Int.reduceAdd, Int.reduceToNat, reduceIte, reduceCtorEq, e] | (refine hK _ ?_; clear hK; clear K') | refine And.intro ?_ ?_ | (apply QT; (focus first | exact (Qw _ _ zsd).b)) | exact zlo | omega | exact zms)
  all_goals (refine Ja _ rfl ?_; simp only [go_sem, Nat.reduceEqDiff, Nat.reduceAdd, reduceIte, reduceCtorEq])
theorem ahH (c : UInt8) : decide (Lib.indexByte [45, 33, 43] c ≥ 0) = decide (c = 45 ∨ c = 33 ∨ c = 43) := by
  by_cases h1 : c = 45
  · subst h1; decide
  · by_cases h2 : c = 33
    · subst h2; decide
    · by_cases h3 : c = 43
      · subst h3; decide
      · have : Lib.indexByte [45, 33, 43] c = -1 := by
          simp [Lib.indexByte, Ne.symm h1, Ne.symm h2, Ne.symm h3]
        rw [this]; simp [h1, h2, h3]
def sgn (c : UInt8) : List UInt8 := if c = 0 then [] else [c]
theorem wR {p : Int → Bool} {l : List Int} {k : Nat} {x : Int} (h : l[k]? = some x) : (l.take (k + 1)).filter p = (l.take k).filter p ++ (if p x = true then [x] else []) := by
  rw [List.take_add_one, h, List.filter_append]
  congr 1
  by_cases hx : p x = true <;> simp [hx]
def Wr : List AO := [mv 33 1, xo 34 (.slstr (.t 33) none (some (.c (V.int 1)))), mv 35 1, xo 36 (.slstr (.t 35) (some (.c (V.int 1))) none), mv 5 34, mv 1 36]
def WE : List (List Nat) := [[], [0], [], [2], [1, 0, 1], [3, 4, 0, 1, 2, 3, 4]]
def Wl : OT := .one 0 (.one 1 (.one 2 (.one 3 (.one 4 (.one 5 (.done))))))
def QY : OP := .one 0 false [] (mv 33 1) (.one 1 false [] (xo 34 (.slstr (.t 33) none (some (.c (V.int 1))))) (.one 2 false [] (mv 35 1) (.one 3 false [] (xo 36 (.slstr (.t 35) (some (.c (V.int 1))) none)) (.one 4 false [] (mv 5 34) (.one 5 false [] (mv 1 36) (.done))))))
theorem QH : okR (Wr) WE [] Wl = true := by kernel_rfl
theorem QF : WO (ris (Wr) WE []) Wl = QY := by kernel_rfl
def Wq : List AO := [mv 108 0, mv 109 0, mv 110 10, mv 111 0, nk 112 111, fa 113 1 112, ld 114 1 113, ld 115 1 6, xo 116 (.append 1 8 [(.int .i64 0)] (.t 114) (.t 115)), nk 117 108, fa 118 0 117, xs 1 118 110, nk 119 109, fa 120 1 119, xs 1 120 116]
def WD : List (List Nat) := [[], [], [], [], [3], [4], [5], [], [6, 7], [0, 0, 2, 6, 8], [9, 0, 2, 6, 8], [10, 2, 8, 0, 2, 6, 8], [1, 0, 1, 2, 3, 4, 5, 6, 7, 8, 9, 10, 11], [12, 0, 1, 2, 3, 4, 5, 6, 7, 8, 9, 10, 11], [13, 8, 11, 0, 1, 2, 3, 4, 5, 6, 7, 8, 9, 10, 11]]
def Wk : OT := .one 0 (.one 1 (.one 2 (.one 3 (.one 4 (.one 5 (.or 6 (.or 7 (.one 8 (.one 9 (.one 10 (.one 11 (.one 12 (.one 13 (.one 14 (.done)))))))) (.done)) (.or 7 (.one 6 (.one 8 (.one 9 (.one 10 (.one 11 (.one 12 (.one 13 (.one 14 (.done))))))))) (.done))))))))
def QX : OP := .one 0 false [] (mv 108 0) (.one 1 false [] (mv 109 0) (.one 2 false [] (mv 110 10) (.one 3 false [] (mv 111 0) (.one 4 false [] (nk 112 111) (.one 5 false [] (fa 113 1 112) (.or 6 true [] (ld 114 1 113) (.or 7 true [] (ld 115 1 6) (.one 8 true [] (xo 116 (.append 1 8 [(.int .i64 0)] (.t 114) (.t 115))) (.one 9 false [] (nk 117 108) (.one 10 false [] (fa 118 0 117) (.one 11 true [] (xs 1 118 110) (.one 12 false [] (nk 119 109) (.one 13 false [] (fa 120 1 119) (.one 14 true [8] (xs 1 120 116) (.done)))))))) (.done)) (.or 7 true [] (ld 115 1 6) (.one 6 true [] (ld 114 1 113) (.one 8 true [] (xo 116 (.append 1 8 [(.int .i64 0)] (.t 114) (.t 115))) (.one 9 false [] (nk 117 108) (.one 10 false [] (fa 118 0 117) (.one 11 true [] (xs 1 118 110) (.one 12 false [] (nk 119 109) (.one 13 false [] (fa 120 1 119) (.one 14 true [8] (xs 1 120 116) (.done))))))))) (.done))))))))
theorem QG : okR (Wq) WD [6, 7] Wk = true := by kernel_rfl
theorem QE : WO (ris (Wq) WD [6, 7]) Wk = QX := by kernel_rfl def c_suitespec_row__word (Ym Wx YF YE QJ : Nat) : AC := QI [0, 1] (.reg [mc 4 (V.bool false)]) (QI [0, 1] (QI [0, 1, 16] (.reg [mv 15 1, bc 16 .eql 15 (V.str [64, 115, 116, 114, 101, 110, 103, 116, 104])]) (.cond (.t 16) (QI [] (.reg [mv 17 0, mv 18 0, nk 19 18, fa 20 0 19, ld 21 1 20, cl 22 Ym [21], nk 23 17, fa 24 0 23, xs 1 24 22]) (QI [4] (.reg [mc 4 (V.bool true)]) (.ret))) (.skip))) (QI [0, 1, 5] (.reg [mc 5 (V.str [])]) (QI [0, 1, 5] (QI [0, 1, 5, 32] (.reg [mv 25 1, bc 26 .neq 25 (V.str []), mv 27 26, mg 28 1 27 true, xg 29 (.idxS (.t 28) (.c (V.int 0))) 27 true, xg 30 (.call Wx [(.c (V.str [45, 33, 43])), (.t 29)]) 27 true, xg 31 (.bin .geq (.t 30) (.c (V.int 0))) 27 true, xo 32 (.pick (.t 27) (.t 31) (.c (V.bool false)))]) (.cond (.t 32) (aaf [] Wl (QY) (Wr) WE) (.skip))) (QI [0, 5, 6, 7] (.reg [mv 38 1, cl 39 YF [38], mv 37 39, ex 40 37 0, ex 41 37 1, xo 6 (.alloc [.nil 1]), xs 1 6 40, mv 7 41]) (QI [0, 5, 6] (QI [0, 5, 6, 43] (.reg [mv 42 7, xo 43 (.un .not (.t 42))]) (.cond (.t 43) (QI [4] (.reg [mc 4 (V.bool false)]) (.ret)) (.skip))) (QI [0, 5, 6, 8] (.reg [xo 44 (.mkfn YE [(.t 6)]), mv 8 44]) (QI [0, 5, 6, 8, 9, 10] (.reg [xo 9 (.mknil 1), xo 10 (.mknil 1)]) (QI [0, 5, 6, 9, 10] (QI [0, 5, 6, 8, 9, 10, 48, 49, 50] (.reg [mv 45 0, nk 46 45, fa 47 0 46, ld 48 1 47, ln 49 48, mc 50 (V.int 0)]) (.block 0 (X2 [0, 5, 6, 8, 9, 10, 48, 49, 50] (QI [0, 5, 6, 8, 9, 10, 48, 49, 50, 51] (.reg [bn 51 .lss 50 49]) (QI [0, 5, 6, 8, 9, 10, 48, 49, 50] (.cond (.t 51) (.skip) (.exit 0)) (QI [0, 5, 6, 8, 9, 10, 48, 49, 50] (.block 1 (QI [0, 5, 6, 8, 9, 10, 12, 48, 49, 50] (.reg [ia 52 1 48 50, ld 53 1 52, mv 12 53]) (QI [0, 5, 6, 8, 9, 10, 12, 48, 49, 50, 56] (.reg [mv 54 8, mv 55 12, xo 56 (.callv (.t 54) [(.t 55)])]) (.cond (.t 56) (.reg [mv 57 9, mv 58 12, xo 59 (.bslice 1 1 false [(.int .i64 0)] [(0, (.t 58))]), xo 60 (.append 1 8 [(.int .i64 0)] (.t 57) (.t 59)), mv 9 60]) (.reg [mv 61 10, mv 62 12, xo 63 (.bslice 1 1 false [(.int .i64 0)] [(0, (.t 62))]), xo 64 (.append 1 8 [(.int .i64 0)] (.t 61) (.t 63)), mv 10 64]))))) (.reg [bc 65 .add 50 (V.int 1), mv 50 65]))))))) (QI [] (QI [0, 6, 9, 10, 66] (.reg [mv 66 5]) (.block 2 (QI [0, 6, 9, 10, 66, 100] (.reg [bc 101 .eql 66 (V.str [45]), mv 100 101]) (.cond (.t 100) (.reg [mv 102 0, mv 103 10, nk 104 102, fa 105 0 104, xs 1 105 103]) (QI [0, 6, 9, 10, 66, 106] (.reg [bc 107 .eql 66 (V.str [33]), mv 106 107]) (.cond (.t 106) (aaf [6, 7] Wk (QX) (Wq) WD) (QI [0, 6, 9, 10, 121] (.reg [bc 122 .eql 66 (V.str [43]), mv 121 122]) (.cond (.t 121) (.reg [mv 123 0, mv 124 10, mv 125 9, xo 126 (.append 1 8 [(.int .i64 0)] (.t 124) (.t 125)), nk 127 123, fa 128 0 127, xs 1 128 126]) (QI [0, 67, 68, 69] (.reg [ld 67 1 6, ln 68 67, mc 69 (V.int 0)]) (.block 3 (X2 [0, 67, 68, 69] (QI [0, 67, 68, 69, 70] (.reg [bn 70 .lss 69 68]) (QI [0, 67, 68, 69] (.cond (.t 70) (.skip) (.exit 3)) (QI [0, 67, 68, 69] (.block 4 (QI [0, 14, 67, 68, 69] (.reg [ia 71 1 67 69, ld 72 1 71, mv 14 72]) (QI [0, 14, 67, 68, 69, 88] (.reg [mv 73 0, nk 74 73, fa 75 0 74, ld 76 1 75, mv 77 14, cl 78 QJ [76, 77], xo 79 (.un .not (.t 78)), mv 80 79, mg 81 0 80 true, xg 82 (.nilck (.t 81)) 80 true, xg 83 (.faddr 1 (.t 82)) 80 true, xg 84 (.load false 1 (.t 83)) 80 true, mg 85 14 80 true, xg 86 (.call QJ [(.t 84), (.t 85)]) 80 true, xg 87 (.un .not (.t 86)) 80 true, xo 88 (.pick (.t 80) (.t 87) (.c (V.bool false)))]) (.cond (.t 88) (.reg [mv 89 0, mv 90 0, nk 91 90, fa 92 0 91, ld 93 1 92, mv 94 14, xo 95 (.bslice 1 1 false [(.int .i64 0)] [(0, (.t 94))]), xo 96 (.append 1 8 [(.int .i64 0)] (.t 93) (.t 95)), nk 97 89, fa 98 0 97, xs 1 98 96]) (.skip))))) (.reg [bc 99 .add 69 (V.int 1), mv 69 99]))))))))))))))) (QI [4] (.reg [mc 4 (V.bool true)]) (.ret))))))))))) def r_suitespec_row__word : List XG := [.tmp 4]
def WK (Γ : Env) (f : Nat) : Prop := ∀ (w : List UInt8) (l k : List Int) (hw : w.length < 2 ^ 30) (hr : adD (l, k)) (hk : k.length < 2 ^ 30), EvT Γ f [V.str w] 1 1 (l.map V.int) (k.map V.int) (V.bool (wordOk w)) (((if wordOk w then doR w (l, k) else (l, k)).1).map V.int) (((if wordOk w then doR w (l, k) else (l, k)).2).map V.int)
theorem jG {Γ : Env} {f Ym Wx YF YE QJ : Nat} (h : Has Γ.P f 129 (c_suitespec_row__word Ym Wx YF YE QJ) r_suitespec_row__word) (Q4 : W3 Γ Ym) (Je : U0 Γ Wx) (Q7 : Vl Γ YF) (Q0 : We Γ YE) (Qw : Jv Γ QJ) : WK Γ f := by
  intro w l k hw hr hk
  refine adt h (by simp) (by simp only [V.closed, QK, V.noSl, JM, and_self, and_true, true_and]) fun C hC hm => ?_
  subst hC
  unfold c_suitespec_row__word
  have hl16 : l.length ≤ 16 := hr.len
  by_cases h0 : w = ah8
  · have e1 : wordOk w = true := by simp [wordOk, h0]
    have e2 : doR w (l, k) = (Kl l, k) := by simp [doR, h0]
    rw [e1, if_pos rfl, e2]
    have e3 : (w == [64, 115, 116, 114, 101, 110, 103, 116, 104]) = true := by simp [h0, ah8]
    repeat' (first | refine Qp fun K' hK => ?_ | refine Qt fun K' hK => ?_ | refine Qn 6 (fun _ => true) rfl (QH) (QF) fun K' hK => ?_ | refine Qo 6 (fun _ => true) rfl (QH) (QF) fun K' hK => ?_ | refine Qn 15 (fun _ => false) rfl (QG) (QE) fun K' hK => ?_ | refine Qo 15 (fun _ => false) rfl (QG) (QE) fun K' hK => ?_ | refine Qq ?_ | refine Qr ?_ | refine Ql ?_ | ((first | refine Qs ⟨_, rfl, fun hc => ?_, fun hc => ?_⟩ | refine QQ (fun hc => ?_) (fun hc => ?_) | refine QR (fun hc => ?_) (fun hc => ?_)) <;> first | exact Bool.noConfusion hc | ((try simp only [znz] at hc); first | exact znf | skip)) | refine Qv ?_ | refine Qu ?_ | simp (maxSteps := 1000000) only [go_sem, Nat.reduceAdd, Nat.reduceMul, Nat.reduceEqDiff, Nat.reduceLeDiff, Nat.reduceLT, Nat.reduceSub, Int.reduceEq, Int.reduceBEq, Int.reduceLT, Int.reduceLE, Int.reduceAdd, Int.reduceToNat, reduceIte, reduceCtorEq, e3, List.take_length, QY, QX] | (refine hK _ ?_; clear hK; clear K') | refine And.intro ?_ ?_ | ((first | apply XF | apply Vc); (focus first | exact (Q4 _ zsd))) | ((first | apply QT | apply Jl); (focus first | exact (Je _ _).b | exact (Q7 _ zsd).b | exact (Q0 _ _ zsd).b | exact (Qw _ _ zsd).b)) | exact zlo | omega | exact zms)
    all_goals first
      | (refine aa9 _ _ _ _ _ rfl (by simp only [go_sem, Nat.reduceEqDiff, Nat.reduceAdd, reduceIte, reduceCtorEq]) rfl rfl rfl (by decide) (by decide) (by decide) ⟨_, rfl⟩ ⟨_, rfl⟩ ?_ ?_ ?_ ?_ <;> first | rfl | (simp; done))
      | trace_state
  · have e3 : (w == [64, 115, 116, 114, 101, 110, 103, 116, 104]) = false := afc h0
    have ed : doR w (l, k) = doG (Vd w).1 (y5 (Vd w).2).1 (l, k) := by rw [doR, afc h0]; rfl
    have eo : wordOk w = (y5 (Vd w).2).2 := by rw [wordOk, afc h0, Bool.false_or]
    have hlen : (Vd w).2.length ≤ w.length := by
      cases w with
      | nil => simp [Vd]
      | cons c r => rw [ye]; split <;> simp
    have hs := (Q7 (Vd w).2 (by omega)).b
    have hsl := abl (Vd w).2
    have hnd := aff (Vd w).2
    rw [ed, eo]
    refine Qp fun K' hK => ?_
    simp (maxSteps := 1000000) only [go_sem, Nat.reduceAdd, Nat.reduceMul, Nat.reduceEqDiff, Nat.reduceLeDiff, Nat.reduceLT, Nat.reduceSub, Int.reduceEq, Int.reduceBEq, Int.reduceLT, Int.reduceLE, Int.reduceAdd, Int.reduceToNat, reduceIte, reduceCtorEq]
    refine hK _ ?_
    clear hK
    clear K'
    (try simp only [go_sem, Nat.reduceAdd, Nat.reduceMul, Nat.reduceEqDiff, Nat.reduceLeDiff, Nat.reduceLT, Nat.reduceSub, Int.reduceEq, Int.reduceBEq, Int.reduceLT, Int.reduceLE, Int.reduceAdd, Int.reduceToNat, reduceIte, reduceCtorEq])
    refine Qq ?_
    refine Qp fun K' hK => ?_
    simp (maxSteps := 1000000) only [go_sem, Nat.reduceAdd, Nat.reduceMul, Nat.reduceEqDiff, Nat.reduceLeDiff, Nat.reduceLT, Nat.reduceSub, Int.reduceEq, Int.reduceBEq, Int.reduceLT, Int.reduceLE, Int.reduceAdd, Int.reduceToNat, reduceIte, reduceCtorEq, e3]
    refine hK _ ?_
    clear hK
    clear K'
    (try simp only [go_sem, Nat.reduceAdd, Nat.reduceMul, Nat.reduceEqDiff, Nat.reduceLeDiff, Nat.reduceLT, Nat.reduceSub, Int.reduceEq, Int.reduceBEq, Int.reduceLT, Int.reduceLE, Int.reduceAdd, Int.reduceToNat, reduceIte, reduceCtorEq])
    refine Qs ⟨_, rfl, fun hc => Bool.noConfusion hc, fun hc => ?_⟩
    refine Qr ?_
    (try simp only [go_sem])
    refine Qp fun K' hK => ?_
    simp (maxSteps := 1000000) only [go_sem, Nat.reduceAdd, Nat.reduceMul, Nat.reduceEqDiff, Nat.reduceLeDiff, Nat.reduceLT, Nat.reduceSub, Int.reduceEq, Int.reduceBEq, Int.reduceLT, Int.reduceLE, Int.reduceAdd, Int.reduceToNat, reduceIte, reduceCtorEq]
    refine hK _ ?_
    clear hK
    clear K'
    (try simp only [go_sem, Nat.reduceAdd, Nat.reduceMul, Nat.reduceEqDiff, Nat.reduceLeDiff, Nat.reduceLT, Nat.reduceSub, Int.reduceEq, Int.reduceBEq, Int.reduceLT, Int.reduceLE, Int.reduceAdd, Int.reduceToNat, reduceIte, reduceCtorEq])
    have hcut : ∃ good : Unit → Prop, good () ∧ True := ⟨fun _ => True, trivial, trivial⟩
    refine VS (ι := Unit) (fun _ => True) (fun _ => J0 [(0, .ptr 0 0), (1, V.str (Vd w).2), (5, V.str (sgn (Vd w).1))] [(0, .box true [.hd 3 0 (l.map V.int).length, .hd 4 0 (k.map V.int).length]), (1, .dead), (2, .dead), (3, .buf true 1 (l.map V.int)), (4, .buf true 1 (k.map V.int))] 5) (fun K' hK' => ?_) (fun _ _ => ?_)
    · rcases w with _ | ⟨c, r⟩
      · repeat' (first | refine Qp fun K' hK => ?_ | refine Qt fun K' hK => ?_ | refine Qn 6 (fun _ => true) rfl (QH) (QF) fun K' hK => ?_ | refine Qo 6 (fun _ => true) rfl (QH) (QF) fun K' hK => ?_ | refine Qn 15 (fun _ => false) rfl (QG) (QE) fun K' hK => ?_ | refine Qo 15 (fun _ => false) rfl (QG) (QE) fun K' hK => ?_ | refine Qq ?_ | refine Qr ?_ | refine Ql ?_ | ((first | refine Qs ⟨_, rfl, fun hc => ?_, fun hc => ?_⟩ | refine QQ (fun hc => ?_) (fun hc => ?_) | refine QR (fun hc => ?_) (fun hc => ?_)) <;> first | exact Bool.noConfusion hc | ((try simp only [znz] at hc); first | exact znf | skip)) | refine Qv ?_ | refine Qu ?_ | simp (maxSteps := 1000000) only [go_sem, Nat.reduceAdd, Nat.reduceMul, Nat.reduceEqDiff, Nat.reduceLeDiff, Nat.reduceLT, Nat.reduceSub, Int.reduceEq, Int.reduceBEq, Int.reduceLT, Int.reduceLE, Int.reduceAdd, Int.reduceToNat, reduceIte, reduceCtorEq, QY, QX] | (refine hK _ ?_; clear hK; clear K') | refine And.intro ?_ ?_ | ((first | apply XF | apply Vc); (focus first | exact (Q4 _ zsd))) | ((first | apply QT | apply Jl); (focus first | exact (Je _ _).b | exact (Q7 _ zsd).b | exact (Q0 _ _ zsd).b | exact (Qw _ _ zsd).b)) | exact zlo | omega | exact zms)
        all_goals exact hK' _ () (Jb []) trivial (Jd [] (by simp only [go_sem, Nat.reduceAdd, Nat.reduceMul, Nat.reduceEqDiff, Nat.reduceLT, Int.reduceToNat, reduceIte, reduceCtorEq, and_true, true_and, implies_true, Option.some.injEq, exists_eq_left', Qk, Qm]; (repeat' (first | rfl | refine And.intro ?_ ?_ | omega | exact fun h => h | exact Exists.intro _ rfl))) (by simp only [go_sem, Nat.reduceAdd, Nat.reduceMul, Nat.reduceEqDiff, Nat.reduceLT, Int.reduceToNat, reduceIte, reduceCtorEq, and_true, true_and, implies_true, Option.some.injEq, exists_eq_left', Qk, Qm]; (repeat' (first | rfl | refine And.intro ?_ ?_ | omega | exact fun h => h | exact Exists.intro _ rfl))) (by simp [Jb]) (by simp) (by omega))
      · have hib := ahH c
        by_cases hc : c = 45 ∨ c = 33 ∨ c = 43
        · have hsv : Vd (c :: r) = (c, r) := by rw [ye, if_pos hc]
          rw [decide_eq_true hc] at hib
          have hsg : sgn c = [c] := by rw [sgn, if_neg]; rintro rfl; simp at hc
          have e4 : (c :: r != []) = true := rfl
          simp only [hsv, hsg] at hK'
          repeat' (first | refine Qp fun K' hK => ?_ | refine Qt fun K' hK => ?_ | refine Qn 6 (fun _ => true) rfl (QH) (QF) fun K' hK => ?_ | refine Qo 6 (fun _ => true) rfl (QH) (QF) fun K' hK => ?_ | refine Qn 15 (fun _ => false) rfl (QG) (QE) fun K' hK => ?_ | refine Qo 15 (fun _ => false) rfl (QG) (QE) fun K' hK => ?_ | refine Qq ?_ | refine Qr ?_ | refine Ql ?_ | ((first | refine Qs ⟨_, rfl, fun hc => ?_, fun hc => ?_⟩ | refine QQ (fun hc => ?_) (fun hc => ?_) | refine QR (fun hc => ?_) (fun hc => ?_)) <;> first | exact Bool.noConfusion hc | ((try simp only [znz] at hc); first | exact znf | skip)) | refine Qv ?_ | refine Qu ?_ | simp (maxSteps := 1000000) only [go_sem, Nat.reduceAdd, Nat.reduceMul, Nat.reduceEqDiff, Nat.reduceLeDiff, Nat.reduceLT, Nat.reduceSub, Int.reduceEq, Int.reduceBEq, Int.reduceLT, Int.reduceLE, Int.reduceAdd, Int.reduceToNat, reduceIte, reduceCtorEq, hib, e4, List.take_length, Nat.add_sub_cancel, QY, QX] | (refine hK _ ?_; clear hK; clear K') | refine And.intro ?_ ?_ | ((first | apply XF | apply Vc); (focus first | exact (Q4 _ zsd))) | ((first | apply QT | apply Jl); (focus first | exact (Je _ _).b | exact (Q7 _ zsd).b | exact (Q0 _ _ zsd).b | exact (Qw _ _ zsd).b)) | exact zlo | omega | exact zms)
          all_goals first | exact hK' _ () (Jb []) trivial (Jd [] (by simp only [go_sem, Nat.reduceAdd, Nat.reduceMul, Nat.reduceEqDiff, Nat.reduceLT, Int.reduceToNat, reduceIte, reduceCtorEq, and_true, true_and, implies_true, Option.some.injEq, exists_eq_left', Qk, Qm]; (repeat' (first | rfl | refine And.intro ?_ ?_ | omega | exact fun h => h | exact Exists.intro _ rfl))) (by simp only [go_sem, Nat.reduceAdd, Nat.reduceMul, Nat.reduceEqDiff, Nat.reduceLT, Int.reduceToNat, reduceIte, reduceCtorEq, and_true, true_and, implies_true, Option.some.injEq, exists_eq_left', Qk, Qm]; (repeat' (first | rfl | refine And.intro ?_ ?_ | omega | exact fun h => h | exact Exists.intro _ rfl))) (by simp [Jb]) (by simp) (by omega)) | trace_state
        · have hsv : Vd (c :: r) = (0, c :: r) := by rw [ye, if_neg hc]
          have hsg : sgn 0 = [] := rfl
          rw [decide_eq_false hc] at hib
          simp only [hsv, hsg] at hK'
          have e4 : (c :: r != []) = true := rfl
          repeat' (first | refine Qp fun K' hK => ?_ | refine Qt fun K' hK => ?_ | refine Qn 6 (fun _ => true) rfl (QH) (QF) fun K' hK => ?_ | refine Qo 6 (fun _ => true) rfl (QH) (QF) fun K' hK => ?_ | refine Qn 15 (fun _ => false) rfl (QG) (QE) fun K' hK => ?_ | refine Qo 15 (fun _ => false) rfl (QG) (QE) fun K' hK => ?_ | refine Qq ?_ | refine Qr ?_ | refine Ql ?_ | ((first | refine Qs ⟨_, rfl, fun hc => ?_, fun hc => ?_⟩ | refine QQ (fun hc => ?_) (fun hc => ?_) | refine QR (fun hc => ?_) (fun hc => ?_)) <;> first | exact Bool.noConfusion hc | ((try simp only [znz] at hc); first | exact znf | skip)) | refine Qv ?_ | refine Qu ?_ | simp (maxSteps := 1000000) only [go_sem, Nat.reduceAdd, Nat.reduceMul, Nat.reduceEqDiff, Nat.reduceLeDiff, Nat.reduceLT, Nat.reduceSub, Int.reduceEq, Int.reduceBEq, Int.reduceLT, Int.reduceLE, Int.reduceAdd, Int.reduceToNat, reduceIte, reduceCtorEq, hib, e4, QY, QX] | (refine hK _ ?_; clear hK; clear K') | refine And.intro ?_ ?_ | ((first | apply XF | apply Vc); (focus first | exact (Q4 _ zsd))) | ((first | apply QT | apply Jl); (focus first | exact (Je _ _).b | exact (Q7 _ zsd).b | exact (Q0 _ _ zsd).b | exact (Qw _ _ zsd).b)) | exact zlo | omega | exact zms)
          all_goals first | exact hK' _ () (Jb []) trivial (Jd [] (by simp only [go_sem, Nat.reduceAdd, Nat.reduceMul, Nat.reduceEqDiff, Nat.reduceLT, Int.reduceToNat, reduceIte, reduceCtorEq, and_true, true_and, implies_true, Option.some.injEq, exists_eq_left', Qk, Qm]; (repeat' (first | rfl | refine And.intro ?_ ?_ | omega | exact fun h => h | exact Exists.intro _ rfl))) (by simp only [go_sem, Nat.reduceAdd, Nat.reduceMul, Nat.reduceEqDiff, Nat.reduceLT, Int.reduceToNat, reduceIte, reduceCtorEq, and_true, true_and, implies_true, Option.some.injEq, exists_eq_left', Qk, Qm]; (repeat' (first | rfl | refine And.intro ?_ ?_ | omega | exact fun h => h | exact Exists.intro _ rfl))) (by simp [Jb]) (by simp) (by omega)) | trace_state
    · have hcase : (Vd w).1 = 0 ∨ (Vd w).1 = 45 ∨ (Vd w).1 = 33 ∨ (Vd w).1 = 43 := by
        cases w with
        | nil => exact .inl rfl
        | cons c r =>
          rw [ye]; split
          · rename_i h; exact .inr h
          · exact .inl rfl
      generalize Vd w = sv at *
      obtain ⟨sg, v⟩ := sv
      simp only at hs hsl hnd hlen hcase ⊢
      generalize y5 v = S at *
      obtain ⟨m, ok⟩ := S
      simp only at hs hsl hnd ⊢
      rcases ok with _ | _
      · simp only [Bool.false_eq_true, if_false]
        repeat' (first | refine Qp fun K' hK => ?_ | refine Qt fun K' hK => ?_ | refine Qn 6 (fun _ => true) rfl (QH) (QF) fun K' hK => ?_ | refine Qo 6 (fun _ => true) rfl (QH) (QF) fun K' hK => ?_ | refine Qn 15 (fun _ => false) rfl (QG) (QE) fun K' hK => ?_ | refine Qo 15 (fun _ => false) rfl (QG) (QE) fun K' hK => ?_ | refine Qq ?_ | refine Qr ?_ | refine Ql ?_ | ((first | refine Qs ⟨_, rfl, fun hc => ?_, fun hc => ?_⟩ | refine QQ (fun hc => ?_) (fun hc => ?_) | refine QR (fun hc => ?_) (fun hc => ?_)) <;> first | exact Bool.noConfusion hc | ((try simp only [znz] at hc); first | exact znf | skip)) | refine Qv ?_ | refine Qu ?_ | simp (maxSteps := 1000000) only [go_sem, Nat.reduceAdd, Nat.reduceMul, Nat.reduceEqDiff, Nat.reduceLeDiff, Nat.reduceLT, Nat.reduceSub, Int.reduceEq, Int.reduceBEq, Int.reduceLT, Int.reduceLE, Int.reduceAdd, Int.reduceToNat, reduceIte, reduceCtorEq, J0, QY, QX] | (refine hK _ ?_; clear hK; clear K') | refine And.intro ?_ ?_ | ((first | apply XF | apply Vc); (focus first | exact (Q4 _ zsd))) | ((first | apply QT | apply Jl); (focus first | exact hs | exact (Je _ _).b | exact (Q7 _ zsd).b | exact (Q0 _ _ zsd).b | exact (Qw _ _ zsd).b)) | exact zlo | omega | exact zms)
        all_goals first
          | (refine aa9 _ _ _ _ _ rfl (by simp only [go_sem, Nat.reduceEqDiff, Nat.reduceAdd, reduceIte, reduceCtorEq]) rfl rfl rfl (by decide) (by decide) (by decide) ⟨_, rfl⟩ ⟨_, rfl⟩ ?_ ?_ ?_ ?_ <;> first | rfl | (simp; done))
          | trace_state
      · simp only [if_true]
        repeat' (first | refine Qp fun K' hK => ?_ | refine Qt fun K' hK => ?_ | refine Qn 6 (fun _ => true) rfl (QH) (QF) fun K' hK => ?_ | refine Qo 6 (fun _ => true) rfl (QH) (QF) fun K' hK => ?_ | refine Qn 15 (fun _ => false) rfl (QG) (QE) fun K' hK => ?_ | refine Qo 15 (fun _ => false) rfl (QG) (QE) fun K' hK => ?_ | refine Qq ?_ | refine Qr ?_ | refine Ql ?_ | ((first | refine Qs ⟨_, rfl, fun hc => ?_, fun hc => ?_⟩ | refine QQ (fun hc => ?_) (fun hc => ?_) | refine QR (fun hc => ?_) (fun hc => ?_)) <;> first | exact Bool.noConfusion hc | ((try simp only [znz] at hc); first | exact znf | skip)) | refine Qv ?_ | refine Qu ?_ | simp (maxSteps := 1000000) only [go_sem, Nat.reduceAdd, Nat.reduceMul, Nat.reduceEqDiff, Nat.reduceLeDiff, Nat.reduceLT, Nat.reduceSub, Int.reduceEq, Int.reduceBEq, Int.reduceLT, Int.reduceLE, Int.reduceAdd, Int.reduceToNat, reduceIte, reduceCtorEq, J0, QY, QX] | (refine hK _ ?_; clear hK; clear K') | refine And.intro ?_ ?_ | ((first | apply XF | apply Vc); (focus first | exact (Q4 _ zsd))) | ((first | apply QT | apply Jl); (focus first | exact hs | exact (Je _ _).b | exact (Q7 _ zsd).b | exact (Q0 _ _ zsd).b | exact (Qw _ _ zsd).b)) | exact zlo | omega | exact zms)
        refine Ju (ι := Nat) (fun j => j ≤ l.length) (fun j => J0 [(0, .ptr 0 0), (5, V.str (sgn sg)), (6, .ptr 5 0), (8, .clo YE [.ptr 5 0]), (9, .hd 6 0 ((l.take j).filter fun x => m.contains x).length), (10, .hd 7 0 (QZ (l.take j) m).length), (48, .hd 3 0 (l.map V.int).length), (49, V.int (l.map V.int).length), (50, V.int j)] [(0, .box true [.hd 3 0 (l.map V.int).length, .hd 4 0 (k.map V.int).length]), (1, .dead), (2, .dead), (3, .buf true 1 (l.map V.int)), (4, .buf true 1 (k.map V.int)), (5, .box true [.sl 1 (m.map V.int)]), (6, .buf true 1 (((l.take j).filter fun x => m.contains x).map V.int)), (7, .buf true 1 ((QZ (l.take j) m).map V.int))] 8) (fun j => l.length - j) 0 (by omega) (Jb [(5, 5005), (6, 12005), (7, 13005)]) (Jd [(5, 5005), (6, 12005), (7, 13005)] (by simp only [go_sem, Nat.reduceAdd, Nat.reduceMul, Nat.reduceEqDiff, Nat.reduceLT, Int.reduceToNat, reduceIte, reduceCtorEq, and_true, true_and, implies_true, Option.some.injEq, exists_eq_left', Qk, Qm]; (repeat' (first | rfl | refine And.intro ?_ ?_ | omega | exact fun h => h | exact Exists.intro _ rfl))) (by simp only [go_sem, Nat.reduceAdd, Nat.reduceMul, Nat.reduceEqDiff, Nat.reduceLT, Int.reduceToNat, reduceIte, reduceCtorEq, and_true, true_and, implies_true, Option.some.injEq, exists_eq_left', Qk, Qm]; (repeat' (first | rfl | refine And.intro ?_ ?_ | omega | exact fun h => h | exact Exists.intro _ rfl))) (by simp [Jb]) (by simp; omega) (by omega)) fun j hj K' hL => ?_
        rcases hd : l.drop j with _ | ⟨x, r⟩
        · have hjl := YL hd
          have hj0 : j = l.length := by omega
          subst hj0
          have e1 : decide ((l.length : Int) < (((l.map V.int).length : Nat) : Int)) = false := by simp
          have hw1 := WP l m
          have hw2 : (l.filter fun x => m.contains x).length ≤ l.length := List.length_filter_le _ _
          have hcat : QZ l m ++ (l.filter fun x => m.contains x) = QZ l m ++ QZ l (QZ l m) := by
            congr 1
            unfold QZ
            refine List.filter_congr fun x hx => ?_
            cases hm : m.contains x <;> simp_all
          rw [List.take_length]
          generalize hmv : (l.filter fun x => m.contains x) = mv at *
          rcases hcase with rfl | rfl | rfl | rfl
          · have hd0 : doG 0 m (l, k) = (l ++ QZ (QZ m l) k, k) := rfl
            have hs0 : sgn 0 = [] := rfl
            rw [hd0, hs0]
            repeat' (first | refine Qp fun K' hK => ?_ | refine Qt fun K' hK => ?_ | refine Qn 6 (fun _ => true) rfl (QH) (QF) fun K' hK => ?_ | refine Qo 6 (fun _ => true) rfl (QH) (QF) fun K' hK => ?_ | refine Qn 15 (fun _ => false) rfl (QG) (QE) fun K' hK => ?_ | refine Qo 15 (fun _ => false) rfl (QG) (QE) fun K' hK => ?_ | refine Qq ?_ | refine Qr ?_ | refine Ql ?_ | ((first | refine Qs ⟨_, rfl, fun hc => ?_, fun hc => ?_⟩ | refine QQ (fun hc => ?_) (fun hc => ?_) | refine QR (fun hc => ?_) (fun hc => ?_)) <;> first | exact Bool.noConfusion hc | ((try simp only [znz] at hc); first | exact znf | skip)) | refine Qv ?_ | refine Qu ?_ | simp (maxSteps := 1000000) only [go_sem, Nat.reduceAdd, Nat.reduceMul, Nat.reduceEqDiff, Nat.reduceLeDiff, Nat.reduceLT, Nat.reduceSub, Int.reduceEq, Int.reduceBEq, Int.reduceLT, Int.reduceLE, Int.reduceAdd, Int.reduceToNat, reduceIte, reduceCtorEq, J0, e1, QY, QX] | (refine hK _ ?_; clear hK; clear K') | refine And.intro ?_ ?_ | ((first | apply XF | apply Vc); (focus first | exact (Q4 _ zsd))) | ((first | apply QT | apply Jl); (focus first | exact (Je _ _).b | exact (Q7 _ zsd).b | exact (Q0 _ _ zsd).b | exact (Qw _ _ zsd).b)) | exact zlo | omega | exact zms)
            refine Ju (ι := Nat) (fun i => i ≤ m.length) (fun i => J0 [(0, .ptr 0 0), (67, .sl 1 (m.map V.int)), (68, V.int (m.map V.int).length), (69, V.int i)] [(0, .box true [.hd 3 0 (l ++ QZ (QZ (m.take i) l) k).length, .hd 4 0 (k.map V.int).length]), (1, .dead), (2, .dead), (3, .buf true 1 ((l ++ QZ (QZ (m.take i) l) k).map V.int)), (4, .buf true 1 (k.map V.int))] 5) (fun i => m.length - i) 0 (by omega) (Jb []) (Jd [] (by simp only [go_sem, Nat.reduceAdd, Nat.reduceMul, Nat.reduceEqDiff, Nat.reduceLT, Int.reduceToNat, reduceIte, reduceCtorEq, and_true, true_and, implies_true, Option.some.injEq, exists_eq_left', Qk, Qm]; (repeat' (first | rfl | refine And.intro ?_ ?_ | omega | exact fun h => h | exact Exists.intro _ rfl))) (by simp only [go_sem, Nat.reduceAdd, Nat.reduceMul, Nat.reduceEqDiff, Nat.reduceLT, Int.reduceToNat, reduceIte, reduceCtorEq, and_true, true_and, implies_true, Option.some.injEq, exists_eq_left', Qk, Qm]; simp only [List.take_zero, QZ, List.filter_nil, List.append_nil, List.length_map]; (repeat' (first | rfl | refine And.intro ?_ ?_ | omega | exact fun h => h | exact Exists.intro _ rfl))) (by simp [Jb]) (by simp) (by omega)) fun i hi K' hL => ?_
            rcases hdi : m.drop i with _ | ⟨c, r⟩
            · have hil := YL hdi
              have e2 : decide ((i : Int) < (((m.map V.int).length : Nat) : Int)) = false := by simp; omega
              have e3 : m.take i = m := List.take_of_length_le hil
              rw [e3]
              repeat' (first | refine Qp fun K' hK => ?_ | refine Qt fun K' hK => ?_ | refine Qn 6 (fun _ => true) rfl (QH) (QF) fun K' hK => ?_ | refine Qo 6 (fun _ => true) rfl (QH) (QF) fun K' hK => ?_ | refine Qn 15 (fun _ => false) rfl (QG) (QE) fun K' hK => ?_ | refine Qo 15 (fun _ => false) rfl (QG) (QE) fun K' hK => ?_ | refine Qq ?_ | refine Qr ?_ | refine Ql ?_ | ((first | refine Qs ⟨_, rfl, fun hc => ?_, fun hc => ?_⟩ | refine QQ (fun hc => ?_) (fun hc => ?_) | refine QR (fun hc => ?_) (fun hc => ?_)) <;> first | exact Bool.noConfusion hc | ((try simp only [znz] at hc); first | exact znf | skip)) | refine Qv ?_ | refine Qu ?_ | simp (maxSteps := 1000000) only [go_sem, Nat.reduceAdd, Nat.reduceMul, Nat.reduceEqDiff, Nat.reduceLeDiff, Nat.reduceLT, Nat.reduceSub, Int.reduceEq, Int.reduceBEq, Int.reduceLT, Int.reduceLE, Int.reduceAdd, Int.reduceToNat, reduceIte, reduceCtorEq, J0, e2, QY, QX] | (refine hK _ ?_; clear hK; clear K') | refine And.intro ?_ ?_ | ((first | apply XF | apply Vc); (focus first | exact (Q4 _ zsd))) | ((first | apply QT | apply Jl); (focus first | exact (Je _ _).b | exact (Q7 _ zsd).b | exact (Q0 _ _ zsd).b | exact (Qw _ _ zsd).b)) | exact zlo | omega | exact zms)
              all_goals first
                | (refine aa9 _ _ _ _ _ rfl (by simp only [go_sem, Nat.reduceEqDiff, Nat.reduceAdd, reduceIte, reduceCtorEq]) rfl rfl rfl (by decide) (by decide) (by decide) ⟨_, rfl⟩ ⟨_, rfl⟩ ?_ ?_ ?_ ?_ <;> first | rfl | (simp; done))
                | trace_state
            · obtain ⟨hi', hgi, hri⟩ := Yf hdi
              have hwi := JD (k := i) (by omega)
              have e2 : decide ((i : Int) < (((m.map V.int).length : Nat) : Int)) = true := by simp; omega
              have ha := yZ (m := l) hgi
              have hnc : c ∉ m.take i := by
                intro h
                have h2 : m.take i ++ c :: r = m := by rw [← hdi, List.take_append_drop]
                rw [← h2] at hnd
                exact (List.nodup_append.1 hnd).2.2 c h c (by simp) rfl
              have hal : (QZ (QZ (m.take i) l) k).length ≤ 16 := by
                have q1 := WP (QZ (m.take i) l) k
                have q2 := WP (m.take i) l
                rw [List.length_take] at q2; omega
              have hin : c ∈ l ++ QZ (QZ (m.take i) l) k ↔ c ∈ l := by
                rw [List.mem_append]
                exact ⟨fun h => h.elim id fun h => absurd (Y7.1 (Y7.1 h).1).1 hnc, Or.inl⟩
              have hf1 := qy c (l ++ QZ (QZ (m.take i) l) k) 0
              have hf2 := qy c k 0
              have hc1 := (Qw (l ++ QZ (QZ (m.take i) l) k) c (by rw [List.length_append]; omega)).b
              have hc2 := (Qw k c (by omega)).b
              by_cases hcl : c ∈ l
              · rw [decide_eq_true (hf1.2 (hin.2 hcl))] at hc1
                rw [if_pos (by simpa using hcl), List.append_nil] at ha
                rw [← ha] at hc1 ⊢
                repeat' (first | refine Qp fun K' hK => ?_ | refine Qt fun K' hK => ?_ | refine Qn 6 (fun _ => true) rfl (QH) (QF) fun K' hK => ?_ | refine Qo 6 (fun _ => true) rfl (QH) (QF) fun K' hK => ?_ | refine Qn 15 (fun _ => false) rfl (QG) (QE) fun K' hK => ?_ | refine Qo 15 (fun _ => false) rfl (QG) (QE) fun K' hK => ?_ | refine Qq ?_ | refine Qr ?_ | refine Ql ?_ | ((first | refine Qs ⟨_, rfl, fun hc => ?_, fun hc => ?_⟩ | refine QQ (fun hc => ?_) (fun hc => ?_) | refine QR (fun hc => ?_) (fun hc => ?_)) <;> first | exact Bool.noConfusion hc | ((try simp only [znz] at hc); first | exact znf | skip)) | refine Qv ?_ | refine Qu ?_ | simp (maxSteps := 1000000) only [go_sem, Nat.reduceAdd, Nat.reduceMul, Nat.reduceEqDiff, Nat.reduceLeDiff, Nat.reduceLT, Nat.reduceSub, Int.reduceEq, Int.reduceBEq, Int.reduceLT, Int.reduceLE, Int.reduceAdd, Int.reduceToNat, reduceIte, reduceCtorEq, J0, e2, hwi, Int.toNat_natCast, List.getElem?_map, hgi, List.take_length, Kj, QY, QX] | (refine hK _ ?_; clear hK; clear K') | refine And.intro ?_ ?_ | ((first | apply XF | apply Vc); (focus first | exact (Q4 _ zsd))) | ((first | apply QT | apply Jl); (focus first | exact hc1 | exact (Je _ _).b | exact (Q7 _ zsd).b | exact (Q0 _ _ zsd).b | exact (Qw _ _ zsd).b)) | exact zlo | omega | exact zms)
                all_goals first
                  | exact hL _ (i + 1) (Jb []) (by omega) (by omega) (Jd [] (by simp only [go_sem, Nat.reduceAdd, Nat.reduceMul, Nat.reduceEqDiff, Nat.reduceLT, Int.reduceToNat, reduceIte, reduceCtorEq, and_true, true_and, implies_true, Option.some.injEq, exists_eq_left', Qk, Qm]; (repeat' (first | rfl | refine And.intro ?_ ?_ | omega | exact fun h => h | exact Exists.intro _ rfl))) (by simp only [go_sem, Nat.reduceAdd, Nat.reduceMul, Nat.reduceEqDiff, Nat.reduceLT, Int.reduceToNat, reduceIte, reduceCtorEq, and_true, true_and, implies_true, Option.some.injEq, exists_eq_left', Qk, Qm]; (repeat' (first | rfl | refine And.intro ?_ ?_ | omega | exact fun h => h | exact Exists.intro _ rfl))) (by simp [Jb]) (by simp) (by omega))
                  | trace_state
              · rw [decide_eq_false (fun h => hcl (hin.1 (hf1.1 h)))] at hc1
                rw [if_neg (by simpa using hcl)] at ha
                by_cases hck : c ∈ k
                · have hb : QZ (QZ (m.take (i + 1)) l) k = QZ (QZ (m.take i) l) k := by
                    rw [ha, QZ, List.filter_append]; simp [hck, QZ]
                  rw [decide_eq_true (hf2.2 hck)] at hc2
                  rw [← hb] at hc1 ⊢
                  repeat' (first | refine Qp fun K' hK => ?_ | refine Qt fun K' hK => ?_ | refine Qn 6 (fun _ => true) rfl (QH) (QF) fun K' hK => ?_ | refine Qo 6 (fun _ => true) rfl (QH) (QF) fun K' hK => ?_ | refine Qn 15 (fun _ => false) rfl (QG) (QE) fun K' hK => ?_ | refine Qo 15 (fun _ => false) rfl (QG) (QE) fun K' hK => ?_ | refine Qq ?_ | refine Qr ?_ | refine Ql ?_ | ((first | refine Qs ⟨_, rfl, fun hc => ?_, fun hc => ?_⟩ | refine QQ (fun hc => ?_) (fun hc => ?_) | refine QR (fun hc => ?_) (fun hc => ?_)) <;> first | exact Bool.noConfusion hc | ((try simp only [znz] at hc); first | exact znf | skip)) | refine Qv ?_ | refine Qu ?_ | simp (maxSteps := 1000000) only [go_sem, Nat.reduceAdd, Nat.reduceMul, Nat.reduceEqDiff, Nat.reduceLeDiff, Nat.reduceLT, Nat.reduceSub, Int.reduceEq, Int.reduceBEq, Int.reduceLT, Int.reduceLE, Int.reduceAdd, Int.reduceToNat, reduceIte, reduceCtorEq, J0, e2, hwi, Int.toNat_natCast, List.getElem?_map, hgi, List.take_length, Kj, QY, QX] | (refine hK _ ?_; clear hK; clear K') | refine And.intro ?_ ?_ | ((first | apply XF | apply Vc); (focus first | exact (Q4 _ zsd))) | ((first | apply QT | apply Jl); (focus first | exact hc1 | exact hc2 | exact (Je _ _).b | exact (Q7 _ zsd).b | exact (Q0 _ _ zsd).b | exact (Qw _ _ zsd).b)) | exact zlo | omega | exact zms)
                  all_goals first
                    | exact hL _ (i + 1) (Jb []) (by omega) (by omega) (Jd [] (by simp only [go_sem, Nat.reduceAdd, Nat.reduceMul, Nat.reduceEqDiff, Nat.reduceLT, Int.reduceToNat, reduceIte, reduceCtorEq, and_true, true_and, implies_true, Option.some.injEq, exists_eq_left', Qk, Qm]; (repeat' (first | rfl | refine And.intro ?_ ?_ | omega | exact fun h => h | exact Exists.intro _ rfl))) (by simp only [go_sem, Nat.reduceAdd, Nat.reduceMul, Nat.reduceEqDiff, Nat.reduceLT, Int.reduceToNat, reduceIte, reduceCtorEq, and_true, true_and, implies_true, Option.some.injEq, exists_eq_left', Qk, Qm]; (repeat' (first | rfl | refine And.intro ?_ ?_ | omega | exact fun h => h | exact Exists.intro _ rfl))) (by simp [Jb]) (by simp) (by omega))
                    | trace_state
                · have hb : l ++ QZ (QZ (m.take (i + 1)) l) k = (l ++ QZ (QZ (m.take i) l) k) ++ [c] := by
                    rw [ha, QZ, List.filter_append]; simp [hck, QZ]
                  rw [decide_eq_false (fun h => hck (hf2.1 h))] at hc2
                  have hacc : (l ++ QZ (QZ (m.take i) l) k).length ≤ 32 := by rw [List.length_append]; omega
                  generalize l ++ QZ (QZ (m.take i) l) k = acc at *
                  have hb2 : List.take acc.length (List.map V.int acc) ++ [V.int c] = (acc ++ [c]).map V.int := by
                    rw [List.take_of_length_le (by simp), List.map_append]; rfl
                  have hln : acc.length + 1 = (acc ++ [c]).length := by simp
                  repeat' (first | refine Qp fun K' hK => ?_ | refine Qt fun K' hK => ?_ | refine Qn 6 (fun _ => true) rfl (QH) (QF) fun K' hK => ?_ | refine Qo 6 (fun _ => true) rfl (QH) (QF) fun K' hK => ?_ | refine Qn 15 (fun _ => false) rfl (QG) (QE) fun K' hK => ?_ | refine Qo 15 (fun _ => false) rfl (QG) (QE) fun K' hK => ?_ | refine Qq ?_ | refine Qr ?_ | refine Ql ?_ | ((first | refine Qs ⟨_, rfl, fun hc => ?_, fun hc => ?_⟩ | refine QQ (fun hc => ?_) (fun hc => ?_) | refine QR (fun hc => ?_) (fun hc => ?_)) <;> first | exact Bool.noConfusion hc | ((try simp only [znz] at hc); first | exact znf | skip)) | refine Qv ?_ | refine Qu ?_ | simp (maxSteps := 1000000) only [go_sem, Nat.reduceAdd, Nat.reduceMul, Nat.reduceEqDiff, Nat.reduceLeDiff, Nat.reduceLT, Nat.reduceSub, Int.reduceEq, Int.reduceBEq, Int.reduceLT, Int.reduceLE, Int.reduceAdd, Int.reduceToNat, reduceIte, reduceCtorEq, J0, e2, hwi, Int.toNat_natCast, List.getElem?_map, hgi, List.take_length, Kj, QY, QX] | (refine hK _ ?_; clear hK; clear K') | refine And.intro ?_ ?_ | ((first | apply XF | apply Vc); (focus first | exact (Q4 _ zsd))) | ((first | apply QT | apply Jl); (focus first | exact hc1 | exact hc2 | exact (Je _ _).b | exact (Q7 _ zsd).b | exact (Q0 _ _ zsd).b | exact (Qw _ _ zsd).b)) | exact zlo | omega | exact zms)
                  all_goals first
                    | (have hb3 : List.map V.int acc ++ [V.sc (Value.int .i64 c)] = (acc ++ [c]).map V.int := by simp
                       rw [hb3, hln]
                       refine hL _ (i + 1) (Jb [(3, 27005)]) (by omega) (by omega) ?_
                       rw [hb]
                       exact Jd [(3, 27005)] (by simp only [go_sem, Nat.reduceAdd, Nat.reduceMul, Nat.reduceEqDiff, Nat.reduceLT, Int.reduceToNat, reduceIte, reduceCtorEq, and_true, true_and, implies_true, Option.some.injEq, exists_eq_left', Qk, Qm]; (repeat' (first | rfl | refine And.intro ?_ ?_ | omega | exact fun h => h | exact Exists.intro _ rfl))) (by simp only [go_sem, Nat.reduceAdd, Nat.reduceMul, Nat.reduceEqDiff, Nat.reduceLT, Int.reduceToNat, reduceIte, reduceCtorEq, and_true, true_and, implies_true, Option.some.injEq, exists_eq_left', Qk, Qm]; (repeat' (first | rfl | refine And.intro ?_ ?_ | omega | exact fun h => h | exact Exists.intro _ rfl))) (by simp [Jb]) (by simp; omega) (by omega))
                    | (simp only [List.length_append] at *; omega)
                    | trace_state
          · have hd0 : doG 45 m (l, k) = (QZ l m, k) := rfl
            have hs0 : sgn 45 = [45] := rfl
            rw [hd0, hs0]
            repeat' (first | refine Qp fun K' hK => ?_ | refine Qt fun K' hK => ?_ | refine Qn 6 (fun _ => true) rfl (QH) (QF) fun K' hK => ?_ | refine Qo 6 (fun _ => true) rfl (QH) (QF) fun K' hK => ?_ | refine Qn 15 (fun _ => false) rfl (QG) (QE) fun K' hK => ?_ | refine Qo 15 (fun _ => false) rfl (QG) (QE) fun K' hK => ?_ | refine Qq ?_ | refine Qr ?_ | refine Ql ?_ | ((first | refine Qs ⟨_, rfl, fun hc => ?_, fun hc => ?_⟩ | refine QQ (fun hc => ?_) (fun hc => ?_) | refine QR (fun hc => ?_) (fun hc => ?_)) <;> first | exact Bool.noConfusion hc | ((try simp only [znz] at hc); first | exact znf | skip)) | refine Qv ?_ | refine Qu ?_ | simp (maxSteps := 1000000) only [go_sem, Nat.reduceAdd, Nat.reduceMul, Nat.reduceEqDiff, Nat.reduceLeDiff, Nat.reduceLT, Nat.reduceSub, Int.reduceEq, Int.reduceBEq, Int.reduceLT, Int.reduceLE, Int.reduceAdd, Int.reduceToNat, reduceIte, reduceCtorEq, J0, e1, QY, QX] | (refine hK _ ?_; clear hK; clear K') | refine And.intro ?_ ?_ | ((first | apply XF | apply Vc); (focus first | exact (Q4 _ zsd))) | ((first | apply QT | apply Jl); (focus first | exact (Je _ _).b | exact (Q7 _ zsd).b | exact (Q0 _ _ zsd).b | exact (Qw _ _ zsd).b)) | exact zlo | omega | exact zms)
            all_goals first
              | (refine aa9 _ _ _ _ _ rfl (by simp only [go_sem, Nat.reduceEqDiff, Nat.reduceAdd, reduceIte, reduceCtorEq]) rfl rfl rfl (by decide) (by decide) (by decide) ⟨_, rfl⟩ ⟨_, rfl⟩ ?_ ?_ ?_ ?_ <;> first | rfl | (simp; done))
              | trace_state
          · have hd0 : doG 33 m (l, k) = (QZ l m, k ++ m) := rfl
            have hs0 : sgn 33 = [33] := rfl
            rw [hd0, hs0]
            repeat' (first | refine Qp fun K' hK => ?_ | refine Qt fun K' hK => ?_ | refine Qn 6 (fun _ => true) rfl (QH) (QF) fun K' hK => ?_ | refine Qo 6 (fun _ => true) rfl (QH) (QF) fun K' hK => ?_ | refine Qn 15 (fun _ => false) rfl (QG) (QE) fun K' hK => ?_ | refine Qo 15 (fun _ => false) rfl (QG) (QE) fun K' hK => ?_ | refine Qq ?_ | refine Qr ?_ | refine Ql ?_ | ((first | refine Qs ⟨_, rfl, fun hc => ?_, fun hc => ?_⟩ | refine QQ (fun hc => ?_) (fun hc => ?_) | refine QR (fun hc => ?_) (fun hc => ?_)) <;> first | exact Bool.noConfusion hc | ((try simp only [znz] at hc); first | exact znf | skip)) | refine Qv ?_ | refine Qu ?_ | simp (maxSteps := 1000000) only [go_sem, Nat.reduceAdd, Nat.reduceMul, Nat.reduceEqDiff, Nat.reduceLeDiff, Nat.reduceLT, Nat.reduceSub, Int.reduceEq, Int.reduceBEq, Int.reduceLT, Int.reduceLE, Int.reduceAdd, Int.reduceToNat, reduceIte, reduceCtorEq, J0, e1, List.take_length, QY, QX] | (refine hK _ ?_; clear hK; clear K') | refine And.intro ?_ ?_ | ((first | apply XF | apply Vc); (focus first | exact (Q4 _ zsd))) | ((first | apply QT | apply Jl); (focus first | exact (Je _ _).b | exact (Q7 _ zsd).b | exact (Q0 _ _ zsd).b | exact (Qw _ _ zsd).b)) | exact zlo | omega | exact zms)
            all_goals first
              | (refine aa9 _ _ _ _ _ rfl (by simp only [go_sem, Nat.reduceEqDiff, Nat.reduceAdd, reduceIte, reduceCtorEq]) rfl rfl rfl (by decide) (by decide) (by decide) ⟨_, rfl⟩ ⟨_, rfl⟩ ?_ ?_ ?_ ?_ <;> first | rfl | (simp; done))
              | trace_state
          · have hd0 : doG 43 m (l, k) = (QZ l m ++ QZ l (QZ l m), k) := rfl
            have hs0 : sgn 43 = [43] := rfl
            rw [hd0, hs0, ← hcat]
            repeat' (first | refine Qp fun K' hK => ?_ | refine Qt fun K' hK => ?_ | refine Qn 6 (fun _ => true) rfl (QH) (QF) fun K' hK => ?_ | refine Qo 6 (fun _ => true) rfl (QH) (QF) fun K' hK => ?_ | refine Qn 15 (fun _ => false) rfl (QG) (QE) fun K' hK => ?_ | refine Qo 15 (fun _ => false) rfl (QG) (QE) fun K' hK => ?_ | refine Qq ?_ | refine Qr ?_ | refine Ql ?_ | ((first | refine Qs ⟨_, rfl, fun hc => ?_, fun hc => ?_⟩ | refine QQ (fun hc => ?_) (fun hc => ?_) | refine QR (fun hc => ?_) (fun hc => ?_)) <;> first | exact Bool.noConfusion hc | ((try simp only [znz] at hc); first | exact znf | skip)) | refine Qv ?_ | refine Qu ?_ | simp (maxSteps := 1000000) only [go_sem, Nat.reduceAdd, Nat.reduceMul, Nat.reduceEqDiff, Nat.reduceLeDiff, Nat.reduceLT, Nat.reduceSub, Int.reduceEq, Int.reduceBEq, Int.reduceLT, Int.reduceLE, Int.reduceAdd, Int.reduceToNat, reduceIte, reduceCtorEq, J0, e1, Kj, QY, QX] | (refine hK _ ?_; clear hK; clear K') | refine And.intro ?_ ?_ | ((first | apply XF | apply Vc); (focus first | exact (Q4 _ zsd))) | ((first | apply QT | apply Jl); (focus first | exact (Je _ _).b | exact (Q7 _ zsd).b | exact (Q0 _ _ zsd).b | exact (Qw _ _ zsd).b)) | exact zlo | omega | exact zms)
            all_goals first
              | (refine aa9 _ _ _ _ _ rfl (by simp only [go_sem, Nat.reduceEqDiff, Nat.reduceAdd, reduceIte, reduceCtorEq]) rfl rfl rfl (by decide) (by decide) (by decide) ⟨_, rfl⟩ ⟨_, rfl⟩ ?_ ?_ ?_ ?_ <;> first | rfl | (simp; done))
              | trace_state
        · obtain ⟨hj', hget, hr'⟩ := Yf hd
          have hwj := JD (k := j) (by omega)
          have e1 : decide ((j : Int) < (((l.map V.int).length : Nat) : Int)) = true := by simp; omega
          have h1 := yZ (m := m) hget
          have h2 := wR (p := fun x => m.contains x) hget
          have hl1 : (QZ (l.take j) m).length ≤ 16 := by have := WP (l.take j) m; rw [List.length_take] at this; omega
          have hl2 : ((l.take j).filter fun x => m.contains x).length ≤ 16 := by have := List.length_filter_le (fun x => m.contains x) (l.take j); rw [List.length_take] at this; omega
          have hcl := (Q0 x m (by omega)).b
          generalize QZ (l.take j) m = rs at *
          generalize (l.take j).filter (fun x => m.contains x) = mv at *
          rcases hx : m.contains x with _ | _
          · rw [hx] at h1 h2 hcl
            simp only [Bool.false_eq_true, if_false, List.append_nil] at h1 h2
            have hb : List.take rs.length (List.map V.int rs) ++ [V.int x] = (rs ++ [x]).map V.int := by
              rw [List.take_of_length_le (by simp), List.map_append]; rfl
            have hln : rs.length + 1 = (rs ++ [x]).length := by simp
            repeat' (first | refine Qp fun K' hK => ?_ | refine Qt fun K' hK => ?_ | refine Qn 6 (fun _ => true) rfl (QH) (QF) fun K' hK => ?_ | refine Qo 6 (fun _ => true) rfl (QH) (QF) fun K' hK => ?_ | refine Qn 15 (fun _ => false) rfl (QG) (QE) fun K' hK => ?_ | refine Qo 15 (fun _ => false) rfl (QG) (QE) fun K' hK => ?_ | refine Qq ?_ | refine Qr ?_ | refine Ql ?_ | ((first | refine Qs ⟨_, rfl, fun hc => ?_, fun hc => ?_⟩ | refine QQ (fun hc => ?_) (fun hc => ?_) | refine QR (fun hc => ?_) (fun hc => ?_)) <;> first | exact Bool.noConfusion hc | ((try simp only [znz] at hc); first | exact znf | skip)) | refine Qv ?_ | refine Qu ?_ | simp (maxSteps := 1000000) only [go_sem, Nat.reduceAdd, Nat.reduceMul, Nat.reduceEqDiff, Nat.reduceLeDiff, Nat.reduceLT, Nat.reduceSub, Int.reduceEq, Int.reduceBEq, Int.reduceLT, Int.reduceLE, Int.reduceAdd, Int.reduceToNat, reduceIte, reduceCtorEq, J0, e1, hwj, Int.toNat_natCast, List.getElem?_map, hget, QY, QX] | (refine hK _ ?_; clear hK; clear K') | refine And.intro ?_ ?_ | ((first | apply XF | apply Vc); (focus first | exact (Q4 _ zsd))) | ((first | apply QT | apply Jl); (focus first | exact hcl | exact (Je _ _).b | exact (Q7 _ zsd).b | exact (Q0 _ _ zsd).b | exact (Qw _ _ zsd).b)) | exact zlo | omega | exact zms)
            rw [hb, hln]
            refine hL _ (j + 1) (Jb [(7, 10008)]) (by omega) (by omega) ?_
            rw [h1, h2]
            exact Jd [(7, 10008)] (by simp only [go_sem, Nat.reduceAdd, Nat.reduceMul, Nat.reduceEqDiff, Nat.reduceLT, Int.reduceToNat, reduceIte, reduceCtorEq, and_true, true_and, implies_true, Option.some.injEq, exists_eq_left', Qk, Qm]; (repeat' (first | rfl | refine And.intro ?_ ?_ | omega | exact fun h => h | exact Exists.intro _ rfl))) (by simp only [go_sem, Nat.reduceAdd, Nat.reduceMul, Nat.reduceEqDiff, Nat.reduceLT, Int.reduceToNat, reduceIte, reduceCtorEq, and_true, true_and, implies_true, Option.some.injEq, exists_eq_left', Qk, Qm]; (repeat' (first | rfl | refine And.intro ?_ ?_ | omega | exact fun h => h | exact Exists.intro _ rfl))) (by simp [Jb]) (by simp; omega) (by omega)
          · rw [hx] at h1 h2 hcl
            simp only [if_true, List.append_nil] at h1 h2
            have hb : List.take mv.length (List.map V.int mv) ++ [V.int x] = (mv ++ [x]).map V.int := by
              rw [List.take_of_length_le (by simp), List.map_append]; rfl
            have hln : mv.length + 1 = (mv ++ [x]).length := by simp
            repeat' (first | refine Qp fun K' hK => ?_ | refine Qt fun K' hK => ?_ | refine Qn 6 (fun _ => true) rfl (QH) (QF) fun K' hK => ?_ | refine Qo 6 (fun _ => true) rfl (QH) (QF) fun K' hK => ?_ | refine Qn 15 (fun _ => false) rfl (QG) (QE) fun K' hK => ?_ | refine Qo 15 (fun _ => false) rfl (QG) (QE) fun K' hK => ?_ | refine Qq ?_ | refine Qr ?_ | refine Ql ?_ | ((first | refine Qs ⟨_, rfl, fun hc => ?_, fun hc => ?_⟩ | refine QQ (fun hc => ?_) (fun hc => ?_) | refine QR (fun hc => ?_) (fun hc => ?_)) <;> first | exact Bool.noConfusion hc | ((try simp only [znz] at hc); first | exact znf | skip)) | refine Qv ?_ | refine Qu ?_ | simp (maxSteps := 1000000) only [go_sem, Nat.reduceAdd, Nat.reduceMul, Nat.reduceEqDiff, Nat.reduceLeDiff, Nat.reduceLT, Nat.reduceSub, Int.reduceEq, Int.reduceBEq, Int.reduceLT, Int.reduceLE, Int.reduceAdd, Int.reduceToNat, reduceIte, reduceCtorEq, J0, e1, hwj, Int.toNat_natCast, List.getElem?_map, hget, QY, QX] | (refine hK _ ?_; clear hK; clear K') | refine And.intro ?_ ?_ | ((first | apply XF | apply Vc); (focus first | exact (Q4 _ zsd))) | ((first | apply QT | apply Jl); (focus first | exact hcl | exact (Je _ _).b | exact (Q7 _ zsd).b | exact (Q0 _ _ zsd).b | exact (Qw _ _ zsd).b)) | exact zlo | omega | exact zms)
            rw [hb, hln]
            refine hL _ (j + 1) (Jb [(6, 10008)]) (by omega) (by omega) ?_
            rw [h1, h2]
            exact Jd [(6, 10008)] (by simp only [go_sem, Nat.reduceAdd, Nat.reduceMul, Nat.reduceEqDiff, Nat.reduceLT, Int.reduceToNat, reduceIte, reduceCtorEq, and_true, true_and, implies_true, Option.some.injEq, exists_eq_left', Qk, Qm]; (repeat' (first | rfl | refine And.intro ?_ ?_ | omega | exact fun h => h | exact Exists.intro _ rfl))) (by simp only [go_sem, Nat.reduceAdd, Nat.reduceMul, Nat.reduceEqDiff, Nat.reduceLT, Int.reduceToNat, reduceIte, reduceCtorEq, and_true, true_and, implies_true, Option.some.injEq, exists_eq_left', Qk, Qm]; (repeat' (first | rfl | refine And.intro ?_ ?_ | omega | exact fun h => h | exact Exists.intro _ rfl))) (by simp [Jb]) (by simp; omega) (by omega)
end Av
end
section
set_option linter.unusedSimpArgs false
set_option linter.unusedVariables false
set_option maxRecDepth 10000
set_option maxHeartbeats 4000000
namespace Av
open Go
attribute [local irreducible] AWp W8 V7 V8 awS awC KI awQ KY Ji XK KE awR XZ awB okR WO ris
def Um (VL YG XV : Nat) : AC := QI [0] (.reg [xo 2 (.mknil 1), mc 3 (V.int 0), mc 4 (V.int 0)]) (QI [0] (QI [0, 15] (.reg [mv 8 0, xo 9 (.lenS (.t 8)), bc 10 .gtr 9 (V.int 8192), mv 11 10, mg 12 0 11 false, xg 13 (.call VL [(.t 12), (.c (V.str [58]))]) 11 false, xg 14 (.bin .geq (.t 13) (.c (V.int 200))) 11 false, xo 15 (.pick (.t 11) (.c (V.bool true)) (.t 14))]) (.cond (.t 15) (QI [2, 3, 4] (.reg [xo 2 (.mknil 1), mc 3 (V.int 0), mc 4 (V.int 3)]) (.ret)) (.skip))) (QI [0] (QI [0, 17] (.reg [mv 16 0, bc 17 .eql 16 (V.str [])]) (.cond (.t 17) (QI [2, 3, 4] (.reg [xo 2 (.mknil 1), mc 3 (V.int 0), mc 4 (V.int 0)]) (.ret)) (.skip))) (QI [0, 5] (.reg [xo 18 (.build [(.slice none 0 0), (.slice none 0 0)] []), xo 19 (.box true 2 (.t 18)), mv 5 19]) (QI [5] (QI [5, 21, 22, 23] (.reg [mv 20 0, xo 21 (.call YG [(.t 20), (.c (V.str [58]))]), ln 22 21, mc 23 (V.int 0)]) (.block 0 (X2 [5, 21, 22, 23] (QI [5, 21, 22, 23, 24] (.reg [bn 24 .lss 23 22]) (QI [5, 21, 22, 23] (.cond (.t 24) (.skip) (.exit 0)) (QI [5, 21, 22, 23] (.block 1 (QI [5, 6, 7, 21, 22, 23] (.reg [mv 25 23, ia 26 1 21 23, ld 27 1 26, mv 6 25, mv 7 27]) (QI [5, 6, 21, 22, 23, 31] (.reg [mv 28 5, mv 29 7, cl 30 XV [28, 29], xo 31 (.un .not (.t 30))]) (.cond (.t 31) (QI [2, 3, 4] (.reg [mv 32 6, bc 33 .add 32 (V.int 1), xo 2 (.mknil 1), mv 3 33, mc 4 (V.int 17)]) (.ret)) (.skip))))) (.reg [bc 34 .add 23 (V.int 1), mv 23 34]))))))) (QI [2, 3, 4] (.reg [mv 35 5, nk 36 35, fa 37 0 36, ld 38 1 37, mv 2 38, mc 3 (V.int 0), mc 4 (V.int 0)]) (.ret)))))) def r_suitespec_Parse : List XG := [.tmp 2, .tmp 3, .tmp 4]
def V0 (Γ : Env) (f : Nat) : Prop := ∀ (s : List UInt8) (hs : s.length < 2 ^ 30), EvC Γ f [V.str s] (jN (yu s))
theorem xq {Γ : Env} {f VL YG XV : Nat} (h : Has Γ.P f 39 (Um VL YG XV) r_suitespec_Parse) (Y8 : jD Γ VL) (Jj : UT Γ YG) (JR : WK Γ XV) : V0 Γ f := by
  intro s hs
  refine Wy h (by simp) (abr _) fun C hC hm => ?_
  subst hC
  unfold Um
  have hct := (Y8 s 58 (by omega)).b
  have hsp := (Jj s 58 (by omega)).b
  have hpos : 1 ≤ (JW 58 s).length := by
    have : JW 58 s ≠ [] := ab3 _ _ _
    rcases h : JW 58 s with _ | ⟨a, b⟩
    · exact absurd h this
    · simp
  by_cases h1 : s.length > 8192
  · have e1 : decide ((s.length : Int) > 8192) = true := by simp; omega
    have e2 : yu s = ([], 0, 3) := by rw [yu, if_pos h1]
    rw [e2, jN]
    repeat' (first | refine Qp fun K' hK => ?_ | refine Qt fun K' hK => ?_ | refine Qq ?_ | refine Qr ?_ | refine Ql ?_ | ((first | refine Qs ⟨_, rfl, fun hc => ?_, fun hc => ?_⟩ | refine QQ (fun hc => ?_) (fun hc => ?_) | refine QR (fun hc => ?_) (fun hc => ?_)) <;> first | exact Bool.noConfusion hc | ((try simp only [znz] at hc); first | exact znf | skip)) | refine Qv ?_ | refine Qu ?_ | simp (maxSteps := 1000000) only [go_sem, Nat.reduceAdd, Nat.reduceMul, Nat.reduceEqDiff, Nat.reduceLeDiff, Nat.reduceLT, Nat.reduceSub, Int.reduceEq, Int.reduceBEq, Int.reduceLT, Int.reduceLE, Int.reduceAdd, Int.reduceToNat, reduceIte, reduceCtorEq, e1] | (refine hK _ ?_; clear hK; clear K') | refine And.intro ?_ ?_ | (apply v6; (focus exact rfl); (focus exact rfl); (focus exact rfl); (focus first | exact (JR _ _ _ zsd zsd zsd)); (focus exact rfl); (focus (simp; done)); (focus (simp; done))) | (apply QT; (focus first | exact (Y8 _ _ zsd).b | exact (Jj _ _ zsd).b)) | exact zlo | omega | exact zms)
    all_goals (refine Ja _ rfl ?_; simp only [go_sem, Nat.reduceEqDiff, Nat.reduceAdd, reduceIte, reduceCtorEq]; first | done | rfl | exact ⟨_, _, rfl⟩ | trace_state)
  · have e1 : decide ((s.length : Int) > 8192) = false := by simp; omega
    by_cases h2 : s = []
    · subst h2
      have e2 : yu [] = ([], 0, 0) := rfl
      have e4 : decide (((((JW 58 []).length - 1 : Nat)) : Int) ≥ 200) = false := rfl
      rw [e2, jN]
      repeat' (first | refine Qp fun K' hK => ?_ | refine Qt fun K' hK => ?_ | refine Qq ?_ | refine Qr ?_ | refine Ql ?_ | ((first | refine Qs ⟨_, rfl, fun hc => ?_, fun hc => ?_⟩ | refine QQ (fun hc => ?_) (fun hc => ?_) | refine QR (fun hc => ?_) (fun hc => ?_)) <;> first | exact Bool.noConfusion hc | ((try simp only [znz] at hc); first | exact znf | skip)) | refine Qv ?_ | refine Qu ?_ | simp (maxSteps := 1000000) only [go_sem, Nat.reduceAdd, Nat.reduceMul, Nat.reduceEqDiff, Nat.reduceLeDiff, Nat.reduceLT, Nat.reduceSub, Int.reduceEq, Int.reduceBEq, Int.reduceLT, Int.reduceLE, Int.reduceAdd, Int.reduceToNat, reduceIte, reduceCtorEq, e1, e4] | (refine hK _ ?_; clear hK; clear K') | refine And.intro ?_ ?_ | (apply v6; (focus exact rfl); (focus exact rfl); (focus exact rfl); (focus first | exact (JR _ _ _ zsd zsd zsd)); (focus exact rfl); (focus (simp; done)); (focus (simp; done))) | (apply QT; (focus first | exact hct | exact (Y8 _ _ zsd).b | exact (Jj _ _ zsd).b)) | exact zlo | omega | exact zms)
      all_goals (refine Ja _ rfl ?_; simp only [go_sem, Nat.reduceEqDiff, Nat.reduceAdd, reduceIte, reduceCtorEq]; first | done | rfl | exact ⟨_, _, rfl⟩ | trace_state)
    · have e3 : (s == []) = false := by simpa using h2
      have hmem : ∀ w ∈ JW 58 s, w.length < 2 ^ 30 := fun w hw => by have := aef hw; omega
      have hlen := xI 58 s
      by_cases h3 : (JW 58 s).length > 200
      · have e2 : yu s = ([], 0, 3) := by rw [yu, if_neg h1, if_neg h2, if_pos h3]
        have e4 : decide (((((JW 58 s).length - 1 : Nat)) : Int) ≥ 200) = true := by simp; omega
        rw [e2, jN]
        repeat' (first | refine Qp fun K' hK => ?_ | refine Qt fun K' hK => ?_ | refine Qq ?_ | refine Qr ?_ | refine Ql ?_ | ((first | refine Qs ⟨_, rfl, fun hc => ?_, fun hc => ?_⟩ | refine QQ (fun hc => ?_) (fun hc => ?_) | refine QR (fun hc => ?_) (fun hc => ?_)) <;> first | exact Bool.noConfusion hc | ((try simp only [znz] at hc); first | exact znf | skip)) | refine Qv ?_ | refine Qu ?_ | simp (maxSteps := 1000000) only [go_sem, Nat.reduceAdd, Nat.reduceMul, Nat.reduceEqDiff, Nat.reduceLeDiff, Nat.reduceLT, Nat.reduceSub, Int.reduceEq, Int.reduceBEq, Int.reduceLT, Int.reduceLE, Int.reduceAdd, Int.reduceToNat, reduceIte, reduceCtorEq, e1, e3, e4] | (refine hK _ ?_; clear hK; clear K') | refine And.intro ?_ ?_ | (apply v6; (focus exact rfl); (focus exact rfl); (focus exact rfl); (focus first | exact (JR _ _ _ zsd zsd zsd)); (focus exact rfl); (focus (simp; done)); (focus (simp; done))) | (apply QT; (focus first | exact hct | exact (Y8 _ _ zsd).b | exact (Jj _ _ zsd).b)) | exact zlo | omega | exact zms)
        all_goals (refine Ja _ rfl ?_; simp only [go_sem, Nat.reduceEqDiff, Nat.reduceAdd, reduceIte, reduceCtorEq]; first | done | rfl | exact ⟨_, _, rfl⟩ | trace_state)
      · have e2 : yu s = goP (JW 58 s) 0 ([], []) := by rw [yu, if_neg h1, if_neg h2, if_neg h3]
        have e4 : decide (((((JW 58 s).length - 1 : Nat)) : Int) ≥ 200) = false := by simp; omega
        rw [e2, jN]
        generalize JW 58 s = ws at *
        repeat' (first | refine Qp fun K' hK => ?_ | refine Qt fun K' hK => ?_ | refine Qq ?_ | refine Qr ?_ | refine Ql ?_ | ((first | refine Qs ⟨_, rfl, fun hc => ?_, fun hc => ?_⟩ | refine QQ (fun hc => ?_) (fun hc => ?_) | refine QR (fun hc => ?_) (fun hc => ?_)) <;> first | exact Bool.noConfusion hc | ((try simp only [znz] at hc); first | exact znf | skip)) | refine Qv ?_ | refine Qu ?_ | simp (maxSteps := 1000000) only [go_sem, Nat.reduceAdd, Nat.reduceMul, Nat.reduceEqDiff, Nat.reduceLeDiff, Nat.reduceLT, Nat.reduceSub, Int.reduceEq, Int.reduceBEq, Int.reduceLT, Int.reduceLE, Int.reduceAdd, Int.reduceToNat, reduceIte, reduceCtorEq, e1, e3, e4] | (refine hK _ ?_; clear hK; clear K') | refine And.intro ?_ ?_ | (apply v6; (focus exact rfl); (focus exact rfl); (focus exact rfl); (focus first | exact (JR _ _ _ zsd zsd zsd)); (focus exact rfl); (focus (simp; done)); (focus (simp; done))) | (apply QT; (focus first | exact hct | exact hsp | exact (Y8 _ _ zsd).b | exact (Jj _ _ zsd).b)) | exact zlo | omega | exact zms)
        refine acQ 14000 0 1 rfl rfl ?_
        refine acQ 14000 1 1 rfl rfl ?_
        refine Ju (ι := Nat × agj) (fun q => q.1 ≤ ws.length ∧ adD q.2 ∧ q.2.2.length ≤ 16 * q.1 ∧ goP (ws.drop q.1) q.1 q.2 = goP ws 0 ([], []))
          (fun q => J0 [(5, .ptr 0 0), (21, .sl 1 (ws.map V.str)), (22, V.int (ws.map V.str).length), (23, V.int q.1)] [(0, .box true [.hd 1 0 (q.2.1.map V.int).length, .hd 2 0 (q.2.2.map V.int).length]), (1, .buf true 1 (q.2.1.map V.int)), (2, .buf true 1 (q.2.2.map V.int))] 3)
          (fun q => ws.length - q.1) (0, [], []) ⟨by simp, ahr, by simp, by simp⟩ (Jb [(0, 14000), (1, 20000), (2, 20001)]) (Jd [(0, 14000), (1, 20000), (2, 20001)] (by simp only [go_sem, Nat.reduceAdd, Nat.reduceMul, Nat.reduceEqDiff, Nat.reduceLT, Int.reduceToNat, reduceIte, reduceCtorEq, and_true, true_and, implies_true, Option.some.injEq, exists_eq_left', Qk, Qm]; (repeat' (first | rfl | refine And.intro ?_ ?_ | omega | exact fun h => h | exact Exists.intro _ rfl))) (by simp only [List.set_cons_zero, List.set_cons_succ, Nat.reduceAdd]; simp only [go_sem, Nat.reduceAdd, Nat.reduceMul, Nat.reduceEqDiff, Nat.reduceLT, Int.reduceToNat, reduceIte, reduceCtorEq, and_true, true_and, implies_true, Option.some.injEq, exists_eq_left', Qk, Qm]; (repeat' (first | rfl | refine And.intro ?_ ?_ | omega | exact fun h => h | exact Exists.intro _ rfl))) (by simp [Jb]) (by simp; omega) (by omega)) fun q hq K' hL => ?_
        obtain ⟨k, l, m⟩ := q
        obtain ⟨q1, q2, q3, hinv⟩ := hq
        simp only at q1 q2 q3 hinv
        simp only
        rcases hd : ws.drop k with _ | ⟨w, r⟩
        · have hk := YL hd
          rw [hd, goP] at hinv
          rw [← hinv]
          have e5 : decide ((k : Int) < (((ws.map V.str).length : Nat) : Int)) = false := by simp; omega
          simp only [jN]
          repeat' (first | refine Qp fun K' hK => ?_ | refine Qt fun K' hK => ?_ | refine Qq ?_ | refine Qr ?_ | refine Ql ?_ | ((first | refine Qs ⟨_, rfl, fun hc => ?_, fun hc => ?_⟩ | refine QQ (fun hc => ?_) (fun hc => ?_) | refine QR (fun hc => ?_) (fun hc => ?_)) <;> first | exact Bool.noConfusion hc | ((try simp only [znz] at hc); first | exact znf | skip)) | refine Qv ?_ | refine Qu ?_ | simp (maxSteps := 1000000) only [go_sem, Nat.reduceAdd, Nat.reduceMul, Nat.reduceEqDiff, Nat.reduceLeDiff, Nat.reduceLT, Nat.reduceSub, Int.reduceEq, Int.reduceBEq, Int.reduceLT, Int.reduceLE, Int.reduceAdd, Int.reduceToNat, reduceIte, reduceCtorEq, J0, e5] | (refine hK _ ?_; clear hK; clear K') | refine And.intro ?_ ?_ | (apply v6; (focus exact rfl); (focus exact rfl); (focus exact rfl); (focus first | exact (JR _ _ _ zsd zsd zsd)); (focus exact rfl); (focus (simp; done)); (focus (simp; done))) | (apply QT; (focus first | exact (Y8 _ _ zsd).b | exact (Jj _ _ zsd).b)) | exact zlo | omega | exact zms)
          all_goals (refine Ja _ rfl ?_; simp only [go_sem, Nat.reduceEqDiff, Nat.reduceAdd, reduceIte, reduceCtorEq]; rw [List.take_of_length_le (by simp)])
        · obtain ⟨hk', hget, hr⟩ := Yf hd
          have hwm := hmem w (List.mem_of_getElem? hget)
          have hw := JD (k := k) (by omega)
          have e5 : decide ((k : Int) < (((ws.map V.str).length : Nat) : Int)) = true := by simp; omega
          rw [hd, goP] at hinv
          have hdo := JR w l m hwm q2 (by omega)
          have hdl := ahL w (l, m)
          have hdo2 := aiq w (l, m) q2
          rcases ho : wordOk w with _ | _
          · rw [ho] at hinv hdo
            simp only [Bool.false_eq_true, if_false] at hinv hdo
            rw [← hinv]
            simp only [jN]
            repeat' (first | refine Qp fun K' hK => ?_ | refine Qt fun K' hK => ?_ | refine Qq ?_ | refine Qr ?_ | refine Ql ?_ | ((first | refine Qs ⟨_, rfl, fun hc => ?_, fun hc => ?_⟩ | refine QQ (fun hc => ?_) (fun hc => ?_) | refine QR (fun hc => ?_) (fun hc => ?_)) <;> first | exact Bool.noConfusion hc | ((try simp only [znz] at hc); first | exact znf | skip)) | refine Qv ?_ | refine Qu ?_ | simp (maxSteps := 1000000) only [go_sem, Nat.reduceAdd, Nat.reduceMul, Nat.reduceEqDiff, Nat.reduceLeDiff, Nat.reduceLT, Nat.reduceSub, Int.reduceEq, Int.reduceBEq, Int.reduceLT, Int.reduceLE, Int.reduceAdd, Int.reduceToNat, reduceIte, reduceCtorEq, J0, e5, hw, Int.toNat_natCast, List.getElem?_map, hget] | (refine hK _ ?_; clear hK; clear K') | refine And.intro ?_ ?_ | (apply v6; (focus exact rfl); (focus exact rfl); (focus exact rfl); (focus first | exact hdo | exact (JR _ _ _ zsd zsd zsd)); (focus exact rfl); (focus (simp; done)); (focus (simp; done))) | (apply QT; (focus first | exact (Y8 _ _ zsd).b | exact (Jj _ _ zsd).b)) | exact zlo | omega | exact zms)
            all_goals (refine Ja _ rfl ?_; simp only [go_sem, Nat.reduceEqDiff, Nat.reduceAdd, reduceIte, reduceCtorEq]; first | done | rfl | exact ⟨_, _, rfl⟩ | trace_state)
          · rw [ho] at hinv hdo
            simp only [if_true] at hinv hdo
            generalize doR w (l, m) = p at *
            obtain ⟨l2, m2⟩ := p
            simp only at hdo hdl hinv
            repeat' (first | refine Qp fun K' hK => ?_ | refine Qt fun K' hK => ?_ | refine Qq ?_ | refine Qr ?_ | refine Ql ?_ | ((first | refine Qs ⟨_, rfl, fun hc => ?_, fun hc => ?_⟩ | refine QQ (fun hc => ?_) (fun hc => ?_) | refine QR (fun hc => ?_) (fun hc => ?_)) <;> first | exact Bool.noConfusion hc | ((try simp only [znz] at hc); first | exact znf | skip)) | refine Qv ?_ | refine Qu ?_ | simp (maxSteps := 1000000) only [go_sem, Nat.reduceAdd, Nat.reduceMul, Nat.reduceEqDiff, Nat.reduceLeDiff, Nat.reduceLT, Nat.reduceSub, Int.reduceEq, Int.reduceBEq, Int.reduceLT, Int.reduceLE, Int.reduceAdd, Int.reduceToNat, reduceIte, reduceCtorEq, J0, e5, hw, Int.toNat_natCast, List.getElem?_map, hget] | (refine hK _ ?_; clear hK; clear K') | refine And.intro ?_ ?_ | (apply v6; (focus exact rfl); (focus exact rfl); (focus exact rfl); (focus first | exact hdo | exact (JR _ _ _ zsd zsd zsd)); (focus exact rfl); (focus (simp; done)); (focus (simp; done))) | (apply QT; (focus first | exact (Y8 _ _ zsd).b | exact (Jj _ _ zsd).b)) | exact zlo | omega | exact zms)
            refine hL _ (k + 1, l2, m2) (Jb [(1, 8003), (2, 8004)]) ⟨by simp only; omega, hdo2, by simp only; omega, by simp only; rw [hr]; exact hinv⟩ (by simp only; omega) (Jd [(1, 8003), (2, 8004)] (by simp only [go_sem, Nat.reduceAdd, Nat.reduceMul, Nat.reduceEqDiff, Nat.reduceLT, Int.reduceToNat, reduceIte, reduceCtorEq, and_true, true_and, implies_true, Option.some.injEq, exists_eq_left', Qk, Qm]; (repeat' (first | rfl | refine And.intro ?_ ?_ | omega | exact fun h => h | exact Exists.intro _ rfl))) (by simp only [go_sem, Nat.reduceAdd, Nat.reduceMul, Nat.reduceEqDiff, Nat.reduceLT, Int.reduceToNat, reduceIte, reduceCtorEq, and_true, true_and, implies_true, Option.some.injEq, exists_eq_left', Qk, Qm]; (repeat' (first | rfl | refine And.intro ?_ ?_ | omega | exact fun h => h | exact Exists.intro _ rfl))) (by simp [Jb]) (by simp; omega) (by omega))
end Av
end
section
set_option linter.unusedSimpArgs false
set_option linter.unusedVariables false
set_option maxRecDepth 10000
set_option maxHeartbeats 4000000
namespace Av
open Go
attribute [local irreducible] AWp W8 V7 V8 awS awC KI awQ KY Ji XK KE awR XZ awB okR WO ris
def Wh (l : List Int) (k : Nat) : List V := [.sl 1 (l.map V.int), V.int k]
theorem Xy (l : List Int) (k : Nat) : QK (Wh l k) := by simp only [Wh, V.closed, QK, and_self]
def XB (l : List Int) (k : Nat) (n : Int) : Int × Nat := if k < l.length then (ahb (l.getD k 0) n, k + 1) else (0, k)
theorem qL {l : List Int} {k : Nat} {n : Int} (hk : k ≤ l.length) : (XB l k n).2 ≤ l.length := by
  unfold XB; split
  · show k + 1 ≤ l.length; omega
  · exact hk
theorem aeC {a n : Int} (h1 : 1 ≤ n) (h2 : n < 2 ^ 62) : 0 ≤ ahb a n ∧ ahb a n < n := by
  unfold ahb
  rw [if_neg (by omega)]
  have ha := Int.tmod_lt_of_pos a (show 0 < n by omega)
  have hb : -n < a.tmod n := by
    have := Int.tmod_lt_of_pos (-a) (show 0 < n by omega)
    rw [Int.neg_tmod] at this; omega
  rw [JY (by omega) (by omega)]
  exact ⟨Int.tmod_nonneg _ (by omega), Int.tmod_lt_of_pos _ (by omega)⟩
theorem Kq {l : List Int} {k : Nat} {n : Int} (h1 : 1 ≤ n) (h2 : n < 2 ^ 62) : 0 ≤ (XB l k n).1 ∧ (XB l k n).1 < n := by
  unfold XB; split
  · exact aeC h1 h2
  · show (0 : Int) ≤ 0 ∧ (0 : Int) < n; omega
def j0 : AC := QI [0] (.reg [mc 2 (V.bool false)]) (QI [2] (.reg [mv 3 0, ln 4 3, bc 5 .leq 4 (V.int 400), mv 2 5]) (.ret)) def r_make_Light : List XG := [.tmp 2]
def jp (Γ : Env) (f : Nat) : Prop := ∀ (l : List Int), EvN Γ f [.sl 1 (l.map V.int)] (V.bool (decide ((l.length : Int) ≤ 400)))
theorem abI {Γ : Env} {f : Nat} (h : Has Γ.P f 6 j0 r_make_Light)  : jp Γ f := by
  intro l
  refine Jc h (by simp) (by simp only [V.closed, QK, V.noSl, JM, and_self, and_true, true_and]) (by simp only [V.closed, QK, V.noSl, JM, and_self, and_true, true_and]) fun C hC hm => ?_
  subst hC
  unfold j0
  repeat' (first | refine Qp fun K' hK => ?_ | refine Qt fun K' hK => ?_ | refine Qq ?_ | refine Qr ?_ | refine Ql ?_ | ((first | refine Qs ⟨_, rfl, fun hc => ?_, fun hc => ?_⟩ | refine QQ (fun hc => ?_) (fun hc => ?_) | refine QR (fun hc => ?_) (fun hc => ?_)) <;> first | exact Bool.noConfusion hc | ((try simp only [znz] at hc); first | exact znf | skip)) | refine Qv ?_ | refine Qu ?_ | simp (maxSteps := 1000000) only [go_sem, Nat.reduceAdd, Nat.reduceMul, Nat.reduceEqDiff, Nat.reduceLeDiff, Nat.reduceLT, Nat.reduceSub, Int.reduceEq, Int.reduceBEq, Int.reduceLT, Int.reduceLE, Int.reduceAdd, Int.reduceToNat, reduceIte, reduceCtorEq, List.length_map] | (refine hK _ ?_; clear hK; clear K') | refine And.intro ?_ ?_ | exact zlo | omega | exact zms)
  refine Ja _ rfl ?_; simp only [go_sem, Nat.reduceEqDiff, Nat.reduceAdd, reduceIte, reduceCtorEq]
def yU : AC := QI [0] (.reg [mc 2 (.sc (.pointer none))]) (QI [2] (.reg [mv 3 0, xo 4 (.build [(.slice none 0 0), (.int .i64 0)] [(0, 1, (.t 3))]), xo 5 (.box true 2 (.t 4)), mv 2 5]) (.ret)) def r_make_Roll : List XG := [.tmp 2]
def yb (Γ : Env) (f : Nat) : Prop := ∀ (l : List Int), EvR Γ f [.sl 1 (l.map V.int)] (Wh l 0)
theorem acG {Γ : Env} {f : Nat} (h : Has Γ.P f 6 yU r_make_Roll)  : yb Γ f := by
  intro l
  refine adu h (by simp) (by simp only [Wh, V.closed, QK, and_self]) fun C hC hm => ?_
  subst hC
  unfold yU
  repeat' (first | refine Qp fun K' hK => ?_ | refine Qt fun K' hK => ?_ | refine Qq ?_ | refine Qr ?_ | refine Ql ?_ | ((first | refine Qs ⟨_, rfl, fun hc => ?_, fun hc => ?_⟩ | refine QQ (fun hc => ?_) (fun hc => ?_) | refine QR (fun hc => ?_) (fun hc => ?_)) <;> first | exact Bool.noConfusion hc | ((try simp only [znz] at hc); first | exact znf | skip)) | refine Qv ?_ | refine Qu ?_ | simp (maxSteps := 1000000) only [go_sem, Nat.reduceAdd, Nat.reduceMul, Nat.reduceEqDiff, Nat.reduceLeDiff, Nat.reduceLT, Nat.reduceSub, Int.reduceEq, Int.reduceBEq, Int.reduceLT, Int.reduceLE, Int.reduceAdd, Int.reduceToNat, reduceIte, reduceCtorEq] | (refine hK _ ?_; clear hK; clear K') | refine And.intro ?_ ?_ | exact zlo | omega | exact zms)
  refine aip _ rfl rfl (by simp only [Wh, V.closed, QK, and_self])
def Vs : List AO := [mv 5 0, nk 6 5, fa 7 1 6, ld 8 1 7, mv 9 0, nk 10 9, fa 11 0 10, ld 12 1 11, ln 13 12, bn 14 .geq 8 13]
def Vy : List (List Nat) := [[], [0], [1], [2], [], [4], [5], [6], [7], [3, 8]]
def Vo : OT := .one 0 (.one 1 (.one 2 (.one 3 (.one 4 (.one 5 (.one 6 (.one 7 (.one 8 (.one 9 (.done))))))))))
def Wp : OP := .one 0 false [] (mv 5 0) (.one 1 false [] (nk 6 5) (.one 2 false [] (fa 7 1 6) (.one 3 false [] (ld 8 1 7) (.one 4 false [] (mv 9 0) (.one 5 false [] (nk 10 9) (.one 6 false [] (fa 11 0 10) (.one 7 false [] (ld 12 1 11) (.one 8 false [] (ln 13 12) (.one 9 false [] (bn 14 .geq 8 13) (.done))))))))))
theorem Wt : okR (Vs) Vy [] Vo = true := by kernel_rfl
theorem Wn : WO (ris (Vs) Vy []) Vo = Wp := by kernel_rfl
def Vr (Xl : Nat) : List AO := [mv 22 0, nk 23 22, fa 24 0 23, ld 25 1 24, mv 26 0, nk 27 26, fa 28 1 27, ld 29 1 28, bc 30 .sub 29 (V.int 1), ia 31 1 25 30, ld 32 1 31, mv 33 1, cl 34 Xl [32, 33], mv 4 34]
def Vx : List (List Nat) := [[], [0], [1], [2], [], [4], [5], [6], [7], [3, 8], [9], [], [10, 11], [12, 12, 0, 1, 2, 3, 4, 5, 6, 7, 8, 9, 10, 11, 12]]
def Vn : OT := .one 0 (.one 1 (.one 2 (.one 3 (.one 4 (.one 5 (.one 6 (.one 7 (.one 8 (.one 9 (.one 10 (.one 11 (.one 12 (.one 13 (.done))))))))))))))
def Wo (Xl : Nat) : OP := .one 0 false [] (mv 22 0) (.one 1 false [] (nk 23 22) (.one 2 false [] (fa 24 0 23) (.one 3 false [] (ld 25 1 24) (.one 4 false [] (mv 26 0) (.one 5 false [] (nk 27 26) (.one 6 false [] (fa 28 1 27) (.one 7 false [] (ld 29 1 28) (.one 8 false [] (bc 30 .sub 29 (V.int 1)) (.one 9 false [] (ia 31 1 25 30) (.one 10 false [] (ld 32 1 31) (.one 11 false [] (mv 33 1) (.one 12 false [] (cl 34 Xl [32, 33]) (.one 13 false [12] (mv 4 34) (.done))))))))))))))
theorem Ws (Xl : Nat) : okR (Vr Xl) Vx [] Vn = true := by kernel_rfl
theorem Wm (Xl : Nat) : WO (ris (Vr Xl) Vx []) Vn = Wo Xl := by kernel_rfl def c_make_Dice__Next (Xl : Nat) : AC := QI [0, 1] (.reg [mc 4 (V.int 0)]) (QI [0, 1] (QI [0, 1, 14] (aaf [] Vo (Wp) (Vs) Vy) (.cond (.t 14) (QI [4] (.reg [mc 4 (V.int 0)]) (.ret)) (.skip))) (QI [0, 1] (.reg [mv 15 0, nk 16 15, fa 17 1 16, ld 18 1 17, bc 19 .add 18 (V.int 1), nk 20 15, fa 21 1 20, xs 1 21 19]) (QI [4] (aaf [] Vn (Wo Xl) (Vr Xl) Vx) (.ret)))) def r_make_Dice__Next : List XG := [.tmp 4]
def X1 (Γ : Env) (f : Nat) : Prop := ∀ (l : List Int) (k : Nat) (n : Int) (hl : l.length ≤ 400) (hk : k ≤ l.length), EvD Γ f [V.int n] (Wh l k) (V.int (XB l k n).1) (Wh l (XB l k n).2)
theorem xu {Γ : Env} {f Xl : Nat} (h : Has Γ.P f 35 (c_make_Dice__Next Xl) r_make_Dice__Next) (aa6 : yW Γ Xl) : X1 Γ f := by
  intro l k n hl hk
  refine Ku h (by simp) (by simp only [V.closed, QK, V.noSl, JM, and_self, and_true, true_and]) (by first | exact Xy _ _ | simp only [V.closed, QK, and_self, and_true, true_and]) (by first | exact Xy _ _ | simp only [V.closed, QK, and_self, and_true, true_and]) fun C hC hm => ?_
  subst hC
  unfold c_make_Dice__Next
  by_cases h1 : k < l.length
  · have e1 : decide ((k : Int) ≥ (((l.map V.int).length : Nat) : Int)) = false := by simp; omega
    have hget : l[k]? = some (l.getD k 0) := by simp [List.getD_eq_getElem?_getD, List.getElem?_eq_getElem h1]
    have hw := JD (k := k) (by omega)
    have hw2 : IntKind.i64.wrap (((k + 1 : Nat) : Int) - 1) = (k : Int) := by rw [JY (by omega) (by omega)]; omega
    have hn : XB l k n = (ahb (l.getD k 0) n, k + 1) := by rw [XB, if_pos h1]
    rw [hn]
    repeat' (first | refine Qp fun K' hK => ?_ | refine Qt fun K' hK => ?_ | refine Qn 10 (fun _ => true) rfl (Wt) (Wn) fun K' hK => ?_ | refine Qo 10 (fun _ => true) rfl (Wt) (Wn) fun K' hK => ?_ | refine Qn 14 (fun _ => true) rfl (Ws _) (Wm _) fun K' hK => ?_ | refine Qo 14 (fun _ => true) rfl (Ws _) (Wm _) fun K' hK => ?_ | refine Qq ?_ | refine Qr ?_ | refine Ql ?_ | ((first | refine Qs ⟨_, rfl, fun hc => ?_, fun hc => ?_⟩ | refine QQ (fun hc => ?_) (fun hc => ?_) | refine QR (fun hc => ?_) (fun hc => ?_)) <;> first | exact Bool.noConfusion hc | ((try simp only [znz] at hc); first | exact znf | skip)) | refine Qv ?_ | refine Qu ?_ | simp (maxSteps := 1000000) only [go_sem, Nat.reduceAdd, Nat.reduceMul, Nat.reduceEqDiff, Nat.reduceLeDiff, Nat.reduceLT, Nat.reduceSub, Int.reduceEq, Int.reduceBEq, Int.reduceLT, Int.reduceLE, Int.reduceAdd, Int.reduceToNat, reduceIte, reduceCtorEq, Wh, e1, hw, hw2, Int.toNat_natCast, List.getElem?_map, hget, Wp, Wo] | (refine hK _ ?_; clear hK; clear K') | refine And.intro ?_ ?_ | ((first | apply QT | apply Jl); (focus first | exact (aa6 _ _).b)) | exact zlo | omega | exact zms)
    all_goals (refine vU _ rfl rfl (by simp only [V.closed, QK, and_self, and_true, true_and]) ?_; simp only [go_sem, Nat.reduceEqDiff, Nat.reduceAdd, reduceIte, reduceCtorEq])
  · have e1 : decide ((k : Int) ≥ (((l.map V.int).length : Nat) : Int)) = true := by simp; omega
    have hn : XB l k n = (0, k) := by rw [XB, if_neg h1]
    rw [hn]
    repeat' (first | refine Qp fun K' hK => ?_ | refine Qt fun K' hK => ?_ | refine Qn 10 (fun _ => true) rfl (Wt) (Wn) fun K' hK => ?_ | refine Qo 10 (fun _ => true) rfl (Wt) (Wn) fun K' hK => ?_ | refine Qn 14 (fun _ => true) rfl (Ws _) (Wm _) fun K' hK => ?_ | refine Qo 14 (fun _ => true) rfl (Ws _) (Wm _) fun K' hK => ?_ | refine Qq ?_ | refine Qr ?_ | refine Ql ?_ | ((first | refine Qs ⟨_, rfl, fun hc => ?_, fun hc => ?_⟩ | refine QQ (fun hc => ?_) (fun hc => ?_) | refine QR (fun hc => ?_) (fun hc => ?_)) <;> first | exact Bool.noConfusion hc | ((try simp only [znz] at hc); first | exact znf | skip)) | refine Qv ?_ | refine Qu ?_ | simp (maxSteps := 1000000) only [go_sem, Nat.reduceAdd, Nat.reduceMul, Nat.reduceEqDiff, Nat.reduceLeDiff, Nat.reduceLT, Nat.reduceSub, Int.reduceEq, Int.reduceBEq, Int.reduceLT, Int.reduceLE, Int.reduceAdd, Int.reduceToNat, reduceIte, reduceCtorEq, Wh, e1, Wp, Wo] | (refine hK _ ?_; clear hK; clear K') | refine And.intro ?_ ?_ | ((first | apply QT | apply Jl); (focus first | exact (aa6 _ _).b)) | exact zlo | omega | exact zms)
    all_goals (refine vU _ rfl rfl (by simp only [V.closed, QK, and_self, and_true, true_and]) ?_; simp only [go_sem, Nat.reduceEqDiff, Nat.reduceAdd, reduceIte, reduceCtorEq])
end Av
end
section
set_option linter.unusedSimpArgs false
set_option linter.unusedVariables false
set_option maxRecDepth 10000
set_option maxHeartbeats 4000000
namespace Av
open Go
attribute [local irreducible] AWp W8 V7 V8 awS awC KI awQ KY Ji XK KE awR XZ awB okR WO ris
theorem agI (l : List Int) (k : Nat) (n : Int) : k ≤ (XB l k n).2 := by
  unfold XB; split
  · show k ≤ k + 1; omega
  · exact Nat.le_refl _
def UN (Jk : Nat) : AC := QI [0, 1] (.reg [mc 4 (V.bool false)]) (QI [4] (.reg [mv 5 0, mv 6 1, cl 7 Jk [5, 6], mv 8 1, bc 9 .sub 8 (V.int 1), bn 10 .eql 7 9, mv 4 10]) (.ret)) def r_make_Dice__One : List XG := [.tmp 4]
def W5 (Γ : Env) (f : Nat) : Prop := ∀ (l : List Int) (k : Nat) (n : Int) (hl : l.length ≤ 400) (hk : k ≤ l.length) (h1 : 1 ≤ n) (h2 : n < 2 ^ 62), EvD Γ f [V.int n] (Wh l k) (V.bool ((XB l k n).1 == n - 1)) (Wh l (XB l k n).2)
theorem wa {Γ : Env} {f Jk : Nat} (h : Has Γ.P f 11 (UN Jk) r_make_Dice__One) (Jy : X1 Γ Jk) : W5 Γ f := by
  intro l k n hl hk h1 h2
  refine Ku h (by simp) (by simp only [V.closed, QK, V.noSl, JM, and_self, and_true, true_and]) (by first | exact Xy _ _ | simp only [V.closed, QK, and_self, and_true, true_and]) (by first | exact Xy _ _ | simp only [V.closed, QK, and_self, and_true, true_and]) fun C hC hm => ?_
  subst hC
  unfold UN
  have hn := Jy l k n hl hk
  have hw : IntKind.i64.wrap (n - 1) = n - 1 := JY (by omega) (by omega)
  simp only [Wh] at hn
  repeat' (first | refine Qp fun K' hK => ?_ | refine Qt fun K' hK => ?_ | refine Qq ?_ | refine Qr ?_ | refine Ql ?_ | ((first | refine Qs ⟨_, rfl, fun hc => ?_, fun hc => ?_⟩ | refine QQ (fun hc => ?_) (fun hc => ?_) | refine QR (fun hc => ?_) (fun hc => ?_)) <;> first | exact Bool.noConfusion hc | ((try simp only [znz] at hc); first | exact znf | skip)) | refine Qv ?_ | refine Qu ?_ | simp (maxSteps := 1000000) only [go_sem, Nat.reduceAdd, Nat.reduceMul, Nat.reduceEqDiff, Nat.reduceLeDiff, Nat.reduceLT, Nat.reduceSub, Int.reduceEq, Int.reduceBEq, Int.reduceLT, Int.reduceLE, Int.reduceAdd, Int.reduceToNat, reduceIte, reduceCtorEq, Wh, hw] | (refine hK _ ?_; clear hK; clear K') | refine And.intro ?_ ?_ | (apply V9; (focus exact rfl); (focus first | exact hn | exact (Jy _ _ _ zsd zsd)); (focus exact rfl); (focus exact rfl)) | exact zlo | omega | exact zms)
  refine vU _ rfl rfl (by simp only [V.closed, QK, and_self, and_true, true_and]) ?_; simp only [go_sem, Nat.reduceEqDiff, Nat.reduceAdd, reduceIte, reduceCtorEq]
def jJ (l : List Int) (k : Nat) (xs : List (List UInt8)) : List UInt8 × Nat := (xs.getD (XB l k xs.length).1.toNat [], (XB l k xs.length).2)
theorem yX {l : List Int} {k : Nat} {xs : List (List UInt8)} (h1 : 1 ≤ xs.length) (h2 : xs.length < 2 ^ 62) : (jJ l k xs).1 ∈ xs := by
  have := Kq (l := l) (k := k) (n := xs.length) (by omega) (by omega)
  have hk : (XB l k xs.length).1.toNat < xs.length := by omega
  unfold jJ
  simp only [List.getD_eq_getElem?_getD, List.getElem?_eq_getElem hk, Option.getD_some]
  exact List.getElem_mem hk
theorem yc {l : List Int} {k : Nat} {xs : List (List UInt8)} (hk : k ≤ l.length) : (jJ l k xs).2 ≤ l.length := qL hk
theorem yY (l : List Int) (k : Nat) (xs : List (List UInt8)) : k ≤ (jJ l k xs).2 := agI _ _ _
def Un (Jk : Nat) : AC := QI [0, 1] (.reg [mc 4 (V.str [])]) (QI [4] (.reg [mv 5 1, mv 6 0, mv 7 1, ln 8 7, cl 9 Jk [6, 8], ia 10 1 5 9, ld 11 1 10, mv 4 11]) (.ret)) def r_make_Dice__Word : List XG := [.tmp 4]
def V3 (Γ : Env) (f : Nat) : Prop := ∀ (l : List Int) (k : Nat) (xs : List (List UInt8)) (hl : l.length ≤ 400) (hk : k ≤ l.length) (hx : 1 ≤ xs.length) (hx2 : xs.length < 2 ^ 62), EvD Γ f [.sl 1 (xs.map V.str)] (Wh l k) (V.str (jJ l k xs).1) (Wh l (jJ l k xs).2)
theorem xr {Γ : Env} {f Jk : Nat} (h : Has Γ.P f 12 (Un Jk) r_make_Dice__Word) (Jy : X1 Γ Jk) : V3 Γ f := by
  intro l k xs hl hk hx hx2
  refine Ku h (by simp) (by simp only [V.closed, QK, V.noSl, JM, and_self, and_true, true_and]) (by first | exact Xy _ _ | simp only [V.closed, QK, and_self, and_true, true_and]) (by first | exact Xy _ _ | simp only [V.closed, QK, and_self, and_true, true_and]) fun C hC hm => ?_
  subst hC
  unfold Un
  have hr := Kq (l := l) (k := k) (n := xs.length) (by omega) (by omega)
  have hget : xs[(XB l k xs.length).1.toNat]? = some (jJ l k xs).1 := by
    have hk : (XB l k xs.length).1.toNat < xs.length := by omega
    simp [jJ, List.getD_eq_getElem?_getD, List.getElem?_eq_getElem hk]
  have hn := Jy l k xs.length hl hk
  have e2 : Wh l (jJ l k xs).2 = Wh l (XB l k xs.length).2 := rfl
  rw [e2]
  simp only [Wh] at hn
  repeat' (first | refine Qp fun K' hK => ?_ | refine Qt fun K' hK => ?_ | refine Qq ?_ | refine Qr ?_ | refine Ql ?_ | ((first | refine Qs ⟨_, rfl, fun hc => ?_, fun hc => ?_⟩ | refine QQ (fun hc => ?_) (fun hc => ?_) | refine QR (fun hc => ?_) (fun hc => ?_)) <;> first | exact Bool.noConfusion hc | ((try simp only [znz] at hc); first | exact znf | skip)) | refine Qv ?_ | refine Qu ?_ | simp (maxSteps := 1000000) only [go_sem, Nat.reduceAdd, Nat.reduceMul, Nat.reduceEqDiff, Nat.reduceLeDiff, Nat.reduceLT, Nat.reduceSub, Int.reduceEq, Int.reduceBEq, Int.reduceLT, Int.reduceLE, Int.reduceAdd, Int.reduceToNat, reduceIte, reduceCtorEq, Wh, List.length_map, List.getElem?_map, hget] | (refine hK _ ?_; clear hK; clear K') | refine And.intro ?_ ?_ | (apply V9; (focus exact rfl); (focus first | exact hn | exact (Jy _ _ _ zsd zsd)); (focus exact rfl); (focus exact rfl)) | exact zlo | omega | exact zms)
  refine vU _ rfl rfl (by simp only [V.closed, QK, and_self, and_true, true_and]) ?_; simp only [go_sem, Nat.reduceEqDiff, Nat.reduceAdd, reduceIte, reduceCtorEq]
def jQ : List (List UInt8) := [[97, 108, 108], [104, 105, 103, 104], [109, 101, 100, 105, 117, 109], [108, 111, 119], [114, 115, 97], [101, 99, 100, 115, 97], [97, 101, 115, 103, 99, 109], [104, 109, 97, 99, 115, 104, 97, 49], [118, 49], [118, 51], [118, 52], [99, 104, 97, 99, 104, 97], [114, 99, 52], [114, 115, 97, 45, 114, 99, 52, 45, 109, 100, 53], [97, 101, 115, 49, 50, 56, 45, 103, 99, 109], [109, 108, 107, 101, 109], [100, 104, 101]]
def UW : List (List UInt8) := [[101, 99, 100, 104, 101], [118, 51], [104, 105, 103, 104], [114, 115, 97], [97, 101, 97, 100]]
def Kr (l : List Int) (s : List UInt8) (k : Nat) : List UInt8 × Nat :=
  if h : k < l.length ∧ (XB l k 4).1 = 3 then Kr l (s ++ [43] ++ (jJ l (k + 1) UW).1) (jJ l (k + 1) UW).2
  else (s, (XB l k 4).2)
termination_by l.length - k
decreasing_by have := yY l (k + 1) UW; omega
def aaZ (l : List Int) (k : Nat) : List UInt8 × Nat := Kr l (jJ l k jQ).1 (jJ l k jQ).2
theorem aa1 : ∀ x ∈ jQ, x.length ≤ 11 := by decide
theorem aa0 : ∀ x ∈ UW, x.length ≤ 11 := by decide
theorem aaY (l : List Int) (s : List UInt8) (k : Nat) (hk : k ≤ l.length) : (Kr l s k).2 ≤ l.length := by
  rw [Kr]
  split
  · exact aaY l _ _ (yc (by omega))
  · exact qL hk
termination_by l.length - k
decreasing_by have := yY l (k + 1) UW; omega
theorem afJ {l : List Int} {k : Nat} (hk : k ≤ l.length) : (aaZ l k).2 ≤ l.length := aaY _ _ _ (yc hk)
theorem vw (l : List Int) (s : List UInt8) (k : Nat) (hk : k ≤ l.length) (hs : s.length ≤ 11 + 12 * k) : (Kr l s k).1.length ≤ 11 + 12 * l.length := by
  rw [Kr]
  split
  · have h1 := aa0 _ (yX (l := l) (k := k + 1) (xs := UW) (by decide) (by decide))
    have h2 := yY l (k + 1) UW
    exact vw l _ _ (yc (by omega)) (by simp; omega)
  · show s.length ≤ _; omega
termination_by l.length - k
decreasing_by have := yY l (k + 1) UW; omega
theorem aeA {l : List Int} {k : Nat} (hk : k ≤ l.length) : (aaZ l k).1.length ≤ 11 + 12 * l.length := by
  have h1 := aa1 _ (yX (l := l) (k := k) (xs := jQ) (by decide) (by decide))
  exact vw _ _ _ (yc hk) (by omega)
def jf (X9 Yn : Nat) : AC := QI [0] (.reg [mc 2 (V.str [])]) (QI [0, 3] (.reg [mv 4 0, xo 5 (.bslice 17 1 false [(.string ⟨#[]⟩)] [(0, (.c (V.str [97, 108, 108]))), (1, (.c (V.str [104, 105, 103, 104]))), (2, (.c (V.str [109, 101, 100, 105, 117, 109]))), (3, (.c (V.str [108, 111, 119]))), (4, (.c (V.str [114, 115, 97]))), (5, (.c (V.str [101, 99, 100, 115, 97]))), (6, (.c (V.str [97, 101, 115, 103, 99, 109]))), (7, (.c (V.str [104, 109, 97, 99, 115, 104, 97, 49]))), (8, (.c (V.str [118, 49]))), (9, (.c (V.str [118, 51]))), (10, (.c (V.str [118, 52]))), (11, (.c (V.str [99, 104, 97, 99, 104, 97]))), (12, (.c (V.str [114, 99, 52]))), (13, (.c (V.str [114, 115, 97, 45, 114, 99, 52, 45, 109, 100, 53]))), (14, (.c (V.str [97, 101, 115, 49, 50, 56, 45, 103, 99, 109]))), (15, (.c (V.str [109, 108, 107, 101, 109]))), (16, (.c (V.str [100, 104, 101])))]), cl 6 X9 [4, 5], mv 3 6]) (QI [3] (.block 0 (X2 [0, 3] (QI [0, 3] (QI [0, 3, 8] (.reg [mv 7 0, xo 8 (.call Yn [(.t 7), (.c (V.int 4))])]) (.cond (.t 8) (.skip) (.exit 0))) (.block 1 (.reg [mv 9 3, bc 10 .add 9 (V.str [43]), mv 11 0, xo 12 (.bslice 5 1 false [(.string ⟨#[]⟩)] [(0, (.c (V.str [101, 99, 100, 104, 101]))), (1, (.c (V.str [118, 51]))), (2, (.c (V.str [104, 105, 103, 104]))), (3, (.c (V.str [114, 115, 97]))), (4, (.c (V.str [97, 101, 97, 100])))]), cl 13 X9 [11, 12], bn 14 .add 10 13, mv 3 14]))))) (QI [2] (.reg [mv 15 3, mv 2 15]) (.ret)))) def r_law08_names : List XG := [.tmp 2]
def qq (Γ : Env) (f : Nat) : Prop := ∀ (l : List Int) (k : Nat) (hl : l.length ≤ 400) (hk : k ≤ l.length), EvD Γ f [] (Wh l k) (V.str (aaZ l k).1) (Wh l (aaZ l k).2)
theorem aaB {Γ : Env} {f X9 Yn : Nat} (h : Has Γ.P f 16 (jf X9 Yn) r_law08_names) (X7 : V3 Γ X9) (JT : W5 Γ Yn) : qq Γ f := by
  intro l k hl hk
  refine Ku h (by simp) (by simp only [V.closed, QK, V.noSl, JM, and_self, and_true, true_and]) (by first | exact Xy _ _ | simp only [V.closed, QK, and_self, and_true, true_and]) (by first | exact Xy _ _ | simp only [V.closed, QK, and_self, and_true, true_and]) fun C hC hm => ?_
  subst hC
  unfold jf
  have w1 := X7 l k jQ hl hk (by decide) (by decide)
  have wl := aa1 _ (yX (l := l) (k := k) (xs := jQ) (by decide) (by decide))
  have wk := yc (xs := jQ) hk
  have e2 : aaZ l k = Kr l (jJ l k jQ).1 (jJ l k jQ).2 := rfl
  rw [e2]
  generalize jJ l k jQ = w at *
  obtain ⟨s0, k0⟩ := w
  simp only [Wh, jQ] at w1 wl wk ⊢
  repeat' (first | refine Qp fun K' hK => ?_ | refine Qt fun K' hK => ?_ | refine Qq ?_ | refine Qr ?_ | refine Ql ?_ | ((first | refine Qs ⟨_, rfl, fun hc => ?_, fun hc => ?_⟩ | refine QQ (fun hc => ?_) (fun hc => ?_) | refine QR (fun hc => ?_) (fun hc => ?_)) <;> first | exact Bool.noConfusion hc | ((try simp only [znz] at hc); first | exact znf | skip)) | refine Qv ?_ | refine Qu ?_ | simp (maxSteps := 1000000) only [go_sem, Nat.reduceAdd, Nat.reduceMul, Nat.reduceEqDiff, Nat.reduceLeDiff, Nat.reduceLT, Nat.reduceSub, Int.reduceEq, Int.reduceBEq, Int.reduceLT, Int.reduceLE, Int.reduceAdd, Int.reduceToNat, reduceIte, reduceCtorEq, Wh] | (refine hK _ ?_; clear hK; clear K') | refine And.intro ?_ ?_ | (apply V9; (focus exact rfl); (focus first | exact w1 | exact (X7 _ _ _ zsd zsd zsd zsd) | exact (JT _ _ _ zsd zsd zsd zsd)); (focus exact rfl); (focus exact rfl)) | exact zlo | omega | exact zms)
  refine Ju (ι := List UInt8 × Nat) (fun p => p.2 ≤ l.length ∧ p.1.length ≤ 11 + 12 * p.2 ∧ Kr l p.1 p.2 = Kr l s0 k0) (fun p => J0 [(0, .ptr 0 0), (3, V.str p.1)] [(0, .box true [.sl 1 (l.map V.int), V.int p.2])] 1) (fun p => l.length + 1 - p.2) (s0, k0) ⟨wk, by simp only; omega, rfl⟩ (Jb []) (Jd [] (by simp only [go_sem, Nat.reduceAdd, Nat.reduceMul, Nat.reduceEqDiff, Nat.reduceLT, Int.reduceToNat, reduceIte, reduceCtorEq, and_true, true_and, implies_true, Option.some.injEq, exists_eq_left', Qk, Qm]; (repeat' (first | rfl | refine And.intro ?_ ?_ | omega | exact fun h => h | exact Exists.intro _ rfl))) (by simp only [go_sem, Nat.reduceAdd, Nat.reduceMul, Nat.reduceEqDiff, Nat.reduceLT, Int.reduceToNat, reduceIte, reduceCtorEq, and_true, true_and, implies_true, Option.some.injEq, exists_eq_left', Qk, Qm]; (repeat' (first | rfl | refine And.intro ?_ ?_ | omega | exact fun h => h | exact Exists.intro _ rfl))) (by simp) (by simp) (by omega)) fun p hp K' hL => ?_
  obtain ⟨s, k⟩ := p
  obtain ⟨hk, hs, hinv⟩ := hp
  simp only at hk hs hinv
  have o1 := JT l k 4 hl hk (by omega) (by omega)
  by_cases h1 : k < l.length ∧ (XB l k 4).1 = 3
  · have e1 : ((XB l k 4).1 == 4 - 1) = true := by simp [h1.2]
    have e3 : (XB l k 4).2 = k + 1 := by rw [XB, if_pos h1.1]
    rw [e1, e3] at o1
    have w2 := X7 l (k + 1) UW hl (by omega) (by decide) (by decide)
    have hwl := aa0 _ (yX (l := l) (k := k + 1) (xs := UW) (by decide) (by decide))
    have hwk := yc (l := l) (k := k + 1) (xs := UW) (by omega)
    have hwg := yY l (k + 1) UW
    rw [Kr, dif_pos h1] at hinv
    generalize jJ l (k + 1) UW = w at *
    obtain ⟨t, k2⟩ := w
    simp only [Wh, UW] at o1 w2 hwl hwk hwg hinv
    repeat' (first | refine Qp fun K' hK => ?_ | refine Qt fun K' hK => ?_ | refine Qq ?_ | refine Qr ?_ | refine Ql ?_ | ((first | refine Qs ⟨_, rfl, fun hc => ?_, fun hc => ?_⟩ | refine QQ (fun hc => ?_) (fun hc => ?_) | refine QR (fun hc => ?_) (fun hc => ?_)) <;> first | exact Bool.noConfusion hc | ((try simp only [znz] at hc); first | exact znf | skip)) | refine Qv ?_ | refine Qu ?_ | simp (maxSteps := 1000000) only [go_sem, Nat.reduceAdd, Nat.reduceMul, Nat.reduceEqDiff, Nat.reduceLeDiff, Nat.reduceLT, Nat.reduceSub, Int.reduceEq, Int.reduceBEq, Int.reduceLT, Int.reduceLE, Int.reduceAdd, Int.reduceToNat, reduceIte, reduceCtorEq, J0] | (refine hK _ ?_; clear hK; clear K') | refine And.intro ?_ ?_ | (apply V9; (focus exact rfl); (focus first | exact o1 | exact w2 | exact (X7 _ _ _ zsd zsd zsd zsd) | exact (JT _ _ _ zsd zsd zsd zsd)); (focus exact rfl); (focus exact rfl)) | exact zlo | omega | exact zms)
    refine hL _ (s ++ [43] ++ t, k2) (Jb []) ⟨by show k2 ≤ l.length; omega, by simp only [List.length_append, List.length_singleton]; omega, hinv⟩ (by show l.length + 1 - k2 < l.length + 1 - k; omega) (Jd [] (by simp only [go_sem, Nat.reduceAdd, Nat.reduceMul, Nat.reduceEqDiff, Nat.reduceLT, Int.reduceToNat, reduceIte, reduceCtorEq, and_true, true_and, implies_true, Option.some.injEq, exists_eq_left', Qk, Qm]; (repeat' (first | rfl | refine And.intro ?_ ?_ | omega | exact fun h => h | exact Exists.intro _ rfl))) (by simp only [go_sem, Nat.reduceAdd, Nat.reduceMul, Nat.reduceEqDiff, Nat.reduceLT, Int.reduceToNat, reduceIte, reduceCtorEq, and_true, true_and, implies_true, Option.some.injEq, exists_eq_left', Qk, Qm]; (repeat' (first | rfl | refine And.intro ?_ ?_ | omega | exact fun h => h | exact Exists.intro _ rfl))) (by simp) (by simp) (by omega))
  · have e1 : ((XB l k 4).1 == 4 - 1) = false := by
      simp only [beq_eq_false_iff_ne, ne_eq]
      intro h
      by_cases hk2 : k < l.length
      · exact h1 ⟨hk2, by omega⟩
      · rw [XB, if_neg hk2] at h; simp at h
    rw [e1] at o1
    rw [Kr, dif_neg h1] at hinv
    rw [← hinv]
    simp only [Wh] at o1
    repeat' (first | refine Qp fun K' hK => ?_ | refine Qt fun K' hK => ?_ | refine Qq ?_ | refine Qr ?_ | refine Ql ?_ | ((first | refine Qs ⟨_, rfl, fun hc => ?_, fun hc => ?_⟩ | refine QQ (fun hc => ?_) (fun hc => ?_) | refine QR (fun hc => ?_) (fun hc => ?_)) <;> first | exact Bool.noConfusion hc | ((try simp only [znz] at hc); first | exact znf | skip)) | refine Qv ?_ | refine Qu ?_ | simp (maxSteps := 1000000) only [go_sem, Nat.reduceAdd, Nat.reduceMul, Nat.reduceEqDiff, Nat.reduceLeDiff, Nat.reduceLT, Nat.reduceSub, Int.reduceEq, Int.reduceBEq, Int.reduceLT, Int.reduceLE, Int.reduceAdd, Int.reduceToNat, reduceIte, reduceCtorEq, J0, Wh] | (refine hK _ ?_; clear hK; clear K') | refine And.intro ?_ ?_ | (apply V9; (focus exact rfl); (focus first | exact o1 | exact (X7 _ _ _ zsd zsd zsd zsd) | exact (JT _ _ _ zsd zsd zsd zsd)); (focus exact rfl); (focus exact rfl)) | exact zlo | omega | exact zms)
    refine vU _ rfl rfl (by simp only [V.closed, QK, and_self, and_true, true_and]) ?_; simp only [go_sem, Nat.reduceEqDiff, Nat.reduceAdd, reduceIte, reduceCtorEq]
end Av
end
section
set_option linter.unusedSimpArgs false
set_option linter.unusedVariables false
set_option maxRecDepth 10000
set_option maxHeartbeats 4000000
namespace Av
open Go
attribute [local irreducible] AWp W8 V7 V8 awS awC KI awQ KY Ji XK KE awR XZ awB okR WO ris
theorem ahp (s : List UInt8) : (y5 s).2 = (JW 43 s).all WL := by
  unfold y5; split
  · rename_i h; rw [h]
  · rename_i h; simpa using h
structure wG (s : List UInt8) : Prop where
  colon : (58 : UInt8) ∉ s
  known : (JW 43 s).all WL = true
  head : ∃ c r, s = c :: r ∧ c ≠ 45 ∧ c ≠ 33 ∧ c ≠ 43 ∧ c ≠ 64
def adk (s : List UInt8) : Bool := !s.contains 58 && (JW 43 s).all WL && (match s with | c :: _ => c != 45 && c != 33 && c != 43 && c != 64 | [] => false)
theorem afM {s : List UInt8} (h : adk s = true) : wG s := by
  simp only [adk, Bool.and_eq_true, Bool.not_eq_true'] at h
  refine ⟨by simpa using h.1.1, h.1.2, ?_⟩
  have h3 := h.2
  cases s with
  | nil => simp at h3
  | cons c r => simp at h3; exact ⟨c, r, rfl, h3.1.1.1, h3.1.1.2, h3.1.2, h3.2⟩
theorem afK : ∀ x ∈ UW, adk x = true := by decide
theorem wG.join {s t : List UInt8} (hs : wG s) (ht : t ∈ UW) : wG (s ++ [43] ++ t) := by
  have h2 := afM (afK t ht)
  refine ⟨?_, ?_, ?_⟩
  · simp only [List.mem_append, List.mem_singleton, not_or]; exact ⟨⟨hs.colon, by decide⟩, h2.colon⟩
  · rw [xJ, List.all_append, hs.known, h2.known]; rfl
  · obtain ⟨c, r, rfl, h⟩ := hs.head
    exact ⟨c, r ++ [43] ++ t, by simp, h⟩
theorem wG.sign {s : List UInt8} (h : wG s) : Vd s = (0, s) := by
  obtain ⟨c, r, rfl, h1, h2, h3, _⟩ := h.head
  rw [Vd, if_neg (by simp [h1, h2, h3])]
theorem wG.okW {s : List UInt8} (h : wG s) : wordOk s = true := by rw [Av.wordOk, h.sign, ahp, h.known, Bool.or_true]
structure aed (s : List UInt8) (n : Nat) : Prop where
  few : s ≠ [] → (JW 58 s).length ≤ n
  ok : s ≠ [] → ∀ w ∈ JW 58 s, wordOk w = true
theorem aed.app {s t : List UInt8} {n m : Nat} (hs : aed s n) (ht : aed t m) (h1 : s ≠ []) (h2 : t ≠ []) : aed (s ++ [58] ++ t) (n + m) := by
  refine ⟨fun _ => ?_, fun _ x hx => ?_⟩
  · have := hs.few h1; have := ht.few h2; rw [xJ]; simp; omega
  · rw [xJ] at hx
    rcases List.mem_append.1 hx with hx | hx
    · exact hs.ok h1 x hx
    · exact ht.ok h2 x hx
def aak : List Int → List UInt8
  | [] => []
  | x :: r => [58] ++ UH x ++ aak r
def acu : List Int → List UInt8
  | [] => []
  | x :: r => UH x ++ aak r
theorem vp : ∀ (r p : List Int) (s : List UInt8), (p ++ r).Nodup → p ≠ [] → Kn p r s = some (s ++ aak r)
  | [], p, s, _, _ => by simp [Kn, aak]
  | x :: r, p, s, h, hp => by
    have hx : p.contains x = false := by
      have := (List.nodup_append.1 h).2.2
      simp only [List.contains_eq_mem, decide_eq_false_iff_not]
      intro hm; exact this x hm x (by simp) rfl
    rw [Kn, hx, if_neg (by simp), if_neg hp, vp r _ _ (by simpa using h) (by simp), aak]; simp
theorem adb {l : List Int} (hn : l.Nodup) (hr : ∀ x ∈ l, 1 ≤ x ∧ x ≤ 16) : VA l = .tup [V.str (acu l), V.int 0] := by
  have hb : ¬ l.any abY = true := by
    simp only [List.any_eq_true, not_exists, not_and]
    intro x hx
    have := hr x hx
    simp [abY]; omega
  rw [VA, if_neg hb]
  cases l with
  | nil => rfl
  | cons x r =>
    have : Kn [] (x :: r) [] = some (acu (x :: r)) := by
      rw [Kn, if_neg (by simp), if_pos rfl, vp r _ _ (by simpa using hn) (by simp), acu]; simp
    rw [this]
theorem acs : ∀ r : List Int, (aak r).length ≤ 41 * r.length
  | [] => by simp [aak]
  | x :: r => by have := y9 x; have := acs r; simp [aak]; omega
end Av
end
section
namespace Av
open Go
end Av
end
section
set_option linter.unusedSimpArgs false
set_option linter.unusedVariables false
set_option maxRecDepth 10000
set_option maxHeartbeats 4000000
namespace Av
open Go
attribute [local irreducible] AWp W8 V7 V8 awS awC KI awQ KY Ji XK KE awR XZ awB okR WO ris
theorem acj {l : List Int} {j : Nat} {x : Int} (hn : l.Nodup) (hg : l[j]? = some x) : x ∉ l.take j := by
  intro h
  obtain ⟨hj, he⟩ := List.getElem?_eq_some_iff.1 hg
  have h2 : l.take j ++ x :: l.drop (j + 1) = l := by rw [← he, ← List.drop_eq_getElem_cons hj, List.take_append_drop]
  rw [← h2] at hn
  exact (List.nodup_append.1 hn).2.2 x h x (by simp) rfl
theorem ad3 (l : List Int) : (l == l) = true := by simp
theorem acg : yu [97, 101, 115, 103, 99, 109, 43, 101, 99, 100, 104, 101, 58, 33, 118, 52] = ([10, 11], 0, 0) := by decide +kernel
theorem acf : yu [114, 115, 97, 43, 118, 49, 58, 64, 115, 116, 114, 101, 110, 103, 116, 104] = ([6, 7, 8, 3, 5, 1, 2], 0, 0) := by decide +kernel
def jg (X8 JU : Nat) : AC := QI [] (.reg [mc 0 (V.bool false)]) (QI [1, 2, 3] (.reg [xo 8 (.call X8 [(.c (V.str [97, 101, 115, 103, 99, 109, 43, 101, 99, 100, 104, 101, 58, 33, 118, 52]))]), mv 7 8, ex 9 7 0, ex 10 7 1, ex 11 7 2, mv 1 9, mv 2 10, mv 3 11]) (QI [1, 2, 3, 4, 5, 6] (.reg [xo 13 (.call X8 [(.c (V.str [114, 115, 97, 43, 118, 49, 58, 64, 115, 116, 114, 101, 110, 103, 116, 104]))]), mv 12 13, ex 14 12 0, ex 15 12 1, ex 16 12 2, mv 4 14, mv 5 15, mv 6 16]) (QI [0] (.reg [mv 17 3, bc 18 .eql 17 (V.int 0), mv 19 18, mg 20 6 19 true, xg 21 (.bin .eql (.t 20) (.c (V.int 0))) 19 true, xo 22 (.pick (.t 19) (.t 21) (.c (V.bool false))), mv 23 22, mg 24 2 23 true, xg 25 (.bin .eql (.t 24) (.c (V.int 0))) 23 true, xo 26 (.pick (.t 23) (.t 25) (.c (V.bool false))), mv 27 26, mg 28 5 27 true, xg 29 (.bin .eql (.t 28) (.c (V.int 0))) 27 true, xo 30 (.pick (.t 27) (.t 29) (.c (V.bool false))), mv 31 30, mg 32 1 31 true, xg 33 (.bslice 2 1 false [(.int .i64 0)] [(0, (.c (V.int 10))), (1, (.c (V.int 11)))]) 31 true, xg 34 (.call JU [(.t 32), (.t 33)]) 31 true, xo 35 (.pick (.t 31) (.t 34) (.c (V.bool false))), mv 36 35, mg 37 4 36 true, xg 38 (.bslice 7 1 false [(.int .i64 0)] [(0, (.c (V.int 6))), (1, (.c (V.int 7))), (2, (.c (V.int 8))), (3, (.c (V.int 3))), (4, (.c (V.int 5))), (5, (.c (V.int 1))), (6, (.c (V.int 2)))]) 36 true, xg 39 (.call JU [(.t 37), (.t 38)]) 36 true, xo 40 (.pick (.t 36) (.t 39) (.c (V.bool false))), mv 0 40]) (.ret)))) def r_law08_awake : List XG := [.tmp 0]
def qr (Γ : Env) (f : Nat) : Prop := EvN Γ f [] (V.bool true)
theorem aaC {Γ : Env} {f X8 JU : Nat} (h : Has Γ.P f 41 (jg X8 JU) r_law08_awake) (Ue : V0 Γ X8) (Jz : W4 Γ JU) : qr Γ f := by
  refine Jc h (by simp) (by simp only [V.closed, QK, V.noSl, JM, and_self, and_true, true_and]) (by simp only [V.closed, QK, V.noSl, JM, and_self, and_true, true_and]) fun C hC hm => ?_
  subst hC
  unfold jg
  have h1 := (Ue [97, 101, 115, 103, 99, 109, 43, 101, 99, 100, 104, 101, 58, 33, 118, 52] (by decide)).b
  have h2 := (Ue [114, 115, 97, 43, 118, 49, 58, 64, 115, 116, 114, 101, 110, 103, 116, 104] (by decide)).b
  rw [acg, jN] at h1
  rw [acf, jN] at h2
  have h3 := (Jz [10, 11] [10, 11] (by decide)).b
  have h4 := (Jz [6, 7, 8, 3, 5, 1, 2] [6, 7, 8, 3, 5, 1, 2] (by decide)).b
  rw [ad3] at h3 h4
  simp only [List.map_cons, List.map_nil] at h1 h2 h3 h4
  repeat' (first | refine Qp fun K' hK => ?_ | refine Qt fun K' hK => ?_ | refine Qq ?_ | refine Qr ?_ | refine Ql ?_ | ((first | refine Qs ⟨_, rfl, fun hc => ?_, fun hc => ?_⟩ | refine QQ (fun hc => ?_) (fun hc => ?_) | refine QR (fun hc => ?_) (fun hc => ?_)) <;> first | exact Bool.noConfusion hc | ((try simp only [znz] at hc); first | exact znf | skip)) | refine Qv ?_ | refine Qu ?_ | simp (maxSteps := 1000000) only [go_sem, Nat.reduceAdd, Nat.reduceMul, Nat.reduceEqDiff, Nat.reduceLeDiff, Nat.reduceLT, Nat.reduceSub, Int.reduceEq, Int.reduceBEq, Int.reduceLT, Int.reduceLE, Int.reduceAdd, Int.reduceToNat, reduceIte, reduceCtorEq] | (refine hK _ ?_; clear hK; clear K') | refine And.intro ?_ ?_ | (apply QT; (focus first | exact h1 | exact h2 | exact h3 | exact h4 | exact (Ue _ zsd).b | exact (Jz _ _ zsd).b)) | exact zlo | omega | exact zms)
  all_goals first | (refine Ja _ rfl ?_; simp only [go_sem, Nat.reduceEqDiff, Nat.reduceAdd, reduceIte, reduceCtorEq]; done) | trace_state
end Av
end

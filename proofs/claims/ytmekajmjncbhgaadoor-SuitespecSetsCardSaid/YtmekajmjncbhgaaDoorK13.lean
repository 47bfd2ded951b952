/- Functions that answer a buffer of their own, whose elements show no memory. -/
import Derived.Test.YtmekajmjncbhgaaDoorK12
import Derived.Lib.IndexLaws
import Derived.Lib.AtoiAllCases
set_option linter.unusedVariables false
set_option linter.unusedSimpArgs false
section
set_option linter.unusedSimpArgs false
set_option linter.unusedVariables false
set_option maxRecDepth 10000
namespace Av
open Go
attribute [local irreducible] AWp W8 V7 V8 awS awC KI awQ KY Ji XK KE awR XZ awB okR WO ris
end Av
end
section
set_option linter.unusedSimpArgs false
set_option linter.unusedVariables false
set_option maxRecDepth 10000
set_option maxHeartbeats 4000000
namespace Av
open Go
attribute [local irreducible] AWp W8 V7 V8 awS awC KI awQ KY Ji XK KE awR XZ awB okR WO ris
def wv : QV := ⟨0, [], 0, 0, 0, 0, 0, 0, 0, 0, 0, 0⟩
def YA (c : Int) : QV := if 1 ≤ c ∧ c ≤ 16 then Jg.getD (c - 1).toNat wv else wv
def Wi (c : Int) : V := .tup [(YA c).v, V.int (if 1 ≤ c ∧ c ≤ 16 then 0 else 8)]
theorem U4 (c : Int) : (Wi c).closed := by simp only [Wi, QV.v, QV.cells, V.closed, QK, and_self]
theorem qE (c : Int) : (Wi c).noSl := by simp only [Wi, QV.v, QV.cells, V.noSl, JM, and_self]
theorem XL : Jg.length = 16 := rfl
theorem ve {c : Int} (h : 1 ≤ c ∧ c ≤ 16) : (Jg.map QV.v)[(c - 1).toNat]? = some (YA c).v := by
  have hk : (c - 1).toNat < Jg.length := by rw [XL]; omega
  rw [List.getElem?_map, YA, if_pos h, List.getD_eq_getElem?_getD, List.getElem?_eq_getElem hk, Option.getD_some]; rfl
theorem vd {c : Int} (h : ¬ (1 ≤ c ∧ c ≤ 16)) : YA c = wv := by rw [YA, if_neg h]
def Kz (JC : Nat) : AC := QI [0, 2] (.reg [xo 2 (.alloc [.val (.int .i64 0), .val (.string ⟨#[]⟩), .val (.int .i64 0), .val (.int .i64 0), .val (.int .i64 0), .val (.int .i64 0), .val (.int .i64 0), .val (.int .i64 0), .val (.int .i64 0), .val (.int .i64 0), .val (.int .i64 0), .val (.int .i64 0)]), mc 3 (V.int 0)]) (QI [0, 2, 4] (.reg [cl 5 JC [], mv 4 5]) (QI [0, 2, 4] (QI [0, 2, 4, 13] (.reg [mv 6 0, bc 7 .lss 6 (V.int 1), mv 8 7, mg 9 0 8 false, mg 10 4 8 false, xg 11 (.lenL (.t 10)) 8 false, xg 12 (.bin .gtr (.t 9) (.t 11)) 8 false, xo 13 (.pick (.t 8) (.c (V.bool true)) (.t 12))]) (.cond (.t 13) (QI [2, 3] (.reg [xo 14 (.build [(.int .i64 0), (.string ⟨#[]⟩), (.int .i64 0), (.int .i64 0), (.int .i64 0), (.int .i64 0), (.int .i64 0), (.int .i64 0), (.int .i64 0), (.int .i64 0), (.int .i64 0), (.int .i64 0)] []), xs 12 2 14, mc 3 (V.int 8)]) (.ret)) (.skip))) (QI [2, 3] (.reg [mv 15 4, mv 16 0, bc 17 .sub 16 (V.int 1), ia 18 12 15 17, xo 19 (.load true 12 (.t 18)), xs 12 2 19, mc 3 (V.int 0)]) (.ret)))) def r_catalog_Suite : List XG := [.cell 2 true 12, .tmp 3]
def Vm (Γ : Env) (f : Nat) : Prop := ∀ (c : Int), EvN Γ f [V.int c] (Wi c)
theorem wU {Γ : Env} {f JC : Nat} (h : Has Γ.P f 20 (Kz JC) r_catalog_Suite) (JA : Wg Γ JC) : Vm Γ f := by
  intro c
  refine Jc h (by simp) (by first | exact U4 c | exact qE c) (by first | exact U4 c | exact qE c) fun C hC hm => ?_
  subst hC
  unfold Kz
  have hl := XL
  by_cases h : 1 ≤ c ∧ c ≤ 16
  · have hg := ve h
    have hw : IntKind.i64.wrap (c - 1) = c - 1 := JY (by omega) (by omega)
    have e1 : decide (c < 1) = false := by simp; omega
    have e2 : decide (c > 16) = false := by simp; omega
    have e3 : decide (c > (((Jg.map QV.v).length : Nat) : Int)) = false := by simp [hl]; omega
    repeat' (first | refine Qp fun K' hK => ?_ | refine Qt fun K' hK => ?_ | refine Qq ?_ | refine Qr ?_ | refine Ql ?_ | ((first | refine Qs ⟨_, rfl, fun hc => ?_, fun hc => ?_⟩ | refine QQ (fun hc => ?_) (fun hc => ?_) | refine QR (fun hc => ?_) (fun hc => ?_)) <;> first | exact Bool.noConfusion hc | ((try simp only [znz] at hc); first | exact znf | skip)) | refine Qv ?_ | refine Qu ?_ | simp (maxSteps := 1000000) only [go_sem, Nat.reduceAdd, Nat.reduceMul, Nat.reduceEqDiff, Nat.reduceLeDiff, Nat.reduceLT, Nat.reduceSub, Int.reduceEq, Int.reduceBEq, Int.reduceLT, Int.reduceLE, Int.reduceAdd, Int.reduceToNat, reduceIte, reduceCtorEq, hg, hw, e1, e2, e3, QV.v, QV.cells] | (refine hK _ ?_; clear hK; clear K') | refine And.intro ?_ ?_ | (apply QT; (focus first | exact EvC.b JA)) | exact zlo | omega | exact zms)
    all_goals (simp only [Wi, if_pos h, QV.v, QV.cells]; refine Ja _ rfl ?_; simp only [go_sem, Nat.reduceEqDiff, Nat.reduceAdd, reduceIte, reduceCtorEq])
  · have h0 := vd h
    by_cases h1 : c < 1
    · have e1 : decide (c < 1) = true := by simp; omega
      repeat' (first | refine Qp fun K' hK => ?_ | refine Qt fun K' hK => ?_ | refine Qq ?_ | refine Qr ?_ | refine Ql ?_ | ((first | refine Qs ⟨_, rfl, fun hc => ?_, fun hc => ?_⟩ | refine QQ (fun hc => ?_) (fun hc => ?_) | refine QR (fun hc => ?_) (fun hc => ?_)) <;> first | exact Bool.noConfusion hc | ((try simp only [znz] at hc); first | exact znf | skip)) | refine Qv ?_ | refine Qu ?_ | simp (maxSteps := 1000000) only [go_sem, Nat.reduceAdd, Nat.reduceMul, Nat.reduceEqDiff, Nat.reduceLeDiff, Nat.reduceLT, Nat.reduceSub, Int.reduceEq, Int.reduceBEq, Int.reduceLT, Int.reduceLE, Int.reduceAdd, Int.reduceToNat, reduceIte, reduceCtorEq, e1] | (refine hK _ ?_; clear hK; clear K') | refine And.intro ?_ ?_ | (apply QT; (focus first | exact EvC.b JA)) | exact zlo | omega | exact zms)
      all_goals (simp only [Wi, if_neg h, h0, wv, QV.v, QV.cells]; refine Ja _ rfl ?_; simp only [go_sem, Nat.reduceEqDiff, Nat.reduceAdd, reduceIte, reduceCtorEq])
    · have e1 : decide (c < 1) = false := by simp; omega
      have e2 : decide (c > (((Jg.map QV.v).length : Nat) : Int)) = true := by simp [hl]; omega
      repeat' (first | refine Qp fun K' hK => ?_ | refine Qt fun K' hK => ?_ | refine Qq ?_ | refine Qr ?_ | refine Ql ?_ | ((first | refine Qs ⟨_, rfl, fun hc => ?_, fun hc => ?_⟩ | refine QQ (fun hc => ?_) (fun hc => ?_) | refine QR (fun hc => ?_) (fun hc => ?_)) <;> first | exact Bool.noConfusion hc | ((try simp only [znz] at hc); first | exact znf | skip)) | refine Qv ?_ | refine Qu ?_ | simp (maxSteps := 1000000) only [go_sem, Nat.reduceAdd, Nat.reduceMul, Nat.reduceEqDiff, Nat.reduceLeDiff, Nat.reduceLT, Nat.reduceSub, Int.reduceEq, Int.reduceBEq, Int.reduceLT, Int.reduceLE, Int.reduceAdd, Int.reduceToNat, reduceIte, reduceCtorEq, e1, e2] | (refine hK _ ?_; clear hK; clear K') | refine And.intro ?_ ?_ | (apply QT; (focus first | exact EvC.b JA)) | exact zlo | omega | exact zms)
      all_goals (simp only [Wi, if_neg h, h0, wv, QV.v, QV.cells]; refine Ja _ rfl ?_; simp only [go_sem, Nat.reduceEqDiff, Nat.reduceAdd, reduceIte, reduceCtorEq])
def yS : AC := QI [0, 1, 4] (.reg [xo 4 (.alloc [.val (.int .i64 0), .val (.int .i64 0)])]) (QI [4] (.reg [mv 5 0, mv 6 1, xo 7 (.build [(.int .i64 0), (.int .i64 0)] [(0, 1, (.t 5)), (1, 1, (.t 6))]), xs 2 4 7]) (.ret)) def r_ref02_use : List XG := [.cell 4 true 2]
def j9 (Γ : Env) (f : Nat) : Prop := ∀ (a b : Int), EvN Γ f [V.int a, V.int b] (.agg [V.int a, V.int b])
theorem acE {Γ : Env} {f : Nat} (h : Has Γ.P f 8 yS r_ref02_use)  : j9 Γ f := by
  intro a b
  refine Jc h (by simp) (by simp only [V.closed, QK, V.noSl, JM, and_self, and_true, true_and]) (by simp only [V.closed, QK, V.noSl, JM, and_self, and_true, true_and]) fun C hC hm => ?_
  subst hC
  unfold yS
  repeat' (first | refine Qp fun K' hK => ?_ | refine Qt fun K' hK => ?_ | refine Qq ?_ | refine Qr ?_ | refine Ql ?_ | ((first | refine Qs ⟨_, rfl, fun hc => ?_, fun hc => ?_⟩ | refine QQ (fun hc => ?_) (fun hc => ?_) | refine QR (fun hc => ?_) (fun hc => ?_)) <;> first | exact Bool.noConfusion hc | ((try simp only [znz] at hc); first | exact znf | skip)) | refine Qv ?_ | refine Qu ?_ | simp (maxSteps := 1000000) only [go_sem, Nat.reduceAdd, Nat.reduceMul, Nat.reduceEqDiff, Nat.reduceLeDiff, Nat.reduceLT, Nat.reduceSub, Int.reduceEq, Int.reduceBEq, Int.reduceLT, Int.reduceLE, Int.reduceAdd, Int.reduceToNat, reduceIte, reduceCtorEq] | (refine hK _ ?_; clear hK; clear K') | refine And.intro ?_ ?_ | exact zlo | omega | exact zms)
  refine Ja _ rfl ?_; simp only [go_sem, Nat.reduceEqDiff, Nat.reduceAdd, reduceIte, reduceCtorEq]
def jb : AC := QI [0, 1, 6, 7, 10, 11, 12, 13, 16] (.reg [xo 10 (.box true 2 (.t 2)), xo 11 (.box true 2 (.t 3)), xo 12 (.box true 2 (.t 4)), xo 13 (.box true 2 (.t 5)), xo 16 (.alloc [.val (.int .i64 0), .val (.string ⟨#[]⟩), .val (.int .i64 0), .val (.int .i64 0), .val (.int .i64 0), .val (.int .i64 0), .val (.int .i64 0), .val (.int .i64 0), .val (.int .i64 0), .val (.int .i64 0), .val (.int .i64 0), .val (.int .i64 0)])]) (QI [16] (.reg [mv 17 0, mv 18 1, xo 19 (.load true 2 (.t 10)), xo 20 (.load true 2 (.t 11)), xo 21 (.load true 2 (.t 12)), xo 22 (.load true 2 (.t 13)), mv 23 6, mv 24 7, xo 25 (.build [(.int .i64 0), (.string ⟨#[]⟩), (.int .i64 0), (.int .i64 0), (.int .i64 0), (.int .i64 0), (.int .i64 0), (.int .i64 0), (.int .i64 0), (.int .i64 0), (.int .i64 0), (.int .i64 0)] [(0, 1, (.t 17)), (1, 1, (.t 18)), (2, 2, (.t 19)), (4, 2, (.t 20)), (6, 2, (.t 21)), (8, 2, (.t 22)), (10, 1, (.t 23)), (11, 1, (.t 24))]), xs 12 16 25]) (.ret)) def r_ref02_suite : List XG := [.cell 16 true 12]
def qn (Γ : Env) (f : Nat) : Prop := ∀ (c : Int) (n : List UInt8) (a1 a2 b1 b2 c1 c2 d1 d2 lo up : Int), EvN Γ f [V.int c, V.str n, .agg [V.int a1, V.int a2], .agg [V.int b1, V.int b2], .agg [V.int c1, V.int c2], .agg [V.int d1, V.int d2], V.int lo, V.int up] (.agg [V.int c, V.str n, V.int a1, V.int a2, V.int b1, V.int b2, V.int c1, V.int c2, V.int d1, V.int d2, V.int lo, V.int up])
theorem aax {Γ : Env} {f : Nat} (h : Has Γ.P f 26 jb r_ref02_suite)  : qn Γ f := by
  intro c n a1 a2 b1 b2 c1 c2 d1 d2 lo up
  refine Jc h (by simp) (by simp only [V.closed, QK, V.noSl, JM, and_self, and_true, true_and]) (by simp only [V.closed, QK, V.noSl, JM, and_self, and_true, true_and]) fun C hC hm => ?_
  subst hC
  unfold jb
  repeat' (first | refine Qp fun K' hK => ?_ | refine Qt fun K' hK => ?_ | refine Qq ?_ | refine Qr ?_ | refine Ql ?_ | ((first | refine Qs ⟨_, rfl, fun hc => ?_, fun hc => ?_⟩ | refine QQ (fun hc => ?_) (fun hc => ?_) | refine QR (fun hc => ?_) (fun hc => ?_)) <;> first | exact Bool.noConfusion hc | ((try simp only [znz] at hc); first | exact znf | skip)) | refine Qv ?_ | refine Qu ?_ | simp (maxSteps := 1000000) only [go_sem, Nat.reduceAdd, Nat.reduceMul, Nat.reduceEqDiff, Nat.reduceLeDiff, Nat.reduceLT, Nat.reduceSub, Int.reduceEq, Int.reduceBEq, Int.reduceLT, Int.reduceLE, Int.reduceAdd, Int.reduceToNat, reduceIte, reduceCtorEq] | (refine hK _ ?_; clear hK; clear K') | refine And.intro ?_ ?_ | exact zlo | omega | exact zms)
  refine Ja _ rfl ?_; simp only [go_sem, Nat.reduceEqDiff, Nat.reduceAdd, reduceIte, reduceCtorEq]
def UG (QS Q3 : Nat) : List AO := [xo 29 (.load true 2 (.t 1)), xo 30 (.load true 2 (.t 2)), xo 31 (.load true 2 (.t 4)), xo 32 (.load true 2 (.t 9)), xo 33 (.call QS [(.c (V.int 1)), (.c (V.str [114, 115, 97, 45, 114, 99, 52, 45, 109, 100, 53])), (.t 29), (.t 30), (.t 31), (.t 32), (.c (V.int 1)), (.c (V.int 2))]), xo 34 (.load true 2 (.t 1)), xo 35 (.load true 2 (.t 2)), xo 36 (.load true 2 (.t 4)), xo 37 (.load true 2 (.t 10)), xo 38 (.call QS [(.c (V.int 2)), (.c (V.str [114, 115, 97, 45, 114, 99, 52, 45, 115, 104, 97])), (.t 34), (.t 35), (.t 36), (.t 37), (.c (V.int 1)), (.c (V.int 3))]), xo 39 (.load true 2 (.t 1)), xo 40 (.load true 2 (.t 2)), xo 41 (.load true 2 (.t 5)), xo 42 (.load true 2 (.t 10)), xo 43 (.call QS [(.c (V.int 3)), (.c (V.str [114, 115, 97, 45, 100, 101, 115, 51, 45, 115, 104, 97])), (.t 39), (.t 40), (.t 41), (.t 42), (.c (V.int 1)), (.c (V.int 3))]), xo 44 (.call Q3 [(.c (V.int 11)), (.c (V.int 1024))]), xo 45 (.call Q3 [(.c (V.int 6)), (.c (V.int 0))]), xo 46 (.load true 2 (.t 5)), xo 47 (.load true 2 (.t 10)), xo 48 (.call QS [(.c (V.int 4)), (.c (V.str [100, 104, 101, 45, 100, 115, 97, 45, 100, 101, 115, 51, 45, 115, 104, 97])), (.t 44), (.t 45), (.t 46), (.t 47), (.c (V.int 1)), (.c (V.int 3))]), xo 49 (.call Q3 [(.c (V.int 11)), (.c (V.int 1024))]), xo 50 (.load true 2 (.t 2)), xo 51 (.load true 2 (.t 5)), xo 52 (.load true 2 (.t 10)), xo 53 (.call QS [(.c (V.int 5)), (.c (V.str [100, 104, 101, 45, 114, 115, 97, 45, 100, 101, 115, 51, 45, 115, 104, 97])), (.t 49), (.t 50), (.t 51), (.t 52), (.c (V.int 1)), (.c (V.int 3))]), xo 54 (.load true 2 (.t 1)), xo 55 (.load true 2 (.t 2)), xo 56 (.load true 2 (.t 6)), xo 57 (.load true 2 (.t 10)), xo 58 (.call QS [(.c (V.int 6)), (.c (V.str [114, 115, 97, 45, 97, 101, 115, 49, 50, 56, 45, 115, 104, 97])), (.t 54), (.t 55), (.t 56), (.t 57), (.c (V.int 1)), (.c (V.int 3))]), xo 59 (.call Q3 [(.c (V.int 11)), (.c (V.int 2048))]), xo 60 (.load true 2 (.t 2)), xo 61 (.load true 2 (.t 6)), xo 62 (.load true 2 (.t 10)), xo 63 (.call QS [(.c (V.int 7)), (.c (V.str [100, 104, 101, 45, 114, 115, 97, 45, 97, 101, 115, 49, 50, 56, 45, 115, 104, 97])), (.t 59), (.t 60), (.t 61), (.t 62), (.c (V.int 1)), (.c (V.int 3))]), xo 64 (.load true 2 (.t 13)), xo 65 (.load true 2 (.t 2)), xo 66 (.load true 2 (.t 6)), xo 67 (.load true 2 (.t 10)), xo 68 (.call QS [(.c (V.int 8)), (.c (V.str [101, 99, 100, 104, 101, 45, 114, 115, 97, 45, 97, 101, 115, 49, 50, 56, 45, 115, 104, 97])), (.t 64), (.t 65), (.t 66), (.t 67), (.c (V.int 1)), (.c (V.int 3))]), xo 69 (.load true 2 (.t 13)), xo 70 (.call Q3 [(.c (V.int 7)), (.c (V.int 0))]), xo 71 (.call Q3 [(.c (V.int 16)), (.c (V.int 256))]), xo 72 (.load true 2 (.t 11)), xo 73 (.call QS [(.c (V.int 9)), (.c (V.str [101, 99, 100, 104, 101, 45, 101, 99, 100, 115, 97, 45, 97, 101, 115, 50, 53, 54, 45, 115, 104, 97, 50, 53, 54])), (.t 69), (.t 70), (.t 71), (.t 72), (.c (V.int 3)), (.c (V.int 3))]), xo 74 (.load true 2 (.t 13)), xo 75 (.load true 2 (.t 2)), xo 76 (.load true 2 (.t 7)), xo 77 (.load true 2 (.t 12)), xo 78 (.call QS [(.c (V.int 10)), (.c (V.str [101, 99, 100, 104, 101, 45, 114, 115, 97, 45, 97, 101, 115, 49, 50, 56, 45, 103, 99, 109])), (.t 74), (.t 75), (.t 76), (.t 77), (.c (V.int 3)), (.c (V.int 3))]), xo 79 (.call Q3 [(.c (V.int 12)), (.c (V.int 384))]), xo 80 (.call Q3 [(.c (V.int 7)), (.c (V.int 0))]), xo 81 (.load true 2 (.t 8)), xo 82 (.load true 2 (.t 12)), xo 83 (.call QS [(.c (V.int 11)), (.c (V.str [101, 99, 100, 104, 101, 45, 101, 99, 100, 115, 97, 45, 97, 101, 115, 50, 53, 54, 45, 103, 99, 109])), (.t 79), (.t 80), (.t 81), (.t 82), (.c (V.int 3)), (.c (V.int 3))]), xo 84 (.load true 2 (.t 13)), xo 85 (.load true 2 (.t 2)), xo 86 (.load true 2 (.t 14)), xo 87 (.load true 2 (.t 12)), xo 88 (.call QS [(.c (V.int 12)), (.c (V.str [101, 99, 100, 104, 101, 45, 114, 115, 97, 45, 99, 104, 97, 99, 104, 97])), (.t 84), (.t 85), (.t 86), (.t 87), (.c (V.int 3)), (.c (V.int 3))]), xo 89 (.load true 2 (.t 1)), xo 90 (.load true 2 (.t 2)), xo 91 (.load true 2 (.t 8)), xo 92 (.load true 2 (.t 12)), xo 93 (.call QS [(.c (V.int 13)), (.c (V.str [114, 115, 97, 45, 97, 101, 115, 50, 53, 54, 45, 103, 99, 109])), (.t 89), (.t 90), (.t 91), (.t 92), (.c (V.int 3)), (.c (V.int 3))]), xo 94 (.load true 2 (.t 13)), xo 95 (.load true 2 (.t 3)), xo 96 (.load true 2 (.t 7)), xo 97 (.load true 2 (.t 12)), xo 98 (.call QS [(.c (V.int 14)), (.c (V.str [97, 101, 115, 49, 50, 56, 45, 103, 99, 109])), (.t 94), (.t 95), (.t 96), (.t 97), (.c (V.int 4)), (.c (V.int 4))]), xo 99 (.load true 2 (.t 13)), xo 100 (.load true 2 (.t 3)), xo 101 (.load true 2 (.t 14)), xo 102 (.load true 2 (.t 12)), xo 103 (.call QS [(.c (V.int 15)), (.c (V.str [99, 104, 97, 99, 104, 97])), (.t 99), (.t 100), (.t 101), (.t 102), (.c (V.int 4)), (.c (V.int 4))]), xo 104 (.call Q3 [(.c (V.int 13)), (.c (V.int 768))]), xo 105 (.load true 2 (.t 3)), xo 106 (.load true 2 (.t 8)), xo 107 (.load true 2 (.t 12)), xo 108 (.call QS [(.c (V.int 16)), (.c (V.str [109, 108, 107, 101, 109, 45, 97, 101, 115, 50, 53, 54, 45, 103, 99, 109])), (.t 104), (.t 105), (.t 106), (.t 107), (.c (V.int 4)), (.c (V.int 4))]), xo 109 (.bslice 16 12 true [(.int .i64 0), (.string ⟨#[]⟩), (.int .i64 0), (.int .i64 0), (.int .i64 0), (.int .i64 0), (.int .i64 0), (.int .i64 0), (.int .i64 0), (.int .i64 0), (.int .i64 0), (.int .i64 0)] [(0, (.t 33)), (1, (.t 38)), (2, (.t 43)), (3, (.t 48)), (4, (.t 53)), (5, (.t 58)), (6, (.t 63)), (7, (.t 68)), (8, (.t 73)), (9, (.t 78)), (10, (.t 83)), (11, (.t 88)), (12, (.t 93)), (13, (.t 98)), (14, (.t 103)), (15, (.t 108))]), mv 0 109]
def UP : List (List Nat) := [[], [], [], [], [0, 1, 2, 3], [], [], [], [], [5, 6, 7, 8, 4], [], [], [], [], [10, 11, 12, 13, 9], [14], [15], [], [], [15, 16, 17, 18, 16], [19], [], [], [], [20, 21, 22, 23, 20], [], [], [], [], [25, 26, 27, 28, 24], [29], [], [], [], [30, 31, 32, 33, 30], [], [], [], [], [35, 36, 37, 38, 34], [], [39], [41], [], [40, 41, 42, 43, 42], [], [], [], [], [45, 46, 47, 48, 44], [49], [50], [], [], [50, 51, 52, 53, 51], [], [], [], [], [55, 56, 57, 58, 54], [], [], [], [], [60, 61, 62, 63, 59], [], [], [], [], [65, 66, 67, 68, 64], [], [], [], [], [70, 71, 72, 73, 69], [74], [], [], [], [75, 76, 77, 78, 75], [4, 9, 14, 19, 24, 29, 34, 39, 44, 49, 54, 59, 64, 69, 74, 79], [80, 79, 0, 1, 2, 3, 4, 5, 6, 7, 8, 9, 10, 11, 12, 13, 14, 15, 16, 17, 18, 19, 20, 21, 22, 23, 24, 25, 26, 27, 28, 29, 30, 31, 32, 33, 34, 35, 36, 37, 38, 39, 40, 41, 42, 43, 44, 45, 46, 47, 48, 49, 50, 51, 52, 53, 54, 55, 56, 57, 58, 59, 60, 61, 62, 63, 64, 65, 66, 67, 68, 69, 70, 71, 72, 73, 74, 75, 76, 77, 78, 79, 80]]
def UE : OT := .one 0 (.one 1 (.one 2 (.one 3 (.one 4 (.one 5 (.one 6 (.one 7 (.one 8 (.one 9 (.one 10 (.one 11 (.one 12 (.one 13 (.one 14 (.one 17 (.one 18 (.one 21 (.one 22 (.one 23 (.one 25 (.one 26 (.one 27 (.one 28 (.one 31 (.one 32 (.one 33 (.one 35 (.one 36 (.one 37 (.one 38 (.one 40 (.one 43 (.one 45 (.one 46 (.one 47 (.one 48 (.one 52 (.one 53 (.one 55 (.one 56 (.one 57 (.one 58 (.one 60 (.one 61 (.one 62 (.one 63 (.one 65 (.one 66 (.one 67 (.one 68 (.one 70 (.one 71 (.one 72 (.one 73 (.one 76 (.one 77 (.one 78 (.or 15 (.or 16 (.one 19 (.or 20 (.one 24 (.one 29 (.or 30 (.one 34 (.one 39 (.or 41 (.or 42 (.one 44 (.one 49 (.or 50 (.or 51 (.one 54 (.one 59 (.one 64 (.one 69 (.one 74 (.or 75 (.one 79 (.one 80 (.one 81 (.done)))) (.done))))))) (.done)) (.done)))) (.done)) (.done)))) (.done)))) (.done))) (.done)) (.done)))))))))))))))))))))))))))))))))))))))))))))))))))))))))))
def UF (QS Q3 : Nat) : OP := .one 0 false [] (xo 29 (.load true 2 (.t 1))) (.one 1 false [] (xo 30 (.load true 2 (.t 2))) (.one 2 false [] (xo 31 (.load true 2 (.t 4))) (.one 3 false [] (xo 32 (.load true 2 (.t 9))) (.one 4 false [] (xo 33 (.call QS [(.c (V.int 1)), (.c (V.str [114, 115, 97, 45, 114, 99, 52, 45, 109, 100, 53])), (.t 29), (.t 30), (.t 31), (.t 32), (.c (V.int 1)), (.c (V.int 2))])) (.one 5 false [] (xo 34 (.load true 2 (.t 1))) (.one 6 false [] (xo 35 (.load true 2 (.t 2))) (.one 7 false [] (xo 36 (.load true 2 (.t 4))) (.one 8 false [] (xo 37 (.load true 2 (.t 10))) (.one 9 false [] (xo 38 (.call QS [(.c (V.int 2)), (.c (V.str [114, 115, 97, 45, 114, 99, 52, 45, 115, 104, 97])), (.t 34), (.t 35), (.t 36), (.t 37), (.c (V.int 1)), (.c (V.int 3))])) (.one 10 false [] (xo 39 (.load true 2 (.t 1))) (.one 11 false [] (xo 40 (.load true 2 (.t 2))) (.one 12 false [] (xo 41 (.load true 2 (.t 5))) (.one 13 false [] (xo 42 (.load true 2 (.t 10))) (.one 14 false [] (xo 43 (.call QS [(.c (V.int 3)), (.c (V.str [114, 115, 97, 45, 100, 101, 115, 51, 45, 115, 104, 97])), (.t 39), (.t 40), (.t 41), (.t 42), (.c (V.int 1)), (.c (V.int 3))])) (.one 17 false [] (xo 46 (.load true 2 (.t 5))) (.one 18 false [] (xo 47 (.load true 2 (.t 10))) (.one 21 false [] (xo 50 (.load true 2 (.t 2))) (.one 22 false [] (xo 51 (.load true 2 (.t 5))) (.one 23 false [] (xo 52 (.load true 2 (.t 10))) (.one 25 false [] (xo 54 (.load true 2 (.t 1))) (.one 26 false [] (xo 55 (.load true 2 (.t 2))) (.one 27 false [] (xo 56 (.load true 2 (.t 6))) (.one 28 false [] (xo 57 (.load true 2 (.t 10))) (.one 31 false [] (xo 60 (.load true 2 (.t 2))) (.one 32 false [] (xo 61 (.load true 2 (.t 6))) (.one 33 false [] (xo 62 (.load true 2 (.t 10))) (.one 35 false [] (xo 64 (.load true 2 (.t 13))) (.one 36 false [] (xo 65 (.load true 2 (.t 2))) (.one 37 false [] (xo 66 (.load true 2 (.t 6))) (.one 38 false [] (xo 67 (.load true 2 (.t 10))) (.one 40 false [] (xo 69 (.load true 2 (.t 13))) (.one 43 false [] (xo 72 (.load true 2 (.t 11))) (.one 45 false [] (xo 74 (.load true 2 (.t 13))) (.one 46 false [] (xo 75 (.load true 2 (.t 2))) (.one 47 false [] (xo 76 (.load true 2 (.t 7))) (.one 48 false [] (xo 77 (.load true 2 (.t 12))) (.one 52 false [] (xo 81 (.load true 2 (.t 8))) (.one 53 false [] (xo 82 (.load true 2 (.t 12))) (.one 55 false [] (xo 84 (.load true 2 (.t 13))) (.one 56 false [] (xo 85 (.load true 2 (.t 2))) (.one 57 false [] (xo 86 (.load true 2 (.t 14))) (.one 58 false [] (xo 87 (.load true 2 (.t 12))) (.one 60 false [] (xo 89 (.load true 2 (.t 1))) (.one 61 false [] (xo 90 (.load true 2 (.t 2))) (.one 62 false [] (xo 91 (.load true 2 (.t 8))) (.one 63 false [] (xo 92 (.load true 2 (.t 12))) (.one 65 false [] (xo 94 (.load true 2 (.t 13))) (.one 66 false [] (xo 95 (.load true 2 (.t 3))) (.one 67 false [] (xo 96 (.load true 2 (.t 7))) (.one 68 false [] (xo 97 (.load true 2 (.t 12))) (.one 70 false [] (xo 99 (.load true 2 (.t 13))) (.one 71 false [] (xo 100 (.load true 2 (.t 3))) (.one 72 false [] (xo 101 (.load true 2 (.t 14))) (.one 73 false [] (xo 102 (.load true 2 (.t 12))) (.one 76 false [] (xo 105 (.load true 2 (.t 3))) (.one 77 false [] (xo 106 (.load true 2 (.t 8))) (.one 78 false [] (xo 107 (.load true 2 (.t 12))) (.or 15 false [] (xo 44 (.call Q3 [(.c (V.int 11)), (.c (V.int 1024))])) (.or 16 false [] (xo 45 (.call Q3 [(.c (V.int 6)), (.c (V.int 0))])) (.one 19 false [16, 15] (xo 48 (.call QS [(.c (V.int 4)), (.c (V.str [100, 104, 101, 45, 100, 115, 97, 45, 100, 101, 115, 51, 45, 115, 104, 97])), (.t 44), (.t 45), (.t 46), (.t 47), (.c (V.int 1)), (.c (V.int 3))])) (.or 20 false [] (xo 49 (.call Q3 [(.c (V.int 11)), (.c (V.int 1024))])) (.one 24 false [20] (xo 53 (.call QS [(.c (V.int 5)), (.c (V.str [100, 104, 101, 45, 114, 115, 97, 45, 100, 101, 115, 51, 45, 115, 104, 97])), (.t 49), (.t 50), (.t 51), (.t 52), (.c (V.int 1)), (.c (V.int 3))])) (.one 29 false [] (xo 58 (.call QS [(.c (V.int 6)), (.c (V.str [114, 115, 97, 45, 97, 101, 115, 49, 50, 56, 45, 115, 104, 97])), (.t 54), (.t 55), (.t 56), (.t 57), (.c (V.int 1)), (.c (V.int 3))])) (.or 30 false [] (xo 59 (.call Q3 [(.c (V.int 11)), (.c (V.int 2048))])) (.one 34 false [30] (xo 63 (.call QS [(.c (V.int 7)), (.c (V.str [100, 104, 101, 45, 114, 115, 97, 45, 97, 101, 115, 49, 50, 56, 45, 115, 104, 97])), (.t 59), (.t 60), (.t 61), (.t 62), (.c (V.int 1)), (.c (V.int 3))])) (.one 39 false [] (xo 68 (.call QS [(.c (V.int 8)), (.c (V.str [101, 99, 100, 104, 101, 45, 114, 115, 97, 45, 97, 101, 115, 49, 50, 56, 45, 115, 104, 97])), (.t 64), (.t 65), (.t 66), (.t 67), (.c (V.int 1)), (.c (V.int 3))])) (.or 41 false [] (xo 70 (.call Q3 [(.c (V.int 7)), (.c (V.int 0))])) (.or 42 false [] (xo 71 (.call Q3 [(.c (V.int 16)), (.c (V.int 256))])) (.one 44 false [42, 41] (xo 73 (.call QS [(.c (V.int 9)), (.c (V.str [101, 99, 100, 104, 101, 45, 101, 99, 100, 115, 97, 45, 97, 101, 115, 50, 53, 54, 45, 115, 104, 97, 50, 53, 54])), (.t 69), (.t 70), (.t 71), (.t 72), (.c (V.int 3)), (.c (V.int 3))])) (.one 49 false [] (xo 78 (.call QS [(.c (V.int 10)), (.c (V.str [101, 99, 100, 104, 101, 45, 114, 115, 97, 45, 97, 101, 115, 49, 50, 56, 45, 103, 99, 109])), (.t 74), (.t 75), (.t 76), (.t 77), (.c (V.int 3)), (.c (V.int 3))])) (.or 50 false [] (xo 79 (.call Q3 [(.c (V.int 12)), (.c (V.int 384))])) (.or 51 false [] (xo 80 (.call Q3 [(.c (V.int 7)), (.c (V.int 0))])) (.one 54 false [51, 50] (xo 83 (.call QS [(.c (V.int 11)), (.c (V.str [101, 99, 100, 104, 101, 45, 101, 99, 100, 115, 97, 45, 97, 101, 115, 50, 53, 54, 45, 103, 99, 109])), (.t 79), (.t 80), (.t 81), (.t 82), (.c (V.int 3)), (.c (V.int 3))])) (.one 59 false [] (xo 88 (.call QS [(.c (V.int 12)), (.c (V.str [101, 99, 100, 104, 101, 45, 114, 115, 97, 45, 99, 104, 97, 99, 104, 97])), (.t 84), (.t 85), (.t 86), (.t 87), (.c (V.int 3)), (.c (V.int 3))])) (.one 64 false [] (xo 93 (.call QS [(.c (V.int 13)), (.c (V.str [114, 115, 97, 45, 97, 101, 115, 50, 53, 54, 45, 103, 99, 109])), (.t 89), (.t 90), (.t 91), (.t 92), (.c (V.int 3)), (.c (V.int 3))])) (.one 69 false [] (xo 98 (.call QS [(.c (V.int 14)), (.c (V.str [97, 101, 115, 49, 50, 56, 45, 103, 99, 109])), (.t 94), (.t 95), (.t 96), (.t 97), (.c (V.int 4)), (.c (V.int 4))])) (.one 74 false [] (xo 103 (.call QS [(.c (V.int 15)), (.c (V.str [99, 104, 97, 99, 104, 97])), (.t 99), (.t 100), (.t 101), (.t 102), (.c (V.int 4)), (.c (V.int 4))])) (.or 75 false [] (xo 104 (.call Q3 [(.c (V.int 13)), (.c (V.int 768))])) (.one 79 false [75] (xo 108 (.call QS [(.c (V.int 16)), (.c (V.str [109, 108, 107, 101, 109, 45, 97, 101, 115, 50, 53, 54, 45, 103, 99, 109])), (.t 104), (.t 105), (.t 106), (.t 107), (.c (V.int 4)), (.c (V.int 4))])) (.one 80 false [79, 75, 74, 69, 64, 59, 54, 51, 50, 49, 44, 42, 41, 39, 34, 30, 29, 24, 20, 19, 16, 15, 14, 9, 4] (xo 109 (.bslice 16 12 true [(.int .i64 0), (.string ⟨#[]⟩), (.int .i64 0), (.int .i64 0), (.int .i64 0), (.int .i64 0), (.int .i64 0), (.int .i64 0), (.int .i64 0), (.int .i64 0), (.int .i64 0), (.int .i64 0)] [(0, (.t 33)), (1, (.t 38)), (2, (.t 43)), (3, (.t 48)), (4, (.t 53)), (5, (.t 58)), (6, (.t 63)), (7, (.t 68)), (8, (.t 73)), (9, (.t 78)), (10, (.t 83)), (11, (.t 88)), (12, (.t 93)), (13, (.t 98)), (14, (.t 103)), (15, (.t 108))])) (.one 81 false [80, 79, 75, 74, 69, 64, 59, 54, 51, 50, 49, 44, 42, 41, 39, 34, 30, 29, 24, 20, 19, 16, 15, 14, 9, 4] (mv 0 109) (.done)))) (.done))))))) (.done)) (.done)))) (.done)) (.done)))) (.done)))) (.done))) (.done)) (.done)))))))))))))))))))))))))))))))))))))))))))))))))))))))))))
theorem jv (QS Q3 : Nat) : okR (UG QS Q3) UP [] UE = true := by kernel_rfl
theorem ju (QS Q3 : Nat) : WO (ris (UG QS Q3) UP []) UE = UF QS Q3 := by kernel_rfl def c_ref02_Suites (Q3 QS : Nat) : AC := QI [] (.reg [xo 0 (.mknil 12)]) (QI [1, 2, 3] (.reg [xo 15 (.call Q3 [(.c (V.int 10)), (.c (V.int 0))]), xo 16 (.call Q3 [(.c (V.int 5)), (.c (V.int 0))]), xo 17 (.build [(.int .i64 0), (.int .i64 0)] []), xo 1 (.alloc [.val (.int .i64 0), .val (.int .i64 0)]), xo 2 (.alloc [.val (.int .i64 0), .val (.int .i64 0)]), xo 3 (.alloc [.val (.int .i64 0), .val (.int .i64 0)]), xs 2 1 15, xs 2 2 16, xs 2 3 17]) (QI [1, 2, 3, 4, 5] (.reg [xo 18 (.call Q3 [(.c (V.int 14)), (.c (V.int 128))]), xo 19 (.call Q3 [(.c (V.int 15)), (.c (V.int 168))]), xo 4 (.alloc [.val (.int .i64 0), .val (.int .i64 0)]), xo 5 (.alloc [.val (.int .i64 0), .val (.int .i64 0)]), xs 2 4 18, xs 2 5 19]) (QI [1, 2, 3, 4, 5, 6, 7, 8] (.reg [xo 20 (.call Q3 [(.c (V.int 16)), (.c (V.int 128))]), xo 21 (.call Q3 [(.c (V.int 17)), (.c (V.int 128))]), xo 22 (.call Q3 [(.c (V.int 17)), (.c (V.int 256))]), xo 6 (.alloc [.val (.int .i64 0), .val (.int .i64 0)]), xo 7 (.alloc [.val (.int .i64 0), .val (.int .i64 0)]), xo 8 (.alloc [.val (.int .i64 0), .val (.int .i64 0)]), xs 2 6 20, xs 2 7 21, xs 2 8 22]) (QI [1, 2, 3, 4, 5, 6, 7, 8, 9, 10, 11, 12] (.reg [xo 23 (.call Q3 [(.c (V.int 19)), (.c (V.int 0))]), xo 24 (.call Q3 [(.c (V.int 20)), (.c (V.int 0))]), xo 25 (.call Q3 [(.c (V.int 21)), (.c (V.int 0))]), xo 26 (.call Q3 [(.c (V.int 22)), (.c (V.int 0))]), xo 9 (.alloc [.val (.int .i64 0), .val (.int .i64 0)]), xo 10 (.alloc [.val (.int .i64 0), .val (.int .i64 0)]), xo 11 (.alloc [.val (.int .i64 0), .val (.int .i64 0)]), xo 12 (.alloc [.val (.int .i64 0), .val (.int .i64 0)]), xs 2 9 23, xs 2 10 24, xs 2 11 25, xs 2 12 26]) (QI [1, 2, 3, 4, 5, 6, 7, 8, 9, 10, 11, 12, 13, 14] (.reg [xo 27 (.call Q3 [(.c (V.int 12)), (.c (V.int 256))]), xo 28 (.call Q3 [(.c (V.int 18)), (.c (V.int 0))]), xo 13 (.alloc [.val (.int .i64 0), .val (.int .i64 0)]), xo 14 (.alloc [.val (.int .i64 0), .val (.int .i64 0)]), xs 2 13 27, xs 2 14 28]) (QI [0] (aaf [] UE (UF QS Q3) (UG QS Q3) UP) (.ret))))))) def r_ref02_Suites : List XG := [.tmp 0]
def WU (Γ : Env) (f : Nat) : Prop := EvC Γ f [] (.sl 12 (Jg.map QV.v))
theorem vP {Γ : Env} {f Q3 QS : Nat} (h : Has Γ.P f 110 (c_ref02_Suites Q3 QS) r_ref02_Suites) (adn : j9 Γ Q3) (abB : qn Γ QS) : WU Γ f := by
  refine Wy h (by simp) (by simp only [V.closed]) fun C hC hm => ?_
  subst hC
  unfold c_ref02_Suites
  repeat' (first | refine Qp fun K' hK => ?_ | refine Qt fun K' hK => ?_ | refine Qn 82 (fun _ => true) rfl (jv _ _) (ju _ _) fun K' hK => ?_ | refine Qo 82 (fun _ => true) rfl (jv _ _) (ju _ _) fun K' hK => ?_ | refine Qq ?_ | refine Qr ?_ | refine Ql ?_ | ((first | refine Qs ⟨_, rfl, fun hc => ?_, fun hc => ?_⟩ | refine QQ (fun hc => ?_) (fun hc => ?_) | refine QR (fun hc => ?_) (fun hc => ?_)) <;> first | exact Bool.noConfusion hc | ((try simp only [znz] at hc); first | exact znf | skip)) | refine Qv ?_ | refine Qu ?_ | simp (maxSteps := 1000000) only [go_sem, Nat.reduceAdd, Nat.reduceMul, Nat.reduceEqDiff, Nat.reduceLeDiff, Nat.reduceLT, Nat.reduceSub, Int.reduceEq, Int.reduceBEq, Int.reduceLT, Int.reduceLE, Int.reduceAdd, Int.reduceToNat, reduceIte, reduceCtorEq, UF] | (refine hK _ ?_; clear hK; clear K') | refine And.intro ?_ ?_ | ((first | apply QT | apply Jl); (focus first | exact (adn _ _).b | exact (abB _ _ _ _ _ _ _ _ _ _ _ _).b)) | exact zlo | omega | exact zms)
  refine Ja _ rfl ?_; simp only [go_sem, Nat.reduceEqDiff, Nat.reduceAdd, reduceIte, reduceCtorEq]
  rfl
def jd (JP : Nat) : AC := QI [0, 2] (.reg [xo 2 (.alloc [.val (.int .i64 0), .val (.string ⟨#[]⟩), .val (.int .i64 0), .val (.int .i64 0), .val (.int .i64 0), .val (.int .i64 0), .val (.int .i64 0), .val (.int .i64 0), .val (.int .i64 0), .val (.int .i64 0), .val (.int .i64 0), .val (.int .i64 0)]), mc 3 (V.int 0)]) (QI [0, 2] (QI [0, 2, 9] (.reg [mv 4 0, bc 5 .lss 4 (V.int 1), mv 6 5, mg 7 0 6 false, xg 8 (.bin .gtr (.t 7) (.c (V.int 16))) 6 false, xo 9 (.pick (.t 6) (.c (V.bool true)) (.t 8))]) (.cond (.t 9) (QI [2, 3] (.reg [xo 10 (.build [(.int .i64 0), (.string ⟨#[]⟩), (.int .i64 0), (.int .i64 0), (.int .i64 0), (.int .i64 0), (.int .i64 0), (.int .i64 0), (.int .i64 0), (.int .i64 0), (.int .i64 0), (.int .i64 0)] []), xs 12 2 10, mc 3 (V.int 8)]) (.ret)) (.skip))) (QI [2, 3] (.reg [cl 11 JP [], mv 12 0, bc 13 .sub 12 (V.int 1), ia 14 12 11 13, xo 15 (.load true 12 (.t 14)), xs 12 2 15, mc 3 (V.int 0)]) (.ret))) def r_ref02_Suite : List XG := [.cell 2 true 12, .tmp 3]
def Uw (Γ : Env) (f : Nat) : Prop := ∀ (c : Int), EvN Γ f [V.int c] (Wi c)
theorem aaz {Γ : Env} {f JP : Nat} (h : Has Γ.P f 16 (jd JP) r_ref02_Suite) (Jp : WU Γ JP) : Uw Γ f := by
  intro c
  refine Jc h (by simp) (by first | exact U4 c | exact qE c) (by first | exact U4 c | exact qE c) fun C hC hm => ?_
  subst hC
  unfold jd
  have hl := XL
  by_cases h : 1 ≤ c ∧ c ≤ 16
  · have hg := ve h
    have hw : IntKind.i64.wrap (c - 1) = c - 1 := JY (by omega) (by omega)
    have e1 : decide (c < 1) = false := by simp; omega
    have e2 : decide (c > 16) = false := by simp; omega
    repeat' (first | refine Qp fun K' hK => ?_ | refine Qt fun K' hK => ?_ | refine Qq ?_ | refine Qr ?_ | refine Ql ?_ | ((first | refine Qs ⟨_, rfl, fun hc => ?_, fun hc => ?_⟩ | refine QQ (fun hc => ?_) (fun hc => ?_) | refine QR (fun hc => ?_) (fun hc => ?_)) <;> first | exact Bool.noConfusion hc | ((try simp only [znz] at hc); first | exact znf | skip)) | refine Qv ?_ | refine Qu ?_ | simp (maxSteps := 1000000) only [go_sem, Nat.reduceAdd, Nat.reduceMul, Nat.reduceEqDiff, Nat.reduceLeDiff, Nat.reduceLT, Nat.reduceSub, Int.reduceEq, Int.reduceBEq, Int.reduceLT, Int.reduceLE, Int.reduceAdd, Int.reduceToNat, reduceIte, reduceCtorEq, hg, hw, e1, e2, QV.v, QV.cells] | (refine hK _ ?_; clear hK; clear K') | refine And.intro ?_ ?_ | (apply QT; (focus first | exact EvC.b Jp)) | exact zlo | omega | exact zms)
    all_goals (simp only [Wi, if_pos h, QV.v, QV.cells]; refine Ja _ rfl ?_; simp only [go_sem, Nat.reduceEqDiff, Nat.reduceAdd, reduceIte, reduceCtorEq])
  · have h0 := vd h
    by_cases h1 : c < 1
    · have e1 : decide (c < 1) = true := by simp; omega
      repeat' (first | refine Qp fun K' hK => ?_ | refine Qt fun K' hK => ?_ | refine Qq ?_ | refine Qr ?_ | refine Ql ?_ | ((first | refine Qs ⟨_, rfl, fun hc => ?_, fun hc => ?_⟩ | refine QQ (fun hc => ?_) (fun hc => ?_) | refine QR (fun hc => ?_) (fun hc => ?_)) <;> first | exact Bool.noConfusion hc | ((try simp only [znz] at hc); first | exact znf | skip)) | refine Qv ?_ | refine Qu ?_ | simp (maxSteps := 1000000) only [go_sem, Nat.reduceAdd, Nat.reduceMul, Nat.reduceEqDiff, Nat.reduceLeDiff, Nat.reduceLT, Nat.reduceSub, Int.reduceEq, Int.reduceBEq, Int.reduceLT, Int.reduceLE, Int.reduceAdd, Int.reduceToNat, reduceIte, reduceCtorEq, e1] | (refine hK _ ?_; clear hK; clear K') | refine And.intro ?_ ?_ | (apply QT; (focus first | exact EvC.b Jp)) | exact zlo | omega | exact zms)
      all_goals (simp only [Wi, if_neg h, h0, wv, QV.v, QV.cells]; refine Ja _ rfl ?_; simp only [go_sem, Nat.reduceEqDiff, Nat.reduceAdd, reduceIte, reduceCtorEq])
    · have e1 : decide (c < 1) = false := by simp; omega
      have e2 : decide (c > 16) = true := by simp; omega
      repeat' (first | refine Qp fun K' hK => ?_ | refine Qt fun K' hK => ?_ | refine Qq ?_ | refine Qr ?_ | refine Ql ?_ | ((first | refine Qs ⟨_, rfl, fun hc => ?_, fun hc => ?_⟩ | refine QQ (fun hc => ?_) (fun hc => ?_) | refine QR (fun hc => ?_) (fun hc => ?_)) <;> first | exact Bool.noConfusion hc | ((try simp only [znz] at hc); first | exact znf | skip)) | refine Qv ?_ | refine Qu ?_ | simp (maxSteps := 1000000) only [go_sem, Nat.reduceAdd, Nat.reduceMul, Nat.reduceEqDiff, Nat.reduceLeDiff, Nat.reduceLT, Nat.reduceSub, Int.reduceEq, Int.reduceBEq, Int.reduceLT, Int.reduceLE, Int.reduceAdd, Int.reduceToNat, reduceIte, reduceCtorEq, e1, e2] | (refine hK _ ?_; clear hK; clear K') | refine And.intro ?_ ?_ | (apply QT; (focus first | exact EvC.b Jp)) | exact zlo | omega | exact zms)
      all_goals (simp only [Wi, if_neg h, h0, wv, QV.v, QV.cells]; refine Ja _ rfl ?_; simp only [go_sem, Nat.reduceEqDiff, Nat.reduceAdd, reduceIte, reduceCtorEq])
end Av
end
section
set_option linter.unusedSimpArgs false
set_option linter.unusedVariables false
set_option maxRecDepth 10000
set_option maxHeartbeats 4000000
namespace Av
open Go
attribute [local irreducible] AWp W8 V7 V8 awS awC KI awQ KY Ji XK KE awR XZ awB okR WO ris
def vA {α : Type} (p : α → Bool) : Nat → List α → Int
  | _, [] => -1
  | k, x :: r => if p x = true then k else vA p (k + 1) r
theorem aa5 {α : Type} (p : α → Bool) : ∀ (l : List α) (k : Nat), -1 ≤ vA p k l ∧ vA p k l ≤ ((k + l.length : Nat) : Int)
  | [], k => by simp [vA] <;> omega
  | x :: r, k => by
    have := aa5 p r (k + 1)
    simp only [vA, List.length_cons]
    split <;> omega
def J4 : AC := QI [0, 1] (.reg [mc 4 (V.int 0)]) (QI [] (QI [0, 1, 7, 8] (.reg [mv 6 0, ln 7 6, mc 8 (V.int 0)]) (.block 0 (X2 [0, 1, 7, 8] (QI [0, 1, 7, 8, 9] (.reg [bn 9 .lss 8 7]) (QI [0, 1, 7, 8] (.cond (.t 9) (.skip) (.exit 0)) (QI [0, 1, 7, 8] (.block 1 (QI [0, 1, 5, 7, 8] (.reg [mv 10 8, mv 5 10]) (QI [0, 1, 5, 7, 8, 16] (.reg [mv 11 1, mv 12 0, mv 13 5, ia 14 12 12 13, xo 15 (.load true 12 (.t 14)), xo 16 (.callv (.t 11) [(.t 15)])]) (.cond (.t 16) (QI [4] (.reg [mv 17 5, mv 4 17]) (.ret)) (.skip))))) (.reg [bc 18 .add 8 (V.int 1), mv 8 18]))))))) (QI [4] (.reg [mc 4 (V.int (-1))]) (.ret))) def r_slices_IndexFunc___api_Suite_api_Suite : List XG := [.tmp 4]
def JZ (Γ : Env) (f : Nat) : Prop := ∀ (xs : List QV) (g : Nat) (cap : List V) (p : QV → Bool) (hp : ∀ x ∈ xs, EvN Γ g (x.v :: cap) (V.bool (p x))) (hcap : QK cap) (hl : xs.length < 2 ^ 62), EvN Γ f [.sl 12 (xs.map QV.v), .clo g cap] (V.int (vA p 0 xs))
theorem WJ {Γ : Env} {f : Nat} (h : Has Γ.P f 19 J4 r_slices_IndexFunc___api_Suite_api_Suite)  : JZ Γ f := by
  intro xs g cap p hp hcap hl
  refine Jc h (by simp) (by simp only [V.closed, QK, V.noSl, JM, and_self, and_true, true_and]) (by simp only [V.closed, QK, V.noSl, JM, and_self, and_true, true_and]) fun C hC hm => ?_
  subst hC
  unfold J4
  have s1 : ∀ o, X6 o cap = cap := fun o => UC o cap hcap
  have s2 : ∀ o B, JK o B cap = True := fun o B => eq_true (Vj o B cap hcap)
  repeat' (first | refine Qp fun K' hK => ?_ | refine Qt fun K' hK => ?_ | refine Qq ?_ | refine Qr ?_ | refine Ql ?_ | ((first | refine Qs ⟨_, rfl, fun hc => ?_, fun hc => ?_⟩ | refine QQ (fun hc => ?_) (fun hc => ?_) | refine QR (fun hc => ?_) (fun hc => ?_)) <;> first | exact Bool.noConfusion hc | ((try simp only [znz] at hc); first | exact znf | skip)) | refine Qv ?_ | refine Qu ?_ | simp (maxSteps := 1000000) only [go_sem, Nat.reduceAdd, Nat.reduceMul, Nat.reduceEqDiff, Nat.reduceLeDiff, Nat.reduceLT, Nat.reduceSub, Int.reduceEq, Int.reduceBEq, Int.reduceLT, Int.reduceLE, Int.reduceAdd, Int.reduceToNat, reduceIte, reduceCtorEq] | (refine hK _ ?_; clear hK; clear K') | refine And.intro ?_ ?_ | exact zlo | omega | exact zms)
  refine Xb (ι := Nat) (fun k => k ≤ xs.length ∧ vA p k (xs.drop k) = vA p 0 xs) (fun k => [(8, V.int k)]) (fun k => xs.length - k) 0 (by omega) ⟨by simp, by simp⟩ (by repeat' first | exact XR | refine WR (by omega) (by simp only [Ob.lt, ltL, V.lt, and_self, and_true]; try omega) ?_) (fun i hi => by simp only [ovT, JV, Nat.reduceEqDiff, reduceIte]; (repeat' first | exact WQ | refine XQ ?_ ?_ | simp only [V.lt, ltL, and_self, and_true] | omega); exact Ki _ _ hcap) (by simp only [Nat.reduceAdd, ovT, JV, Nat.reduceEqDiff, reduceIte, Jr, JQ, qv, u32, u33, u34, u35, u36, u37, u38, u39, and_self, and_true, true_and]; first | rfl | exact Qk _ _ hcap) fun k hk K' hL => ?_
  obtain ⟨hk, hinv⟩ := hk
  simp only [ovT, JV, Nat.reduceEqDiff, reduceIte]
  rcases hd : xs.drop k with _ | ⟨y, r⟩
  · have := YL hd
    rw [hd] at hinv
    repeat' (first | refine Qp fun K' hK => ?_ | refine Qt fun K' hK => ?_ | refine Qq ?_ | refine Qr ?_ | refine Ql ?_ | ((first | refine Qs ⟨_, rfl, fun hc => ?_, fun hc => ?_⟩ | refine QQ (fun hc => ?_) (fun hc => ?_) | refine QR (fun hc => ?_) (fun hc => ?_)) <;> first | exact Bool.noConfusion hc | ((try simp only [znz] at hc); first | exact znf | skip)) | refine Qv ?_ | refine Qu ?_ | simp (maxSteps := 1000000) only [go_sem, Nat.reduceAdd, Nat.reduceMul, Nat.reduceEqDiff, Nat.reduceLeDiff, Nat.reduceLT, Nat.reduceSub, Int.reduceEq, Int.reduceBEq, Int.reduceLT, Int.reduceLE, Int.reduceAdd, Int.reduceToNat, reduceIte, reduceCtorEq] | (refine hK _ ?_; clear hK; clear K') | refine And.intro ?_ ?_ | exact zlo | omega | exact zms)
    refine Ja _ rfl ?_
    simp only [go_sem, Nat.reduceEqDiff, Nat.reduceAdd, reduceIte, reduceCtorEq]
    rw [← hinv]; rfl
  · obtain ⟨hk, hget, hr⟩ := Yf hd
    rw [hd] at hinv
    have hw := JD (k := k) (by omega)
    have hpy := hp y (List.mem_of_getElem? hget)
    by_cases hy : p y = true
    · rw [hy] at hpy
      repeat' (first | refine Qp fun K' hK => ?_ | refine Qt fun K' hK => ?_ | refine Qq ?_ | refine Qr ?_ | refine Ql ?_ | ((first | refine Qs ⟨_, rfl, fun hc => ?_, fun hc => ?_⟩ | refine QQ (fun hc => ?_) (fun hc => ?_) | refine QR (fun hc => ?_) (fun hc => ?_)) <;> first | exact Bool.noConfusion hc | ((try simp only [znz] at hc); first | exact znf | skip)) | refine Qv ?_ | refine Qu ?_ | simp (maxSteps := 1000000) only [go_sem, Nat.reduceAdd, Nat.reduceMul, Nat.reduceEqDiff, Nat.reduceLeDiff, Nat.reduceLT, Nat.reduceSub, Int.reduceEq, Int.reduceBEq, Int.reduceLT, Int.reduceLE, Int.reduceAdd, Int.reduceToNat, reduceIte, reduceCtorEq, Int.toNat_natCast, List.getElem?_map, hget, hw, QV.v, QV.cells, s1, s2] | (refine hK _ ?_; clear hK; clear K') | refine And.intro ?_ ?_ | (apply QT; (focus first | exact hpy.b)) | exact zlo | omega | exact zms)
      refine Ja _ rfl ?_; simp only [go_sem, Nat.reduceEqDiff, Nat.reduceAdd, reduceIte, reduceCtorEq]
      rw [← hinv]; simp [vA, hy]
    · have hy' : p y = false := by simpa using hy
      rw [hy'] at hpy
      repeat' (first | refine Qp fun K' hK => ?_ | refine Qt fun K' hK => ?_ | refine Qq ?_ | refine Qr ?_ | refine Ql ?_ | ((first | refine Qs ⟨_, rfl, fun hc => ?_, fun hc => ?_⟩ | refine QQ (fun hc => ?_) (fun hc => ?_) | refine QR (fun hc => ?_) (fun hc => ?_)) <;> first | exact Bool.noConfusion hc | ((try simp only [znz] at hc); first | exact znf | skip)) | refine Qv ?_ | refine Qu ?_ | simp (maxSteps := 1000000) only [go_sem, Nat.reduceAdd, Nat.reduceMul, Nat.reduceEqDiff, Nat.reduceLeDiff, Nat.reduceLT, Nat.reduceSub, Int.reduceEq, Int.reduceBEq, Int.reduceLT, Int.reduceLE, Int.reduceAdd, Int.reduceToNat, reduceIte, reduceCtorEq, Int.toNat_natCast, List.getElem?_map, hget, hw, QV.v, QV.cells, s1, s2] | (refine hK _ ?_; clear hK; clear K') | refine And.intro ?_ ?_ | (apply QT; (focus first | exact hpy.b)) | exact zlo | omega | exact zms)
      refine hL _ (k + 1) (by simp only [Nat.reduceAdd, ovT, JV, Nat.reduceEqDiff, reduceIte, Jr, JQ, qv, u32, u33, u34, u35, u36, u37, u38, u39, and_self, and_true, true_and]) ⟨by omega, ?_⟩ (by omega) (fun a ha => by simp only [u32, u33, u34, u35, u36, u37, u38, u39]; repeat rw [if_neg (by omega)])
      rw [hr, ← hinv, vA, if_neg hy]
def UO : AC := QI [1, 2] (.reg [xo 2 (.box true 12 (.t 0)), mc 3 (V.bool false)]) (QI [3] (.reg [fa 4 1 2, ld 5 1 4, ld 6 1 1, bn 7 .eql 5 6, mv 3 7]) (.ret)) def r_catalog_Code_1 : List XG := [.tmp 3]
def Us (Γ : Env) (f : Nat) : Prop := ∀ (s : QV) (n : List UInt8), EvN Γ f [s.v, .ro [V.str n] 0] (V.bool (s.name == n))
theorem wc {Γ : Env} {f : Nat} (h : Has Γ.P f 8 UO r_catalog_Code_1)  : Us Γ f := by
  intro s n
  refine Jc h (by simp) (by simp only [V.closed, QK, V.noSl, JM, and_self, and_true, true_and]) (by simp only [V.closed, QK, V.noSl, JM, and_self, and_true, true_and]) fun C hC hm => ?_
  subst hC
  unfold UO
  repeat' (first | refine Qp fun K' hK => ?_ | refine Qt fun K' hK => ?_ | refine Qq ?_ | refine Qr ?_ | refine Ql ?_ | ((first | refine Qs ⟨_, rfl, fun hc => ?_, fun hc => ?_⟩ | refine QQ (fun hc => ?_) (fun hc => ?_) | refine QR (fun hc => ?_) (fun hc => ?_)) <;> first | exact Bool.noConfusion hc | ((try simp only [znz] at hc); first | exact znf | skip)) | refine Qv ?_ | refine Qu ?_ | simp (maxSteps := 1000000) only [go_sem, Nat.reduceAdd, Nat.reduceMul, Nat.reduceEqDiff, Nat.reduceLeDiff, Nat.reduceLT, Nat.reduceSub, Int.reduceEq, Int.reduceBEq, Int.reduceLT, Int.reduceLE, Int.reduceAdd, Int.reduceToNat, reduceIte, reduceCtorEq, QV.v, QV.cells] | (refine hK _ ?_; clear hK; clear K') | refine And.intro ?_ ?_ | exact zlo | omega | exact zms)
  refine Ja _ rfl ?_; simp only [go_sem, Nat.reduceEqDiff, Nat.reduceAdd, reduceIte, reduceCtorEq]
def qb (n : List UInt8) : Int := vA (fun s : QV => s.name == n) 0 Jg + 1
def qf (JC WH JH : Nat) : AC := QI [1] (.reg [xo 1 (.box false 1 (.t 0)), mc 2 (V.int 0)]) (QI [2] (.reg [cl 3 JC [], xo 4 (.mkfn WH [(.t 1)]), cl 5 JH [3, 4], bc 6 .add 5 (V.int 1), mv 2 6]) (.ret)) def r_catalog_Code : List XG := [.tmp 2]
def KD (Γ : Env) (f : Nat) : Prop := ∀ (n : List UInt8), EvN Γ f [V.str n] (V.int (qb n))
theorem vS {Γ : Env} {f JC WH JH : Nat} (h : Has Γ.P f 7 (qf JC WH JH) r_catalog_Code) (JA : Wg Γ JC) (jx : Us Γ WH) (YQ : JZ Γ JH) : KD Γ f := by
  intro n
  refine Jc h (by simp) (by simp only [V.closed, QK, V.noSl, JM, and_self, and_true, true_and]) (by simp only [V.closed, QK, V.noSl, JM, and_self, and_true, true_and]) fun C hC hm => ?_
  subst hC
  unfold qf
  have hi := YQ Jg WH [.ro [V.str n] 0] (fun s => s.name == n) (fun x _ => jx x n) (by simp [QK, V.closed]) (by rw [XL]; omega)
  have hr := aa5 (fun s : QV => s.name == n) Jg 0
  have hw : IntKind.i64.wrap (vA (fun s : QV => s.name == n) 0 Jg + 1) = qb n := JY (by omega) (by have := XL; omega)
  repeat' (first | refine Qp fun K' hK => ?_ | refine Qt fun K' hK => ?_ | refine Qq ?_ | refine Qr ?_ | refine Ql ?_ | ((first | refine Qs ⟨_, rfl, fun hc => ?_, fun hc => ?_⟩ | refine QQ (fun hc => ?_) (fun hc => ?_) | refine QR (fun hc => ?_) (fun hc => ?_)) <;> first | exact Bool.noConfusion hc | ((try simp only [znz] at hc); first | exact znf | skip)) | refine Qv ?_ | refine Qu ?_ | simp (maxSteps := 1000000) only [go_sem, Nat.reduceAdd, Nat.reduceMul, Nat.reduceEqDiff, Nat.reduceLeDiff, Nat.reduceLT, Nat.reduceSub, Int.reduceEq, Int.reduceBEq, Int.reduceLT, Int.reduceLE, Int.reduceAdd, Int.reduceToNat, reduceIte, reduceCtorEq, hw] | (refine hK _ ?_; clear hK; clear K') | refine And.intro ?_ ?_ | (apply QT; (focus first | exact hi.b | exact EvC.b JA | exact (jx _ _).b | exact (YQ _ _ _ _ zsd zsd zsd).b)) | exact zlo | omega | exact zms)
  refine Ja _ rfl ?_; simp only [go_sem, Nat.reduceEqDiff, Nat.reduceAdd, reduceIte, reduceCtorEq]
theorem abK : ∀ k, k < 16 → ∀ s, Jg[k]? = some s → s.code = ((k + 1 : Nat) : Int) := by decide
def jZ (JP : Nat) : AC := QI [0] (.reg [mc 2 (V.int 0)]) (QI [0, 3] (.reg [cl 5 JP [], mv 3 5]) (QI [] (QI [0, 3, 4] (.reg [mc 4 (V.int 0)]) (.block 0 (X2 [0, 3, 4] (QI [0, 3, 4] (QI [0, 3, 4, 9] (.reg [mv 6 4, mv 7 3, ln 8 7, bn 9 .lss 6 8]) (.cond (.t 9) (.skip) (.exit 0))) (QI [0, 3, 4] (.block 1 (QI [0, 3, 4, 18] (.reg [mv 12 3, mv 13 4, ia 14 12 12 13, fa 15 1 14, ld 16 1 15, mv 17 0, bn 18 .eql 16 17]) (.cond (.t 18) (QI [2] (.reg [mv 19 3, mv 20 4, ia 21 12 19 20, fa 22 0 21, ld 23 1 22, mv 2 23]) (.ret)) (.skip)))) (.reg [mv 10 4, bc 11 .add 10 (V.int 1), mv 4 11])))))) (QI [2] (.reg [mc 2 (V.int 0)]) (.ret)))) def r_ref02_Code : List XG := [.tmp 2]
def jo (Γ : Env) (f : Nat) : Prop := ∀ (n : List UInt8), EvN Γ f [V.str n] (V.int (qb n))
theorem abH {Γ : Env} {f JP : Nat} (h : Has Γ.P f 24 (jZ JP) r_ref02_Code) (Jp : WU Γ JP) : jo Γ f := by
  intro n
  refine Jc h (by simp) (by simp only [V.closed, QK, V.noSl, JM, and_self, and_true, true_and]) (by simp only [V.closed, QK, V.noSl, JM, and_self, and_true, true_and]) fun C hC hm => ?_
  subst hC
  unfold jZ
  have hl := XL
  repeat' (first | refine Qp fun K' hK => ?_ | refine Qt fun K' hK => ?_ | refine Qq ?_ | refine Qr ?_ | refine Ql ?_ | ((first | refine Qs ⟨_, rfl, fun hc => ?_, fun hc => ?_⟩ | refine QQ (fun hc => ?_) (fun hc => ?_) | refine QR (fun hc => ?_) (fun hc => ?_)) <;> first | exact Bool.noConfusion hc | ((try simp only [znz] at hc); first | exact znf | skip)) | refine Qv ?_ | refine Qu ?_ | simp (maxSteps := 1000000) only [go_sem, Nat.reduceAdd, Nat.reduceMul, Nat.reduceEqDiff, Nat.reduceLeDiff, Nat.reduceLT, Nat.reduceSub, Int.reduceEq, Int.reduceBEq, Int.reduceLT, Int.reduceLE, Int.reduceAdd, Int.reduceToNat, reduceIte, reduceCtorEq] | (refine hK _ ?_; clear hK; clear K') | refine And.intro ?_ ?_ | (apply QT; (focus first | exact EvC.b Jp)) | exact zlo | omega | exact zms)
  refine Xb (ι := Nat) (fun k => k ≤ 16 ∧ vA (fun s : QV => s.name == n) k (Jg.drop k) = vA (fun s : QV => s.name == n) 0 Jg) (fun k => [(4, V.int k)]) (fun k => 16 - k) 0 (by omega) ⟨by simp, by simp⟩ (by repeat' first | exact XR | refine WR (by omega) (by simp only [Ob.lt, ltL, V.lt, and_self, and_true]; try omega) ?_) (fun i hi => by simp only [ovT, JV, Nat.reduceEqDiff, reduceIte]; (repeat' first | exact WQ | refine XQ ?_ ?_ | simp only [V.lt, ltL, and_self, and_true] | omega)) (by simp only [Nat.reduceAdd, ovT, JV, Nat.reduceEqDiff, reduceIte, Jr, JQ, qv, u32, u33, u34, u35, u36, u37, u38, u39, and_self, and_true, true_and]; rfl) fun k hk K' hL => ?_
  obtain ⟨hk, hinv⟩ := hk
  simp only [ovT, JV, Nat.reduceEqDiff, reduceIte]
  rcases hd : Jg.drop k with _ | ⟨y, r⟩
  · have := YL hd
    rw [hd] at hinv
    have e1 : decide ((k : Int) < (((Jg.map QV.v).length : Nat) : Int)) = false := by simp [hl]; omega
    repeat' (first | refine Qp fun K' hK => ?_ | refine Qt fun K' hK => ?_ | refine Qq ?_ | refine Qr ?_ | refine Ql ?_ | ((first | refine Qs ⟨_, rfl, fun hc => ?_, fun hc => ?_⟩ | refine QQ (fun hc => ?_) (fun hc => ?_) | refine QR (fun hc => ?_) (fun hc => ?_)) <;> first | exact Bool.noConfusion hc | ((try simp only [znz] at hc); first | exact znf | skip)) | refine Qv ?_ | refine Qu ?_ | simp (maxSteps := 1000000) only [go_sem, Nat.reduceAdd, Nat.reduceMul, Nat.reduceEqDiff, Nat.reduceLeDiff, Nat.reduceLT, Nat.reduceSub, Int.reduceEq, Int.reduceBEq, Int.reduceLT, Int.reduceLE, Int.reduceAdd, Int.reduceToNat, reduceIte, reduceCtorEq, e1] | (refine hK _ ?_; clear hK; clear K') | refine And.intro ?_ ?_ | (apply QT; (focus first | exact EvC.b Jp)) | exact zlo | omega | exact zms)
    all_goals (refine Ja _ rfl ?_; simp only [go_sem, Nat.reduceEqDiff, Nat.reduceAdd, reduceIte, reduceCtorEq]; rw [qb, ← hinv]; rfl)
  · obtain ⟨hk', hget, hr⟩ := Yf hd
    rw [hd] at hinv
    have hw := JD (k := k) (by omega)
    have e1 : decide ((k : Int) < (((Jg.map QV.v).length : Nat) : Int)) = true := by simp [hl]; omega
    have hcode := abK k (by omega) y hget
    repeat' (first | refine Qp fun K' hK => ?_ | refine Qt fun K' hK => ?_ | refine Qq ?_ | refine Qr ?_ | refine Ql ?_ | ((first | refine Qs ⟨_, rfl, fun hc => ?_, fun hc => ?_⟩ | refine QQ (fun hc => ?_) (fun hc => ?_) | refine QR (fun hc => ?_) (fun hc => ?_)) <;> first | exact Bool.noConfusion hc | ((try simp only [znz] at hc); first | exact znf | skip)) | refine Qv ?_ | refine Qu ?_ | simp (maxSteps := 1000000) only [go_sem, Nat.reduceAdd, Nat.reduceMul, Nat.reduceEqDiff, Nat.reduceLeDiff, Nat.reduceLT, Nat.reduceSub, Int.reduceEq, Int.reduceBEq, Int.reduceLT, Int.reduceLE, Int.reduceAdd, Int.reduceToNat, reduceIte, reduceCtorEq, Int.toNat_natCast, List.getElem?_map, hget, hw, e1, QV.v, QV.cells] | (refine hK _ ?_; clear hK; clear K') | refine And.intro ?_ ?_ | (apply QT; (focus first | exact EvC.b Jp)) | exact zlo | omega | exact zms)
    · refine Ja _ rfl ?_; simp only [go_sem, Nat.reduceEqDiff, Nat.reduceAdd, reduceIte, reduceCtorEq]
      rw [qb, ← hinv, hcode]; simp [vA, *]
    · refine hL _ (k + 1) (by simp only [Nat.reduceAdd, ovT, JV, Nat.reduceEqDiff, reduceIte, Jr, JQ, qv, u32, u33, u34, u35, u36, u37, u38, u39, and_self, and_true, true_and]) ⟨by omega, ?_⟩ (by omega) (fun a ha => by simp only [u32, u33, u34, u35, u36, u37, u38, u39]; repeat rw [if_neg (by omega)])
      rw [hr, ← hinv, vA, if_neg (by simpa using hc)]
def yT : AC := QI [0, 1] (.reg [mc 4 (V.bool false)]) (QI [] (QI [0, 1, 5] (.reg [mc 5 (V.int 0)]) (.block 0 (X2 [0, 1, 5] (QI [0, 1, 5] (QI [0, 1, 5, 9] (.reg [mv 6 5, mv 7 0, ln 8 7, bn 9 .lss 6 8]) (.cond (.t 9) (.skip) (.exit 0))) (QI [0, 1, 5] (.block 1 (QI [0, 1, 5, 17] (.reg [mv 12 0, mv 13 5, ia 14 1 12 13, ld 15 1 14, mv 16 1, bn 17 .eql 15 16]) (.cond (.t 17) (QI [4] (.reg [mc 4 (V.bool true)]) (.ret)) (.skip)))) (.reg [mv 10 5, bc 11 .add 10 (V.int 1), mv 5 11])))))) (QI [4] (.reg [mc 4 (V.bool false)]) (.ret))) def r_ref02_Has : List XG := [.tmp 4]
def K0 (Γ : Env) (f : Nat) : Prop := ∀ (l : List Int) (n : Int) (hl : l.length < 2 ^ 62), EvN Γ f [.sl 1 (l.map V.int), V.int n] (V.bool (l.contains n))
theorem acF {Γ : Env} {f : Nat} (h : Has Γ.P f 18 yT r_ref02_Has)  : K0 Γ f := by
  intro l n hl
  refine Jc h (by simp) (by simp only [V.closed, QK, V.noSl, JM, and_self, and_true, true_and]) (by simp only [V.closed, QK, V.noSl, JM, and_self, and_true, true_and]) fun C hC hm => ?_
  subst hC
  unfold yT
  repeat' (first | refine Qp fun K' hK => ?_ | refine Qt fun K' hK => ?_ | refine Qq ?_ | refine Qr ?_ | refine Ql ?_ | ((first | refine Qs ⟨_, rfl, fun hc => ?_, fun hc => ?_⟩ | refine QQ (fun hc => ?_) (fun hc => ?_) | refine QR (fun hc => ?_) (fun hc => ?_)) <;> first | exact Bool.noConfusion hc | ((try simp only [znz] at hc); first | exact znf | skip)) | refine Qv ?_ | refine Qu ?_ | simp (maxSteps := 1000000) only [go_sem, Nat.reduceAdd, Nat.reduceMul, Nat.reduceEqDiff, Nat.reduceLeDiff, Nat.reduceLT, Nat.reduceSub, Int.reduceEq, Int.reduceBEq, Int.reduceLT, Int.reduceLE, Int.reduceAdd, Int.reduceToNat, reduceIte, reduceCtorEq] | (refine hK _ ?_; clear hK; clear K') | refine And.intro ?_ ?_ | exact zlo | omega | exact zms)
  refine Xb (ι := Nat) (fun k => k ≤ l.length ∧ (l.drop k).contains n = l.contains n) (fun k => [(5, V.int k)]) (fun k => l.length - k) 0 (by omega) ⟨by simp, by simp⟩ (by repeat' first | exact XR | refine WR (by omega) (by simp only [Ob.lt, ltL, V.lt, and_self, and_true]; try omega) ?_) (fun i hi => by simp only [ovT, JV, Nat.reduceEqDiff, reduceIte]; (repeat' first | exact WQ | refine XQ ?_ ?_ | simp only [V.lt, ltL, and_self, and_true] | omega)) (by simp only [Nat.reduceAdd, ovT, JV, Nat.reduceEqDiff, reduceIte, Jr, JQ, qv, u32, u33, u34, u35, u36, u37, u38, u39, and_self, and_true, true_and]; rfl) fun k hk K' hL => ?_
  obtain ⟨hk, hinv⟩ := hk
  simp only [ovT, JV, Nat.reduceEqDiff, reduceIte]
  rcases hd : l.drop k with _ | ⟨y, r⟩
  · have := YL hd
    rw [hd] at hinv
    repeat' (first | refine Qp fun K' hK => ?_ | refine Qt fun K' hK => ?_ | refine Qq ?_ | refine Qr ?_ | refine Ql ?_ | ((first | refine Qs ⟨_, rfl, fun hc => ?_, fun hc => ?_⟩ | refine QQ (fun hc => ?_) (fun hc => ?_) | refine QR (fun hc => ?_) (fun hc => ?_)) <;> first | exact Bool.noConfusion hc | ((try simp only [znz] at hc); first | exact znf | skip)) | refine Qv ?_ | refine Qu ?_ | simp (maxSteps := 1000000) only [go_sem, Nat.reduceAdd, Nat.reduceMul, Nat.reduceEqDiff, Nat.reduceLeDiff, Nat.reduceLT, Nat.reduceSub, Int.reduceEq, Int.reduceBEq, Int.reduceLT, Int.reduceLE, Int.reduceAdd, Int.reduceToNat, reduceIte, reduceCtorEq] | (refine hK _ ?_; clear hK; clear K') | refine And.intro ?_ ?_ | exact zlo | omega | exact zms)
    all_goals (refine Ja _ rfl ?_; simp only [go_sem, Nat.reduceEqDiff, Nat.reduceAdd, reduceIte, reduceCtorEq]; rw [← hinv]; rfl)
  · obtain ⟨hk', hget, hr⟩ := Yf hd
    rw [hd] at hinv
    have hw := JD (k := k) (by omega)
    repeat' (first | refine Qp fun K' hK => ?_ | refine Qt fun K' hK => ?_ | refine Qq ?_ | refine Qr ?_ | refine Ql ?_ | ((first | refine Qs ⟨_, rfl, fun hc => ?_, fun hc => ?_⟩ | refine QQ (fun hc => ?_) (fun hc => ?_) | refine QR (fun hc => ?_) (fun hc => ?_)) <;> first | exact Bool.noConfusion hc | ((try simp only [znz] at hc); first | exact znf | skip)) | refine Qv ?_ | refine Qu ?_ | simp (maxSteps := 1000000) only [go_sem, Nat.reduceAdd, Nat.reduceMul, Nat.reduceEqDiff, Nat.reduceLeDiff, Nat.reduceLT, Nat.reduceSub, Int.reduceEq, Int.reduceBEq, Int.reduceLT, Int.reduceLE, Int.reduceAdd, Int.reduceToNat, reduceIte, reduceCtorEq, Int.toNat_natCast, List.getElem?_map, hget, hw] | (refine hK _ ?_; clear hK; clear K') | refine And.intro ?_ ?_ | exact zlo | omega | exact zms)
    · refine Ja _ rfl ?_; simp only [go_sem, Nat.reduceEqDiff, Nat.reduceAdd, reduceIte, reduceCtorEq]
      rw [← hinv]; simp [hc]
    · refine hL _ (k + 1) (by simp only [Nat.reduceAdd, ovT, JV, Nat.reduceEqDiff, reduceIte, Jr, JQ, qv, u32, u33, u34, u35, u36, u37, u38, u39, and_self, and_true, true_and]) ⟨by omega, ?_⟩ (by omega) (fun a ha => by simp only [u32, u33, u34, u35, u36, u37, u38, u39]; repeat rw [if_neg (by omega)])
      rw [hr, ← hinv, List.contains_cons]
      have : (n == y) = false := by simp; exact fun h => hc h.symm
      rw [this, Bool.false_or]
def VI : List AO := [mv 17 0, mv 18 5, ia 19 1 17 18, ld 20 1 19, mv 21 1, mv 22 5, ia 23 1 21 22, ld 24 1 23, bn 25 .neq 20 24]
def VT : List (List Nat) := [[], [], [0, 1], [2], [], [], [4, 5], [6], [3, 7]]
def VF : OT := .one 0 (.one 1 (.one 2 (.one 3 (.one 4 (.one 5 (.one 6 (.one 7 (.one 8 (.done)))))))))
def YB : OP := .one 0 false [] (mv 17 0) (.one 1 false [] (mv 18 5) (.one 2 false [] (ia 19 1 17 18) (.one 3 false [] (ld 20 1 19) (.one 4 false [] (mv 21 1) (.one 5 false [] (mv 22 5) (.one 6 false [] (ia 23 1 21 22) (.one 7 false [] (ld 24 1 23) (.one 8 false [] (bn 25 .neq 20 24) (.done)))))))))
theorem JO : okR (VI) VT [] VF = true := by kernel_rfl
theorem JN : WO (ris (VI) VT []) VF = YB := by kernel_rfl def c_ref02_SameInts : AC := QI [0, 1] (.reg [mc 4 (V.bool false)]) (QI [0, 1] (QI [0, 1, 10] (.reg [mv 6 0, ln 7 6, mv 8 1, ln 9 8, bn 10 .neq 7 9]) (.cond (.t 10) (QI [4] (.reg [mc 4 (V.bool false)]) (.ret)) (.skip))) (QI [] (QI [0, 1, 5] (.reg [mc 5 (V.int 0)]) (.block 0 (X2 [0, 1, 5] (QI [0, 1, 5] (QI [0, 1, 5, 14] (.reg [mv 11 5, mv 12 0, ln 13 12, bn 14 .lss 11 13]) (.cond (.t 14) (.skip) (.exit 0))) (QI [0, 1, 5] (.block 1 (QI [0, 1, 5, 25] (aaf [] VF (YB) (VI) VT) (.cond (.t 25) (QI [4] (.reg [mc 4 (V.bool false)]) (.ret)) (.skip)))) (.reg [mv 15 5, bc 16 .add 15 (V.int 1), mv 5 16])))))) (QI [4] (.reg [mc 4 (V.bool true)]) (.ret)))) def r_ref02_SameInts : List XG := [.tmp 4]
def W4 (Γ : Env) (f : Nat) : Prop := ∀ (a b : List Int) (hl : a.length < 2 ^ 62), EvN Γ f [.sl 1 (a.map V.int), .sl 1 (b.map V.int)] (V.bool (a == b))
theorem x9 {Γ : Env} {f : Nat} (h : Has Γ.P f 26 c_ref02_SameInts r_ref02_SameInts)  : W4 Γ f := by
  intro a b hl
  refine Jc h (by simp) (by simp only [V.closed, QK, V.noSl, JM, and_self, and_true, true_and]) (by simp only [V.closed, QK, V.noSl, JM, and_self, and_true, true_and]) fun C hC hm => ?_
  subst hC
  unfold c_ref02_SameInts
  by_cases hlen : a.length = b.length
  · have e0 : ((((a.map V.int).length : Nat) : Int) != (((b.map V.int).length : Nat) : Int)) = false := by simp [hlen]
    repeat' (first | refine Qp fun K' hK => ?_ | refine Qt fun K' hK => ?_ | refine Qn 9 (fun _ => true) rfl (JO) (JN) fun K' hK => ?_ | refine Qo 9 (fun _ => true) rfl (JO) (JN) fun K' hK => ?_ | refine Qq ?_ | refine Qr ?_ | refine Ql ?_ | ((first | refine Qs ⟨_, rfl, fun hc => ?_, fun hc => ?_⟩ | refine QQ (fun hc => ?_) (fun hc => ?_) | refine QR (fun hc => ?_) (fun hc => ?_)) <;> first | exact Bool.noConfusion hc | ((try simp only [znz] at hc); first | exact znf | skip)) | refine Qv ?_ | refine Qu ?_ | simp (maxSteps := 1000000) only [go_sem, Nat.reduceAdd, Nat.reduceMul, Nat.reduceEqDiff, Nat.reduceLeDiff, Nat.reduceLT, Nat.reduceSub, Int.reduceEq, Int.reduceBEq, Int.reduceLT, Int.reduceLE, Int.reduceAdd, Int.reduceToNat, reduceIte, reduceCtorEq, e0, YB] | (refine hK _ ?_; clear hK; clear K') | refine And.intro ?_ ?_ | exact zlo | omega | exact zms)
    refine Xb (ι := Nat) (fun k => k ≤ a.length ∧ (a.drop k == b.drop k) = (a == b)) (fun k => [(5, V.int k)]) (fun k => a.length - k) 0 (by omega) ⟨by simp, by simp⟩ (by repeat' first | exact XR | refine WR (by omega) (by simp only [Ob.lt, ltL, V.lt, and_self, and_true]; try omega) ?_) (fun i hi => by simp only [ovT, JV, Nat.reduceEqDiff, reduceIte]; (repeat' first | exact WQ | refine XQ ?_ ?_ | simp only [V.lt, ltL, and_self, and_true] | omega)) (by simp only [Nat.reduceAdd, ovT, JV, Nat.reduceEqDiff, reduceIte, Jr, JQ, qv, u32, u33, u34, u35, u36, u37, u38, u39, and_self, and_true, true_and] <;> rfl) fun k hk K' hL => ?_
    obtain ⟨hk, hinv⟩ := hk
    simp only [ovT, JV, Nat.reduceEqDiff, reduceIte]
    rcases hd : a.drop k with _ | ⟨y, r⟩
    · have := YL hd
      have hd2 : b.drop k = [] := List.drop_eq_nil_of_le (by omega)
      rw [hd, hd2] at hinv
      repeat' (first | refine Qp fun K' hK => ?_ | refine Qt fun K' hK => ?_ | refine Qn 9 (fun _ => true) rfl (JO) (JN) fun K' hK => ?_ | refine Qo 9 (fun _ => true) rfl (JO) (JN) fun K' hK => ?_ | refine Qq ?_ | refine Qr ?_ | refine Ql ?_ | ((first | refine Qs ⟨_, rfl, fun hc => ?_, fun hc => ?_⟩ | refine QQ (fun hc => ?_) (fun hc => ?_) | refine QR (fun hc => ?_) (fun hc => ?_)) <;> first | exact Bool.noConfusion hc | ((try simp only [znz] at hc); first | exact znf | skip)) | refine Qv ?_ | refine Qu ?_ | simp (maxSteps := 1000000) only [go_sem, Nat.reduceAdd, Nat.reduceMul, Nat.reduceEqDiff, Nat.reduceLeDiff, Nat.reduceLT, Nat.reduceSub, Int.reduceEq, Int.reduceBEq, Int.reduceLT, Int.reduceLE, Int.reduceAdd, Int.reduceToNat, reduceIte, reduceCtorEq, YB] | (refine hK _ ?_; clear hK; clear K') | refine And.intro ?_ ?_ | exact zlo | omega | exact zms)
      all_goals (refine Ja _ rfl ?_; simp only [go_sem, Nat.reduceEqDiff, Nat.reduceAdd, reduceIte, reduceCtorEq]; rw [← hinv]; rfl)
    · obtain ⟨hk', hget, hr⟩ := Yf hd
      rcases hd2 : b.drop k with _ | ⟨z, r2⟩
      · have := YL hd2; omega
      · obtain ⟨hk2, hget2, hr2⟩ := Yf hd2
        rw [hd, hd2] at hinv
        have hw := JD (k := k) (by omega)
        by_cases hyz : y = z
        · have e2 : (y != z) = false := by simp [hyz]
          repeat' (first | refine Qp fun K' hK => ?_ | refine Qt fun K' hK => ?_ | refine Qn 9 (fun _ => true) rfl (JO) (JN) fun K' hK => ?_ | refine Qo 9 (fun _ => true) rfl (JO) (JN) fun K' hK => ?_ | refine Qq ?_ | refine Qr ?_ | refine Ql ?_ | ((first | refine Qs ⟨_, rfl, fun hc => ?_, fun hc => ?_⟩ | refine QQ (fun hc => ?_) (fun hc => ?_) | refine QR (fun hc => ?_) (fun hc => ?_)) <;> first | exact Bool.noConfusion hc | ((try simp only [znz] at hc); first | exact znf | skip)) | refine Qv ?_ | refine Qu ?_ | simp (maxSteps := 1000000) only [go_sem, Nat.reduceAdd, Nat.reduceMul, Nat.reduceEqDiff, Nat.reduceLeDiff, Nat.reduceLT, Nat.reduceSub, Int.reduceEq, Int.reduceBEq, Int.reduceLT, Int.reduceLE, Int.reduceAdd, Int.reduceToNat, reduceIte, reduceCtorEq, Int.toNat_natCast, List.getElem?_map, hget, hget2, hw, e2, YB] | (refine hK _ ?_; clear hK; clear K') | refine And.intro ?_ ?_ | exact zlo | omega | exact zms)
          refine hL _ (k + 1) (by simp only [Nat.reduceAdd, ovT, JV, Nat.reduceEqDiff, reduceIte, Jr, JQ, qv, u32, u33, u34, u35, u36, u37, u38, u39, and_self, and_true, true_and]) ⟨by omega, ?_⟩ (by omega) (fun a ha => by simp only [u32, u33, u34, u35, u36, u37, u38, u39]; repeat rw [if_neg (by omega)])
          rw [hr, hr2, ← hinv]; simp [hyz]
        · have e2 : (y != z) = true := by simp [hyz]
          repeat' (first | refine Qp fun K' hK => ?_ | refine Qt fun K' hK => ?_ | refine Qn 9 (fun _ => true) rfl (JO) (JN) fun K' hK => ?_ | refine Qo 9 (fun _ => true) rfl (JO) (JN) fun K' hK => ?_ | refine Qq ?_ | refine Qr ?_ | refine Ql ?_ | ((first | refine Qs ⟨_, rfl, fun hc => ?_, fun hc => ?_⟩ | refine QQ (fun hc => ?_) (fun hc => ?_) | refine QR (fun hc => ?_) (fun hc => ?_)) <;> first | exact Bool.noConfusion hc | ((try simp only [znz] at hc); first | exact znf | skip)) | refine Qv ?_ | refine Qu ?_ | simp (maxSteps := 1000000) only [go_sem, Nat.reduceAdd, Nat.reduceMul, Nat.reduceEqDiff, Nat.reduceLeDiff, Nat.reduceLT, Nat.reduceSub, Int.reduceEq, Int.reduceBEq, Int.reduceLT, Int.reduceLE, Int.reduceAdd, Int.reduceToNat, reduceIte, reduceCtorEq, Int.toNat_natCast, List.getElem?_map, hget, hget2, hw, e2, YB] | (refine hK _ ?_; clear hK; clear K') | refine And.intro ?_ ?_ | exact zlo | omega | exact zms)
          all_goals (refine Ja _ rfl ?_; simp only [go_sem, Nat.reduceEqDiff, Nat.reduceAdd, reduceIte, reduceCtorEq]; rw [← hinv]; simp [hyz])
  · have e0 : ((((a.map V.int).length : Nat) : Int) != (((b.map V.int).length : Nat) : Int)) = true := by simp; omega
    have e1 : (a == b) = false := by
      simp only [beq_eq_false_iff_ne, ne_eq]
      intro h; exact hlen (by rw [h])
    repeat' (first | refine Qp fun K' hK => ?_ | refine Qt fun K' hK => ?_ | refine Qn 9 (fun _ => true) rfl (JO) (JN) fun K' hK => ?_ | refine Qo 9 (fun _ => true) rfl (JO) (JN) fun K' hK => ?_ | refine Qq ?_ | refine Qr ?_ | refine Ql ?_ | ((first | refine Qs ⟨_, rfl, fun hc => ?_, fun hc => ?_⟩ | refine QQ (fun hc => ?_) (fun hc => ?_) | refine QR (fun hc => ?_) (fun hc => ?_)) <;> first | exact Bool.noConfusion hc | ((try simp only [znz] at hc); first | exact znf | skip)) | refine Qv ?_ | refine Qu ?_ | simp (maxSteps := 1000000) only [go_sem, Nat.reduceAdd, Nat.reduceMul, Nat.reduceEqDiff, Nat.reduceLeDiff, Nat.reduceLT, Nat.reduceSub, Int.reduceEq, Int.reduceBEq, Int.reduceLT, Int.reduceLE, Int.reduceAdd, Int.reduceToNat, reduceIte, reduceCtorEq, e0, YB] | (refine hK _ ?_; clear hK; clear K') | refine And.intro ?_ ?_ | exact zlo | omega | exact zms)
    all_goals (refine Ja _ rfl ?_; simp only [go_sem, Nat.reduceEqDiff, Nat.reduceAdd, reduceIte, reduceCtorEq]; rw [e1])
end Av
end
section
set_option linter.unusedSimpArgs false
set_option linter.unusedVariables false
set_option maxRecDepth 10000
set_option maxHeartbeats 4000000
namespace Av
open Go
attribute [local irreducible] AWp W8 V7 V8 awS awC KI awQ KY Ji XK KE awR XZ awB okR WO ris
def qF (c : Int) : Int := if 1 ≤ c ∧ c ≤ 16 then Ye (YA c).ci1 (YA c).ci2 else 0
def Vb (YH J3 : Nat) : AC := QI [0] (.reg [mc 2 (V.int 0)]) (QI [3, 4] (.reg [mv 6 0, cl 7 YH [6], mv 5 7, ex 8 5 0, ex 9 5 1, xo 3 (.alloc [.val (.int .i64 0), .val (.string ⟨#[]⟩), .val (.int .i64 0), .val (.int .i64 0), .val (.int .i64 0), .val (.int .i64 0), .val (.int .i64 0), .val (.int .i64 0), .val (.int .i64 0), .val (.int .i64 0), .val (.int .i64 0), .val (.int .i64 0)]), xs 12 3 8, mv 4 9]) (QI [3] (QI [3, 11] (.reg [mv 10 4, bc 11 .neq 10 (V.int 0)]) (.cond (.t 11) (QI [2] (.reg [mc 2 (V.int 0)]) (.ret)) (.skip))) (QI [2] (.reg [fa 12 6 3, xo 13 (.load true 2 (.t 12)), cl 14 J3 [13], mv 2 14]) (.ret)))) def r_suitespec_Strength : List XG := [.tmp 2]
def X0 (Γ : Env) (f : Nat) : Prop := ∀ (c : Int), EvN Γ f [V.int c] (V.int (qF c))
theorem jS {Γ : Env} {f YH J3 : Nat} (h : Has Γ.P f 15 (Vb YH J3) r_suitespec_Strength) (J6 : Vm Γ YH) (JB : WF Γ J3) : X0 Γ f := by
  intro c
  refine Jc h (by simp) (by simp only [V.closed, QK, V.noSl, JM, and_self, and_true, true_and]) (by simp only [V.closed, QK, V.noSl, JM, and_self, and_true, true_and]) fun C hC hm => ?_
  subst hC
  unfold Vb
  by_cases h : 1 ≤ c ∧ c ≤ 16
  · have e : Wi c = .tup [(YA c).v, V.int 0] := by rw [Wi, if_pos h]
    have hs : qF c = Ye (YA c).ci1 (YA c).ci2 := by rw [qF, if_pos h]
    rw [hs]
    repeat' (first | refine Qp fun K' hK => ?_ | refine Qt fun K' hK => ?_ | refine Qq ?_ | refine Qr ?_ | refine Ql ?_ | ((first | refine Qs ⟨_, rfl, fun hc => ?_, fun hc => ?_⟩ | refine QQ (fun hc => ?_) (fun hc => ?_) | refine QR (fun hc => ?_) (fun hc => ?_)) <;> first | exact Bool.noConfusion hc | ((try simp only [znz] at hc); first | exact znf | skip)) | refine Qv ?_ | refine Qu ?_ | simp (maxSteps := 1000000) only [go_sem, Nat.reduceAdd, Nat.reduceMul, Nat.reduceEqDiff, Nat.reduceLeDiff, Nat.reduceLT, Nat.reduceSub, Int.reduceEq, Int.reduceBEq, Int.reduceLT, Int.reduceLE, Int.reduceAdd, Int.reduceToNat, reduceIte, reduceCtorEq, e, QV.v, QV.cells] | (refine hK _ ?_; clear hK; clear K') | refine And.intro ?_ ?_ | (apply QT; (focus first | exact (J6 _).b | exact (JB _ _).b)) | exact zlo | omega | exact zms)
    all_goals (refine Ja _ rfl ?_; simp only [go_sem, Nat.reduceEqDiff, Nat.reduceAdd, reduceIte, reduceCtorEq])
  · have e : Wi c = .tup [(YA c).v, V.int 8] := by rw [Wi, if_neg h]
    have hs : qF c = 0 := by rw [qF, if_neg h]
    rw [hs]
    repeat' (first | refine Qp fun K' hK => ?_ | refine Qt fun K' hK => ?_ | refine Qq ?_ | refine Qr ?_ | refine Ql ?_ | ((first | refine Qs ⟨_, rfl, fun hc => ?_, fun hc => ?_⟩ | refine QQ (fun hc => ?_) (fun hc => ?_) | refine QR (fun hc => ?_) (fun hc => ?_)) <;> first | exact Bool.noConfusion hc | ((try simp only [znz] at hc); first | exact znf | skip)) | refine Qv ?_ | refine Qu ?_ | simp (maxSteps := 1000000) only [go_sem, Nat.reduceAdd, Nat.reduceMul, Nat.reduceEqDiff, Nat.reduceLeDiff, Nat.reduceLT, Nat.reduceSub, Int.reduceEq, Int.reduceBEq, Int.reduceLT, Int.reduceLE, Int.reduceAdd, Int.reduceToNat, reduceIte, reduceCtorEq, e, QV.v, QV.cells] | (refine hK _ ?_; clear hK; clear K') | refine And.intro ?_ ?_ | (apply QT; (focus first | exact (J6 _).b | exact (JB _ _).b)) | exact zlo | omega | exact zms)
    all_goals (refine Ja _ rfl ?_; simp only [go_sem, Nat.reduceEqDiff, Nat.reduceAdd, reduceIte, reduceCtorEq])
def UL (Xt Vk : Nat) : AC := QI [0] (.reg [mc 2 (V.int 0)]) (QI [3, 4] (.reg [mv 6 0, cl 7 Xt [6], mv 5 7, ex 8 5 0, ex 9 5 1, xo 3 (.alloc [.val (.int .i64 0), .val (.string ⟨#[]⟩), .val (.int .i64 0), .val (.int .i64 0), .val (.int .i64 0), .val (.int .i64 0), .val (.int .i64 0), .val (.int .i64 0), .val (.int .i64 0), .val (.int .i64 0), .val (.int .i64 0), .val (.int .i64 0)]), xs 12 3 8, mv 4 9]) (QI [3] (QI [3, 11] (.reg [mv 10 4, bc 11 .neq 10 (V.int 0)]) (.cond (.t 11) (QI [2] (.reg [mc 2 (V.int 0)]) (.ret)) (.skip))) (QI [2] (.reg [fa 12 6 3, xo 13 (.load true 2 (.t 12)), cl 14 Vk [13], mv 2 14]) (.ret)))) def r_ref08_Strength : List XG := [.tmp 2]
def Wf (Γ : Env) (f : Nat) : Prop := ∀ (c : Int), EvN Γ f [V.int c] (V.int (qF c))
theorem x7 {Γ : Env} {f Xt Vk : Nat} (h : Has Γ.P f 15 (UL Xt Vk) r_ref08_Strength) (YD : Uw Γ Xt) (jw : Ur Γ Vk) : Wf Γ f := by
  intro c
  refine Jc h (by simp) (by simp only [V.closed, QK, V.noSl, JM, and_self, and_true, true_and]) (by simp only [V.closed, QK, V.noSl, JM, and_self, and_true, true_and]) fun C hC hm => ?_
  subst hC
  unfold UL
  by_cases h : 1 ≤ c ∧ c ≤ 16
  · have e : Wi c = .tup [(YA c).v, V.int 0] := by rw [Wi, if_pos h]
    have hs : qF c = Ye (YA c).ci1 (YA c).ci2 := by rw [qF, if_pos h]
    rw [hs]
    repeat' (first | refine Qp fun K' hK => ?_ | refine Qt fun K' hK => ?_ | refine Qq ?_ | refine Qr ?_ | refine Ql ?_ | ((first | refine Qs ⟨_, rfl, fun hc => ?_, fun hc => ?_⟩ | refine QQ (fun hc => ?_) (fun hc => ?_) | refine QR (fun hc => ?_) (fun hc => ?_)) <;> first | exact Bool.noConfusion hc | ((try simp only [znz] at hc); first | exact znf | skip)) | refine Qv ?_ | refine Qu ?_ | simp (maxSteps := 1000000) only [go_sem, Nat.reduceAdd, Nat.reduceMul, Nat.reduceEqDiff, Nat.reduceLeDiff, Nat.reduceLT, Nat.reduceSub, Int.reduceEq, Int.reduceBEq, Int.reduceLT, Int.reduceLE, Int.reduceAdd, Int.reduceToNat, reduceIte, reduceCtorEq, e, QV.v, QV.cells] | (refine hK _ ?_; clear hK; clear K') | refine And.intro ?_ ?_ | (apply QT; (focus first | exact (YD _).b | exact (jw _ _).b)) | exact zlo | omega | exact zms)
    all_goals (refine Ja _ rfl ?_; simp only [go_sem, Nat.reduceEqDiff, Nat.reduceAdd, reduceIte, reduceCtorEq])
  · have e : Wi c = .tup [(YA c).v, V.int 8] := by rw [Wi, if_neg h]
    have hs : qF c = 0 := by rw [qF, if_neg h]
    rw [hs]
    repeat' (first | refine Qp fun K' hK => ?_ | refine Qt fun K' hK => ?_ | refine Qq ?_ | refine Qr ?_ | refine Ql ?_ | ((first | refine Qs ⟨_, rfl, fun hc => ?_, fun hc => ?_⟩ | refine QQ (fun hc => ?_) (fun hc => ?_) | refine QR (fun hc => ?_) (fun hc => ?_)) <;> first | exact Bool.noConfusion hc | ((try simp only [znz] at hc); first | exact znf | skip)) | refine Qv ?_ | refine Qu ?_ | simp (maxSteps := 1000000) only [go_sem, Nat.reduceAdd, Nat.reduceMul, Nat.reduceEqDiff, Nat.reduceLeDiff, Nat.reduceLT, Nat.reduceSub, Int.reduceEq, Int.reduceBEq, Int.reduceLT, Int.reduceLE, Int.reduceAdd, Int.reduceToNat, reduceIte, reduceCtorEq, e, QV.v, QV.cells] | (refine hK _ ?_; clear hK; clear K') | refine And.intro ?_ ?_ | (apply QT; (focus first | exact (YD _).b | exact (jw _ _).b)) | exact zlo | omega | exact zms)
    all_goals (refine Ja _ rfl ?_; simp only [go_sem, Nat.reduceEqDiff, Nat.reduceAdd, reduceIte, reduceCtorEq])
def W9 : List (List UInt8) := [[97, 108, 108], [104, 105, 103, 104], [109, 101, 100, 105, 117, 109], [108, 111, 119], [118, 49], [118, 50], [118, 51], [118, 52]]
def WL (n : List UInt8) : Bool := W9.contains n || decide (XU n 0 Yg > 0) || decide (qb n > 0)
def ja (XY KU : Nat) : AC := QI [0] (.reg [mc 2 (V.bool false)]) (QI [0] (QI [0, 3] (.reg [mv 3 0]) (.block 0 (QI [0, 4] (QI [0, 3, 4] (.reg [bc 5 .eql 3 (V.str [97, 108, 108]), mv 4 5]) (.cond (.t 4) (.skip) (QI [0, 3, 4] (.reg [bc 6 .eql 3 (V.str [104, 105, 103, 104]), mv 4 6]) (.cond (.t 4) (.skip) (QI [0, 3, 4] (.reg [bc 7 .eql 3 (V.str [109, 101, 100, 105, 117, 109]), mv 4 7]) (.cond (.t 4) (.skip) (QI [0, 3, 4] (.reg [bc 8 .eql 3 (V.str [108, 111, 119]), mv 4 8]) (.cond (.t 4) (.skip) (QI [0, 3, 4] (.reg [bc 9 .eql 3 (V.str [118, 49]), mv 4 9]) (.cond (.t 4) (.skip) (QI [0, 3, 4] (.reg [bc 10 .eql 3 (V.str [118, 50]), mv 4 10]) (.cond (.t 4) (.skip) (QI [0, 3, 4] (.reg [bc 11 .eql 3 (V.str [118, 51]), mv 4 11]) (.cond (.t 4) (.skip) (.reg [bc 12 .eql 3 (V.str [118, 52]), mv 4 12]))))))))))))))) (.cond (.t 4) (QI [2] (.reg [mc 2 (V.bool true)]) (.ret)) (.skip))))) (QI [2] (.reg [mv 13 0, cl 14 XY [13], bc 15 .gtr 14 (V.int 0), mv 16 15, mg 17 0 16 false, xg 18 (.call KU [(.t 17)]) 16 false, xg 19 (.bin .gtr (.t 18) (.c (V.int 0))) 16 false, xo 20 (.pick (.t 16) (.c (V.bool true)) (.t 19)), mv 2 20]) (.ret))) def r_ref08_known : List XG := [.tmp 2]
def ql (Γ : Env) (f : Nat) : Prop := ∀ (n : List UInt8), EvN Γ f [V.str n] (V.bool (WL n))
theorem aav {Γ : Env} {f XY KU : Nat} (h : Has Γ.P f 21 (ja XY KU) r_ref08_known) (Yv : Kg Γ XY) (wx : jo Γ KU) : ql Γ f := by
  intro n
  refine Jc h (by simp) (by simp only [V.closed, QK, V.noSl, JM, and_self, and_true, true_and]) (by simp only [V.closed, QK, V.noSl, JM, and_self, and_true, true_and]) fun C hC hm => ?_
  subst hC
  unfold ja
  by_cases hg : n ∈ W9
  · have e : WL n = true := by simp [WL, hg]
    rw [e]
    simp only [W9, List.mem_cons, List.not_mem_nil, or_false] at hg
    rcases hg with rfl | rfl | rfl | rfl | rfl | rfl | rfl | rfl
    all_goals
      repeat' (first | refine Qp fun K' hK => ?_ | refine Qt fun K' hK => ?_ | refine Qq ?_ | refine Qr ?_ | refine Ql ?_ | ((first | refine Qs ⟨_, rfl, fun hc => ?_, fun hc => ?_⟩ | refine QQ (fun hc => ?_) (fun hc => ?_) | refine QR (fun hc => ?_) (fun hc => ?_)) <;> first | exact Bool.noConfusion hc | ((try simp only [znz] at hc); first | exact znf | skip)) | refine Qv ?_ | refine Qu ?_ | simp (maxSteps := 1000000) only [go_sem, Nat.reduceAdd, Nat.reduceMul, Nat.reduceEqDiff, Nat.reduceLeDiff, Nat.reduceLT, Nat.reduceSub, Int.reduceEq, Int.reduceBEq, Int.reduceLT, Int.reduceLE, Int.reduceAdd, Int.reduceToNat, reduceIte, reduceCtorEq] | (refine hK _ ?_; clear hK; clear K') | refine And.intro ?_ ?_ | (apply QT; (focus first | exact (Yv _).b | exact (wx _).b)) | exact zlo | omega | exact zms)
      all_goals (refine Ja _ rfl ?_; simp only [go_sem, Nat.reduceEqDiff, Nat.reduceAdd, reduceIte, reduceCtorEq])
  · have e0 : W9.contains n = false := by simpa using hg
    have e : WL n = (decide (XU n 0 Yg > 0) || decide (qb n > 0)) := by simp only [WL, e0, Bool.false_or]
    rw [e]
    simp only [W9, List.mem_cons, List.not_mem_nil, or_false, not_or] at hg
    obtain ⟨h1, h2, h3, h4, h5, h6, h7, h8⟩ := hg
    have g1 := beq_eq_false_iff_ne.2 h1
    have g2 := beq_eq_false_iff_ne.2 h2
    have g3 := beq_eq_false_iff_ne.2 h3
    have g4 := beq_eq_false_iff_ne.2 h4
    have g5 := beq_eq_false_iff_ne.2 h5
    have g6 := beq_eq_false_iff_ne.2 h6
    have g7 := beq_eq_false_iff_ne.2 h7
    have g8 := beq_eq_false_iff_ne.2 h8
    rcases hf : decide (XU n 0 Yg > 0) with _ | _
    all_goals
      repeat' (first | refine Qp fun K' hK => ?_ | refine Qt fun K' hK => ?_ | refine Qq ?_ | refine Qr ?_ | refine Ql ?_ | ((first | refine Qs ⟨_, rfl, fun hc => ?_, fun hc => ?_⟩ | refine QQ (fun hc => ?_) (fun hc => ?_) | refine QR (fun hc => ?_) (fun hc => ?_)) <;> first | exact Bool.noConfusion hc | ((try simp only [znz] at hc); first | exact znf | skip)) | refine Qv ?_ | refine Qu ?_ | simp (maxSteps := 1000000) only [go_sem, Nat.reduceAdd, Nat.reduceMul, Nat.reduceEqDiff, Nat.reduceLeDiff, Nat.reduceLT, Nat.reduceSub, Int.reduceEq, Int.reduceBEq, Int.reduceLT, Int.reduceLE, Int.reduceAdd, Int.reduceToNat, reduceIte, reduceCtorEq, hf, g1, g2, g3, g4, g5, g6, g7, g8] | (refine hK _ ?_; clear hK; clear K') | refine And.intro ?_ ?_ | (apply QT; (focus first | exact (Yv _).b | exact (wx _).b)) | exact zlo | omega | exact zms)
      all_goals first | (refine Ja _ rfl ?_; simp only [go_sem, Nat.reduceEqDiff, Nat.reduceAdd, reduceIte, reduceCtorEq]; done) | (refine Ja _ rfl ?_; simp only [go_sem, Nat.reduceEqDiff, Nat.reduceAdd, reduceIte, reduceCtorEq]; simp; done) | trace_state
def UX (n : List UInt8) (st lo up : Int) : Option Bool :=
  if n = [97, 108, 108] then some true else if n = [104, 105, 103, 104] then some (decide (st ≥ 128)) else if n = [109, 101, 100, 105, 117, 109] then some (decide (st ≥ 112) && decide (st < 128))
  else if n = [108, 111, 119] then some (decide (st < 112)) else if n = [118, 49] then some (decide (lo ≤ 1) && decide (1 ≤ up)) else if n = [118, 50] then some (decide (lo ≤ 2) && decide (2 ≤ up))
  else if n = [118, 51] then some (decide (lo ≤ 3) && decide (3 ≤ up)) else if n = [118, 52] then some (decide (lo ≤ 4) && decide (4 ≤ up)) else none
def acY : Option Bool → V
  | some b => .tup [V.bool b, V.bool true]
  | none => .tup [V.bool false, V.bool false]
theorem vv (x : Option Bool) : (acY x).closed := by cases x <;> simp only [acY, V.closed, QK, and_self]
theorem aci (x : Option Bool) : (acY x).noSl := by cases x <;> simp only [acY, V.noSl, JM, and_self]
theorem xX {n : List UInt8} (st lo up : Int) (h : n ∉ W9) : UX n st lo up = none := by
  simp only [W9, List.mem_cons, List.not_mem_nil, or_false, not_or] at h
  obtain ⟨h1, h2, h3, h4, h5, h6, h7, h8⟩ := h
  rw [UX, if_neg h1, if_neg h2, if_neg h3, if_neg h4, if_neg h5, if_neg h6, if_neg h7, if_neg h8]
def Uj (J3 : Nat) : AC := QI [1, 2] (.reg [xo 2 (.box true 12 (.t 0)), mc 4 (V.bool false), mc 5 (V.bool false)]) (QI [1, 2, 6] (.reg [fa 8 6 2, xo 9 (.load true 2 (.t 8)), cl 10 J3 [9], mv 6 10]) (QI [] (QI [1, 2, 6, 11] (.reg [mv 11 1]) (.block 0 (QI [1, 2, 6, 11, 12] (.reg [bc 13 .eql 11 (V.str [97, 108, 108]), mv 12 13]) (.cond (.t 12) (QI [4, 5] (.reg [mc 4 (V.bool true), mc 5 (V.bool true)]) (.ret)) (QI [1, 2, 6, 11, 14] (.reg [bc 15 .eql 11 (V.str [104, 105, 103, 104]), mv 14 15]) (.cond (.t 14) (QI [4, 5] (.reg [mv 16 6, bc 17 .geq 16 (V.int 128), mv 4 17, mc 5 (V.bool true)]) (.ret)) (QI [1, 2, 6, 11, 18] (.reg [bc 19 .eql 11 (V.str [109, 101, 100, 105, 117, 109]), mv 18 19]) (.cond (.t 18) (QI [4, 5] (.reg [mv 20 6, bc 21 .geq 20 (V.int 112), mv 22 21, mg 23 6 22 true, xg 24 (.bin .lss (.t 23) (.c (V.int 128))) 22 true, xo 25 (.pick (.t 22) (.t 24) (.c (V.bool false))), mv 4 25, mc 5 (V.bool true)]) (.ret)) (QI [1, 2, 6, 11, 26] (.reg [bc 27 .eql 11 (V.str [108, 111, 119]), mv 26 27]) (.cond (.t 26) (QI [4, 5] (.reg [mv 28 6, bc 29 .lss 28 (V.int 112), mv 4 29, mc 5 (V.bool true)]) (.ret)) (QI [1, 2, 30] (QI [1, 2, 11, 30] (.reg [bc 31 .eql 11 (V.str [118, 49]), mv 30 31]) (.cond (.t 30) (.skip) (QI [1, 2, 11, 30] (.reg [bc 32 .eql 11 (V.str [118, 50]), mv 30 32]) (.cond (.t 30) (.skip) (QI [1, 2, 11, 30] (.reg [bc 33 .eql 11 (V.str [118, 51]), mv 30 33]) (.cond (.t 30) (.skip) (.reg [bc 34 .eql 11 (V.str [118, 52]), mv 30 34]))))))) (.cond (.t 30) (QI [2, 7] (.reg [mv 35 1, xo 36 (.idxS (.t 35) (.c (V.int 1))), bc 37 .sub 36 (.sc (.int .u8 48)), xo 38 (.convI .i64 (.t 37)), mv 7 38]) (QI [4, 5] (.reg [fa 39 10 2, ld 40 1 39, mv 41 7, bn 42 .leq 40 41, mv 43 42, mg 44 7 43 true, xg 45 (.faddr 11 (.t 2)) 43 true, xg 46 (.load false 1 (.t 45)) 43 true, xg 47 (.bin .leq (.t 44) (.t 46)) 43 true, xo 48 (.pick (.t 43) (.t 47) (.c (V.bool false))), mv 4 48, mc 5 (V.bool true)]) (.ret))) (.skip))))))))))))) (QI [4, 5] (.reg [mc 4 (V.bool false), mc 5 (V.bool false)]) (.ret)))) def r_suitespec_group : List XG := [.tmp 4, .tmp 5]
def VY (Γ : Env) (f : Nat) : Prop := ∀ (s : QV) (n : List UInt8), EvN Γ f [s.v, V.str n] (acY (UX n (Ye s.ci1 s.ci2) s.lo s.hi))
theorem xn {Γ : Env} {f J3 : Nat} (h : Has Γ.P f 49 (Uj J3) r_suitespec_group) (JB : WF Γ J3) : VY Γ f := by
  intro s n
  refine Jc h (by simp) (by first | exact vv _ | exact aci _) (by first | exact vv _ | exact aci _) fun C hC hm => ?_
  subst hC
  unfold Uj
  generalize hst : Ye s.ci1 s.ci2 = st
  by_cases hg : n ∈ W9
  · simp only [W9, List.mem_cons, List.not_mem_nil, or_false] at hg
    rcases hg with rfl | rfl | rfl | rfl | rfl | rfl | rfl | rfl
    · repeat' (first | refine Qp fun K' hK => ?_ | refine Qt fun K' hK => ?_ | refine Qq ?_ | refine Qr ?_ | refine Ql ?_ | ((first | refine Qs ⟨_, rfl, fun hc => ?_, fun hc => ?_⟩ | refine QQ (fun hc => ?_) (fun hc => ?_) | refine QR (fun hc => ?_) (fun hc => ?_)) <;> first | exact Bool.noConfusion hc | ((try simp only [znz] at hc); first | exact znf | skip)) | refine Qv ?_ | refine Qu ?_ | simp (maxSteps := 1000000) only [go_sem, Nat.reduceAdd, Nat.reduceMul, Nat.reduceEqDiff, Nat.reduceLeDiff, Nat.reduceLT, Nat.reduceSub, Int.reduceEq, Int.reduceBEq, Int.reduceLT, Int.reduceLE, Int.reduceAdd, Int.reduceToNat, reduceIte, reduceCtorEq, QV.v, QV.cells, hst] | (refine hK _ ?_; clear hK; clear K') | refine And.intro ?_ ?_ | (apply QT; (focus first | exact (JB _ _).b)) | exact zlo | omega | exact zms)
      all_goals (simp only [UX, acY, if_true]; refine Ja _ rfl ?_; simp only [go_sem, Nat.reduceEqDiff, Nat.reduceAdd, reduceIte, reduceCtorEq])
    · repeat' (first | refine Qp fun K' hK => ?_ | refine Qt fun K' hK => ?_ | refine Qq ?_ | refine Qr ?_ | refine Ql ?_ | ((first | refine Qs ⟨_, rfl, fun hc => ?_, fun hc => ?_⟩ | refine QQ (fun hc => ?_) (fun hc => ?_) | refine QR (fun hc => ?_) (fun hc => ?_)) <;> first | exact Bool.noConfusion hc | ((try simp only [znz] at hc); first | exact znf | skip)) | refine Qv ?_ | refine Qu ?_ | simp (maxSteps := 1000000) only [go_sem, Nat.reduceAdd, Nat.reduceMul, Nat.reduceEqDiff, Nat.reduceLeDiff, Nat.reduceLT, Nat.reduceSub, Int.reduceEq, Int.reduceBEq, Int.reduceLT, Int.reduceLE, Int.reduceAdd, Int.reduceToNat, reduceIte, reduceCtorEq, QV.v, QV.cells, hst] | (refine hK _ ?_; clear hK; clear K') | refine And.intro ?_ ?_ | (apply QT; (focus first | exact (JB _ _).b)) | exact zlo | omega | exact zms)
      all_goals (have e : UX [104, 105, 103, 104] st s.lo s.hi = some (decide (st ≥ 128)) := rfl; rw [e]; simp only [acY]; refine Ja _ rfl ?_; simp only [go_sem, Nat.reduceEqDiff, Nat.reduceAdd, reduceIte, reduceCtorEq])
    · have e : UX [109, 101, 100, 105, 117, 109] st s.lo s.hi = some (decide (st ≥ 112) && decide (st < 128)) := rfl
      rw [e]
      rcases h1 : decide (st ≥ 112) with _ | _ <;> rcases h2 : decide (st < 128) with _ | _
      all_goals
        repeat' (first | refine Qp fun K' hK => ?_ | refine Qt fun K' hK => ?_ | refine Qq ?_ | refine Qr ?_ | refine Ql ?_ | ((first | refine Qs ⟨_, rfl, fun hc => ?_, fun hc => ?_⟩ | refine QQ (fun hc => ?_) (fun hc => ?_) | refine QR (fun hc => ?_) (fun hc => ?_)) <;> first | exact Bool.noConfusion hc | ((try simp only [znz] at hc); first | exact znf | skip)) | refine Qv ?_ | refine Qu ?_ | simp (maxSteps := 1000000) only [go_sem, Nat.reduceAdd, Nat.reduceMul, Nat.reduceEqDiff, Nat.reduceLeDiff, Nat.reduceLT, Nat.reduceSub, Int.reduceEq, Int.reduceBEq, Int.reduceLT, Int.reduceLE, Int.reduceAdd, Int.reduceToNat, reduceIte, reduceCtorEq, QV.v, QV.cells, hst, h1, h2] | (refine hK _ ?_; clear hK; clear K') | refine And.intro ?_ ?_ | (apply QT; (focus first | exact (JB _ _).b)) | exact zlo | omega | exact zms)
        all_goals (simp only [acY, Bool.and_self, Bool.and_true, Bool.and_false, Bool.false_and, Bool.true_and]; refine Ja _ rfl ?_; simp only [go_sem, Nat.reduceEqDiff, Nat.reduceAdd, reduceIte, reduceCtorEq])
    · repeat' (first | refine Qp fun K' hK => ?_ | refine Qt fun K' hK => ?_ | refine Qq ?_ | refine Qr ?_ | refine Ql ?_ | ((first | refine Qs ⟨_, rfl, fun hc => ?_, fun hc => ?_⟩ | refine QQ (fun hc => ?_) (fun hc => ?_) | refine QR (fun hc => ?_) (fun hc => ?_)) <;> first | exact Bool.noConfusion hc | ((try simp only [znz] at hc); first | exact znf | skip)) | refine Qv ?_ | refine Qu ?_ | simp (maxSteps := 1000000) only [go_sem, Nat.reduceAdd, Nat.reduceMul, Nat.reduceEqDiff, Nat.reduceLeDiff, Nat.reduceLT, Nat.reduceSub, Int.reduceEq, Int.reduceBEq, Int.reduceLT, Int.reduceLE, Int.reduceAdd, Int.reduceToNat, reduceIte, reduceCtorEq, QV.v, QV.cells, hst] | (refine hK _ ?_; clear hK; clear K') | refine And.intro ?_ ?_ | (apply QT; (focus first | exact (JB _ _).b)) | exact zlo | omega | exact zms)
      all_goals (have e : UX [108, 111, 119] st s.lo s.hi = some (decide (st < 112)) := rfl; rw [e]; simp only [acY]; refine Ja _ rfl ?_; simp only [go_sem, Nat.reduceEqDiff, Nat.reduceAdd, reduceIte, reduceCtorEq])
    · have e : UX [118, 49] st s.lo s.hi = some (decide (s.lo ≤ 1) && decide (1 ≤ s.hi)) := rfl
      have ew : IntKind.i64.wrap (IntKind.u8.wrap (((UInt8.toNat 49 : Nat) : Int) - 48)) = 1 := rfl
      rw [e]
      rcases h1 : decide (s.lo ≤ 1) with _ | _ <;> rcases h2 : decide (1 ≤ s.hi) with _ | _
      all_goals
        repeat' (first | refine Qp fun K' hK => ?_ | refine Qt fun K' hK => ?_ | refine Qq ?_ | refine Qr ?_ | refine Ql ?_ | ((first | refine Qs ⟨_, rfl, fun hc => ?_, fun hc => ?_⟩ | refine QQ (fun hc => ?_) (fun hc => ?_) | refine QR (fun hc => ?_) (fun hc => ?_)) <;> first | exact Bool.noConfusion hc | ((try simp only [znz] at hc); first | exact znf | skip)) | refine Qv ?_ | refine Qu ?_ | simp (maxSteps := 1000000) only [go_sem, Nat.reduceAdd, Nat.reduceMul, Nat.reduceEqDiff, Nat.reduceLeDiff, Nat.reduceLT, Nat.reduceSub, Int.reduceEq, Int.reduceBEq, Int.reduceLT, Int.reduceLE, Int.reduceAdd, Int.reduceToNat, reduceIte, reduceCtorEq, QV.v, QV.cells, hst, ew, h1, h2] | (refine hK _ ?_; clear hK; clear K') | refine And.intro ?_ ?_ | (apply QT; (focus first | exact (JB _ _).b)) | exact zlo | omega | exact zms)
        all_goals (simp only [acY, Bool.and_self, Bool.and_true, Bool.and_false, Bool.false_and, Bool.true_and]; refine Ja _ rfl ?_; simp only [go_sem, Nat.reduceEqDiff, Nat.reduceAdd, reduceIte, reduceCtorEq])
    · have e : UX [118, 50] st s.lo s.hi = some (decide (s.lo ≤ 2) && decide (2 ≤ s.hi)) := rfl
      have ew : IntKind.i64.wrap (IntKind.u8.wrap (((UInt8.toNat 50 : Nat) : Int) - 48)) = 2 := rfl
      rw [e]
      rcases h1 : decide (s.lo ≤ 2) with _ | _ <;> rcases h2 : decide (2 ≤ s.hi) with _ | _
      all_goals
        repeat' (first | refine Qp fun K' hK => ?_ | refine Qt fun K' hK => ?_ | refine Qq ?_ | refine Qr ?_ | refine Ql ?_ | ((first | refine Qs ⟨_, rfl, fun hc => ?_, fun hc => ?_⟩ | refine QQ (fun hc => ?_) (fun hc => ?_) | refine QR (fun hc => ?_) (fun hc => ?_)) <;> first | exact Bool.noConfusion hc | ((try simp only [znz] at hc); first | exact znf | skip)) | refine Qv ?_ | refine Qu ?_ | simp (maxSteps := 1000000) only [go_sem, Nat.reduceAdd, Nat.reduceMul, Nat.reduceEqDiff, Nat.reduceLeDiff, Nat.reduceLT, Nat.reduceSub, Int.reduceEq, Int.reduceBEq, Int.reduceLT, Int.reduceLE, Int.reduceAdd, Int.reduceToNat, reduceIte, reduceCtorEq, QV.v, QV.cells, hst, ew, h1, h2] | (refine hK _ ?_; clear hK; clear K') | refine And.intro ?_ ?_ | (apply QT; (focus first | exact (JB _ _).b)) | exact zlo | omega | exact zms)
        all_goals (simp only [acY, Bool.and_self, Bool.and_true, Bool.and_false, Bool.false_and, Bool.true_and]; refine Ja _ rfl ?_; simp only [go_sem, Nat.reduceEqDiff, Nat.reduceAdd, reduceIte, reduceCtorEq])
    · have e : UX [118, 51] st s.lo s.hi = some (decide (s.lo ≤ 3) && decide (3 ≤ s.hi)) := rfl
      have ew : IntKind.i64.wrap (IntKind.u8.wrap (((UInt8.toNat 51 : Nat) : Int) - 48)) = 3 := rfl
      rw [e]
      rcases h1 : decide (s.lo ≤ 3) with _ | _ <;> rcases h2 : decide (3 ≤ s.hi) with _ | _
      all_goals
        repeat' (first | refine Qp fun K' hK => ?_ | refine Qt fun K' hK => ?_ | refine Qq ?_ | refine Qr ?_ | refine Ql ?_ | ((first | refine Qs ⟨_, rfl, fun hc => ?_, fun hc => ?_⟩ | refine QQ (fun hc => ?_) (fun hc => ?_) | refine QR (fun hc => ?_) (fun hc => ?_)) <;> first | exact Bool.noConfusion hc | ((try simp only [znz] at hc); first | exact znf | skip)) | refine Qv ?_ | refine Qu ?_ | simp (maxSteps := 1000000) only [go_sem, Nat.reduceAdd, Nat.reduceMul, Nat.reduceEqDiff, Nat.reduceLeDiff, Nat.reduceLT, Nat.reduceSub, Int.reduceEq, Int.reduceBEq, Int.reduceLT, Int.reduceLE, Int.reduceAdd, Int.reduceToNat, reduceIte, reduceCtorEq, QV.v, QV.cells, hst, ew, h1, h2] | (refine hK _ ?_; clear hK; clear K') | refine And.intro ?_ ?_ | (apply QT; (focus first | exact (JB _ _).b)) | exact zlo | omega | exact zms)
        all_goals (simp only [acY, Bool.and_self, Bool.and_true, Bool.and_false, Bool.false_and, Bool.true_and]; refine Ja _ rfl ?_; simp only [go_sem, Nat.reduceEqDiff, Nat.reduceAdd, reduceIte, reduceCtorEq])
    · have e : UX [118, 52] st s.lo s.hi = some (decide (s.lo ≤ 4) && decide (4 ≤ s.hi)) := rfl
      have ew : IntKind.i64.wrap (IntKind.u8.wrap (((UInt8.toNat 52 : Nat) : Int) - 48)) = 4 := rfl
      rw [e]
      rcases h1 : decide (s.lo ≤ 4) with _ | _ <;> rcases h2 : decide (4 ≤ s.hi) with _ | _
      all_goals
        repeat' (first | refine Qp fun K' hK => ?_ | refine Qt fun K' hK => ?_ | refine Qq ?_ | refine Qr ?_ | refine Ql ?_ | ((first | refine Qs ⟨_, rfl, fun hc => ?_, fun hc => ?_⟩ | refine QQ (fun hc => ?_) (fun hc => ?_) | refine QR (fun hc => ?_) (fun hc => ?_)) <;> first | exact Bool.noConfusion hc | ((try simp only [znz] at hc); first | exact znf | skip)) | refine Qv ?_ | refine Qu ?_ | simp (maxSteps := 1000000) only [go_sem, Nat.reduceAdd, Nat.reduceMul, Nat.reduceEqDiff, Nat.reduceLeDiff, Nat.reduceLT, Nat.reduceSub, Int.reduceEq, Int.reduceBEq, Int.reduceLT, Int.reduceLE, Int.reduceAdd, Int.reduceToNat, reduceIte, reduceCtorEq, QV.v, QV.cells, hst, ew, h1, h2] | (refine hK _ ?_; clear hK; clear K') | refine And.intro ?_ ?_ | (apply QT; (focus first | exact (JB _ _).b)) | exact zlo | omega | exact zms)
        all_goals (simp only [acY, Bool.and_self, Bool.and_true, Bool.and_false, Bool.false_and, Bool.true_and]; refine Ja _ rfl ?_; simp only [go_sem, Nat.reduceEqDiff, Nat.reduceAdd, reduceIte, reduceCtorEq])
  · rw [xX st s.lo s.hi hg]
    simp only [W9, List.mem_cons, List.not_mem_nil, or_false, not_or] at hg
    obtain ⟨h1, h2, h3, h4, h5, h6, h7, h8⟩ := hg
    have g1 := beq_eq_false_iff_ne.2 h1
    have g2 := beq_eq_false_iff_ne.2 h2
    have g3 := beq_eq_false_iff_ne.2 h3
    have g4 := beq_eq_false_iff_ne.2 h4
    have g5 := beq_eq_false_iff_ne.2 h5
    have g6 := beq_eq_false_iff_ne.2 h6
    have g7 := beq_eq_false_iff_ne.2 h7
    have g8 := beq_eq_false_iff_ne.2 h8
    repeat' (first | refine Qp fun K' hK => ?_ | refine Qt fun K' hK => ?_ | refine Qq ?_ | refine Qr ?_ | refine Ql ?_ | ((first | refine Qs ⟨_, rfl, fun hc => ?_, fun hc => ?_⟩ | refine QQ (fun hc => ?_) (fun hc => ?_) | refine QR (fun hc => ?_) (fun hc => ?_)) <;> first | exact Bool.noConfusion hc | ((try simp only [znz] at hc); first | exact znf | skip)) | refine Qv ?_ | refine Qu ?_ | simp (maxSteps := 1000000) only [go_sem, Nat.reduceAdd, Nat.reduceMul, Nat.reduceEqDiff, Nat.reduceLeDiff, Nat.reduceLT, Nat.reduceSub, Int.reduceEq, Int.reduceBEq, Int.reduceLT, Int.reduceLE, Int.reduceAdd, Int.reduceToNat, reduceIte, reduceCtorEq, QV.v, QV.cells, hst, g1, g2, g3, g4, g5, g6, g7, g8] | (refine hK _ ?_; clear hK; clear K') | refine And.intro ?_ ?_ | (apply QT; (focus first | exact (JB _ _).b)) | exact zlo | omega | exact zms)
    all_goals (simp only [acY]; refine Ja _ rfl ?_; simp only [go_sem, Nat.reduceEqDiff, Nat.reduceAdd, reduceIte, reduceCtorEq])
def yv (n : List UInt8) (s : QV) : Bool × Bool :=
  match UX n (Ye s.ci1 s.ci2) s.lo s.hi with
  | some b => (b, true)
  | none => ((decide (XU n 0 Yg > 0) && decide (WW (XU n 0 Yg) 0 [s.kx1, s.sg1, s.ci1, s.mc1] ≥ 0)) || (decide (qb n > 0) && s.code == qb n), decide (XU n 0 Yg > 0) || decide (qb n > 0))
def X5 (n : List UInt8) (s : QV) : Bool :=
  match UX n (qF s.code) s.lo s.hi with
  | some b => b
  | none => (decide (XU n 0 Yg > 0) && (s.kx1 == XU n 0 Yg || s.sg1 == XU n 0 Yg || s.ci1 == XU n 0 Yg || s.mc1 == XU n 0 Yg)) || s.name == n
def aeo (p : Bool × Bool) : V := .tup [V.bool p.1, V.bool p.2]
def Ui (WY YV Uv QJ : Nat) : AC := QI [1, 2] (.reg [xo 2 (.box true 12 (.t 0)), mc 4 (V.bool false), mc 5 (V.bool false)]) (QI [1, 2] (QI [1, 2, 6, 7] (.reg [xo 12 (.load true 12 (.t 2)), mv 13 1, cl 14 WY [12, 13], mv 11 14, ex 15 11 0, ex 16 11 1, mv 6 15, mv 7 16]) (QI [1, 2, 6, 17] (.reg [mv 17 7]) (.cond (.t 17) (QI [4, 5] (.reg [mv 18 6, mv 4 18, mc 5 (V.bool true)]) (.ret)) (.skip)))) (QI [2, 8, 9] (.reg [mv 19 1, cl 20 YV [19], mv 21 1, cl 22 Uv [21], mv 8 20, mv 9 22]) (QI [2, 8, 9, 10] (.reg [fa 23 2 2, fa 24 0 23, ld 25 1 24, fa 26 4 2, fa 27 0 26, ld 28 1 27, fa 29 6 2, fa 30 0 29, ld 31 1 30, fa 32 8 2, fa 33 0 32, ld 34 1 33, xo 35 (.bslice 4 1 false [(.int .i64 0)] [(0, (.t 25)), (1, (.t 28)), (2, (.t 31)), (3, (.t 34))]), mv 10 35]) (QI [4, 5] (.reg [mv 36 8, bc 37 .gtr 36 (V.int 0), mv 38 37, mg 39 10 38 true, mg 40 8 38 true, xg 41 (.call QJ [(.t 39), (.t 40)]) 38 true, xo 42 (.pick (.t 38) (.t 41) (.c (V.bool false))), mv 43 42, mg 44 9 43 false, xg 45 (.bin .gtr (.t 44) (.c (V.int 0))) 43 false, mg 46 45 43 false, xg 47 (.faddr 0 (.t 2)) 46 true, xg 48 (.load false 1 (.t 47)) 46 true, mg 49 9 46 true, xg 50 (.bin .eql (.t 48) (.t 49)) 46 true, xg 51 (.pick (.t 46) (.t 50) (.c (V.bool false))) 43 false, xo 52 (.pick (.t 43) (.c (V.bool true)) (.t 51)), mv 53 8, bc 54 .gtr 53 (V.int 0), mv 55 54, mg 56 9 55 false, xg 57 (.bin .gtr (.t 56) (.c (V.int 0))) 55 false, xo 58 (.pick (.t 55) (.c (V.bool true)) (.t 57)), mv 4 52, mv 5 58]) (.ret))))) def r_suitespec_named : List XG := [.tmp 4, .tmp 5]
def VX (Γ : Env) (f : Nat) : Prop := ∀ (s : QV) (n : List UInt8), EvN Γ f [s.v, V.str n] (aeo (yv n s))
theorem xm {Γ : Env} {f WY YV Uv QJ : Nat} (h : Has Γ.P f 59 (Ui WY YV Uv QJ) r_suitespec_named) (Ud : VY Γ WY) (Yk : V6 Γ YV) (yw : KD Γ Uv) (Qw : Jv Γ QJ) : VX Γ f := by
  intro s n
  refine Jc h (by simp) (by simp only [aeo, V.closed, QK, V.noSl, JM, and_self]) (by simp only [aeo, V.closed, QK, V.noSl, JM, and_self]) fun C hC hm => ?_
  subst hC
  unfold Ui
  have hg := (Ud s n).b
  rcases hn : UX n (Ye s.ci1 s.ci2) s.lo s.hi with _ | b
  · have e : yv n s = ((decide (XU n 0 Yg > 0) && decide (WW (XU n 0 Yg) 0 [s.kx1, s.sg1, s.ci1, s.mc1] ≥ 0)) || (decide (qb n > 0) && s.code == qb n), decide (XU n 0 Yg > 0) || decide (qb n > 0)) := by rw [yv, hn]
    rw [e]
    rw [hn] at hg
    simp only [acY, QV.v, QV.cells] at hg
    have hf := (Qw [s.kx1, s.sg1, s.ci1, s.mc1] (XU n 0 Yg) (by simp)).b
    simp only [List.map_cons, List.map_nil] at hf
    rcases h1 : decide (XU n 0 Yg > 0) with _ | _ <;> rcases h2 : decide (qb n > 0) with _ | _ <;> rcases h3 : decide (WW (XU n 0 Yg) 0 [s.kx1, s.sg1, s.ci1, s.mc1] ≥ 0) with _ | _
    all_goals
      rw [h3] at hf
      repeat' (first | refine Qp fun K' hK => ?_ | refine Qt fun K' hK => ?_ | refine Qq ?_ | refine Qr ?_ | refine Ql ?_ | ((first | refine Qs ⟨_, rfl, fun hc => ?_, fun hc => ?_⟩ | refine QQ (fun hc => ?_) (fun hc => ?_) | refine QR (fun hc => ?_) (fun hc => ?_)) <;> first | exact Bool.noConfusion hc | ((try simp only [znz] at hc); first | exact znf | skip)) | refine Qv ?_ | refine Qu ?_ | simp (maxSteps := 1000000) only [go_sem, Nat.reduceAdd, Nat.reduceMul, Nat.reduceEqDiff, Nat.reduceLeDiff, Nat.reduceLT, Nat.reduceSub, Int.reduceEq, Int.reduceBEq, Int.reduceLT, Int.reduceLE, Int.reduceAdd, Int.reduceToNat, reduceIte, reduceCtorEq, QV.v, QV.cells, h1, h2] | (refine hK _ ?_; clear hK; clear K') | refine And.intro ?_ ?_ | (apply QT; (focus first | exact hg | exact hf | exact (Ud _ _).b | exact (Yk _).b | exact (yw _).b | exact (Qw _ _ zsd).b)) | exact zlo | omega | exact zms)
      all_goals first | (simp only [aeo, Bool.and_self, Bool.and_true, Bool.and_false, Bool.false_and, Bool.true_and, Bool.or_self, Bool.or_true, Bool.or_false, Bool.false_or, Bool.true_or]; refine Ja _ rfl ?_; simp only [go_sem, Nat.reduceEqDiff, Nat.reduceAdd, reduceIte, reduceCtorEq]; done) | trace_state
  · have e : yv n s = (b, true) := by rw [yv, hn]
    rw [e]
    rw [hn] at hg
    simp only [acY, QV.v, QV.cells] at hg
    repeat' (first | refine Qp fun K' hK => ?_ | refine Qt fun K' hK => ?_ | refine Qq ?_ | refine Qr ?_ | refine Ql ?_ | ((first | refine Qs ⟨_, rfl, fun hc => ?_, fun hc => ?_⟩ | refine QQ (fun hc => ?_) (fun hc => ?_) | refine QR (fun hc => ?_) (fun hc => ?_)) <;> first | exact Bool.noConfusion hc | ((try simp only [znz] at hc); first | exact znf | skip)) | refine Qv ?_ | refine Qu ?_ | simp (maxSteps := 1000000) only [go_sem, Nat.reduceAdd, Nat.reduceMul, Nat.reduceEqDiff, Nat.reduceLeDiff, Nat.reduceLT, Nat.reduceSub, Int.reduceEq, Int.reduceBEq, Int.reduceLT, Int.reduceLE, Int.reduceAdd, Int.reduceToNat, reduceIte, reduceCtorEq, QV.v, QV.cells] | (refine hK _ ?_; clear hK; clear K') | refine And.intro ?_ ?_ | (apply QT; (focus first | exact hg | exact (Ud _ _).b | exact (Yk _).b | exact (yw _).b | exact (Qw _ _ zsd).b)) | exact zlo | omega | exact zms)
    all_goals first | (simp only [aeo]; refine Ja _ rfl ?_; simp only [go_sem, Nat.reduceEqDiff, Nat.reduceAdd, reduceIte, reduceCtorEq]; done) | trace_state
end Av
end
section
set_option linter.unusedSimpArgs false
set_option linter.unusedVariables false
set_option maxRecDepth 10000
set_option maxHeartbeats 4000000
namespace Av
open Go
attribute [local irreducible] AWp W8 V7 V8 awS awC KI awQ KY Ji XK KE awR XZ awB okR WO ris
def q9 (Q6 XY : Nat) : AC := QI [0, 3] (.reg [xo 3 (.box true 12 (.t 1)), mc 4 (V.bool false)]) (QI [0, 3, 5] (.reg [fa 8 0 3, ld 9 1 8, cl 10 Q6 [9], mv 5 10]) (QI [0, 3] (QI [0, 3, 5, 11] (.reg [mv 11 0]) (.block 0 (QI [0, 3, 5, 11, 12] (.reg [bc 13 .eql 11 (V.str [97, 108, 108]), mv 12 13]) (.cond (.t 12) (QI [4] (.reg [mc 4 (V.bool true)]) (.ret)) (QI [0, 3, 5, 11, 14] (.reg [bc 15 .eql 11 (V.str [104, 105, 103, 104]), mv 14 15]) (.cond (.t 14) (QI [4] (.reg [mv 16 5, bc 17 .geq 16 (V.int 128), mv 4 17]) (.ret)) (QI [0, 3, 5, 11, 18] (.reg [bc 19 .eql 11 (V.str [109, 101, 100, 105, 117, 109]), mv 18 19]) (.cond (.t 18) (QI [4] (.reg [mv 20 5, bc 21 .geq 20 (V.int 112), mv 22 21, mg 23 5 22 true, xg 24 (.bin .lss (.t 23) (.c (V.int 128))) 22 true, xo 25 (.pick (.t 22) (.t 24) (.c (V.bool false))), mv 4 25]) (.ret)) (QI [0, 3, 5, 11, 26] (.reg [bc 27 .eql 11 (V.str [108, 111, 119]), mv 26 27]) (.cond (.t 26) (QI [4] (.reg [mv 28 5, bc 29 .lss 28 (V.int 112), mv 4 29]) (.ret)) (QI [0, 3, 30] (QI [0, 3, 11, 30] (.reg [bc 31 .eql 11 (V.str [118, 49]), mv 30 31]) (.cond (.t 30) (.skip) (QI [0, 3, 11, 30] (.reg [bc 32 .eql 11 (V.str [118, 50]), mv 30 32]) (.cond (.t 30) (.skip) (QI [0, 3, 11, 30] (.reg [bc 33 .eql 11 (V.str [118, 51]), mv 30 33]) (.cond (.t 30) (.skip) (.reg [bc 34 .eql 11 (V.str [118, 52]), mv 30 34]))))))) (.cond (.t 30) (QI [3, 6] (.reg [mv 35 0, xo 36 (.idxS (.t 35) (.c (V.int 1))), bc 37 .sub 36 (.sc (.int .u8 48)), xo 38 (.convI .i64 (.t 37)), mv 6 38]) (QI [4] (.reg [fa 39 10 3, ld 40 1 39, mv 41 6, bn 42 .leq 40 41, mv 43 42, mg 44 6 43 true, xg 45 (.faddr 11 (.t 3)) 43 true, xg 46 (.load false 1 (.t 45)) 43 true, xg 47 (.bin .leq (.t 44) (.t 46)) 43 true, xo 48 (.pick (.t 43) (.t 47) (.c (V.bool false))), mv 4 48]) (.ret))) (.skip))))))))))))) (QI [0, 3] (QI [0, 3, 7] (.reg [mv 49 0, cl 50 XY [49], mv 7 50]) (QI [0, 3, 80] (.reg [mv 51 7, bc 52 .gtr 51 (V.int 0), mv 53 52, xg 54 (.faddr 2 (.t 3)) 53 true, xg 55 (.faddr 0 (.t 54)) 53 true, xg 56 (.load false 1 (.t 55)) 53 true, mg 57 7 53 true, xg 58 (.bin .eql (.t 56) (.t 57)) 53 true, mg 59 58 53 true, xg 60 (.faddr 4 (.t 3)) 59 false, xg 61 (.faddr 0 (.t 60)) 59 false, xg 62 (.load false 1 (.t 61)) 59 false, mg 63 7 59 false, xg 64 (.bin .eql (.t 62) (.t 63)) 59 false, xg 65 (.pick (.t 59) (.c (V.bool true)) (.t 64)) 53 true, mg 66 65 53 true, xg 67 (.faddr 6 (.t 3)) 66 false, xg 68 (.faddr 0 (.t 67)) 66 false, xg 69 (.load false 1 (.t 68)) 66 false, mg 70 7 66 false, xg 71 (.bin .eql (.t 69) (.t 70)) 66 false, xg 72 (.pick (.t 66) (.c (V.bool true)) (.t 71)) 53 true, mg 73 72 53 true, xg 74 (.faddr 8 (.t 3)) 73 false, xg 75 (.faddr 0 (.t 74)) 73 false, xg 76 (.load false 1 (.t 75)) 73 false, mg 77 7 73 false, xg 78 (.bin .eql (.t 76) (.t 77)) 73 false, xg 79 (.pick (.t 73) (.c (V.bool true)) (.t 78)) 53 true, xo 80 (.pick (.t 53) (.t 79) (.c (V.bool false)))]) (.cond (.t 80) (QI [4] (.reg [mc 4 (V.bool true)]) (.ret)) (.skip)))) (QI [4] (.reg [fa 81 1 3, ld 82 1 81, mv 83 0, bn 84 .eql 82 83, mv 4 84]) (.ret))))) def r_ref08_named : List XG := [.tmp 4]
def qk (Γ : Env) (f : Nat) : Prop := ∀ (n : List UInt8) (s : QV), EvN Γ f [V.str n, s.v] (V.bool (X5 n s))
theorem aau {Γ : Env} {f Q6 XY : Nat} (h : Has Γ.P f 85 (q9 Q6 XY) r_ref08_named) (Q5 : Wf Γ Q6) (Yv : Kg Γ XY) : qk Γ f := by
  intro n s
  refine Jc h (by simp) (by simp only [V.closed, QK, V.noSl, JM, and_self, and_true, true_and]) (by simp only [V.closed, QK, V.noSl, JM, and_self, and_true, true_and]) fun C hC hm => ?_
  subst hC
  unfold q9
  generalize hst : qF s.code = st
  by_cases hg : n ∈ W9
  · simp only [W9, List.mem_cons, List.not_mem_nil, or_false] at hg
    rcases hg with rfl | rfl | rfl | rfl | rfl | rfl | rfl | rfl
    · have e : X5 [97, 108, 108] s = true := rfl
      rw [e]
      repeat' (first | refine Qp fun K' hK => ?_ | refine Qt fun K' hK => ?_ | refine Qq ?_ | refine Qr ?_ | refine Ql ?_ | ((first | refine Qs ⟨_, rfl, fun hc => ?_, fun hc => ?_⟩ | refine QQ (fun hc => ?_) (fun hc => ?_) | refine QR (fun hc => ?_) (fun hc => ?_)) <;> first | exact Bool.noConfusion hc | ((try simp only [znz] at hc); first | exact znf | skip)) | refine Qv ?_ | refine Qu ?_ | simp (maxSteps := 1000000) only [go_sem, Nat.reduceAdd, Nat.reduceMul, Nat.reduceEqDiff, Nat.reduceLeDiff, Nat.reduceLT, Nat.reduceSub, Int.reduceEq, Int.reduceBEq, Int.reduceLT, Int.reduceLE, Int.reduceAdd, Int.reduceToNat, reduceIte, reduceCtorEq, QV.v, QV.cells, hst] | (refine hK _ ?_; clear hK; clear K') | refine And.intro ?_ ?_ | (apply QT; (focus first | exact (Q5 _).b | exact (Yv _).b)) | exact zlo | omega | exact zms)
      all_goals (refine Ja _ rfl ?_; simp only [go_sem, Nat.reduceEqDiff, Nat.reduceAdd, reduceIte, reduceCtorEq])
    · have e : X5 [104, 105, 103, 104] s = decide (qF s.code ≥ 128) := rfl
      rw [e, hst]
      repeat' (first | refine Qp fun K' hK => ?_ | refine Qt fun K' hK => ?_ | refine Qq ?_ | refine Qr ?_ | refine Ql ?_ | ((first | refine Qs ⟨_, rfl, fun hc => ?_, fun hc => ?_⟩ | refine QQ (fun hc => ?_) (fun hc => ?_) | refine QR (fun hc => ?_) (fun hc => ?_)) <;> first | exact Bool.noConfusion hc | ((try simp only [znz] at hc); first | exact znf | skip)) | refine Qv ?_ | refine Qu ?_ | simp (maxSteps := 1000000) only [go_sem, Nat.reduceAdd, Nat.reduceMul, Nat.reduceEqDiff, Nat.reduceLeDiff, Nat.reduceLT, Nat.reduceSub, Int.reduceEq, Int.reduceBEq, Int.reduceLT, Int.reduceLE, Int.reduceAdd, Int.reduceToNat, reduceIte, reduceCtorEq, QV.v, QV.cells, hst] | (refine hK _ ?_; clear hK; clear K') | refine And.intro ?_ ?_ | (apply QT; (focus first | exact (Q5 _).b | exact (Yv _).b)) | exact zlo | omega | exact zms)
      all_goals (refine Ja _ rfl ?_; simp only [go_sem, Nat.reduceEqDiff, Nat.reduceAdd, reduceIte, reduceCtorEq])
    · have e : X5 [109, 101, 100, 105, 117, 109] s = (decide (qF s.code ≥ 112) && decide (qF s.code < 128)) := rfl
      rw [e, hst]
      rcases h1 : decide (st ≥ 112) with _ | _ <;> rcases h2 : decide (st < 128) with _ | _
      all_goals
        repeat' (first | refine Qp fun K' hK => ?_ | refine Qt fun K' hK => ?_ | refine Qq ?_ | refine Qr ?_ | refine Ql ?_ | ((first | refine Qs ⟨_, rfl, fun hc => ?_, fun hc => ?_⟩ | refine QQ (fun hc => ?_) (fun hc => ?_) | refine QR (fun hc => ?_) (fun hc => ?_)) <;> first | exact Bool.noConfusion hc | ((try simp only [znz] at hc); first | exact znf | skip)) | refine Qv ?_ | refine Qu ?_ | simp (maxSteps := 1000000) only [go_sem, Nat.reduceAdd, Nat.reduceMul, Nat.reduceEqDiff, Nat.reduceLeDiff, Nat.reduceLT, Nat.reduceSub, Int.reduceEq, Int.reduceBEq, Int.reduceLT, Int.reduceLE, Int.reduceAdd, Int.reduceToNat, reduceIte, reduceCtorEq, QV.v, QV.cells, hst, h1, h2] | (refine hK _ ?_; clear hK; clear K') | refine And.intro ?_ ?_ | (apply QT; (focus first | exact (Q5 _).b | exact (Yv _).b)) | exact zlo | omega | exact zms)
        all_goals ((try simp only [Bool.and_self, Bool.and_true, Bool.and_false, Bool.false_and, Bool.true_and]); refine Ja _ rfl ?_; simp only [go_sem, Nat.reduceEqDiff, Nat.reduceAdd, reduceIte, reduceCtorEq])
    · have e : X5 [108, 111, 119] s = decide (qF s.code < 112) := rfl
      rw [e, hst]
      repeat' (first | refine Qp fun K' hK => ?_ | refine Qt fun K' hK => ?_ | refine Qq ?_ | refine Qr ?_ | refine Ql ?_ | ((first | refine Qs ⟨_, rfl, fun hc => ?_, fun hc => ?_⟩ | refine QQ (fun hc => ?_) (fun hc => ?_) | refine QR (fun hc => ?_) (fun hc => ?_)) <;> first | exact Bool.noConfusion hc | ((try simp only [znz] at hc); first | exact znf | skip)) | refine Qv ?_ | refine Qu ?_ | simp (maxSteps := 1000000) only [go_sem, Nat.reduceAdd, Nat.reduceMul, Nat.reduceEqDiff, Nat.reduceLeDiff, Nat.reduceLT, Nat.reduceSub, Int.reduceEq, Int.reduceBEq, Int.reduceLT, Int.reduceLE, Int.reduceAdd, Int.reduceToNat, reduceIte, reduceCtorEq, QV.v, QV.cells, hst] | (refine hK _ ?_; clear hK; clear K') | refine And.intro ?_ ?_ | (apply QT; (focus first | exact (Q5 _).b | exact (Yv _).b)) | exact zlo | omega | exact zms)
      all_goals (refine Ja _ rfl ?_; simp only [go_sem, Nat.reduceEqDiff, Nat.reduceAdd, reduceIte, reduceCtorEq])
    · have e : X5 [118, 49] s = (decide (s.lo ≤ 1) && decide (1 ≤ s.hi)) := rfl
      have ew : IntKind.i64.wrap (IntKind.u8.wrap (((UInt8.toNat 49 : Nat) : Int) - 48)) = 1 := rfl
      rw [e]
      rcases h1 : decide (s.lo ≤ 1) with _ | _ <;> rcases h2 : decide (1 ≤ s.hi) with _ | _
      all_goals
        repeat' (first | refine Qp fun K' hK => ?_ | refine Qt fun K' hK => ?_ | refine Qq ?_ | refine Qr ?_ | refine Ql ?_ | ((first | refine Qs ⟨_, rfl, fun hc => ?_, fun hc => ?_⟩ | refine QQ (fun hc => ?_) (fun hc => ?_) | refine QR (fun hc => ?_) (fun hc => ?_)) <;> first | exact Bool.noConfusion hc | ((try simp only [znz] at hc); first | exact znf | skip)) | refine Qv ?_ | refine Qu ?_ | simp (maxSteps := 1000000) only [go_sem, Nat.reduceAdd, Nat.reduceMul, Nat.reduceEqDiff, Nat.reduceLeDiff, Nat.reduceLT, Nat.reduceSub, Int.reduceEq, Int.reduceBEq, Int.reduceLT, Int.reduceLE, Int.reduceAdd, Int.reduceToNat, reduceIte, reduceCtorEq, QV.v, QV.cells, hst, ew, h1, h2] | (refine hK _ ?_; clear hK; clear K') | refine And.intro ?_ ?_ | (apply QT; (focus first | exact (Q5 _).b | exact (Yv _).b)) | exact zlo | omega | exact zms)
        all_goals ((try simp only [Bool.and_self, Bool.and_true, Bool.and_false, Bool.false_and, Bool.true_and]); refine Ja _ rfl ?_; simp only [go_sem, Nat.reduceEqDiff, Nat.reduceAdd, reduceIte, reduceCtorEq])
    · have e : X5 [118, 50] s = (decide (s.lo ≤ 2) && decide (2 ≤ s.hi)) := rfl
      have ew : IntKind.i64.wrap (IntKind.u8.wrap (((UInt8.toNat 50 : Nat) : Int) - 48)) = 2 := rfl
      rw [e]
      rcases h1 : decide (s.lo ≤ 2) with _ | _ <;> rcases h2 : decide (2 ≤ s.hi) with _ | _
      all_goals
        repeat' (first | refine Qp fun K' hK => ?_ | refine Qt fun K' hK => ?_ | refine Qq ?_ | refine Qr ?_ | refine Ql ?_ | ((first | refine Qs ⟨_, rfl, fun hc => ?_, fun hc => ?_⟩ | refine QQ (fun hc => ?_) (fun hc => ?_) | refine QR (fun hc => ?_) (fun hc => ?_)) <;> first | exact Bool.noConfusion hc | ((try simp only [znz] at hc); first | exact znf | skip)) | refine Qv ?_ | refine Qu ?_ | simp (maxSteps := 1000000) only [go_sem, Nat.reduceAdd, Nat.reduceMul, Nat.reduceEqDiff, Nat.reduceLeDiff, Nat.reduceLT, Nat.reduceSub, Int.reduceEq, Int.reduceBEq, Int.reduceLT, Int.reduceLE, Int.reduceAdd, Int.reduceToNat, reduceIte, reduceCtorEq, QV.v, QV.cells, hst, ew, h1, h2] | (refine hK _ ?_; clear hK; clear K') | refine And.intro ?_ ?_ | (apply QT; (focus first | exact (Q5 _).b | exact (Yv _).b)) | exact zlo | omega | exact zms)
        all_goals ((try simp only [Bool.and_self, Bool.and_true, Bool.and_false, Bool.false_and, Bool.true_and]); refine Ja _ rfl ?_; simp only [go_sem, Nat.reduceEqDiff, Nat.reduceAdd, reduceIte, reduceCtorEq])
    · have e : X5 [118, 51] s = (decide (s.lo ≤ 3) && decide (3 ≤ s.hi)) := rfl
      have ew : IntKind.i64.wrap (IntKind.u8.wrap (((UInt8.toNat 51 : Nat) : Int) - 48)) = 3 := rfl
      rw [e]
      rcases h1 : decide (s.lo ≤ 3) with _ | _ <;> rcases h2 : decide (3 ≤ s.hi) with _ | _
      all_goals
        repeat' (first | refine Qp fun K' hK => ?_ | refine Qt fun K' hK => ?_ | refine Qq ?_ | refine Qr ?_ | refine Ql ?_ | ((first | refine Qs ⟨_, rfl, fun hc => ?_, fun hc => ?_⟩ | refine QQ (fun hc => ?_) (fun hc => ?_) | refine QR (fun hc => ?_) (fun hc => ?_)) <;> first | exact Bool.noConfusion hc | ((try simp only [znz] at hc); first | exact znf | skip)) | refine Qv ?_ | refine Qu ?_ | simp (maxSteps := 1000000) only [go_sem, Nat.reduceAdd, Nat.reduceMul, Nat.reduceEqDiff, Nat.reduceLeDiff, Nat.reduceLT, Nat.reduceSub, Int.reduceEq, Int.reduceBEq, Int.reduceLT, Int.reduceLE, Int.reduceAdd, Int.reduceToNat, reduceIte, reduceCtorEq, QV.v, QV.cells, hst, ew, h1, h2] | (refine hK _ ?_; clear hK; clear K') | refine And.intro ?_ ?_ | (apply QT; (focus first | exact (Q5 _).b | exact (Yv _).b)) | exact zlo | omega | exact zms)
        all_goals ((try simp only [Bool.and_self, Bool.and_true, Bool.and_false, Bool.false_and, Bool.true_and]); refine Ja _ rfl ?_; simp only [go_sem, Nat.reduceEqDiff, Nat.reduceAdd, reduceIte, reduceCtorEq])
    · have e : X5 [118, 52] s = (decide (s.lo ≤ 4) && decide (4 ≤ s.hi)) := rfl
      have ew : IntKind.i64.wrap (IntKind.u8.wrap (((UInt8.toNat 52 : Nat) : Int) - 48)) = 4 := rfl
      rw [e]
      rcases h1 : decide (s.lo ≤ 4) with _ | _ <;> rcases h2 : decide (4 ≤ s.hi) with _ | _
      all_goals
        repeat' (first | refine Qp fun K' hK => ?_ | refine Qt fun K' hK => ?_ | refine Qq ?_ | refine Qr ?_ | refine Ql ?_ | ((first | refine Qs ⟨_, rfl, fun hc => ?_, fun hc => ?_⟩ | refine QQ (fun hc => ?_) (fun hc => ?_) | refine QR (fun hc => ?_) (fun hc => ?_)) <;> first | exact Bool.noConfusion hc | ((try simp only [znz] at hc); first | exact znf | skip)) | refine Qv ?_ | refine Qu ?_ | simp (maxSteps := 1000000) only [go_sem, Nat.reduceAdd, Nat.reduceMul, Nat.reduceEqDiff, Nat.reduceLeDiff, Nat.reduceLT, Nat.reduceSub, Int.reduceEq, Int.reduceBEq, Int.reduceLT, Int.reduceLE, Int.reduceAdd, Int.reduceToNat, reduceIte, reduceCtorEq, QV.v, QV.cells, hst, ew, h1, h2] | (refine hK _ ?_; clear hK; clear K') | refine And.intro ?_ ?_ | (apply QT; (focus first | exact (Q5 _).b | exact (Yv _).b)) | exact zlo | omega | exact zms)
        all_goals ((try simp only [Bool.and_self, Bool.and_true, Bool.and_false, Bool.false_and, Bool.true_and]); refine Ja _ rfl ?_; simp only [go_sem, Nat.reduceEqDiff, Nat.reduceAdd, reduceIte, reduceCtorEq])
  · have e : X5 n s = ((decide (XU n 0 Yg > 0) && (s.kx1 == XU n 0 Yg || s.sg1 == XU n 0 Yg || s.ci1 == XU n 0 Yg || s.mc1 == XU n 0 Yg)) || s.name == n) := by rw [X5, xX _ _ _ hg]
    rw [e]
    simp only [W9, List.mem_cons, List.not_mem_nil, or_false, not_or] at hg
    obtain ⟨h1, h2, h3, h4, h5, h6, h7, h8⟩ := hg
    have g1 := beq_eq_false_iff_ne.2 h1
    have g2 := beq_eq_false_iff_ne.2 h2
    have g3 := beq_eq_false_iff_ne.2 h3
    have g4 := beq_eq_false_iff_ne.2 h4
    have g5 := beq_eq_false_iff_ne.2 h5
    have g6 := beq_eq_false_iff_ne.2 h6
    have g7 := beq_eq_false_iff_ne.2 h7
    have g8 := beq_eq_false_iff_ne.2 h8
    generalize hf : XU n 0 Yg = a
    rcases k0 : decide (a > 0) with _ | _
    · repeat' (first | refine Qp fun K' hK => ?_ | refine Qt fun K' hK => ?_ | refine Qq ?_ | refine Qr ?_ | refine Ql ?_ | ((first | refine Qs ⟨_, rfl, fun hc => ?_, fun hc => ?_⟩ | refine QQ (fun hc => ?_) (fun hc => ?_) | refine QR (fun hc => ?_) (fun hc => ?_)) <;> first | exact Bool.noConfusion hc | ((try simp only [znz] at hc); first | exact znf | skip)) | refine Qv ?_ | refine Qu ?_ | simp (maxSteps := 1000000) only [go_sem, Nat.reduceAdd, Nat.reduceMul, Nat.reduceEqDiff, Nat.reduceLeDiff, Nat.reduceLT, Nat.reduceSub, Int.reduceEq, Int.reduceBEq, Int.reduceLT, Int.reduceLE, Int.reduceAdd, Int.reduceToNat, reduceIte, reduceCtorEq, QV.v, QV.cells, hst, hf, k0, g1, g2, g3, g4, g5, g6, g7, g8] | (refine hK _ ?_; clear hK; clear K') | refine And.intro ?_ ?_ | (apply QT; (focus first | exact (Q5 _).b | exact (Yv _).b)) | exact zlo | omega | exact zms)
      all_goals ((try simp only [Bool.false_and, Bool.false_or]); refine Ja _ rfl ?_; simp only [go_sem, Nat.reduceEqDiff, Nat.reduceAdd, reduceIte, reduceCtorEq])
    · rcases k1 : s.kx1 == a with _ | _ <;> rcases k2 : s.sg1 == a with _ | _ <;> rcases k3 : s.ci1 == a with _ | _ <;> rcases k4 : s.mc1 == a with _ | _
      all_goals
        repeat' (first | refine Qp fun K' hK => ?_ | refine Qt fun K' hK => ?_ | refine Qq ?_ | refine Qr ?_ | refine Ql ?_ | ((first | refine Qs ⟨_, rfl, fun hc => ?_, fun hc => ?_⟩ | refine QQ (fun hc => ?_) (fun hc => ?_) | refine QR (fun hc => ?_) (fun hc => ?_)) <;> first | exact Bool.noConfusion hc | ((try simp only [znz] at hc); first | exact znf | skip)) | refine Qv ?_ | refine Qu ?_ | simp (maxSteps := 1000000) only [go_sem, Nat.reduceAdd, Nat.reduceMul, Nat.reduceEqDiff, Nat.reduceLeDiff, Nat.reduceLT, Nat.reduceSub, Int.reduceEq, Int.reduceBEq, Int.reduceLT, Int.reduceLE, Int.reduceAdd, Int.reduceToNat, reduceIte, reduceCtorEq, QV.v, QV.cells, hst, hf, k0, k1, k2, k3, k4, g1, g2, g3, g4, g5, g6, g7, g8] | (refine hK _ ?_; clear hK; clear K') | refine And.intro ?_ ?_ | (apply QT; (focus first | exact (Q5 _).b | exact (Yv _).b)) | exact zlo | omega | exact zms)
        all_goals first | ((try simp only [Bool.and_self, Bool.and_true, Bool.and_false, Bool.false_and, Bool.true_and, Bool.or_self, Bool.or_true, Bool.or_false, Bool.false_or, Bool.true_or]); refine Ja _ rfl ?_; simp only [go_sem, Nat.reduceEqDiff, Nat.reduceAdd, reduceIte, reduceCtorEq]; done) | trace_state
end Av
end
section
set_option linter.unusedSimpArgs false
set_option linter.unusedVariables false
set_option maxRecDepth 10000
set_option maxHeartbeats 4000000
namespace Av
open Go
attribute [local irreducible] AWp W8 V7 V8 awS awC KI awQ KY Ji XK KE awR XZ awB okR WO ris
theorem adT {α : Type} (p : α → Bool) : ∀ (l : List α) (k : Nat), 0 ≤ vA p k l → ∃ j x, l[j]? = some x ∧ p x = true ∧ vA p k l = ((k + j : Nat) : Int)
  | [], k, h => by simp [vA] at h
  | x :: r, k, h => by
    by_cases hx : p x = true
    · exact ⟨0, x, rfl, hx, by simp [vA, hx]⟩
    · have e : vA p k (x :: r) = vA p (k + 1) r := by simp [vA, hx]
      rw [e] at h ⊢
      obtain ⟨j, y, h1, h2, h3⟩ := adT p r (k + 1) h
      exact ⟨j + 1, y, by simpa using h1, h2, by rw [h3]; congr 1; omega⟩
theorem qy (x : Int) : ∀ (l : List Int) (k : Nat), 0 ≤ WW x k l ↔ x ∈ l
  | [], k => by simp [WW]
  | y :: r, k => by
    by_cases hy : y = x
    · subst hy; simp [WW]
    · have := qy x r (k + 1)
      have e : WW x k (y :: r) = WW x (k + 1) r := by rw [WW, if_neg (fun h => hy h.symm)]
      rw [e, this, List.mem_cons]
      exact ⟨Or.inr, fun h => h.elim (fun h => absurd h.symm hy) id⟩
theorem af5 : ∀ s ∈ Jg, qb s.name = s.code := by decide
theorem ac3 : ∀ s ∈ Jg, qF s.code = Ye s.ci1 s.ci2 := by decide
theorem aeT {s : QV} (hs : s ∈ Jg) (n : List UInt8) : (decide (qb n > 0) && s.code == qb n) = (s.name == n) := by
  by_cases h : s.name = n
  · subst h
    have h1 := af5 s hs
    obtain ⟨k, hk, hg⟩ := List.getElem_of_mem hs
    have h2 := abK k hk s (by rw [List.getElem?_eq_getElem hk, hg])
    have h3 : qb s.name > 0 := by rw [h1, h2]; omega
    simp [h3, h1]; omega
  · have e : (s.name == n) = false := by simpa using h
    rw [e, Bool.and_eq_false_iff]
    by_cases h0 : qb n > 0
    · right
      simp only [beq_eq_false_iff_ne, ne_eq]
      intro hc
      obtain ⟨j, x, h1, h2, h3⟩ := adT (fun s : QV => s.name == n) Jg 0 (by unfold qb at h0; omega)
      obtain ⟨k, hk, hg⟩ := List.getElem_of_mem hs
      have h4 := abK k hk s (by rw [List.getElem?_eq_getElem hk, hg])
      have hkj : k = j := by unfold qb at hc; omega
      subst hkj
      rw [List.getElem?_eq_getElem hk, hg] at h1
      cases h1
      exact h (by simpa using h2)
    · left; simpa using h0
theorem aeG {n : List UInt8} (st lo hi : Int) (h : n ∈ W9) : ∃ b, UX n st lo hi = some b := by
  simp only [W9, List.mem_cons, List.not_mem_nil, or_false] at h
  rcases h with rfl | rfl | rfl | rfl | rfl | rfl | rfl | rfl <;> exact ⟨_, rfl⟩
theorem adj {n : List UInt8} {s : QV} : (yv n s).2 = WL n := by
  by_cases h : n ∈ W9
  · obtain ⟨b, hb⟩ := aeG (Ye s.ci1 s.ci2) s.lo s.hi h
    rw [yv, hb, WL]; simp [h]
  · rw [yv, xX _ _ _ h, WL]; simp [h]
theorem aeB {s : QV} (hs : s ∈ Jg) (n : List UInt8) : X5 n s = (yv n s).1 := by
  have h1 := ac3 s hs
  have h2 := aeT hs n
  have h3 : decide (WW (XU n 0 Yg) 0 [s.kx1, s.sg1, s.ci1, s.mc1] ≥ 0) = (s.kx1 == XU n 0 Yg || s.sg1 == XU n 0 Yg || s.ci1 == XU n 0 Yg || s.mc1 == XU n 0 Yg) := by
    rw [Bool.eq_iff_iff]
    simp only [decide_eq_true_eq, ge_iff_le, qy, List.mem_cons, List.not_mem_nil, or_false, Bool.or_eq_true, beq_iff_eq]
    constructor
    · rintro (h | h | h | h) <;> simp [h]
    · rintro (((h | h) | h) | h) <;> simp [h]
  rw [X5, yv, h1]
  cases UX n (Ye s.ci1 s.ci2) s.lo s.hi with
  | some b => rfl
  | none => simp only [h2, h3]
end Av
end
section
set_option linter.unusedSimpArgs false
set_option linter.unusedVariables false
set_option maxRecDepth 10000
set_option maxHeartbeats 4000000
namespace Av
open Go
attribute [local irreducible] AWp W8 V7 V8 awS awC KI awQ KY Ji XK KE awR XZ awB okR WO ris
def Xu (c : UInt8) : List UInt8 → List UInt8 → List (List UInt8)
  | cur, [] => [cur]
  | cur, x :: r => if x = c then cur :: Xu c [] r else Xu c (cur ++ [x]) r
def JW (c : UInt8) (s : List UInt8) : List (List UInt8) := Xu c [] s
theorem ab3 (c : UInt8) : ∀ (r cur : List UInt8), Xu c cur r ≠ []
  | [], cur => by simp [Xu]
  | x :: r, cur => by
    rw [Xu]; split
    · simp
    · exact ab3 c r _
def q8 : AC := QI [0, 1] (.reg [xo 4 (.mknil 1)]) (QI [0, 1, 5] (.reg [xo 5 (.mknil 1)]) (QI [0, 1, 5, 6] (.reg [mc 6 (V.int 0)]) (QI [5] (QI [0, 1, 5, 6, 7] (.reg [mc 7 (V.int 0)]) (.block 0 (X2 [0, 1, 5, 6, 7] (QI [0, 1, 5, 6, 7] (QI [0, 1, 5, 6, 7, 11] (.reg [mv 8 7, mv 9 0, xo 10 (.lenS (.t 9)), bn 11 .leq 8 10]) (.cond (.t 11) (.skip) (.exit 0))) (QI [0, 1, 5, 6, 7] (.block 1 (QI [0, 1, 5, 6, 7, 24] (.reg [mv 14 7, mv 15 0, xo 16 (.lenS (.t 15)), bn 17 .eql 14 16, mv 18 17, mg 19 0 18 false, mg 20 7 18 false, xg 21 (.idxS (.t 19) (.t 20)) 18 false, mg 22 1 18 false, xg 23 (.bin .eql (.t 21) (.t 22)) 18 false, xo 24 (.pick (.t 18) (.c (V.bool true)) (.t 23))]) (.cond (.t 24) (QI [0, 1, 5, 7] (.reg [mv 25 5, mv 26 0, mv 27 6, mv 28 7, xo 29 (.slstr (.t 26) (some (.t 27)) (some (.t 28))), xo 30 (.bslice 1 1 false [(.string ⟨#[]⟩)] [(0, (.t 29))]), xo 31 (.append 1 16 [(.string ⟨#[]⟩)] (.t 25) (.t 30)), mv 5 31]) (.reg [mv 32 7, bc 33 .add 32 (V.int 1), mv 6 33])) (.skip)))) (.reg [mv 12 7, bc 13 .add 12 (V.int 1), mv 7 13])))))) (QI [4] (.reg [mv 34 5, mv 4 34]) (.ret))))) def r_ref08_split : List XG := [.tmp 4]
def qj (Γ : Env) (f : Nat) : Prop := ∀ (s : List UInt8) (c : UInt8) (hs : s.length < 2 ^ 34), EvC Γ f [V.str s, .sc (.int .u8 c.toNat)] (.sl 1 ((JW c s).map V.str))
theorem aat {Γ : Env} {f : Nat} (h : Has Γ.P f 35 q8 r_ref08_split)  : qj Γ f := by
  intro s c hs
  refine Wy h (by simp) (by simp only [V.closed]) fun C hC hm => ?_
  subst hC
  unfold q8
  repeat' (first | refine Qp fun K' hK => ?_ | refine Qt fun K' hK => ?_ | refine Qq ?_ | refine Qr ?_ | refine Ql ?_ | ((first | refine Qs ⟨_, rfl, fun hc => ?_, fun hc => ?_⟩ | refine QQ (fun hc => ?_) (fun hc => ?_) | refine QR (fun hc => ?_) (fun hc => ?_)) <;> first | exact Bool.noConfusion hc | ((try simp only [znz] at hc); first | exact znf | skip)) | refine Qv ?_ | refine Qu ?_ | simp (maxSteps := 1000000) only [go_sem, Nat.reduceAdd, Nat.reduceMul, Nat.reduceEqDiff, Nat.reduceLeDiff, Nat.reduceLT, Nat.reduceSub, Int.reduceEq, Int.reduceBEq, Int.reduceLT, Int.reduceLE, Int.reduceAdd, Int.reduceToNat, reduceIte, reduceCtorEq] | (refine hK _ ?_; clear hK; clear K') | refine And.intro ?_ ?_ | exact zlo | omega | exact zms)
  refine Ju (ι := Nat × Nat × List (List UInt8)) (fun p => p.1 ≤ s.length + 1 ∧ p.2.1 ≤ p.1 ∧ p.2.2.length ≤ p.1 ∧ (p.1 ≤ s.length → p.2.2 ++ Xu c ((s.take p.1).drop p.2.1) (s.drop p.1) = JW c s) ∧ (p.1 = s.length + 1 → p.2.2 = JW c s))
    (fun p => J0 [(0, V.str s), (1, .sc (.int .u8 c.toNat)), (5, .hd 0 0 p.2.2.length), (6, V.int p.2.1), (7, V.int p.1)] [(0, .buf true 1 (p.2.2.map V.str))] 1) (fun p => s.length + 2 - p.1) (0, 0, []) ⟨by simp, by simp, by simp, fun _ => by simp [JW], fun h => by simp at h⟩ (Jb [(0, 1000)]) (Jd [(0, 1000)] (by simp only [go_sem, Nat.reduceAdd, Nat.reduceMul, Nat.reduceEqDiff, Nat.reduceLT, Int.reduceToNat, reduceIte, reduceCtorEq, and_true, true_and, implies_true, Option.some.injEq, exists_eq_left', Qk, Qm]; (repeat' (first | rfl | refine And.intro ?_ ?_ | omega | exact fun h => h | exact Exists.intro _ rfl))) (by simp only [go_sem, Nat.reduceAdd, Nat.reduceMul, Nat.reduceEqDiff, Nat.reduceLT, Int.reduceToNat, reduceIte, reduceCtorEq, and_true, true_and, implies_true, Option.some.injEq, exists_eq_left', Qk, Qm]; (repeat' (first | rfl | refine And.intro ?_ ?_ | omega | exact fun h => h | exact Exists.intro _ rfl))) (by simp) (by simp; omega) (by omega)) fun p hp K' hL => ?_
  obtain ⟨k, fr, out⟩ := p
  obtain ⟨h1, h2, h3, h4, h5⟩ := hp
  simp only at h1 h2 h3 h4 h5
  by_cases hk : k ≤ s.length
  · have e1 : decide ((k : Int) ≤ s.length) = true := by simp; omega
    have hw : IntKind.i64.wrap ((k : Int) + 1) = ((k + 1 : Nat) : Int) := by rw [JY (by omega) (by omega)]; rfl
    have hcur : List.take (k - fr) (List.drop fr s) = (s.take k).drop fr := by rw [List.drop_take]
    have hb : List.take out.length (List.map V.str out) ++ [V.sc (Value.string ⟨((s.take k).drop fr).toArray⟩)] = (out ++ [(s.take k).drop fr]).map V.str := by
      rw [List.take_of_length_le (by simp), List.map_append]; rfl
    have hlen : out.length + 1 = (out ++ [(s.take k).drop fr]).length := by simp
    by_cases hkl : k = s.length
    · have e2 : ((k : Int) == s.length) = true := by simp; omega
      have hfin : out ++ [(s.take k).drop fr] = JW c s := by
        have hdr : s.drop k = [] := List.drop_eq_nil_of_le (by omega)
        rw [← h4 hk, hdr, Xu]
      repeat' (first | refine Qp fun K' hK => ?_ | refine Qt fun K' hK => ?_ | refine Qq ?_ | refine Qr ?_ | refine Ql ?_ | ((first | refine Qs ⟨_, rfl, fun hc => ?_, fun hc => ?_⟩ | refine QQ (fun hc => ?_) (fun hc => ?_) | refine QR (fun hc => ?_) (fun hc => ?_)) <;> first | exact Bool.noConfusion hc | ((try simp only [znz] at hc); first | exact znf | skip)) | refine Qv ?_ | refine Qu ?_ | simp (maxSteps := 1000000) only [go_sem, Nat.reduceAdd, Nat.reduceMul, Nat.reduceEqDiff, Nat.reduceLeDiff, Nat.reduceLT, Nat.reduceSub, Int.reduceEq, Int.reduceBEq, Int.reduceLT, Int.reduceLE, Int.reduceAdd, Int.reduceToNat, reduceIte, reduceCtorEq, J0, e1, e2, hw] | (refine hK _ ?_; clear hK; clear K') | refine And.intro ?_ ?_ | exact zlo | omega | exact zms)
      all_goals
        rw [hcur, hb, hlen]
        exact hL _ (k + 1, k + 1, out ++ [(s.take k).drop fr]) (Jb [(0, 21001)]) ⟨by simp only; omega, by simp, by simp; omega, fun h => by simp only at h; omega, fun _ => hfin⟩ (by simp only; omega) (Jd [(0, 21001)] (by simp only [go_sem, Nat.reduceAdd, Nat.reduceMul, Nat.reduceEqDiff, Nat.reduceLT, Int.reduceToNat, reduceIte, reduceCtorEq, and_true, true_and, implies_true, Option.some.injEq, exists_eq_left', Qk, Qm]; (repeat' (first | rfl | refine And.intro ?_ ?_ | omega | exact fun h => h | exact Exists.intro _ rfl))) (by simp only [go_sem, Nat.reduceAdd, Nat.reduceMul, Nat.reduceEqDiff, Nat.reduceLT, Int.reduceToNat, reduceIte, reduceCtorEq, and_true, true_and, implies_true, Option.some.injEq, exists_eq_left', Qk, Qm]; (repeat' (first | rfl | refine And.intro ?_ ?_ | omega | exact fun h => h | exact Exists.intro _ rfl))) (by simp) (by simp; omega) (by omega))
    · have e2 : ((k : Int) == s.length) = false := by simp; omega
      obtain ⟨x, hx⟩ : ∃ x, s[k]? = some x := ⟨s[k]'(by omega), List.getElem?_eq_getElem (by omega)⟩
      have hd : s.drop k = x :: s.drop (k + 1) := by
        rw [List.drop_eq_getElem_cons (by omega)]; congr 1
        rw [List.getElem?_eq_getElem (by omega)] at hx; exact Option.some.inj hx
      have ht : (s.take (k + 1)).drop fr = (s.take k).drop fr ++ [x] := by
        rw [List.take_add_one, hx, List.drop_append_of_le_length (by simp; omega)]; rfl
      have h4' := h4 hk
      rw [hd, Xu] at h4'
      by_cases hxc : x = c
      · have e3 : ((x.toNat : Int) == (c.toNat : Int)) = true := by simp [hxc]
        rw [if_pos hxc] at h4'
        have hz : (s.take (k + 1)).drop (k + 1) = [] := List.drop_eq_nil_of_le (by simp; omega)
        repeat' (first | refine Qp fun K' hK => ?_ | refine Qt fun K' hK => ?_ | refine Qq ?_ | refine Qr ?_ | refine Ql ?_ | ((first | refine Qs ⟨_, rfl, fun hc => ?_, fun hc => ?_⟩ | refine QQ (fun hc => ?_) (fun hc => ?_) | refine QR (fun hc => ?_) (fun hc => ?_)) <;> first | exact Bool.noConfusion hc | ((try simp only [znz] at hc); first | exact znf | skip)) | refine Qv ?_ | refine Qu ?_ | simp (maxSteps := 1000000) only [go_sem, Nat.reduceAdd, Nat.reduceMul, Nat.reduceEqDiff, Nat.reduceLeDiff, Nat.reduceLT, Nat.reduceSub, Int.reduceEq, Int.reduceBEq, Int.reduceLT, Int.reduceLE, Int.reduceAdd, Int.reduceToNat, reduceIte, reduceCtorEq, J0, e1, e2, hw, hx, e3, Int.toNat_natCast] | (refine hK _ ?_; clear hK; clear K') | refine And.intro ?_ ?_ | exact zlo | omega | exact zms)
        all_goals
          rw [hcur, hb, hlen]
          exact hL _ (k + 1, k + 1, out ++ [(s.take k).drop fr]) (Jb [(0, 21001)]) ⟨by simp only; omega, by simp, by simp; omega, fun h => by simp only; rw [hz, List.append_assoc]; exact h4', fun h => by simp only at h; omega⟩ (by simp only; omega) (Jd [(0, 21001)] (by simp only [go_sem, Nat.reduceAdd, Nat.reduceMul, Nat.reduceEqDiff, Nat.reduceLT, Int.reduceToNat, reduceIte, reduceCtorEq, and_true, true_and, implies_true, Option.some.injEq, exists_eq_left', Qk, Qm]; (repeat' (first | rfl | refine And.intro ?_ ?_ | omega | exact fun h => h | exact Exists.intro _ rfl))) (by simp only [go_sem, Nat.reduceAdd, Nat.reduceMul, Nat.reduceEqDiff, Nat.reduceLT, Int.reduceToNat, reduceIte, reduceCtorEq, and_true, true_and, implies_true, Option.some.injEq, exists_eq_left', Qk, Qm]; (repeat' (first | rfl | refine And.intro ?_ ?_ | omega | exact fun h => h | exact Exists.intro _ rfl))) (by simp) (by simp; omega) (by omega))
      · have e3 : ((x.toNat : Int) == (c.toNat : Int)) = false := by
          simp only [beq_eq_false_iff_ne, ne_eq]; intro h; exact hxc (UInt8.toNat_inj.1 (by omega))
        rw [if_neg hxc] at h4'
        repeat' (first | refine Qp fun K' hK => ?_ | refine Qt fun K' hK => ?_ | refine Qq ?_ | refine Qr ?_ | refine Ql ?_ | ((first | refine Qs ⟨_, rfl, fun hc => ?_, fun hc => ?_⟩ | refine QQ (fun hc => ?_) (fun hc => ?_) | refine QR (fun hc => ?_) (fun hc => ?_)) <;> first | exact Bool.noConfusion hc | ((try simp only [znz] at hc); first | exact znf | skip)) | refine Qv ?_ | refine Qu ?_ | simp (maxSteps := 1000000) only [go_sem, Nat.reduceAdd, Nat.reduceMul, Nat.reduceEqDiff, Nat.reduceLeDiff, Nat.reduceLT, Nat.reduceSub, Int.reduceEq, Int.reduceBEq, Int.reduceLT, Int.reduceLE, Int.reduceAdd, Int.reduceToNat, reduceIte, reduceCtorEq, J0, e1, e2, hw, hx, e3, Int.toNat_natCast] | (refine hK _ ?_; clear hK; clear K') | refine And.intro ?_ ?_ | exact zlo | omega | exact zms)
        all_goals
          exact hL _ (k + 1, fr, out) (Jb []) ⟨by simp only; omega, by simp only; omega, by simp only; omega, fun h => by simp only; rw [ht]; exact h4', fun h => by simp only at h; omega⟩ (by simp only; omega) (Jd [] (by simp only [go_sem, Nat.reduceAdd, Nat.reduceMul, Nat.reduceEqDiff, Nat.reduceLT, Int.reduceToNat, reduceIte, reduceCtorEq, and_true, true_and, implies_true, Option.some.injEq, exists_eq_left', Qk, Qm]; (repeat' (first | rfl | refine And.intro ?_ ?_ | omega | exact fun h => h | exact Exists.intro _ rfl))) (by simp only [go_sem, Nat.reduceAdd, Nat.reduceMul, Nat.reduceEqDiff, Nat.reduceLT, Int.reduceToNat, reduceIte, reduceCtorEq, and_true, true_and, implies_true, Option.some.injEq, exists_eq_left', Qk, Qm]; (repeat' (first | rfl | refine And.intro ?_ ?_ | omega | exact fun h => h | exact Exists.intro _ rfl))) (by simp) (by simp) (by omega))
  · have e1 : decide ((k : Int) ≤ s.length) = false := by simp; omega
    have hout := h5 (by omega)
    subst hout
    repeat' (first | refine Qp fun K' hK => ?_ | refine Qt fun K' hK => ?_ | refine Qq ?_ | refine Qr ?_ | refine Ql ?_ | ((first | refine Qs ⟨_, rfl, fun hc => ?_, fun hc => ?_⟩ | refine QQ (fun hc => ?_) (fun hc => ?_) | refine QR (fun hc => ?_) (fun hc => ?_)) <;> first | exact Bool.noConfusion hc | ((try simp only [znz] at hc); first | exact znf | skip)) | refine Qv ?_ | refine Qu ?_ | simp (maxSteps := 1000000) only [go_sem, Nat.reduceAdd, Nat.reduceMul, Nat.reduceEqDiff, Nat.reduceLeDiff, Nat.reduceLT, Nat.reduceSub, Int.reduceEq, Int.reduceBEq, Int.reduceLT, Int.reduceLE, Int.reduceAdd, Int.reduceToNat, reduceIte, reduceCtorEq, J0, e1] | (refine hK _ ?_; clear hK; clear K') | refine And.intro ?_ ?_ | exact zlo | omega | exact zms)
    all_goals (refine Ja _ rfl ?_; simp only [go_sem, Nat.reduceEqDiff, Nat.reduceAdd, reduceIte, reduceCtorEq]; rw [List.take_of_length_le (by simp)])
end Av
end
section
set_option linter.unusedSimpArgs false
set_option linter.unusedVariables false
set_option maxRecDepth 10000
set_option maxHeartbeats 4000000
namespace Av
open Go
attribute [local irreducible] AWp W8 V7 V8 awS awC KI awQ KY Ji XK KE awR XZ awB okR WO ris
theorem xL (c : UInt8) : ∀ (r cur : List UInt8), (Xu c cur r).length ≤ r.length + 1
  | [], cur => by simp [Xu]
  | x :: r, cur => by
    rw [Xu]; split
    · have := xL c r []; simp; omega
    · have := xL c r (cur ++ [x]); simp; omega
theorem xI (c : UInt8) (s : List UInt8) : (JW c s).length ≤ s.length + 1 := xL c s []
def afZ (L : List (List UInt8)) (x : QV) : Bool := L.all fun n => X5 n x
def Wz (L : List (List UInt8)) (xs : List QV) : List Int := (xs.filter (afZ L)).map QV.code
theorem wB (L : List (List UInt8)) (k : Nat) (x : QV) (h : Jg[k]? = some x) : Wz L (Jg.take (k + 1)) = Wz L (Jg.take k) ++ (if afZ L x = true then [x.code] else []) := by
  rw [Wz, Wz, List.take_add_one, h, List.filter_append, List.map_append]
  congr 1
  by_cases hx : afZ L x = true <;> simp [hx]
def y5 (s : List UInt8) : List Int × Bool := if (JW 43 s).all WL then (Wz (JW 43 s) Jg, true) else ([], false)
def qJ (J2 : Nat) : List AO := [mv 38 9, mv 39 38, mg 40 4 39 true, mg 41 10 39 true, xg 42 (.iaddr 1 (.t 40) (.t 41)) 39 true, xg 43 (.load false 1 (.t 42)) 39 true, mg 44 6 39 true, mg 45 8 39 true, xg 46 (.iaddr 12 (.t 44) (.t 45)) 39 true, xg 47 (.load true 12 (.t 46)) 39 true, xg 48 (.call J2 [(.t 43), (.t 47)]) 39 true, xo 49 (.pick (.t 39) (.t 48) (.c (V.bool false))), mv 9 49]
def jk : List (List Nat) := [[], [0], [1], [1], [2, 3, 1], [4, 1], [1], [1], [6, 7, 1], [8, 1], [5, 9, 1, 1], [1, 10], [11, 10, 0, 1, 2, 3, 4, 5, 6, 7, 8, 9, 10, 11]]
def qC : OT := .one 0 (.one 1 (.one 2 (.one 3 (.one 4 (.one 5 (.one 6 (.one 7 (.one 8 (.one 9 (.one 10 (.one 11 (.one 12 (.done)))))))))))))
def Yl (J2 : Nat) : OP := .one 0 false [] (mv 38 9) (.one 1 false [] (mv 39 38) (.one 2 false [] (mg 40 4 39 true) (.one 3 false [] (mg 41 10 39 true) (.one 4 false [] (xg 42 (.iaddr 1 (.t 40) (.t 41)) 39 true) (.one 5 false [] (xg 43 (.load false 1 (.t 42)) 39 true) (.one 6 false [] (mg 44 6 39 true) (.one 7 false [] (mg 45 8 39 true) (.one 8 false [] (xg 46 (.iaddr 12 (.t 44) (.t 45)) 39 true) (.one 9 false [] (xg 47 (.load true 12 (.t 46)) 39 true) (.one 10 false [] (xg 48 (.call J2 [(.t 43), (.t 47)]) 39 true) (.one 11 false [10] (xo 49 (.pick (.t 39) (.t 48) (.c (V.bool false)))) (.one 12 false [10] (mv 9 49) (.done)))))))))))))
theorem Jn (J2 : Nat) : okR (qJ J2) jk [] qC = true := by kernel_rfl
theorem Jm (J2 : Nat) : WO (ris (qJ J2) jk []) qC = Yl J2 := by kernel_rfl def c_ref08_Set (U8 U9 JP J2 : Nat) : AC := QI [0] (.reg [xo 2 (.mknil 1), mc 3 (V.bool false)]) (QI [4] (.reg [mv 11 0, xo 12 (.call U8 [(.t 11), (.c (.sc (.int .u8 43)))]), mv 4 12]) (QI [4] (QI [4, 5] (.reg [mc 5 (V.int 0)]) (.block 0 (X2 [4, 5] (QI [4, 5] (QI [4, 5, 16] (.reg [mv 13 5, mv 14 4, ln 15 14, bn 16 .lss 13 15]) (.cond (.t 16) (.skip) (.exit 0))) (QI [4, 5] (.block 1 (QI [4, 5, 24] (.reg [mv 19 4, mv 20 5, ia 21 1 19 20, ld 22 1 21, cl 23 U9 [22], xo 24 (.un .not (.t 23))]) (.cond (.t 24) (QI [2, 3] (.reg [xo 2 (.mknil 1), mc 3 (V.bool false)]) (.ret)) (.skip)))) (.reg [mv 17 5, bc 18 .add 17 (V.int 1), mv 5 18])))))) (QI [4, 6] (.reg [cl 25 JP [], mv 6 25]) (QI [4, 6, 7] (.reg [xo 7 (.mknil 1)]) (QI [7] (QI [4, 6, 7, 8] (.reg [mc 8 (V.int 0)]) (.block 2 (X2 [4, 6, 7, 8] (QI [4, 6, 7, 8] (QI [4, 6, 7, 8, 29] (.reg [mv 26 8, mv 27 6, ln 28 27, bn 29 .lss 26 28]) (.cond (.t 29) (.skip) (.exit 2))) (QI [4, 6, 7, 8] (.block 3 (QI [4, 6, 7, 8, 9] (.reg [mc 9 (V.bool true)]) (QI [4, 6, 7, 8, 9] (QI [4, 6, 7, 8, 9, 10] (.reg [mc 10 (V.int 0)]) (.block 4 (X2 [4, 6, 7, 8, 9, 10] (QI [4, 6, 7, 8, 9, 10] (QI [4, 6, 7, 8, 9, 10, 35] (.reg [mv 32 10, mv 33 4, ln 34 33, bn 35 .lss 32 34]) (.cond (.t 35) (.skip) (.exit 4))) (QI [4, 6, 7, 8, 9, 10] (.block 5 (aaf [] qC (Yl J2) (qJ J2) jk)) (.reg [mv 36 10, bc 37 .add 36 (V.int 1), mv 10 37])))))) (QI [4, 6, 7, 8, 50] (.reg [mv 50 9]) (.cond (.t 50) (.reg [mv 51 7, mv 52 6, mv 53 8, ia 54 12 52 53, fa 55 0 54, ld 56 1 55, xo 57 (.bslice 1 1 false [(.int .i64 0)] [(0, (.t 56))]), xo 58 (.append 1 8 [(.int .i64 0)] (.t 51) (.t 57)), mv 7 58]) (.skip)))))) (.reg [mv 30 8, bc 31 .add 30 (V.int 1), mv 8 31])))))) (QI [2, 3] (.reg [mv 59 7, mv 2 59, mc 3 (V.bool true)]) (.ret))))))) def r_ref08_Set : List XG := [.tmp 2, .tmp 3]
def j8 (Γ : Env) (f : Nat) : Prop := ∀ (s : List UInt8) (hs : s.length < 2 ^ 34), EvC Γ f [V.str s] (.tup [.sl 1 ((y5 s).1.map V.int), V.bool (y5 s).2])
theorem acD {Γ : Env} {f U8 U9 JP J2 : Nat} (h : Has Γ.P f 60 (c_ref08_Set U8 U9 JP J2) r_ref08_Set) (YC : qj Γ U8) (YT : ql Γ U9) (Jp : WU Γ JP) (YS : qk Γ J2) : j8 Γ f := by
  intro s hs
  refine Wy h (by simp) (by simp only [V.closed, QK, and_self]) fun C hC hm => ?_
  subst hC
  unfold c_ref08_Set
  have hlen := xI 43 s
  have hsp := (YC s 43 hs).b
  have hset : y5 s = if (JW 43 s).all WL then (Wz (JW 43 s) Jg, true) else ([], false) := rfl
  rw [hset]
  generalize JW 43 s = L at *
  have e43 : ((43 : UInt8).toNat : Int) = 43 := rfl
  rw [e43] at hsp
  repeat' (first | refine Qp fun K' hK => ?_ | refine Qt fun K' hK => ?_ | refine Qn 13 (fun _ => true) rfl (Jn _) (Jm _) fun K' hK => ?_ | refine Qo 13 (fun _ => true) rfl (Jn _) (Jm _) fun K' hK => ?_ | refine Qq ?_ | refine Qr ?_ | refine Ql ?_ | ((first | refine Qs ⟨_, rfl, fun hc => ?_, fun hc => ?_⟩ | refine QQ (fun hc => ?_) (fun hc => ?_) | refine QR (fun hc => ?_) (fun hc => ?_)) <;> first | exact Bool.noConfusion hc | ((try simp only [znz] at hc); first | exact znf | skip)) | refine Qv ?_ | refine Qu ?_ | simp (maxSteps := 1000000) only [go_sem, Nat.reduceAdd, Nat.reduceMul, Nat.reduceEqDiff, Nat.reduceLeDiff, Nat.reduceLT, Nat.reduceSub, Int.reduceEq, Int.reduceBEq, Int.reduceLT, Int.reduceLE, Int.reduceAdd, Int.reduceToNat, reduceIte, reduceCtorEq, Yl] | (refine hK _ ?_; clear hK; clear K') | refine And.intro ?_ ?_ | ((first | apply QT | apply Jl); (focus first | exact hsp | exact (YC _ _ zsd).b | exact (YT _).b | exact EvC.b Jp | exact (YS _ _).b)) | exact zlo | omega | exact zms)
  refine Xb (ι := Nat) (fun k => k ≤ L.length ∧ (L.drop k).all WL = L.all WL) (fun k => [(5, V.int k)]) (fun k => L.length - k) 0 (by omega) ⟨by simp, by simp⟩ (by repeat' first | exact XR | refine WR (by omega) (by simp only [Ob.lt, ltL, V.lt, and_self, and_true]; try omega) ?_) (fun i hi => by simp only [ovT, JV, Nat.reduceEqDiff, reduceIte]; (repeat' first | exact WQ | refine XQ ?_ ?_ | simp only [V.lt, ltL, and_self, and_true] | omega)) (by simp only [Nat.reduceAdd, ovT, JV, Nat.reduceEqDiff, reduceIte, Jr, JQ, qv, u32, u33, u34, u35, u36, u37, u38, u39, and_self, and_true, true_and]; rfl) fun k hk K' hL => ?_
  obtain ⟨hk, hinv⟩ := hk
  simp only [ovT, JV, Nat.reduceEqDiff, reduceIte]
  rcases hd : L.drop k with _ | ⟨y, r⟩
  · have := YL hd
    rw [hd] at hinv
    have e1 : decide ((k : Int) < (((L.map V.str).length : Nat) : Int)) = false := by simp; omega
    have e2 : L.all WL = true := by rw [← hinv]; rfl
    rw [e2]
    repeat' (first | refine Qp fun K' hK => ?_ | refine Qt fun K' hK => ?_ | refine Qn 13 (fun _ => true) rfl (Jn _) (Jm _) fun K' hK => ?_ | refine Qo 13 (fun _ => true) rfl (Jn _) (Jm _) fun K' hK => ?_ | refine Qq ?_ | refine Qr ?_ | refine Ql ?_ | ((first | refine Qs ⟨_, rfl, fun hc => ?_, fun hc => ?_⟩ | refine QQ (fun hc => ?_) (fun hc => ?_) | refine QR (fun hc => ?_) (fun hc => ?_)) <;> first | exact Bool.noConfusion hc | ((try simp only [znz] at hc); first | exact znf | skip)) | refine Qv ?_ | refine Qu ?_ | simp (maxSteps := 1000000) only [go_sem, Nat.reduceAdd, Nat.reduceMul, Nat.reduceEqDiff, Nat.reduceLeDiff, Nat.reduceLT, Nat.reduceSub, Int.reduceEq, Int.reduceBEq, Int.reduceLT, Int.reduceLE, Int.reduceAdd, Int.reduceToNat, reduceIte, reduceCtorEq, e1, Yl] | (refine hK _ ?_; clear hK; clear K') | refine And.intro ?_ ?_ | ((first | apply QT | apply Jl); (focus first | exact (YC _ _ zsd).b | exact (YT _).b | exact EvC.b Jp | exact (YS _ _).b)) | exact zlo | omega | exact zms)
    refine Ju (ι := Nat) (fun k => k ≤ 16) (fun k => J0 [(4, .sl 1 (L.map V.str)), (6, .sl 12 (Jg.map QV.v)), (7, .hd 0 0 (Wz L (Jg.take k)).length), (8, V.int k)] [(0, .buf true 1 ((Wz L (Jg.take k)).map V.int))] 1) (fun k => 17 - k) 0 (by omega) (Jb [(0, 12000)]) (Jd [(0, 12000)] (by simp only [go_sem, Nat.reduceAdd, Nat.reduceMul, Nat.reduceEqDiff, Nat.reduceLT, Int.reduceToNat, reduceIte, reduceCtorEq, and_true, true_and, implies_true, Option.some.injEq, exists_eq_left', Qk, Qm]; (repeat' (first | rfl | refine And.intro ?_ ?_ | omega | exact fun h => h | exact Exists.intro _ rfl))) (by simp only [go_sem, Nat.reduceAdd, Nat.reduceMul, Nat.reduceEqDiff, Nat.reduceLT, Int.reduceToNat, reduceIte, reduceCtorEq, and_true, true_and, implies_true, Option.some.injEq, exists_eq_left', Qk, Qm]; (repeat' (first | rfl | refine And.intro ?_ ?_ | omega | exact fun h => h | exact Exists.intro _ rfl))) (by simp) (by simp; omega) (by omega)) fun k hk K' hL => ?_
    rcases hd : Jg.drop k with _ | ⟨x, r⟩
    · have hk16 := YL hd
      have e1 : decide ((k : Int) < (((Jg.map QV.v).length : Nat) : Int)) = false := by simp; omega
      have e3 : Jg.take k = Jg := List.take_of_length_le hk16
      rw [e3]
      repeat' (first | refine Qp fun K' hK => ?_ | refine Qt fun K' hK => ?_ | refine Qn 13 (fun _ => true) rfl (Jn _) (Jm _) fun K' hK => ?_ | refine Qo 13 (fun _ => true) rfl (Jn _) (Jm _) fun K' hK => ?_ | refine Qq ?_ | refine Qr ?_ | refine Ql ?_ | ((first | refine Qs ⟨_, rfl, fun hc => ?_, fun hc => ?_⟩ | refine QQ (fun hc => ?_) (fun hc => ?_) | refine QR (fun hc => ?_) (fun hc => ?_)) <;> first | exact Bool.noConfusion hc | ((try simp only [znz] at hc); first | exact znf | skip)) | refine Qv ?_ | refine Qu ?_ | simp (maxSteps := 1000000) only [go_sem, Nat.reduceAdd, Nat.reduceMul, Nat.reduceEqDiff, Nat.reduceLeDiff, Nat.reduceLT, Nat.reduceSub, Int.reduceEq, Int.reduceBEq, Int.reduceLT, Int.reduceLE, Int.reduceAdd, Int.reduceToNat, reduceIte, reduceCtorEq, J0, e1, Yl] | (refine hK _ ?_; clear hK; clear K') | refine And.intro ?_ ?_ | ((first | apply QT | apply Jl); (focus first | exact (YC _ _ zsd).b | exact (YT _).b | exact EvC.b Jp | exact (YS _ _).b)) | exact zlo | omega | exact zms)
      all_goals (refine Ja _ rfl ?_; simp only [go_sem, Nat.reduceEqDiff, Nat.reduceAdd, reduceIte, reduceCtorEq]; rw [List.take_of_length_le (by simp)])
    · obtain ⟨hk', hget, hr⟩ := Yf hd
      rw [XL] at hk'
      have hw := JD (k := k) (by omega)
      have e1 : decide ((k : Int) < (((Jg.map QV.v).length : Nat) : Int)) = true := by simp [XL]; omega
      have hcs := wB L k x hget
      have hol : (Wz L (Jg.take k)).length ≤ 16 := by
        rw [Wz, List.length_map]
        refine Nat.le_trans (List.length_filter_le _ _) ?_
        rw [List.length_take]; omega
      generalize Wz L (Jg.take k) = out at *
      repeat' (first | refine Qp fun K' hK => ?_ | refine Qt fun K' hK => ?_ | refine Qn 13 (fun _ => true) rfl (Jn _) (Jm _) fun K' hK => ?_ | refine Qo 13 (fun _ => true) rfl (Jn _) (Jm _) fun K' hK => ?_ | refine Qq ?_ | refine Qr ?_ | refine Ql ?_ | ((first | refine Qs ⟨_, rfl, fun hc => ?_, fun hc => ?_⟩ | refine QQ (fun hc => ?_) (fun hc => ?_) | refine QR (fun hc => ?_) (fun hc => ?_)) <;> first | exact Bool.noConfusion hc | ((try simp only [znz] at hc); first | exact znf | skip)) | refine Qv ?_ | refine Qu ?_ | simp (maxSteps := 1000000) only [go_sem, Nat.reduceAdd, Nat.reduceMul, Nat.reduceEqDiff, Nat.reduceLeDiff, Nat.reduceLT, Nat.reduceSub, Int.reduceEq, Int.reduceBEq, Int.reduceLT, Int.reduceLE, Int.reduceAdd, Int.reduceToNat, reduceIte, reduceCtorEq, J0, e1, Yl] | (refine hK _ ?_; clear hK; clear K') | refine And.intro ?_ ?_ | ((first | apply QT | apply Jl); (focus first | exact (YC _ _ zsd).b | exact (YT _).b | exact EvC.b Jp | exact (YS _ _).b)) | exact zlo | omega | exact zms)
      refine Xb (ι := Nat) (fun j => j ≤ L.length) (fun j => [(9, V.bool ((L.take j).all fun n => X5 n x)), (10, V.int j)]) (fun j => L.length - j) 0 (by omega) (by omega) (by repeat' first | exact XR | refine WR (by omega) (by simp only [Ob.lt, ltL, V.lt, and_self, and_true]; try omega) ?_) (fun i hi => by simp only [ovT, JV, Nat.reduceEqDiff, reduceIte]; (repeat' first | exact WQ | refine XQ ?_ ?_ | simp only [V.lt, ltL, and_self, and_true] | omega)) (by simp only [Nat.reduceAdd, ovT, JV, Nat.reduceEqDiff, reduceIte, Jr, JQ, qv, u32, u33, u34, u35, u36, u37, u38, u39, and_self, and_true, true_and]; exact ⟨rfl, rfl⟩) fun j hj K'' hL2 => ?_
      simp only [ovT, JV, Nat.reduceEqDiff, reduceIte]
      rcases hdj : L.drop j with _ | ⟨y, r2⟩
      · have hjl := YL hdj
        have e2 : decide ((j : Int) < (((L.map V.str).length : Nat) : Int)) = false := by simp; omega
        have e3 : L.take j = L := List.take_of_length_le hjl
        rw [e3]
        rcases hin : afZ L x with _ | _
        · have hin2 : (L.all fun n => X5 n x) = false := hin
          rw [hin2]
          rw [hin] at hcs
          repeat' (first | refine Qp fun K' hK => ?_ | refine Qt fun K' hK => ?_ | refine Qn 13 (fun _ => true) rfl (Jn _) (Jm _) fun K' hK => ?_ | refine Qo 13 (fun _ => true) rfl (Jn _) (Jm _) fun K' hK => ?_ | refine Qq ?_ | refine Qr ?_ | refine Ql ?_ | ((first | refine Qs ⟨_, rfl, fun hc => ?_, fun hc => ?_⟩ | refine QQ (fun hc => ?_) (fun hc => ?_) | refine QR (fun hc => ?_) (fun hc => ?_)) <;> first | exact Bool.noConfusion hc | ((try simp only [znz] at hc); first | exact znf | skip)) | refine Qv ?_ | refine Qu ?_ | simp (maxSteps := 1000000) only [go_sem, Nat.reduceAdd, Nat.reduceMul, Nat.reduceEqDiff, Nat.reduceLeDiff, Nat.reduceLT, Nat.reduceSub, Int.reduceEq, Int.reduceBEq, Int.reduceLT, Int.reduceLE, Int.reduceAdd, Int.reduceToNat, reduceIte, reduceCtorEq, e2, hw, Yl] | (refine hK _ ?_; clear hK; clear K') | refine And.intro ?_ ?_ | ((first | apply QT | apply Jl); (focus first | exact (YC _ _ zsd).b | exact (YT _).b | exact EvC.b Jp | exact (YS _ _).b)) | exact zlo | omega | exact zms)
          simp only [Bool.false_eq_true, if_false, List.append_nil] at hcs
          refine hL _ (k + 1) (Jb []) (by omega) (by omega) ?_
          rw [hcs]
          exact Jd [] (by simp only [go_sem, Nat.reduceAdd, Nat.reduceMul, Nat.reduceEqDiff, Nat.reduceLT, Int.reduceToNat, reduceIte, reduceCtorEq, and_true, true_and, implies_true, Option.some.injEq, exists_eq_left', Qk, Qm]; (repeat' (first | rfl | refine And.intro ?_ ?_ | omega | exact fun h => h | exact Exists.intro _ rfl))) (by simp only [go_sem, Nat.reduceAdd, Nat.reduceMul, Nat.reduceEqDiff, Nat.reduceLT, Int.reduceToNat, reduceIte, reduceCtorEq, and_true, true_and, implies_true, Option.some.injEq, exists_eq_left', Qk, Qm]; (repeat' (first | rfl | refine And.intro ?_ ?_ | omega | exact fun h => h | exact Exists.intro _ rfl))) (by simp) (by simp) (by omega)
        · have hin2 : (L.all fun n => X5 n x) = true := hin
          rw [hin2]
          rw [hin] at hcs
          repeat' (first | refine Qp fun K' hK => ?_ | refine Qt fun K' hK => ?_ | refine Qn 13 (fun _ => true) rfl (Jn _) (Jm _) fun K' hK => ?_ | refine Qo 13 (fun _ => true) rfl (Jn _) (Jm _) fun K' hK => ?_ | refine Qq ?_ | refine Qr ?_ | refine Ql ?_ | ((first | refine Qs ⟨_, rfl, fun hc => ?_, fun hc => ?_⟩ | refine QQ (fun hc => ?_) (fun hc => ?_) | refine QR (fun hc => ?_) (fun hc => ?_)) <;> first | exact Bool.noConfusion hc | ((try simp only [znz] at hc); first | exact znf | skip)) | refine Qv ?_ | refine Qu ?_ | simp (maxSteps := 1000000) only [go_sem, Nat.reduceAdd, Nat.reduceMul, Nat.reduceEqDiff, Nat.reduceLeDiff, Nat.reduceLT, Nat.reduceSub, Int.reduceEq, Int.reduceBEq, Int.reduceLT, Int.reduceLE, Int.reduceAdd, Int.reduceToNat, reduceIte, reduceCtorEq, e2, hw, Int.toNat_natCast, List.getElem?_map, hget, QV.v, QV.cells, Yl] | (refine hK _ ?_; clear hK; clear K') | refine And.intro ?_ ?_ | ((first | apply QT | apply Jl); (focus first | exact (YC _ _ zsd).b | exact (YT _).b | exact EvC.b Jp | exact (YS _ _).b)) | exact zlo | omega | exact zms)
          rw [if_pos rfl] at hcs
          have hb : List.take out.length (List.map V.int out) ++ [V.int x.code] = (out ++ [x.code]).map V.int := by
            rw [List.take_of_length_le (by simp), List.map_append]; rfl
          have hln : out.length + 1 = (out ++ [x.code]).length := by simp
          rw [hb, hln]
          refine hL _ (k + 1) (Jb [(0, 18001)]) (by omega) (by omega) ?_
          rw [hcs]
          exact Jd [(0, 18001)] (by simp only [go_sem, Nat.reduceAdd, Nat.reduceMul, Nat.reduceEqDiff, Nat.reduceLT, Int.reduceToNat, reduceIte, reduceCtorEq, and_true, true_and, implies_true, Option.some.injEq, exists_eq_left', Qk, Qm]; (repeat' (first | rfl | refine And.intro ?_ ?_ | omega | exact fun h => h | exact Exists.intro _ rfl))) (by simp only [go_sem, Nat.reduceAdd, Nat.reduceMul, Nat.reduceEqDiff, Nat.reduceLT, Int.reduceToNat, reduceIte, reduceCtorEq, and_true, true_and, implies_true, Option.some.injEq, exists_eq_left', Qk, Qm]; (repeat' (first | rfl | refine And.intro ?_ ?_ | omega | exact fun h => h | exact Exists.intro _ rfl))) (by simp) (by simp; omega) (by omega)
      · obtain ⟨hj', hgj, hrj⟩ := Yf hdj
        have hwj := JD (k := j) (by omega)
        have e2 : decide ((j : Int) < (((L.map V.str).length : Nat) : Int)) = true := by simp; omega
        have hall : ((L.take (j + 1)).all fun n => X5 n x) = (((L.take j).all fun n => X5 n x) && X5 y x) := by
          rw [List.take_add_one, hgj]; simp
        rcases hb : ((L.take j).all fun n => X5 n x) with _ | _
        · rw [hb, Bool.false_and] at hall
          repeat' (first | refine Qp fun K' hK => ?_ | refine Qt fun K' hK => ?_ | refine Qn 13 (fun _ => true) rfl (Jn _) (Jm _) fun K' hK => ?_ | refine Qo 13 (fun _ => true) rfl (Jn _) (Jm _) fun K' hK => ?_ | refine Qq ?_ | refine Qr ?_ | refine Ql ?_ | ((first | refine Qs ⟨_, rfl, fun hc => ?_, fun hc => ?_⟩ | refine QQ (fun hc => ?_) (fun hc => ?_) | refine QR (fun hc => ?_) (fun hc => ?_)) <;> first | exact Bool.noConfusion hc | ((try simp only [znz] at hc); first | exact znf | skip)) | refine Qv ?_ | refine Qu ?_ | simp (maxSteps := 1000000) only [go_sem, Nat.reduceAdd, Nat.reduceMul, Nat.reduceEqDiff, Nat.reduceLeDiff, Nat.reduceLT, Nat.reduceSub, Int.reduceEq, Int.reduceBEq, Int.reduceLT, Int.reduceLE, Int.reduceAdd, Int.reduceToNat, reduceIte, reduceCtorEq, e2, hwj, Yl] | (refine hK _ ?_; clear hK; clear K') | refine And.intro ?_ ?_ | ((first | apply QT | apply Jl); (focus first | exact (YC _ _ zsd).b | exact (YT _).b | exact EvC.b Jp | exact (YS _ _).b)) | exact zlo | omega | exact zms)
          all_goals exact hL2 _ (j + 1) (by rw [hall]; simp only [Nat.reduceAdd, ovT, JV, Nat.reduceEqDiff, reduceIte, Jr, JQ, qv, u32, u33, u34, u35, u36, u37, u38, u39, and_self, and_true, true_and]) (by omega) (by omega) (fun a ha => by simp only [u32, u33, u34, u35, u36, u37, u38, u39]; repeat rw [if_neg (by omega)])
        · rw [hb, Bool.true_and] at hall
          repeat' (first | refine Qp fun K' hK => ?_ | refine Qt fun K' hK => ?_ | refine Qn 13 (fun _ => true) rfl (Jn _) (Jm _) fun K' hK => ?_ | refine Qo 13 (fun _ => true) rfl (Jn _) (Jm _) fun K' hK => ?_ | refine Qq ?_ | refine Qr ?_ | refine Ql ?_ | ((first | refine Qs ⟨_, rfl, fun hc => ?_, fun hc => ?_⟩ | refine QQ (fun hc => ?_) (fun hc => ?_) | refine QR (fun hc => ?_) (fun hc => ?_)) <;> first | exact Bool.noConfusion hc | ((try simp only [znz] at hc); first | exact znf | skip)) | refine Qv ?_ | refine Qu ?_ | simp (maxSteps := 1000000) only [go_sem, Nat.reduceAdd, Nat.reduceMul, Nat.reduceEqDiff, Nat.reduceLeDiff, Nat.reduceLT, Nat.reduceSub, Int.reduceEq, Int.reduceBEq, Int.reduceLT, Int.reduceLE, Int.reduceAdd, Int.reduceToNat, reduceIte, reduceCtorEq, e2, hwj, Int.toNat_natCast, List.getElem?_map, hget, hgj, Yl] | (refine hK _ ?_; clear hK; clear K') | refine And.intro ?_ ?_ | ((first | apply QT | apply Jl); (focus first | exact (YC _ _ zsd).b | exact (YT _).b | exact EvC.b Jp | exact (YS _ _).b)) | exact zlo | omega | exact zms)
          · exact Nat.le_refl 12
          · exact hL2 _ (j + 1) (by rw [hall]; simp only [Nat.reduceAdd, ovT, JV, Nat.reduceEqDiff, reduceIte, Jr, JQ, qv, u32, u33, u34, u35, u36, u37, u38, u39, and_self, and_true, true_and]) (by omega) (by omega) (fun a ha => by simp only [u32, u33, u34, u35, u36, u37, u38, u39]; repeat rw [if_neg (by omega)])
  · obtain ⟨hk', hget, hr⟩ := Yf hd
    rw [hd] at hinv
    have hw := JD (k := k) (by omega)
    have e1 : decide ((k : Int) < (((L.map V.str).length : Nat) : Int)) = true := by simp; omega
    rcases hy : WL y with _ | _
    · have e2 : L.all WL = false := by rw [← hinv]; simp [hy]
      rw [e2]
      repeat' (first | refine Qp fun K' hK => ?_ | refine Qt fun K' hK => ?_ | refine Qn 13 (fun _ => true) rfl (Jn _) (Jm _) fun K' hK => ?_ | refine Qo 13 (fun _ => true) rfl (Jn _) (Jm _) fun K' hK => ?_ | refine Qq ?_ | refine Qr ?_ | refine Ql ?_ | ((first | refine Qs ⟨_, rfl, fun hc => ?_, fun hc => ?_⟩ | refine QQ (fun hc => ?_) (fun hc => ?_) | refine QR (fun hc => ?_) (fun hc => ?_)) <;> first | exact Bool.noConfusion hc | ((try simp only [znz] at hc); first | exact znf | skip)) | refine Qv ?_ | refine Qu ?_ | simp (maxSteps := 1000000) only [go_sem, Nat.reduceAdd, Nat.reduceMul, Nat.reduceEqDiff, Nat.reduceLeDiff, Nat.reduceLT, Nat.reduceSub, Int.reduceEq, Int.reduceBEq, Int.reduceLT, Int.reduceLE, Int.reduceAdd, Int.reduceToNat, reduceIte, reduceCtorEq, Int.toNat_natCast, List.getElem?_map, hget, hw, e1, hy, Yl] | (refine hK _ ?_; clear hK; clear K') | refine And.intro ?_ ?_ | ((first | apply QT | apply Jl); (focus first | exact (YC _ _ zsd).b | exact (YT _).b | exact EvC.b Jp | exact (YS _ _).b)) | exact zlo | omega | exact zms)
      all_goals (refine Ja _ rfl ?_; simp only [go_sem, Nat.reduceEqDiff, Nat.reduceAdd, reduceIte, reduceCtorEq]; first | done | exact ⟨_, _, rfl⟩)
    · repeat' (first | refine Qp fun K' hK => ?_ | refine Qt fun K' hK => ?_ | refine Qn 13 (fun _ => true) rfl (Jn _) (Jm _) fun K' hK => ?_ | refine Qo 13 (fun _ => true) rfl (Jn _) (Jm _) fun K' hK => ?_ | refine Qq ?_ | refine Qr ?_ | refine Ql ?_ | ((first | refine Qs ⟨_, rfl, fun hc => ?_, fun hc => ?_⟩ | refine QQ (fun hc => ?_) (fun hc => ?_) | refine QR (fun hc => ?_) (fun hc => ?_)) <;> first | exact Bool.noConfusion hc | ((try simp only [znz] at hc); first | exact znf | skip)) | refine Qv ?_ | refine Qu ?_ | simp (maxSteps := 1000000) only [go_sem, Nat.reduceAdd, Nat.reduceMul, Nat.reduceEqDiff, Nat.reduceLeDiff, Nat.reduceLT, Nat.reduceSub, Int.reduceEq, Int.reduceBEq, Int.reduceLT, Int.reduceLE, Int.reduceAdd, Int.reduceToNat, reduceIte, reduceCtorEq, Int.toNat_natCast, List.getElem?_map, hget, hw, e1, hy, Yl] | (refine hK _ ?_; clear hK; clear K') | refine And.intro ?_ ?_ | ((first | apply QT | apply Jl); (focus first | exact (YC _ _ zsd).b | exact (YT _).b | exact EvC.b Jp | exact (YS _ _).b)) | exact zlo | omega | exact zms)
      all_goals
        refine hL _ (k + 1) (by simp only [Nat.reduceAdd, ovT, JV, Nat.reduceEqDiff, reduceIte, Jr, JQ, qv, u32, u33, u34, u35, u36, u37, u38, u39, and_self, and_true, true_and]) ⟨by omega, ?_⟩ (by omega) (fun a ha => by simp only [u32, u33, u34, u35, u36, u37, u38, u39]; repeat rw [if_neg (by omega)])
        rw [hr, ← hinv]; simp [hy]
end Av
end
section
namespace Av
open Go
structure EvW (Γ : Env) (f : FuncId) (args : List V) (sz : Nat) (xs : List V) : Prop where
  ev : Ev Γ f args [] (.hd 0 0 xs.length) [.buf true sz xs]
  ns : ∀ x ∈ xs, x.noSl
theorem vz (l : List Int) : ∀ x ∈ l.map V.int, x.noSl := by
  intro x hx; simp only [List.mem_map] at hx; obtain ⟨y, _, rfl⟩ := hx; simp only [V.noSl]
theorem vf (l : List (List UInt8)) : ∀ x ∈ l.map V.str, x.noSl := by
  intro x hx; simp only [List.mem_map] at hx; obtain ⟨y, _, rfl⟩ := hx; simp only [V.noSl]
theorem ai3 {Γ : Env} {b : Nat} {r : List AO} {s : St} {d : Option Nat} {f : FuncId} {acts xs : List V} {sz : Nat} {K : St → Prop} (h : EvW Γ f (X6 s.o acts) sz xs) (hc : JK s.o none acts)
    (hk : W8 Γ (b + KK) r { t := (s.put d (.hd b 0 xs.length)).t, o := upd s.o b (some (.buf true sz xs)), n := s.n } K) : awC Γ b r s d f acts K := by
  refine UD ⟨_, _, _, _, [], none, h.ev, Wa _ _ _ hc, trivial, List.nodup_nil, fun x hx => by simp at hx, by simp, by simp [KK], fun _ => ⟨by simp only [V.noSl], fun x hx => ?_⟩, ?_⟩
  · simp only [List.mem_singleton] at hx; subst hx; exact h.ns
  · simp only [Vq, Uy, Ob.ren, V.ren, sig]
    exact hk
theorem aiD {Γ : Env} {A W : Nat → Bool} {b : Nat} {s : St} {d : Option Nat} {f : FuncId} {acts xs : List V} {sz : Nat} {J : St → Prop} (h : EvW Γ f (X6 (X4 A s.o) acts) sz xs) (hc : JK (X4 A s.o) none acts)
    (hk : J { t := (s.put d (.hd b 0 xs.length)).t, o := upd s.o b (some (.buf true sz xs)), n := s.n }) : Ji Γ A W b s d f acts J := by
  refine ⟨_, _, _, _, [], none, h.ev, Wa _ _ _ hc, trivial, List.nodup_nil, fun x hx => by simp at hx, by simp, by simp [KK], fun _ => ⟨by simp only [V.noSl], fun x hx => ?_⟩, fun l h => by simp at h, ?_⟩
  · simp only [List.mem_singleton] at hx; subst hx; exact h.ns
  · simp only [Vq, Uy, Ob.ren, V.ren, sig]
    exact hk
theorem XF {Γ : Env} {b : Nat} {r : List AO} {s : St} {d : Option Nat} {f : FuncId} {acts args xs : List V} {sz : Nat} {K : St → Prop} {okf : Option (List Nat) → Prop} (h : EvW Γ f args sz xs) (hc : okf none)
    (hk : W8 Γ (b + KK) r { t := (s.put d (.hd b 0 xs.length)).t, o := upd s.o b (some (.buf true sz xs)), n := s.n } K) : ah2 Γ b r s d f acts args okf K := by
  rintro rfl rfl; exact ai3 h hc hk
theorem Vc {Γ : Env} {A W : Nat → Bool} {b : Nat} {s : St} {d : Option Nat} {f : FuncId} {acts args xs : List V} {sz : Nat} {J : St → Prop} {okf : Option (List Nat) → Prop} (h : EvW Γ f args sz xs) (hc : okf none)
    (hk : J { t := (s.put d (.hd b 0 xs.length)).t, o := upd s.o b (some (.buf true sz xs)), n := s.n }) : ah3 Γ A W b s d f acts args okf J := by
  rintro rfl rfl; exact aiD h hc hk
theorem yP {Γ : Env} {f : FuncId} {nt : Nat} {ac : AC} {rs : List XG} (hb : Has Γ.P f nt ac rs) {args xs : List V} {sz : Nat} (ha : args.length ≤ nt) (hn : ∀ x ∈ xs, x.noSl)
    (h : ∀ C : Ctx, C.env = Γ → C.m = 0 → AWp C nt ac (Va args []) (w5 0 rs (.hd 0 0 xs.length) [.buf true sz xs]) (fun _ _ => False) (w5 0 rs (.hd 0 0 xs.length) [.buf true sz xs])) : EvW Γ f args sz xs :=
  ⟨Uf hb ha h, hn⟩
theorem acI {rs : List XG} {s : St} {xs : List V} {sz : Nat} (a n : Nat) (h : aas s rs = some [.hd a 0 n]) (hn : n = xs.length) (ho : s.o a = some (.buf true sz xs)) : w5 0 rs (.hd 0 0 xs.length) [.buf true sz xs] s := by
  subst hn
  exact qW rs _ _ h ⟨[a], none, by simp [ae5, conv], ⟨⟨_, ho, fun h => h, rfl, rfl⟩, trivial⟩, by simp, rfl⟩
end Av
end
section
set_option linter.unusedSimpArgs false
set_option linter.unusedVariables false
set_option maxRecDepth 10000
set_option maxHeartbeats 4000000
namespace Av
open Go
attribute [local irreducible] AWp W8 V7 V8 awS awC KI awQ KY Ji XK KE awR XZ awB okR WO ris
def QZ (l some : List Int) : List Int := l.filter fun x => !some.contains x
theorem yZ {l m : List Int} {k : Nat} {x : Int} (h : l[k]? = some x) : QZ (l.take (k + 1)) m = QZ (l.take k) m ++ (if m.contains x = true then [] else [x]) := by
  rw [QZ, QZ, List.take_add_one, h, List.filter_append]
  congr 1
  by_cases hx : m.contains x = true <;> simp at hx <;> simp [hx]
theorem WP (l m : List Int) : (QZ l m).length ≤ l.length := List.length_filter_le _ _
end Av
end
section
set_option linter.unusedSimpArgs false
set_option linter.unusedVariables false
set_option maxRecDepth 10000
set_option maxHeartbeats 4000000
namespace Av
open Go
attribute [local irreducible] AWp W8 V7 V8 awS awC KI awQ KY Ji XK KE awR XZ awB okR WO ris
def afX (out : List Int) (x : Int) : Nat → Nat
  | 0 => 0
  | k + 1 => if qF (out.getD k 0) < qF x then afX out x k else k + 1
theorem afV (out : List Int) (x : Int) : ∀ k, afX out x k ≤ k
  | 0 => Nat.le_refl _
  | k + 1 => by
    rw [afX]; split
    · exact Nat.le_succ_of_le (afV out x k)
    · exact Nat.le_refl _
def ac0 (out : List Int) (x : Int) : List Int := out.take (afX out x out.length) ++ [x] ++ out.drop (afX out x out.length)
theorem wY (out : List Int) (x : Int) : (ac0 out x).length = out.length + 1 := by
  have := afV out x out.length
  simp [ac0]; omega
def Kl (l : List Int) : List Int := l.foldl ac0 []
theorem aeg {l : List Int} {k : Nat} {x : Int} (h : l[k]? = some x) : Kl (l.take (k + 1)) = ac0 (Kl (l.take k)) x := by
  rw [Kl, Kl, List.take_add_one, h, List.foldl_append]; rfl
theorem acA : ∀ (l out : List Int), (l.foldl ac0 out).length = out.length + l.length
  | [], out => by simp
  | x :: r, out => by rw [List.foldl_cons, acA r, wY]; simp; omega
theorem y4 (l : List Int) : (Kl l).length = l.length := by rw [Kl, acA]; simp
def K6 (Q6 : Nat) : List AO := [mv 14 5, bc 15 .gtr 14 (V.int 0), mv 16 15, mg 17 3 16 true, mg 18 5 16 true, xg 19 (.bin .sub (.t 18) (.c (V.int 1))) 16 true, xg 20 (.iaddr 1 (.t 17) (.t 19)) 16 true, xg 21 (.load false 1 (.t 20)) 16 true, xg 22 (.call Q6 [(.t 21)]) 16 true, mg 23 0 16 true, mg 24 4 16 true, xg 25 (.iaddr 1 (.t 23) (.t 24)) 16 true, xg 26 (.load false 1 (.t 25)) 16 true, xg 27 (.call Q6 [(.t 26)]) 16 true, xg 28 (.bin .lss (.t 22) (.t 27)) 16 true, xo 29 (.pick (.t 16) (.t 28) (.c (V.bool false)))]
def qh : List (List Nat) := [[], [0], [1], [2], [2], [4, 2], [3, 5, 2], [6, 2], [7, 2, 2], [2], [2], [9, 10, 2], [11, 2], [12, 8, 2], [8, 13, 2], [2, 14]]
def K4 : OT := .one 0 (.one 1 (.one 2 (.one 3 (.one 4 (.one 5 (.one 6 (.one 7 (.one 9 (.one 10 (.one 11 (.one 12 (.or 8 (.or 13 (.one 14 (.one 15 (.done))) (.done)) (.done)))))))))))))
def Xw (Q6 : Nat) : OP := .one 0 false [] (mv 14 5) (.one 1 false [] (bc 15 .gtr 14 (V.int 0)) (.one 2 false [] (mv 16 15) (.one 3 false [] (mg 17 3 16 true) (.one 4 false [] (mg 18 5 16 true) (.one 5 false [] (xg 19 (.bin .sub (.t 18) (.c (V.int 1))) 16 true) (.one 6 false [] (xg 20 (.iaddr 1 (.t 17) (.t 19)) 16 true) (.one 7 false [] (xg 21 (.load false 1 (.t 20)) 16 true) (.one 9 false [] (mg 23 0 16 true) (.one 10 false [] (mg 24 4 16 true) (.one 11 false [] (xg 25 (.iaddr 1 (.t 23) (.t 24)) 16 true) (.one 12 false [] (xg 26 (.load false 1 (.t 25)) 16 true) (.or 8 false [] (xg 22 (.call Q6 [(.t 21)]) 16 true) (.or 13 false [] (xg 27 (.call Q6 [(.t 26)]) 16 true) (.one 14 false [13, 8] (xg 28 (.bin .lss (.t 22) (.t 27)) 16 true) (.one 15 false [13, 8] (xo 29 (.pick (.t 16) (.t 28) (.c (V.bool false)))) (.done))) (.done)) (.done)))))))))))))
theorem Yb (Q6 : Nat) : okR (K6 Q6) qh [] K4 = true := by kernel_rfl
theorem J9 (Q6 : Nat) : WO (ris (K6 Q6) qh []) K4 = Xw Q6 := by kernel_rfl
def K5 : List AO := [xo 32 (.bslice 0 1 false [(.int .i64 0)] []), mv 33 3, mv 34 5, xo 35 (.slsl 1 (.t 33) none (some (.t 34))), xo 36 (.append 1 8 [(.int .i64 0)] (.t 32) (.t 35)), mv 37 0, mv 38 4, ia 39 1 37 38, ld 40 1 39, xo 41 (.bslice 1 1 false [(.int .i64 0)] [(0, (.t 40))]), xo 42 (.append 1 8 [(.int .i64 0)] (.t 36) (.t 41)), mv 43 3, mv 44 5, xo 45 (.slsl 1 (.t 43) (some (.t 44)) none), xo 46 (.append 1 8 [(.int .i64 0)] (.t 42) (.t 45)), mv 3 46]
def qg : List (List Nat) := [[], [], [], [1, 2], [0, 3], [], [], [5, 6], [7], [8], [4, 9, 4], [], [], [11, 12], [10, 13, 10], [14, 14, 0, 1, 2, 3, 4, 5, 6, 7, 8, 9, 10, 11, 12, 13, 14]]
def K1 : OT := .one 1 (.one 2 (.one 3 (.one 5 (.one 6 (.one 7 (.one 8 (.one 11 (.one 12 (.one 13 (.or 0 (.or 4 (.or 9 (.one 10 (.one 14 (.one 15 (.done)))) (.done)) (.or 9 (.or 4 (.one 10 (.one 14 (.one 15 (.done)))) (.done)) (.done))) (.or 9 (.or 0 (.or 4 (.one 10 (.one 14 (.one 15 (.done)))) (.done)) (.done)) (.done))))))))))))
def Xv : OP := .one 1 false [] (mv 33 3) (.one 2 false [] (mv 34 5) (.one 3 false [] (xo 35 (.slsl 1 (.t 33) none (some (.t 34)))) (.one 5 false [] (mv 37 0) (.one 6 false [] (mv 38 4) (.one 7 false [] (ia 39 1 37 38) (.one 8 false [] (ld 40 1 39) (.one 11 false [] (mv 43 3) (.one 12 false [] (mv 44 5) (.one 13 false [] (xo 45 (.slsl 1 (.t 43) (some (.t 44)) none)) (.or 0 false [] (xo 32 (.bslice 0 1 false [(.int .i64 0)] [])) (.or 4 true [0] (xo 36 (.append 1 8 [(.int .i64 0)] (.t 32) (.t 35))) (.or 9 false [] (xo 41 (.bslice 1 1 false [(.int .i64 0)] [(0, (.t 40))])) (.one 10 true [9, 4, 0] (xo 42 (.append 1 8 [(.int .i64 0)] (.t 36) (.t 41))) (.one 14 true [10, 9, 4, 0] (xo 46 (.append 1 8 [(.int .i64 0)] (.t 42) (.t 45))) (.one 15 false [14, 10, 9, 4, 0] (mv 3 46) (.done)))) (.done)) (.or 9 false [] (xo 41 (.bslice 1 1 false [(.int .i64 0)] [(0, (.t 40))])) (.or 4 true [0] (xo 36 (.append 1 8 [(.int .i64 0)] (.t 32) (.t 35))) (.one 10 true [9, 4, 0] (xo 42 (.append 1 8 [(.int .i64 0)] (.t 36) (.t 41))) (.one 14 true [10, 9, 4, 0] (xo 46 (.append 1 8 [(.int .i64 0)] (.t 42) (.t 45))) (.one 15 false [14, 10, 9, 4, 0] (mv 3 46) (.done)))) (.done)) (.done))) (.or 9 false [] (xo 41 (.bslice 1 1 false [(.int .i64 0)] [(0, (.t 40))])) (.or 0 false [] (xo 32 (.bslice 0 1 false [(.int .i64 0)] [])) (.or 4 true [0] (xo 36 (.append 1 8 [(.int .i64 0)] (.t 32) (.t 35))) (.one 10 true [9, 4, 0] (xo 42 (.append 1 8 [(.int .i64 0)] (.t 36) (.t 41))) (.one 14 true [10, 9, 4, 0] (xo 46 (.append 1 8 [(.int .i64 0)] (.t 42) (.t 45))) (.one 15 false [14, 10, 9, 4, 0] (mv 3 46) (.done)))) (.done)) (.done)) (.done))))))))))))
theorem Ya : okR (K5) qg [] K1 = true := by kernel_rfl
theorem J8 : WO (ris (K5) qg []) K1 = Xv := by kernel_rfl def c_ref08_Sort (Q6 : Nat) : AC := QI [0] (.reg [xo 2 (.mknil 1)]) (QI [0, 3] (.reg [xo 3 (.mknil 1)]) (QI [3] (QI [0, 3, 4] (.reg [mc 4 (V.int 0)]) (.block 0 (X2 [0, 3, 4] (QI [0, 3, 4] (QI [0, 3, 4, 9] (.reg [mv 6 4, mv 7 0, ln 8 7, bn 9 .lss 6 8]) (.cond (.t 9) (.skip) (.exit 0))) (QI [0, 3, 4] (.block 1 (QI [0, 3, 4, 5] (.reg [mv 12 3, ln 13 12, mv 5 13]) (QI [0, 3, 4, 5] (.block 2 (X2 [0, 3, 4, 5] (QI [0, 3, 4, 5] (QI [0, 3, 4, 5, 29] (aaf [] K4 (Xw Q6) (K6 Q6) qh) (.cond (.t 29) (.skip) (.exit 2))) (.block 3 (.reg [mv 30 5, bc 31 .sub 30 (V.int 1), mv 5 31]))))) (aaf [] K1 (Xv) (K5) qg)))) (.reg [mv 10 4, bc 11 .add 10 (V.int 1), mv 4 11])))))) (QI [2] (.reg [mv 47 3, mv 2 47]) (.ret)))) def r_ref08_Sort : List XG := [.tmp 2]
def Kf (Γ : Env) (f : Nat) : Prop := ∀ (l : List Int) (hl : l.length < 2 ^ 34), EvW Γ f [.sl 1 (l.map V.int)] 1 ((Kl l).map V.int)
theorem abE {Γ : Env} {f Q6 : Nat} (h : Has Γ.P f 48 (c_ref08_Sort Q6) r_ref08_Sort) (Q5 : Wf Γ Q6) : Kf Γ f := by
  intro l hl
  refine yP h (by simp) (by first | exact vz _ | exact vf _) fun C hC hm => ?_
  subst hC
  unfold c_ref08_Sort
  repeat' (first | refine Qp fun K' hK => ?_ | refine Qt fun K' hK => ?_ | refine Qn 16 (fun _ => true) rfl (Yb _) (J9 _) fun K' hK => ?_ | refine Qo 16 (fun _ => true) rfl (Yb _) (J9 _) fun K' hK => ?_ | refine Qn 16 (fun _ => true) rfl (Ya) (J8) fun K' hK => ?_ | refine Qo 16 (fun _ => true) rfl (Ya) (J8) fun K' hK => ?_ | refine Qq ?_ | refine Qr ?_ | refine Ql ?_ | ((first | refine Qs ⟨_, rfl, fun hc => ?_, fun hc => ?_⟩ | refine QQ (fun hc => ?_) (fun hc => ?_) | refine QR (fun hc => ?_) (fun hc => ?_)) <;> first | exact Bool.noConfusion hc | ((try simp only [znz] at hc); first | exact znf | skip)) | refine Qv ?_ | refine Qu ?_ | simp (maxSteps := 1000000) only [go_sem, Nat.reduceAdd, Nat.reduceMul, Nat.reduceEqDiff, Nat.reduceLeDiff, Nat.reduceLT, Nat.reduceSub, Int.reduceEq, Int.reduceBEq, Int.reduceLT, Int.reduceLE, Int.reduceAdd, Int.reduceToNat, reduceIte, reduceCtorEq, Xw, Xv] | (refine hK _ ?_; clear hK; clear K') | refine And.intro ?_ ?_ | ((first | apply QT | apply Jl); (focus first | exact (Q5 _).b)) | exact zlo | omega | exact zms)
  refine Ju (ι := Nat) (fun k => k ≤ l.length) (fun k => J0 [(0, .sl 1 (l.map V.int)), (3, .hd 0 0 (Kl (l.take k)).length), (4, V.int k)] [(0, .buf true 1 ((Kl (l.take k)).map V.int))] 1) (fun k => l.length - k) 0 (by omega) (Jb [(0, 1000)]) (Jd [(0, 1000)] (by simp only [go_sem, Nat.reduceAdd, Nat.reduceMul, Nat.reduceEqDiff, Nat.reduceLT, Int.reduceToNat, reduceIte, reduceCtorEq, and_true, true_and, implies_true, Option.some.injEq, exists_eq_left', Qk, Qm]; (repeat' (first | rfl | refine And.intro ?_ ?_ | omega | exact fun h => h | exact Exists.intro _ rfl))) (by simp only [go_sem, Nat.reduceAdd, Nat.reduceMul, Nat.reduceEqDiff, Nat.reduceLT, Int.reduceToNat, reduceIte, reduceCtorEq, and_true, true_and, implies_true, Option.some.injEq, exists_eq_left', Qk, Qm]; (repeat' (first | rfl | refine And.intro ?_ ?_ | omega | exact fun h => h | exact Exists.intro _ rfl))) (by simp) (by simp; omega) (by omega)) fun k hk K' hL => ?_
  rcases hd : l.drop k with _ | ⟨x, r⟩
  · have hkl := YL hd
    have e1 : decide ((k : Int) < (((l.map V.int).length : Nat) : Int)) = false := by simp; omega
    have e3 : l.take k = l := List.take_of_length_le hkl
    rw [e3]
    repeat' (first | refine Qp fun K' hK => ?_ | refine Qt fun K' hK => ?_ | refine Qn 16 (fun _ => true) rfl (Yb _) (J9 _) fun K' hK => ?_ | refine Qo 16 (fun _ => true) rfl (Yb _) (J9 _) fun K' hK => ?_ | refine Qn 16 (fun _ => true) rfl (Ya) (J8) fun K' hK => ?_ | refine Qo 16 (fun _ => true) rfl (Ya) (J8) fun K' hK => ?_ | refine Qq ?_ | refine Qr ?_ | refine Ql ?_ | ((first | refine Qs ⟨_, rfl, fun hc => ?_, fun hc => ?_⟩ | refine QQ (fun hc => ?_) (fun hc => ?_) | refine QR (fun hc => ?_) (fun hc => ?_)) <;> first | exact Bool.noConfusion hc | ((try simp only [znz] at hc); first | exact znf | skip)) | refine Qv ?_ | refine Qu ?_ | simp (maxSteps := 1000000) only [go_sem, Nat.reduceAdd, Nat.reduceMul, Nat.reduceEqDiff, Nat.reduceLeDiff, Nat.reduceLT, Nat.reduceSub, Int.reduceEq, Int.reduceBEq, Int.reduceLT, Int.reduceLE, Int.reduceAdd, Int.reduceToNat, reduceIte, reduceCtorEq, J0, e1, Xw, Xv] | (refine hK _ ?_; clear hK; clear K') | refine And.intro ?_ ?_ | ((first | apply QT | apply Jl); (focus first | exact (Q5 _).b)) | exact zlo | omega | exact zms)
    all_goals (refine acI _ _ rfl ?_ ?_ <;> first | rfl | (simp; done))
  · obtain ⟨hk', hget, hr⟩ := Yf hd
    have hw := JD (k := k) (by omega)
    have e1 : decide ((k : Int) < (((l.map V.int).length : Nat) : Int)) = true := by simp; omega
    have hcs := aeg hget
    have hol : (Kl (l.take k)).length = k := by rw [y4, List.length_take]; omega
    generalize Kl (l.take k) = out at *
    repeat' (first | refine Qp fun K' hK => ?_ | refine Qt fun K' hK => ?_ | refine Qn 16 (fun _ => true) rfl (Yb _) (J9 _) fun K' hK => ?_ | refine Qo 16 (fun _ => true) rfl (Yb _) (J9 _) fun K' hK => ?_ | refine Qn 16 (fun _ => true) rfl (Ya) (J8) fun K' hK => ?_ | refine Qo 16 (fun _ => true) rfl (Ya) (J8) fun K' hK => ?_ | refine Qq ?_ | refine Qr ?_ | refine Ql ?_ | ((first | refine Qs ⟨_, rfl, fun hc => ?_, fun hc => ?_⟩ | refine QQ (fun hc => ?_) (fun hc => ?_) | refine QR (fun hc => ?_) (fun hc => ?_)) <;> first | exact Bool.noConfusion hc | ((try simp only [znz] at hc); first | exact znf | skip)) | refine Qv ?_ | refine Qu ?_ | simp (maxSteps := 1000000) only [go_sem, Nat.reduceAdd, Nat.reduceMul, Nat.reduceEqDiff, Nat.reduceLeDiff, Nat.reduceLT, Nat.reduceSub, Int.reduceEq, Int.reduceBEq, Int.reduceLT, Int.reduceLE, Int.reduceAdd, Int.reduceToNat, reduceIte, reduceCtorEq, J0, e1, Xw, Xv] | (refine hK _ ?_; clear hK; clear K') | refine And.intro ?_ ?_ | ((first | apply QT | apply Jl); (focus first | exact (Q5 _).b)) | exact zlo | omega | exact zms)
    refine Xb (ι := Nat) (fun j => j ≤ out.length ∧ afX out x j = afX out x out.length) (fun j => [(5, V.int j)]) (fun j => j) out.length (by omega) ⟨by omega, rfl⟩ (by repeat' first | exact XR | refine WR (by omega) (by simp only [Ob.lt, ltL, V.lt, and_self, and_true]; try omega) ?_) (fun i hi => by simp only [ovT, JV, Nat.reduceEqDiff, reduceIte]; (repeat' first | exact WQ | refine XQ ?_ ?_ | simp only [V.lt, ltL, and_self, and_true] | omega)) (by simp only [Nat.reduceAdd, ovT, JV, Nat.reduceEqDiff, reduceIte, Jr, JQ, qv, u32, u33, u34, u35, u36, u37, u38, u39, and_self, and_true, true_and]) fun j hj K'' hL2 => ?_
    obtain ⟨hj, hinv⟩ := hj
    simp only [ovT, JV, Nat.reduceEqDiff, reduceIte]
    rcases j with _ | j
    · have e2 : decide (((0 : Nat) : Int) > 0) = false := rfl
      have h0 : afX out x out.length = 0 := by rw [← hinv]; rfl
      have hfin : V.sc (Value.int .i64 x) :: List.take (out.length - 0) (out.map V.int) = (ac0 out x).map V.int := by
        rw [ac0, h0, List.take_of_length_le (by simp)]; simp
      have hln : 1 + (List.take (out.length - 0) (out.map V.int)).length = (ac0 out x).length := by
        rw [wY]; simp; omega
      repeat' (first | refine Qp fun K' hK => ?_ | refine Qt fun K' hK => ?_ | refine Qn 16 (fun _ => true) rfl (Yb _) (J9 _) fun K' hK => ?_ | refine Qo 16 (fun _ => true) rfl (Yb _) (J9 _) fun K' hK => ?_ | refine Qn 16 (fun _ => true) rfl (Ya) (J8) fun K' hK => ?_ | refine Qo 16 (fun _ => true) rfl (Ya) (J8) fun K' hK => ?_ | refine Qq ?_ | refine Qr ?_ | refine Ql ?_ | ((first | refine Qs ⟨_, rfl, fun hc => ?_, fun hc => ?_⟩ | refine QQ (fun hc => ?_) (fun hc => ?_) | refine QR (fun hc => ?_) (fun hc => ?_)) <;> first | exact Bool.noConfusion hc | ((try simp only [znz] at hc); first | exact znf | skip)) | refine Qv ?_ | refine Qu ?_ | simp (maxSteps := 1000000) only [go_sem, Nat.reduceAdd, Nat.reduceMul, Nat.reduceEqDiff, Nat.reduceLeDiff, Nat.reduceLT, Nat.reduceSub, Int.reduceEq, Int.reduceBEq, Int.reduceLT, Int.reduceLE, Int.reduceAdd, Int.reduceToNat, reduceIte, reduceCtorEq, e2, hw, Int.toNat_natCast, List.getElem?_map, hget, Xw, Xv] | (refine hK _ ?_; clear hK; clear K') | refine And.intro ?_ ?_ | ((first | apply QT | apply Jl); (focus first | exact (Q5 _).b)) | exact zlo | omega | exact zms)
      all_goals first
        | (intro y hy; have h9 := List.mem_of_mem_take hy; simp only [List.mem_map] at h9; obtain ⟨z, _, rfl⟩ := h9; rfl)
        | (rw [hln]; rw [wY]; omega)
        | (rw [hln, hfin]
           refine hL _ (k + 1) (Jb [(0, 37001)]) (by omega) (by omega) ?_
           rw [hcs]
           exact Jd [(0, 37001)] (by simp only [go_sem, Nat.reduceAdd, Nat.reduceMul, Nat.reduceEqDiff, Nat.reduceLT, Int.reduceToNat, reduceIte, reduceCtorEq, and_true, true_and, implies_true, Option.some.injEq, exists_eq_left', Qk, Qm]; (repeat' (first | rfl | refine And.intro ?_ ?_ | omega | exact fun h => h | exact Exists.intro _ rfl))) (by simp only [go_sem, Nat.reduceAdd, Nat.reduceMul, Nat.reduceEqDiff, Nat.reduceLT, Int.reduceToNat, reduceIte, reduceCtorEq, and_true, true_and, implies_true, Option.some.injEq, exists_eq_left', Qk, Qm]; (repeat' (first | rfl | refine And.intro ?_ ?_ | omega | exact fun h => h | exact Exists.intro _ rfl))) (by simp) (by simp; omega) (by omega))
        | trace_state
    · have e2 : decide (((j + 1 : Nat) : Int) > 0) = true := decide_eq_true (by omega)
      have hwj : IntKind.i64.wrap (((j + 1 : Nat) : Int) - 1) = (j : Int) := by rw [JY (by omega) (by omega)]; omega
      obtain ⟨y, hy⟩ : ∃ y, out[j]? = some y := ⟨out[j]'(by omega), List.getElem?_eq_getElem (by omega)⟩
      have hyd : out.getD j 0 = y := by rw [List.getD_eq_getElem?_getD, hy]; rfl
      rw [afX, hyd] at hinv
      have hyt : (List.take out.length (out.map V.int))[j]? = some (V.int y) := by rw [List.take_of_length_le (by simp), List.getElem?_map, hy]; rfl
      rcases hlt : decide (qF y < qF x) with _ | _
      · rw [if_neg (of_decide_eq_false hlt)] at hinv
        have hA : List.take (j + 1 - 0) (out.map V.int) = (out.take (j + 1)).map V.int := by rw [Nat.sub_zero, List.map_take]
        have hB : List.take (out.length - (j + 1)) (List.drop (j + 1) (out.map V.int)) = (out.drop (j + 1)).map V.int := by
          rw [List.take_of_length_le (by simp), List.map_drop]
        have hC : List.take ((out.take (j + 1)).map V.int).length ((out.take (j + 1)).map V.int) = (out.take (j + 1)).map V.int := List.take_length
        have hD : List.take (((out.take (j + 1)).map V.int).length + 1) ((out.take (j + 1)).map V.int ++ [V.sc (Value.int .i64 x)]) = (out.take (j + 1) ++ [x]).map V.int := by
          rw [List.take_of_length_le (by simp), List.map_append]; rfl
        have hfin : (out.take (j + 1) ++ [x]).map V.int ++ (out.drop (j + 1)).map V.int = (ac0 out x).map V.int := by
          rw [ac0, ← hinv, List.map_append, List.map_append, List.map_append]
        have hln : ((out.take (j + 1)).map V.int).length + 1 + ((out.drop (j + 1)).map V.int).length = (ac0 out x).length := by
          rw [wY]; simp; omega
        repeat' (first | refine Qp fun K' hK => ?_ | refine Qt fun K' hK => ?_ | refine Qn 16 (fun _ => true) rfl (Yb _) (J9 _) fun K' hK => ?_ | refine Qo 16 (fun _ => true) rfl (Yb _) (J9 _) fun K' hK => ?_ | refine Qn 16 (fun _ => true) rfl (Ya) (J8) fun K' hK => ?_ | refine Qo 16 (fun _ => true) rfl (Ya) (J8) fun K' hK => ?_ | refine Qq ?_ | refine Qr ?_ | refine Ql ?_ | ((first | refine Qs ⟨_, rfl, fun hc => ?_, fun hc => ?_⟩ | refine QQ (fun hc => ?_) (fun hc => ?_) | refine QR (fun hc => ?_) (fun hc => ?_)) <;> first | exact Bool.noConfusion hc | ((try simp only [znz] at hc); first | exact znf | skip)) | refine Qv ?_ | refine Qu ?_ | simp (maxSteps := 1000000) only [go_sem, Nat.reduceAdd, Nat.reduceMul, Nat.reduceEqDiff, Nat.reduceLeDiff, Nat.reduceLT, Nat.reduceSub, Int.reduceEq, Int.reduceBEq, Int.reduceLT, Int.reduceLE, Int.reduceAdd, Int.reduceToNat, reduceIte, reduceCtorEq, e2, hw, hwj, Int.toNat_natCast, List.getElem?_map, hget, hy, hlt, Xw, Xv] | (refine hK _ ?_; clear hK; clear K') | refine And.intro ?_ ?_ | ((first | apply QT | apply Jl); (focus first | exact (Q5 _).b)) | exact zlo | omega | exact zms)
        all_goals first
          | (intro z hz; rw [hA] at hz; simp only [List.mem_map] at hz; obtain ⟨w, _, rfl⟩ := hz; rfl)
          | (intro z hz; rw [hB] at hz; simp only [List.mem_map] at hz; obtain ⟨w, _, rfl⟩ := hz; rfl)
          | (simp; done)
          | (simp; omega)
          | (rw [hA, hB, hln, hC, hD, hfin]
             refine hL _ (k + 1) (Jb [(0, 37001)]) (by omega) (by omega) ?_
             rw [hcs]
             exact Jd [(0, 37001)] (by simp only [go_sem, Nat.reduceAdd, Nat.reduceMul, Nat.reduceEqDiff, Nat.reduceLT, Int.reduceToNat, reduceIte, reduceCtorEq, and_true, true_and, implies_true, Option.some.injEq, exists_eq_left', Qk, Qm]; (repeat' (first | rfl | refine And.intro ?_ ?_ | omega | exact fun h => h | exact Exists.intro _ rfl))) (by simp only [go_sem, Nat.reduceAdd, Nat.reduceMul, Nat.reduceEqDiff, Nat.reduceLT, Int.reduceToNat, reduceIte, reduceCtorEq, and_true, true_and, implies_true, Option.some.injEq, exists_eq_left', Qk, Qm]; (repeat' (first | rfl | refine And.intro ?_ ?_ | omega | exact fun h => h | exact Exists.intro _ rfl))) (by simp) (by simp; omega) (by omega))
          | trace_state
      · repeat' (first | refine Qp fun K' hK => ?_ | refine Qt fun K' hK => ?_ | refine Qn 16 (fun _ => true) rfl (Yb _) (J9 _) fun K' hK => ?_ | refine Qo 16 (fun _ => true) rfl (Yb _) (J9 _) fun K' hK => ?_ | refine Qn 16 (fun _ => true) rfl (Ya) (J8) fun K' hK => ?_ | refine Qo 16 (fun _ => true) rfl (Ya) (J8) fun K' hK => ?_ | refine Qq ?_ | refine Qr ?_ | refine Ql ?_ | ((first | refine Qs ⟨_, rfl, fun hc => ?_, fun hc => ?_⟩ | refine QQ (fun hc => ?_) (fun hc => ?_) | refine QR (fun hc => ?_) (fun hc => ?_)) <;> first | exact Bool.noConfusion hc | ((try simp only [znz] at hc); first | exact znf | skip)) | refine Qv ?_ | refine Qu ?_ | simp (maxSteps := 1000000) only [go_sem, Nat.reduceAdd, Nat.reduceMul, Nat.reduceEqDiff, Nat.reduceLeDiff, Nat.reduceLT, Nat.reduceSub, Int.reduceEq, Int.reduceBEq, Int.reduceLT, Int.reduceLE, Int.reduceAdd, Int.reduceToNat, reduceIte, reduceCtorEq, e2, hw, hwj, Int.toNat_natCast, List.getElem?_map, hget, hy, hlt, Xw, Xv] | (refine hK _ ?_; clear hK; clear K') | refine And.intro ?_ ?_ | ((first | apply QT | apply Jl); (focus first | exact (Q5 _).b)) | exact zlo | omega | exact zms)
        rw [if_pos (of_decide_eq_true hlt)] at hinv
        all_goals exact hL2 _ j (by simp only [Nat.reduceAdd, ovT, JV, Nat.reduceEqDiff, reduceIte, Jr, JQ, qv, u32, u33, u34, u35, u36, u37, u38, u39, and_self, and_true, true_and]) ⟨by omega, hinv⟩ (by omega) (fun a ha => by simp only [u32, u33, u34, u35, u36, u37, u38, u39]; repeat rw [if_neg (by omega)])
end Av
end

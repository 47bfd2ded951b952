/- K14 -/
import Derived.Test.YtlpaikjhphkioaaGreatK13
import Derived.Test.YtlpaikjhphkioaaGreatK9
import Derived.Test.YtlpaikjhphkioaaGreatK12
set_option linter.unusedVariables false
set_option linter.unusedSimpArgs false
section
set_option maxRecDepth 10000
set_option maxHeartbeats 4000000
namespace Av
open Go
attribute [local irreducible] AWp wo acE afd awS awC al0 awQ am3 YI adu ak3 awR aeq awB okR afY ris
def akx (f : Qa) : Bool := f.alg == 0 && f.bits == 0
def vj (f : Qa) : Bool :=
  if f.kind = 1 ∨ f.kind = 8 then decide (Q4 f.alg f.bits > 0) && f.num == 0 && f.text == []
  else if f.kind = 2 then akx f && f.text == [] && decide (f.num ≥ 0) && decide (f.num ≤ 65535)
  else if f.kind = 3 then decide (Q4 f.alg f.bits > 0) && (Uh f.alg).kind == 2 && decide (f.num ≥ 0) && decide (f.num ≤ 2147483648) && f.text == []
  else if f.kind = 4 ∨ f.kind = 5 then akx f && f.text == [] && decide (f.num ≥ 1) && decide (f.num ≤ 4)
  else if f.kind = 6 then akx f && f.text == [] && decide (f.num ≥ 0) && decide (f.num ≤ 2147483648)
  else if f.kind = 7 then akx f && f.num == 0 && Q5 f.text
  else false
def WJ (f : Qa) : Bool := Q5 f.host && Q5 f.subj && decide (f.mach ≥ 0) && decide (f.mach ≤ 1099511627776) && (decide (f.day ≥ 0) && decide (f.day ≤ 40000) && decide (f.conf ≥ 1) && decide (f.conf ≤ 100)) && !decide (f.src < 1) && !decide (f.src > 7) && vj f
def K8 (J0 qD J1 : Nat) : AC := Qb [1] (.reg [xo 1 (.box true 11 (.t 0)), mc 2 (V.bool false)]) (Qb [1, 3] (.reg [fa 4 7 1, xo 5 (.load true 2 (.t 4)), xo 6 (.build [vi0, vi0] []), xo 7 (.eqagg false [0, 0] (.t 5) (.t 6)), mv 8 7, xg 9 (.faddr 10 (.t 1)) 8 true, xg 10 (.load false 1 (.t 9)) 8 true, xg 11 (.bin .eql (.t 10) (.c (V.str []))) 8 true, xo 12 (.pick (.t 8) (.t 11) (.c (V.bool false))), mv 3 12]) (Qb [] (Qb [1, 3, 14] (.reg [fa 13 5 1, ld 14 1 13]) (.block 0 (Qb [1, 3, 14, 15] (Qb [1, 3, 14, 15] (.reg [bc 16 .eql 14 (V.int 1), mv 15 16]) (.cond (.t 15) .skip (.reg [bc 17 .eql 14 (V.int 8), mv 15 17]))) (.cond (.t 15) (Qb [2] (.reg [fa 18 7 1, xo 19 (.load true 2 (.t 18)), cl 20 J0 [19], mv 21 20, xg 22 (.faddr 9 (.t 1)) 21 true, xg 23 (.load false 1 (.t 22)) 21 true, xg 24 (.bin .eql (.t 23) (.c (V.int 0))) 21 true, xo 25 (.pick (.t 21) (.t 24) (.c (V.bool false))), mv 26 25, xg 27 (.faddr 10 (.t 1)) 26 true, xg 28 (.load false 1 (.t 27)) 26 true, xg 29 (.bin .eql (.t 28) (.c (V.str []))) 26 true, xo 30 (.pick (.t 26) (.t 29) (.c (V.bool false))), mv 2 30]) .ret) (Qb [1, 3, 14, 31] (.reg [bc 32 .eql 14 (V.int 2), mv 31 32]) (.cond (.t 31) (Qb [2] (.reg [mv 33 3, mv 34 33, xg 35 (.faddr 9 (.t 1)) 34 true, xg 36 (.load false 1 (.t 35)) 34 true, xg 37 (.bin .geq (.t 36) (.c (V.int 0))) 34 true, xo 38 (.pick (.t 34) (.t 37) (.c (V.bool false))), mv 39 38, xg 40 (.faddr 9 (.t 1)) 39 true, xg 41 (.load false 1 (.t 40)) 39 true, xg 42 (.bin .leq (.t 41) (.c (V.int 65535))) 39 true, xo 43 (.pick (.t 39) (.t 42) (.c (V.bool false))), mv 2 43]) .ret) (Qb [1, 3, 14, 44] (.reg [bc 45 .eql 14 (V.int 3), mv 44 45]) (.cond (.t 44) (Qb [2] (.reg [fa 46 7 1, xo 47 (.load true 2 (.t 46)), cl 48 J0 [47], mv 49 48, xg 50 (.faddr 7 (.t 1)) 49 true, xg 51 (.faddr 0 (.t 50)) 49 true, xg 52 (.load false 1 (.t 51)) 49 true, xg 53 (.call qD [(.t 52)]) 49 true, xg 54 (.bin .eql (.t 53) (.c (V.int 2))) 49 true, xo 55 (.pick (.t 49) (.t 54) (.c (V.bool false))), mv 56 55, xg 57 (.faddr 9 (.t 1)) 56 true, xg 58 (.load false 1 (.t 57)) 56 true, xg 59 (.bin .geq (.t 58) (.c (V.int 0))) 56 true, xo 60 (.pick (.t 56) (.t 59) (.c (V.bool false))), mv 61 60, xg 62 (.faddr 9 (.t 1)) 61 true, xg 63 (.load false 1 (.t 62)) 61 true, xg 64 (.bin .leq (.t 63) (.c (V.int 2147483648))) 61 true, xo 65 (.pick (.t 61) (.t 64) (.c (V.bool false))), mv 66 65, xg 67 (.faddr 10 (.t 1)) 66 true, xg 68 (.load false 1 (.t 67)) 66 true, xg 69 (.bin .eql (.t 68) (.c (V.str []))) 66 true, xo 70 (.pick (.t 66) (.t 69) (.c (V.bool false))), mv 2 70]) .ret) (Qb [1, 3, 14, 71] (Qb [1, 3, 14, 71] (.reg [bc 72 .eql 14 (V.int 4), mv 71 72]) (.cond (.t 71) .skip (.reg [bc 73 .eql 14 (V.int 5), mv 71 73]))) (.cond (.t 71) (Qb [2] (.reg [mv 74 3, mv 75 74, xg 76 (.faddr 9 (.t 1)) 75 true, xg 77 (.load false 1 (.t 76)) 75 true, xg 78 (.bin .geq (.t 77) (.c (V.int 1))) 75 true, xo 79 (.pick (.t 75) (.t 78) (.c (V.bool false))), mv 80 79, xg 81 (.faddr 9 (.t 1)) 80 true, xg 82 (.load false 1 (.t 81)) 80 true, xg 83 (.bin .leq (.t 82) (.c (V.int 4))) 80 true, xo 84 (.pick (.t 80) (.t 83) (.c (V.bool false))), mv 2 84]) .ret) (Qb [1, 3, 14, 85] (.reg [bc 86 .eql 14 (V.int 6), mv 85 86]) (.cond (.t 85) (Qb [2] (.reg [mv 87 3, mv 88 87, xg 89 (.faddr 9 (.t 1)) 88 true, xg 90 (.load false 1 (.t 89)) 88 true, xg 91 (.bin .geq (.t 90) (.c (V.int 0))) 88 true, xo 92 (.pick (.t 88) (.t 91) (.c (V.bool false))), mv 93 92, xg 94 (.faddr 9 (.t 1)) 93 true, xg 95 (.load false 1 (.t 94)) 93 true, xg 96 (.bin .leq (.t 95) (.c (V.int 2147483648))) 93 true, xo 97 (.pick (.t 93) (.t 96) (.c (V.bool false))), mv 2 97]) .ret) (Qb [1, 98] (.reg [bc 99 .eql 14 (V.int 7), mv 98 99]) (.cond (.t 98) (Qb [2] (.reg [fa 100 7 1, xo 101 (.load true 2 (.t 100)), xo 102 (.build [vi0, vi0] []), xo 103 (.eqagg false [0, 0] (.t 101) (.t 102)), mv 104 103, xg 105 (.faddr 9 (.t 1)) 104 true, xg 106 (.load false 1 (.t 105)) 104 true, xg 107 (.bin .eql (.t 106) (.c (V.int 0))) 104 true, xo 108 (.pick (.t 104) (.t 107) (.c (V.bool false))), mv 109 108, xg 110 (.faddr 10 (.t 1)) 109 true, xg 111 (.load false 1 (.t 110)) 109 true, xg 112 (.call J1 [(.t 111)]) 109 true, xo 113 (.pick (.t 109) (.t 112) (.c (V.bool false))), mv 2 113]) .ret) .skip)))))))))))))) (Qb [2] (.reg [mc 2 (V.bool false)]) .ret))) def r_finding_content : List Jf := [.tmp 2]
def Ky (Γ : Env) (f : Nat) : Prop := ∀ (f0 : Qa) (ht : f0.text.length < 2 ^ 60), EvN Γ f [f0.v] (V.bool (vj f0))
theorem ac9 {Γ : Env} {f J0 qD J1 : Nat} (h : Has Γ.P f 114 (K8 J0 qD J1) r_finding_content) (z0 : Up Γ J0) (z1 : yT Γ qD) (z2 : Uq Γ J1) : Ky Γ f := by
  intro f0 ht
  refine Qd h zsi zcl zcl fun C hC hm => ?_
  subst hC
  unfold K8
  obtain ⟨src, host, mach, day, conf, kind, subj, alg, bits, num, text⟩ := f0
  have hN := (z2 text ht).b
  simp only [vj, akx, Qa.v, Qa.cells] at *
  generalize hv : decide (Q4 alg bits > 0) = vv
  generalize hk : (Uh alg).kind = kk
  generalize hkb : (kk == 2) = kb
  generalize hd0 : decide (num ≥ 0) = d0
  generalize hd1 : decide (num ≤ 65535) = d1
  generalize hd2 : decide (num ≤ 2147483648) = d2
  generalize hd3 : decide (num ≥ 1) = d3
  generalize hd4 : decide (num ≤ 4) = d4
  generalize hnn : Q5 text = nn at *
  generalize ha : (alg == 0) = a0
  generalize hb : (bits == 0) = b0
  generalize htx : (text == []) = t0
  generalize hnm : (num == 0) = n0
  have E : ∀ n : Int, kind ≠ n → (kind == n) = false := fun n h => by simpa using h
  by_cases k1 : kind = 1
  · subst k1
    repeat' (first | (refine zsk ?_; intro K' hK) | refine zsp ?_ | (refine zsc ?_ ?_ <;> intro hc <;> first | exact znh | try simp only [znz] at hc) | simp (maxSteps := 1000000) only [go_sem, Nat.reduceAdd, Nat.reduceMul, Nat.reduceEqDiff, Nat.reduceLeDiff, Nat.reduceLT, Nat.reduceSub, Int.reduceEq, Int.reduceBEq, Int.reduceLT, Int.reduceLE, Int.reduceAdd, Int.reduceToNat, reduceIte, reduceCtorEq, hv, hk, hkb, ha, hb, htx, hnm, hd0, hd1, hd2, hd3, hd4] | (refine hK _ ?_; clear hK K') | apply zan | (apply QS; (focus first | exact (z0 _ _).b | exact (z1 _).b | exact (z2 _ zsd).b)) | exact zsq | fail)
    all_goals first | (refine Qv _ rfl ?_; simp only [go_sem, Nat.reduceEqDiff, Nat.reduceAdd, reduceIte, reduceCtorEq]; simp_all; done) | trace_state
  by_cases k8 : kind = 8
  · subst k8
    repeat' (first | (refine zsk ?_; intro K' hK) | refine zsp ?_ | (refine zsc ?_ ?_ <;> intro hc <;> first | exact znh | try simp only [znz] at hc) | simp (maxSteps := 1000000) only [go_sem, Nat.reduceAdd, Nat.reduceMul, Nat.reduceEqDiff, Nat.reduceLeDiff, Nat.reduceLT, Nat.reduceSub, Int.reduceEq, Int.reduceBEq, Int.reduceLT, Int.reduceLE, Int.reduceAdd, Int.reduceToNat, reduceIte, reduceCtorEq, hv, hk, hkb, ha, hb, htx, hnm, hd0, hd1, hd2, hd3, hd4] | (refine hK _ ?_; clear hK K') | apply zan | (apply QS; (focus first | exact (z0 _ _).b | exact (z1 _).b | exact (z2 _ zsd).b)) | exact zsq | fail)
    all_goals first | (refine Qv _ rfl ?_; simp only [go_sem, Nat.reduceEqDiff, Nat.reduceAdd, reduceIte, reduceCtorEq]; simp_all; done) | trace_state
  by_cases k2 : kind = 2
  · subst k2
    repeat' (first | (refine zsk ?_; intro K' hK) | refine zsp ?_ | (refine zsc ?_ ?_ <;> intro hc <;> first | exact znh | try simp only [znz] at hc) | simp (maxSteps := 1000000) only [go_sem, Nat.reduceAdd, Nat.reduceMul, Nat.reduceEqDiff, Nat.reduceLeDiff, Nat.reduceLT, Nat.reduceSub, Int.reduceEq, Int.reduceBEq, Int.reduceLT, Int.reduceLE, Int.reduceAdd, Int.reduceToNat, reduceIte, reduceCtorEq, hv, hk, hkb, ha, hb, htx, hnm, hd0, hd1, hd2, hd3, hd4] | (refine hK _ ?_; clear hK K') | apply zan | (apply QS; (focus first | exact (z0 _ _).b | exact (z1 _).b | exact (z2 _ zsd).b)) | exact zsq | fail)
    all_goals first | (refine Qv _ rfl ?_; simp only [go_sem, Nat.reduceEqDiff, Nat.reduceAdd, reduceIte, reduceCtorEq]; simp_all; done) | trace_state
  by_cases k3 : kind = 3
  · subst k3
    repeat' (first | (refine zsk ?_; intro K' hK) | refine zsp ?_ | (refine zsc ?_ ?_ <;> intro hc <;> first | exact znh | try simp only [znz] at hc) | simp (maxSteps := 1000000) only [go_sem, Nat.reduceAdd, Nat.reduceMul, Nat.reduceEqDiff, Nat.reduceLeDiff, Nat.reduceLT, Nat.reduceSub, Int.reduceEq, Int.reduceBEq, Int.reduceLT, Int.reduceLE, Int.reduceAdd, Int.reduceToNat, reduceIte, reduceCtorEq, hv, hk, hkb, ha, hb, htx, hnm, hd0, hd1, hd2, hd3, hd4] | (refine hK _ ?_; clear hK K') | apply zan | (apply QS; (focus first | exact (z0 _ _).b | exact (z1 _).b | exact (z2 _ zsd).b)) | exact zsq | fail)
    all_goals first | (refine Qv _ rfl ?_; simp only [go_sem, Nat.reduceEqDiff, Nat.reduceAdd, reduceIte, reduceCtorEq]; simp_all; done) | trace_state
  by_cases k4 : kind = 4
  · subst k4
    repeat' (first | (refine zsk ?_; intro K' hK) | refine zsp ?_ | (refine zsc ?_ ?_ <;> intro hc <;> first | exact znh | try simp only [znz] at hc) | simp (maxSteps := 1000000) only [go_sem, Nat.reduceAdd, Nat.reduceMul, Nat.reduceEqDiff, Nat.reduceLeDiff, Nat.reduceLT, Nat.reduceSub, Int.reduceEq, Int.reduceBEq, Int.reduceLT, Int.reduceLE, Int.reduceAdd, Int.reduceToNat, reduceIte, reduceCtorEq, hv, hk, hkb, ha, hb, htx, hnm, hd0, hd1, hd2, hd3, hd4] | (refine hK _ ?_; clear hK K') | apply zan | (apply QS; (focus first | exact (z0 _ _).b | exact (z1 _).b | exact (z2 _ zsd).b)) | exact zsq | fail)
    all_goals first | (refine Qv _ rfl ?_; simp only [go_sem, Nat.reduceEqDiff, Nat.reduceAdd, reduceIte, reduceCtorEq]; simp_all; done) | trace_state
  by_cases k5 : kind = 5
  · subst k5
    repeat' (first | (refine zsk ?_; intro K' hK) | refine zsp ?_ | (refine zsc ?_ ?_ <;> intro hc <;> first | exact znh | try simp only [znz] at hc) | simp (maxSteps := 1000000) only [go_sem, Nat.reduceAdd, Nat.reduceMul, Nat.reduceEqDiff, Nat.reduceLeDiff, Nat.reduceLT, Nat.reduceSub, Int.reduceEq, Int.reduceBEq, Int.reduceLT, Int.reduceLE, Int.reduceAdd, Int.reduceToNat, reduceIte, reduceCtorEq, hv, hk, hkb, ha, hb, htx, hnm, hd0, hd1, hd2, hd3, hd4] | (refine hK _ ?_; clear hK K') | apply zan | (apply QS; (focus first | exact (z0 _ _).b | exact (z1 _).b | exact (z2 _ zsd).b)) | exact zsq | fail)
    all_goals first | (refine Qv _ rfl ?_; simp only [go_sem, Nat.reduceEqDiff, Nat.reduceAdd, reduceIte, reduceCtorEq]; simp_all; done) | trace_state
  by_cases k6 : kind = 6
  · subst k6
    repeat' (first | (refine zsk ?_; intro K' hK) | refine zsp ?_ | (refine zsc ?_ ?_ <;> intro hc <;> first | exact znh | try simp only [znz] at hc) | simp (maxSteps := 1000000) only [go_sem, Nat.reduceAdd, Nat.reduceMul, Nat.reduceEqDiff, Nat.reduceLeDiff, Nat.reduceLT, Nat.reduceSub, Int.reduceEq, Int.reduceBEq, Int.reduceLT, Int.reduceLE, Int.reduceAdd, Int.reduceToNat, reduceIte, reduceCtorEq, hv, hk, hkb, ha, hb, htx, hnm, hd0, hd1, hd2, hd3, hd4] | (refine hK _ ?_; clear hK K') | apply zan | (apply QS; (focus first | exact (z0 _ _).b | exact (z1 _).b | exact (z2 _ zsd).b)) | exact zsq | fail)
    all_goals first | (refine Qv _ rfl ?_; simp only [go_sem, Nat.reduceEqDiff, Nat.reduceAdd, reduceIte, reduceCtorEq]; simp_all; done) | trace_state
  by_cases k7 : kind = 7
  · subst k7
    repeat' (first | (refine zsk ?_; intro K' hK) | refine zsp ?_ | (refine zsc ?_ ?_ <;> intro hc <;> first | exact znh | try simp only [znz] at hc) | simp (maxSteps := 1000000) only [go_sem, Nat.reduceAdd, Nat.reduceMul, Nat.reduceEqDiff, Nat.reduceLeDiff, Nat.reduceLT, Nat.reduceSub, Int.reduceEq, Int.reduceBEq, Int.reduceLT, Int.reduceLE, Int.reduceAdd, Int.reduceToNat, reduceIte, reduceCtorEq, hv, hk, hkb, ha, hb, htx, hnm, hd0, hd1, hd2, hd3, hd4] | (refine hK _ ?_; clear hK K') | apply zan | (apply QS; (focus first | exact (z0 _ _).b | exact (z1 _).b | exact (z2 _ zsd).b)) | exact zsq | fail)
    all_goals first | (refine Qv _ rfl ?_; simp only [go_sem, Nat.reduceEqDiff, Nat.reduceAdd, reduceIte, reduceCtorEq]; simp_all; done) | trace_state
  repeat' (first | (refine zsk ?_; intro K' hK) | refine zsp ?_ | (refine zsc ?_ ?_ <;> intro hc <;> first | exact znh | try simp only [znz] at hc) | simp (maxSteps := 1000000) only [go_sem, Nat.reduceAdd, Nat.reduceMul, Nat.reduceEqDiff, Nat.reduceLeDiff, Nat.reduceLT, Nat.reduceSub, Int.reduceEq, Int.reduceBEq, Int.reduceLT, Int.reduceLE, Int.reduceAdd, Int.reduceToNat, reduceIte, reduceCtorEq, hv, hk, hkb, ha, hb, htx, hnm, hd0, hd1, hd2, hd3, hd4, E 1 k1, E 8 k8, E 2 k2, E 3 k3, E 4 k4, E 5 k5, E 6 k6, E 7 k7] | (refine hK _ ?_; clear hK K') | apply zan | (apply QS; (focus first | exact (z0 _ _).b | exact (z1 _).b | exact (z2 _ zsd).b)) | exact zsq | fail)
  all_goals first | (refine Qv _ rfl ?_; simp only [go_sem, Nat.reduceEqDiff, Nat.reduceAdd, reduceIte, reduceCtorEq]; simp [*]; done) | trace_state
def yx (J1 Vy : Nat) : AC := Qb [1] (.reg [xo 1 (.box true 11 (.t 0)), mc 2 (V.int 0)]) (Qb [1, 3] (.reg [fa 5 1 1, ld 6 1 5, cl 7 J1 [6], mv 8 7, xg 9 (.faddr 6 (.t 1)) 8 true, xg 10 (.load false 1 (.t 9)) 8 true, xg 11 (.call J1 [(.t 10)]) 8 true, xo 12 (.pick (.t 8) (.t 11) (.c (V.bool false))), mv 13 12, xg 14 (.faddr 2 (.t 1)) 13 true, xg 15 (.load false 1 (.t 14)) 13 true, xg 16 (.bin .geq (.t 15) (.c (V.int 0))) 13 true, xo 17 (.pick (.t 13) (.t 16) (.c (V.bool false))), mv 18 17, xg 19 (.faddr 2 (.t 1)) 18 true, xg 20 (.load false 1 (.t 19)) 18 true, xg 21 (.bin .leq (.t 20) (.c (V.int 1099511627776))) 18 true, xo 22 (.pick (.t 18) (.t 21) (.c (V.bool false))), mv 3 22]) (Qb [1, 3, 4] (.reg [fa 23 3 1, ld 24 1 23, bc 25 .geq 24 (V.int 0), mv 26 25, xg 27 (.faddr 3 (.t 1)) 26 true, xg 28 (.load false 1 (.t 27)) 26 true, xg 29 (.bin .leq (.t 28) (.c (V.int 40000))) 26 true, xo 30 (.pick (.t 26) (.t 29) (.c (V.bool false))), mv 31 30, xg 32 (.faddr 4 (.t 1)) 31 true, xg 33 (.load false 1 (.t 32)) 31 true, xg 34 (.bin .geq (.t 33) (.c (V.int 1))) 31 true, xo 35 (.pick (.t 31) (.t 34) (.c (V.bool false))), mv 36 35, xg 37 (.faddr 4 (.t 1)) 36 true, xg 38 (.load false 1 (.t 37)) 36 true, xg 39 (.bin .leq (.t 38) (.c (V.int 100))) 36 true, xo 40 (.pick (.t 36) (.t 39) (.c (V.bool false))), mv 4 40]) (Qb [] (Qb [61] (.reg [mv 41 3, xo 42 (.un .not (.t 41)), mv 43 42, mg 44 4 43 false, xg 45 (.un .not (.t 44)) 43 false, xo 46 (.pick (.t 43) (.c (V.bool true)) (.t 45)), mv 47 46, xg 48 (.faddr 0 (.t 1)) 47 false, xg 49 (.load false 1 (.t 48)) 47 false, xg 50 (.bin .lss (.t 49) (.c (V.int 1))) 47 false, xo 51 (.pick (.t 47) (.c (V.bool true)) (.t 50)), mv 52 51, xg 53 (.faddr 0 (.t 1)) 52 false, xg 54 (.load false 1 (.t 53)) 52 false, xg 55 (.bin .gtr (.t 54) (.c (V.int 7))) 52 false, xo 56 (.pick (.t 52) (.c (V.bool true)) (.t 55)), mv 57 56, xg 58 (.load true 11 (.t 1)) 57 false, xg 59 (.call Vy [(.t 58)]) 57 false, xg 60 (.un .not (.t 59)) 57 false, xo 61 (.pick (.t 57) (.c (V.bool true)) (.t 60))]) (.cond (.t 61) (Qb [2] (.reg [mc 2 (V.int 24)]) .ret) .skip)) (Qb [2] (.reg [mc 2 (V.int 0)]) .ret)))) def r_finding_Check : List Jf := [.tmp 2]
def jt (Γ : Env) (f : Nat) : Prop := ∀ (f0 : Qa) (hh : f0.host.length < 2 ^ 60) (hs : f0.subj.length < 2 ^ 60) (ht : f0.text.length < 2 ^ 60), EvN Γ f [f0.v] (V.int (bif WJ f0 then 0 else 24))
theorem afv {Γ : Env} {f J1 Vy : Nat} (h : Has Γ.P f 62 (yx J1 Vy) r_finding_Check) (z0 : Uq Γ J1) (z1 : Ky Γ Vy) : jt Γ f := by
  intro f0 hh hs ht
  refine Qd h zsi zcl zcl fun C hC hm => ?_
  subst hC
  unfold yx
  obtain ⟨src, host, mach, day, conf, kind, subj, alg, bits, num, text⟩ := f0
  have hN1 := (z0 host hh).b
  have hN2 := (z0 subj hs).b
  have hC := (z1 ⟨src, host, mach, day, conf, kind, subj, alg, bits, num, text⟩ ht).b
  simp only [WJ, Qa.v, Qa.cells] at *
  generalize hd1 : decide (mach ≥ 0) = d1
  generalize hd2 : decide (mach ≤ 1099511627776) = d2
  generalize hd3 : decide (day ≥ 0) = d3
  generalize hd4 : decide (day ≤ 40000) = d4
  generalize hd5 : decide (conf ≥ 1) = d5
  generalize hd6 : decide (conf ≤ 100) = d6
  generalize hd7 : decide (src < 1) = d7
  generalize hd8 : decide (src > 7) = d8
  generalize vj ⟨src, host, mach, day, conf, kind, subj, alg, bits, num, text⟩ = cc at *
  generalize Q5 host = n1 at *
  generalize Q5 subj = n2 at *
  (have zx := And.intro hd1 (And.intro hd2 (And.intro hd3 (And.intro hd4 (And.intro hd5 (And.intro hd6 (And.intro hd7 hd8))))))); refine zgo ?_; repeat' first | exact zt | apply zan | intro hc
  all_goals first | (refine Qv _ rfl ?_; simp only [go_sem, Nat.reduceEqDiff, Nat.reduceAdd, reduceIte, reduceCtorEq]; simp_all; done) | trace_state
def Qa.Sz (f : Qa) : Prop := f.host.length < 2 ^ 60 ∧ f.subj.length < 2 ^ 60 ∧ f.text.length < 2 ^ 60
def ltF (a b : Qa) : Bool := decide (ahG a b < 0)
def anN (l : List Qa) : Bool := okP WJ ltF l l.length
def wR (l : List Qa) : Bool := anN l && decide ((l.length : Int) ≤ 400)
theorem aq7 (b : Bool) : ((bif b then (0 : Int) else 24) != 0) = !b := by cases b <;> rfl
def xx (Q8 Q7 : Nat) : List AO := [xo 12 (.load true 11 (.t 4)), cl 13 Q8 [12], bc 14 .neq 13 (V.int 0), mv 15 14, mg 16 3 15 false, xg 17 (.bin .gtr (.t 16) (.c (V.int 0))) 15 false, mg 18 17 15 false, mg 19 0 18 true, mg 20 3 18 true, xg 21 (.bin .sub (.t 20) (.c (V.int 1))) 18 true, xg 22 (.iaddr 11 (.t 19) (.t 21)) 18 true, xg 23 (.load true 11 (.t 22)) 18 true, xg 24 (.load true 11 (.t 4)) 18 true, xg 25 (.call Q7 [(.t 23), (.t 24)]) 18 true, xg 26 (.bin .geq (.t 25) (.c (V.int 0))) 18 true, xg 27 (.pick (.t 18) (.t 26) (.c (V.bool false))) 15 false, xo 28 (.pick (.t 15) (.c (V.bool true)) (.t 27))]
def xH : List (List Nat) := [[], [0], [1], [2, 1], [3], [4, 3], [5, 3, 3], [6], [6], [8, 6], [7, 9, 6], [10, 6], [6], [11, 12, 6, 6], [13, 6], [6, 14, 3], [3, 15]]
def xi : OT := .one 0 (.one 1 (.one 2 (.one 3 (.one 4 (.one 5 (.one 6 (.one 7 (.one 8 (.one 9 (.one 10 (.one 11 (.one 12 (.one 13 (.one 14 (.one 15 (.one 16 .done))))))))))))))))
@[go_sem] def xu (Q8 Q7 : Nat) : OP := oN 0 (xo 12 (.load true 11 (.t 4))) (oN 1 (cl 13 Q8 [12]) (oN 2 (bc 14 .neq 13 (V.int 0)) (oN 3 (mv 15 14) (oN 4 (mg 16 3 15 false) (oN 5 (xg 17 (.bin .gtr (.t 16) (.c (V.int 0))) 15 false) (oN 6 (mg 18 17 15 false) (oN 7 (mg 19 0 18 true) (oN 8 (mg 20 3 18 true) (oN 9 (xg 21 (.bin .sub (.t 20) (.c (V.int 1))) 18 true) (.one 10 false [1] (xg 22 (.iaddr 11 (.t 19) (.t 21)) 18 true) (.one 11 false [1] (xg 23 (.load true 11 (.t 22)) 18 true) (.one 12 false [1] (xg 24 (.load true 11 (.t 4)) 18 true) (.one 13 false [1] (xg 25 (.call Q7 [(.t 23), (.t 24)]) 18 true) (oN 14 (xg 26 (.bin .geq (.t 25) (.c (V.int 0))) 18 true) (oN 15 (xg 27 (.pick (.t 18) (.t 26) (.c (V.bool false))) 15 false) (oN 16 (xo 28 (.pick (.t 15) (.c (V.bool true)) (.t 27))) .done))))))))))))))))
instance (Q8 Q7 : Nat) : RG [] xi (xu Q8 Q7) (xx Q8 Q7) xH 17 (fun _ => true) := ⟨rfl, by kernel_rfl, by kernel_rfl⟩
def jj (Q8 Q7 : Nat) : AC := Qb [0] (.reg [mc 2 (V.bool false)]) (Qb [0] (Qb [0, 5, 6, 7] (.reg [mv 5 0, ln 6 5, mc 7 (V.int 0)]) (.block 0 (Y6 [0, 5, 6, 7] (Qb [0, 5, 6, 7, 8] (.reg [bn 8 .lss 7 6]) (Qb [0, 5, 6, 7] (.cond (.t 8) .skip (.exit 0)) (Qb [0, 5, 6, 7] (.block 1 (Qb [0, 3, 4, 5, 6, 7] (.reg [mv 9 7, ia 10 11 5 7, xo 11 (.load true 11 (.t 10)), xo 4 (.alloc [.val vi0, .val vs0, .val vi0, .val vi0, .val vi0, .val vi0, .val vs0, .val vi0, .val vi0, .val vi0, .val vs0]), mv 3 9, xs 11 4 11]) (Qb [0, 5, 6, 7, 28] (wP [] xi (xu Q8 Q7) (xx Q8 Q7) xH) (.cond (.t 28) (Qb [2] (.reg [mc 2 (V.bool false)]) .ret) .skip)))) (.reg [bc 29 .add 7 (V.int 1), mv 7 29]))))))) (Qb [2] (.reg [mv 30 0, ln 31 30, bc 32 .leq 31 (V.int 400), mv 2 32]) .ret)) def r_finding_Normal : List Jf := [.tmp 2]
def VN (Γ : Env) (f : Nat) : Prop := ∀ (l : List Qa) (hl : l.length < 2 ^ 40) (hz : ∀ x ∈ l, x.Sz), EvN Γ f [.sl 11 (l.map Qa.v)] (V.bool (wR l))
attribute [local go_sem] List.length_map Qa.cells Qa.v Wo in
theorem aef {Γ : Env} {f Q8 Q7 : Nat} (h : Has Γ.P f 33 (jj Q8 Q7) r_finding_Normal) (z0 : jt Γ Q8) (z1 : jr Γ Q7) : VN Γ f := by
  intro l hl hz
  refine Qd h zsi zcl zcl fun C hC hm => ?_
  subst hC
  unfold jj
  refine zgo ?_; repeat' first | exact zt | apply zan | intro hc
  refine QH (ι := Nat) (fun k => k ≤ l.length ∧ okP WJ ltF l k = true) (fun k => Wo [(0, .sl 11 (l.map Qa.v)), (5, .sl 11 (l.map Qa.v)), (6, V.int l.length), (7, V.int k)] [] 0) (fun k => l.length - k) 0 ⟨Nat.zero_le _, rfl⟩ (Ql []) (Qu [] (by simp only [go_sem, zwl, Nat.reduceAdd, Nat.reduceMul, Nat.reduceEqDiff, Nat.reduceLT, Int.reduceToNat, reduceIte, reduceCtorEq, List.length_map] <;> exact zcc) zwa (by simp) (by simp) (by omega)) fun k hk K' hL => ?_
  obtain ⟨hk, hinv⟩ := hk
  rcases hd : l.drop k with _ | ⟨x, r⟩
  · have hkl := Je hd
    have e1 : decide ((k : Int) < (l.length : Int)) = false := by simp; omega
    have hkk : k = l.length := by omega
    subst hkk
    have hn : wR l = decide ((l.length : Int) ≤ 400) := by rw [wR, anN, hinv, Bool.true_and]
    rw [hn]
    (have zx := e1); exact zg
  · obtain ⟨hk', hget, hr⟩ := QJ hd
    have hw := Qr (k := k) (by omega)
    have e1 : decide ((k : Int) < (l.length : Int)) = true := by simp; omega
    have hxz := hz x (List.mem_of_getElem? hget)
    have hnx := (z0 x hxz.1 hxz.2.1 hxz.2.2).b
    have hbad : okP WJ ltF l (k + 1) = false → wR l = false := fun h => by rw [wR, anN, aqO h (by omega), Bool.false_and]
    have hce := aq7 (WJ x)
    simp only [Qa.v, Qa.cells] at hnx
    rcases hx : WJ x with _ | _
    · have hb : okP WJ ltF l (k + 1) = false := by rw [afH, hget]; simp [hx]
      rw [hbad hb]
      rw [hx] at hce hnx
      (have zx := And.intro e1 (And.intro hw (And.intro hce hget))); exact zg
    · rw [hx] at hce hnx
      rcases k with _ | k
      · have hw0 : IntKind.i64.wrap 1 = ((1 : Nat) : Int) := by decide
        have hg1 : okP WJ ltF l (0 + 1) = true := by rw [aqM hget, hx]
        have e2 : decide (((0 : Nat) : Int) > 0) = false := rfl
        (have zx := And.intro e1 (And.intro e2 (And.intro hw (And.intro hw0 (And.intro hce hget))))); refine zgo ?_; repeat' first | exact zt | apply zan | intro hc
        all_goals first | exact hL _ 1 (Ql []) ⟨by omega, hg1⟩ (by omega) (zwg []) | trace_state
      · have e2 : decide (((k + 1 : Nat) : Int) > 0) = true := decide_eq_true (by omega)
        have hw2 : IntKind.i64.wrap (((k + 1 : Nat) : Int) - 1) = (k : Int) := by rw [Ym (by omega) (by omega)]; omega
        obtain ⟨y, hgy⟩ : ∃ y, l[k]? = some y := ⟨_, List.getElem?_eq_getElem (by omega)⟩
        have hnext := apc (p := WJ) (q := ltF) hget hgy
        rw [hinv, hx] at hnext
        have ho := (z1 y x).b
        simp only [Qa.v, Qa.cells] at ho
        rcases hb : ltF y x with _ | _
        · have e3 : decide (ahG y x ≥ 0) = true := by
            rw [ltF, decide_eq_false_iff_not] at hb
            exact decide_eq_true (by omega)
          rw [hbad (by rw [hnext, hb]; rfl)]
          generalize ahG y x = oo at *
          (have zx := And.intro e1 (And.intro e2 (And.intro e3 (And.intro hw (And.intro hw2 (And.intro hce (And.intro hget hgy))))))); exact zg
        · have e3 : decide (ahG y x ≥ 0) = false := by
            rw [ltF, decide_eq_true_iff] at hb
            exact decide_eq_false (by omega)
          have hg2 : okP WJ ltF l (k + 2) = true := by rw [hnext, hb]; rfl
          generalize ahG y x = oo at *
          (have zx := And.intro e1 (And.intro e2 (And.intro e3 (And.intro hw (And.intro hw2 (And.intro hce (And.intro hget hgy))))))); refine zgo ?_; repeat' first | exact zt | apply zan | intro hc
          all_goals first | exact hL _ (k + 2) (Ql []) ⟨by omega, hg2⟩ (by omega) (zwg []) | trace_state
def Yj (l : List Qa) (gap : Int) : Int := if wR l = true then (if gap < 0 ∨ gap > 4000 then 2 else 0) else 24
theorem aqN {α : Type} {p : α → Bool} {q : α → α → Bool} {l : List α} {k i : Nat} {x : α} (h : okP p q l k = true) (hi : i < k) (hx : l[i]? = some x) : p x = true := by
  rw [okP, List.all_eq_true] at h
  have := h i (List.mem_range.2 hi)
  rw [hx] at this
  simp only [Bool.and_eq_true] at this
  exact this.1
theorem ahK {l : List Qa} (h : wR l = true) : l.length ≤ 400 ∧ ∀ x ∈ l, WJ x = true := by
  rw [wR, Bool.and_eq_true, decide_eq_true_iff] at h
  refine ⟨by omega, fun x hx => ?_⟩
  obtain ⟨i, hi, rfl⟩ := List.getElem_of_mem hx
  exact aqN h.1 hi (List.getElem?_eq_getElem hi)
theorem aow {x : Qa} (h : WJ x = true) : aq3 x := by
  simp only [WJ, Bool.and_eq_true, decide_eq_true_iff] at h
  exact ⟨by omega, by omega⟩
theorem apD {l : List Qa} {gap : Int} (h : Yj l gap = 0) : l.length ≤ 400 ∧ ∀ x ∈ l, aq3 x := by
  unfold Yj at h
  split at h
  · rename_i hn
    exact ⟨(ahK hn).1, fun x hx => aow ((ahK hn).2 x hx)⟩
  · cases h
def ji (J4 : Nat) : AC := Qb [0, 1] (.reg [mc 4 (V.int 0)]) (Qb [] (.block 0 (Qb [1, 5] (.reg [mv 6 0, cl 7 J4 [6], xo 8 (.un .not (.t 7)), mv 5 8]) (.cond (.t 5) (Qb [4] (.reg [mc 4 (V.int 24)]) .ret) (Qb [9] (.reg [mv 10 1, bc 11 .lss 10 (V.int 0), mv 12 11, mg 13 1 12 false, xg 14 (.bin .gtr (.t 13) (.c (V.int 4000))) 12 false, xo 15 (.pick (.t 12) (.c (V.bool true)) (.t 14)), mv 9 15]) (.cond (.t 9) (Qb [4] (.reg [mc 4 (V.int 2)]) .ret) .skip))))) (Qb [4] (.reg [mc 4 (V.int 0)]) .ret)) def r_identity_early : List Jf := [.tmp 4]
def qy (Γ : Env) (f : Nat) : Prop := ∀ (l : List Qa) (gap : Int) (hl : l.length < 2 ^ 40) (hz : ∀ x ∈ l, x.Sz), EvN Γ f [.sl 11 (l.map Qa.v), V.int gap] (V.int (Yj l gap))
theorem aee {Γ : Env} {f J4 : Nat} (h : Has Γ.P f 16 (ji J4) r_identity_early) (z0 : VN Γ J4) : qy Γ f := by
  intro l gap hl hz
  refine Qd h zsi zcl zcl fun C hC hm => ?_
  subst hC
  unfold ji
  have hn := (z0 l hl hz).b
  unfold Yj
  rcases hb : wR l with _ | _
  · rw [hb] at hn
    rw [if_neg (by decide)]
    exact zg
  · rw [hb] at hn
    rw [if_pos rfl]
    by_cases g1 : gap < 0
    · have e1 : decide (gap < 0) = true := decide_eq_true g1
      rw [if_pos (.inl g1)]
      (have zx := e1); exact zg
    · have e1 : decide (gap < 0) = false := decide_eq_false g1
      by_cases g2 : gap > 4000
      · have e2 : decide (gap > 4000) = true := decide_eq_true g2
        rw [if_pos (.inr g2)]
        (have zx := And.intro e1 e2); exact zg
      · have e2 : decide (gap > 4000) = false := decide_eq_false g2
        rw [if_neg (by omega)]
        (have zx := And.intro e1 e2); exact zg
structure J8 where
  num : Nat
  hosts : List (List UInt8)
  machs : List Int
  finds : List Nat
def mhd (a : Nat) (ms : List Int) : V := if ms = [] then aeT else .hd a 0 ms.length
def J8.own (e : J8) (a : Nat) : V := .agg [V.int e.num, .hd a 0 e.hosts.length, mhd (a + 1) e.machs, .hd (a + 2) 0 e.finds.length]
def qP : Nat → List J8 → List V
  | _, [] => []
  | n, e :: r => e.own n :: qP (n + 3) r
theorem Us : ∀ (es : List J8) (n : Nat), (qP n es).length = es.length
  | [], _ => rfl
  | e :: r, n => by simp only [qP, List.length_cons, Us r]
theorem U3 : ∀ (es : List J8) (n j : Nat), (qP n es)[j]? = (es[j]?).map fun e => e.own (n + 3 * j)
  | [], n, j => by simp [qP]
  | e :: r, n, 0 => by simp [qP]
  | e :: r, n, j + 1 => by
    simp only [qP, List.getElem?_cons_succ]
    rw [U3 r (n + 3) j, show n + 3 + 3 * j = n + 3 * (j + 1) by omega]
def mob (ms : List Int) : Ob := if ms = [] then .dead else .buf true 1 (ms.map V.int)
def aeO : List J8 → List Ob
  | [] => []
  | e :: r => .buf true 1 (e.hosts.map V.str) :: mob e.machs :: .buf true 1 (QG e.finds) :: aeO r
theorem abA : ∀ es : List J8, (aeO es).length = 3 * es.length
  | [] => rfl
  | e :: r => by simp only [aeO, List.length_cons, abA r]; omega
theorem WB : ∀ (es : List J8) (j : Nat), (aeO es)[3 * j]? = (es[j]?).map fun e => .buf true 1 (e.hosts.map V.str)
  | [], j => by simp [aeO]
  | e :: r, 0 => by simp [aeO]
  | e :: r, j + 1 => by
    rw [show 3 * (j + 1) = 3 * j + 1 + 1 + 1 by omega]
    simp only [aeO, List.getElem?_cons_succ, WB r j]
theorem UX : ∀ (es : List J8) (j : Nat), (aeO es)[3 * j + 1]? = (es[j]?).map fun e => mob e.machs
  | [], j => by simp [aeO]
  | e :: r, 0 => by simp [aeO]
  | e :: r, j + 1 => by
    rw [show 3 * (j + 1) + 1 = (3 * j + 1) + 1 + 1 + 1 by omega]
    simp only [aeO, List.getElem?_cons_succ, UX r j]
theorem WA : ∀ (es : List J8) (j : Nat), (aeO es)[3 * j + 2]? = (es[j]?).map fun e => .buf true 1 (QG e.finds)
  | [], j => by simp [aeO]
  | e :: r, 0 => by simp [aeO]
  | e :: r, j + 1 => by
    rw [show 3 * (j + 1) + 2 = (3 * j + 2) + 1 + 1 + 1 by omega]
    simp only [aeO, List.getElem?_cons_succ, WA r j]
theorem ali : ∀ a b : List J8, aeO (a ++ b) = aeO a ++ aeO b
  | [], b => rfl
  | e :: r, b => by simp only [List.cons_append, aeO, ali r b]
def aeP (x : List Nat) (nm : Nat → Nat) (k : Nat) : Nat := match x[k]? with | some a => a | none => nm (k - x.length)
def eO (p K W : List Nat) (fx : List Ob) (es : List J8) : List Ob := .box true (QG p) :: .map (QG K) (QG W) 0 :: .obuf true 4 (qP (3 + fx.length) es) :: (fx ++ aeO es)
theorem agH (p K W : List Nat) (fx : List Ob) (es : List J8) : (eO p K W fx es).length = 3 + fx.length + 3 * es.length := by
  simp only [eO, List.length_cons, List.length_append, abA]; omega
theorem aas (p K W : List Nat) (fx : List Ob) (es : List J8) (q : Nat) : (eO p K W fx es)[3 + fx.length + q]? = (aeO es)[q]? := by
  rw [show 3 + fx.length + q = fx.length + q + 1 + 1 + 1 by omega]
  simp only [eO, List.getElem?_cons_succ]
  rw [List.getElem?_append_right (by omega)]; congr 1; omega
theorem aqT (τ : Nat → Nat) (a : Nat) (ms : List Int) : (mhd a ms).ren τ = mhd (τ a) ms := by
  unfold mhd; split <;> rfl
theorem arS {a n : Nat} (ms : List Int) (h : a < n) : (mhd a ms).lt n := by
  unfold mhd; split
  · simp only [V.lt]
  · exact h
theorem aln {τ : Nat → Nat} : ∀ (es : List J8) (n j : Nat), (yU τ (qP n es))[j]? = (es[j]?).map fun e => .agg [V.int (e.num : Nat), .hd (τ (n + 3 * j)) 0 e.hosts.length, mhd (τ (n + 3 * j + 1)) e.machs, .hd (τ (n + 3 * j + 2)) 0 e.finds.length]
  | [], n, j => by simp [qP, yU]
  | e :: r, n, 0 => by simp [qP, yU, J8.own, V.ren, aqT]
  | e :: r, n, j + 1 => by
    simp only [qP, yU, List.getElem?_cons_succ]
    rw [aln r (n + 3) j, show n + 3 + 3 * j = n + 3 * (j + 1) by omega]
theorem anv : ∀ (es : List J8) (n m : Nat), n + 3 * es.length ≤ m → ltL m (qP n es)
  | [], _, _, _ => trivial
  | e :: r, n, m, h => by
    simp only [List.length_cons] at h
    refine ⟨⟨trivial, ?_, arS _ (by omega), ?_, trivial⟩, anv r (n + 3) m (by omega)⟩
    · show n < m; omega
    · show n + 2 < m; omega
theorem xp {x : List Nat} {nm : Nat → Nat} {k : Nat} (h : x.length ≤ k) : aeP x nm k = nm (k - x.length) := by
  rw [aeP, List.getElem?_eq_none h]
theorem acH {x : List Nat} {nm : Nat → Nat} {k : Nat} (h : k < x.length) : aeP x nm k = x[k] := by
  rw [aeP, List.getElem?_eq_getElem h]
theorem acG {x : List Nat} {nm : Nat → Nat} {k : Nat} (h : k < x.length) : aeP x nm k = x.getD k 0 := by
  rw [acH h, List.getD_eq_getElem?_getD, List.getElem?_eq_getElem h]; rfl
theorem ami {p : List Nat} {τ : Nat → Nat} {n : Nat} {c : Bool} : (Ob.box c (QG p)).weak τ n (.box c (QG p)) := ⟨id, (QD _ _).symm, QU _ _⟩
theorem alc {s : St} {ts : List (Nat × V)} {p K W : List Nat} {fx : List Ob} {es : List J8} {n : Nat} (hnn : 3 + fx.length + 3 * es.length ≤ n) (x : List Nat) (nm : Nat → Nat) (els : List V) (hx : x.length = 3 + fx.length)
    (ht : ∀ q ∈ ts, s.t q.1 = q.2.ren (aeP x nm) ∧ q.2.lt n)
    (h0 : s.o (x.getD 0 0) = some (.box true (QG p))) (h1 : s.o (x.getD 1 0) = some (.map (QG K) (QG W) 0)) (h2 : s.o (x.getD 2 0) = some (.obuf true 4 els) ∨ (es = [] ∧ s.o (x.getD 2 0) = some (.buf true 4 [])))
    (hfx : ∀ k y, fx[k]? = some y → ∃ z, s.o (x.getD (3 + k) 0) = some z ∧ z.weak (aeP x nm) n y)
    (hel : ∀ j : Nat, els[j]? = (es[j]?).map fun e => .agg [V.int e.num, .hd (nm (3 * j)) 0 e.hosts.length, mhd (nm (3 * j + 1)) e.machs, .hd (nm (3 * j + 2)) 0 e.finds.length])
    (hr : ∀ (j : Nat) (e : J8), es[j]? = some e → s.o (nm (3 * j)) = some (.buf true 1 (e.hosts.map V.str)) ∧ (∃ y, s.o (nm (3 * j + 1)) = some y ∧ (e.machs ≠ [] → y = .buf true 1 (e.machs.map V.int))) ∧ s.o (nm (3 * j + 2)) = some (.buf true 1 (QG e.finds)))
    (hn : x.Nodup) (hnx : ∀ q, q < 3 * es.length → nm q ∉ x) (hni : ∀ a b, a < 3 * es.length → b < 3 * es.length → nm a = nm b → a = b) : al6 0 (aeP x nm) s { t := ye ts, o := fun k => (eO p K W fx es)[k]?, n := n } := by
  have hxl : 3 ≤ x.length := by omega
  refine ⟨fun i => ?_, fun a y hy => ?_, fun a b ha hb hab => ?_, fun k hk => absurd hk (Nat.not_lt_zero _), Nat.zero_le _⟩
  · rcases acP ts i with h | h
    · exact .inl h
    · right; exact ht _ h
  · have hy : (eO p K W fx es)[a]? = some y := hy
    obtain ⟨ha, _⟩ := List.getElem?_eq_some_iff.1 hy
    rw [agH] at ha
    refine ⟨by show a < n; omega, ?_⟩
    match a, ha, hy with
    | 0, _, hy =>
      rw [acG (by omega)]
      simp only [eO, List.getElem?_cons_zero, Option.some.injEq] at hy
      subst hy
      exact ⟨_, h0, ami⟩
    | 1, _, hy =>
      rw [acG (by omega)]
      simp only [eO, List.getElem?_cons_succ, List.getElem?_cons_zero, Option.some.injEq] at hy
      subst hy
      exact ⟨_, h1, rfl, rfl, (QD _ _).symm, QU _ _⟩
    | 2, _, hy =>
      rw [acG (by omega)]
      simp only [eO, List.getElem?_cons_succ, List.getElem?_cons_zero, Option.some.injEq] at hy
      subst hy
      rcases h2.symm with ⟨he0, h2'⟩ | h2'
      · subst he0; exact ⟨_, h2', id, rfl, rfl⟩
      refine ⟨_, h2', id, rfl, ?_, anv _ _ _ (by show _ ≤ n; omega)⟩
      apply List.ext_getElem?
      intro j
      rw [hel, aln]
      cases es[j]? with
      | none => rfl
      | some e =>
        simp only [Option.map_some]
        rw [xp (by omega), xp (by omega), xp (by omega), hx]
        rw [show 3 + fx.length + 3 * j - (3 + fx.length) = 3 * j by omega, show 3 + fx.length + 3 * j + 1 - (3 + fx.length) = 3 * j + 1 by omega, show 3 + fx.length + 3 * j + 2 - (3 + fx.length) = 3 * j + 2 by omega]
    | a + 3, ha, hy =>
      by_cases hfa : a < fx.length
      · rw [acG (by omega), show a + 3 = 3 + a by omega]
        simp only [eO, List.getElem?_cons_succ] at hy
        rw [List.getElem?_append_left hfa] at hy
        exact hfx a y hy
      · obtain ⟨q, rfl⟩ : ∃ q, a = fx.length + q := ⟨a - fx.length, by omega⟩
        rw [show fx.length + q + 3 = 3 + fx.length + q by omega] at hy ⊢
        rw [aas] at hy
        rw [xp (by omega), hx, show 3 + fx.length + q - (3 + fx.length) = q by omega]
        obtain ⟨j, hq⟩ : ∃ j, q = 3 * j ∨ q = 3 * j + 1 ∨ q = 3 * j + 2 := ⟨q / 3, by omega⟩
        rcases hq with rfl | rfl | rfl
        · rw [WB] at hy
          simp only [Option.map_eq_some_iff] at hy
          obtain ⟨e, he, rfl⟩ := hy
          exact ⟨_, (hr j e he).1, id, rfl, rfl⟩
        · rw [UX] at hy
          simp only [Option.map_eq_some_iff] at hy
          obtain ⟨e, he, rfl⟩ := hy
          obtain ⟨y, hy1, hy2⟩ := (hr j e he).2.1
          refine ⟨y, hy1, ?_⟩
          unfold mob
          split
          · cases y <;> trivial
          · rename_i hne
            rw [hy2 hne]
            exact ⟨id, rfl, rfl⟩
        · rw [WA] at hy
          simp only [Option.map_eq_some_iff] at hy
          obtain ⟨e, he, rfl⟩ := hy
          exact ⟨_, (hr j e he).2.2, id, rfl, rfl⟩
  · have la : a < 3 + fx.length + 3 * es.length := by
      rw [← agH p K W fx es]
      exact Nat.lt_of_not_le fun h => ha (List.getElem?_eq_none h)
    have lb : b < 3 + fx.length + 3 * es.length := by
      rw [← agH p K W fx es]
      exact Nat.lt_of_not_le fun h => hb (List.getElem?_eq_none h)
    by_cases h1 : a < x.length <;> by_cases h2 : b < x.length
    · rw [acH h1, acH h2] at hab
      exact (List.getElem_inj hn).1 hab
    · rw [acH h1, xp (by omega)] at hab
      exact (hnx (b - x.length) (by omega) (hab ▸ List.getElem_mem h1)).elim
    · rw [acH h2, xp (by omega)] at hab
      exact (hnx (a - x.length) (by omega) (hab.symm ▸ List.getElem_mem h2)).elim
    · rw [xp (by omega), xp (by omega)] at hab
      have := hni _ _ (by omega) (by omega) hab
      omega
def ail (k : Nat) : List Nat → Nat → Option Nat
  | [], _ => none
  | e :: r, i => if k = e then some i else ail k r (i + 1)
theorem aa4 (k : Nat) : ∀ (ks : List Nat) (i : Nat), xA false [0] (V.int (k : Int)) (QG ks) i = some (ail k ks i)
  | [], _ => rfl
  | e :: r, i => by
    have h : yk false [0] (V.int (k : Int)) (V.int (e : Int)) = some ((k : Int) == (e : Int)) := by simp [yk, Yg]
    rw [QG, List.map_cons, xA, h]
    by_cases hk : k = e
    · subst hk; simp [ail]
    · have : ((k : Int) == (e : Int)) = false := by simp; omega
      rw [this]; simp only [ail, if_neg hk]
      exact aa4 k r (i + 1)
theorem an9 {k : Nat} : ∀ {ks : List Nat} {i a : Nat}, ail k ks i = some a → i ≤ a ∧ a < i + ks.length ∧ ks[a - i]? = some k
  | [], _, _, h => by cases h
  | e :: r, i, a, h => by
    rw [ail] at h
    split at h
    · rename_i he; cases h; subst he; simp
    · have := an9 h
      simp only [List.length_cons]
      refine ⟨by omega, by omega, ?_⟩
      rw [show a - i = (a - (i + 1)) + 1 by omega, List.getElem?_cons_succ]
      exact this.2.2
theorem aly {k : Nat} : ∀ {ks : List Nat} {i a : Nat} (r : List Nat), ail k ks i = some a → ail k (ks ++ r) i = some a
  | [], _, _, _, h => by cases h
  | e :: t, i, a, r, h => by
    rw [ail] at h
    rw [List.cons_append, ail]
    split at h
    · rename_i he; rw [if_pos he]; exact h
    · rename_i he; rw [if_neg he]; exact aly r h
theorem aik {k : Nat} : ∀ {ks : List Nat} {i : Nat}, (∀ x ∈ ks, x ≠ k) → ail k (ks ++ [k]) i = some (i + ks.length)
  | [], i, _ => by simp [ail]
  | e :: t, i, h => by
    have h1 := h e (List.mem_cons_self ..)
    rw [List.cons_append, ail, if_neg (fun x => h1 x.symm), aik fun x hx => h x (List.mem_cons_of_mem _ hx), List.length_cons]
    congr 1; omega
theorem ajq {k : Nat} : ∀ {ks : List Nat} {i : Nat}, (∀ x ∈ ks, x ≠ k) → ail k ks i = none
  | [], i, _ => rfl
  | e :: t, i, h => by
    rw [ail, if_neg (fun x => h e (List.mem_cons_self ..) x.symm)]
    exact ajq fun x hx => h x (List.mem_cons_of_mem _ hx)
theorem amh {p : List Nat} (h : PW p) : ∀ i, Ub p (Ub p i) = Ub p i := by
  intro i
  induction i using Nat.strongRecOn with
  | _ i ih =>
    rcases e : p[i]? with _ | j
    · have : Ub p i = i := by rw [Ub, ai6, e]
      rw [this, this]
    · rw [aaT h e]
      have := h.le i j e
      split
      · rename_i hj; rw [aaT h e, if_pos hj]
      · exact ih j (by omega)
def Ja (i : Nat) (f : Qa) (e : J8) : J8 := { e with hosts := agf Op.bytesLess e.hosts f.host, finds := e.finds ++ [i] }
def Ug (i : Nat) (f : Qa) (e : J8) : J8 := { Ja i f e with machs := if f.mach = 0 then e.machs else agf ltJ e.machs f.mach }
def ajM (p : List Nat) (es : List J8) (i : Nat) (f : Qa) : List J8 :=
  if Ub p i = i then es ++ [Ug i f ⟨i, [], [], []⟩] else
  match ail (Ub p i) (es.map J8.num) 0 with
  | some a => (match es[a]? with | some e => es.set a (Ug i f e) | none => es)
  | none => es
def WI (l : List Qa) (p : List Nat) : Nat → List J8
  | 0 => []
  | k + 1 => match l[k]? with
    | some f => ajM p (WI l p k) k f
    | none => WI l p k
def Wu (l : List Qa) (gap : Int) : List J8 := WI l (amC l gap) l.length
structure ESz (k : Nat) (e : J8) : Prop where
  num : e.num < k
  h0 : 0 < e.hosts.length
  h1 : e.hosts.length ≤ k
  f0 : 0 < e.finds.length
  f1 : e.finds.length ≤ k
  m1 : e.machs.length ≤ k
  fl : ∀ i ∈ e.finds, i < k
structure EI (p : List Nat) (k : Nat) (es : List J8) : Prop where
  sz : ∀ e ∈ es, ESz k e
  len : es.length ≤ k
  has : ∀ j, j < k → Ub p j = j → ∃ a, ail j (es.map J8.num) 0 = some a
theorem adU {α : Type} [BEq α] {lt : α → α → Bool} (l : List α) (x : α) : (agf lt l x).length ≤ l.length + 1 ∧ 0 < (agf lt l x).length := by
  unfold agf
  split
  · rename_i h
    refine ⟨by omega, ?_⟩
    unfold UM at h
    split at h
    · rename_i y hy
      have := (List.getElem?_eq_some_iff.1 hy).1
      omega
    · cases h
  · have := aj1 (lt := lt) (l := l) (x := x)
    simp only [List.length_append, List.length_cons, List.length_take, List.length_drop]
    omega
theorem afK {α : Type} [BEq α] {lt : α → α → Bool} (x : α) : agf lt [] x = [x] := by
  simp [agf, UM, bsI, am1]
theorem ESz.upd {k : Nat} {e : J8} {f : Qa} (h : ESz k e) : ESz (k + 1) (Ug k f e) := by
  obtain ⟨a1, a2, a3, a4, a5, a6, a7⟩ := h
  have g1 := adU (lt := Op.bytesLess) e.hosts f.host
  have g2 := adU (lt := ltJ) e.machs f.mach
  refine ⟨by simp only [Ug, Ja]; omega, by simp only [Ug, Ja]; omega, by simp only [Ug, Ja]; omega, by simp only [Ug, Ja, List.length_append, List.length_singleton]; omega, by simp only [Ug, Ja, List.length_append, List.length_singleton]; omega, ?_, fun i hi => ?_⟩
  · simp only [Ug, Ja]; split <;> omega
  · simp only [Ug, Ja, List.mem_append, List.mem_singleton] at hi
    rcases hi with hi | hi
    · have := a7 i hi; omega
    · omega
theorem ESz.new {k : Nat} {f : Qa} : ESz (k + 1) (Ug k f ⟨k, [], [], []⟩) := by
  have g1 := adU (lt := Op.bytesLess) [] f.host
  have g2 := adU (lt := ltJ) [] f.mach
  simp only [List.length_nil] at g1 g2
  refine ⟨by simp only [Ug, Ja]; omega, by simp only [Ug, Ja]; omega, by simp only [Ug, Ja]; omega, by simp [Ug, Ja], by simp [Ug, Ja], ?_, fun i hi => ?_⟩
  · simp only [Ug, Ja]; split
    · simp
    · omega
  · simp only [Ug, Ja, List.nil_append, List.mem_singleton] at hi; omega
theorem ESz.mono {k : Nat} {e : J8} (h : ESz k e) : ESz (k + 1) e := ⟨Nat.lt_succ_of_lt h.num, h.h0, Nat.le_succ_of_le h.h1, h.f0, Nat.le_succ_of_le h.f1, Nat.le_succ_of_le h.m1, fun i hi => Nat.lt_succ_of_lt (h.fl i hi)⟩
theorem EI.find {p : List Nat} {k : Nat} {es : List J8} (hp : PW p) (h : EI p k es) (hk : Ub p k ≠ k) : ∃ a e, ail (Ub p k) (es.map J8.num) 0 = some a ∧ es[a]? = some e ∧ e.num = Ub p k := by
  have h1 := afG hp k
  obtain ⟨a, ha⟩ := h.has _ (by omega) (amh hp k)
  obtain ⟨_, h2, h3⟩ := an9 ha
  rw [Nat.sub_zero, List.getElem?_map, Option.map_eq_some_iff] at h3
  obtain ⟨e, he, hn⟩ := h3
  exact ⟨a, e, ha, he, hn⟩
theorem xK {es : List J8} {a : Nat} {e e1 : J8} (h : es[a]? = some e) (hn : e1.num = e.num) : (es.set a e1).map J8.num = es.map J8.num := by
  rw [List.map_set]
  apply List.ext_getElem?
  intro j
  rw [List.getElem?_set]
  split
  · rename_i hj; subst hj
    rw [List.length_map, if_pos (List.getElem?_eq_some_iff.1 h).1, List.getElem?_map, h, hn]; rfl
  · rfl
theorem EI.step {p : List Nat} {k : Nat} {es : List J8} {f : Qa} (hp : PW p) (h : EI p k es) : EI p (k + 1) (ajM p es k f) := by
  obtain ⟨s1, s2, s3⟩ := h
  by_cases hk : Ub p k = k
  · rw [ajM, if_pos hk]
    refine ⟨fun e he => ?_, by rw [List.length_append, List.length_singleton]; omega, fun j hj hjr => ?_⟩
    · rcases List.mem_append.1 he with he | he
      · exact (s1 e he).mono
      · rw [List.mem_singleton.1 he]; exact ESz.new
    · rw [List.map_append]
      rcases Nat.lt_or_eq_of_le (Nat.le_of_lt_succ hj) with hj | rfl
      · obtain ⟨a, ha⟩ := s3 j hj hjr
        exact ⟨a, aly _ ha⟩
      · refine ⟨_, aik fun x hx => ?_⟩
        obtain ⟨e, he, rfl⟩ := List.mem_map.1 hx
        have := (s1 e he).num
        omega
  · obtain ⟨a, e, ha, he, hn⟩ := EI.find hp ⟨s1, s2, s3⟩ hk
    rw [ajM, if_neg hk, ha]
    simp only [he]
    have hm : (es.set a (Ug k f e)).map J8.num = es.map J8.num := by
      rw [List.map_set]
      apply List.ext_getElem?
      intro j
      rw [List.getElem?_set]
      split
      · rename_i hj; subst hj
        rw [List.length_map, if_pos (List.getElem?_eq_some_iff.1 he).1, List.getElem?_map, he]; rfl
      · rfl
    refine ⟨fun y hy => ?_, by rw [List.length_set]; omega, fun j hj hjr => ?_⟩
    · rcases List.mem_or_eq_of_mem_set hy with hy | rfl
      · exact (s1 y hy).mono
      · exact (s1 e (List.mem_of_getElem? he)).upd
    · rw [hm]
      rcases Nat.lt_or_eq_of_le (Nat.le_of_lt_succ hj) with hj | rfl
      · exact s3 j hj hjr
      · exact (hk hjr).elim
theorem aaq {l : List Qa} {p : List Nat} (hp : PW p) : ∀ k, k ≤ l.length → EI p k (WI l p k)
  | 0, _ => ⟨by simp [WI], Nat.le_refl _, fun j hj => absurd hj (Nat.not_lt_zero _)⟩
  | k + 1, hk => by
    have ih := aaq (l := l) hp k (by omega)
    rw [WI, List.getElem?_eq_getElem (by omega)]
    exact ih.step hp
theorem akS {l : List Qa} {p : List Nat} {k : Nat} {f : Qa} (h : l[k]? = some f) : WI l p (k + 1) = ajM p (WI l p k) k f := by rw [WI, h]
def J8.v (e : J8) : V := .agg [V.int e.num, .sl 1 (e.hosts.map V.str), .sl 1 (e.machs.map V.int), .sl 1 (QG e.finds)]
section
variable {C : Ctx} {nt : Nat} {s : St} {K : St → Prop} {E : Nat → St → Prop} {R : St → Prop}
theorem alY {x : AC} {ι : Type} (good : ι → Prop) (mid : ι → St) (pre : St → St) (h : ∀ K' : St → Prop, (∀ s' i τ, good i → al6 C.m τ (pre s') (mid i) → K' s') → AWp C nt x s K' E R) (h' : ∀ i, good i → ∀ s' τ, al6 C.m τ (pre s') (mid i) → K s') : AWp C nt x s K E R := h K fun s' i τ g w => h' i g s' τ w
end
def abm (f : Qa) (e : J8) : J8 := { e with machs := if f.mach = 0 then e.machs else agf ltJ e.machs f.mach }
def atd (l : List Qa) (p : List Nat) (k : Nat) (f : Qa) (q : List J8 × Nat × J8) : Prop := q.1[q.2.1]? = some q.2.2 ∧ q.1.set q.2.1 (abm f q.2.2) = WI l p (k + 1) ∧ q.1.length ≤ 400 ∧ q.2.2.machs.length ≤ 400
def nmS (N a H M F q : Nat) : Nat := if q = 3 * a then H else if q = 3 * a + 1 then M else if q = 3 * a + 2 then F else N + q
theorem af8 {s : St} {ts : List (Nat × V)} {p K W : List Nat} {fx : List Ob} {es0 es1 : List J8} {e1 : J8} {N a H M F : Nat} {els : List V} (x : List Nat) (hes : es1 = es0.set a e1) (hx : x.length = 3 + fx.length) (ha : a < es0.length) (hlen : es0.length ≤ 400)
    (ht : ∀ q ∈ ts, s.t q.1 = q.2.ren (aeP x (nmS N a H M F)) ∧ q.2.lt 2000) (hfl : fx.length ≤ 1)
    (h0 : s.o (x.getD 0 0) = some (.box true (QG p))) (h1 : s.o (x.getD 1 0) = some (.map (QG K) (QG W) 0)) (h2 : s.o (x.getD 2 0) = some (.obuf true 4 els))
    (hfx : ∀ k y, fx[k]? = some y → ∃ z, s.o (x.getD (3 + k) 0) = some z ∧ z.weak (aeP x (nmS N a H M F)) 2000 y)
    (hels : ∀ j, els[j]? = if j = a then some (.agg [V.int e1.num, .hd H 0 e1.hosts.length, mhd M e1.machs, .hd F 0 e1.finds.length]) else (qP N es0)[j]?)
    (hfar : ∀ q y, q < 3 * es0.length → q / 3 ≠ a → (aeO es0)[q]? = some y → s.o (N + q) = some y)
    (hH : s.o H = some (.buf true 1 (e1.hosts.map V.str))) (hM : ∃ y, s.o M = some y ∧ (e1.machs ≠ [] → y = .buf true 1 (e1.machs.map V.int))) (hF : s.o F = some (.buf true 1 (QG e1.finds)))
    (hn : x.Nodup) (hxn : ∀ q, q < 3 * es0.length → N + q ∉ x) (hHx : H ∉ x ∧ M ∉ x ∧ F ∉ x) (hd : H ≠ M ∧ H ≠ F ∧ M ≠ F)
    (hHN : H = N + 3 * a ∨ H < N ∨ N + 3 * es0.length ≤ H) (hMN : M = N + (3 * a + 1) ∨ M < N ∨ N + 3 * es0.length ≤ M) (hFN : F = N + (3 * a + 2) ∨ F < N ∨ N + 3 * es0.length ≤ F) :
    al6 0 (aeP x (nmS N a H M F)) s { t := ye ts, o := fun k => (eO p K W fx es1)[k]?, n := 2000 } := by
  subst hes
  have a0 : nmS N a H M F (3 * a) = H := by rw [nmS, if_pos rfl]
  have a1 : nmS N a H M F (3 * a + 1) = M := by rw [nmS, if_neg (by omega), if_pos rfl]
  have a2 : nmS N a H M F (3 * a + 2) = F := by rw [nmS, if_neg (by omega), if_neg (by omega), if_pos rfl]
  have a3 : ∀ q, q / 3 ≠ a → nmS N a H M F q = N + q := fun q hq => by rw [nmS, if_neg (by omega), if_neg (by omega), if_neg (by omega)]
  have b1 : ∀ q, q / 3 = a → (q = 3 * a ∨ q = 3 * a + 1 ∨ q = 3 * a + 2) := fun q hq => by omega
  have gt : ∀ j, (es0.set a e1)[j]? = if j = a then some e1 else es0[j]? := fun j => by
    rw [List.getElem?_set]
    by_cases hj : a = j
    · subst hj; rw [if_pos rfl, if_pos ha, if_pos rfl]
    · rw [if_neg hj, if_neg (fun e => hj e.symm)]
  refine alc (n := 2000) (by rw [List.length_set]; omega) x _ els hx ht h0 h1 (.inl h2) hfx (fun j => ?_) (fun j e he => ?_) hn (fun q hq => ?_) (fun c d hc hd' hcd => ?_)
  · rw [hels, gt]
    by_cases hj : j = a
    · subst hj; rw [if_pos rfl, if_pos rfl, a0, a1, a2]; rfl
    · rw [if_neg hj, if_neg hj, U3, a3 _ (by omega), a3 _ (by omega), a3 _ (by omega)]
      cases es0[j]? with
      | none => rfl
      | some e => simp only [Option.map_some, J8.own, Nat.add_assoc]
  · rw [gt] at he
    by_cases hj : j = a
    · subst hj
      rw [if_pos rfl] at he; cases he
      rw [a0, a1, a2]
      exact ⟨hH, hM, hF⟩
    · rw [if_neg hj] at he
      have hjl := (List.getElem?_eq_some_iff.1 he).1
      rw [a3 _ (by omega), a3 _ (by omega), a3 _ (by omega)]
      refine ⟨hfar _ _ (by omega) (by omega) (by rw [WB, he]; rfl), ⟨mob e.machs, hfar _ _ (by omega) (by omega) (by rw [UX, he]; rfl), fun hne => by rw [mob, if_neg hne]⟩, hfar _ _ (by omega) (by omega) (by rw [WA, he]; rfl)⟩
  · rw [List.length_set] at hq
    by_cases hqa : q / 3 = a
    · rcases b1 q hqa with rfl | rfl | rfl
      · rw [a0]; exact hHx.1
      · rw [a1]; exact hHx.2.1
      · rw [a2]; exact hHx.2.2
    · rw [a3 q hqa]; exact hxn q hq
  · rw [List.length_set] at hc hd'
    obtain ⟨d1, d2, d3⟩ := hd
    by_cases hca : c / 3 = a <;> by_cases hda : d / 3 = a
    · rcases b1 c hca with rfl | rfl | rfl <;> rcases b1 d hda with rfl | rfl | rfl <;> simp only [a0, a1, a2] at hcd <;> omega
    · rw [a3 d hda] at hcd
      rcases b1 c hca with rfl | rfl | rfl <;> simp only [a0, a1, a2] at hcd <;> omega
    · rw [a3 c hca] at hcd
      rcases b1 d hda with rfl | rfl | rfl <;> simp only [a0, a1, a2] at hcd <;> omega
    · rw [a3 c hca, a3 d hda] at hcd; omega
def arA (l : List Qa) (gap : Int) : V := if Yj l gap = 0 then .tup [.sl 4 ((Wu l gap).map J8.v), V.int 0] else .tup [.sl 4 [], V.int (Yj l gap)]
def eTs (l : List Qa) (n k : Nat) : List (Nat × V) := [(7, .ptr 0 0), (8, .hd 2 0 n), (9, .mp 1), (24, .sl 11 (l.map Qa.v)), (25, V.int l.length), (26, V.int k)]
def eSt (l : List Qa) (p : List Nat) (es : List J8) (k : Nat) : St := { t := ye (eTs l es.length k), o := fun a => (eO p (es.map J8.num) (List.range es.length) [] es)[a]?, n := 2000 }
def mTs (l : List Qa) (n a k : Nat) : List (Nat × V) := [(7, .ptr 0 0), (8, .hd 2 0 n), (9, .mp 1), (11, .ptr 3 0), (13, .ept 2 a 0), (24, .sl 11 (l.map Qa.v)), (25, V.int l.length), (26, V.int k)]
def mSt (l : List Qa) (p : List Nat) (es : List J8) (f : Qa) (a k : Nat) : St := { t := ye (mTs l es.length a k), o := fun x => (eO p (es.map J8.num) (List.range es.length) [.box true f.cells] es)[x]?, n := 2000 }
theorem ag7 (n : Nat) : QG (List.range n) ++ [V.int (n : Int)] = QG (List.range (n + 1)) := by rw [wq, List.range_succ]
theorem alm {o : Nat → Option Ob} : ∀ (es : List J8) (n : Nat), (∀ q y, (aeO es)[q]? = some y → o (n + q) = some y) → Ya o [] none (qP n es) (es.map J8.v)
  | [], _, _ => trivial
  | e :: r, n, h => by
    have h0 := h 0 _ rfl
    have h1 := h 1 _ rfl
    have h2 := h 2 _ rfl
    refine ⟨⟨rfl, ?_, ?_, ?_, trivial⟩, alm r (n + 3) fun q y hq => ?_⟩
    · rw [amL]; exact ⟨trivial, by simp, .inl ⟨true, _, h0, by rw [List.drop_zero, List.take_of_length_le (by simp)]⟩⟩
    · unfold mhd
      split
      · rename_i hm; rw [hm]; rfl
      · rename_i hm
        rw [mob, if_neg hm] at h1
        rw [amL]; exact ⟨trivial, by simp, .inl ⟨true, _, h1, by rw [List.drop_zero, List.take_of_length_le (by simp)]⟩⟩
    · rw [amL]; exact ⟨trivial, by simp, .inl ⟨true, _, h2, by rw [List.drop_zero, List.take_of_length_le (by rw [X8]; exact Nat.le_refl _)]⟩⟩
    · rw [show n + 3 + q = n + (q + 1 + 1 + 1) by omega]
      exact h (q + 1 + 1 + 1) y (by simpa [aeO] using hq)
theorem aom : ∀ es : List J8, ntL (es.map J8.v)
  | [] => trivial
  | e :: r => ⟨by simp [J8.v], aom r⟩
theorem aeW : ∀ es : List J8, Qh (es.map J8.v)
  | [] => trivial
  | e :: r => ⟨by simp only [J8.v, V.closed, Qh, and_self], aeW r⟩
theorem anT {t : Nat → V} {l : List Qa} {n a k : Nat} {τ : Nat → Nat} (h7 : t 7 = .ptr (τ 0) 0) (h8 : t 8 = .hd (τ 2) 0 n) (h9 : t 9 = .mp (τ 1)) (h11 : t 11 = .ptr (τ 3) 0) (h13 : t 13 = .ept (τ 2) a 0) (h24 : t 24 = .sl 11 (l.map Qa.v)) (h25 : t 25 = V.int l.length) (h26 : t 26 = V.int k) : ∀ q ∈ mTs l n a k, t q.1 = q.2.ren τ ∧ q.2.lt 2000 := by
  intro q hq
  simp only [mTs, List.mem_cons, List.not_mem_nil, or_false] at hq
  rcases hq with rfl | rfl | rfl | rfl | rfl | rfl | rfl | rfl
  · exact ⟨h7, by show 0 < 2000; omega⟩
  · exact ⟨h8, by show 2 < 2000; omega⟩
  · exact ⟨h9, by show 1 < 2000; omega⟩
  · exact ⟨h11, by show 3 < 2000; omega⟩
  · exact ⟨h13, by show 2 < 2000; omega⟩
  · exact ⟨h24, trivial⟩
  · exact ⟨h25, trivial⟩
  · exact ⟨h26, trivial⟩
theorem aeY {t : Nat → V} {l : List Qa} {n k : Nat} {τ : Nat → Nat} (h7 : t 7 = .ptr (τ 0) 0) (h8 : t 8 = .hd (τ 2) 0 n) (h9 : t 9 = .mp (τ 1)) (h24 : t 24 = .sl 11 (l.map Qa.v)) (h25 : t 25 = V.int l.length) (h26 : t 26 = V.int k) : ∀ q ∈ eTs l n k, t q.1 = q.2.ren τ ∧ q.2.lt 2000 := by
  intro q hq
  simp only [eTs, List.mem_cons, List.not_mem_nil, or_false] at hq
  rcases hq with rfl | rfl | rfl | rfl | rfl | rfl
  · exact ⟨h7, by show 0 < 2000; omega⟩
  · exact ⟨h8, by show 2 < 2000; omega⟩
  · exact ⟨h9, by show 1 < 2000; omega⟩
  · exact ⟨h24, trivial⟩
  · exact ⟨h25, trivial⟩
  · exact ⟨h26, trivial⟩
theorem aqZ {o : Nat → Option Ob} {f : Qa} {τ : Nat → Nat} {n x3 : Nat} {x : List Nat} (hx : x.getD 3 0 = x3) (h : o x3 = some (.box true f.cells)) : ∀ k y, [Ob.box true f.cells][k]? = some y → ∃ z, o (x.getD (3 + k) 0) = some z ∧ z.weak τ n y := by
  intro k y hy
  match k, hy with
  | 0, hy =>
    simp only [List.getElem?_cons_zero, Option.some.injEq] at hy
    subst hy
    rw [hx]
    exact ⟨_, h, id, (JR _ _ (by simp only [Qa.cells, V.closed, Qh, and_self])).symm, Wd _ _ (by simp only [Qa.cells, V.closed, Qh, and_self])⟩
@[go_sem] def UK : AO := xo 66 (.append 1 8 [vi0] (.t 63) (.t 65))
def qR (Qe : Nat) : List AO := [mv 51 13, mv 52 13, mv 53 13, nk 54 53, fa 55 1 54, ld 56 1 55, fa 57 1 11, ld 58 1 57, cl 59 Qe [56, 58], mv 60 13, nk 61 60, fa 62 3 61, ld 63 1 62, mv 64 10, xo 65 (.bslice 1 1 false [vi0] [(0, (.t 64))]), UK, nk 67 51, fa 68 1 67, xs 1 68 59, nk 69 52, fa 70 3 69, xs 1 70 66]
def qZ : List (List Nat) := [[], [], [], [2], [3], [4], [], [6], [5, 7], [], [9], [10], [11], [], [13], [12, 14, 8], [0, 0, 2, 3, 4, 5, 6, 7, 8, 12, 15], [16, 0, 2, 3, 4, 5, 6, 7, 8, 12, 15], [17, 8, 15, 0, 2, 3, 4, 5, 6, 7, 8, 12, 15], [1, 0, 1, 2, 3, 4, 5, 6, 7, 8, 9, 10, 11, 12, 13, 14, 15, 16, 17, 18], [19, 0, 1, 2, 3, 4, 5, 6, 7, 8, 9, 10, 11, 12, 13, 14, 15, 16, 17, 18], [20, 15, 18, 0, 1, 2, 3, 4, 5, 6, 7, 8, 9, 10, 11, 12, 13, 14, 15, 16, 17, 18]]
def Jz : OT := .one 15 (.one 16 (.one 17 (.one 18 (.one 19 (.one 20 (.one 21 .done))))))
def UW : OT := .or 8 (.one 12 Jz) (.or 12 (.one 8 Jz) .done)
def qH : OT := .one 0 (.one 1 (.one 2 (.one 3 (.one 4 (.one 6 (.one 9 (.one 10 (.one 11 (.one 13 (.one 14 (.or 5 (.or 7 UW (.or 12 (.one 7 (.one 8 Jz)) .done)) (.or 7 (.or 5 UW (.or 12 (.one 5 (.one 8 Jz)) .done)) (.or 12 (.or 5 (.one 7 (.one 8 Jz)) (.or 7 (.one 5 (.one 8 Jz)) .done)) .done)))))))))))))
@[go_sem] def U2 (Qe : Nat) : OP := .one 15 true [14] UK (oN 16 (nk 67 51) (oN 17 (fa 68 1 67) (.one 18 true [8] (xs 1 68 59) (oN 19 (nk 69 52) (oN 20 (fa 70 3 69) (.one 21 true [15, 14] (xs 1 70 66) .done))))))
@[go_sem] def Wn (Qe : Nat) : OP := .one 8 true [] (cl 59 Qe [56, 58]) (U2 Qe)
@[go_sem] def U1 (Qe : Nat) : OP := .or 8 true [] (cl 59 Qe [56, 58]) (.one 12 true [] (ld 63 1 62) (U2 Qe)) (.or 12 true [] (ld 63 1 62) (Wn Qe) .done)
@[go_sem] def U0 (Qe : Nat) : OP := .one 7 true [] (ld 58 1 57) (Wn Qe)
@[go_sem] def UZ (Qe : Nat) : OP := .one 5 true [] (ld 56 1 55) (Wn Qe)
@[go_sem] def qM (Qe : Nat) : OP := oN 0 (mv 51 13) (oN 1 (mv 52 13) (oN 2 (mv 53 13) (oN 3 (nk 54 53) (oN 4 (fa 55 1 54) (oN 6 (fa 57 1 11) (oN 9 (mv 60 13) (oN 10 (nk 61 60) (oN 11 (fa 62 3 61) (oN 13 (mv 64 10) (oN 14 (xo 65 (.bslice 1 1 false [vi0] [(0, (.t 64))])) (.or 5 true [] (ld 56 1 55) (.or 7 true [] (ld 58 1 57) (U1 Qe) (.or 12 true [] (ld 63 1 62) (U0 Qe) .done)) (.or 7 true [] (ld 58 1 57) (.or 5 true [] (ld 56 1 55) (U1 Qe) (.or 12 true [] (ld 63 1 62) (UZ Qe) .done)) (.or 12 true [] (ld 63 1 62) (.or 5 true [] (ld 56 1 55) (U0 Qe) (.or 7 true [] (ld 58 1 57) (UZ Qe) .done)) .done)))))))))))))
instance (Qe : Nat) : RG [5, 7, 8, 12] qH (qM Qe) (qR Qe) qZ 22 (fun _ => false) := ⟨rfl, by kernel_rfl, by kernel_rfl⟩
def qQ (Qt : Nat) : List AO := [mv 74 13, mv 75 13, nk 76 75, fa 77 2 76, ld 78 1 77, fa 79 2 11, ld 80 1 79, cl 81 Qt [78, 80], nk 82 74, fa 83 2 82, xs 1 83 81]
def qY : List (List Nat) := [[], [], [1], [2], [3], [], [5], [4, 6], [0, 0, 1, 2, 3, 4, 5, 6, 7], [8, 0, 1, 2, 3, 4, 5, 6, 7], [9, 7, 7, 0, 1, 2, 3, 4, 5, 6, 7]]
def qG : OT := .one 0 (.one 1 (.one 2 (.one 3 (.one 5 (.or 4 (.one 6 (.one 7 (.one 8 (.one 9 (.one 10 .done))))) (.or 6 (.one 4 (.one 7 (.one 8 (.one 9 (.one 10 .done))))) .done))))))
@[go_sem] def qL (Qt : Nat) : OP := oN 0 (mv 74 13) (oN 1 (mv 75 13) (oN 2 (nk 76 75) (oN 3 (fa 77 2 76) (oN 5 (fa 79 2 11) (.or 4 true [] (ld 78 1 77) (.one 6 true [] (ld 80 1 79) (.one 7 true [] (cl 81 Qt [78, 80]) (oN 8 (nk 82 74) (oN 9 (fa 83 2 82) (.one 10 true [7] (xs 1 83 81) .done))))) (.or 6 true [] (ld 80 1 79) (.one 4 true [] (ld 78 1 77) (.one 7 true [] (cl 81 Qt [78, 80]) (oN 8 (nk 82 74) (oN 9 (fa 83 2 82) (.one 10 true [7] (xs 1 83 81) .done))))) .done))))))
instance (Qt : Nat) : RG [4, 6, 7] qG (qL Qt) (qQ Qt) qY 11 (fun _ => false) := ⟨rfl, by kernel_rfl, by kernel_rfl⟩
def Ux (Un Vx QA Qe Qt : Nat) : AC := Qb [0, 1] (.reg [xo 4 (.mknil 4), mc 5 (V.int 0)]) (Qb [0, 1] (Qb [0, 1, 6] (.reg [mv 14 0, mv 15 1, cl 16 Un [14, 15], mv 6 16]) (Qb [0, 1, 6, 18] (.reg [mv 17 6, bc 18 .neq 17 (V.int 0)]) (.cond (.t 18) (Qb [4, 5] (.reg [mv 19 6, xo 4 (.mknil 4), mv 5 19]) .ret) .skip))) (Qb [0, 7] (.reg [mv 20 0, mv 21 1, cl 22 Vx [20, 21], mv 7 22]) (Qb [0, 7, 8] (.reg [xo 8 (.mknil 4)]) (Qb [0, 7, 8, 9] (.reg [xo 23 (.mkmap), mv 9 23]) (Qb [8] (Qb [7, 8, 9, 24, 25, 26] (.reg [mv 24 0, ln 25 24, mc 26 (V.int 0)]) (.block 0 (Y6 [7, 8, 9, 24, 25, 26] (Qb [7, 8, 9, 24, 25, 26, 27] (.reg [bn 27 .lss 26 25]) (Qb [7, 8, 9, 24, 25, 26] (.cond (.t 27) .skip (.exit 0)) (Qb [7, 8, 9, 24, 25, 26] (.block 1 (Qb [7, 8, 9, 10, 11, 24, 25, 26] (.reg [mv 28 26, ia 29 11 24 26, xo 30 (.load true 11 (.t 29)), xo 11 (.alloc [.val vi0, .val vs0, .val vi0, .val vi0, .val vi0, .val vi0, .val vs0, .val vi0, .val vi0, .val vi0, .val vs0]), mv 10 28, xs 11 11 30]) (Qb [7, 8, 9, 10, 11, 12, 24, 25, 26] (.reg [mv 31 7, mv 32 10, cl 33 QA [31, 32], mv 12 33]) (Qb [7, 8, 9, 10, 11, 12, 24, 25, 26] (Qb [7, 8, 9, 10, 11, 12, 24, 25, 26, 36] (.reg [mv 34 12, mv 35 10, bn 36 .eql 34 35]) (.cond (.t 36) (Qb [7, 8, 9, 10, 11, 12, 24, 25, 26] (.reg [mv 37 9, mv 38 12, mv 39 8, ln 40 39, ⟨none, .mapset false [0] (.t 37) (.t 38) (.t 40), none⟩]) (.reg [mv 41 8, mv 42 10, xo 43 (.build [vi0, vn0, vn0, vn0] [(0, 1, (.t 42))]), xo 44 (.obslice 1 4 true [vi0, vn0, vn0, vn0] [(0, (.t 43))]), xo 45 (.append 4 80 [vi0, vn0, vn0, vn0] (.t 41) (.t 44)), mv 8 45])) .skip)) (Qb [7, 8, 9, 10, 11, 13, 24, 25, 26] (.reg [mv 46 8, mv 47 9, mv 48 12, xo 49 (.mapget false false [vi0] false [0] (.t 47) (.t 48)), ia 50 4 46 49, mv 13 50]) (Qb [7, 8, 9, 11, 13, 24, 25, 26] (wP [5, 7, 8, 12] qH (qM Qe) (qR Qe) qZ) (Qb [7, 8, 9, 11, 13, 24, 25, 26, 73] (.reg [fa 71 2 11, ld 72 1 71, bc 73 .neq 72 (V.int 0)]) (.cond (.t 73) (wP [4, 6, 7] qG (qL Qt) (qQ Qt) qY) .skip)))))))) (.reg [bc 84 .add 26 (V.int 1), mv 26 84]))))))) (Qb [4, 5] (.reg [mv 85 8, mv 4 85, mc 5 (V.int 0)]) .ret)))))) def r_identity_Entities : List Jf := [.tmp 4, .tmp 5]
def V9 (Γ : Env) (f : Nat) : Prop := ∀ (l : List Qa) (gap : Int) (hl : l.length < 2 ^ 40) (hz : ∀ x ∈ l, x.Sz), EvC Γ f [.sl 11 (l.map Qa.v), V.int gap] (arA l gap)
theorem abj {Γ : Env} {f Un Vx QA Qe Qt : Nat} (h : Has Γ.P f 86 (Ux Un Vx QA Qe Qt) r_identity_Entities) (z0 : qy Γ Un) (z2 : Kx Γ Vx) (z3 : YX Γ QA) (z4 : XY Γ Qe) (z5 : WU Γ Qt) : V9 Γ f := by
  intro l gap hl hz
  refine Y8 h zsi (by unfold arA; split <;> simp only [V.closed, Qh, and_self]) fun C hC hm => ?_
  subst hC
  unfold Ux
  have hm : C.m = 0 := by simpa using hm
  obtain ⟨sX, sI, sW⟩ := z4
  obtain ⟨iX, iI, iW⟩ := z5
  have p0 := (z0 l gap hl hz).b
  by_cases hE : Yj l gap = 0
  rotate_left
  · rw [arA, if_neg hE]
    have e01 : (Yj l gap != 0) = true := by simpa using hE
    generalize Yj l gap = er at *
    repeat' (first | (refine zsk ?_; intro K' hK) | (refine zrg ?_; intro K' hK) | refine zsp ?_ | (refine zsc ?_ ?_ <;> intro hc <;> first | exact znh | try simp only [znz] at hc) | simp (maxSteps := 1000000) only [go_sem, Nat.reduceAdd, Nat.reduceMul, Nat.reduceEqDiff, Nat.reduceLeDiff, Nat.reduceLT, Nat.reduceSub, Int.reduceEq, Int.reduceBEq, Int.reduceLT, Int.reduceLE, Int.reduceAdd, Int.reduceToNat, reduceIte, reduceCtorEq, e01] | (refine hK _ ?_; clear hK K') | apply zan | (apply KS; (focus exact rfl); (focus first | exact (z3 _ _ zsd zsd)); (focus exact rfl); (focus exact rfl)) | (apply V6; (focus exact rfl); (focus exact zrd); (focus exact zrd); (focus first | exact (z3 _ _ zsd zsd)); (focus exact rfl); (focus exact rfl); (focus exact zrd)) | (apply KR; (focus first | exact (z2 _ _ zsd zsd))) | (apply V5; (focus first | exact (z2 _ _ zsd zsd)); (focus exact zrd)) | ((first | apply QS | apply Q1); (focus first | exact p0 | exact (z0 _ _ zsd zsd).b)) | exact zsq | fail)
    all_goals first | exact zr | trace_state
  obtain ⟨hl4, hd⟩ := apD hE
  rw [hE] at p0
  have p1 := z2 l gap hl4 hd
  have hp := aij l gap
  have hent : Wu l gap = WI l (amC l gap) l.length := rfl
  rw [arA, if_pos hE, hent]
  generalize amC l gap = p at *
  have e00 : ((0 : Int) != 0) = false := by decide
  repeat' (first | (refine zsk ?_; intro K' hK) | (refine zrg ?_; intro K' hK) | refine zsp ?_ | (refine zsc ?_ ?_ <;> intro hc <;> first | exact znh | try simp only [znz] at hc) | simp (maxSteps := 1000000) only [go_sem, Nat.reduceAdd, Nat.reduceMul, Nat.reduceEqDiff, Nat.reduceLeDiff, Nat.reduceLT, Nat.reduceSub, Int.reduceEq, Int.reduceBEq, Int.reduceLT, Int.reduceLE, Int.reduceAdd, Int.reduceToNat, reduceIte, reduceCtorEq, e00] | (refine hK _ ?_; clear hK K') | apply zan | (apply KS; (focus exact rfl); (focus first | exact (z3 _ _ zsd zsd)); (focus exact rfl); (focus exact rfl)) | (apply V6; (focus exact rfl); (focus exact zrd); (focus exact zrd); (focus first | exact (z3 _ _ zsd zsd)); (focus exact rfl); (focus exact rfl); (focus exact zrd)) | (apply KR; (focus first | exact p1 | exact (z2 _ _ zsd zsd))) | (apply V5; (focus first | exact p1 | exact (z2 _ _ zsd zsd)); (focus exact zrd)) | ((first | apply QS | apply Q1); (focus first | exact p0 | exact (z0 _ _ zsd zsd).b)) | exact zsq | fail)
  have t0 : aeP [10000, 13000, 12000] id 0 = 10000 := rfl
  have t1 : aeP [10000, 13000, 12000] id 1 = 13000 := rfl
  have t2 : aeP [10000, 13000, 12000] id 2 = 12000 := rfl
  refine QH (ι := Nat) (fun k => k ≤ l.length) (fun k => eSt l p (WI l p k) k) (fun k => l.length - k) 0 (Nat.zero_le _) (aeP [10000, 13000, 12000] id) ?_ fun k hk K' hL => ?_
  · rw [hm]
    refine alc (by simp [WI]) [10000, 13000, 12000] id [] rfl ?_ rfl rfl (.inr ⟨rfl, rfl⟩) (fun k y h => by simp at h) (fun j => by simp [WI]) (fun j e h => by simp [WI] at h) (by simp) (fun q hq => by simp [WI] at hq) (fun a b ha => by simp [WI] at ha)
    simp only [go_sem, zwl, Nat.reduceAdd, Nat.reduceMul, Nat.reduceEqDiff, Nat.reduceLT, Int.reduceToNat, reduceIte, reduceCtorEq, eTs, WI, t0, t1, t2, List.length_map]
  clear t0 t1 t2
  have hI := aaq (l := l) hp k hk
  rcases hdr : l.drop k with _ | ⟨f, r⟩
  · have hkl := Je hdr
    have e1 : decide ((k : Int) < (l.length : Int)) = false := by simp; omega
    obtain rfl : k = l.length := by omega
    generalize WI l p l.length = es at *
    repeat' (first | (refine zsk ?_; intro K' hK) | (refine zrg ?_; intro K' hK) | refine zsp ?_ | (refine zsc ?_ ?_ <;> intro hc <;> first | exact znh | try simp only [znz] at hc) | simp (maxSteps := 1000000) only [go_sem, Nat.reduceAdd, Nat.reduceMul, Nat.reduceEqDiff, Nat.reduceLeDiff, Nat.reduceLT, Nat.reduceSub, Int.reduceEq, Int.reduceBEq, Int.reduceLT, Int.reduceLE, Int.reduceAdd, Int.reduceToNat, reduceIte, reduceCtorEq, eSt, eTs, e1] | (refine hK _ ?_; clear hK K') | apply zan | (apply KS; (focus exact rfl); (focus first | exact (z3 _ _ zsd zsd)); (focus exact rfl); (focus exact rfl)) | (apply V6; (focus exact rfl); (focus exact zrd); (focus exact zrd); (focus first | exact (z3 _ _ zsd zsd)); (focus exact rfl); (focus exact rfl); (focus exact zrd)) | (apply KR; (focus first | exact (z2 _ _ zsd zsd))) | (apply V5; (focus first | exact (z2 _ _ zsd zsd)); (focus exact zrd)) | ((first | apply QS | apply Q1); (focus first | exact (z0 _ _ zsd zsd).b)) | exact zsq | fail)
    all_goals
      refine Qv _ rfl ⟨?_, rfl, trivial⟩
      show conv _ _ _ (.hd 2 0 es.length) (.sl 4 (es.map J8.v))
      rw [amL]
      refine ⟨trivial, by simp, .inr ⟨true, qP 3 es, rfl, ?_, aom es, aeW es⟩⟩
      rw [List.drop_zero, List.take_of_length_le (by rw [Us]; exact Nat.le_refl _)]
      exact alm es 3 fun q y hq => (aas p _ _ [] es q).trans hq
  obtain ⟨hk', hget, hr⟩ := QJ hdr
  have hw := Qr (k := k) (by omega)
  have e1 : decide ((k : Int) < (l.length : Int)) = true := by simp; omega
  have hsu := akS (p := p) hget
  generalize WI l p k = es at *
  have n1 := z3 p k hp (by omega)
  by_cases hk0 : Ub p k = k
  · rw [hk0] at n1
    have e2 : ((k : Int) == (k : Int)) = true := by simp
    have g0 : (eO p (es.map J8.num) (List.range es.length) [] es)[0]? = some (.box true (QG p)) := rfl
    have g1 : (eO p (es.map J8.num) (List.range es.length) [] es)[1]? = some (.map (QG (es.map J8.num)) (QG (List.range es.length)) 0) := rfl
    have g2 : (eO p (es.map J8.num) (List.range es.length) [] es)[2]? = some (.obuf true 4 (qP 3 es)) := rfl
    have hnum : ∀ x ∈ es.map J8.num, x ≠ k := fun x hx => by
      obtain ⟨e, he, rfl⟩ := List.mem_map.1 hx
      have := (hI.sz e he).num
      omega
    have f1 := aa4 k (es.map J8.num) 0
    rw [ajq hnum] at f1
    have f2 := aa4 k (es.map J8.num ++ [k]) 0
    rw [aik hnum, Nat.zero_add, List.length_map] at f2
    have f3 := agG (k : Int)
    have f4 := wq (es.map J8.num) k
    have f5 := wq (List.range es.length) es.length
    have f6 : (QG (List.range es.length ++ [es.length]))[es.length]? = some (V.int (es.length : Nat)) := WC (by simp)
    have f7 : List.take es.length (qP 3 es) = qP 3 es := List.take_of_length_le (by rw [Us]; exact Nat.le_refl _)
    have f8 := Us es 3
    have hel := hI.len
    repeat' (first | (refine zsk ?_; intro K' hK) | refine zsp ?_ | (refine zsc ?_ ?_ <;> intro hc <;> first | exact znh | try simp only [znz] at hc) | simp (maxSteps := 1000000) only [go_sem, Nat.reduceAdd, Nat.reduceMul, Nat.reduceEqDiff, Nat.reduceLeDiff, Nat.reduceLT, Nat.reduceSub, Int.reduceEq, Int.reduceBEq, Int.reduceLT, Int.reduceLE, Int.reduceAdd, Int.reduceToNat, reduceIte, reduceCtorEq, eSt, eTs, e1, e2, g0, g1, g2, f1, f2, f3, f4, f5, f6, f7, f8, Int.toNat_natCast, List.getElem?_map, hget, Qa.v, Qa.cells] | (refine hK _ ?_; clear hK K') | apply zan | (apply KS; (focus exact rfl); (focus first | exact n1 | exact (z3 _ _ zsd zsd)); (focus exact rfl); (focus exact rfl)) | (apply KR; (focus first | exact (z2 _ _ zsd zsd))) | (apply QS; (focus first | exact (z0 _ _ zsd zsd).b)) | exact zsq | fail)
    refine alY (ι := List J8 × Nat × J8) (atd l p k f) (fun q => mSt l p q.1 f q.2.1 k) (fun s => s.keep [7, 8, 9, 11, 13, 24, 25, 26]) (fun K2 hK2 => ?_) (fun q hq s' τ hwk => ?_)
    · have f9 := sW f.host
      have f10 : (qP 3 es ++ [V.agg [V.int k, aeT, aeT, aeT]])[es.length]? = some (V.agg [V.int k, aeT, aeT, aeT]) := by
        rw [List.getElem?_append_right (by rw [f8]; exact Nat.le_refl _), f8, Nat.sub_self]; rfl
      have f13 : ∀ v : V, ((qP 3 es ++ [V.agg [V.int k, aeT, aeT, aeT]]).set es.length v)[es.length]? = some v := fun v => by rw [List.getElem?_set]; simp [f8]
      have f14 : ∀ j v, ((qP 3 es ++ [V.agg [V.int k, aeT, aeT, aeT]]).set es.length v)[j]? = if j = es.length then some v else (qP 3 es)[j]? := fun j v => by
        rw [List.getElem?_set]
        by_cases hj : es.length = j
        · subst hj; simp [f8]
        · rw [if_neg hj, if_neg (fun e => hj e.symm)]
          by_cases hj2 : j < es.length
          · rw [List.getElem?_append_left (by rw [f8]; exact hj2)]
          · rw [List.getElem?_eq_none (by simp [f8]; omega), List.getElem?_eq_none (by rw [f8]; omega)]
      generalize qP 3 es ++ [V.agg [V.int k, aeT, aeT, aeT]] = L at *
      have f15 : ∀ v w : V, (L.set es.length v).set es.length w = L.set es.length w := fun v w => List.set_set ..
      repeat' (first | (refine zsk ?_; intro K' hK) | (refine zrg ?_; intro K' hK) | refine zsp ?_ | (refine zsc ?_ ?_ <;> intro hc <;> first | exact znh | try simp only [znz] at hc) | simp (maxSteps := 1000000) only [go_sem, Nat.reduceAdd, Nat.reduceMul, Nat.reduceEqDiff, Nat.reduceLeDiff, Nat.reduceLT, Nat.reduceSub, Int.reduceEq, Int.reduceBEq, Int.reduceLT, Int.reduceLE, Int.reduceAdd, Int.reduceToNat, reduceIte, reduceCtorEq, f8, f10, f13, f15, Int.toNat_natCast] | (refine hK _ ?_; clear hK K') | apply zan | (apply KS; (focus exact rfl); (focus first | exact (z3 _ _ zsd zsd)); (focus exact rfl); (focus exact rfl)) | (apply V6; (focus exact rfl); (focus exact zrd); (focus exact zrd); (focus first | exact (z3 _ _ zsd zsd)); (focus exact rfl); (focus exact rfl); (focus exact zrd)) | (apply KR; (focus first | exact (z2 _ _ zsd zsd))) | ((first | apply ae4 | apply aaG); (focus first | exact f9)) | (apply V5; (focus first | exact (z2 _ _ zsd zsd)); (focus exact zrd)) | ((first | apply QS | apply Q1); (focus first | exact (z0 _ _ zsd zsd).b)) | exact zsq | fail)
      all_goals
        refine hK2 _ (es ++ [Ja k f ⟨k, [], [], []⟩], es.length, Ja k f ⟨k, [], [], []⟩) (aeP [0, 1, 25000, 6000] (nmS 3 es.length 41000 2 48000)) ⟨?_, ?_, ?_, ?_⟩ ?_
        · simp only; rw [List.getElem?_append_right (Nat.le_refl _), Nat.sub_self]; rfl
        · simp only; rw [hsu, ajM, if_pos hk0, List.set_append_right _ _ (Nat.le_refl _), Nat.sub_self]; rfl
        · simp only [List.length_append, List.length_singleton]; omega
        · simp only [Ja, List.length_nil]; omega
        rw [hm]
        refine af8 (es0 := es ++ [⟨k, [], [], []⟩]) (e1 := Ja k f ⟨k, [], [], []⟩) (els := L.set es.length (V.agg [V.int k, V.hd 41000 0 1, aeT, V.hd 48000 0 1])) [0, 1, 25000, 6000] ?_ rfl (by simp) (by simp; omega) (anT rfl (by rw [List.length_append]; rfl) rfl rfl rfl rfl rfl rfl) (by simp) rfl ?_ rfl (aqZ rfl rfl) (fun j => ?_) (fun q y hq hq3 hy => ?_) ?_ ⟨_, rfl, fun hne => (hne rfl).elim⟩ rfl (by simp) (fun q hq => ?_) (by simp) (by omega) ?_ ?_ ?_
        · simp only; rw [List.set_append_right _ _ (Nat.le_refl _), Nat.sub_self]; rfl
        · rw [List.map_append, List.length_append, List.length_singleton, List.range_succ]; rfl
        · rw [f14]
          by_cases hj : j = es.length
          · rw [if_pos hj, if_pos hj]
            simp only [Ja, afK, mhd]; rfl
          · rw [if_neg hj, if_neg hj, U3, U3]
            by_cases hj2 : j < es.length
            · rw [List.getElem?_append_left hj2]
            · rw [List.getElem?_eq_none (by omega), List.getElem?_eq_none (by simp; omega)]
        · have hj : q / 3 < es.length := by simp only [List.length_append, List.length_singleton] at hq; omega
          simp only [St.keep, upd]
          repeat rw [if_neg (by omega)]
          rw [show 3 + q = 3 + ([] : List Ob).length + q from rfl, aas]
          rw [← hy, ali, List.getElem?_append_left (by rw [abA]; omega)]
        · simp only [Ja, afK]; rfl
        · simp only [List.mem_cons, List.not_mem_nil, or_false, List.length_append, List.length_singleton] at hq ⊢; omega
        · right; right; simp; omega
        · right; left; omega
        · right; right; simp; omega
    · obtain ⟨es2, a2, e2⟩ := q
      obtain ⟨q1, q2, q3, q4⟩ := hq
      simp only at q1 q2 q3 q4 hwk ⊢
      refine aiI hwk ?_
      clear hwk
      have q5 := (List.getElem?_eq_some_iff.1 q1).1
      have g0 : (eO p (es2.map J8.num) (List.range es2.length) [.box true f.cells] es2)[0]? = some (.box true (QG p)) := rfl
      have g1 : (eO p (es2.map J8.num) (List.range es2.length) [.box true f.cells] es2)[1]? = some (.map (QG (es2.map J8.num)) (QG (List.range es2.length)) 0) := rfl
      have g2 : (eO p (es2.map J8.num) (List.range es2.length) [.box true f.cells] es2)[2]? = some (.obuf true 4 (qP 4 es2)) := rfl
      have g3 : (eO p (es2.map J8.num) (List.range es2.length) [.box true f.cells] es2)[3]? = some (.box true f.cells) := rfl
      simp only [mSt]
      generalize hEO : eO p (es2.map J8.num) (List.range es2.length) [.box true f.cells] es2 = EO at g0 g1 g2 g3 ⊢
      simp only [Qa.cells] at g3
      have hrow : ∀ q y, (aeO es2)[q]? = some y → EO[4 + q]? = some y := fun q y h => by
        rw [← hEO, show 4 + q = 3 + [Ob.box true f.cells].length + q from rfl, aas]; exact h
      have wEO : ZW (eO p (es2.map J8.num) (List.range es2.length) [.box true f.cells] es2 = EO) := ⟨hEO⟩
      clear hEO
      by_cases hm0 : f.mach = 0
      · have e5 : (f.mach != 0) = false := by simpa using hm0
        repeat' (first | (refine zsk ?_; intro K' hK) | (refine zrg ?_; intro K' hK) | refine zsp ?_ | (refine zsc ?_ ?_ <;> intro hc <;> first | exact znh | try simp only [znz] at hc) | simp (maxSteps := 1000000) only [go_sem, Nat.reduceAdd, Nat.reduceMul, Nat.reduceEqDiff, Nat.reduceLeDiff, Nat.reduceLT, Nat.reduceSub, Int.reduceEq, Int.reduceBEq, Int.reduceLT, Int.reduceLE, Int.reduceAdd, Int.reduceToNat, reduceIte, reduceCtorEq, mTs, g0, g1, g2, g3, e5, hw] | (refine hK _ ?_; clear hK K') | apply zan | (apply KS; (focus exact rfl); (focus first | exact (z3 _ _ zsd zsd)); (focus exact rfl); (focus exact rfl)) | (apply V6; (focus exact rfl); (focus exact zrd); (focus exact zrd); (focus first | exact (z3 _ _ zsd zsd)); (focus exact rfl); (focus exact rfl); (focus exact zrd)) | (apply KR; (focus first | exact (z2 _ _ zsd zsd))) | (apply V5; (focus first | exact (z2 _ _ zsd zsd)); (focus exact zrd)) | ((first | apply QS | apply Q1); (focus first | exact (z0 _ _ zsd zsd).b)) | exact zsq | fail)
        all_goals
          refine hL _ (k + 1) (aeP [0, 1, 2] (nmS 4 a2 (4 + 3 * a2) (4 + 3 * a2 + 1) (4 + 3 * a2 + 2))) (by omega) (by omega) ?_
          rw [hm, ← q2]
          refine af8 (N := 4) (es0 := es2) (e1 := abm f e2) (els := qP 4 es2) [0, 1, 2] rfl rfl q5 (by omega) (aeY rfl (by rw [List.length_set]; rfl) rfl rfl rfl rfl) (by simp) ?_ ?_ ?_ (fun k y h => by simp at h) (fun j => ?_) (fun q y hq hq3 hy => ?_) ?_ ⟨mob e2.machs, hrow _ _ (by rw [UX, q1]; rfl), fun hne => by rw [abm, if_pos hm0] at hne ⊢; rw [mob, if_neg hne]⟩ ?_ (by simp) (fun q hq => ?_) ?_ ?_ ?_ ?_ ?_
          · exact g0
          · rw [xK (e1 := abm f e2) q1 rfl, List.length_set]; exact g1
          · first | exact g2 | rfl
          · rw [U3]
            by_cases hj : j = a2
            · rw [if_pos hj, hj, q1]; simp only [Option.map_some, J8.own, abm, if_pos hm0]
            · rw [if_neg hj]
          · exact hrow q y hy
          · exact hrow _ _ (by rw [WB, q1]; rfl)
          · exact hrow _ _ (by rw [WA, q1]; rfl)
          · simp only [List.mem_cons, List.not_mem_nil, or_false] at hq ⊢; omega
          · simp only [List.mem_cons, List.not_mem_nil, or_false]; omega
          · omega
          · omega
          · omega
          · omega
      · have e5 : (f.mach != 0) = true := by simpa using hm0
        have f8 := Us es2 4
        have f13 : ∀ v : V, ((qP 4 es2).set a2 v)[a2]? = some v := fun v => by rw [List.getElem?_set, if_pos rfl, if_pos (by rw [f8]; exact q5)]
        have f14 : ∀ j (v : V), ((qP 4 es2).set a2 v)[j]? = if j = a2 then some v else (qP 4 es2)[j]? := fun j v => by
          rw [List.getElem?_set]
          by_cases hj : a2 = j
          · subst hj; rw [if_pos rfl, if_pos (by rw [f8]; exact q5), if_pos rfl]
          · rw [if_neg hj, if_neg (fun e => hj e.symm)]
        by_cases hne2 : e2.machs = []
        · have f10 : (qP 4 es2)[a2]? = some (.agg [V.int e2.num, .hd (4 + 3 * a2) 0 e2.hosts.length, aeT, .hd (4 + 3 * a2 + 2) 0 e2.finds.length]) := by rw [U3, q1]; simp only [Option.map_some, J8.own, mhd, if_pos hne2]
          have f9 := iW f.mach
          have hins : agf ltJ e2.machs f.mach = [f.mach] := by rw [hne2, afK]
          have hne3 : ¬ ([f.mach] : List Int) = [] := by simp
          repeat' (first | (refine zsk ?_; intro K' hK) | (refine zrg ?_; intro K' hK) | refine zsp ?_ | (refine zsc ?_ ?_ <;> intro hc <;> first | exact znh | try simp only [znz] at hc) | simp (maxSteps := 1000000) only [go_sem, Nat.reduceAdd, Nat.reduceMul, Nat.reduceEqDiff, Nat.reduceLeDiff, Nat.reduceLT, Nat.reduceSub, Int.reduceEq, Int.reduceBEq, Int.reduceLT, Int.reduceLE, Int.reduceAdd, Int.reduceToNat, reduceIte, reduceCtorEq, mTs, g0, g1, g2, g3, e5, hw, f10, f13, Int.toNat_natCast] | (refine hK _ ?_; clear hK K') | apply zan | (apply KS; (focus exact rfl); (focus first | exact (z3 _ _ zsd zsd)); (focus exact rfl); (focus exact rfl)) | (apply V6; (focus exact rfl); (focus exact zrd); (focus exact zrd); (focus first | exact (z3 _ _ zsd zsd)); (focus exact rfl); (focus exact rfl); (focus exact zrd)) | (apply KR; (focus first | exact (z2 _ _ zsd zsd))) | ((first | apply ae4 | apply aaG); (focus first | exact f9)) | (apply V5; (focus first | exact (z2 _ _ zsd zsd)); (focus exact zrd)) | ((first | apply QS | apply Q1); (focus first | exact (z0 _ _ zsd zsd).b)) | exact zsq | fail)
          all_goals
            refine hL _ (k + 1) (aeP [0, 1, 2] (nmS 4 a2 (4 + 3 * a2) 12000 (4 + 3 * a2 + 2))) (by omega) (by omega) ?_
            rw [hm, ← q2]
            refine af8 (N := 4) (es0 := es2) (e1 := abm f e2) (els := (qP 4 es2).set a2 (.agg [V.int e2.num, .hd (4 + 3 * a2) 0 e2.hosts.length, .hd 12000 0 1, .hd (4 + 3 * a2 + 2) 0 e2.finds.length])) [0, 1, 2] rfl rfl q5 (by omega) (aeY rfl (by rw [List.length_set]; rfl) rfl rfl rfl rfl) (by simp) ?_ ?_ ?_ (fun k y h => by simp at h) (fun j => ?_) (fun q y hq hq3 hy => ?_) ?_ ⟨_, rfl, fun _ => by simp only [abm, if_neg hm0, hins]; rfl⟩ ?_ (by simp) (fun q hq => ?_) ?_ ?_ ?_ ?_ ?_
            · simp only [List.getD_cons_zero, List.getD_cons_succ, upd, Nat.reduceEqDiff, if_false, if_true]; first | done | exact g0
            · rw [xK (e1 := abm f e2) q1 rfl, List.length_set]; simp only [List.getD_cons_zero, List.getD_cons_succ, upd, Nat.reduceEqDiff, if_false, if_true]; first | done | exact g1
            · simp only [List.getD_cons_zero, List.getD_cons_succ, upd, Nat.reduceEqDiff, if_false, if_true]; first | done | rfl
            · rw [f14]
              by_cases hj : j = a2
              · rw [if_pos hj, if_pos hj]; simp only [abm, if_neg hm0, hins, mhd]; first | rfl | (rw [if_neg hne2]; done) | (rw [if_neg hne3]; done)
              · rw [if_neg hj, if_neg hj]
            · simp only [upd]; (repeat rw [if_neg (by omega)]); exact hrow q y hy
            · simp only [upd]; (repeat rw [if_neg (by omega)]); exact hrow _ _ (by rw [WB, q1]; rfl)
            · simp only [upd]; (repeat rw [if_neg (by omega)]); exact hrow _ _ (by rw [WA, q1]; rfl)
            · simp only [List.mem_cons, List.not_mem_nil, or_false] at hq ⊢; omega
            · simp only [List.mem_cons, List.not_mem_nil, or_false]; omega
            · omega
            · omega
            · omega
            · omega
        · have f10 : (qP 4 es2)[a2]? = some (.agg [V.int e2.num, .hd (4 + 3 * a2) 0 e2.hosts.length, .hd (4 + 3 * a2 + 1) 0 e2.machs.length, .hd (4 + 3 * a2 + 2) 0 e2.finds.length]) := by rw [U3, q1]; simp only [Option.map_some, J8.own, mhd, if_neg hne2]
          have gM : EO[4 + 3 * a2 + 1]? = some (.buf true 1 (e2.machs.map V.int)) := by
            rw [show 4 + 3 * a2 + 1 = 4 + (3 * a2 + 1) by omega]
            exact hrow _ _ (by rw [UX, q1]; simp only [Option.map_some, mob, if_neg hne2])
          have hml : 0 < e2.machs.length := List.length_pos_iff.2 hne2
          obtain ⟨nM, hnM⟩ : ∃ n, n = 4 + 3 * a2 + 1 := ⟨_, rfl⟩
          rw [← hnM] at f10 gM
          have hM2 : nM < 2000 := by omega
          have hM3 : 3 ≤ nM := by omega
          have u1 : ∀ q, (nM = q + 2000) = False := fun q => eq_false (by omega)
          have u3 : ∀ q, (q + 2000 = nM) = False := fun q => eq_false (by omega)
          have u5 : (nM = 2) = False := eq_false (by omega)
          have u6 : (2 = nM) = False := eq_false (by omega)
          have u7 : (0 = nM) = False := eq_false (by omega)
          have u8 : (1 = nM) = False := eq_false (by omega)
          have v1 : ∀ q, decide (nM < q + 2000) = true := fun q => decide_eq_true (by omega)
          have wM : ZW (nM = 4 + 3 * a2 + 1) := ⟨hnM⟩
          clear hnM
          rcases hfo : UM e2.machs (bsI ltJ e2.machs f.mach) f.mach with _ | _
          · have f9 := iI e2.machs f.mach hml (by omega) hfo
            obtain ⟨hh, hins⟩ : ∃ hh, agf ltJ e2.machs f.mach = hh := ⟨_, rfl⟩
            have hne3 : ¬ hh = [] := by
              have := (adU (lt := ltJ) e2.machs f.mach).2
              rw [hins] at this
              exact List.length_pos_iff.1 this
            rw [hins] at f9
            have hlm : (List.map V.int hh).length = hh.length := List.length_map _
            repeat' (first | (refine zsk ?_; intro K' hK) | (refine zrg ?_; intro K' hK) | refine zsp ?_ | (refine zsc ?_ ?_ <;> intro hc <;> first | exact znh | try simp only [znz] at hc) | simp (maxSteps := 1000000) only [go_sem, Nat.reduceAdd, Nat.reduceMul, Nat.reduceEqDiff, Nat.reduceLeDiff, Nat.reduceLT, Nat.reduceSub, Int.reduceEq, Int.reduceBEq, Int.reduceLT, Int.reduceLE, Int.reduceAdd, Int.reduceToNat, reduceIte, reduceCtorEq, mTs, g0, g1, g2, g3, e5, hw, f10, f13, hlm, gM, v1, u1, u3, u5, u6, Int.toNat_natCast] | (refine hK _ ?_; clear hK K') | apply zan | (apply aj5; (focus exact rfl); (focus first | exact f9); (focus exact rfl); (focus exact rfl); (focus (first | exact rfl | (simp; done)))) | (apply agP; (focus exact rfl); (focus exact rfl); (focus first | exact f9); (focus exact rfl); (focus (first | exact rfl | (simp; done))); (focus (first | exact rfl | (simp; done)))) | (apply ak7; (focus first | exact rfl | (simp only [upd, if_false, *]; exact rfl)); (focus first | exact rfl | decide | (simp [rA, rW]; done) | (simp [rA, rW]; omega) | omega); (focus first | exact rfl | decide | (simp [rA, rW]; done) | (simp [rA, rW]; omega) | omega); (focus first | exact f9); (focus exact rfl); (focus first | exact rfl | decide | (simp [rA, rW]; done) | (simp [rA, rW]; omega) | omega); (focus (first | exact rfl | (simp; done))); (focus exact rfl)) | (apply KS; (focus exact rfl); (focus first | exact (z3 _ _ zsd zsd)); (focus exact rfl); (focus exact rfl)) | (apply V6; (focus exact rfl); (focus exact zrd); (focus exact zrd); (focus first | exact (z3 _ _ zsd zsd)); (focus exact rfl); (focus exact rfl); (focus exact zrd)) | (apply KR; (focus first | exact (z2 _ _ zsd zsd))) | (apply V5; (focus first | exact (z2 _ _ zsd zsd)); (focus exact zrd)) | ((first | apply QS | apply Q1); (focus first | exact (z0 _ _ zsd zsd).b)) | exact zsq | fail)
            all_goals
              have wM' := wM.h
              refine hL _ (k + 1) (aeP [0, 1, 2] (nmS 4 a2 (4 + 3 * a2) 12000 (4 + 3 * a2 + 2))) (by omega) (by omega) ?_
              rw [hm, ← q2]
              refine af8 (N := 4) (es0 := es2) (e1 := abm f e2) (els := (qP 4 es2).set a2 (.agg [V.int e2.num, .hd (4 + 3 * a2) 0 e2.hosts.length, .hd 12000 0 hh.length, .hd (4 + 3 * a2 + 2) 0 e2.finds.length])) [0, 1, 2] rfl rfl q5 (by omega) (aeY rfl (by rw [List.length_set]; rfl) rfl rfl rfl rfl) (by simp) ?_ ?_ ?_ (fun k y h => by simp at h) (fun j => ?_) (fun q y hq hq3 hy => ?_) ?_ ⟨.buf true 1 (hh.map V.int), by simp only [upd, u3, Nat.reduceEqDiff, if_false, if_true], fun _ => by simp only [abm, if_neg hm0, hins]⟩ ?_ (by simp) (fun q hq => ?_) ?_ ?_ ?_ ?_ ?_
              · simp only [List.getD_cons_zero, List.getD_cons_succ, upd, Nat.reduceEqDiff, if_false, if_true, u6, u7, u8]; first | done | exact g0
              · rw [xK (e1 := abm f e2) q1 rfl, List.length_set]; simp only [List.getD_cons_zero, List.getD_cons_succ, upd, Nat.reduceEqDiff, if_false, if_true, u6, u7, u8]; first | done | exact g1
              · simp only [List.getD_cons_zero, List.getD_cons_succ, upd, Nat.reduceEqDiff, if_false, if_true, u6, u7, u8]; first | done | rfl
              · rw [f14]
                by_cases hj : j = a2
                · rw [if_pos hj, if_pos hj]; simp only [abm, if_neg hm0, hins, mhd]; first | rfl | (rw [if_neg hne2]; done) | (rw [if_neg hne3]; done)
                · rw [if_neg hj, if_neg hj]
              · simp only [upd]; (repeat rw [if_neg (by omega)]); exact hrow q y hy
              · simp only [upd]; (repeat rw [if_neg (by omega)]); exact hrow _ _ (by rw [WB, q1]; rfl)
              · simp only [upd]; (repeat rw [if_neg (by omega)]); exact hrow _ _ (by rw [WA, q1]; rfl)
              · simp only [List.mem_cons, List.not_mem_nil, or_false] at hq ⊢; omega
              · simp only [List.mem_cons, List.not_mem_nil, or_false]; omega
              · omega
              · omega
              · omega
              · omega
          · have f9 := iX e2.machs f.mach hml (by omega) hfo
            have hins : agf ltJ e2.machs f.mach = e2.machs := by rw [agf, if_pos hfo]
            repeat' (first | (refine zsk ?_; intro K' hK) | (refine zrg ?_; intro K' hK) | refine zsp ?_ | (refine zsc ?_ ?_ <;> intro hc <;> first | exact znh | try simp only [znz] at hc) | simp (maxSteps := 1000000) only [go_sem, Nat.reduceAdd, Nat.reduceMul, Nat.reduceEqDiff, Nat.reduceLeDiff, Nat.reduceLT, Nat.reduceSub, Int.reduceEq, Int.reduceBEq, Int.reduceLT, Int.reduceLE, Int.reduceAdd, Int.reduceToNat, reduceIte, reduceCtorEq, mTs, g0, g1, g2, g3, e5, hw, f10, f13, gM, v1, u1, u3, u5, u6, Int.toNat_natCast] | (refine hK _ ?_; clear hK K') | apply zan | (apply al1; (focus exact rfl); (focus first | exact f9); (focus exact rfl); (focus exact rfl); (focus (first | exact rfl | (simp; done)))) | (apply ak6; (focus first | exact rfl | (simp only [upd, if_false, *]; exact rfl)); (focus first | exact rfl | decide | (simp [rA, rW]; done) | (simp [rA, rW]; omega) | omega); (focus first | exact rfl | decide | (simp [rA, rW]; done) | (simp [rA, rW]; omega) | omega); (focus first | exact f9); (focus exact rfl); (focus first | exact rfl | decide | (simp [rA, rW]; done) | (simp [rA, rW]; omega) | omega); (focus (first | exact rfl | (simp; done))); (focus exact rfl)) | (apply KS; (focus exact rfl); (focus first | exact (z3 _ _ zsd zsd)); (focus exact rfl); (focus exact rfl)) | (apply V6; (focus exact rfl); (focus exact zrd); (focus exact zrd); (focus first | exact (z3 _ _ zsd zsd)); (focus exact rfl); (focus exact rfl); (focus exact zrd)) | (apply KR; (focus first | exact (z2 _ _ zsd zsd))) | (apply V5; (focus first | exact (z2 _ _ zsd zsd)); (focus exact zrd)) | ((first | apply QS | apply Q1); (focus first | exact (z0 _ _ zsd zsd).b)) | exact zsq | fail)
            all_goals
              have wM' := wM.h
              refine hL _ (k + 1) (aeP [0, 1, 2] (nmS 4 a2 (4 + 3 * a2) nM (4 + 3 * a2 + 2))) (by omega) (by omega) ?_
              rw [hm, ← q2]
              refine af8 (N := 4) (es0 := es2) (e1 := abm f e2) (els := (qP 4 es2).set a2 (.agg [V.int e2.num, .hd (4 + 3 * a2) 0 e2.hosts.length, .hd nM 0 e2.machs.length, .hd (4 + 3 * a2 + 2) 0 e2.finds.length])) [0, 1, 2] rfl rfl q5 (by omega) (aeY rfl (by rw [List.length_set]; rfl) rfl rfl rfl rfl) (by simp) ?_ ?_ ?_ (fun k y h => by simp at h) (fun j => ?_) (fun q y hq hq3 hy => ?_) ?_ ⟨.buf true 1 (e2.machs.map V.int), by simp only [upd, u5, if_false, if_true, gM], fun _ => by simp only [abm, if_neg hm0, hins]⟩ ?_ (by simp) (fun q hq => ?_) ?_ ?_ ?_ ?_ ?_
              · simp only [List.getD_cons_zero, List.getD_cons_succ, upd, Nat.reduceEqDiff, if_false, if_true, u6, u7, u8]; first | done | exact g0
              · rw [xK (e1 := abm f e2) q1 rfl, List.length_set]; simp only [List.getD_cons_zero, List.getD_cons_succ, upd, Nat.reduceEqDiff, if_false, if_true, u6, u7, u8]; first | done | exact g1
              · simp only [List.getD_cons_zero, List.getD_cons_succ, upd, Nat.reduceEqDiff, if_false, if_true, u6, u7, u8]; first | done | rfl
              · rw [f14]
                by_cases hj : j = a2
                · rw [if_pos hj, if_pos hj]; simp only [abm, if_neg hm0, hins, mhd]; first | rfl | (rw [if_neg hne2]; done) | (rw [if_neg hne3]; done)
                · rw [if_neg hj, if_neg hj]
              · simp only [upd]; (repeat rw [if_neg (by omega)]); exact hrow q y hy
              · simp only [upd]; (repeat rw [if_neg (by omega)]); exact hrow _ _ (by rw [WB, q1]; rfl)
              · simp only [upd]; (repeat rw [if_neg (by omega)]); exact hrow _ _ (by rw [WA, q1]; rfl)
              · simp only [List.mem_cons, List.not_mem_nil, or_false] at hq ⊢; omega
              · simp only [List.mem_cons, List.not_mem_nil, or_false]; omega
              · omega
              · omega
              · omega
              · omega
  · obtain ⟨a, e, hia, hea, hen⟩ := hI.find hp hk0
    have hal := (List.getElem?_eq_some_iff.1 hea).1
    have hsz := hI.sz e (List.mem_of_getElem? hea)
    have hel := hI.len
    have hrk := afG hp k
    have e2 : (((Ub p k : Nat) : Int) == (k : Int)) = false := by simp; omega
    have g0 : (eO p (es.map J8.num) (List.range es.length) [] es)[0]? = some (.box true (QG p)) := rfl
    have g1 : (eO p (es.map J8.num) (List.range es.length) [] es)[1]? = some (.map (QG (es.map J8.num)) (QG (List.range es.length)) 0) := rfl
    have g2 : (eO p (es.map J8.num) (List.range es.length) [] es)[2]? = some (.obuf true 4 (qP 3 es)) := rfl
    have f1 := aa4 (Ub p k) (es.map J8.num) 0
    rw [hia] at f1
    have f3 := agG ((Ub p k : Nat) : Int)
    have f6 : (QG (List.range es.length))[a]? = some (V.int (a : Nat)) := WC (by simp [hal])
    have f8 := Us es 3
    have hes : WI l p (k + 1) = es.set a (Ug k f e) := by rw [hsu, ajM, if_neg hk0, hia]; simp only [hea]
    clear hsu
    generalize Ub p k = rt at *
    repeat' (first | (refine zsk ?_; intro K' hK) | refine zsp ?_ | (refine zsc ?_ ?_ <;> intro hc <;> first | exact znh | try simp only [znz] at hc) | simp (maxSteps := 1000000) only [go_sem, Nat.reduceAdd, Nat.reduceMul, Nat.reduceEqDiff, Nat.reduceLeDiff, Nat.reduceLT, Nat.reduceSub, Int.reduceEq, Int.reduceBEq, Int.reduceLT, Int.reduceLE, Int.reduceAdd, Int.reduceToNat, reduceIte, reduceCtorEq, eSt, eTs, e1, e2, g0, g1, g2, f1, f3, f6, f8, Int.toNat_natCast, List.getElem?_map, hget, Qa.v, Qa.cells] | (refine hK _ ?_; clear hK K') | apply zan | (apply KS; (focus exact rfl); (focus first | exact n1 | exact (z3 _ _ zsd zsd)); (focus exact rfl); (focus exact rfl)) | (apply KR; (focus first | exact (z2 _ _ zsd zsd))) | (apply QS; (focus first | exact (z0 _ _ zsd zsd).b)) | exact zsq | fail)
    refine alY (ι := List J8 × Nat × J8) (atd l p k f) (fun q => mSt l p q.1 f q.2.1 k) (fun s => s.keep [7, 8, 9, 11, 13, 24, 25, 26]) (fun K2 hK2 => ?_) (fun q hq s' τ hwk => ?_)
    · have f10 : (qP 3 es)[a]? = some (.agg [V.int e.num, .hd (3 + 3 * a) 0 e.hosts.length, mhd (3 + 3 * a + 1) e.machs, .hd (3 + 3 * a + 2) 0 e.finds.length]) := by rw [U3, hea]; rfl
      have gH : (eO p (es.map J8.num) (List.range es.length) [] es)[3 + 3 * a]? = some (.buf true 1 (e.hosts.map V.str)) := by
        rw [show 3 + 3 * a = 3 + ([] : List Ob).length + 3 * a from rfl, aas, WB, hea]; rfl
      have gF : (eO p (es.map J8.num) (List.range es.length) [] es)[3 + 3 * a + 2]? = some (.buf true 1 (QG e.finds)) := by
        rw [show 3 + 3 * a + 2 = 3 + ([] : List Ob).length + (3 * a + 2) by simp; omega, aas, WA, hea]; rfl
      obtain ⟨nH, hnH⟩ : ∃ n, n = 3 + 3 * a := ⟨_, rfl⟩
      obtain ⟨nF, hnF⟩ : ∃ n, n = 3 + 3 * a + 2 := ⟨_, rfl⟩
      rw [← hnF] at f10 gF
      rw [← hnH] at f10 gH
      have hF2 : nF < 2000 := by omega
      have hH2 : nH < 2000 := by omega
      have v1 : ∀ q, decide (nH < q + 2000) = true := fun q => decide_eq_true (by omega)
      have v2 : ∀ q, decide (nF < q + 2000) = true := fun q => decide_eq_true (by omega)
      have u1 : ∀ q, (nH = q + 2000) = False := fun q => eq_false (by omega)
      have u2 : ∀ q, (nF = q + 2000) = False := fun q => eq_false (by omega)
      have u3 : ∀ q, (q + 2000 = nH) = False := fun q => eq_false (by omega)
      have u4 : ∀ q, (q + 2000 = nF) = False := fun q => eq_false (by omega)
      have u5 : (nH = nF) = False := eq_false (by omega)
      have u6 : (nF = nH) = False := eq_false (by omega)
      have u7 : (nH = 0) = False := eq_false (by omega)
      have u8 : (nF = 0) = False := eq_false (by omega)
      have u11 : (nH = 2) = False := eq_false (by omega)
      have u12 : (nF = 2) = False := eq_false (by omega)
      have u9 : (2 = nH) = False := eq_false (by omega)
      have u10 : (2 = nF) = False := eq_false (by omega)
      have hH3 : 3 ≤ nH := by omega
      have hF3 : 3 ≤ nF := by omega
      have wH : ZW (nH = 3 + 3 * a) := ⟨hnH⟩
      have wF : ZW (nF = 3 + 3 * a + 2) := ⟨hnF⟩
      clear hnH hnF
      have f11 : List.take e.finds.length (QG e.finds) ++ [V.int k] = QG (e.finds ++ [k]) := by rw [List.take_of_length_le (by rw [X8]; exact Nat.le_refl _), wq]
      have f12 := X8 e.finds
      have z1 : e.finds.length ≤ 400 := by have := hsz.f1; omega
      have w0 : (0 = nH) = False := eq_false (by omega)
      have w1 : (0 = nF) = False := eq_false (by omega)
      have w2 : (1 = nH) = False := eq_false (by omega)
      have w3 : (1 = nF) = False := eq_false (by omega)
      have f13 : ∀ v : V, ((qP 3 es).set a v)[a]? = some v := fun v => by rw [List.getElem?_set, if_pos rfl, if_pos (by rw [f8]; exact hal)]
      have f14 : ∀ j (v : V), ((qP 3 es).set a v)[j]? = if j = a then some v else (qP 3 es)[j]? := fun j v => by
        rw [List.getElem?_set]
        by_cases hj : a = j
        · subst hj; rw [if_pos rfl, if_pos (by rw [f8]; exact hal), if_pos rfl]
        · rw [if_neg hj, if_neg (fun e => hj e.symm)]
      have f15 : ∀ v w : V, ((qP 3 es).set a v).set a w = (qP 3 es).set a w := fun v w => List.set_set ..
      rcases hfo : UM e.hosts (bsI Op.bytesLess e.hosts f.host) f.host with _ | _
      · have f9 := sI e.hosts f.host hsz.h0 (by have := hsz.h1; omega) hfo
        clear sX sI sW iX iI iW hL
        obtain ⟨hh, hins⟩ : ∃ hh, agf Op.bytesLess e.hosts f.host = hh := ⟨_, rfl⟩
        rw [hins] at f9
        have hlm : (List.map V.str hh).length = hh.length := List.length_map _
        repeat' (first | (refine zsk ?_; intro K' hK) | (refine zrg ?_; intro K' hK) | refine zsp ?_ | (refine zsc ?_ ?_ <;> intro hc <;> first | exact znh | try simp only [znz] at hc) | simp (maxSteps := 1000000) only [go_sem, Nat.reduceAdd, Nat.reduceMul, Nat.reduceEqDiff, Nat.reduceLeDiff, Nat.reduceLT, Nat.reduceSub, Int.reduceEq, Int.reduceBEq, Int.reduceLT, Int.reduceLE, Int.reduceAdd, Int.reduceToNat, reduceIte, reduceCtorEq, f8, f10, f11, f12, f13, f15, hlm, gH, gF, g2, v1, v2, u1, u2, u3, u4, u5, u6, u7, u8, u9, u10, Int.toNat_natCast] | (refine hK _ ?_; clear hK K') | apply zan | (apply aj5; (focus exact rfl); (focus first | exact f9); (focus exact rfl); (focus exact rfl); (focus (first | exact rfl | (simp; done)))) | (apply agP; (focus exact rfl); (focus exact rfl); (focus first | exact f9); (focus exact rfl); (focus (first | exact rfl | (simp; done))); (focus (first | exact rfl | (simp; done)))) | (apply ak7; (focus first | exact rfl | (simp only [upd, if_false, *]; exact rfl)); (focus first | exact rfl | decide | (simp [rA, rW]; done) | (simp [rA, rW]; omega) | omega); (focus first | exact rfl | decide | (simp [rA, rW]; done) | (simp [rA, rW]; omega) | omega); (focus first | exact f9); (focus exact rfl); (focus first | exact rfl | decide | (simp [rA, rW]; done) | (simp [rA, rW]; omega) | omega); (focus (first | exact rfl | (simp; done))); (focus exact rfl)) | (apply KS; (focus exact rfl); (focus first | exact (z3 _ _ zsd zsd)); (focus exact rfl); (focus exact rfl)) | (apply V6; (focus exact rfl); (focus exact zrd); (focus exact zrd); (focus first | exact (z3 _ _ zsd zsd)); (focus exact rfl); (focus exact rfl); (focus exact zrd)) | (apply KR; (focus first | exact (z2 _ _ zsd zsd))) | (apply V5; (focus first | exact (z2 _ _ zsd zsd)); (focus exact zrd)) | ((first | apply QS | apply Q1); (focus first | exact (z0 _ _ zsd zsd).b)) | exact zsq | fail)
        all_goals
          have wH' := wH.h
          have wF' := wF.h
          refine hK2 _ (es.set a (Ja k f e), a, Ja k f e) (aeP [0, 1, 2, 6000] (nmS 3 a 30000 (3 + 3 * a + 1) 37000)) ⟨?_, ?_, ?_, ?_⟩ ?_
          · simp only; rw [List.getElem?_set, if_pos rfl, if_pos hal]
          · simp only; rw [hes, List.set_set]; rfl
          · simp only [List.length_set]; omega
          · simp only [Ja]; have := hsz.m1; omega
          rw [hm]
          refine af8 (es0 := es) (e1 := Ja k f e) (els := (qP 3 es).set a (.agg [V.int e.num, .hd 30000 0 hh.length, mhd (nH + 1) e.machs, .hd 37000 0 (e.finds.length + 1)])) [0, 1, 2, 6000] rfl rfl hal (by omega) (anT rfl (by rw [List.length_set]; rfl) rfl rfl rfl rfl rfl rfl) (by simp) ?_ ?_ ?_ (aqZ (x3 := 6000) rfl ?_) (fun j => ?_) (fun q y hq hq3 hy => ?_) ?_ ⟨mob e.machs, ?_, fun hne => by rw [mob, if_neg (show ¬ e.machs = [] from hne)]; rfl⟩ ?_ (by simp) (fun q hq => ?_) ?_ ?_ ?_ ?_ ?_
          · simp only [List.getD_cons_zero, St.keep, upd, u7, u8, w0, w1, if_false, if_true, Nat.reduceEqDiff]
          · rw [xK (e1 := Ja k f e) hea rfl, List.length_set]
            simp only [List.getD_cons_succ, List.getD_cons_zero, St.keep, upd, w2, w3, if_false, if_true, Nat.reduceEqDiff, g1]
          · simp only [List.getD_cons_succ, List.getD_cons_zero, St.keep, upd, u9, u10, if_false, if_true, Nat.reduceEqDiff]
          · simp only [St.keep, upd, u3, u4, if_false, if_true, Nat.reduceEqDiff]; rfl
          · rw [f14]
            by_cases hj : j = a
            · rw [if_pos hj, if_pos hj, wH']
              simp only [Ja, hins, List.length_append, List.length_singleton]
            · rw [if_neg hj, if_neg hj]
          · simp only [St.keep, upd]
            repeat rw [if_neg (by omega)]
            rw [show 3 + q = 3 + ([] : List Ob).length + q from rfl, aas]
            exact hy
          · simp only [Ja, hins, St.keep, upd, u1, u3, u4, u5, u6, u11, u12, if_false, if_true, Nat.reduceEqDiff]
          · simp only [St.keep, upd]
            repeat rw [if_neg (by omega)]
            rw [show 3 + 3 * a + 1 = 3 + ([] : List Ob).length + (3 * a + 1) by simp; omega, aas, UX, hea]; rfl
          · simp only [Ja, St.keep, upd, u3, u4, if_false, if_true, Nat.reduceEqDiff]
          · simp only [List.mem_cons, List.not_mem_nil, or_false] at hq ⊢; omega
          · simp only [List.mem_cons, List.not_mem_nil, or_false]; omega
          · omega
          · omega
          · omega
          · omega
      · have f9 := sX e.hosts f.host hsz.h0 (by have := hsz.h1; omega) hfo
        clear sX sI sW iX iI iW hL
        have hins : agf Op.bytesLess e.hosts f.host = e.hosts := by rw [agf, if_pos hfo]
        repeat' (first | (refine zsk ?_; intro K' hK) | (refine zrg ?_; intro K' hK) | refine zsp ?_ | (refine zsc ?_ ?_ <;> intro hc <;> first | exact znh | try simp only [znz] at hc) | simp (maxSteps := 1000000) only [go_sem, Nat.reduceAdd, Nat.reduceMul, Nat.reduceEqDiff, Nat.reduceLeDiff, Nat.reduceLT, Nat.reduceSub, Int.reduceEq, Int.reduceBEq, Int.reduceLT, Int.reduceLE, Int.reduceAdd, Int.reduceToNat, reduceIte, reduceCtorEq, f8, f10, f11, f12, f13, f15, gH, gF, g2, v1, v2, u1, u2, u3, u4, u5, u6, u7, u8, u9, u10, Int.toNat_natCast] | (refine hK _ ?_; clear hK K') | apply zan | (apply al1; (focus exact rfl); (focus first | exact f9); (focus exact rfl); (focus exact rfl); (focus (first | exact rfl | (simp; done)))) | (apply ak6; (focus first | exact rfl | (simp only [upd, if_false, *]; exact rfl)); (focus first | exact rfl | decide | (simp [rA, rW]; done) | (simp [rA, rW]; omega) | omega); (focus first | exact rfl | decide | (simp [rA, rW]; done) | (simp [rA, rW]; omega) | omega); (focus first | exact f9); (focus exact rfl); (focus first | exact rfl | decide | (simp [rA, rW]; done) | (simp [rA, rW]; omega) | omega); (focus (first | exact rfl | (simp; done))); (focus exact rfl)) | (apply KS; (focus exact rfl); (focus first | exact (z3 _ _ zsd zsd)); (focus exact rfl); (focus exact rfl)) | (apply V6; (focus exact rfl); (focus exact zrd); (focus exact zrd); (focus first | exact (z3 _ _ zsd zsd)); (focus exact rfl); (focus exact rfl); (focus exact zrd)) | (apply KR; (focus first | exact (z2 _ _ zsd zsd))) | (apply V5; (focus first | exact (z2 _ _ zsd zsd)); (focus exact zrd)) | ((first | apply QS | apply Q1); (focus first | exact (z0 _ _ zsd zsd).b)) | exact zsq | fail)
        all_goals
          have wH' := wH.h
          have wF' := wF.h
          refine hK2 _ (es.set a (Ja k f e), a, Ja k f e) (aeP [0, 1, 2, 6000] (nmS 3 a nH (3 + 3 * a + 1) 37000)) ⟨?_, ?_, ?_, ?_⟩ ?_
          · simp only; rw [List.getElem?_set, if_pos rfl, if_pos hal]
          · simp only; rw [hes, List.set_set]; rfl
          · simp only [List.length_set]; omega
          · simp only [Ja]; have := hsz.m1; omega
          rw [hm]
          refine af8 (es0 := es) (e1 := Ja k f e) (els := (qP 3 es).set a (.agg [V.int e.num, .hd nH 0 e.hosts.length, mhd (nH + 1) e.machs, .hd 37000 0 (e.finds.length + 1)])) [0, 1, 2, 6000] rfl rfl hal (by omega) (anT rfl (by rw [List.length_set]; rfl) rfl rfl rfl rfl rfl rfl) (by simp) ?_ ?_ ?_ (aqZ (x3 := 6000) rfl ?_) (fun j => ?_) (fun q y hq hq3 hy => ?_) ?_ ⟨mob e.machs, ?_, fun hne => by rw [mob, if_neg (show ¬ e.machs = [] from hne)]; rfl⟩ ?_ (by simp) (fun q hq => ?_) ?_ ?_ ?_ ?_ ?_
          · simp only [List.getD_cons_zero, St.keep, upd, u7, u8, w0, w1, if_false, if_true, Nat.reduceEqDiff]
          · rw [xK (e1 := Ja k f e) hea rfl, List.length_set]
            simp only [List.getD_cons_succ, List.getD_cons_zero, St.keep, upd, w2, w3, if_false, if_true, Nat.reduceEqDiff, g1]
          · simp only [List.getD_cons_succ, List.getD_cons_zero, St.keep, upd, u9, u10, if_false, if_true, Nat.reduceEqDiff]
          · simp only [St.keep, upd, u3, u4, if_false, if_true, Nat.reduceEqDiff]; rfl
          · rw [f14]
            by_cases hj : j = a
            · rw [if_pos hj, if_pos hj, wH']
              simp only [Ja, hins, List.length_append, List.length_singleton]
            · rw [if_neg hj, if_neg hj]
          · simp only [St.keep, upd]
            repeat rw [if_neg (by omega)]
            rw [show 3 + q = 3 + ([] : List Ob).length + q from rfl, aas]
            exact hy
          · simp only [Ja, hins, St.keep, upd, u1, u3, u4, u5, u6, u11, u12, if_false, if_true, Nat.reduceEqDiff]
          · simp only [St.keep, upd]
            repeat rw [if_neg (by omega)]
            rw [show 3 + 3 * a + 1 = 3 + ([] : List Ob).length + (3 * a + 1) by simp; omega, aas, UX, hea]; rfl
          · simp only [Ja, St.keep, upd, u3, u4, if_false, if_true, Nat.reduceEqDiff]
          · simp only [List.mem_cons, List.not_mem_nil, or_false] at hq ⊢; omega
          · simp only [List.mem_cons, List.not_mem_nil, or_false]; omega
          · omega
          · omega
          · omega
          · omega
    · obtain ⟨es2, a2, e2⟩ := q
      obtain ⟨q1, q2, q3, q4⟩ := hq
      simp only at q1 q2 q3 q4 hwk ⊢
      refine aiI hwk ?_
      clear hwk
      have q5 := (List.getElem?_eq_some_iff.1 q1).1
      have g0 : (eO p (es2.map J8.num) (List.range es2.length) [.box true f.cells] es2)[0]? = some (.box true (QG p)) := rfl
      have g1 : (eO p (es2.map J8.num) (List.range es2.length) [.box true f.cells] es2)[1]? = some (.map (QG (es2.map J8.num)) (QG (List.range es2.length)) 0) := rfl
      have g2 : (eO p (es2.map J8.num) (List.range es2.length) [.box true f.cells] es2)[2]? = some (.obuf true 4 (qP 4 es2)) := rfl
      have g3 : (eO p (es2.map J8.num) (List.range es2.length) [.box true f.cells] es2)[3]? = some (.box true f.cells) := rfl
      simp only [mSt]
      generalize hEO : eO p (es2.map J8.num) (List.range es2.length) [.box true f.cells] es2 = EO at g0 g1 g2 g3 ⊢
      simp only [Qa.cells] at g3
      have hrow : ∀ q y, (aeO es2)[q]? = some y → EO[4 + q]? = some y := fun q y h => by
        rw [← hEO, show 4 + q = 3 + [Ob.box true f.cells].length + q from rfl, aas]; exact h
      have wEO : ZW (eO p (es2.map J8.num) (List.range es2.length) [.box true f.cells] es2 = EO) := ⟨hEO⟩
      clear hEO
      by_cases hm0 : f.mach = 0
      · have e5 : (f.mach != 0) = false := by simpa using hm0
        repeat' (first | (refine zsk ?_; intro K' hK) | (refine zrg ?_; intro K' hK) | refine zsp ?_ | (refine zsc ?_ ?_ <;> intro hc <;> first | exact znh | try simp only [znz] at hc) | simp (maxSteps := 1000000) only [go_sem, Nat.reduceAdd, Nat.reduceMul, Nat.reduceEqDiff, Nat.reduceLeDiff, Nat.reduceLT, Nat.reduceSub, Int.reduceEq, Int.reduceBEq, Int.reduceLT, Int.reduceLE, Int.reduceAdd, Int.reduceToNat, reduceIte, reduceCtorEq, mTs, g0, g1, g2, g3, e5, hw] | (refine hK _ ?_; clear hK K') | apply zan | (apply KS; (focus exact rfl); (focus first | exact (z3 _ _ zsd zsd)); (focus exact rfl); (focus exact rfl)) | (apply V6; (focus exact rfl); (focus exact zrd); (focus exact zrd); (focus first | exact (z3 _ _ zsd zsd)); (focus exact rfl); (focus exact rfl); (focus exact zrd)) | (apply KR; (focus first | exact (z2 _ _ zsd zsd))) | (apply V5; (focus first | exact (z2 _ _ zsd zsd)); (focus exact zrd)) | ((first | apply QS | apply Q1); (focus first | exact (z0 _ _ zsd zsd).b)) | exact zsq | fail)
        all_goals
          refine hL _ (k + 1) (aeP [0, 1, 2] (nmS 4 a2 (4 + 3 * a2) (4 + 3 * a2 + 1) (4 + 3 * a2 + 2))) (by omega) (by omega) ?_
          rw [hm, ← q2]
          refine af8 (N := 4) (es0 := es2) (e1 := abm f e2) (els := qP 4 es2) [0, 1, 2] rfl rfl q5 (by omega) (aeY rfl (by rw [List.length_set]; rfl) rfl rfl rfl rfl) (by simp) ?_ ?_ ?_ (fun k y h => by simp at h) (fun j => ?_) (fun q y hq hq3 hy => ?_) ?_ ⟨mob e2.machs, hrow _ _ (by rw [UX, q1]; rfl), fun hne => by rw [abm, if_pos hm0] at hne ⊢; rw [mob, if_neg hne]⟩ ?_ (by simp) (fun q hq => ?_) ?_ ?_ ?_ ?_ ?_
          · exact g0
          · rw [xK (e1 := abm f e2) q1 rfl, List.length_set]; exact g1
          · first | exact g2 | rfl
          · rw [U3]
            by_cases hj : j = a2
            · rw [if_pos hj, hj, q1]; simp only [Option.map_some, J8.own, abm, if_pos hm0]
            · rw [if_neg hj]
          · exact hrow q y hy
          · exact hrow _ _ (by rw [WB, q1]; rfl)
          · exact hrow _ _ (by rw [WA, q1]; rfl)
          · simp only [List.mem_cons, List.not_mem_nil, or_false] at hq ⊢; omega
          · simp only [List.mem_cons, List.not_mem_nil, or_false]; omega
          · omega
          · omega
          · omega
          · omega
      · have e5 : (f.mach != 0) = true := by simpa using hm0
        have f8 := Us es2 4
        have f13 : ∀ v : V, ((qP 4 es2).set a2 v)[a2]? = some v := fun v => by rw [List.getElem?_set, if_pos rfl, if_pos (by rw [f8]; exact q5)]
        have f14 : ∀ j (v : V), ((qP 4 es2).set a2 v)[j]? = if j = a2 then some v else (qP 4 es2)[j]? := fun j v => by
          rw [List.getElem?_set]
          by_cases hj : a2 = j
          · subst hj; rw [if_pos rfl, if_pos (by rw [f8]; exact q5), if_pos rfl]
          · rw [if_neg hj, if_neg (fun e => hj e.symm)]
        by_cases hne2 : e2.machs = []
        · have f10 : (qP 4 es2)[a2]? = some (.agg [V.int e2.num, .hd (4 + 3 * a2) 0 e2.hosts.length, aeT, .hd (4 + 3 * a2 + 2) 0 e2.finds.length]) := by rw [U3, q1]; simp only [Option.map_some, J8.own, mhd, if_pos hne2]
          have f9 := iW f.mach
          have hins : agf ltJ e2.machs f.mach = [f.mach] := by rw [hne2, afK]
          have hne3 : ¬ ([f.mach] : List Int) = [] := by simp
          repeat' (first | (refine zsk ?_; intro K' hK) | (refine zrg ?_; intro K' hK) | refine zsp ?_ | (refine zsc ?_ ?_ <;> intro hc <;> first | exact znh | try simp only [znz] at hc) | simp (maxSteps := 1000000) only [go_sem, Nat.reduceAdd, Nat.reduceMul, Nat.reduceEqDiff, Nat.reduceLeDiff, Nat.reduceLT, Nat.reduceSub, Int.reduceEq, Int.reduceBEq, Int.reduceLT, Int.reduceLE, Int.reduceAdd, Int.reduceToNat, reduceIte, reduceCtorEq, mTs, g0, g1, g2, g3, e5, hw, f10, f13, Int.toNat_natCast] | (refine hK _ ?_; clear hK K') | apply zan | (apply KS; (focus exact rfl); (focus first | exact (z3 _ _ zsd zsd)); (focus exact rfl); (focus exact rfl)) | (apply V6; (focus exact rfl); (focus exact zrd); (focus exact zrd); (focus first | exact (z3 _ _ zsd zsd)); (focus exact rfl); (focus exact rfl); (focus exact zrd)) | (apply KR; (focus first | exact (z2 _ _ zsd zsd))) | ((first | apply ae4 | apply aaG); (focus first | exact f9)) | (apply V5; (focus first | exact (z2 _ _ zsd zsd)); (focus exact zrd)) | ((first | apply QS | apply Q1); (focus first | exact (z0 _ _ zsd zsd).b)) | exact zsq | fail)
          all_goals
            refine hL _ (k + 1) (aeP [0, 1, 2] (nmS 4 a2 (4 + 3 * a2) 12000 (4 + 3 * a2 + 2))) (by omega) (by omega) ?_
            rw [hm, ← q2]
            refine af8 (N := 4) (es0 := es2) (e1 := abm f e2) (els := (qP 4 es2).set a2 (.agg [V.int e2.num, .hd (4 + 3 * a2) 0 e2.hosts.length, .hd 12000 0 1, .hd (4 + 3 * a2 + 2) 0 e2.finds.length])) [0, 1, 2] rfl rfl q5 (by omega) (aeY rfl (by rw [List.length_set]; rfl) rfl rfl rfl rfl) (by simp) ?_ ?_ ?_ (fun k y h => by simp at h) (fun j => ?_) (fun q y hq hq3 hy => ?_) ?_ ⟨_, rfl, fun _ => by simp only [abm, if_neg hm0, hins]; rfl⟩ ?_ (by simp) (fun q hq => ?_) ?_ ?_ ?_ ?_ ?_
            · simp only [List.getD_cons_zero, List.getD_cons_succ, upd, Nat.reduceEqDiff, if_false, if_true]; first | done | exact g0
            · rw [xK (e1 := abm f e2) q1 rfl, List.length_set]; simp only [List.getD_cons_zero, List.getD_cons_succ, upd, Nat.reduceEqDiff, if_false, if_true]; first | done | exact g1
            · simp only [List.getD_cons_zero, List.getD_cons_succ, upd, Nat.reduceEqDiff, if_false, if_true]; first | done | rfl
            · rw [f14]
              by_cases hj : j = a2
              · rw [if_pos hj, if_pos hj]; simp only [abm, if_neg hm0, hins, mhd]; first | rfl | (rw [if_neg hne2]; done) | (rw [if_neg hne3]; done)
              · rw [if_neg hj, if_neg hj]
            · simp only [upd]; (repeat rw [if_neg (by omega)]); exact hrow q y hy
            · simp only [upd]; (repeat rw [if_neg (by omega)]); exact hrow _ _ (by rw [WB, q1]; rfl)
            · simp only [upd]; (repeat rw [if_neg (by omega)]); exact hrow _ _ (by rw [WA, q1]; rfl)
            · simp only [List.mem_cons, List.not_mem_nil, or_false] at hq ⊢; omega
            · simp only [List.mem_cons, List.not_mem_nil, or_false]; omega
            · omega
            · omega
            · omega
            · omega
        · have f10 : (qP 4 es2)[a2]? = some (.agg [V.int e2.num, .hd (4 + 3 * a2) 0 e2.hosts.length, .hd (4 + 3 * a2 + 1) 0 e2.machs.length, .hd (4 + 3 * a2 + 2) 0 e2.finds.length]) := by rw [U3, q1]; simp only [Option.map_some, J8.own, mhd, if_neg hne2]
          have gM : EO[4 + 3 * a2 + 1]? = some (.buf true 1 (e2.machs.map V.int)) := by
            rw [show 4 + 3 * a2 + 1 = 4 + (3 * a2 + 1) by omega]
            exact hrow _ _ (by rw [UX, q1]; simp only [Option.map_some, mob, if_neg hne2])
          have hml : 0 < e2.machs.length := List.length_pos_iff.2 hne2
          obtain ⟨nM, hnM⟩ : ∃ n, n = 4 + 3 * a2 + 1 := ⟨_, rfl⟩
          rw [← hnM] at f10 gM
          have hM2 : nM < 2000 := by omega
          have hM3 : 3 ≤ nM := by omega
          have u1 : ∀ q, (nM = q + 2000) = False := fun q => eq_false (by omega)
          have u3 : ∀ q, (q + 2000 = nM) = False := fun q => eq_false (by omega)
          have u5 : (nM = 2) = False := eq_false (by omega)
          have u6 : (2 = nM) = False := eq_false (by omega)
          have u7 : (0 = nM) = False := eq_false (by omega)
          have u8 : (1 = nM) = False := eq_false (by omega)
          have v1 : ∀ q, decide (nM < q + 2000) = true := fun q => decide_eq_true (by omega)
          have wM : ZW (nM = 4 + 3 * a2 + 1) := ⟨hnM⟩
          clear hnM
          rcases hfo : UM e2.machs (bsI ltJ e2.machs f.mach) f.mach with _ | _
          · have f9 := iI e2.machs f.mach hml (by omega) hfo
            obtain ⟨hh, hins⟩ : ∃ hh, agf ltJ e2.machs f.mach = hh := ⟨_, rfl⟩
            have hne3 : ¬ hh = [] := by
              have := (adU (lt := ltJ) e2.machs f.mach).2
              rw [hins] at this
              exact List.length_pos_iff.1 this
            rw [hins] at f9
            have hlm : (List.map V.int hh).length = hh.length := List.length_map _
            repeat' (first | (refine zsk ?_; intro K' hK) | (refine zrg ?_; intro K' hK) | refine zsp ?_ | (refine zsc ?_ ?_ <;> intro hc <;> first | exact znh | try simp only [znz] at hc) | simp (maxSteps := 1000000) only [go_sem, Nat.reduceAdd, Nat.reduceMul, Nat.reduceEqDiff, Nat.reduceLeDiff, Nat.reduceLT, Nat.reduceSub, Int.reduceEq, Int.reduceBEq, Int.reduceLT, Int.reduceLE, Int.reduceAdd, Int.reduceToNat, reduceIte, reduceCtorEq, mTs, g0, g1, g2, g3, e5, hw, f10, f13, hlm, gM, v1, u1, u3, u5, u6, Int.toNat_natCast] | (refine hK _ ?_; clear hK K') | apply zan | (apply aj5; (focus exact rfl); (focus first | exact f9); (focus exact rfl); (focus exact rfl); (focus (first | exact rfl | (simp; done)))) | (apply agP; (focus exact rfl); (focus exact rfl); (focus first | exact f9); (focus exact rfl); (focus (first | exact rfl | (simp; done))); (focus (first | exact rfl | (simp; done)))) | (apply ak7; (focus first | exact rfl | (simp only [upd, if_false, *]; exact rfl)); (focus first | exact rfl | decide | (simp [rA, rW]; done) | (simp [rA, rW]; omega) | omega); (focus first | exact rfl | decide | (simp [rA, rW]; done) | (simp [rA, rW]; omega) | omega); (focus first | exact f9); (focus exact rfl); (focus first | exact rfl | decide | (simp [rA, rW]; done) | (simp [rA, rW]; omega) | omega); (focus (first | exact rfl | (simp; done))); (focus exact rfl)) | (apply KS; (focus exact rfl); (focus first | exact (z3 _ _ zsd zsd)); (focus exact rfl); (focus exact rfl)) | (apply V6; (focus exact rfl); (focus exact zrd); (focus exact zrd); (focus first | exact (z3 _ _ zsd zsd)); (focus exact rfl); (focus exact rfl); (focus exact zrd)) | (apply KR; (focus first | exact (z2 _ _ zsd zsd))) | (apply V5; (focus first | exact (z2 _ _ zsd zsd)); (focus exact zrd)) | ((first | apply QS | apply Q1); (focus first | exact (z0 _ _ zsd zsd).b)) | exact zsq | fail)
            all_goals
              have wM' := wM.h
              refine hL _ (k + 1) (aeP [0, 1, 2] (nmS 4 a2 (4 + 3 * a2) 12000 (4 + 3 * a2 + 2))) (by omega) (by omega) ?_
              rw [hm, ← q2]
              refine af8 (N := 4) (es0 := es2) (e1 := abm f e2) (els := (qP 4 es2).set a2 (.agg [V.int e2.num, .hd (4 + 3 * a2) 0 e2.hosts.length, .hd 12000 0 hh.length, .hd (4 + 3 * a2 + 2) 0 e2.finds.length])) [0, 1, 2] rfl rfl q5 (by omega) (aeY rfl (by rw [List.length_set]; rfl) rfl rfl rfl rfl) (by simp) ?_ ?_ ?_ (fun k y h => by simp at h) (fun j => ?_) (fun q y hq hq3 hy => ?_) ?_ ⟨.buf true 1 (hh.map V.int), by simp only [upd, u3, Nat.reduceEqDiff, if_false, if_true], fun _ => by simp only [abm, if_neg hm0, hins]⟩ ?_ (by simp) (fun q hq => ?_) ?_ ?_ ?_ ?_ ?_
              · simp only [List.getD_cons_zero, List.getD_cons_succ, upd, Nat.reduceEqDiff, if_false, if_true, u6, u7, u8]; first | done | exact g0
              · rw [xK (e1 := abm f e2) q1 rfl, List.length_set]; simp only [List.getD_cons_zero, List.getD_cons_succ, upd, Nat.reduceEqDiff, if_false, if_true, u6, u7, u8]; first | done | exact g1
              · simp only [List.getD_cons_zero, List.getD_cons_succ, upd, Nat.reduceEqDiff, if_false, if_true, u6, u7, u8]; first | done | rfl
              · rw [f14]
                by_cases hj : j = a2
                · rw [if_pos hj, if_pos hj]; simp only [abm, if_neg hm0, hins, mhd]; first | rfl | (rw [if_neg hne2]; done) | (rw [if_neg hne3]; done)
                · rw [if_neg hj, if_neg hj]
              · simp only [upd]; (repeat rw [if_neg (by omega)]); exact hrow q y hy
              · simp only [upd]; (repeat rw [if_neg (by omega)]); exact hrow _ _ (by rw [WB, q1]; rfl)
              · simp only [upd]; (repeat rw [if_neg (by omega)]); exact hrow _ _ (by rw [WA, q1]; rfl)
              · simp only [List.mem_cons, List.not_mem_nil, or_false] at hq ⊢; omega
              · simp only [List.mem_cons, List.not_mem_nil, or_false]; omega
              · omega
              · omega
              · omega
              · omega
          · have f9 := iX e2.machs f.mach hml (by omega) hfo
            have hins : agf ltJ e2.machs f.mach = e2.machs := by rw [agf, if_pos hfo]
            repeat' (first | (refine zsk ?_; intro K' hK) | (refine zrg ?_; intro K' hK) | refine zsp ?_ | (refine zsc ?_ ?_ <;> intro hc <;> first | exact znh | try simp only [znz] at hc) | simp (maxSteps := 1000000) only [go_sem, Nat.reduceAdd, Nat.reduceMul, Nat.reduceEqDiff, Nat.reduceLeDiff, Nat.reduceLT, Nat.reduceSub, Int.reduceEq, Int.reduceBEq, Int.reduceLT, Int.reduceLE, Int.reduceAdd, Int.reduceToNat, reduceIte, reduceCtorEq, mTs, g0, g1, g2, g3, e5, hw, f10, f13, gM, v1, u1, u3, u5, u6, Int.toNat_natCast] | (refine hK _ ?_; clear hK K') | apply zan | (apply al1; (focus exact rfl); (focus first | exact f9); (focus exact rfl); (focus exact rfl); (focus (first | exact rfl | (simp; done)))) | (apply ak6; (focus first | exact rfl | (simp only [upd, if_false, *]; exact rfl)); (focus first | exact rfl | decide | (simp [rA, rW]; done) | (simp [rA, rW]; omega) | omega); (focus first | exact rfl | decide | (simp [rA, rW]; done) | (simp [rA, rW]; omega) | omega); (focus first | exact f9); (focus exact rfl); (focus first | exact rfl | decide | (simp [rA, rW]; done) | (simp [rA, rW]; omega) | omega); (focus (first | exact rfl | (simp; done))); (focus exact rfl)) | (apply KS; (focus exact rfl); (focus first | exact (z3 _ _ zsd zsd)); (focus exact rfl); (focus exact rfl)) | (apply V6; (focus exact rfl); (focus exact zrd); (focus exact zrd); (focus first | exact (z3 _ _ zsd zsd)); (focus exact rfl); (focus exact rfl); (focus exact zrd)) | (apply KR; (focus first | exact (z2 _ _ zsd zsd))) | (apply V5; (focus first | exact (z2 _ _ zsd zsd)); (focus exact zrd)) | ((first | apply QS | apply Q1); (focus first | exact (z0 _ _ zsd zsd).b)) | exact zsq | fail)
            all_goals
              have wM' := wM.h
              refine hL _ (k + 1) (aeP [0, 1, 2] (nmS 4 a2 (4 + 3 * a2) nM (4 + 3 * a2 + 2))) (by omega) (by omega) ?_
              rw [hm, ← q2]
              refine af8 (N := 4) (es0 := es2) (e1 := abm f e2) (els := (qP 4 es2).set a2 (.agg [V.int e2.num, .hd (4 + 3 * a2) 0 e2.hosts.length, .hd nM 0 e2.machs.length, .hd (4 + 3 * a2 + 2) 0 e2.finds.length])) [0, 1, 2] rfl rfl q5 (by omega) (aeY rfl (by rw [List.length_set]; rfl) rfl rfl rfl rfl) (by simp) ?_ ?_ ?_ (fun k y h => by simp at h) (fun j => ?_) (fun q y hq hq3 hy => ?_) ?_ ⟨.buf true 1 (e2.machs.map V.int), by simp only [upd, u5, if_false, if_true, gM], fun _ => by simp only [abm, if_neg hm0, hins]⟩ ?_ (by simp) (fun q hq => ?_) ?_ ?_ ?_ ?_ ?_
              · simp only [List.getD_cons_zero, List.getD_cons_succ, upd, Nat.reduceEqDiff, if_false, if_true, u6, u7, u8]; first | done | exact g0
              · rw [xK (e1 := abm f e2) q1 rfl, List.length_set]; simp only [List.getD_cons_zero, List.getD_cons_succ, upd, Nat.reduceEqDiff, if_false, if_true, u6, u7, u8]; first | done | exact g1
              · simp only [List.getD_cons_zero, List.getD_cons_succ, upd, Nat.reduceEqDiff, if_false, if_true, u6, u7, u8]; first | done | rfl
              · rw [f14]
                by_cases hj : j = a2
                · rw [if_pos hj, if_pos hj]; simp only [abm, if_neg hm0, hins, mhd]; first | rfl | (rw [if_neg hne2]; done) | (rw [if_neg hne3]; done)
                · rw [if_neg hj, if_neg hj]
              · simp only [upd]; (repeat rw [if_neg (by omega)]); exact hrow q y hy
              · simp only [upd]; (repeat rw [if_neg (by omega)]); exact hrow _ _ (by rw [WB, q1]; rfl)
              · simp only [upd]; (repeat rw [if_neg (by omega)]); exact hrow _ _ (by rw [WA, q1]; rfl)
              · simp only [List.mem_cons, List.not_mem_nil, or_false] at hq ⊢; omega
              · simp only [List.mem_cons, List.not_mem_nil, or_false]; omega
              · omega
              · omega
              · omega
              · omega
structure Qi where
  ent : Int
  subj : List UInt8
  kind : Int
  alg : Int
  bits : Int
  num : Int
  text : List UInt8
  find : Int
  deriving DecidableEq
def Qi.cells (f : Qi) : List V := [V.int f.ent, V.str f.subj, V.int f.kind, V.int f.alg, V.int f.bits, V.int f.num, V.str f.text, V.int f.find]
def Qi.v (f : Qi) : V := .agg f.cells
structure PPl where
  subj : List UInt8
  text : List UInt8
  kind : Int
  num : Int
  alg : Int
  bits : Int
  deriving DecidableEq
def PPl.cells (p : PPl) : List V := [V.str p.subj, V.str p.text, V.int p.kind, V.int p.num, V.int p.alg, V.int p.bits]
def PPl.v (p : PPl) : V := .agg p.cells
def UY (f : Qa) : PPl :=
  if f.kind = 1 ∨ f.kind = 8 then ⟨f.subj, [], 1, 0, f.alg, f.bits⟩
  else if f.kind = 2 ∨ f.kind = 6 then ⟨f.subj, [], f.kind, f.num, 0, 0⟩
  else if f.kind = 7 then ⟨f.subj, f.text, f.kind, 0, 0, 0⟩
  else ⟨f.subj, [], f.kind, 0, 0, 0⟩
def ajg (a b : Qi) : Int := YQ [aaW a.subj b.subj, U4 a.kind b.kind, U4 a.alg b.alg, U4 a.bits b.bits, U4 a.num b.num, aaW a.text b.text]
def aeS : List AO := [fa 14 7 1, xo 15 (.load true 2 (.t 14)), fa 16 2 3, ⟨none, .store 1 (.t 16) (.c (V.int 1)), none⟩, fa 17 4 3, xs 2 17 15]
def ae5 : List (List Nat) := [[], [0], [], [2], [0, 1, 2, 3], [4, 1, 3, 0, 1, 2, 3]]
def aeN : OT := .one 0 (.one 2 (.or 1 (.one 3 (.one 4 (.one 5 .done))) (.or 3 (.one 1 (.one 4 (.one 5 .done))) .done)))
@[go_sem] def aeQ : OP := oN 0 (fa 14 7 1) (oN 2 (fa 16 2 3) (.or 1 true [] (xo 15 (.load true 2 (.t 14))) (.one 3 true [] (⟨none, .store 1 (.t 16) (.c (V.int 1)), none⟩) (oN 4 (fa 17 4 3) (.one 5 true [] (xs 2 17 15) .done))) (.or 3 true [] (⟨none, .store 1 (.t 16) (.c (V.int 1)), none⟩) (.one 1 true [] (xo 15 (.load true 2 (.t 14))) (oN 4 (fa 17 4 3) (.one 5 true [] (xs 2 17 15) .done))) .done)))
instance : RG [1] aeN (aeQ) (aeS) ae5 6 (fun _ => false) := ⟨rfl, by kernel_rfl, by kernel_rfl⟩
def aeo : AC := Qb [1, 2] (.reg [xo 1 (.box true 11 (.t 0)), xo 2 (.alloc [.val vs0, .val vs0, .val vi0, .val vi0, .val vi0, .val vi0])]) (Qb [1, 2, 3] (.reg [fa 4 6 1, ld 5 1 4, fa 6 5 1, ld 7 1 6, xo 8 (.build [vs0, vs0, vi0, vi0, vi0, vi0] [(0, 1, (.t 5)), (2, 1, (.t 7))]), xo 3 (.alloc [.val vs0, .val vs0, .val vi0, .val vi0, .val vi0, .val vi0]), xs 6 3 8]) (Qb [2, 3] (Qb [1, 2, 3, 10] (.reg [fa 9 5 1, ld 10 1 9]) (.block 0 (Qb [1, 2, 3, 10, 11] (Qb [1, 2, 3, 10, 11] (.reg [bc 12 .eql 10 (V.int 1), mv 11 12]) (.cond (.t 11) .skip (.reg [bc 13 .eql 10 (V.int 8), mv 11 13]))) (.cond (.t 11) (wP [1] aeN (aeQ) (aeS) ae5) (Qb [1, 2, 3, 10, 18] (Qb [1, 2, 3, 10, 18] (.reg [bc 19 .eql 10 (V.int 2), mv 18 19]) (.cond (.t 18) .skip (.reg [bc 20 .eql 10 (V.int 6), mv 18 20]))) (.cond (.t 18) (.reg [fa 21 9 1, ld 22 1 21, fa 23 3 3, xs 1 23 22]) (Qb [1, 2, 3, 24] (.reg [bc 25 .eql 10 (V.int 7), mv 24 25]) (.cond (.t 24) (.reg [fa 26 10 1, ld 27 1 26, fa 28 1 3, xs 1 28 27]) .skip)))))))) (Qb [2] (.reg [xo 29 (.load true 6 (.t 3)), xs 6 2 29]) .ret))) def r_asset_of : List Jf := [.cell 2 true 6]
def acq (Γ : Env) (f : Nat) : Prop := ∀ (f0 : Qa), EvN Γ f [f0.v] ((UY f0).v)
theorem akP {Γ : Env} {f : Nat} (h : Has Γ.P f 30 aeo r_asset_of)  : acq Γ f := by
  intro f0
  refine Qd h zsi (by unfold UY; (repeat' split) <;> simp only [PPl.v, PPl.cells, V.closed, Qh, V.noSl, yX, and_self]) (by unfold UY; (repeat' split) <;> simp only [PPl.v, PPl.cells, V.closed, Qh, V.noSl, yX, and_self]) fun C hC hm => ?_
  subst hC
  unfold aeo
  obtain ⟨src, host, mach, day, conf, kind, subj, alg, bits, num, text⟩ := f0
  simp only [UY, Qa.v, Qa.cells, PPl.v, PPl.cells]
  have E : ∀ n : Int, kind ≠ n → (kind == n) = false := fun n h => by simpa using h
  by_cases k1 : kind = 1
  · subst k1
    rw [if_pos (.inl rfl)]
    exact zg
  by_cases k8 : kind = 8
  · subst k8
    rw [if_pos (.inr rfl)]
    exact zg
  rw [if_neg (by simp [k1, k8])]
  by_cases k2 : kind = 2
  · subst k2
    rw [if_pos (.inl rfl)]
    exact zg
  by_cases k6 : kind = 6
  · subst k6
    rw [if_pos (.inr rfl)]
    exact zg
  rw [if_neg (by simp [k2, k6])]
  have e1 := E 1 k1
  have e8 := E 8 k8
  have e2 := E 2 k2
  have e6 := E 6 k6
  by_cases k7 : kind = 7
  · subst k7
    rw [if_pos rfl]
    exact zg
  rw [if_neg k7]
  have e7 := E 7 k7
  (have zx := And.intro e1 (And.intro e8 (And.intro e2 (And.intro e6 e7)))); exact zg
def wv (Qj Qc Qx : Nat) : List AO := [fa 5 1 2, ld 6 1 5, fa 7 1 3, ld 8 1 7, cl 9 Qj [6, 8], fa 10 2 2, ld 11 1 10, fa 12 2 3, ld 13 1 12, cl 14 Qc [11, 13], fa 15 3 2, fa 16 0 15, ld 17 1 16, fa 18 3 3, fa 19 0 18, ld 20 1 19, cl 21 Qc [17, 20], fa 22 3 2, fa 23 1 22, ld 24 1 23, fa 25 3 3, fa 26 1 25, ld 27 1 26, cl 28 Qc [24, 27], fa 29 5 2, ld 30 1 29, fa 31 5 3, ld 32 1 31, cl 33 Qc [30, 32], fa 34 6 2, ld 35 1 34, fa 36 6 3, ld 37 1 36, cl 38 Qj [35, 37], xo 39 (.bslice 6 1 false [vi0] [(0, (.t 9)), (1, (.t 14)), (2, (.t 21)), (3, (.t 28)), (4, (.t 33)), (5, (.t 38))]), cl 40 Qx [39], mv 4 40]
def wE : List (List Nat) := [[], [0], [], [2], [1, 3], [], [5], [], [7], [6, 8, 4], [], [10], [11], [], [13], [14], [12, 15, 9], [], [17], [18], [], [20], [21], [19, 22, 16], [], [24], [], [26], [25, 27, 23], [], [29], [], [31], [30, 32, 28], [4, 9, 16, 23, 28, 33], [34, 33], [35, 35, 0, 1, 2, 3, 4, 5, 6, 7, 8, 9, 10, 11, 12, 13, 14, 15, 16, 17, 18, 19, 20, 21, 22, 23, 24, 25, 26, 27, 28, 29, 30, 31, 32, 33, 34, 35]]
def wm : OT := .one 0 (.one 1 (.one 2 (.one 3 (.one 4 (.one 5 (.one 6 (.one 7 (.one 8 (.one 9 (.one 10 (.one 11 (.one 12 (.one 13 (.one 14 (.one 15 (.one 16 (.one 17 (.one 18 (.one 19 (.one 20 (.one 21 (.one 22 (.one 23 (.one 24 (.one 25 (.one 26 (.one 27 (.one 28 (.one 29 (.one 30 (.one 31 (.one 32 (.one 33 (.one 34 (.one 35 (.one 36 .done))))))))))))))))))))))))))))))))))))
@[go_sem] def wt (Qj Qc Qx : Nat) : OP := oN 0 (fa 5 1 2) (oN 1 (ld 6 1 5) (oN 2 (fa 7 1 3) (oN 3 (ld 8 1 7) (oN 4 (cl 9 Qj [6, 8]) (oN 5 (fa 10 2 2) (oN 6 (ld 11 1 10) (oN 7 (fa 12 2 3) (oN 8 (ld 13 1 12) (oN 9 (cl 14 Qc [11, 13]) (oN 10 (fa 15 3 2) (oN 11 (fa 16 0 15) (oN 12 (ld 17 1 16) (oN 13 (fa 18 3 3) (oN 14 (fa 19 0 18) (oN 15 (ld 20 1 19) (oN 16 (cl 21 Qc [17, 20]) (oN 17 (fa 22 3 2) (oN 18 (fa 23 1 22) (oN 19 (ld 24 1 23) (oN 20 (fa 25 3 3) (oN 21 (fa 26 1 25) (oN 22 (ld 27 1 26) (oN 23 (cl 28 Qc [24, 27]) (oN 24 (fa 29 5 2) (oN 25 (ld 30 1 29) (oN 26 (fa 31 5 3) (oN 27 (ld 32 1 31) (oN 28 (cl 33 Qc [30, 32]) (oN 29 (fa 34 6 2) (oN 30 (ld 35 1 34) (oN 31 (fa 36 6 3) (oN 32 (ld 37 1 36) (oN 33 (cl 38 Qj [35, 37]) (.one 34 false [33, 28, 23, 16, 9, 4] (xo 39 (.bslice 6 1 false [vi0] [(0, (.t 9)), (1, (.t 14)), (2, (.t 21)), (3, (.t 28)), (4, (.t 33)), (5, (.t 38))])) (.one 35 false [34, 33, 28, 23, 16, 9, 4] (cl 40 Qx [39]) (oN 36 (mv 4 40) .done))))))))))))))))))))))))))))))))))))
instance (Qj Qc Qx : Nat) : RG [] wm (wt Qj Qc Qx) (wv Qj Qc Qx) wE 37 (fun _ => true) := ⟨rfl, by kernel_rfl, by kernel_rfl⟩
def yE (Qj Qc Qx : Nat) : AC := Qb [2, 3] (.reg [xo 2 (.box true 8 (.t 0)), xo 3 (.box true 8 (.t 1)), mc 4 (V.int 0)]) (Qb [4] (wP [] wm (wt Qj Qc Qx) (wv Qj Qc Qx) wE) .ret) def r_asset_compare : List Jf := [.tmp 4]
def jx (Γ : Env) (f : Nat) : Prop := ∀ (a b : Qi), EvN Γ f [a.v, b.v] (V.int (ajg a b))
theorem afC {Γ : Env} {f Qj Qc Qx : Nat} (h : Has Γ.P f 41 (yE Qj Qc Qx) r_asset_compare) (z0 : Kt Γ Qj) (z1 : XW Γ Qc) (z2 : jS Γ Qx) : jx Γ f := by
  intro a b
  refine Qd h zsi zcl zcl fun C hC hm => ?_
  subst hC
  unfold yE
  have p1 := (z0 a.subj b.subj).b
  have p2 := (z1 a.kind b.kind).b
  have p3 := (z1 a.alg b.alg).b
  have p4 := (z1 a.bits b.bits).b
  have p5 := (z1 a.num b.num).b
  have p6 := (z0 a.text b.text).b
  have p7 := (z2 [aaW a.subj b.subj, U4 a.kind b.kind, U4 a.alg b.alg, U4 a.bits b.bits, U4 a.num b.num, aaW a.text b.text] (by simp)).b
  simp only [Qi.v, Qi.cells, ajg, List.map_cons, List.map_nil] at *
  exact zg
theorem atf (p q : PPl) : Yg [1, 1, 0, 0, 0, 0] p.cells q.cells = some (decide (p = q)) := by
  obtain ⟨a1, a2, a3, a4, a5, a6⟩ := p
  obtain ⟨b1, b2, b3, b4, b5, b6⟩ := q
  have hs : ∀ x y : List UInt8, ((⟨x.toArray⟩ : ByteArray) == ⟨y.toArray⟩) = decide (x = y) := fun x y => by
    rw [Bool.eq_iff_iff, aj2]; simp
  simp only [PPl.cells, V.str, V.int, Yg, hs, if_true, Option.map_some, PPl.mk.injEq]
  congr 1
  rw [Bool.eq_iff_iff]
  simp
def an8 (p : PPl) : List PPl → Nat → Option Nat
  | [], _ => none
  | e :: r, i => if p = e then some i else an8 p r (i + 1)
theorem ajF (p : PPl) : ∀ (ks : List PPl) (i : Nat), xA true [1, 1, 0, 0, 0, 0] p.v (ks.map PPl.v) i = some (an8 p ks i)
  | [], _ => rfl
  | e :: r, i => by
    have h : yk true [1, 1, 0, 0, 0, 0] p.v e.v = some (decide (p = e)) := atf p e
    rw [List.map_cons, xA, h]
    by_cases hk : p = e
    · subst hk; simp [an8]
    · rw [decide_eq_false hk]; simp only [an8, if_neg hk]
      exact ajF p r (i + 1)
theorem apz (p : PPl) : yk true [1, 1, 0, 0, 0, 0] p.v p.v = some true := by
  have : yk true [1, 1, 0, 0, 0, 0] p.v p.v = some (decide (p = p)) := atf p p
  rw [this]; simp
def YP : List AO := [mv 18 9, mv 19 1, bn 20 .gtr 18 19, mv 21 20, mg 22 3 21 true, mg 23 0 21 true, mg 24 9 21 true, xg 25 (.iaddr 8 (.t 23) (.t 24)) 21 true, xg 26 (.load true 8 (.t 25)) 21 true, mg 27 0 21 true, mg 28 9 21 true, xg 29 (.bin .sub (.t 28) (.c (V.int 1))) 21 true, xg 30 (.iaddr 8 (.t 27) (.t 29)) 21 true, xg 31 (.load true 8 (.t 30)) 21 true, xg 32 (.callv (.t 22) [(.t 26), (.t 31)]) 21 true, xg 33 (.bin .lss (.t 32) (.c (V.int 0))) 21 true, xo 34 (.pick (.t 21) (.t 33) (.c (V.bool false)))]
def YS : List (List Nat) := [[], [], [0, 1], [2], [3], [3], [3], [5, 6, 3], [7, 3], [3], [3], [10, 3], [9, 11, 3], [12, 3], [4, 8, 13, 3, 3], [14, 3], [3, 15]]
def YL : OT := .one 0 (.one 1 (.one 2 (.one 3 (.one 4 (.one 5 (.one 6 (.one 7 (.one 8 (.one 9 (.one 10 (.one 11 (.one 12 (.one 13 (.one 14 (.one 15 (.one 16 .done))))))))))))))))
@[go_sem] def YN : OP := oN 0 (mv 18 9) (oN 1 (mv 19 1) (oN 2 (bn 20 .gtr 18 19) (oN 3 (mv 21 20) (oN 4 (mg 22 3 21 true) (oN 5 (mg 23 0 21 true) (oN 6 (mg 24 9 21 true) (oN 7 (xg 25 (.iaddr 8 (.t 23) (.t 24)) 21 true) (oN 8 (xg 26 (.load true 8 (.t 25)) 21 true) (oN 9 (mg 27 0 21 true) (oN 10 (mg 28 9 21 true) (oN 11 (xg 29 (.bin .sub (.t 28) (.c (V.int 1))) 21 true) (oN 12 (xg 30 (.iaddr 8 (.t 27) (.t 29)) 21 true) (oN 13 (xg 31 (.load true 8 (.t 30)) 21 true) (.one 14 true [] (xg 32 (.callv (.t 22) [(.t 26), (.t 31)]) 21 true) (oN 15 (xg 33 (.bin .lss (.t 32) (.c (V.int 0))) 21 true) (oN 16 (xo 34 (.pick (.t 21) (.t 33) (.c (V.bool false)))) .done))))))))))))))))
instance : RG [14] YL (YN) (YP) YS 17 (fun _ => true) := ⟨rfl, by kernel_rfl, by kernel_rfl⟩
def YO : List AO := [mv 37 0, mv 38 9, mv 39 0, mv 40 9, bc 41 .sub 40 (V.int 1), mv 42 0, mv 43 9, bc 44 .sub 43 (V.int 1), ia 45 8 42 44, xo 46 (.load true 8 (.t 45)), mv 47 0, mv 48 9, ia 49 8 47 48, xo 50 (.load true 8 (.t 49)), ia 51 8 37 38, xs 8 51 46, ia 52 8 39 41, xs 8 52 50]
def YR : List (List Nat) := [[], [], [], [], [3], [], [], [6], [5, 7], [8], [], [], [10, 11], [12], [0, 1, 0, 1, 5, 6, 7, 8, 9, 13], [14, 9, 0, 1, 5, 6, 7, 8, 9, 13], [2, 4, 0, 1, 2, 3, 4, 5, 6, 7, 8, 9, 10, 11, 12, 13, 14, 15], [16, 13, 15, 0, 1, 2, 3, 4, 5, 6, 7, 8, 9, 10, 11, 12, 13, 14, 15]]
def YK : OT := .one 0 (.one 1 (.one 2 (.one 3 (.one 4 (.one 5 (.one 6 (.one 7 (.one 10 (.one 11 (.or 8 (.or 9 (.one 12 (.one 13 (.one 14 (.one 15 (.one 16 (.one 17 .done)))))) (.or 12 (.or 9 (.one 13 (.one 14 (.one 15 (.one 16 (.one 17 .done))))) (.or 13 (.one 9 (.one 14 (.one 15 (.one 16 (.one 17 .done))))) .done)) .done)) (.or 12 (.or 8 (.or 9 (.one 13 (.one 14 (.one 15 (.one 16 (.one 17 .done))))) (.or 13 (.one 9 (.one 14 (.one 15 (.one 16 (.one 17 .done))))) .done)) (.or 13 (.one 8 (.one 9 (.one 14 (.one 15 (.one 16 (.one 17 .done)))))) .done)) .done)))))))))))
@[go_sem] def YA : OP := .one 14 true [] (ia 51 8 37 38) (.one 15 true [] (xs 8 51 46) (.one 16 true [] (ia 52 8 39 41) (.one 17 true [] (xs 8 52 50) .done)))
@[go_sem] def Yz : OP := .one 13 true [] (xo 50 (.load true 8 (.t 49))) YA
@[go_sem] def Yy : OP := .one 9 true [] (xo 46 (.load true 8 (.t 45))) YA
@[go_sem] def Yx : OP := .or 9 true [] (xo 46 (.load true 8 (.t 45))) Yz (.or 13 true [] (xo 50 (.load true 8 (.t 49))) Yy .done)
@[go_sem] def YM : OP := oN 0 (mv 37 0) (oN 1 (mv 38 9) (oN 2 (mv 39 0) (oN 3 (mv 40 9) (oN 4 (bc 41 .sub 40 (V.int 1)) (oN 5 (mv 42 0) (oN 6 (mv 43 9) (oN 7 (bc 44 .sub 43 (V.int 1)) (oN 10 (mv 47 0) (oN 11 (mv 48 9) (.or 8 true [] (ia 45 8 42 44) (.or 9 true [] (xo 46 (.load true 8 (.t 45))) (.one 12 true [] (ia 49 8 47 48) Yz) (.or 12 true [] (ia 49 8 47 48) Yx .done)) (.or 12 true [] (ia 49 8 47 48) (.or 8 true [] (ia 45 8 42 44) Yx (.or 13 true [] (xo 50 (.load true 8 (.t 49))) (.one 8 true [] (ia 45 8 42 44) Yy) .done)) .done)))))))))))
instance : RG [8, 9, 12, 13, 14, 16] YK (YM) (YO) YR 18 (fun _ => false) := ⟨rfl, by kernel_rfl, by kernel_rfl⟩
def JK : AC := Qb [0, 1, 2, 3, 8] (.reg [mv 10 1, bc 11 .add 10 (V.int 1), mv 8 11]) (.block 0 (Y6 [0, 1, 2, 3, 8] (Qb [0, 1, 2, 3, 8] (Qb [0, 1, 2, 3, 8, 14] (.reg [mv 12 8, mv 13 2, bn 14 .lss 12 13]) (.cond (.t 14) .skip (.exit 0))) (Qb [0, 1, 2, 3, 8] (.block 1 (Qb [0, 1, 2, 3, 8, 9] (.reg [mv 17 8, mv 9 17]) (.block 2 (Y6 [0, 1, 2, 3, 8, 9] (Qb [0, 1, 2, 3, 8, 9] (Qb [0, 1, 2, 3, 8, 9, 34] (wP [14] YL (YN) (YP) YS) (.cond (.t 34) .skip (.exit 2))) (Qb [0, 1, 2, 3, 8, 9] (.block 3 (wP [8, 9, 12, 13, 14, 16] YK (YM) (YO) YR)) (.reg [mv 35 9, bc 36 .sub 35 (V.int 1), mv 9 36]))))))) (.reg [mv 15 8, bc 16 .add 15 (V.int 1), mv 8 16]))))) def r_slices_insertionSortCmpFunc_api_Fact : List Jf := []
def Ju (Γ : Env) (f : Nat) : Prop := ∀ (xs : List Qi) (a b : Nat) (g : Nat) (c : Qi → Qi → Int) (hcmp : ∀ x ∈ xs, ∀ y ∈ xs, EvN Γ g [Qi.v x, Qi.v y] (V.int (c x y))) (hab : a ≤ b) (hb : b ≤ xs.length) (hx : xs.length < 2 ^ 34), EvL Γ f [V.int a, V.int b, .clo g []] 8 (xs.map Qi.v) (.tup []) ((if a = b then xs.map Qi.v else (wZ (fun x y => decide (c x y < 0)) xs a b).map Qi.v))
attribute [local go_sem] Wo in
theorem Vj {Γ : Env} {f : Nat} (h : Has Γ.P f 53 JK r_slices_insertionSortCmpFunc_api_Fact)  : Ju Γ f := by
  intro xs a b g c hcmp hab hb hx
  refine KY h (by simp) (by simp only [V.closed, Qh, V.noSl, yX, and_self, and_true, true_and]) fun C hC hm => ?_
  subst hC
  unfold JK
  have hwa := Qr (k := a) (by omega)
  by_cases he : a = b
  · subst he
    rw [if_pos rfl]
    have e1 : decide (((a + 1 : Nat) : Int) < (a : Int)) = false := by simp; omega
    (have zx := hwa); refine zgo ?_; repeat' first | exact zt | apply zan | intro hc
    refine QH (ι := Unit) (fun _ => True) (fun _ => Wo [(0, .hd 0 0 (xs.map Qi.v).length), (1, V.int a), (2, V.int a), (3, .clo g []), (8, V.int (a + 1 : Nat))] [(0, .buf true 8 (xs.map Qi.v))] 1) (fun _ => 0) () trivial (Ql []) (zwg []) fun j hj K'' hL2 => ?_
    (have zx := e1); refine zgo ?_; repeat' first | exact zt | apply zan | intro hc
    all_goals first | (refine xF _ rfl rfl (by simp only [go_sem, Nat.reduceEqDiff, Nat.reduceAdd, reduceIte, reduceCtorEq]) ?_ <;> first | rfl | (simp; done)) | trace_state
  · rw [if_neg he]
    (have zx := hwa); refine zgo ?_; repeat' first | exact zt | apply zan | intro hc
    generalize hlt : (fun x y => decide (c x y < 0)) = lt
    have hlt2 : ∀ x y, decide (c x y < 0) = lt x y := by intro x y; rw [← hlt]
    refine QH (ι := Nat) (fun i => a + 1 ≤ i ∧ i ≤ b) (fun i => Wo [(0, .hd 0 0 (xs.map Qi.v).length), (1, V.int a), (2, V.int b), (3, .clo g []), (8, V.int i)] [(0, .buf true 8 ((wZ lt xs a i).map Qi.v))] 1) (fun i => b - i) (a + 1) ⟨by omega, by omega⟩ (Ql []) (Qu [] zwa (by rw [ajC (by omega)]; simp only [go_sem, zwl, Nat.reduceAdd, Nat.reduceMul, Nat.reduceEqDiff, Nat.reduceLT, Int.reduceToNat, reduceIte, reduceCtorEq]; (repeat' (first | rfl | refine And.intro ?_ ?_ | omega | exact fun h => h | exact Exists.intro _ rfl))) (by simp) (by simp) (by omega)) fun i hi K' hL => ?_
    obtain ⟨hi1, hi2⟩ := hi
    by_cases hib : i = b
    · subst hib
      have e1 : decide ((i : Int) < (i : Int)) = false := by simp
      (have zx := e1); refine zgo ?_; repeat' first | exact zt | apply zan | intro hc
      all_goals first | (refine xF _ rfl rfl (by simp only [go_sem, Nat.reduceEqDiff, Nat.reduceAdd, reduceIte, reduceCtorEq]) ?_ <;> first | rfl | (simp; done)) | trace_state
    · have e1 : decide ((i : Int) < (b : Int)) = true := by simp; omega
      have hwi := Qr (k := i) (by omega)
      obtain ⟨x, hget⟩ : ∃ x, xs[i]? = some x := ⟨_, List.getElem?_eq_getElem (by omega)⟩
      have hxm : x ∈ xs := List.mem_of_getElem? hget
      have hdx : xs.drop i = x :: xs.drop (i + 1) := by
        rw [List.drop_eq_getElem_cons (by omega)]; congr 1
        rw [List.getElem?_eq_getElem (by omega)] at hget; exact Option.some.inj hget
      have hP : (xs.take a).length = a := by simp; omega
      have hS : (Vh lt ((xs.take i).drop a)).length = i - a := by rw [acZ]; simp; omega
      have hSm : ∀ y ∈ Vh lt ((xs.take i).drop a), y ∈ xs := fun y hy => List.mem_of_mem_take (List.mem_of_mem_drop (ajB.1 hy))
      have hnext : wZ lt xs a (i + 1) = xs.take a ++ (aip lt (Vh lt ((xs.take i).drop a)) x ++ xs.drop (i + 1)) := by
        have : (xs.take (i + 1)).drop a = (xs.take i).drop a ++ [x] := by
          rw [List.take_add_one, hget, List.drop_append_of_le_length (by simp; omega)]; rfl
        rw [wZ, this, Vh, List.foldl_append]; rfl
      have hnow : wZ lt xs a i = Vs (xs.take a) (Vh lt ((xs.take i).drop a)) x (xs.drop (i + 1)) (i - a) := by
        rw [wZ, hdx, Vs, ← hS, List.take_length, List.drop_length]; rfl
      rw [hnow]
      generalize Vh lt ((xs.take i).drop a) = S at *
      have hPg := hP
      generalize xs.take a = P at *
      have hR : (xs.drop (i + 1)).length = xs.length - (i + 1) := List.length_drop
      generalize xs.drop (i + 1) = R at *
      (have zx := e1); refine zgo ?_; repeat' first | exact zt | apply zan | intro hc
      refine QH (ι := Nat) (fun q => q ≤ i - a ∧ gK lt S x q = gK lt S x S.length) (fun q => Wo [(0, .hd 0 0 (xs.map Qi.v).length), (1, V.int a), (2, V.int b), (3, .clo g []), (8, V.int i), (9, V.int (a + q : Nat))] [(0, .buf true 8 ((Vs P S x R q).map Qi.v))] 1) (fun q => q) (i - a) ⟨by omega, by rw [hS]⟩ (Ql []) (Qu [] (by rw [show a + (i - a) = i by omega]; simp only [go_sem, zwl, Nat.reduceAdd, Nat.reduceMul, Nat.reduceEqDiff, Nat.reduceLT, Int.reduceToNat, reduceIte, reduceCtorEq]; (repeat' (first | rfl | refine And.intro ?_ ?_ | omega | exact fun h => h | exact Exists.intro _ rfl))) zwa (by simp) (by simp) (by omega)) fun q hq K'' hL2 => ?_
      obtain ⟨hq1, hq2⟩ := hq
      have hfin : gK lt S x S.length = q → Vs P S x R q = wZ lt xs a (i + 1) := by
        intro h
        rw [hnext, aip, h]; simp only [Vs, List.append_assoc, List.singleton_append, List.cons_append, List.nil_append]
      have hlen : (Vs P S x R q).length = xs.length := by rw [ajz, hP, hS, hR]; omega
      have gx := aoc (P := P) (R := R) (x := x) (q := q) (S := S) (by omega)
      rw [hP] at gx
      rcases q with _ | q
      · have e2 : decide (((a + 0 : Nat) : Int) > (a : Int)) = false := by simp
        have hf := hfin hq2.symm
        (have zx := And.intro e2 hwi); refine zgo ?_; repeat' first | exact zt | apply zan | intro hc
        rw [hf]
        exact hL _ (i + 1) (Ql []) ⟨by omega, by omega⟩ (by omega) (zwg [])
      · have hqS : q < S.length := by omega
        have e2 : decide (((a + (q + 1) : Nat) : Int) > (a : Int)) = true := decide_eq_true (by omega)
        have hwj : IntKind.i64.wrap (((a + (q + 1) : Nat) : Int) - 1) = ((a + q : Nat) : Int) := by rw [Ym (by omega) (by omega)]; omega
        have gy := aob (P := P) (R := R) (x := x) (q := q) (S := S) hqS
        rw [hP] at gy
        have hset := ajy (P := P) (R := R) (x := x) (q := q) (S := S) hqS
        rw [hP] at hset
        have hyd : S[q]? = some S[q] := List.getElem?_eq_getElem hqS
        have hym : S[q] ∈ xs := hSm _ (List.getElem_mem hqS)
        rw [gK, hyd] at hq2
        dsimp only at hq2
        generalize S[q] = y at *
        have hcc := (hcmp x hxm y hym).b
        have hd := hlt2 x y
        have vx : (List.map Qi.v (Vs P S x R (q + 1)))[a + (q + 1)]? = some (Qi.v x) := by rw [List.getElem?_map, gx]; rfl
        have vy : (List.map Qi.v (Vs P S x R (q + 1)))[a + q]? = some (Qi.v y) := by rw [List.getElem?_map, gy]; rfl
        have hs1 : ((List.map Qi.v (Vs P S x R (q + 1))).set (a + (q + 1)) (Qi.v y))[a + q]? = some (Qi.v y) := by
          rw [List.getElem?_set_ne (by omega), List.getElem?_map, gy]; rfl
        have hs2 : ((List.map Qi.v (Vs P S x R (q + 1))).set (a + (q + 1)) (Qi.v y)).set (a + q) (Qi.v x) = List.map Qi.v (Vs P S x R q) := by
          rw [← hset, List.map_set, List.map_set]
        simp only [Qi.v, Qi.cells] at vx vy hs1 hs2 hcc
        rcases hl : lt x y with _ | _
        · rw [hl] at hd
          simp only [hl, Bool.false_eq_true, if_false] at hq2
          have hf := hfin hq2.symm
          (have zx := And.intro e2 (And.intro hwi (And.intro hwj (And.intro vx (And.intro vy hd))))); refine zgo ?_; repeat' first | exact zt | apply zan | intro hc
          all_goals
            rw [hf]
            exact hL _ (i + 1) (Ql []) ⟨by omega, by omega⟩ (by omega) (zwg [])
        · rw [hl] at hd
          simp only [hl, if_true] at hq2
          (have zx := And.intro e2 (And.intro hwi (And.intro hwj (And.intro vx (And.intro vy (And.intro hd (And.intro hs1 hs2))))))); refine zgo ?_; repeat' first | exact zt | apply zan | intro hc
          all_goals exact hL2 _ q (Ql []) ⟨by omega, hq2⟩ (by omega) (zwg [])
def XH : List AO := [mv 81 1, bc 82 .gtr 81 (V.int 0), mv 83 82, mg 84 4 83 true, mg 85 0 83 true, mg 86 1 83 true, xg 87 (.bin .sub (.t 86) (.c (V.int 1))) 83 true, xg 88 (.iaddr 8 (.t 85) (.t 87)) 83 true, xg 89 (.load true 8 (.t 88)) 83 true, mg 90 0 83 true, mg 91 13 83 true, xg 92 (.iaddr 8 (.t 90) (.t 91)) 83 true, xg 93 (.load true 8 (.t 92)) 83 true, xg 94 (.callv (.t 84) [(.t 89), (.t 93)]) 83 true, xg 95 (.bin .lss (.t 94) (.c (V.int 0))) 83 true, xg 96 (.un .not (.t 95)) 83 true, xo 97 (.pick (.t 83) (.t 96) (.c (V.bool false)))]
def XI : List (List Nat) := [[], [0], [1], [2], [2], [2], [5, 2], [4, 6, 2], [7, 2], [2], [2], [9, 10, 2], [11, 2], [3, 8, 12, 2, 2], [13, 2], [14, 2], [2, 15]]
def XF : OT := .one 0 (.one 1 (.one 2 (.one 3 (.one 4 (.one 5 (.one 6 (.one 7 (.one 8 (.one 9 (.one 10 (.one 11 (.one 12 (.one 13 (.one 14 (.one 15 (.one 16 .done))))))))))))))))
@[go_sem] def XG : OP := oN 0 (mv 81 1) (oN 1 (bc 82 .gtr 81 (V.int 0)) (oN 2 (mv 83 82) (oN 3 (mg 84 4 83 true) (oN 4 (mg 85 0 83 true) (oN 5 (mg 86 1 83 true) (oN 6 (xg 87 (.bin .sub (.t 86) (.c (V.int 1))) 83 true) (oN 7 (xg 88 (.iaddr 8 (.t 85) (.t 87)) 83 true) (oN 8 (xg 89 (.load true 8 (.t 88)) 83 true) (oN 9 (mg 90 0 83 true) (oN 10 (mg 91 13 83 true) (oN 11 (xg 92 (.iaddr 8 (.t 90) (.t 91)) 83 true) (oN 12 (xg 93 (.load true 8 (.t 92)) 83 true) (.one 13 true [] (xg 94 (.callv (.t 84) [(.t 89), (.t 93)]) 83 true) (oN 14 (xg 95 (.bin .lss (.t 94) (.c (V.int 0))) 83 true) (oN 15 (xg 96 (.un .not (.t 95)) 83 true) (oN 16 (xo 97 (.pick (.t 83) (.t 96) (.c (V.bool false)))) .done))))))))))))))))
instance : RG [13] XF (XG) (XH) XI 17 (fun _ => true) := ⟨rfl, by kernel_rfl, by kernel_rfl⟩
def YC (QE Yo JA JZ JQ Q0 Js Yf Qy : Nat) : AC := Qb [0, 1, 2, 3, 4, 10] (.reg [mc 10 (V.bool true)]) (Qb [0, 1, 2, 3, 4, 10, 11] (.reg [mc 11 (V.bool true)]) (.block 0 (Y6 [0, 1, 2, 3, 4, 10, 11] (.block 1 (Qb [0, 1, 2, 3, 4, 10, 11, 12] (.reg [mv 21 2, mv 22 1, bn 23 .sub 21 22, mv 12 23]) (Qb [0, 1, 2, 3, 4, 10, 11, 12] (Qb [0, 1, 2, 3, 4, 10, 11, 12, 25] (.reg [mv 24 12, bc 25 .leq 24 (V.int 12)]) (.cond (.t 25) (Qb [] (.reg [mv 26 0, mv 27 1, mv 28 2, mv 29 4, cl 30 QE [26, 27, 28, 29]]) .ret) .skip)) (Qb [0, 1, 2, 3, 4, 10, 11, 12] (Qb [0, 1, 2, 3, 4, 10, 11, 12, 32] (.reg [mv 31 3, bc 32 .eql 31 (V.int 0)]) (.cond (.t 32) (Qb [] (.reg [mv 33 0, mv 34 1, mv 35 2, mv 36 4, cl 37 Yo [33, 34, 35, 36]]) .ret) .skip)) (Qb [0, 1, 2, 3, 4, 10, 11, 12] (Qb [0, 1, 2, 3, 4, 10, 11, 12, 39] (.reg [mv 38 10, xo 39 (.un .not (.t 38))]) (.cond (.t 39) (Qb [0, 1, 2, 3, 4, 10, 11, 12] (.reg [mv 40 0, mv 41 1, mv 42 2, mv 43 4, cl 44 JA [40, 41, 42, 43]]) (.reg [mv 45 3, bc 46 .sub 45 (V.int 1), mv 3 46])) .skip)) (Qb [0, 1, 2, 3, 4, 10, 11, 12, 13, 14] (.reg [mv 48 0, mv 49 1, mv 50 2, mv 51 4, cl 52 JZ [48, 49, 50, 51], mv 47 52, ex 53 47 0, ex 54 47 1, mv 13 53, mv 14 54]) (Qb [0, 1, 2, 3, 4, 10, 11, 12, 13, 14] (Qb [0, 1, 2, 3, 4, 10, 11, 12, 13, 14, 56] (.reg [mv 55 14, bc 56 .eql 55 (V.int 2)]) (.cond (.t 56) (Qb [0, 1, 2, 3, 4, 10, 11, 12, 13] (.reg [mv 57 0, mv 58 1, mv 59 2, mv 60 4, cl 61 JQ [57, 58, 59, 60]]) (Qb [0, 1, 2, 3, 4, 10, 11, 12, 13] (.reg [mv 62 2, bc 63 .sub 62 (V.int 1), mv 64 13, mv 65 1, bn 66 .sub 64 65, bn 67 .sub 63 66, mv 13 67]) (.reg [mc 14 (V.int 1)]))) .skip)) (Qb [0, 1, 2, 3, 4, 10, 11, 12, 13] (Qb [0, 1, 2, 3, 4, 10, 11, 12, 13, 75] (.reg [mv 68 10, mv 69 68, mg 70 11 69 true, xo 71 (.pick (.t 69) (.t 70) (.c (V.bool false))), mv 72 71, mg 73 14 72 true, xg 74 (.bin .eql (.t 73) (.c (V.int 1))) 72 true, xo 75 (.pick (.t 72) (.t 74) (.c (V.bool false)))]) (.cond (.t 75) (Qb [0, 1, 2, 3, 4, 10, 11, 12, 13, 80] (.reg [mv 76 0, mv 77 1, mv 78 2, mv 79 4, cl 80 Q0 [76, 77, 78, 79]]) (.cond (.t 80) .ret .skip)) .skip)) (Qb [0, 1, 2, 3, 4, 12, 13] (Qb [0, 1, 2, 3, 4, 10, 11, 12, 13, 97] (wP [13] XF (XG) (XH) XI) (.cond (.t 97) (Qb [0, 2, 3, 4, 10, 11, 15] (.reg [mv 98 0, mv 99 1, mv 100 2, mv 101 13, mv 102 4, cl 103 Js [98, 99, 100, 101, 102], mv 15 103]) (Qb [0, 1, 2, 3, 4, 10, 11] (.reg [mv 104 15, mv 1 104]) (.exit 1))) .skip)) (Qb [0, 1, 2, 3, 4, 12, 16, 17] (.reg [mv 106 0, mv 107 1, mv 108 2, mv 109 13, mv 110 4, cl 111 Yf [106, 107, 108, 109, 110], mv 105 111, ex 112 105 0, ex 113 105 1, mv 16 112, mv 17 113]) (Qb [0, 1, 2, 3, 4, 11, 12, 16] (.reg [mv 114 17, mv 11 114]) (Qb [0, 1, 2, 3, 4, 11, 12, 16, 18, 19] (.reg [mv 115 16, mv 116 1, bn 117 .sub 115 116, mv 118 2, mv 119 16, bn 120 .sub 118 119, mv 18 117, mv 19 120]) (Qb [0, 1, 2, 3, 4, 11, 16, 18, 19, 20] (.reg [mv 121 12, bc 122 .quo 121 (V.int 8), mv 20 122]) (Qb [0, 1, 2, 3, 4, 11, 16, 18, 19, 20, 125] (.reg [mv 123 18, mv 124 19, bn 125 .lss 123 124]) (.cond (.t 125) (Qb [0, 1, 2, 3, 4, 10, 11, 16] (.reg [mv 126 18, mv 127 20, bn 128 .geq 126 127, mv 10 128]) (Qb [0, 2, 3, 4, 10, 11, 16] (.reg [mv 129 0, mv 130 1, mv 131 16, mv 132 3, mv 133 4, cl 134 Qy [129, 130, 131, 132, 133]]) (.reg [mv 135 16, bc 136 .add 135 (V.int 1), mv 1 136]))) (Qb [0, 1, 2, 3, 4, 10, 11, 16] (.reg [mv 137 19, mv 138 20, bn 139 .geq 137 138, mv 10 139]) (Qb [0, 1, 3, 4, 10, 11, 16] (.reg [mv 140 0, mv 141 16, bc 142 .add 141 (V.int 1), mv 143 2, mv 144 3, mv 145 4, cl 146 Qy [140, 142, 143, 144, 145]]) (.reg [mv 147 16, mv 2 147]))))))))))))))))))))) def r_slices_pdqsortCmpFunc_api_Fact : List Jf := []
def Yu (Γ : Env) (f : Nat) : Prop := ∀ (xs : List Qi) (lim : Int) (g : Nat) (c : Qi → Qi → Int) (hcmp : ∀ x ∈ xs, ∀ y ∈ xs, EvN Γ g [Qi.v x, Qi.v y] (V.int (c x y))) (hx : xs.length ≤ 12), EvL Γ f [V.int 0, V.int xs.length, V.int lim, .clo g []] 8 (xs.map Qi.v) (.tup []) (((Vh (fun x y => decide (c x y < 0)) xs).map Qi.v))
theorem Kb {Γ : Env} {f QE Yo JA JZ JQ Q0 Js Yf : Nat} (h : Has Γ.P f 148 (YC QE Yo JA JZ JQ Q0 Js Yf f) r_slices_pdqsortCmpFunc_api_Fact) (z0 : Ju Γ QE) : Yu Γ f := by
  intro xs lim g c hcmp hx
  refine KY h (by simp) (by simp only [V.closed, Qh, V.noSl, yX, and_self, and_true, true_and]) fun C hC hm => ?_
  subst hC
  unfold YC
  have hi := z0 xs 0 xs.length g c hcmp (by omega) (by omega) (by omega)
  rw [alC] at hi
  have hi0 : EvL C.env QE [V.int 0, V.int xs.length, .clo g []] 8 (xs.map Qi.v) (.tup []) ((Vh (fun x y => decide (c x y < 0)) xs).map Qi.v) := hi
  have hw : IntKind.i64.wrap ((xs.length : Int) - 0) = (xs.length : Int) := by rw [Ym (by omega) (by omega)]; omega
  have e1 : decide ((xs.length : Int) ≤ 12) = true := by simp; omega
  refine zgo ?_; repeat' first | exact zt | apply zan | intro hc
  refine alW ?_
  (have zx := And.intro hw e1); refine zgo ?_; repeat' first | exact zt | apply zan | intro hc
  all_goals first | (refine xF _ rfl rfl (by simp only [go_sem, Nat.reduceEqDiff, Nat.reduceAdd, reduceIte, reduceCtorEq]) ?_; done) | (refine xF _ rfl rfl (by simp only [go_sem, Nat.reduceEqDiff, Nat.reduceAdd, reduceIte, reduceCtorEq]) ?_; rfl) | (refine xF _ rfl rfl (by simp only [go_sem, Nat.reduceEqDiff, Nat.reduceAdd, reduceIte, reduceCtorEq]) ?_ <;> first | rfl | (simp; done)) | trace_state
def JT (Yr Qy : Nat) : AC := Qb [0, 1, 4] (.reg [mv 5 0, ln 6 5, mv 4 6]) (.reg [mv 7 0, mv 8 4, mv 9 4, xo 10 (.convI .u64 (.t 9)), cl 11 Yr [10], mv 12 1, xo 13 (.call Qy [(.t 7), (.c (V.int 0)), (.t 8), (.t 11), (.t 12)])]) def r_slices_SortFunc___api_Fact_api_Fact : List Jf := []
def JO (Γ : Env) (f : Nat) : Prop := ∀ (xs : List Qi) (g : Nat) (c : Qi → Qi → Int) (hcmp : ∀ x ∈ xs, ∀ y ∈ xs, EvN Γ g [Qi.v x, Qi.v y] (V.int (c x y))) (hx : xs.length ≤ 12), EvL Γ f [.clo g []] 8 (xs.map Qi.v) (.tup []) (((Vh (fun x y => decide (c x y < 0)) xs).map Qi.v))
theorem VD {Γ : Env} {f Yr Qy : Nat} (h : Has Γ.P f 14 (JT Yr Qy) r_slices_SortFunc___api_Fact_api_Fact) (z0 : WL Γ Yr) (z1 : Yu Γ Qy) : JO Γ f := by
  intro xs g c hcmp hx
  refine KY h (by simp) (by simp only [V.closed, Qh, V.noSl, yX, and_self, and_true, true_and]) fun C hC hm => ?_
  subst hC
  unfold JT
  obtain ⟨lim, hlim⟩ := ah3 z0 xs.length hx
  have hi := z1 xs lim g c hcmp hx
  have e : ((xs.map Qi.v).length : Int) = (xs.length : Int) := by simp
  have hb := hlim.b
  have hw : IntKind.u64.wrap (xs.length : Int) = (xs.length : Int) := alb (by omega) (by omega)
  (have zx := And.intro e hw); refine zgo ?_; repeat' first | exact zt | apply zan | intro hc
  all_goals first | (refine xF _ rfl rfl (by simp only [go_sem, Nat.reduceEqDiff, Nat.reduceAdd, reduceIte, reduceCtorEq]) ?_; done) | (refine xF _ rfl rfl (by simp only [go_sem, Nat.reduceEqDiff, Nat.reduceAdd, reduceIte, reduceCtorEq]) ?_; rfl) | trace_state
def Xx (Qn : Nat) : List AO := [mv 16 7, mv 17 1, bn 18 .gtr 16 17, mv 19 18, mg 20 0 19 true, mg 21 7 19 true, xg 22 (.iaddr 1 (.t 20) (.t 21)) 19 true, xg 23 (.load false 1 (.t 22)) 19 true, mg 24 0 19 true, mg 25 7 19 true, xg 26 (.bin .sub (.t 25) (.c (V.int 1))) 19 true, xg 27 (.iaddr 1 (.t 24) (.t 26)) 19 true, xg 28 (.load false 1 (.t 27)) 19 true, xg 29 (.call Qn [(.t 23), (.t 28)]) 19 true, xo 30 (.pick (.t 19) (.t 29) (.c (V.bool false)))]
def XD : List (List Nat) := [[], [], [0, 1], [2], [3], [3], [4, 5, 3], [6, 3], [3], [3], [9, 3], [8, 10, 3], [11, 3], [7, 12, 3, 3], [3, 13]]
def Xr : OT := .one 0 (.one 1 (.one 2 (.one 3 (.one 4 (.one 5 (.one 6 (.one 7 (.one 8 (.one 9 (.one 10 (.one 11 (.one 12 (.one 13 (.one 14 .done))))))))))))))
@[go_sem] def Xu (Qn : Nat) : OP := oN 0 (mv 16 7) (oN 1 (mv 17 1) (oN 2 (bn 18 .gtr 16 17) (oN 3 (mv 19 18) (oN 4 (mg 20 0 19 true) (oN 5 (mg 21 7 19 true) (oN 6 (xg 22 (.iaddr 1 (.t 20) (.t 21)) 19 true) (oN 7 (xg 23 (.load false 1 (.t 22)) 19 true) (oN 8 (mg 24 0 19 true) (oN 9 (mg 25 7 19 true) (oN 10 (xg 26 (.bin .sub (.t 25) (.c (V.int 1))) 19 true) (oN 11 (xg 27 (.iaddr 1 (.t 24) (.t 26)) 19 true) (oN 12 (xg 28 (.load false 1 (.t 27)) 19 true) (oN 13 (xg 29 (.call Qn [(.t 23), (.t 28)]) 19 true) (oN 14 (xo 30 (.pick (.t 19) (.t 29) (.c (V.bool false)))) .done))))))))))))))
instance (Qn : Nat) : RG [] Xr (Xu Qn) (Xx Qn) XD 15 (fun _ => true) := ⟨rfl, by kernel_rfl, by kernel_rfl⟩
def Xw : List AO := [mv 33 0, mv 34 7, mv 35 0, mv 36 7, bc 37 .sub 36 (V.int 1), mv 38 0, mv 39 7, bc 40 .sub 39 (V.int 1), ia 41 1 38 40, ld 42 1 41, mv 43 0, mv 44 7, ia 45 1 43 44, ld 46 1 45, ia 47 1 33 34, xs 1 47 42, ia 48 1 35 37, xs 1 48 46]
def XC : List (List Nat) := [[], [], [], [], [3], [], [], [6], [5, 7], [8], [], [], [10, 11], [12], [0, 1, 0, 1, 5, 6, 7, 8, 9, 13], [14, 9, 0, 1, 5, 6, 7, 8, 9, 13], [2, 4, 0, 1, 2, 3, 4, 5, 6, 7, 8, 9, 10, 11, 12, 13, 14, 15], [16, 13, 15, 0, 1, 2, 3, 4, 5, 6, 7, 8, 9, 10, 11, 12, 13, 14, 15]]
def Xq : OT := .one 0 (.one 1 (.one 2 (.one 3 (.one 4 (.one 5 (.one 6 (.one 7 (.one 10 (.one 11 (.or 8 (.or 9 (.one 12 (.one 13 (.one 14 (.one 15 (.one 16 (.one 17 .done)))))) (.or 12 (.or 9 (.one 13 (.one 14 (.one 15 (.one 16 (.one 17 .done))))) (.or 13 (.one 9 (.one 14 (.one 15 (.one 16 (.one 17 .done))))) .done)) .done)) (.or 12 (.or 8 (.or 9 (.one 13 (.one 14 (.one 15 (.one 16 (.one 17 .done))))) (.or 13 (.one 9 (.one 14 (.one 15 (.one 16 (.one 17 .done))))) .done)) (.or 13 (.one 8 (.one 9 (.one 14 (.one 15 (.one 16 (.one 17 .done)))))) .done)) .done)))))))))))
@[go_sem] def Xe : OP := .one 14 true [] (ia 47 1 33 34) (.one 15 true [] (xs 1 47 42) (.one 16 true [] (ia 48 1 35 37) (.one 17 true [] (xs 1 48 46) .done)))
@[go_sem] def Xd : OP := .one 13 true [] (ld 46 1 45) Xe
@[go_sem] def Xc : OP := .one 9 true [] (ld 42 1 41) Xe
@[go_sem] def Xb : OP := .or 9 true [] (ld 42 1 41) Xd (.or 13 true [] (ld 46 1 45) Xc .done)
@[go_sem] def Xt : OP := oN 0 (mv 33 0) (oN 1 (mv 34 7) (oN 2 (mv 35 0) (oN 3 (mv 36 7) (oN 4 (bc 37 .sub 36 (V.int 1)) (oN 5 (mv 38 0) (oN 6 (mv 39 7) (oN 7 (bc 40 .sub 39 (V.int 1)) (oN 10 (mv 43 0) (oN 11 (mv 44 7) (.or 8 true [] (ia 41 1 38 40) (.or 9 true [] (ld 42 1 41) (.one 12 true [] (ia 45 1 43 44) Xd) (.or 12 true [] (ia 45 1 43 44) Xb .done)) (.or 12 true [] (ia 45 1 43 44) (.or 8 true [] (ia 41 1 38 40) Xb (.or 13 true [] (ld 46 1 45) (.one 8 true [] (ia 41 1 38 40) Xc) .done)) .done)))))))))))
instance : RG [8, 9, 12, 13, 14, 16] Xq (Xt) (Xw) XC 18 (fun _ => false) := ⟨rfl, by kernel_rfl, by kernel_rfl⟩
def Ys (Qn : Nat) : AC := Qb [0, 1, 2, 6] (.reg [mv 8 1, bc 9 .add 8 (V.int 1), mv 6 9]) (.block 0 (Y6 [0, 1, 2, 6] (Qb [0, 1, 2, 6] (Qb [0, 1, 2, 6, 12] (.reg [mv 10 6, mv 11 2, bn 12 .lss 10 11]) (.cond (.t 12) .skip (.exit 0))) (Qb [0, 1, 2, 6] (.block 1 (Qb [0, 1, 2, 6, 7] (.reg [mv 15 6, mv 7 15]) (.block 2 (Y6 [0, 1, 2, 6, 7] (Qb [0, 1, 2, 6, 7] (Qb [0, 1, 2, 6, 7, 30] (wP [] Xr (Xu Qn) (Xx Qn) XD) (.cond (.t 30) .skip (.exit 2))) (Qb [0, 1, 2, 6, 7] (.block 3 (wP [8, 9, 12, 13, 14, 16] Xq (Xt) (Xw) XC)) (.reg [mv 31 7, bc 32 .sub 31 (V.int 1), mv 7 32]))))))) (.reg [mv 13 6, bc 14 .add 13 (V.int 1), mv 6 14]))))) def r_slices_insertionSortOrdered_int : List Jf := []
def Yh (Γ : Env) (f : Nat) : Prop := ∀ (xs : List Int) (a b : Nat) (hab : a ≤ b) (hb : b ≤ xs.length) (hx : xs.length < 2 ^ 34), EvL Γ f [V.int a, V.int b] 1 (xs.map V.int) (.tup []) ((if a = b then xs.map V.int else (wZ (fun x y : Int => decide (x < y)) xs a b).map V.int))
attribute [local go_sem] Wo in
theorem UU {Γ : Env} {f Qn : Nat} (h : Has Γ.P f 49 (Ys Qn) r_slices_insertionSortOrdered_int) (z0 : Vq Γ Qn) : Yh Γ f := by
  intro xs a b hab hb hx
  refine KY h (by simp) (by simp only [V.closed, Qh, V.noSl, yX, and_self, and_true, true_and]) fun C hC hm => ?_
  subst hC
  unfold Ys
  have hwa := Qr (k := a) (by omega)
  by_cases he : a = b
  · subst he
    rw [if_pos rfl]
    have e1 : decide (((a + 1 : Nat) : Int) < (a : Int)) = false := by simp; omega
    (have zx := hwa); refine zgo ?_; repeat' first | exact zt | apply zan | intro hc
    refine QH (ι := Unit) (fun _ => True) (fun _ => Wo [(0, .hd 0 0 (xs.map V.int).length), (1, V.int a), (2, V.int a), (6, V.int (a + 1 : Nat))] [(0, .buf true 1 (xs.map V.int))] 1) (fun _ => 0) () trivial (Ql []) (zwg []) fun j hj K'' hL2 => ?_
    (have zx := e1); refine zgo ?_; repeat' first | exact zt | apply zan | intro hc
    all_goals first | (refine xF _ rfl rfl (by simp only [go_sem, Nat.reduceEqDiff, Nat.reduceAdd, reduceIte, reduceCtorEq]) ?_ <;> first | rfl | (simp; done)) | trace_state
  · rw [if_neg he]
    (have zx := hwa); refine zgo ?_; repeat' first | exact zt | apply zan | intro hc
    generalize hlt : (fun x y : Int => decide (x < y)) = lt
    have hlt2 : ∀ x y : Int, decide (x < y) = lt x y := by intro x y; rw [← hlt]
    refine QH (ι := Nat) (fun i => a + 1 ≤ i ∧ i ≤ b) (fun i => Wo [(0, .hd 0 0 (xs.map V.int).length), (1, V.int a), (2, V.int b), (6, V.int i)] [(0, .buf true 1 ((wZ lt xs a i).map V.int))] 1) (fun i => b - i) (a + 1) ⟨by omega, by omega⟩ (Ql []) (Qu [] zwa (by rw [ajC (by omega)]; simp only [go_sem, zwl, Nat.reduceAdd, Nat.reduceMul, Nat.reduceEqDiff, Nat.reduceLT, Int.reduceToNat, reduceIte, reduceCtorEq]; (repeat' (first | rfl | refine And.intro ?_ ?_ | omega | exact fun h => h | exact Exists.intro _ rfl))) (by simp) (by simp) (by omega)) fun i hi K' hL => ?_
    obtain ⟨hi1, hi2⟩ := hi
    by_cases hib : i = b
    · subst hib
      have e1 : decide ((i : Int) < (i : Int)) = false := by simp
      (have zx := e1); refine zgo ?_; repeat' first | exact zt | apply zan | intro hc
      all_goals first | (refine xF _ rfl rfl (by simp only [go_sem, Nat.reduceEqDiff, Nat.reduceAdd, reduceIte, reduceCtorEq]) ?_ <;> first | rfl | (simp; done)) | trace_state
    · have e1 : decide ((i : Int) < (b : Int)) = true := by simp; omega
      have hwi := Qr (k := i) (by omega)
      obtain ⟨x, hget⟩ : ∃ x, xs[i]? = some x := ⟨_, List.getElem?_eq_getElem (by omega)⟩
      have hxm : x ∈ xs := List.mem_of_getElem? hget
      have hdx : xs.drop i = x :: xs.drop (i + 1) := by
        rw [List.drop_eq_getElem_cons (by omega)]; congr 1
        rw [List.getElem?_eq_getElem (by omega)] at hget; exact Option.some.inj hget
      have hP : (xs.take a).length = a := by simp; omega
      have hS : (Vh lt ((xs.take i).drop a)).length = i - a := by rw [acZ]; simp; omega
      have hSm : ∀ y ∈ Vh lt ((xs.take i).drop a), y ∈ xs := fun y hy => List.mem_of_mem_take (List.mem_of_mem_drop (ajB.1 hy))
      have hnext : wZ lt xs a (i + 1) = xs.take a ++ (aip lt (Vh lt ((xs.take i).drop a)) x ++ xs.drop (i + 1)) := by
        have : (xs.take (i + 1)).drop a = (xs.take i).drop a ++ [x] := by
          rw [List.take_add_one, hget, List.drop_append_of_le_length (by simp; omega)]; rfl
        rw [wZ, this, Vh, List.foldl_append]; rfl
      have hnow : wZ lt xs a i = Vs (xs.take a) (Vh lt ((xs.take i).drop a)) x (xs.drop (i + 1)) (i - a) := by
        rw [wZ, hdx, Vs, ← hS, List.take_length, List.drop_length]; rfl
      rw [hnow]
      generalize Vh lt ((xs.take i).drop a) = S at *
      have hPg := hP
      generalize xs.take a = P at *
      have hR : (xs.drop (i + 1)).length = xs.length - (i + 1) := List.length_drop
      generalize xs.drop (i + 1) = R at *
      (have zx := e1); refine zgo ?_; repeat' first | exact zt | apply zan | intro hc
      refine QH (ι := Nat) (fun q => q ≤ i - a ∧ gK lt S x q = gK lt S x S.length) (fun q => Wo [(0, .hd 0 0 (xs.map V.int).length), (1, V.int a), (2, V.int b), (6, V.int i), (7, V.int (a + q : Nat))] [(0, .buf true 1 ((Vs P S x R q).map V.int))] 1) (fun q => q) (i - a) ⟨by omega, by rw [hS]⟩ (Ql []) (Qu [] (by rw [show a + (i - a) = i by omega]; simp only [go_sem, zwl, Nat.reduceAdd, Nat.reduceMul, Nat.reduceEqDiff, Nat.reduceLT, Int.reduceToNat, reduceIte, reduceCtorEq]; (repeat' (first | rfl | refine And.intro ?_ ?_ | omega | exact fun h => h | exact Exists.intro _ rfl))) zwa (by simp) (by simp) (by omega)) fun q hq K'' hL2 => ?_
      obtain ⟨hq1, hq2⟩ := hq
      have hfin : gK lt S x S.length = q → Vs P S x R q = wZ lt xs a (i + 1) := by
        intro h
        rw [hnext, aip, h]; simp only [Vs, List.append_assoc, List.singleton_append, List.cons_append, List.nil_append]
      have hlen : (Vs P S x R q).length = xs.length := by rw [ajz, hP, hS, hR]; omega
      have gx := aoc (P := P) (R := R) (x := x) (q := q) (S := S) (by omega)
      rw [hP] at gx
      rcases q with _ | q
      · have e2 : decide (((a + 0 : Nat) : Int) > (a : Int)) = false := by simp
        have hf := hfin hq2.symm
        (have zx := And.intro e2 hwi); refine zgo ?_; repeat' first | exact zt | apply zan | intro hc
        rw [hf]
        exact hL _ (i + 1) (Ql []) ⟨by omega, by omega⟩ (by omega) (zwg [])
      · have hqS : q < S.length := by omega
        have e2 : decide (((a + (q + 1) : Nat) : Int) > (a : Int)) = true := decide_eq_true (by omega)
        have hwj : IntKind.i64.wrap (((a + (q + 1) : Nat) : Int) - 1) = ((a + q : Nat) : Int) := by rw [Ym (by omega) (by omega)]; omega
        have gy := aob (P := P) (R := R) (x := x) (q := q) (S := S) hqS
        rw [hP] at gy
        have hset := ajy (P := P) (R := R) (x := x) (q := q) (S := S) hqS
        rw [hP] at hset
        have hyd : S[q]? = some S[q] := List.getElem?_eq_getElem hqS
        have hym : S[q] ∈ xs := hSm _ (List.getElem_mem hqS)
        rw [gK, hyd] at hq2
        dsimp only at hq2
        generalize S[q] = y at *
        have hcc := (z0 x y).b
        have hd := hlt2 x y
        have vx : (List.map V.int (Vs P S x R (q + 1)))[a + (q + 1)]? = some (V.int x) := by rw [List.getElem?_map, gx]; rfl
        have vy : (List.map V.int (Vs P S x R (q + 1)))[a + q]? = some (V.int y) := by rw [List.getElem?_map, gy]; rfl
        have hs1 : ((List.map V.int (Vs P S x R (q + 1))).set (a + (q + 1)) (V.int y))[a + q]? = some (V.int y) := by
          rw [List.getElem?_set_ne (by omega), List.getElem?_map, gy]; rfl
        have hs2 : ((List.map V.int (Vs P S x R (q + 1))).set (a + (q + 1)) (V.int y)).set (a + q) (V.int x) = List.map V.int (Vs P S x R q) := by
          rw [← hset, List.map_set, List.map_set]
        rcases hl : lt x y with _ | _
        · rw [hl] at hd
          simp only [hl, Bool.false_eq_true, if_false] at hq2
          have hf := hfin hq2.symm
          (have zx := And.intro e2 (And.intro hwi (And.intro hwj (And.intro vx (And.intro vy hd))))); refine zgo ?_; repeat' first | exact zt | apply zan | intro hc
          all_goals
            rw [hf]
            exact hL _ (i + 1) (Ql []) ⟨by omega, by omega⟩ (by omega) (zwg [])
        · rw [hl] at hd
          simp only [hl, if_true] at hq2
          (have zx := And.intro e2 (And.intro hwi (And.intro hwj (And.intro vx (And.intro vy (And.intro hd (And.intro hs1 hs2))))))); refine zgo ?_; repeat' first | exact zt | apply zan | intro hc
          all_goals exact hL2 _ q (Ql []) ⟨by omega, hq2⟩ (by omega) (zwg [])
def WE (Qn : Nat) : List AO := [mv 73 1, bc 74 .gtr 73 (V.int 0), mv 75 74, mg 76 0 75 true, mg 77 1 75 true, xg 78 (.bin .sub (.t 77) (.c (V.int 1))) 75 true, xg 79 (.iaddr 1 (.t 76) (.t 78)) 75 true, xg 80 (.load false 1 (.t 79)) 75 true, mg 81 0 75 true, mg 82 11 75 true, xg 83 (.iaddr 1 (.t 81) (.t 82)) 75 true, xg 84 (.load false 1 (.t 83)) 75 true, xg 85 (.call Qn [(.t 80), (.t 84)]) 75 true, xg 86 (.un .not (.t 85)) 75 true, xo 87 (.pick (.t 75) (.t 86) (.c (V.bool false)))]
def WK : List (List Nat) := [[], [0], [1], [2], [2], [4, 2], [3, 5, 2], [6, 2], [2], [2], [8, 9, 2], [10, 2], [7, 11, 2, 2], [12, 2], [2, 13]]
def Wy : OT := .one 0 (.one 1 (.one 2 (.one 3 (.one 4 (.one 5 (.one 6 (.one 7 (.one 8 (.one 9 (.one 10 (.one 11 (.one 12 (.one 13 (.one 14 .done))))))))))))))
@[go_sem] def WD (Qn : Nat) : OP := oN 0 (mv 73 1) (oN 1 (bc 74 .gtr 73 (V.int 0)) (oN 2 (mv 75 74) (oN 3 (mg 76 0 75 true) (oN 4 (mg 77 1 75 true) (oN 5 (xg 78 (.bin .sub (.t 77) (.c (V.int 1))) 75 true) (oN 6 (xg 79 (.iaddr 1 (.t 76) (.t 78)) 75 true) (oN 7 (xg 80 (.load false 1 (.t 79)) 75 true) (oN 8 (mg 81 0 75 true) (oN 9 (mg 82 11 75 true) (oN 10 (xg 83 (.iaddr 1 (.t 81) (.t 82)) 75 true) (oN 11 (xg 84 (.load false 1 (.t 83)) 75 true) (oN 12 (xg 85 (.call Qn [(.t 80), (.t 84)]) 75 true) (oN 13 (xg 86 (.un .not (.t 85)) 75 true) (oN 14 (xo 87 (.pick (.t 75) (.t 86) (.c (V.bool false)))) .done))))))))))))))
instance (Qn : Nat) : RG [] Wy (WD Qn) (WE Qn) WK 15 (fun _ => true) := ⟨rfl, by kernel_rfl, by kernel_rfl⟩
def XA (QR Xi Yp YF YB Jp Qn Ye Y7 QI : Nat) : AC := Qb [0, 1, 2, 3, 8] (.reg [mc 8 (V.bool true)]) (Qb [0, 1, 2, 3, 8, 9] (.reg [mc 9 (V.bool true)]) (.block 0 (Y6 [0, 1, 2, 3, 8, 9] (.block 1 (Qb [0, 1, 2, 3, 8, 9, 10] (.reg [mv 19 2, mv 20 1, bn 21 .sub 19 20, mv 10 21]) (Qb [0, 1, 2, 3, 8, 9, 10] (Qb [0, 1, 2, 3, 8, 9, 10, 23] (.reg [mv 22 10, bc 23 .leq 22 (V.int 12)]) (.cond (.t 23) (Qb [] (.reg [mv 24 0, mv 25 1, mv 26 2, cl 27 QR [24, 25, 26]]) .ret) .skip)) (Qb [0, 1, 2, 3, 8, 9, 10] (Qb [0, 1, 2, 3, 8, 9, 10, 29] (.reg [mv 28 3, bc 29 .eql 28 (V.int 0)]) (.cond (.t 29) (Qb [] (.reg [mv 30 0, mv 31 1, mv 32 2, cl 33 Xi [30, 31, 32]]) .ret) .skip)) (Qb [0, 1, 2, 3, 8, 9, 10] (Qb [0, 1, 2, 3, 8, 9, 10, 35] (.reg [mv 34 8, xo 35 (.un .not (.t 34))]) (.cond (.t 35) (Qb [0, 1, 2, 3, 8, 9, 10] (.reg [mv 36 0, mv 37 1, mv 38 2, cl 39 Yp [36, 37, 38]]) (.reg [mv 40 3, bc 41 .sub 40 (V.int 1), mv 3 41])) .skip)) (Qb [0, 1, 2, 3, 8, 9, 10, 11, 12] (.reg [mv 43 0, mv 44 1, mv 45 2, cl 46 YF [43, 44, 45], mv 42 46, ex 47 42 0, ex 48 42 1, mv 11 47, mv 12 48]) (Qb [0, 1, 2, 3, 8, 9, 10, 11, 12] (Qb [0, 1, 2, 3, 8, 9, 10, 11, 12, 50] (.reg [mv 49 12, bc 50 .eql 49 (V.int 2)]) (.cond (.t 50) (Qb [0, 1, 2, 3, 8, 9, 10, 11] (.reg [mv 51 0, mv 52 1, mv 53 2, cl 54 YB [51, 52, 53]]) (Qb [0, 1, 2, 3, 8, 9, 10, 11] (.reg [mv 55 2, bc 56 .sub 55 (V.int 1), mv 57 11, mv 58 1, bn 59 .sub 57 58, bn 60 .sub 56 59, mv 11 60]) (.reg [mc 12 (V.int 1)]))) .skip)) (Qb [0, 1, 2, 3, 8, 9, 10, 11] (Qb [0, 1, 2, 3, 8, 9, 10, 11, 68] (.reg [mv 61 8, mv 62 61, mg 63 9 62 true, xo 64 (.pick (.t 62) (.t 63) (.c (V.bool false))), mv 65 64, mg 66 12 65 true, xg 67 (.bin .eql (.t 66) (.c (V.int 1))) 65 true, xo 68 (.pick (.t 65) (.t 67) (.c (V.bool false)))]) (.cond (.t 68) (Qb [0, 1, 2, 3, 8, 9, 10, 11, 72] (.reg [mv 69 0, mv 70 1, mv 71 2, cl 72 Jp [69, 70, 71]]) (.cond (.t 72) .ret .skip)) .skip)) (Qb [0, 1, 2, 3, 10, 11] (Qb [0, 1, 2, 3, 8, 9, 10, 11, 87] (wP [] Wy (WD Qn) (WE Qn) WK) (.cond (.t 87) (Qb [0, 2, 3, 8, 9, 13] (.reg [mv 88 0, mv 89 1, mv 90 2, mv 91 11, cl 92 Ye [88, 89, 90, 91], mv 13 92]) (Qb [0, 1, 2, 3, 8, 9] (.reg [mv 93 13, mv 1 93]) (.exit 1))) .skip)) (Qb [0, 1, 2, 3, 10, 14, 15] (.reg [mv 95 0, mv 96 1, mv 97 2, mv 98 11, cl 99 Y7 [95, 96, 97, 98], mv 94 99, ex 100 94 0, ex 101 94 1, mv 14 100, mv 15 101]) (Qb [0, 1, 2, 3, 9, 10, 14] (.reg [mv 102 15, mv 9 102]) (Qb [0, 1, 2, 3, 9, 10, 14, 16, 17] (.reg [mv 103 14, mv 104 1, bn 105 .sub 103 104, mv 106 2, mv 107 14, bn 108 .sub 106 107, mv 16 105, mv 17 108]) (Qb [0, 1, 2, 3, 9, 14, 16, 17, 18] (.reg [mv 109 10, bc 110 .quo 109 (V.int 8), mv 18 110]) (Qb [0, 1, 2, 3, 9, 14, 16, 17, 18, 113] (.reg [mv 111 16, mv 112 17, bn 113 .lss 111 112]) (.cond (.t 113) (Qb [0, 1, 2, 3, 8, 9, 14] (.reg [mv 114 16, mv 115 18, bn 116 .geq 114 115, mv 8 116]) (Qb [0, 2, 3, 8, 9, 14] (.reg [mv 117 0, mv 118 1, mv 119 14, mv 120 3, cl 121 QI [117, 118, 119, 120]]) (.reg [mv 122 14, bc 123 .add 122 (V.int 1), mv 1 123]))) (Qb [0, 1, 2, 3, 8, 9, 14] (.reg [mv 124 17, mv 125 18, bn 126 .geq 124 125, mv 8 126]) (Qb [0, 1, 3, 8, 9, 14] (.reg [mv 127 0, mv 128 14, bc 129 .add 128 (V.int 1), mv 130 2, mv 131 3, cl 132 QI [127, 129, 130, 131]]) (.reg [mv 133 14, mv 2 133]))))))))))))))))))))) def r_slices_pdqsortOrdered_int : List Jf := []
def Xn (Γ : Env) (f : Nat) : Prop := ∀ (xs : List Int) (lim : Int) (hx : xs.length ≤ 12), EvL Γ f [V.int 0, V.int xs.length, V.int lim] 1 (xs.map V.int) (.tup []) (((Vh (fun x y : Int => decide (x < y)) xs).map V.int))
theorem jL {Γ : Env} {f QR Xi Yp YF YB Jp Qn Ye Y7 : Nat} (h : Has Γ.P f 134 (XA QR Xi Yp YF YB Jp Qn Ye Y7 f) r_slices_pdqsortOrdered_int) (z0 : Yh Γ QR) (z1 : Vq Γ Qn) : Xn Γ f := by
  intro xs lim hx
  refine KY h (by simp) (by simp only [V.closed, Qh, V.noSl, yX, and_self, and_true, true_and]) fun C hC hm => ?_
  subst hC
  unfold XA
  have hi := z0 xs 0 xs.length (by omega) (by omega) (by omega)
  rw [alC] at hi
  have hi0 : EvL C.env QR [V.int 0, V.int xs.length] 1 (xs.map V.int) (.tup []) ((Vh (fun x y : Int => decide (x < y)) xs).map V.int) := hi
  have hw : IntKind.i64.wrap ((xs.length : Int) - 0) = (xs.length : Int) := by rw [Ym (by omega) (by omega)]; omega
  have e1 : decide ((xs.length : Int) ≤ 12) = true := by simp; omega
  refine zgo ?_; repeat' first | exact zt | apply zan | intro hc
  refine alW ?_
  (have zx := And.intro hw e1); refine zgo ?_; repeat' first | exact zt | apply zan | intro hc
  all_goals first | (refine xF _ rfl rfl (by simp only [go_sem, Nat.reduceEqDiff, Nat.reduceAdd, reduceIte, reduceCtorEq]) ?_; done) | (refine xF _ rfl rfl (by simp only [go_sem, Nat.reduceEqDiff, Nat.reduceAdd, reduceIte, reduceCtorEq]) ?_; rfl) | (refine xF _ rfl rfl (by simp only [go_sem, Nat.reduceEqDiff, Nat.reduceAdd, reduceIte, reduceCtorEq]) ?_ <;> first | rfl | (simp; done)) | trace_state
def Ww (Yr QI : Nat) : AC := Qb [0, 2] (.reg [mv 3 0, ln 4 3, mv 2 4]) (.reg [mv 5 0, mv 6 2, mv 7 2, xo 8 (.convI .u64 (.t 7)), cl 9 Yr [8], xo 10 (.call QI [(.t 5), (.c (V.int 0)), (.t 6), (.t 9)])]) def r_slices_Sort___int_int : List Jf := []
def Wm (Γ : Env) (f : Nat) : Prop := ∀ (xs : List Int) (hx : xs.length ≤ 12), EvL Γ f [] 1 (xs.map V.int) (.tup []) (((Vh (fun x y : Int => decide (x < y)) xs).map V.int))
theorem wz {Γ : Env} {f Yr QI : Nat} (h : Has Γ.P f 11 (Ww Yr QI) r_slices_Sort___int_int) (z0 : WL Γ Yr) (z1 : Xn Γ QI) : Wm Γ f := by
  intro xs hx
  refine KY h (by simp) (by simp only [V.closed, Qh, V.noSl, yX, and_self, and_true, true_and]) fun C hC hm => ?_
  subst hC
  unfold Ww
  obtain ⟨lim, hlim⟩ := ah3 z0 xs.length hx
  have hi := z1 xs lim hx
  have e : ((xs.map V.int).length : Int) = (xs.length : Int) := by simp
  have hb := hlim.b
  have hw : IntKind.u64.wrap (xs.length : Int) = (xs.length : Int) := alb (by omega) (by omega)
  (have zx := And.intro e hw); refine zgo ?_; repeat' first | exact zt | apply zan | intro hc
  all_goals first | (refine xF _ rfl rfl (by simp only [go_sem, Nat.reduceEqDiff, Nat.reduceAdd, reduceIte, reduceCtorEq]) ?_; done) | (refine xF _ rfl rfl (by simp only [go_sem, Nat.reduceEqDiff, Nat.reduceAdd, reduceIte, reduceCtorEq]) ?_; rfl) | trace_state
section
variable {α : Type}
def agq (eq : α → α → Bool) : α → List α → List α
  | _, [] => []
  | p, x :: r => if eq x p = true then agq eq x r else x :: agq eq x r
def agr (eq : α → α → Bool) : List α → List α
  | [] => []
  | x :: r => x :: agq eq x r
end
def W1 : List AO := [mv 16 0, mv 17 3, ia 18 1 16 17, ld 19 1 18, mv 20 0, mv 21 3, bc 22 .sub 21 (V.int 1), ia 23 1 20 22, ld 24 1 23, bn 25 .eql 19 24]
def W7 : List (List Nat) := [[], [], [0, 1], [2], [], [], [5], [4, 6], [7], [3, 8]]
def WW : OT := .one 0 (.one 1 (.one 2 (.one 3 (.one 4 (.one 5 (.one 6 (.one 7 (.one 8 (.one 9 .done)))))))))
@[go_sem] def WY : OP := oN 0 (mv 16 0) (oN 1 (mv 17 3) (oN 2 (ia 18 1 16 17) (oN 3 (ld 19 1 18) (oN 4 (mv 20 0) (oN 5 (mv 21 3) (oN 6 (bc 22 .sub 21 (V.int 1)) (oN 7 (ia 23 1 20 22) (oN 8 (ld 24 1 23) (oN 9 (bn 25 .eql 19 24) .done)))))))))
instance : RG [] WW (WY) (W1) W7 10 (fun _ => true) := ⟨rfl, by kernel_rfl, by kernel_rfl⟩
def WZ : List AO := [mv 35 4, mv 36 5, ia 37 1 35 36, ld 38 1 37, mv 39 4, mv 40 5, bc 41 .sub 40 (V.int 1), ia 42 1 39 41, ld 43 1 42, bn 44 .neq 38 43]
def W6 : List (List Nat) := [[], [], [0, 1], [2], [], [], [5], [4, 6], [7], [3, 8]]
def WV : OT := .one 0 (.one 1 (.one 2 (.one 3 (.one 4 (.one 5 (.one 6 (.one 7 (.one 8 (.one 9 .done)))))))))
@[go_sem] def WX : OP := oN 0 (mv 35 4) (oN 1 (mv 36 5) (oN 2 (ia 37 1 35 36) (oN 3 (ld 38 1 37) (oN 4 (mv 39 4) (oN 5 (mv 40 5) (oN 6 (bc 41 .sub 40 (V.int 1)) (oN 7 (ia 42 1 39 41) (oN 8 (ld 43 1 42) (oN 9 (bn 44 .neq 38 43) .done)))))))))
instance : RG [] WV (WX) (WZ) W6 10 (fun _ => true) := ⟨rfl, by kernel_rfl, by kernel_rfl⟩
def XK : AC := Qb [0] (.reg [xo 2 (.mknil 1)]) (Qb [0] (Qb [0, 8] (.reg [mv 6 0, ln 7 6, bc 8 .lss 7 (V.int 2)]) (.cond (.t 8) (Qb [2] (.reg [mv 9 0, mv 2 9]) .ret) .skip)) (Qb [0] (Qb [0, 3] (.reg [mc 3 (V.int 1)]) (.block 0 (Y6 [0, 3] (Qb [0, 3] (Qb [0, 3, 13] (.reg [mv 10 3, mv 11 0, ln 12 11, bn 13 .lss 10 12]) (.cond (.t 13) .skip (.exit 0))) (Qb [0, 3] (.block 1 (Qb [0, 3, 25] (wP [] WW (WY) (W1) W7) (.cond (.t 25) (Qb [0, 3, 4] (.reg [mv 26 0, mv 27 3, xo 28 (.slsl 1 (.t 26) (some (.t 27)) none), mv 4 28]) (Qb [0, 3] (Qb [0, 3, 4, 5] (.reg [mc 5 (V.int 1)]) (.block 2 (Y6 [0, 3, 4, 5] (Qb [0, 3, 4, 5] (Qb [0, 3, 4, 5, 32] (.reg [mv 29 5, mv 30 4, ln 31 30, bn 32 .lss 29 31]) (.cond (.t 32) .skip (.exit 2))) (Qb [0, 3, 4, 5] (.block 3 (Qb [0, 3, 4, 5, 44] (wP [] WV (WX) (WZ) W6) (.cond (.t 44) (Qb [0, 3, 4, 5] (.reg [mv 45 0, mv 46 3, mv 47 4, mv 48 5, ia 49 1 47 48, ld 50 1 49, ia 51 1 45 46, xs 1 51 50]) (.reg [mv 52 3, bc 53 .add 52 (V.int 1), mv 3 53])) .skip))) (.reg [mv 33 5, bc 34 .add 33 (V.int 1), mv 5 34])))))) (Qb [0, 3] (.reg [mv 54 0, mv 55 3, xo 56 (.slsl 1 (.t 54) (some (.t 55)) none), ⟨none, .clrS 1 false [vi0] (.t 56), none⟩]) (Qb [2] (.reg [mv 57 0, mv 58 3, xo 59 (.slsl 1 (.t 57) none (some (.t 58))), mv 2 59]) .ret)))) .skip))) (.reg [mv 14 3, bc 15 .add 14 (V.int 1), mv 3 15])))))) (Qb [2] (.reg [mv 60 0, mv 2 60]) .ret))) def r_slices_Compact___int_int : List Jf := [.tmp 2]
def XE (Γ : Env) (f : Nat) : Prop := ∀ (xs : List Int) (hx : xs.length < 2 ^ 34), EvZ Γ f [] 1 (xs.map V.int) ((agr (fun x y : Int ↦ x == y) xs).length) ((agr (fun x y : Int ↦ x == y) xs).map V.int ++ List.replicate (xs.length - (agr (fun x y : Int ↦ x == y) xs).length) (V.int 0))
theorem yj {Γ : Env} {f : Nat} (h : Has Γ.P f 61 XK r_slices_Compact___int_int)  : XE Γ f := by
  intro xs hx
  refine agC h (by simp) fun C hC hm => ?_
  subst hC
  unfold XK
  have hlen : (xs.map V.int).length = xs.length := List.length_map _
  generalize heq : (fun x y : Int => x == y) = eq
  have heq2 : ∀ x y : Int, (x == y) = eq x y := fun x y => by rw [← heq]
  by_cases h2 : xs.length < 2
  · have e1 : decide (((xs.map V.int).length : Int) < 2) = true := decide_eq_true (by rw [hlen]; omega)
    have hg : agr eq xs = xs := by
      match xs, h2 with
      | [], _ => rfl
      | [x], _ => rfl
    rw [hg, Nat.sub_self]
    repeat' (first | (refine zsk ?_; intro K' hK) | (refine zrg ?_; intro K' hK) | refine zsp ?_ | (refine zsc ?_ ?_ <;> intro hc <;> first | exact znh | try simp only [znz] at hc) | simp (maxSteps := 1000000) only [go_sem, Nat.reduceAdd, Nat.reduceMul, Nat.reduceEqDiff, Nat.reduceLeDiff, Nat.reduceLT, Nat.reduceSub, Int.reduceEq, Int.reduceBEq, Int.reduceLT, Int.reduceLE, Int.reduceAdd, Int.reduceToNat, reduceIte, reduceCtorEq, e1] | (refine hK _ ?_; clear hK K') | apply zan | exact zsq | fail)
    all_goals first | (refine ajO _ rfl rfl rfl ?_ ?_ <;> first | rfl | (simp; done)) | trace_state
  · have e1 : decide (((xs.map V.int).length : Int) < 2) = false := decide_eq_false (by rw [hlen]; omega)
    repeat' (first | (refine zsk ?_; intro K' hK) | (refine zrg ?_; intro K' hK) | refine zsp ?_ | (refine zsc ?_ ?_ <;> intro hc <;> first | exact znh | try simp only [znz] at hc) | simp (maxSteps := 1000000) only [go_sem, Nat.reduceAdd, Nat.reduceMul, Nat.reduceEqDiff, Nat.reduceLeDiff, Nat.reduceLT, Nat.reduceSub, Int.reduceEq, Int.reduceBEq, Int.reduceLT, Int.reduceLE, Int.reduceAdd, Int.reduceToNat, reduceIte, reduceCtorEq, e1] | (refine hK _ ?_; clear hK K') | apply zan | exact zsq | fail)
    refine Y2 (ι := Nat) (fun k => 1 ≤ k ∧ k ≤ xs.length ∧ ∃ p, xs[k - 1]? = some p ∧ agr eq xs = xs.take k ++ agq eq p (xs.drop k)) (fun k => [(3, V.int k)]) (fun k => xs.length - k) 1 (by omega) ⟨by omega, by omega, ?_⟩ (by repeat' first | exact X2 | refine WM (by omega) (by simp only [Ob.lt, ltL, V.lt, and_self, and_true]; try omega) ?_) (fun i hi => by simp only [ovT, X0, Nat.reduceEqDiff, reduceIte]; (repeat' first | exact Ve | refine XO ?_ ?_ | simp only [V.lt, ltL, and_self, and_true] | omega)) zet fun k hk K' hL => ?_
    · match xs, h2 with
      | x :: r, _ => exact ⟨x, rfl, rfl⟩
      | [], h2 => exact absurd (by simp) h2
    obtain ⟨hk1, hk2, p, hp, hinv⟩ := hk
    simp only [ovT, X0, Nat.reduceEqDiff, reduceIte]
    by_cases hke : k = xs.length
    · have e2 : decide ((k : Int) < ((xs.map V.int).length : Int)) = false := decide_eq_false (by rw [hlen]; omega)
      have hg : agr eq xs = xs := by rw [hinv, hke, List.take_length, List.drop_length]; simp [agq]
      rw [hg, Nat.sub_self]
      repeat' (first | (refine zsk ?_; intro K' hK) | (refine zrg ?_; intro K' hK) | refine zsp ?_ | (refine zsc ?_ ?_ <;> intro hc <;> first | exact znh | try simp only [znz] at hc) | simp (maxSteps := 1000000) only [go_sem, Nat.reduceAdd, Nat.reduceMul, Nat.reduceEqDiff, Nat.reduceLeDiff, Nat.reduceLT, Nat.reduceSub, Int.reduceEq, Int.reduceBEq, Int.reduceLT, Int.reduceLE, Int.reduceAdd, Int.reduceToNat, reduceIte, reduceCtorEq, e2] | (refine hK _ ?_; clear hK K') | apply zan | exact zsq | fail)
      all_goals first | (refine ajO _ rfl rfl rfl ?_ ?_ <;> first | rfl | (simp; done)) | trace_state
    · have e2 : decide ((k : Int) < ((xs.map V.int).length : Int)) = true := decide_eq_true (by rw [hlen]; omega)
      obtain ⟨y, hy⟩ : ∃ y, xs[k]? = some y := ⟨_, List.getElem?_eq_getElem (by omega)⟩
      have hdy : xs.drop k = y :: xs.drop (k + 1) := by
        obtain ⟨h1, h2⟩ := List.getElem?_eq_some_iff.1 hy
        rw [List.drop_eq_getElem_cons h1, h2]
      rw [hdy, agq] at hinv
      have hw := Qr (k := k) (by omega)
      have hwm : IntKind.i64.wrap ((k : Int) - 1) = ((k - 1 : Nat) : Int) := by rw [Ym (by omega) (by omega)]; omega
      have vy : (xs.map V.int)[k]? = some (V.int y) := by rw [List.getElem?_map, hy]; rfl
      have vp : (xs.map V.int)[k - 1]? = some (V.int p) := by rw [List.getElem?_map, hp]; rfl
      skip
      have hq := heq2 y p
      have r1 : ((k : Int) < ((xs.map V.int).length : Int)) = True := eq_true (by rw [hlen]; omega)
      have r2 : ((k - 1 : Nat) : Int) < ((xs.map V.int).length : Int) := by rw [hlen]; omega
      rcases hb : eq y p with _ | _
      · rw [hb] at hq
        simp only [hb, Bool.false_eq_true, if_false] at hinv
        repeat' (first | (refine zsk ?_; intro K' hK) | (refine zrg ?_; intro K' hK) | refine zsp ?_ | (refine zsc ?_ ?_ <;> intro hc <;> first | exact znh | try simp only [znz] at hc) | simp (maxSteps := 1000000) only [go_sem, Nat.reduceAdd, Nat.reduceMul, Nat.reduceEqDiff, Nat.reduceLeDiff, Nat.reduceLT, Nat.reduceSub, Int.reduceEq, Int.reduceBEq, Int.reduceLT, Int.reduceLE, Int.reduceAdd, Int.reduceToNat, reduceIte, reduceCtorEq, e2, hw, hwm, Int.toNat_natCast, vy, vp, hq] | (refine hK _ ?_; clear hK K') | apply zan | exact zsq | fail)
        all_goals first
          | exact hL _ (k + 1) zet ⟨by omega, by omega, y, by rw [Nat.add_sub_cancel]; exact hy, by rw [hinv, List.take_add_one, hy]; simp⟩ (by omega) (fun a ha => by simp only [u32, u33, u34, u35, u36, u37, u38, u39]; repeat rw [if_neg (by omega)])
          | exact r2
          | trace_state
      · rw [hb] at hq
        simp only [hb, if_true] at hinv
        repeat' (first | (refine zsk ?_; intro K' hK) | (refine zrg ?_; intro K' hK) | refine zsp ?_ | (refine zsc ?_ ?_ <;> intro hc <;> first | exact znh | try simp only [znz] at hc) | simp (maxSteps := 1000000) only [go_sem, Nat.reduceAdd, Nat.reduceMul, Nat.reduceEqDiff, Nat.reduceLeDiff, Nat.reduceLT, Nat.reduceSub, Int.reduceEq, Int.reduceBEq, Int.reduceLT, Int.reduceLE, Int.reduceAdd, Int.reduceToNat, reduceIte, reduceCtorEq, e2, hw, hwm, Int.toNat_natCast, vy, vp, hq] | (refine hK _ ?_; clear hK K') | apply zan | exact zsq | fail)
        all_goals first
          | exact r2
          | skip
        refine QH (ι := List Int × Nat × Nat) (fun q => q.1.length = xs.length ∧ 1 ≤ q.2.2 ∧ k + q.2.2 ≤ xs.length ∧ k ≤ q.2.1 ∧ q.2.1 ≤ k + q.2.2 - 1 ∧ q.1.drop (k + q.2.2 - 1) = xs.drop (k + q.2.2 - 1) ∧ ∃ z, xs[k + q.2.2 - 1]? = some z ∧ agr eq xs = q.1.take q.2.1 ++ agq eq z (xs.drop (k + q.2.2)))
          (fun q => Wo [(0, .hd 0 0 (xs.map V.int).length), (3, V.int q.2.1), (4, .hd 0 k (xs.length - k)), (5, V.int q.2.2)] [(0, .buf true 1 (q.1.map V.int))] 1) (fun q => xs.length - q.2.2) (xs, k, 1)
          ⟨rfl, by simp only; omega, by simp only; omega, by simp only; omega, by simp only; omega, rfl, y, by simp only [Nat.add_sub_cancel]; exact hy, by rw [hinv]⟩ (Ql []) (Qu [] (by simp only [go_sem, zwl, Nat.reduceAdd, Nat.reduceMul, Nat.reduceEqDiff, Nat.reduceLT, Int.reduceToNat, reduceIte, reduceCtorEq]; first | done | (simp only [List.length_map]; (repeat' (first | rfl | refine And.intro ?_ ?_ | omega | exact fun h => h | exact Exists.intro _ rfl))) | (repeat' (first | rfl | refine And.intro ?_ ?_ | omega | exact fun h => h | exact Exists.intro _ rfl))) zwa (by simp) (by simp) (by omega)) fun q hq K2 hL2 => ?_
        obtain ⟨B, w, j⟩ := q
        obtain ⟨hB, hj1, hj2, hw1, hw2, hdr, z, hz, hinv2⟩ := hq
        dsimp only at hB hj1 hj2 hw1 hw2 hdr hz hinv2
        have hBl : (B.map V.int).length = xs.length := by rw [List.length_map, hB]
        have hwj := Qr (k := j) (by omega)
        have hww := Qr (k := w) (by omega)
        by_cases hje : k + j = xs.length
        · have e3 : decide ((j : Int) < ((xs.length - k : Nat) : Int)) = false := decide_eq_false (by omega)
          have hg : agr eq xs = B.take w := by rw [hinv2, hje, List.drop_length]; simp [agq]
          have hgl : (agr eq xs).length = w := by rw [hg, List.length_take, hB]; omega
          have r3 : ((w : Int) ≤ ((xs.map V.int).length : Int)) = True := eq_true (by rw [hlen]; omega)
          rw [hgl, hg]
          repeat' (first | (refine zsk ?_; intro K' hK) | (refine zrg ?_; intro K' hK) | refine zsp ?_ | (refine zsc ?_ ?_ <;> intro hc <;> first | exact znh | try simp only [znz] at hc) | simp (maxSteps := 1000000) only [go_sem, Nat.reduceAdd, Nat.reduceMul, Nat.reduceEqDiff, Nat.reduceLeDiff, Nat.reduceLT, Nat.reduceSub, Int.reduceEq, Int.reduceBEq, Int.reduceLT, Int.reduceLE, Int.reduceAdd, Int.reduceToNat, reduceIte, reduceCtorEq, Wo, e3, Int.toNat_natCast] | (refine hK _ ?_; clear hK K') | apply zan | exact zsq | fail)
          all_goals first
            | (rw [hlen]; omega)
            | (refine ajO _ rfl rfl rfl ?_ ?_ <;> first | rfl | (rw [List.drop_eq_nil_of_le (by rw [hBl, hlen]; omega), List.append_nil, List.map_take, hlen]; first | done | rfl) | (simp; done))
            | trace_state
        · have e3 : decide ((j : Int) < ((xs.length - k : Nat) : Int)) = true := decide_eq_true (by omega)
          obtain ⟨u, hu⟩ : ∃ u, xs[k + j]? = some u := ⟨_, List.getElem?_eq_getElem (by omega)⟩
          have hdu : xs.drop (k + j) = u :: xs.drop (k + j + 1) := by
            obtain ⟨h1, h2⟩ := List.getElem?_eq_some_iff.1 hu
            rw [List.drop_eq_getElem_cons h1, h2]
          rw [hdu, agq] at hinv2
          have bz : B[k + (j - 1)]? = some z := by
            have : (B.drop (k + j - 1))[0]? = (xs.drop (k + j - 1))[0]? := by rw [hdr]
            rw [List.getElem?_drop, List.getElem?_drop, Nat.add_zero, hz] at this
            rw [← this]; congr 1; omega
          have bu : B[k + j]? = some u := by
            have : (B.drop (k + j - 1))[1]? = (xs.drop (k + j - 1))[1]? := by rw [hdr]
            rw [List.getElem?_drop, List.getElem?_drop, show k + j - 1 + 1 = k + j by omega, hu] at this
            exact this
          have vz : (B.map V.int)[k + (j - 1)]? = some (V.int z) := by rw [List.getElem?_map, bz]; rfl
          have vu : (B.map V.int)[k + j]? = some (V.int u) := by rw [List.getElem?_map, bu]; rfl
          have bw : ∃ t, B[w]? = some t := ⟨_, List.getElem?_eq_getElem (by omega)⟩
          obtain ⟨t, bw⟩ := bw
          have vt : (B.map V.int)[w]? = some (V.int t) := by rw [List.getElem?_map, bw]; rfl
          have hset : (B.map V.int).set w (V.int u) = (B.set w u).map V.int := List.map_set.symm
          have hwm2 : IntKind.i64.wrap ((j : Int) - 1) = ((j - 1 : Nat) : Int) := by rw [Ym (by omega) (by omega)]; omega
          skip
          have hq := heq2 u z
          have r4 : (((w : Int)) < ((xs.map V.int).length : Int)) = True := eq_true (by rw [hlen]; omega)
          have r5 : ((j : Int) < ((xs.length - k : Nat) : Int)) = True := eq_true (by omega)
          have r6 : ((((j - 1 : Nat) : Int)) < ((xs.length - k : Nat) : Int)) = True := eq_true (by omega)
          rcases hb2 : eq u z with _ | _
          · rw [hb2] at hq
            simp only [hb2, Bool.false_eq_true, if_false] at hinv2
            repeat' (first | (refine zsk ?_; intro K' hK) | (refine zrg ?_; intro K' hK) | refine zsp ?_ | (refine zsc ?_ ?_ <;> intro hc <;> first | exact znh | try simp only [znz] at hc) | simp (maxSteps := 1000000) only [go_sem, Nat.reduceAdd, Nat.reduceMul, Nat.reduceEqDiff, Nat.reduceLeDiff, Nat.reduceLT, Nat.reduceSub, Int.reduceEq, Int.reduceBEq, Int.reduceLT, Int.reduceLE, Int.reduceAdd, Int.reduceToNat, reduceIte, reduceCtorEq, Wo, e3, hwj, hww, hwm2, Int.toNat_natCast, vz, vu, vt, hset, hq, r4, r5, r6, bne] | (refine hK _ ?_; clear hK K') | apply zan | exact zsq | fail)
            all_goals first
              | exact hL2 _ (B.set w u, w + 1, j + 1) (Ql []) ⟨by simp only [List.length_set]; exact hB, by simp only; omega, by simp only; omega, by simp only; omega, by simp only; omega, by
                  simp only
                  rw [List.drop_set_of_lt (by omega), show k + (j + 1) - 1 = (k + j - 1) + 1 by omega, ← List.drop_drop, hdr, List.drop_drop], u, by simp only; rw [show k + (j + 1) - 1 = k + j by omega]; exact hu, by
                  simp only
                  rw [hinv2, show k + (j + 1) = k + j + 1 by omega, List.take_add_one, List.getElem?_set_self (by omega), List.take_set_of_le (Nat.le_refl _)]; simp⟩ (by simp only; omega) (zwg [])
              | (rw [hlen]; omega)
              | trace_state
          · rw [hb2] at hq
            simp only [hb2, if_true] at hinv2
            repeat' (first | (refine zsk ?_; intro K' hK) | (refine zrg ?_; intro K' hK) | refine zsp ?_ | (refine zsc ?_ ?_ <;> intro hc <;> first | exact znh | try simp only [znz] at hc) | simp (maxSteps := 1000000) only [go_sem, Nat.reduceAdd, Nat.reduceMul, Nat.reduceEqDiff, Nat.reduceLeDiff, Nat.reduceLT, Nat.reduceSub, Int.reduceEq, Int.reduceBEq, Int.reduceLT, Int.reduceLE, Int.reduceAdd, Int.reduceToNat, reduceIte, reduceCtorEq, Wo, e3, hwj, hww, hwm2, Int.toNat_natCast, vz, vu, vt, hset, hq, r4, r5, r6, bne] | (refine hK _ ?_; clear hK K') | apply zan | exact zsq | fail)
            all_goals first
              | exact hL2 _ (B, w, j + 1) (Ql []) ⟨hB, by simp only; omega, by simp only; omega, by simp only; omega, by simp only; omega, by
                  simp only
                  rw [show k + (j + 1) - 1 = (k + j - 1) + 1 by omega, ← List.drop_drop, hdr, List.drop_drop], u, by simp only; rw [show k + (j + 1) - 1 = k + j by omega]; exact hu, by simp only; rw [hinv2, show k + (j + 1) = k + j + 1 by omega]⟩ (by simp only; omega) (zwg [])
              | trace_state
theorem aqq {fs : List Nat} (h : fs.Pairwise (· < ·)) : Vh (fun x y : Int => decide (x < y)) (fs.map fun n : Nat => (n : Int)) = fs.map fun n : Nat => (n : Int) := by
  have h1 := ajA (lt := fun x y : Int => decide (x < y)) (fun x y z h h' => by simp at *; omega) (fun x y h => by simp at *; omega) (fs.map fun n : Nat => (n : Int))
  refine List.Perm.eq_of_pairwise (le := fun x y : Int => x ≤ y) (fun a b _ _ h1 h2 => by omega) (h1.imp fun {a b} h => ?_) ?_ ww
  · simp at h; omega
  · rw [List.pairwise_map]; exact h.imp fun {a b} h => by omega
theorem ald : ∀ (r : List Nat) (p : Nat), (p :: r).Pairwise (· < ·) → agq (fun x y : Int => x == y) (p : Int) (r.map fun n : Nat => (n : Int)) = r.map fun n : Nat => (n : Int)
  | [], _, _ => rfl
  | x :: r, p, h => by
    have h1 : p < x := (List.pairwise_cons.1 h).1 x List.mem_cons_self
    have h2 := (List.pairwise_cons.1 h).2
    have e : ((x : Int) == (p : Int)) = false := by rw [beq_eq_false_iff_ne]; omega
    rw [List.map_cons, agq]
    simp only [e, Bool.false_eq_true, if_false]
    rw [ald r x h2]
theorem apF {fs : List Nat} (h : fs.Pairwise (· < ·)) : agr (fun x y : Int => x == y) (fs.map fun n : Nat => (n : Int)) = fs.map fun n : Nat => (n : Int) := by
  rcases fs with _ | ⟨p, r⟩
  · rfl
  · rw [List.map_cons, agr, ald r p h]
theorem af0 (fs : List Nat) : (fs.map fun n : Nat => (n : Int)).map V.int = QG fs := by
  rw [List.map_map]; rfl
def wu : List AO := [mv 14 6, mv 15 6, ln 16 15, bc 17 .eql 16 (V.int 0), mv 18 17, mg 19 6 18 false, xg 20 (.iaddr 1 (.t 19) (.c (V.int 0))) 18 false, xg 21 (.load false 1 (.t 20)) 18 false, xg 22 (.bin .geq (.t 21) (.c (V.int 0))) 18 false, mg 23 22 18 false, mg 24 6 23 true, mg 25 6 23 true, xg 26 (.lenL (.t 25)) 23 true, xg 27 (.bin .sub (.t 26) (.c (V.int 1))) 23 true, xg 28 (.iaddr 1 (.t 24) (.t 27)) 23 true, xg 29 (.load false 1 (.t 28)) 23 true, mg 30 0 23 true, xg 31 (.lenL (.t 30)) 23 true, xg 32 (.bin .lss (.t 29) (.t 31)) 23 true, xg 33 (.pick (.t 23) (.t 32) (.c (V.bool false))) 18 false, xo 34 (.pick (.t 18) (.c (V.bool true)) (.t 33)), mv 4 14, mv 5 34]
def wD : List (List Nat) := [[], [], [1], [2], [3], [4], [5, 4], [6, 4], [7, 4], [8, 4, 4], [9], [9], [11, 9], [12, 9], [10, 13, 9], [14, 9], [9], [16, 9], [15, 17, 9], [9, 18, 4], [4, 19], [0, 9, 0], [20, 21, 0, 1, 2, 3, 4, 5, 6, 7, 8, 9, 10, 11, 12, 13, 14, 15, 16, 17, 18, 19, 20, 21]]
def wk : OT := .one 0 (.one 1 (.one 2 (.one 3 (.one 4 (.one 5 (.one 6 (.one 7 (.one 8 (.one 9 (.one 10 (.one 11 (.one 12 (.one 13 (.one 14 (.one 15 (.one 16 (.one 17 (.one 18 (.one 19 (.one 20 (.one 21 (.one 22 .done))))))))))))))))))))))
@[go_sem] def ws : OP := oN 0 (mv 14 6) (oN 1 (mv 15 6) (oN 2 (ln 16 15) (oN 3 (bc 17 .eql 16 (V.int 0)) (oN 4 (mv 18 17) (oN 5 (mg 19 6 18 false) (oN 6 (xg 20 (.iaddr 1 (.t 19) (.c (V.int 0))) 18 false) (oN 7 (xg 21 (.load false 1 (.t 20)) 18 false) (oN 8 (xg 22 (.bin .geq (.t 21) (.c (V.int 0))) 18 false) (oN 9 (mg 23 22 18 false) (oN 10 (mg 24 6 23 true) (oN 11 (mg 25 6 23 true) (oN 12 (xg 26 (.lenL (.t 25)) 23 true) (oN 13 (xg 27 (.bin .sub (.t 26) (.c (V.int 1))) 23 true) (oN 14 (xg 28 (.iaddr 1 (.t 24) (.t 27)) 23 true) (oN 15 (xg 29 (.load false 1 (.t 28)) 23 true) (oN 16 (mg 30 0 23 true) (oN 17 (xg 31 (.lenL (.t 30)) 23 true) (oN 18 (xg 32 (.bin .lss (.t 29) (.t 31)) 23 true) (oN 19 (xg 33 (.pick (.t 23) (.t 32) (.c (V.bool false))) 18 false) (oN 20 (xo 34 (.pick (.t 18) (.c (V.bool true)) (.t 33))) (oN 21 (mv 4 14) (oN 22 (mv 5 34) .done))))))))))))))))))))))
instance : RG [] wk (ws) (wu) wD 23 (fun _ => true) := ⟨rfl, by kernel_rfl, by kernel_rfl⟩
def yD (Qz Xj YE : Nat) : AC := Qb [0, 3] (.reg [xo 3 (.box true 4 (.t 1)), xo 4 (.mknil 1), mc 5 (V.bool false)]) (Qb [0, 6] (.reg [fa 7 3 3, ld 8 1 7, cl 9 Qz [8], mv 6 9]) (Qb [0, 6] (.reg [mv 10 6, cl 11 Xj [10]]) (Qb [0, 6] (.reg [mv 12 6, cl 13 YE [12], mv 6 13]) (Qb [4, 5] (wP [] wk (ws) (wu) wD) .ret)))) def r_asset_indices : List Jf := [.tmp 4, .tmp 5]
def jw (Γ : Env) (f : Nat) : Prop := ∀ (l : List Qa) (e : J8) (ha : e.finds.Pairwise (· < ·)) (hb : ∀ i ∈ e.finds, i < l.length) (hn : e.finds.length ≤ 12), EvC Γ f [.sl 11 (l.map Qa.v), e.v] (.tup [.sl 1 (QG e.finds), V.bool true])
attribute [local go_sem] List.length_map in
theorem afB {Γ : Env} {f Qz Xj YE : Nat} (h : Has Γ.P f 35 (yD Qz Xj YE) r_asset_indices) (z0 : YW Γ Qz) (z1 : Wm Γ Xj) (z2 : XE Γ YE) : jw Γ f := by
  intro l e ha hb hn
  refine Y8 h zsi (by simp only [V.closed, Qh, and_self]) fun C hC hm => ?_
  subst hC
  unfold yD
  obtain ⟨num, hosts, machs, fs⟩ := e
  dsimp only at ha hb hn
  simp only [J8.v]
  have gC := z0 (fs.map fun n : Nat => (n : Int)) (by rw [List.length_map]; omega)
  have gS := z1 (fs.map fun n : Nat => (n : Int)) (by rw [List.length_map]; omega)
  have gZ := z2 (fs.map fun n : Nat => (n : Int)) (by rw [List.length_map]; omega)
  rw [aqq ha] at gS
  rw [apF ha] at gZ
  simp only [af0, List.length_map, Nat.sub_self, List.replicate_zero, List.append_nil] at gC gS gZ
  have hl : (QG fs).length = fs.length := List.length_map _
  have htk : List.take fs.length (QG fs) = QG fs := List.take_of_length_le (by omega)
  by_cases hf : fs = []
  · subst hf
    have hp0 : QG [] = [] := rfl
    simp only [hp0, List.length_nil, List.take_nil] at *
    (have zx := htk); exact zg
  · have hpos : 0 < fs.length := List.length_pos_iff.2 hf
    obtain ⟨p, hp0⟩ : ∃ p, fs[0]? = some p := ⟨_, List.getElem?_eq_getElem hpos⟩
    obtain ⟨z, hz0⟩ : ∃ p, fs[fs.length - 1]? = some p := ⟨_, List.getElem?_eq_getElem (by omega)⟩
    have hlt := hb _ (List.mem_of_getElem? hz0)
    have vl : (QG fs)[fs.length - 1]? = some (V.int (z : Nat)) := by rw [QG, List.getElem?_map, hz0]; rfl
    have v0 : (QG fs)[0]? = some (V.int (p : Nat)) := by rw [QG, List.getElem?_map, hp0]; rfl
    have e0 : ((fs.length : Int) == 0) = false := by rw [beq_eq_false_iff_ne]; omega
    have e1 : decide ((p : Int) ≥ 0) = true := decide_eq_true (by omega)
    have e2 : decide ((z : Int) < (l.length : Int)) = true := decide_eq_true (by omega)
    have hw : IntKind.i64.wrap ((fs.length : Int) - 1) = ((fs.length - 1 : Nat) : Int) := by rw [Ym (by omega) (by omega)]; omega
    (have zx := And.intro htk (And.intro hl (And.intro v0 (And.intro vl (And.intro e0 (And.intro e1 (And.intro e2 hw))))))); refine zgo ?_; repeat' first | exact zt | apply zan | intro hc
    all_goals first | (refine Qv _ rfl ?_; simp only [go_sem, Nat.reduceEqDiff, Nat.reduceAdd, reduceIte, reduceCtorEq]; rw [htk]; done) | (refine Qv _ rfl ?_; simp only [go_sem, Nat.reduceEqDiff, Nat.reduceAdd, reduceIte, reduceCtorEq]; rw [htk]; first | done | exact ⟨_, _, rfl⟩) | trace_state
theorem acS : ∀ a : List UInt8, Op.bytesLess a a = false
  | [] => rfl
  | c :: r => by
    rw [Op.bytesLess, acS r]
    simp
theorem yf : ∀ a b c : List UInt8, Op.bytesLess a b = true → Op.bytesLess b c = true → Op.bytesLess a c = true
  | _, [], _, h, _ => by simp [Op.bytesLess] at h
  | _, _ :: _, [], _, h => by simp [Op.bytesLess] at h
  | [], _ :: _, _ :: _, _, _ => rfl
  | x :: a, y :: b, z :: c, h1, h2 => by
    have ih := yf a b c
    simp only [Op.bytesLess, Bool.or_eq_true, Bool.and_eq_true, decide_eq_true_eq, beq_iff_eq] at h1 h2 ⊢
    rcases h1 with h1 | ⟨rfl, h1⟩
    · rcases h2 with h2 | ⟨rfl, h2⟩
      · exact .inl (UInt8.lt_trans h1 h2)
      · exact .inl h1
    · rcases h2 with h2 | ⟨rfl, h2⟩
      · exact .inl h2
      · exact .inr ⟨rfl, ih h1 h2⟩
theorem acR : ∀ a b : List UInt8, Op.bytesLess a b = false → Op.bytesLess b a = false → a = b
  | [], [], _, _ => rfl
  | [], _ :: _, h, _ => by simp [Op.bytesLess] at h
  | _ :: _, [], _, h => by simp [Op.bytesLess] at h
  | x :: a, y :: b, h1, h2 => by
    simp only [Op.bytesLess, Bool.or_eq_false_iff, Bool.and_eq_false_iff, decide_eq_false_iff_not, beq_eq_false_iff_ne] at h1 h2
    have hxy : x = y := by
      rcases UInt8.lt_or_eq_of_le (UInt8.not_lt.1 h1.1) with h | h
      · exact absurd h h2.1
      · exact h.symm
    subst hxy
    rw [acR a b (by rcases h1.2 with h | h; exact absurd rfl h; exact h) (by rcases h2.2 with h | h; exact absurd rfl h; exact h)]
structure Cm {α : Type} (c : α → α → Int) : Prop where
  neg : ∀ a b, c b a = - c a b
  tr : ∀ a b d, c a b ≤ 0 → c b d ≤ 0 → c a d ≤ 0
  ze : ∀ a b d, c a b ≤ 0 → c b d ≤ 0 → c a d = 0 → c a b = 0
theorem Cm.ze2 {α : Type} {c : α → α → Int} (h : Cm c) (a b d : α) (h1 : c a b ≤ 0) (h2 : c b d ≤ 0) (h3 : c a d = 0) : c b d = 0 := by
  have h4 := h.ze a b d h1 h2 h3
  have h5 := h.neg a d
  have h6 := h.neg a b
  exact h.ze b d a h2 (by omega) (by omega)
theorem vP : Cm U4 := by
  refine ⟨fun a b => ?_, fun a b d => ?_, fun a b d => ?_⟩ <;> (unfold U4; repeat' split) <;> omega
theorem aks {a b : List UInt8} : aaW a b = 0 → a = b := by
  unfold aaW
  rcases h1 : Op.bytesLess a b with _ | _
  · rcases h2 : Op.bytesLess b a with _ | _
    · intro _; exact acR a b h1 h2
    · simp
  · simp
theorem aib {a b : Int} : U4 a b = 0 → a = b := by
  unfold U4; (repeat' split) <;> omega
theorem aqD {a b : List UInt8} : aaW a b ≤ 0 ↔ Op.bytesLess b a = false := by
  unfold aaW
  rcases h1 : Op.bytesLess a b with _ | _
  · rcases h2 : Op.bytesLess b a with _ | _ <;> simp
  · rcases h2 : Op.bytesLess b a with _ | _
    · simp
    · have := yf a b a h1 h2
      rw [acS] at this; cases this
theorem ajV : Cm aaW := by
  have hneg : ∀ a b, aaW b a = - aaW a b := fun a b => by
    unfold aaW
    rcases h1 : Op.bytesLess a b with _ | _ <;> rcases h2 : Op.bytesLess b a with _ | _ <;> simp
    have := yf a b a h1 h2
    rw [acS] at this; cases this
  have htr : ∀ a b d, aaW a b ≤ 0 → aaW b d ≤ 0 → aaW a d ≤ 0 := fun a b d h1 h2 => by
    rw [aqD] at *
    rcases h3 : Op.bytesLess d a with _ | _
    · rfl
    · rcases h4 : Op.bytesLess a b with _ | _
      · have := acR a b h4 h1
        subst this; rw [h3] at h2; cases h2
      · have := yf d a b h3 h4
        rw [this] at h2; cases h2
  refine ⟨hneg, htr, fun a b d h1 h2 h3 => ?_⟩
  have := aks h3
  subst this
  have := hneg a b
  omega
theorem Cm.lex {α : Type} {c1 c2 : α → α → Int} (h1 : Cm c1) (h2 : Cm c2) : Cm fun a b => if c1 a b ≠ 0 then c1 a b else c2 a b := by
  refine ⟨fun a b => ?_, fun a b d g1 g2 => ?_, fun a b d g1 g2 g3 => ?_⟩
  · have := h1.neg a b
    have := h2.neg a b
    show (if c1 b a ≠ 0 then c1 b a else c2 b a) = - (if c1 a b ≠ 0 then c1 a b else c2 a b)
    split <;> split <;> omega
  · have e1 : c1 a b ≤ 0 := by split at g1 <;> omega
    have e2 : c1 b d ≤ 0 := by split at g2 <;> omega
    have e3 := h1.tr a b d e1 e2
    split
    · exact e3
    · rename_i h
      have h := Classical.not_not.1 h
      have z1 := h1.ze a b d e1 e2 h
      have z2 := h1.ze2 a b d e1 e2 h
      rw [if_neg (by simpa using z1)] at g1
      rw [if_neg (by simpa using z2)] at g2
      exact h2.tr a b d g1 g2
  · have e1 : c1 a b ≤ 0 := by split at g1 <;> omega
    have e2 : c1 b d ≤ 0 := by split at g2 <;> omega
    have h : c1 a d = 0 := by split at g3 <;> omega
    have z1 := h1.ze a b d e1 e2 h
    have z2 := h1.ze2 a b d e1 e2 h
    rw [if_neg (by simpa using z1)] at g1 ⊢
    rw [if_neg (by simpa using z2)] at g2
    rw [if_neg (by simpa using h)] at g3
    exact h2.ze a b d g1 g2 g3
theorem Cm.by {α β : Type} {c : α → α → Int} (h : Cm c) (f : β → α) : Cm fun a b => c (f a) (f b) :=
  ⟨fun a b => h.neg _ _, fun a b d => h.tr _ _ _, fun a b d => h.ze _ _ _⟩
theorem aek : Cm ajg := by
  have h0 : Cm fun _ _ : Qi => (0 : Int) := ⟨fun _ _ => rfl, fun _ _ _ _ _ => Int.le_refl _, fun _ _ _ _ _ _ => rfl⟩
  exact (ajV.by Qi.subj).lex ((vP.by Qi.kind).lex ((vP.by Qi.alg).lex ((vP.by Qi.bits).lex ((vP.by Qi.num).lex ((ajV.by Qi.text).lex h0)))))
theorem KU {x : Int} {r : List Int} : YQ (x :: r) = 0 → x = 0 ∧ YQ r = 0 := by
  rw [YQ]
  by_cases h : x ≠ 0
  · rw [if_pos h]; intro h2; exact absurd h2 h
  · rw [if_neg h]; intro h2; exact ⟨Classical.not_not.1 h, h2⟩
theorem amj {a b : Qi} (h : ajg a b = 0) : a.subj = b.subj ∧ a.kind = b.kind ∧ a.alg = b.alg ∧ a.bits = b.bits ∧ a.num = b.num ∧ a.text = b.text := by
  obtain ⟨h1, h⟩ := KU h
  obtain ⟨h2, h⟩ := KU h
  obtain ⟨h3, h⟩ := KU h
  obtain ⟨h4, h⟩ := KU h
  obtain ⟨h5, h⟩ := KU h
  obtain ⟨h6, h⟩ := KU h
  exact ⟨aks h1, aib h2, aib h3, aib h4, aib h5, aks h6⟩
def anW (a b : Qi) : Bool := decide (ajg a b < 0)
theorem ai4 (l : List Qi) : Ord anW (Vh anW l) := by
  refine ajA (fun x y z h1 h2 => ?_) (fun x y h => ?_) l
  · simp only [anW, decide_eq_false_iff_not, Int.not_lt] at *
    have a1 := aek.neg y x
    have a2 := aek.neg z y
    have a3 := aek.neg z x
    have := aek.tr x y z (by omega) (by omega)
    omega
  · simp only [anW, decide_eq_true_eq, decide_eq_false_iff_not, Int.not_lt] at *
    have a1 := aek.neg x y
    omega
theorem ank {l r : List Qi} (h : l.Perm r) (hd : ∀ a ∈ l, ∀ b ∈ l, ajg a b = 0 → a = b) : Vh anW l = Vh anW r := by
  refine List.Perm.eq_of_pairwise (le := fun x y => anW y x = false) (fun a b ha hb h1 h2 => ?_) (ai4 l) (ai4 r) (ww.trans (h.trans ww.symm))
  refine hd a (ww.mem_iff.1 ha) b (h.mem_iff.2 (ww.mem_iff.1 hb)) ?_
  simp only [anW, decide_eq_false_iff_not, Int.not_lt] at *
  have a1 := aek.neg a b
  omega
abbrev PM := List PPl × List Nat
def ar8 (f g : Qa) : Bool := decide (f.day > g.day) || (f.day == g.day && decide (f.conf > g.conf))
def arY (l : List Qa) (day age : Int) (m : PM) (i : Nat) : PM :=
  match l[i]? with
  | none => m
  | some f => if f.day > day ∨ f.day < day - age then m else
    match an8 (UY f) m.1 0 with
    | none => (m.1 ++ [UY f], m.2 ++ [i])
    | some a => match l[m.2.getD a 0]? with
      | none => m
      | some g => if ar8 f g = true then (m.1, m.2.set a i) else m
def alT (l : List Qa) (day age : Int) (fs : List Nat) : PM := fs.foldl (arY l day age) ([], [])
theorem agh {p : PPl} : ∀ {ks : List PPl} {i a : Nat}, an8 p ks i = some a → i ≤ a ∧ a < i + ks.length ∧ ks[a - i]? = some p
  | [], i, a, h => by cases h
  | e :: r, i, a, h => by
    rw [an8] at h
    split at h
    · rename_i he
      cases h
      subst he
      exact ⟨Nat.le_refl _, by simp, by simp⟩
    · obtain ⟨h1, h2, h3⟩ := agh h
      refine ⟨by omega, by simp; omega, ?_⟩
      rw [show a - i = (a - (i + 1)) + 1 by omega, List.getElem?_cons_succ]; exact h3
theorem ajp {p : PPl} : ∀ {ks : List PPl} {i : Nat}, an8 p ks i = none → p ∉ ks
  | [], _, _ => by simp
  | e :: r, i, h => by
    rw [an8] at h
    split at h
    · cases h
    · rename_i he
      have := ajp h
      simp [he, this]
structure akc (l : List Qa) (m : PM) (n : Nat) : Prop where
  len : m.1.length = m.2.length
  le : m.1.length ≤ n
  nd : m.1.Nodup
  pt : ∀ (a i : Nat), m.2[a]? = some i → ∃ f, l[i]? = some f ∧ m.1[a]? = some (UY f)
theorem akc.nil (l : List Qa) : akc l ([], []) 0 := ⟨rfl, Nat.le_refl _, List.nodup_nil, fun a i h => by simp at h⟩
theorem akc.step {l : List Qa} {day age : Int} {m : PM} {n i : Nat} (h : akc l m n) : akc l (arY l day age m i) (n + 1) := by
  have h0 : akc l m (n + 1) := ⟨h.len, Nat.le_succ_of_le h.le, h.nd, h.pt⟩
  obtain ⟨ks, vs⟩ := m
  rw [arY]
  rcases hf : l[i]? with _ | f
  · exact h0
  dsimp only
  split
  · exact h0
  rcases hx : an8 (UY f) ks 0 with _ | a
  · have hn := ajp hx
    have hl := h.len
    have hle := h.le
    dsimp only at hl hle
    refine ⟨by simp [hl], by simp; omega, ?_, fun a j hj => ?_⟩
    · dsimp only
      rw [List.nodup_append]
      exact ⟨h.nd, by simp, fun x hx y hy => by rw [List.mem_singleton.1 hy]; exact fun he => hn (he ▸ hx)⟩
    · dsimp only at *
      rcases Nat.lt_trichotomy a vs.length with ha | ha | ha
      · rw [List.getElem?_append_left ha] at hj
        obtain ⟨g, g1, g2⟩ := h.pt a j hj
        exact ⟨g, g1, by rw [List.getElem?_append_left (by omega)]; exact g2⟩
      · subst ha
        rw [List.getElem?_concat_length] at hj
        cases hj
        exact ⟨f, hf, by rw [← hl, List.getElem?_concat_length]⟩
      · rw [List.getElem?_eq_none (by simp; omega)] at hj; cases hj
  · dsimp only
    rcases hg : l[vs.getD a 0]? with _ | g
    · exact h0
    dsimp only
    split
    · obtain ⟨a1, a2, a3⟩ := agh hx
      have hl := h.len
      dsimp only at hl
      refine ⟨by simp [hl], h0.le, h.nd, fun b j hj => ?_⟩
      dsimp only at *
      by_cases hb : a = b
      · subst hb
        rw [List.getElem?_set_self (by omega)] at hj
        cases hj
        exact ⟨f, hf, by simpa using a3⟩
      · rw [List.getElem?_set_ne hb] at hj
        exact h.pt b j hj
    · exact h0
theorem akU (l : List Qa) (day age : Int) (fs : List Nat) (k : Nat) (hk : k ≤ fs.length) : akc l (alT l day age (fs.take k)) k := by
  induction k with
  | zero => exact akc.nil l
  | succ k ih =>
    have hlt : k < fs.length := by omega
    rw [alT, List.take_add_one, List.getElem?_eq_getElem hlt, List.foldl_append]
    exact (ih (by omega)).step
theorem aoq {l : List Qa} {day age : Int} {fs : List Nat} {k i : Nat} (h : fs[k]? = some i) : alT l day age (fs.take (k + 1)) = arY l day age (alT l day age (fs.take k)) i := by
  rw [alT, List.take_add_one, h, List.foldl_append]; rfl
def ajG (num : Int) (i : Nat) (f : Qa) : Qi := ⟨num, f.subj, f.kind, f.alg, f.bits, f.num, f.text, i⟩
def aeb (l : List Qa) (num : Int) (i : Nat) : Option Qi :=
  match l[i]? with
  | none => none
  | some f => if f.kind = 8 then none else some (ajG num i f)
def yh (l : List Qa) (num : Int) (fs : List Nat) (day age : Int) : List Qi := Vh anW ((alT l day age fs).2.filterMap (aeb l num))
def aiV (l : List Qa) (num : Int) (vs is : List Nat) : List Qi := is.filterMap fun a => (vs[a]?).bind (aeb l num)
theorem ai0 (l : List Qa) (num : Int) : ∀ vs : List Nat, aiV l num vs (List.range vs.length) = vs.filterMap (aeb l num)
  | [] => rfl
  | x :: r => by
    have ih := ai0 l num r
    rw [aiV] at ih ⊢
    rw [List.length_cons, List.range_succ_eq_map, List.filterMap_cons, List.filterMap_map, List.filterMap_cons]
    simp only [List.getElem?_cons_zero, Option.bind_some]
    have : (fun a => ((x :: r)[a]?).bind (aeb l num)) ∘ Nat.succ = fun a => (r[a]?).bind (aeb l num) := by
      funext a; simp
    rw [this, ih]
theorem aoP {l : List Qa} {num day age : Int} {fs is : List Nat} (hd : is.Nodup) (hb : ∀ a ∈ is, a < (alT l day age fs).2.length) (he : ∀ a, a < (alT l day age fs).2.length → a ∈ is) : Vh anW (aiV l num (alT l day age fs).2 is) = yh l num fs day age := by
  have hok := akU l day age fs fs.length (Nat.le_refl _)
  rw [List.take_length] at hok
  rw [yh, ← ai0]
  generalize alT l day age fs = m at *
  obtain ⟨ks, vs⟩ := m
  dsimp only at *
  have hp : is.Perm (List.range vs.length) := by
    rw [List.perm_ext_iff_of_nodup hd List.nodup_range]
    intro a
    rw [List.mem_range]
    exact ⟨hb a, he a⟩
  refine ank (hp.filterMap _) fun a ha b hb2 h0 => ?_
  obtain ⟨h1, h2, h3, h4, h5, h6⟩ := amj h0
  have key : ∀ c, c ∈ aiV l num vs is → ∃ (p i : Nat) (f : Qa), vs[p]? = some i ∧ l[i]? = some f ∧ f.kind ≠ 8 ∧ c = ajG num i f := fun c hc => by
    rw [aiV, List.mem_filterMap] at hc
    obtain ⟨p, _, hc⟩ := hc
    rcases hv : vs[p]? with _ | i
    · rw [hv] at hc; cases hc
    · rw [hv, Option.bind_some, aeb] at hc
      rcases hf : l[i]? with _ | f
      · rw [hf] at hc; cases hc
      · rw [hf] at hc
        dsimp only at hc
        split at hc
        · cases hc
        · rename_i h8
          exact ⟨p, i, f, hv, hf, h8, (Option.some.inj hc).symm⟩
  obtain ⟨p, i, f, p1, p2, p3, rfl⟩ := key a ha
  obtain ⟨q, j, g, q1, q2, q3, rfl⟩ := key b hb2
  simp only [ajG] at h1 h2 h3 h4 h5 h6
  obtain ⟨f', r1, r2⟩ := hok.pt p i p1
  obtain ⟨g', s1, s2⟩ := hok.pt q j q1
  rw [p2] at r1; cases r1
  rw [q2] at s1; cases s1
  have hpl : UY f = UY g := by
    simp only [UY]
    rw [h1, h2, h3, h4, h5, h6]
  have hpq : p = q := by
    have l1 := (List.getElem?_eq_some_iff.1 r2).1
    rw [hpl, ← s2] at r2
    exact (List.getElem?_inj l1 hok.nd).1 r2
  subst hpq
  rw [p1] at q1; cases q1
  rw [p2] at q2; cases q2
  rfl
end Av
end

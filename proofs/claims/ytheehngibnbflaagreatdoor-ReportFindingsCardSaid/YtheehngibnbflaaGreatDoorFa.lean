/- Fa -/
import Derived.Test.YtheehngibnbflaaGreatDoorPb
import Derived.Test.YtheehngibnbflaaGreatDoorAvM
import Derived.Lib.Fields
set_option linter.unusedVariables false
set_option linter.unusedSimpArgs false
section
set_option linter.unusedSimpArgs false
set_option linter.unusedVariables false
set_option maxRecDepth 10000
set_option maxHeartbeats 4000000
namespace Av
open Go
attribute [local irreducible] AWp Yd Yy YK awS awC XQ awQ XW Qr Jj XP awR Jk awB okR Yk ris
structure JH where
  src : Int
  host : List UInt8
  mach : Int
  day : Int
  conf : Int
  kind : Int
  subj : List UInt8
  alg : Int
  bits : Int
  num : Int
  text : List UInt8
def JH.cells (f : JH) : List V := [V.int f.src, V.str f.host, V.int f.mach, V.int f.day, V.int f.conf, V.int f.kind, V.str f.subj, V.int f.alg, V.int f.bits, V.int f.num, V.str f.text]
def JH.v (f : JH) : V := .agg f.cells
def yC (f : JH) : Bool := f.alg == 0 && f.bits == 0
def X6 (f : JH) : Bool :=
  if f.kind = 1 ∨ f.kind = 8 then decide (Jx f.alg f.bits > 0) && f.num == 0 && f.text == []
  else if f.kind = 2 then yC f && f.text == [] && decide (f.num ≥ 0) && decide (f.num ≤ 65535)
  else if f.kind = 3 then decide (Jx f.alg f.bits > 0) && (YR f.alg).kind == 2 && decide (f.num ≥ 0) && decide (f.num ≤ 2147483648) && f.text == []
  else if f.kind = 4 ∨ f.kind = 5 then yC f && f.text == [] && decide (f.num ≥ 1) && decide (f.num ≤ 4)
  else if f.kind = 6 then yC f && f.text == [] && decide (f.num ≥ 0) && decide (f.num ≤ 2147483648)
  else if f.kind = 7 then yC f && f.num == 0 && Ye f.text
  else false
def Vf (f : JH) : Bool := Ye f.host && Ye f.subj && decide (f.mach ≥ 0) && decide (f.mach ≤ 1099511627776) && (decide (f.day ≥ 0) && decide (f.day ≤ 40000) && decide (f.conf ≥ 1) && decide (f.conf ≤ 100)) && !decide (f.src < 1) && !decide (f.src > 7) && X6 f
def XU (Q9 X5 Ja : Nat) : AC := Qt [1] (.reg [xo 1 (.box true 11 (.t 0)), mc 2 (V.bool false)]) (Qt [1, 3] (.reg [fa 4 7 1, xo 5 (.load true 2 (.t 4)), xo 6 (.build [(.int .i64 0), (.int .i64 0)] []), xo 7 (.eqagg false [0, 0] (.t 5) (.t 6)), mv 8 7, xg 9 (.faddr 10 (.t 1)) 8 true, xg 10 (.load false 1 (.t 9)) 8 true, xg 11 (.bin .eql (.t 10) (.c (V.str []))) 8 true, xo 12 (.pick (.t 8) (.t 11) (.c (V.bool false))), mv 3 12]) (Qt [] (Qt [1, 3, 14] (.reg [fa 13 5 1, ld 14 1 13]) (.block 0 (Qt [1, 3, 14, 15] (Qt [1, 3, 14, 15] (.reg [bc 16 .eql 14 (V.int 1), mv 15 16]) (.cond (.t 15) (.skip) (.reg [bc 17 .eql 14 (V.int 8), mv 15 17]))) (.cond (.t 15) (Qt [2] (.reg [fa 18 7 1, xo 19 (.load true 2 (.t 18)), cl 20 Q9 [19], mv 21 20, xg 22 (.faddr 9 (.t 1)) 21 true, xg 23 (.load false 1 (.t 22)) 21 true, xg 24 (.bin .eql (.t 23) (.c (V.int 0))) 21 true, xo 25 (.pick (.t 21) (.t 24) (.c (V.bool false))), mv 26 25, xg 27 (.faddr 10 (.t 1)) 26 true, xg 28 (.load false 1 (.t 27)) 26 true, xg 29 (.bin .eql (.t 28) (.c (V.str []))) 26 true, xo 30 (.pick (.t 26) (.t 29) (.c (V.bool false))), mv 2 30]) (.ret)) (Qt [1, 3, 14, 31] (.reg [bc 32 .eql 14 (V.int 2), mv 31 32]) (.cond (.t 31) (Qt [2] (.reg [mv 33 3, mv 34 33, xg 35 (.faddr 9 (.t 1)) 34 true, xg 36 (.load false 1 (.t 35)) 34 true, xg 37 (.bin .geq (.t 36) (.c (V.int 0))) 34 true, xo 38 (.pick (.t 34) (.t 37) (.c (V.bool false))), mv 39 38, xg 40 (.faddr 9 (.t 1)) 39 true, xg 41 (.load false 1 (.t 40)) 39 true, xg 42 (.bin .leq (.t 41) (.c (V.int 65535))) 39 true, xo 43 (.pick (.t 39) (.t 42) (.c (V.bool false))), mv 2 43]) (.ret)) (Qt [1, 3, 14, 44] (.reg [bc 45 .eql 14 (V.int 3), mv 44 45]) (.cond (.t 44) (Qt [2] (.reg [fa 46 7 1, xo 47 (.load true 2 (.t 46)), cl 48 Q9 [47], mv 49 48, xg 50 (.faddr 7 (.t 1)) 49 true, xg 51 (.faddr 0 (.t 50)) 49 true, xg 52 (.load false 1 (.t 51)) 49 true, xg 53 (.call X5 [(.t 52)]) 49 true, xg 54 (.bin .eql (.t 53) (.c (V.int 2))) 49 true, xo 55 (.pick (.t 49) (.t 54) (.c (V.bool false))), mv 56 55, xg 57 (.faddr 9 (.t 1)) 56 true, xg 58 (.load false 1 (.t 57)) 56 true, xg 59 (.bin .geq (.t 58) (.c (V.int 0))) 56 true, xo 60 (.pick (.t 56) (.t 59) (.c (V.bool false))), mv 61 60, xg 62 (.faddr 9 (.t 1)) 61 true, xg 63 (.load false 1 (.t 62)) 61 true, xg 64 (.bin .leq (.t 63) (.c (V.int 2147483648))) 61 true, xo 65 (.pick (.t 61) (.t 64) (.c (V.bool false))), mv 66 65, xg 67 (.faddr 10 (.t 1)) 66 true, xg 68 (.load false 1 (.t 67)) 66 true, xg 69 (.bin .eql (.t 68) (.c (V.str []))) 66 true, xo 70 (.pick (.t 66) (.t 69) (.c (V.bool false))), mv 2 70]) (.ret)) (Qt [1, 3, 14, 71] (Qt [1, 3, 14, 71] (.reg [bc 72 .eql 14 (V.int 4), mv 71 72]) (.cond (.t 71) (.skip) (.reg [bc 73 .eql 14 (V.int 5), mv 71 73]))) (.cond (.t 71) (Qt [2] (.reg [mv 74 3, mv 75 74, xg 76 (.faddr 9 (.t 1)) 75 true, xg 77 (.load false 1 (.t 76)) 75 true, xg 78 (.bin .geq (.t 77) (.c (V.int 1))) 75 true, xo 79 (.pick (.t 75) (.t 78) (.c (V.bool false))), mv 80 79, xg 81 (.faddr 9 (.t 1)) 80 true, xg 82 (.load false 1 (.t 81)) 80 true, xg 83 (.bin .leq (.t 82) (.c (V.int 4))) 80 true, xo 84 (.pick (.t 80) (.t 83) (.c (V.bool false))), mv 2 84]) (.ret)) (Qt [1, 3, 14, 85] (.reg [bc 86 .eql 14 (V.int 6), mv 85 86]) (.cond (.t 85) (Qt [2] (.reg [mv 87 3, mv 88 87, xg 89 (.faddr 9 (.t 1)) 88 true, xg 90 (.load false 1 (.t 89)) 88 true, xg 91 (.bin .geq (.t 90) (.c (V.int 0))) 88 true, xo 92 (.pick (.t 88) (.t 91) (.c (V.bool false))), mv 93 92, xg 94 (.faddr 9 (.t 1)) 93 true, xg 95 (.load false 1 (.t 94)) 93 true, xg 96 (.bin .leq (.t 95) (.c (V.int 2147483648))) 93 true, xo 97 (.pick (.t 93) (.t 96) (.c (V.bool false))), mv 2 97]) (.ret)) (Qt [1, 98] (.reg [bc 99 .eql 14 (V.int 7), mv 98 99]) (.cond (.t 98) (Qt [2] (.reg [fa 100 7 1, xo 101 (.load true 2 (.t 100)), xo 102 (.build [(.int .i64 0), (.int .i64 0)] []), xo 103 (.eqagg false [0, 0] (.t 101) (.t 102)), mv 104 103, xg 105 (.faddr 9 (.t 1)) 104 true, xg 106 (.load false 1 (.t 105)) 104 true, xg 107 (.bin .eql (.t 106) (.c (V.int 0))) 104 true, xo 108 (.pick (.t 104) (.t 107) (.c (V.bool false))), mv 109 108, xg 110 (.faddr 10 (.t 1)) 109 true, xg 111 (.load false 1 (.t 110)) 109 true, xg 112 (.call Ja [(.t 111)]) 109 true, xo 113 (.pick (.t 109) (.t 112) (.c (V.bool false))), mv 2 113]) (.ret)) (.skip))))))))))))))) (Qt [2] (.reg [mc 2 (V.bool false)]) (.ret)))) def r_finding_content : List YJ := [.tmp 2]
def XL (Γ : Env) (f : Nat) : Prop := ∀ (f0 : JH) (ht : f0.text.length < 2 ^ 60), EvN Γ f [f0.v] (V.bool (X6 f0))
theorem Kg {Γ : Env} {f Q9 X5 Ja : Nat} (h : Has Γ.P f 114 (XU Q9 X5 Ja) r_finding_content) (QR : YZ Γ Q9) (Jm : WN Γ X5) (QK : Y0 Γ Ja) : XL Γ f := by
  intro f0 ht
  refine QA h (by simp) (by simp only [V.closed, Qc, V.noSl, Jh, and_self, and_true, true_and]) (by simp only [V.closed, Qc, V.noSl, Jh, and_self, and_true, true_and]) fun C hC hm => ?_
  subst hC
  unfold XU
  obtain ⟨src, host, mach, day, conf, kind, subj, alg, bits, num, text⟩ := f0
  have hN := (QK text ht).b
  simp only [X6, yC, JH.v, JH.cells] at *
  generalize hv : decide (Jx alg bits > 0) = vv
  generalize hk : (YR alg).kind = kk
  generalize hkb : (kk == 2) = kb
  generalize hd0 : decide (num ≥ 0) = d0
  generalize hd1 : decide (num ≤ 65535) = d1
  generalize hd2 : decide (num ≤ 2147483648) = d2
  generalize hd3 : decide (num ≥ 1) = d3
  generalize hd4 : decide (num ≤ 4) = d4
  generalize hnn : Ye text = nn at *
  generalize ha : (alg == 0) = a0
  generalize hb : (bits == 0) = b0
  generalize htx : (text == []) = t0
  generalize hnm : (num == 0) = n0
  have E : ∀ n : Int, kind ≠ n → (kind == n) = false := fun n h => by simpa using h
  by_cases k1 : kind = 1
  · subst k1
    repeat' (first | refine Qi fun K' hK => ?_ | refine Ql fun K' hK => ?_ | refine Qj ?_ | refine Qk ?_ | refine Qd ?_ | ((first | refine Qn ⟨_, rfl, fun hc => ?_, fun hc => ?_⟩ | refine QV (fun hc => ?_) (fun hc => ?_) | refine QW (fun hc => ?_) (fun hc => ?_)) <;> first | exact Bool.noConfusion hc | ((try simp only [znz] at hc); first | exact znf | skip)) | refine Qq ?_ | refine Qm ?_ | simp (maxSteps := 1000000) only [go_sem, Nat.reduceAdd, Nat.reduceMul, Nat.reduceEqDiff, Nat.reduceLeDiff, Nat.reduceLT, Nat.reduceSub, Int.reduceEq, Int.reduceBEq, Int.reduceLT, Int.reduceLE, Int.reduceAdd, Int.reduceToNat, reduceIte, reduceCtorEq, hv, hk, hkb, ha, hb, htx, hnm, hd0, hd1, hd2, hd3, hd4] | (refine hK _ ?_; clear hK; clear K') | refine And.intro ?_ ?_ | (apply QY; (focus first | exact (QR _ _).b | exact (Jm _).b | exact (QK _ zsd).b)) | exact zlo | omega | exact zms)
    all_goals first | (refine QF _ rfl ?_; simp only [go_sem, Nat.reduceEqDiff, Nat.reduceAdd, reduceIte, reduceCtorEq]; simp_all; done) | trace_state
  by_cases k8 : kind = 8
  · subst k8
    repeat' (first | refine Qi fun K' hK => ?_ | refine Ql fun K' hK => ?_ | refine Qj ?_ | refine Qk ?_ | refine Qd ?_ | ((first | refine Qn ⟨_, rfl, fun hc => ?_, fun hc => ?_⟩ | refine QV (fun hc => ?_) (fun hc => ?_) | refine QW (fun hc => ?_) (fun hc => ?_)) <;> first | exact Bool.noConfusion hc | ((try simp only [znz] at hc); first | exact znf | skip)) | refine Qq ?_ | refine Qm ?_ | simp (maxSteps := 1000000) only [go_sem, Nat.reduceAdd, Nat.reduceMul, Nat.reduceEqDiff, Nat.reduceLeDiff, Nat.reduceLT, Nat.reduceSub, Int.reduceEq, Int.reduceBEq, Int.reduceLT, Int.reduceLE, Int.reduceAdd, Int.reduceToNat, reduceIte, reduceCtorEq, hv, hk, hkb, ha, hb, htx, hnm, hd0, hd1, hd2, hd3, hd4] | (refine hK _ ?_; clear hK; clear K') | refine And.intro ?_ ?_ | (apply QY; (focus first | exact (QR _ _).b | exact (Jm _).b | exact (QK _ zsd).b)) | exact zlo | omega | exact zms)
    all_goals first | (refine QF _ rfl ?_; simp only [go_sem, Nat.reduceEqDiff, Nat.reduceAdd, reduceIte, reduceCtorEq]; simp_all; done) | trace_state
  by_cases k2 : kind = 2
  · subst k2
    repeat' (first | refine Qi fun K' hK => ?_ | refine Ql fun K' hK => ?_ | refine Qj ?_ | refine Qk ?_ | refine Qd ?_ | ((first | refine Qn ⟨_, rfl, fun hc => ?_, fun hc => ?_⟩ | refine QV (fun hc => ?_) (fun hc => ?_) | refine QW (fun hc => ?_) (fun hc => ?_)) <;> first | exact Bool.noConfusion hc | ((try simp only [znz] at hc); first | exact znf | skip)) | refine Qq ?_ | refine Qm ?_ | simp (maxSteps := 1000000) only [go_sem, Nat.reduceAdd, Nat.reduceMul, Nat.reduceEqDiff, Nat.reduceLeDiff, Nat.reduceLT, Nat.reduceSub, Int.reduceEq, Int.reduceBEq, Int.reduceLT, Int.reduceLE, Int.reduceAdd, Int.reduceToNat, reduceIte, reduceCtorEq, hv, hk, hkb, ha, hb, htx, hnm, hd0, hd1, hd2, hd3, hd4] | (refine hK _ ?_; clear hK; clear K') | refine And.intro ?_ ?_ | (apply QY; (focus first | exact (QR _ _).b | exact (Jm _).b | exact (QK _ zsd).b)) | exact zlo | omega | exact zms)
    all_goals first | (refine QF _ rfl ?_; simp only [go_sem, Nat.reduceEqDiff, Nat.reduceAdd, reduceIte, reduceCtorEq]; simp_all; done) | trace_state
  by_cases k3 : kind = 3
  · subst k3
    repeat' (first | refine Qi fun K' hK => ?_ | refine Ql fun K' hK => ?_ | refine Qj ?_ | refine Qk ?_ | refine Qd ?_ | ((first | refine Qn ⟨_, rfl, fun hc => ?_, fun hc => ?_⟩ | refine QV (fun hc => ?_) (fun hc => ?_) | refine QW (fun hc => ?_) (fun hc => ?_)) <;> first | exact Bool.noConfusion hc | ((try simp only [znz] at hc); first | exact znf | skip)) | refine Qq ?_ | refine Qm ?_ | simp (maxSteps := 1000000) only [go_sem, Nat.reduceAdd, Nat.reduceMul, Nat.reduceEqDiff, Nat.reduceLeDiff, Nat.reduceLT, Nat.reduceSub, Int.reduceEq, Int.reduceBEq, Int.reduceLT, Int.reduceLE, Int.reduceAdd, Int.reduceToNat, reduceIte, reduceCtorEq, hv, hk, hkb, ha, hb, htx, hnm, hd0, hd1, hd2, hd3, hd4] | (refine hK _ ?_; clear hK; clear K') | refine And.intro ?_ ?_ | (apply QY; (focus first | exact (QR _ _).b | exact (Jm _).b | exact (QK _ zsd).b)) | exact zlo | omega | exact zms)
    all_goals first | (refine QF _ rfl ?_; simp only [go_sem, Nat.reduceEqDiff, Nat.reduceAdd, reduceIte, reduceCtorEq]; simp_all; done) | trace_state
  by_cases k4 : kind = 4
  · subst k4
    repeat' (first | refine Qi fun K' hK => ?_ | refine Ql fun K' hK => ?_ | refine Qj ?_ | refine Qk ?_ | refine Qd ?_ | ((first | refine Qn ⟨_, rfl, fun hc => ?_, fun hc => ?_⟩ | refine QV (fun hc => ?_) (fun hc => ?_) | refine QW (fun hc => ?_) (fun hc => ?_)) <;> first | exact Bool.noConfusion hc | ((try simp only [znz] at hc); first | exact znf | skip)) | refine Qq ?_ | refine Qm ?_ | simp (maxSteps := 1000000) only [go_sem, Nat.reduceAdd, Nat.reduceMul, Nat.reduceEqDiff, Nat.reduceLeDiff, Nat.reduceLT, Nat.reduceSub, Int.reduceEq, Int.reduceBEq, Int.reduceLT, Int.reduceLE, Int.reduceAdd, Int.reduceToNat, reduceIte, reduceCtorEq, hv, hk, hkb, ha, hb, htx, hnm, hd0, hd1, hd2, hd3, hd4] | (refine hK _ ?_; clear hK; clear K') | refine And.intro ?_ ?_ | (apply QY; (focus first | exact (QR _ _).b | exact (Jm _).b | exact (QK _ zsd).b)) | exact zlo | omega | exact zms)
    all_goals first | (refine QF _ rfl ?_; simp only [go_sem, Nat.reduceEqDiff, Nat.reduceAdd, reduceIte, reduceCtorEq]; simp_all; done) | trace_state
  by_cases k5 : kind = 5
  · subst k5
    repeat' (first | refine Qi fun K' hK => ?_ | refine Ql fun K' hK => ?_ | refine Qj ?_ | refine Qk ?_ | refine Qd ?_ | ((first | refine Qn ⟨_, rfl, fun hc => ?_, fun hc => ?_⟩ | refine QV (fun hc => ?_) (fun hc => ?_) | refine QW (fun hc => ?_) (fun hc => ?_)) <;> first | exact Bool.noConfusion hc | ((try simp only [znz] at hc); first | exact znf | skip)) | refine Qq ?_ | refine Qm ?_ | simp (maxSteps := 1000000) only [go_sem, Nat.reduceAdd, Nat.reduceMul, Nat.reduceEqDiff, Nat.reduceLeDiff, Nat.reduceLT, Nat.reduceSub, Int.reduceEq, Int.reduceBEq, Int.reduceLT, Int.reduceLE, Int.reduceAdd, Int.reduceToNat, reduceIte, reduceCtorEq, hv, hk, hkb, ha, hb, htx, hnm, hd0, hd1, hd2, hd3, hd4] | (refine hK _ ?_; clear hK; clear K') | refine And.intro ?_ ?_ | (apply QY; (focus first | exact (QR _ _).b | exact (Jm _).b | exact (QK _ zsd).b)) | exact zlo | omega | exact zms)
    all_goals first | (refine QF _ rfl ?_; simp only [go_sem, Nat.reduceEqDiff, Nat.reduceAdd, reduceIte, reduceCtorEq]; simp_all; done) | trace_state
  by_cases k6 : kind = 6
  · subst k6
    repeat' (first | refine Qi fun K' hK => ?_ | refine Ql fun K' hK => ?_ | refine Qj ?_ | refine Qk ?_ | refine Qd ?_ | ((first | refine Qn ⟨_, rfl, fun hc => ?_, fun hc => ?_⟩ | refine QV (fun hc => ?_) (fun hc => ?_) | refine QW (fun hc => ?_) (fun hc => ?_)) <;> first | exact Bool.noConfusion hc | ((try simp only [znz] at hc); first | exact znf | skip)) | refine Qq ?_ | refine Qm ?_ | simp (maxSteps := 1000000) only [go_sem, Nat.reduceAdd, Nat.reduceMul, Nat.reduceEqDiff, Nat.reduceLeDiff, Nat.reduceLT, Nat.reduceSub, Int.reduceEq, Int.reduceBEq, Int.reduceLT, Int.reduceLE, Int.reduceAdd, Int.reduceToNat, reduceIte, reduceCtorEq, hv, hk, hkb, ha, hb, htx, hnm, hd0, hd1, hd2, hd3, hd4] | (refine hK _ ?_; clear hK; clear K') | refine And.intro ?_ ?_ | (apply QY; (focus first | exact (QR _ _).b | exact (Jm _).b | exact (QK _ zsd).b)) | exact zlo | omega | exact zms)
    all_goals first | (refine QF _ rfl ?_; simp only [go_sem, Nat.reduceEqDiff, Nat.reduceAdd, reduceIte, reduceCtorEq]; simp_all; done) | trace_state
  by_cases k7 : kind = 7
  · subst k7
    repeat' (first | refine Qi fun K' hK => ?_ | refine Ql fun K' hK => ?_ | refine Qj ?_ | refine Qk ?_ | refine Qd ?_ | ((first | refine Qn ⟨_, rfl, fun hc => ?_, fun hc => ?_⟩ | refine QV (fun hc => ?_) (fun hc => ?_) | refine QW (fun hc => ?_) (fun hc => ?_)) <;> first | exact Bool.noConfusion hc | ((try simp only [znz] at hc); first | exact znf | skip)) | refine Qq ?_ | refine Qm ?_ | simp (maxSteps := 1000000) only [go_sem, Nat.reduceAdd, Nat.reduceMul, Nat.reduceEqDiff, Nat.reduceLeDiff, Nat.reduceLT, Nat.reduceSub, Int.reduceEq, Int.reduceBEq, Int.reduceLT, Int.reduceLE, Int.reduceAdd, Int.reduceToNat, reduceIte, reduceCtorEq, hv, hk, hkb, ha, hb, htx, hnm, hd0, hd1, hd2, hd3, hd4] | (refine hK _ ?_; clear hK; clear K') | refine And.intro ?_ ?_ | (apply QY; (focus first | exact (QR _ _).b | exact (Jm _).b | exact (QK _ zsd).b)) | exact zlo | omega | exact zms)
    all_goals first | (refine QF _ rfl ?_; simp only [go_sem, Nat.reduceEqDiff, Nat.reduceAdd, reduceIte, reduceCtorEq]; simp_all; done) | trace_state
  repeat' (first | refine Qi fun K' hK => ?_ | refine Ql fun K' hK => ?_ | refine Qj ?_ | refine Qk ?_ | refine Qd ?_ | ((first | refine Qn ⟨_, rfl, fun hc => ?_, fun hc => ?_⟩ | refine QV (fun hc => ?_) (fun hc => ?_) | refine QW (fun hc => ?_) (fun hc => ?_)) <;> first | exact Bool.noConfusion hc | ((try simp only [znz] at hc); first | exact znf | skip)) | refine Qq ?_ | refine Qm ?_ | simp (maxSteps := 1000000) only [go_sem, Nat.reduceAdd, Nat.reduceMul, Nat.reduceEqDiff, Nat.reduceLeDiff, Nat.reduceLT, Nat.reduceSub, Int.reduceEq, Int.reduceBEq, Int.reduceLT, Int.reduceLE, Int.reduceAdd, Int.reduceToNat, reduceIte, reduceCtorEq, hv, hk, hkb, ha, hb, htx, hnm, hd0, hd1, hd2, hd3, hd4, E 1 k1, E 8 k8, E 2 k2, E 3 k3, E 4 k4, E 5 k5, E 6 k6, E 7 k7] | (refine hK _ ?_; clear hK; clear K') | refine And.intro ?_ ?_ | (apply QY; (focus first | exact (QR _ _).b | exact (Jm _).b | exact (QK _ zsd).b)) | exact zlo | omega | exact zms)
  all_goals first | (refine QF _ rfl ?_; simp only [go_sem, Nat.reduceEqDiff, Nat.reduceAdd, reduceIte, reduceCtorEq]; simp [*]; done) | trace_state
def WB (Ja YB : Nat) : AC := Qt [1] (.reg [xo 1 (.box true 11 (.t 0)), mc 2 (V.int 0)]) (Qt [1, 3] (.reg [fa 5 1 1, ld 6 1 5, cl 7 Ja [6], mv 8 7, xg 9 (.faddr 6 (.t 1)) 8 true, xg 10 (.load false 1 (.t 9)) 8 true, xg 11 (.call Ja [(.t 10)]) 8 true, xo 12 (.pick (.t 8) (.t 11) (.c (V.bool false))), mv 13 12, xg 14 (.faddr 2 (.t 1)) 13 true, xg 15 (.load false 1 (.t 14)) 13 true, xg 16 (.bin .geq (.t 15) (.c (V.int 0))) 13 true, xo 17 (.pick (.t 13) (.t 16) (.c (V.bool false))), mv 18 17, xg 19 (.faddr 2 (.t 1)) 18 true, xg 20 (.load false 1 (.t 19)) 18 true, xg 21 (.bin .leq (.t 20) (.c (V.int 1099511627776))) 18 true, xo 22 (.pick (.t 18) (.t 21) (.c (V.bool false))), mv 3 22]) (Qt [1, 3, 4] (.reg [fa 23 3 1, ld 24 1 23, bc 25 .geq 24 (V.int 0), mv 26 25, xg 27 (.faddr 3 (.t 1)) 26 true, xg 28 (.load false 1 (.t 27)) 26 true, xg 29 (.bin .leq (.t 28) (.c (V.int 40000))) 26 true, xo 30 (.pick (.t 26) (.t 29) (.c (V.bool false))), mv 31 30, xg 32 (.faddr 4 (.t 1)) 31 true, xg 33 (.load false 1 (.t 32)) 31 true, xg 34 (.bin .geq (.t 33) (.c (V.int 1))) 31 true, xo 35 (.pick (.t 31) (.t 34) (.c (V.bool false))), mv 36 35, xg 37 (.faddr 4 (.t 1)) 36 true, xg 38 (.load false 1 (.t 37)) 36 true, xg 39 (.bin .leq (.t 38) (.c (V.int 100))) 36 true, xo 40 (.pick (.t 36) (.t 39) (.c (V.bool false))), mv 4 40]) (Qt [] (Qt [61] (.reg [mv 41 3, xo 42 (.un .not (.t 41)), mv 43 42, mg 44 4 43 false, xg 45 (.un .not (.t 44)) 43 false, xo 46 (.pick (.t 43) (.c (V.bool true)) (.t 45)), mv 47 46, xg 48 (.faddr 0 (.t 1)) 47 false, xg 49 (.load false 1 (.t 48)) 47 false, xg 50 (.bin .lss (.t 49) (.c (V.int 1))) 47 false, xo 51 (.pick (.t 47) (.c (V.bool true)) (.t 50)), mv 52 51, xg 53 (.faddr 0 (.t 1)) 52 false, xg 54 (.load false 1 (.t 53)) 52 false, xg 55 (.bin .gtr (.t 54) (.c (V.int 7))) 52 false, xo 56 (.pick (.t 52) (.c (V.bool true)) (.t 55)), mv 57 56, xg 58 (.load true 11 (.t 1)) 57 false, xg 59 (.call YB [(.t 58)]) 57 false, xg 60 (.un .not (.t 59)) 57 false, xo 61 (.pick (.t 57) (.c (V.bool true)) (.t 60))]) (.cond (.t 61) (Qt [2] (.reg [mc 2 (V.int 24)]) (.ret)) (.skip))) (Qt [2] (.reg [mc 2 (V.int 0)]) (.ret))))) def r_finding_Check : List YJ := [.tmp 2]
def Wi (Γ : Env) (f : Nat) : Prop := ∀ (f0 : JH) (hh : f0.host.length < 2 ^ 60) (hs : f0.subj.length < 2 ^ 60) (ht : f0.text.length < 2 ^ 60), EvN Γ f [f0.v] (V.int (bif Vf f0 then 0 else 24))
theorem K9 {Γ : Env} {f Ja YB : Nat} (h : Has Γ.P f 62 (WB Ja YB) r_finding_Check) (QK : Y0 Γ Ja) (Vd : XL Γ YB) : Wi Γ f := by
  intro f0 hh hs ht
  refine QA h (by simp) (by simp only [V.closed, Qc, V.noSl, Jh, and_self, and_true, true_and]) (by simp only [V.closed, Qc, V.noSl, Jh, and_self, and_true, true_and]) fun C hC hm => ?_
  subst hC
  unfold WB
  obtain ⟨src, host, mach, day, conf, kind, subj, alg, bits, num, text⟩ := f0
  have hN1 := (QK host hh).b
  have hN2 := (QK subj hs).b
  have hC := (Vd ⟨src, host, mach, day, conf, kind, subj, alg, bits, num, text⟩ ht).b
  simp only [Vf, JH.v, JH.cells] at *
  generalize hd1 : decide (mach ≥ 0) = d1
  generalize hd2 : decide (mach ≤ 1099511627776) = d2
  generalize hd3 : decide (day ≥ 0) = d3
  generalize hd4 : decide (day ≤ 40000) = d4
  generalize hd5 : decide (conf ≥ 1) = d5
  generalize hd6 : decide (conf ≤ 100) = d6
  generalize hd7 : decide (src < 1) = d7
  generalize hd8 : decide (src > 7) = d8
  generalize X6 ⟨src, host, mach, day, conf, kind, subj, alg, bits, num, text⟩ = cc at *
  generalize Ye host = n1 at *
  generalize Ye subj = n2 at *
  repeat' (first | refine Qi fun K' hK => ?_ | refine Ql fun K' hK => ?_ | refine Qj ?_ | refine Qk ?_ | refine Qd ?_ | ((first | refine Qn ⟨_, rfl, fun hc => ?_, fun hc => ?_⟩ | refine QV (fun hc => ?_) (fun hc => ?_) | refine QW (fun hc => ?_) (fun hc => ?_)) <;> first | exact Bool.noConfusion hc | ((try simp only [znz] at hc); first | exact znf | skip)) | refine Qq ?_ | refine Qm ?_ | simp (maxSteps := 1000000) only [go_sem, Nat.reduceAdd, Nat.reduceMul, Nat.reduceEqDiff, Nat.reduceLeDiff, Nat.reduceLT, Nat.reduceSub, Int.reduceEq, Int.reduceBEq, Int.reduceLT, Int.reduceLE, Int.reduceAdd, Int.reduceToNat, reduceIte, reduceCtorEq, hd1, hd2, hd3, hd4, hd5, hd6, hd7, hd8] | (refine hK _ ?_; clear hK; clear K') | refine And.intro ?_ ?_ | (apply QY; (focus first | exact hN1 | exact hN2 | exact hC | exact (QK _ zsd).b | exact (Vd _ zsd).b)) | exact zlo | omega | exact zms)
  all_goals first | (refine QF _ rfl ?_; simp only [go_sem, Nat.reduceEqDiff, Nat.reduceAdd, reduceIte, reduceCtorEq]; simp_all; done) | trace_state
end Av
end
section
set_option linter.unusedSimpArgs false
set_option linter.unusedVariables false
set_option maxRecDepth 10000
set_option maxHeartbeats 4000000
namespace Av
open Go
attribute [local irreducible] AWp Yd Yy YK awS awC XQ awQ XW Qr Jj XP awR Jk awB okR Yk ris
def W1 : AC := Qt [] (.reg [mc 0 (.sc (.pointer none))]) (Qt [0] (.reg [xo 1 (.build [(.slice none 0 0)] []), xo 2 (.box true 1 (.t 1)), mv 0 2]) (.ret)) def r_report_begin : List YJ := [.tmp 0]
def XI (Γ : Env) (f : Nat) : Prop := EvG Γ f [] 1 ([])
theorem qQ {Γ : Env} {f : Nat} (h : Has Γ.P f 3 W1 r_report_begin)  : XI Γ f := by
  refine xz h (by simp) fun C hC hm => ?_
  subst hC
  unfold W1
  refine Qi fun K' hK => ?_
  simp (maxSteps := 1000000) only [go_sem, Nat.reduceAdd, Nat.reduceMul, Nat.reduceEqDiff, Nat.reduceLeDiff, Nat.reduceLT, Nat.reduceSub, Int.reduceEq, Int.reduceBEq, Int.reduceLT, Int.reduceLE, Int.reduceAdd, Int.reduceToNat, reduceIte, reduceCtorEq]
  refine hK _ ?_
  clear hK
  clear K'
  (try simp only [go_sem, Nat.reduceAdd, Nat.reduceMul, Nat.reduceEqDiff, Nat.reduceLeDiff, Nat.reduceLT, Nat.reduceSub, Int.reduceEq, Int.reduceBEq, Int.reduceLT, Int.reduceLE, Int.reduceAdd, Int.reduceToNat, reduceIte, reduceCtorEq])
  refine Qi fun K' hK => ?_
  simp (maxSteps := 1000000) only [go_sem, Nat.reduceAdd, Nat.reduceMul, Nat.reduceEqDiff, Nat.reduceLeDiff, Nat.reduceLT, Nat.reduceSub, Int.reduceEq, Int.reduceBEq, Int.reduceLT, Int.reduceLE, Int.reduceAdd, Int.reduceToNat, reduceIte, reduceCtorEq]
  refine hK _ ?_
  clear hK
  clear K'
  (try simp only [go_sem, Nat.reduceAdd, Nat.reduceMul, Nat.reduceEqDiff, Nat.reduceLeDiff, Nat.reduceLT, Nat.reduceSub, Int.reduceEq, Int.reduceBEq, Int.reduceLT, Int.reduceLE, Int.reduceAdd, Int.reduceToNat, reduceIte, reduceCtorEq])
  refine aat 2000 0 1 rfl rfl ?_
  repeat' (first | refine Qi fun K' hK => ?_ | refine Ql fun K' hK => ?_ | refine Qj ?_ | refine Qk ?_ | refine Qd ?_ | ((first | refine Qn ⟨_, rfl, fun hc => ?_, fun hc => ?_⟩ | refine QV (fun hc => ?_) (fun hc => ?_) | refine QW (fun hc => ?_) (fun hc => ?_)) <;> first | exact Bool.noConfusion hc | ((try simp only [znz] at hc); first | exact znf | skip)) | refine Qq ?_ | refine Qm ?_ | simp (maxSteps := 1000000) only [go_sem, Nat.reduceAdd, Nat.reduceMul, Nat.reduceEqDiff, Nat.reduceLeDiff, Nat.reduceLT, Nat.reduceSub, Int.reduceEq, Int.reduceBEq, Int.reduceLT, Int.reduceLE, Int.reduceAdd, Int.reduceToNat, reduceIte, reduceCtorEq] | (refine hK _ ?_; clear hK; clear K') | refine And.intro ?_ ?_ | exact zlo | omega | exact zms)
  all_goals (refine acJ 2000 _ _ _ rfl ?_ rfl rfl ?_ ?_ ?_)
  all_goals first | rfl | decide | (simp only [go_sem, Nat.reduceEqDiff, Nat.reduceAdd, reduceIte, reduceCtorEq]; simp [conv]; done) | trace_state
def Xa : AC := Qt [0, 1] (.reg [mc 4 (.sc (.pointer none))]) (Qt [0] (.reg [mv 5 0, mv 6 0, nk 7 6, fa 8 0 7, ld 9 1 8, mv 10 1, xo 11 (.bslice 1 1 false [(.string ⟨#[]⟩)] [(0, (.t 10))]), xo 12 (.append 1 16 [(.string ⟨#[]⟩)] (.t 9) (.t 11)), nk 13 5, fa 14 0 13, xs 1 14 12]) (Qt [4] (.reg [mv 15 0, mv 4 15]) (.ret))) def r_report_line__word : List YJ := [.tmp 4]
def Jz (Γ : Env) (f : Nat) : Prop := ∀ (s : List UInt8) (ws : List (List UInt8)) (hw : ws.length < 2 ^ 30), EvU Γ f [V.str s] 1 ((ws.map V.str)) (.ptr 0 0) (((ws ++ [s]).map V.str))
theorem Us {Γ : Env} {f : Nat} (h : Has Γ.P f 16 Xa r_report_line__word)  : Jz Γ f := by
  intro s ws hw
  refine UM h (by simp) (by first | exact .inr rfl | exact .inl (by simp only [V.closed, Qc, and_self, and_true])) fun C hC hm => ?_
  subst hC
  unfold Xa
  have htk : List.take ws.length (List.map V.str ws) = List.map V.str ws := List.take_of_length_le (by simp)
  repeat' (first | refine Qi fun K' hK => ?_ | refine Ql fun K' hK => ?_ | refine Qj ?_ | refine Qk ?_ | refine Qd ?_ | ((first | refine Qn ⟨_, rfl, fun hc => ?_, fun hc => ?_⟩ | refine QV (fun hc => ?_) (fun hc => ?_) | refine QW (fun hc => ?_) (fun hc => ?_)) <;> first | exact Bool.noConfusion hc | ((try simp only [znz] at hc); first | exact znf | skip)) | refine Qq ?_ | refine Qm ?_ | simp (maxSteps := 1000000) only [go_sem, Nat.reduceAdd, Nat.reduceMul, Nat.reduceEqDiff, Nat.reduceLeDiff, Nat.reduceLT, Nat.reduceSub, Int.reduceEq, Int.reduceBEq, Int.reduceLT, Int.reduceLE, Int.reduceAdd, Int.reduceToNat, reduceIte, reduceCtorEq, List.length_map, htk] | (refine hK _ ?_; clear hK; clear K') | refine And.intro ?_ ?_ | exact zlo | omega | exact zms)
  all_goals first | ((refine aag _ _ _ rfl (by first | (simp only [go_sem, Nat.reduceEqDiff, Nat.reduceAdd, reduceIte, reduceCtorEq]; done) | (simp only [go_sem, Nat.reduceEqDiff, Nat.reduceAdd, reduceIte, reduceCtorEq]; simp [conv]; done)) rfl rfl (by decide) ⟨_, rfl⟩ ?_ ?_) <;> (simp; done)) | trace_state
def Yx (Qv Qa : Nat) : AC := Qt [0, 1] (.reg [mc 4 (.sc (.pointer none))]) (Qt [4] (.reg [mv 5 0, mv 6 1, cl 7 Qv [6], cl 8 Qa [5, 7], mv 4 8]) (.ret)) def r_report_line__number : List YJ := [.tmp 4]
def Yi (Γ : Env) (f : Nat) : Prop := ∀ (n : Int) (ws : List (List UInt8)) (hw : ws.length < 2 ^ 30) (h0 : -9223372036854775808 ≤ n) (h1 : n ≤ 9223372036854775807), EvU Γ f [V.int n] 1 ((ws.map V.str)) (.ptr 0 0) (((ws ++ [Lib.itoa n]).map V.str))
theorem VQ {Γ : Env} {f Qv Qa : Nat} (h : Has Γ.P f 9 (Yx Qv Qa) r_report_line__number) (X1 : WI Γ Qv) (Qf : Jz Γ Qa) : Yi Γ f := by
  intro n ws hw h0 h1
  refine UM h (by simp) (by first | exact .inr rfl | exact .inl (by simp only [V.closed, Qc, and_self, and_true])) fun C hC hm => ?_
  subst hC
  unfold Yx
  have hW := Qf (Lib.itoa n) ws hw
  repeat' (first | refine Qi fun K' hK => ?_ | refine Ql fun K' hK => ?_ | refine Qj ?_ | refine Qk ?_ | refine Qd ?_ | ((first | refine Qn ⟨_, rfl, fun hc => ?_, fun hc => ?_⟩ | refine QV (fun hc => ?_) (fun hc => ?_) | refine QW (fun hc => ?_) (fun hc => ?_)) <;> first | exact Bool.noConfusion hc | ((try simp only [znz] at hc); first | exact znf | skip)) | refine Qq ?_ | refine Qm ?_ | simp (maxSteps := 1000000) only [go_sem, Nat.reduceAdd, Nat.reduceMul, Nat.reduceEqDiff, Nat.reduceLeDiff, Nat.reduceLT, Nat.reduceSub, Int.reduceEq, Int.reduceBEq, Int.reduceLT, Int.reduceLE, Int.reduceAdd, Int.reduceToNat, reduceIte, reduceCtorEq] | (refine hK _ ?_; clear hK; clear K') | refine And.intro ?_ ?_ | (apply KY; (focus exact rfl); (focus exact rfl); (focus first | exact hW | exact (Qf _ _ zsd)); (focus exact rfl); (focus first | exact rfl | (simp; done))) | (apply QY; (focus first | exact (X1 _ zsd zsd).b)) | exact zlo | omega | exact zms)
  all_goals first | ((refine aag _ _ _ rfl (by first | (simp only [go_sem, Nat.reduceEqDiff, Nat.reduceAdd, reduceIte, reduceCtorEq]; done) | (simp only [go_sem, Nat.reduceEqDiff, Nat.reduceAdd, reduceIte, reduceCtorEq]; simp [conv]; done)) rfl rfl (by decide) ⟨_, rfl⟩ ?_ ?_) <;> (simp; done)) | trace_state
def XB (X2 : Nat) : AC := Qt [0] (.reg [mc 2 (V.str [])]) (Qt [2] (.reg [mv 3 0, nk 4 3, fa 5 0 4, ld 6 1 5, xo 7 (.call X2 [(.t 6), (.c (V.str [32]))]), bc 8 .add 7 (V.str [10]), mv 2 8]) (.ret)) def r_report_line__end : List YJ := [.tmp 2]
def Yb (Γ : Env) (f : Nat) : Prop := ∀ (ws : List (List UInt8)) (hw : ws.length < 2 ^ 30) (hl : ([32].intercalate ws).length < 2 ^ 40), EvU Γ f [] 1 ((ws.map V.str)) (V.str ([32].intercalate ws ++ [10])) ((ws.map V.str))
theorem UK {Γ : Env} {f X2 : Nat} (h : Has Γ.P f 9 (XB X2) r_report_line__end) (jn : Uc Γ X2) : Yb Γ f := by
  intro ws hw hl
  refine UM h (by simp) (by first | exact .inr rfl | exact .inl (by simp only [V.closed, Qc, and_self, and_true])) fun C hC hm => ?_
  subst hC
  unfold XB
  repeat' (first | refine Qi fun K' hK => ?_ | refine Ql fun K' hK => ?_ | refine Qj ?_ | refine Qk ?_ | refine Qd ?_ | ((first | refine Qn ⟨_, rfl, fun hc => ?_, fun hc => ?_⟩ | refine QV (fun hc => ?_) (fun hc => ?_) | refine QW (fun hc => ?_) (fun hc => ?_)) <;> first | exact Bool.noConfusion hc | ((try simp only [znz] at hc); first | exact znf | skip)) | refine Qq ?_ | refine Qm ?_ | simp (maxSteps := 1000000) only [go_sem, Nat.reduceAdd, Nat.reduceMul, Nat.reduceEqDiff, Nat.reduceLeDiff, Nat.reduceLT, Nat.reduceSub, Int.reduceEq, Int.reduceBEq, Int.reduceLT, Int.reduceLE, Int.reduceAdd, Int.reduceToNat, reduceIte, reduceCtorEq, List.take_length] | (refine hK _ ?_; clear hK; clear K') | refine And.intro ?_ ?_ | (apply QY; (focus first | exact (jn _ _ zsd zsd).b)) | exact zlo | omega | exact zms)
  all_goals first | ((refine aag _ _ _ rfl (by first | (simp only [go_sem, Nat.reduceEqDiff, Nat.reduceAdd, reduceIte, reduceCtorEq]; done) | (simp only [go_sem, Nat.reduceEqDiff, Nat.reduceAdd, reduceIte, reduceCtorEq]; simp [conv]; done)) rfl rfl (by decide) ⟨_, rfl⟩ ?_ ?_) <;> (simp; done)) | trace_state
def VI (ws : List (List UInt8)) (k : Int) : List UInt8 := if k < 1 ∨ k > ws.length then [] else ws.getD (k - 1).toNat []
def abE (s : List UInt8) : Bool := s.all fun b => decide (b.toNat < 128)
def Vg (Γ : Env) (f : Nat) : Prop := ∀ (s : List UInt8) (hs : s.length < 2 ^ 20) (ha : abE s = true), EvC Γ f [V.str s] (.sl 1 ((Lib.fields s).map V.str))
def W0 (YW : Nat) : AC := Qt [0, 1] (.reg [mc 4 (V.str []), mc 5 (V.bool false)]) (Qt [1, 6] (.reg [mv 7 0, cl 8 YW [7], mv 6 8]) (Qt [1, 6] (Qt [1, 6, 16] (.reg [mv 9 1, bc 10 .lss 9 (V.int 1), mv 11 10, mg 12 1 11 false, mg 13 6 11 false, xg 14 (.lenL (.t 13)) 11 false, xg 15 (.bin .gtr (.t 12) (.t 14)) 11 false, xo 16 (.pick (.t 11) (.c (V.bool true)) (.t 15))]) (.cond (.t 16) (Qt [4, 5] (.reg [mc 4 (V.str []), mc 5 (V.bool false)]) (.ret)) (.skip))) (Qt [4, 5] (.reg [mv 17 6, mv 18 1, bc 19 .sub 18 (V.int 1), ia 20 1 17 19, ld 21 1 20, mv 4 21, mc 5 (V.bool true)]) (.ret)))) def r_report_named : List YJ := [.tmp 4, .tmp 5]
def XH (Γ : Env) (f : Nat) : Prop := ∀ (s : List UInt8) (k : Int) (hs : s.length < 2 ^ 20) (ha : abE s = true) (hk : -9223372036854775808 ≤ k) (hk2 : k < 2 ^ 40), EvN Γ f [V.str s, V.int k] (.tup [V.str (VI (Lib.fields s) k), V.bool (decide (1 ≤ k) && decide (k ≤ (Lib.fields s).length))])
theorem qP {Γ : Env} {f YW : Nat} (h : Has Γ.P f 22 (W0 YW) r_report_named) (YV : Vg Γ YW) : XH Γ f := by
  intro s k hs ha hk hk2
  refine QA h (by simp) (by simp only [V.closed, Qc, V.noSl, Jh, and_self, and_true, true_and]) (by simp only [V.closed, Qc, V.noSl, Jh, and_self, and_true, true_and]) fun C hC hm => ?_
  subst hC
  unfold W0
  have hF := (YV s hs ha).b
  generalize Lib.fields s = ws at *
  by_cases h1 : k < 1
  · have e1 : decide (k < 1) = true := decide_eq_true h1
    have e2 : decide (1 ≤ k) = false := decide_eq_false (by omega)
    have e3 : VI ws k = [] := by unfold VI; rw [if_pos (.inl h1)]
    rw [e2, e3]
    repeat' (first | refine Qi fun K' hK => ?_ | refine Ql fun K' hK => ?_ | refine Qj ?_ | refine Qk ?_ | refine Qd ?_ | ((first | refine Qn ⟨_, rfl, fun hc => ?_, fun hc => ?_⟩ | refine QV (fun hc => ?_) (fun hc => ?_) | refine QW (fun hc => ?_) (fun hc => ?_)) <;> first | exact Bool.noConfusion hc | ((try simp only [znz] at hc); first | exact znf | skip)) | refine Qq ?_ | refine Qm ?_ | simp (maxSteps := 1000000) only [go_sem, Nat.reduceAdd, Nat.reduceMul, Nat.reduceEqDiff, Nat.reduceLeDiff, Nat.reduceLT, Nat.reduceSub, Int.reduceEq, Int.reduceBEq, Int.reduceLT, Int.reduceLE, Int.reduceAdd, Int.reduceToNat, reduceIte, reduceCtorEq, e1] | (refine hK _ ?_; clear hK; clear K') | refine And.intro ?_ ?_ | (apply QY; (focus first | exact hF | exact (YV _ zsd zsd).b)) | exact zlo | omega | exact zms)
    all_goals first | (refine QF _ rfl ?_; simp only [go_sem, Nat.reduceEqDiff, Nat.reduceAdd, reduceIte, reduceCtorEq]; done) | trace_state
  · have e1 : decide (k < 1) = false := decide_eq_false h1
    have e2 : decide (1 ≤ k) = true := decide_eq_true (by omega)
    by_cases h2 : k > ws.length
    · have e4 : decide (k > (((ws.map V.str).length : Nat) : Int)) = true := decide_eq_true (by simp; omega)
      have e5 : decide (k ≤ (ws.length : Int)) = false := decide_eq_false (by omega)
      have e3 : VI ws k = [] := by unfold VI; rw [if_pos (.inr h2)]
      rw [e2, e3, e5]
      repeat' (first | refine Qi fun K' hK => ?_ | refine Ql fun K' hK => ?_ | refine Qj ?_ | refine Qk ?_ | refine Qd ?_ | ((first | refine Qn ⟨_, rfl, fun hc => ?_, fun hc => ?_⟩ | refine QV (fun hc => ?_) (fun hc => ?_) | refine QW (fun hc => ?_) (fun hc => ?_)) <;> first | exact Bool.noConfusion hc | ((try simp only [znz] at hc); first | exact znf | skip)) | refine Qq ?_ | refine Qm ?_ | simp (maxSteps := 1000000) only [go_sem, Nat.reduceAdd, Nat.reduceMul, Nat.reduceEqDiff, Nat.reduceLeDiff, Nat.reduceLT, Nat.reduceSub, Int.reduceEq, Int.reduceBEq, Int.reduceLT, Int.reduceLE, Int.reduceAdd, Int.reduceToNat, reduceIte, reduceCtorEq, e1, e4] | (refine hK _ ?_; clear hK; clear K') | refine And.intro ?_ ?_ | (apply QY; (focus first | exact hF | exact (YV _ zsd zsd).b)) | exact zlo | omega | exact zms)
      all_goals first | (refine QF _ rfl ?_; simp only [go_sem, Nat.reduceEqDiff, Nat.reduceAdd, reduceIte, reduceCtorEq]; done) | trace_state
    · have e4 : decide (k > (((ws.map V.str).length : Nat) : Int)) = false := decide_eq_false (by simp; omega)
      have e5 : decide (k ≤ (ws.length : Int)) = true := decide_eq_true (by omega)
      have hw : IntKind.i64.wrap (k - 1) = k - 1 := Wp (by omega) (by omega)
      have hlt : (k - 1).toNat < ws.length := by omega
      have hget : ws[(k - 1).toNat]? = some (VI ws k) := by
        unfold VI; rw [if_neg (by omega), List.getD_eq_getElem?_getD, List.getElem?_eq_getElem hlt]; rfl
      rw [e2, e5]
      repeat' (first | refine Qi fun K' hK => ?_ | refine Ql fun K' hK => ?_ | refine Qj ?_ | refine Qk ?_ | refine Qd ?_ | ((first | refine Qn ⟨_, rfl, fun hc => ?_, fun hc => ?_⟩ | refine QV (fun hc => ?_) (fun hc => ?_) | refine QW (fun hc => ?_) (fun hc => ?_)) <;> first | exact Bool.noConfusion hc | ((try simp only [znz] at hc); first | exact znf | skip)) | refine Qq ?_ | refine Qm ?_ | simp (maxSteps := 1000000) only [go_sem, Nat.reduceAdd, Nat.reduceMul, Nat.reduceEqDiff, Nat.reduceLeDiff, Nat.reduceLT, Nat.reduceSub, Int.reduceEq, Int.reduceBEq, Int.reduceLT, Int.reduceLE, Int.reduceAdd, Int.reduceToNat, reduceIte, reduceCtorEq, e1, e4, hw, List.getElem?_map, hget] | (refine hK _ ?_; clear hK; clear K') | refine And.intro ?_ ?_ | (apply QY; (focus first | exact hF | exact (YV _ zsd zsd).b)) | exact zlo | omega | exact zms)
      all_goals first | (refine QF _ rfl ?_; simp only [go_sem, Nat.reduceEqDiff, Nat.reduceAdd, reduceIte, reduceCtorEq]; done) | omega | trace_state
end Av
end
section
set_option linter.unusedSimpArgs false
set_option linter.unusedVariables false
set_option maxRecDepth 10000
set_option maxHeartbeats 4000000
namespace Av
open Go
attribute [local irreducible] AWp Yd Yy YK awS awC XQ awQ XW Qr Jj XP awR Jk awB okR Yk ris
abbrev aco : V := .sc (.slice none 0 0)
abbrev ade : V := .agg [aco, aco, aco]
def Y7 : List AO := [mv 41 5, bc 42 .gtr 41 (V.int 0), mv 43 42, mg 44 0 43 true, mg 45 5 43 true, xg 46 (.bin .sub (.t 45) (.c (V.int 1))) 43 true, xg 47 (.iaddr 2 (.t 44) (.t 46)) 43 true, xg 48 (.faddr 0 (.t 47)) 43 true, xg 49 (.load false 1 (.t 48)) 43 true, xg 50 (.faddr 0 (.t 6)) 43 true, xg 51 (.load false 1 (.t 50)) 43 true, xg 52 (.bin .gtr (.t 49) (.t 51)) 43 true, mg 53 52 43 true, mg 54 0 53 false, mg 55 5 53 false, xg 56 (.bin .sub (.t 55) (.c (V.int 1))) 53 false, xg 57 (.iaddr 2 (.t 54) (.t 56)) 53 false, xg 58 (.faddr 0 (.t 57)) 53 false, xg 59 (.load false 1 (.t 58)) 53 false, xg 60 (.faddr 0 (.t 6)) 53 false, xg 61 (.load false 1 (.t 60)) 53 false, xg 62 (.bin .eql (.t 59) (.t 61)) 53 false, mg 63 62 53 false, mg 64 0 63 true, mg 65 5 63 true, xg 66 (.bin .sub (.t 65) (.c (V.int 1))) 63 true, xg 67 (.iaddr 2 (.t 64) (.t 66)) 63 true, xg 68 (.faddr 1 (.t 67)) 63 true, xg 69 (.load false 1 (.t 68)) 63 true, xg 70 (.faddr 1 (.t 6)) 63 true, xg 71 (.load false 1 (.t 70)) 63 true, xg 72 (.bin .geq (.t 69) (.t 71)) 63 true, xg 73 (.pick (.t 63) (.t 72) (.c (V.bool false))) 53 false, xg 74 (.pick (.t 53) (.c (V.bool true)) (.t 73)) 43 true, xo 75 (.pick (.t 43) (.t 74) (.c (V.bool false)))]
def Xe : List (List Nat) := [[], [0], [1], [2], [2], [4, 2], [3, 5, 2], [6, 2], [7, 2], [2], [9, 2], [8, 10, 2], [11, 2, 2], [12], [12], [14, 12], [13, 15, 12], [16, 12], [17, 12], [12], [19, 12], [18, 20, 12], [21, 12, 12], [22], [22], [24, 22], [23, 25, 22], [26, 22], [27, 22], [22], [29, 22], [28, 30, 22], [22, 31, 12], [12, 32, 2], [2, 33]]
def Y3 : OT := .one 0 (.one 1 (.one 2 (.one 3 (.one 4 (.one 5 (.one 6 (.one 7 (.one 8 (.one 9 (.one 10 (.one 11 (.one 12 (.one 13 (.one 14 (.one 15 (.one 16 (.one 17 (.one 18 (.one 19 (.one 20 (.one 21 (.one 22 (.one 23 (.one 24 (.one 25 (.one 26 (.one 27 (.one 28 (.one 29 (.one 30 (.one 31 (.one 32 (.one 33 (.one 34 (.done)))))))))))))))))))))))))))))))))))
def J4 : OP := .one 0 false [] (mv 41 5) (.one 1 false [] (bc 42 .gtr 41 (V.int 0)) (.one 2 false [] (mv 43 42) (.one 3 false [] (mg 44 0 43 true) (.one 4 false [] (mg 45 5 43 true) (.one 5 false [] (xg 46 (.bin .sub (.t 45) (.c (V.int 1))) 43 true) (.one 6 false [] (xg 47 (.iaddr 2 (.t 44) (.t 46)) 43 true) (.one 7 false [] (xg 48 (.faddr 0 (.t 47)) 43 true) (.one 8 false [] (xg 49 (.load false 1 (.t 48)) 43 true) (.one 9 false [] (xg 50 (.faddr 0 (.t 6)) 43 true) (.one 10 false [] (xg 51 (.load false 1 (.t 50)) 43 true) (.one 11 false [] (xg 52 (.bin .gtr (.t 49) (.t 51)) 43 true) (.one 12 false [] (mg 53 52 43 true) (.one 13 false [] (mg 54 0 53 false) (.one 14 false [] (mg 55 5 53 false) (.one 15 false [] (xg 56 (.bin .sub (.t 55) (.c (V.int 1))) 53 false) (.one 16 false [] (xg 57 (.iaddr 2 (.t 54) (.t 56)) 53 false) (.one 17 false [] (xg 58 (.faddr 0 (.t 57)) 53 false) (.one 18 false [] (xg 59 (.load false 1 (.t 58)) 53 false) (.one 19 false [] (xg 60 (.faddr 0 (.t 6)) 53 false) (.one 20 false [] (xg 61 (.load false 1 (.t 60)) 53 false) (.one 21 false [] (xg 62 (.bin .eql (.t 59) (.t 61)) 53 false) (.one 22 false [] (mg 63 62 53 false) (.one 23 false [] (mg 64 0 63 true) (.one 24 false [] (mg 65 5 63 true) (.one 25 false [] (xg 66 (.bin .sub (.t 65) (.c (V.int 1))) 63 true) (.one 26 false [] (xg 67 (.iaddr 2 (.t 64) (.t 66)) 63 true) (.one 27 false [] (xg 68 (.faddr 1 (.t 67)) 63 true) (.one 28 false [] (xg 69 (.load false 1 (.t 68)) 63 true) (.one 29 false [] (xg 70 (.faddr 1 (.t 6)) 63 true) (.one 30 false [] (xg 71 (.load false 1 (.t 70)) 63 true) (.one 31 false [] (xg 72 (.bin .geq (.t 69) (.t 71)) 63 true) (.one 32 false [] (xg 73 (.pick (.t 63) (.t 72) (.c (V.bool false))) 53 false) (.one 33 false [] (xg 74 (.pick (.t 53) (.c (V.bool true)) (.t 73)) 43 true) (.one 34 false [] (xo 75 (.pick (.t 43) (.t 74) (.c (V.bool false)))) (.done)))))))))))))))))))))))))))))))))))
theorem J7 : okR (Y7) Xe [] Y3 = true := by kernel_rfl
theorem J1 : Yk (ris (Y7) Xe []) Y3 = J4 := by kernel_rfl def c_exposure_linked : AC := Qt [0, 1] (.reg [mc 4 (V.bool false)]) (Qt [0] (Qt [0, 1, 7, 8, 9] (.reg [mv 7 0, ln 8 7, mc 9 (V.int 0)]) (.block 0 (jj [0, 1, 7, 8, 9] (Qt [0, 1, 7, 8, 9, 10] (.reg [bn 10 .lss 9 8]) (Qt [0, 1, 7, 8, 9] (.cond (.t 10) (.skip) (.exit 0)) (Qt [0, 1, 7, 8, 9] (.block 1 (Qt [0, 1, 5, 6, 7, 8, 9] (.reg [mv 11 9, ia 12 2 7 9, xo 13 (.load true 2 (.t 12)), xo 6 (.alloc [.val (.int .i64 0), .val (.int .i64 0)]), mv 5 11, xs 2 6 13]) (Qt [0, 1, 5, 6, 7, 8, 9] (Qt [0, 1, 5, 6, 7, 8, 9, 40] (.reg [fa 14 0 6, ld 15 1 14, bc 16 .lss 15 (V.int 0), mv 17 16, xg 18 (.faddr 0 (.t 6)) 17 false, xg 19 (.load false 1 (.t 18)) 17 false, mg 20 1 17 false, xg 21 (.bin .geq (.t 19) (.t 20)) 17 false, xo 22 (.pick (.t 17) (.c (V.bool true)) (.t 21)), mv 23 22, xg 24 (.faddr 1 (.t 6)) 23 false, xg 25 (.load false 1 (.t 24)) 23 false, xg 26 (.bin .lss (.t 25) (.c (V.int 0))) 23 false, xo 27 (.pick (.t 23) (.c (V.bool true)) (.t 26)), mv 28 27, xg 29 (.faddr 1 (.t 6)) 28 false, xg 30 (.load false 1 (.t 29)) 28 false, mg 31 1 28 false, xg 32 (.bin .geq (.t 30) (.t 31)) 28 false, xo 33 (.pick (.t 28) (.c (V.bool true)) (.t 32)), mv 34 33, xg 35 (.faddr 0 (.t 6)) 34 false, xg 36 (.load false 1 (.t 35)) 34 false, xg 37 (.faddr 1 (.t 6)) 34 false, xg 38 (.load false 1 (.t 37)) 34 false, xg 39 (.bin .eql (.t 36) (.t 38)) 34 false, xo 40 (.pick (.t 34) (.c (V.bool true)) (.t 39))]) (.cond (.t 40) (Qt [4] (.reg [mc 4 (V.bool false)]) (.ret)) (.skip))) (Qt [0, 1, 7, 8, 9, 75] (ww [] Y3 (J4) (Y7) Xe) (.cond (.t 75) (Qt [4] (.reg [mc 4 (V.bool false)]) (.ret)) (.skip)))))) (.reg [bc 76 .add 9 (V.int 1), mv 9 76]))))))) (Qt [4] (.reg [mv 77 0, ln 78 77, bc 79 .leq 78 (V.int 40), mv 4 79]) (.ret))) def r_exposure_linked : List YJ := [.tmp 4]
def XM (Γ : Env) (f : Nat) : Prop := EvN Γ f [aco, V.int 0] (V.bool true)
theorem Kh {Γ : Env} {f : Nat} (h : Has Γ.P f 80 c_exposure_linked r_exposure_linked)  : XM Γ f := by
  refine QA h (by simp) (by simp only [V.closed, Qc, V.noSl, Jh, and_self, and_true, true_and]) (by simp only [V.closed, Qc, V.noSl, Jh, and_self, and_true, true_and]) fun C hC hm => ?_
  subst hC
  unfold c_exposure_linked
  repeat' (first | refine Qi fun K' hK => ?_ | refine Ql fun K' hK => ?_ | refine QZ 35 (fun _ => true) rfl (J7) (J1) fun K' hK => ?_ | refine Q0 35 (fun _ => true) rfl (J7) (J1) fun K' hK => ?_ | refine Qj ?_ | refine Qk ?_ | refine Qd ?_ | ((first | refine Qn ⟨_, rfl, fun hc => ?_, fun hc => ?_⟩ | refine QV (fun hc => ?_) (fun hc => ?_) | refine QW (fun hc => ?_) (fun hc => ?_)) <;> first | exact Bool.noConfusion hc | ((try simp only [znz] at hc); first | exact znf | skip)) | refine Qq ?_ | refine Qm ?_ | simp (maxSteps := 1000000) only [go_sem, Nat.reduceAdd, Nat.reduceMul, Nat.reduceEqDiff, Nat.reduceLeDiff, Nat.reduceLT, Nat.reduceSub, Int.reduceEq, Int.reduceBEq, Int.reduceLT, Int.reduceLE, Int.reduceAdd, Int.reduceToNat, reduceIte, reduceCtorEq, J4] | (refine hK _ ?_; clear hK; clear K') | refine And.intro ?_ ?_ | exact zlo | omega | exact zms)
  refine yi ?_
  repeat' (first | refine Qi fun K' hK => ?_ | refine Ql fun K' hK => ?_ | refine QZ 35 (fun _ => true) rfl (J7) (J1) fun K' hK => ?_ | refine Q0 35 (fun _ => true) rfl (J7) (J1) fun K' hK => ?_ | refine Qj ?_ | refine Qk ?_ | refine Qd ?_ | ((first | refine Qn ⟨_, rfl, fun hc => ?_, fun hc => ?_⟩ | refine QV (fun hc => ?_) (fun hc => ?_) | refine QW (fun hc => ?_) (fun hc => ?_)) <;> first | exact Bool.noConfusion hc | ((try simp only [znz] at hc); first | exact znf | skip)) | refine Qq ?_ | refine Qm ?_ | simp (maxSteps := 1000000) only [go_sem, Nat.reduceAdd, Nat.reduceMul, Nat.reduceEqDiff, Nat.reduceLeDiff, Nat.reduceLT, Nat.reduceSub, Int.reduceEq, Int.reduceBEq, Int.reduceLT, Int.reduceLE, Int.reduceAdd, Int.reduceToNat, reduceIte, reduceCtorEq, J4] | (refine hK _ ?_; clear hK; clear K') | refine And.intro ?_ ?_ | exact zlo | omega | exact zms)
  all_goals first | (refine QF _ rfl ?_; simp only [go_sem, Nat.reduceEqDiff, Nat.reduceAdd, reduceIte, reduceCtorEq]; done) | trace_state
def Q4 : AC := Qt [0, 1] (.reg [mc 4 (V.int 0)]) (Qt [] (Qt [0, 1, 7, 8] (.reg [mv 6 0, ln 7 6, mc 8 (V.int 0)]) (.block 0 (jj [0, 1, 7, 8] (Qt [0, 1, 7, 8, 9] (.reg [bn 9 .lss 8 7]) (Qt [0, 1, 7, 8] (.cond (.t 9) (.skip) (.exit 0)) (Qt [0, 1, 7, 8] (.block 1 (Qt [0, 1, 5, 7, 8] (.reg [mv 10 8, mv 5 10]) (Qt [0, 1, 5, 7, 8, 16] (.reg [mv 11 1, mv 12 0, mv 13 5, ia 14 5 12 13, xo 15 (.load true 5 (.t 14)), xo 16 (.callv (.t 11) [(.t 15)])]) (.cond (.t 16) (Qt [4] (.reg [mv 17 5, mv 4 17]) (.ret)) (.skip))))) (.reg [bc 18 .add 8 (V.int 1), mv 8 18]))))))) (Qt [4] (.reg [mc 4 (V.int (-1))]) (.ret))) def r_slices_IndexFunc___api_Item_api_Item : List YJ := [.tmp 4]
def Q3 (Γ : Env) (f : Nat) : Prop := ∀ (g : Nat), EvN Γ f [aco, .clo g []] (V.int (-1))
theorem Yv {Γ : Env} {f : Nat} (h : Has Γ.P f 19 Q4 r_slices_IndexFunc___api_Item_api_Item)  : Q3 Γ f := by
  intro g
  refine QA h (by simp) (by simp only [V.closed, Qc, V.noSl, Jh, and_self, and_true, true_and]) (by simp only [V.closed, Qc, V.noSl, Jh, and_self, and_true, true_and]) fun C hC hm => ?_
  subst hC
  unfold Q4
  repeat' (first | refine Qi fun K' hK => ?_ | refine Ql fun K' hK => ?_ | refine Qj ?_ | refine Qk ?_ | refine Qd ?_ | ((first | refine Qn ⟨_, rfl, fun hc => ?_, fun hc => ?_⟩ | refine QV (fun hc => ?_) (fun hc => ?_) | refine QW (fun hc => ?_) (fun hc => ?_)) <;> first | exact Bool.noConfusion hc | ((try simp only [znz] at hc); first | exact znf | skip)) | refine Qq ?_ | refine Qm ?_ | simp (maxSteps := 1000000) only [go_sem, Nat.reduceAdd, Nat.reduceMul, Nat.reduceEqDiff, Nat.reduceLeDiff, Nat.reduceLT, Nat.reduceSub, Int.reduceEq, Int.reduceBEq, Int.reduceLT, Int.reduceLE, Int.reduceAdd, Int.reduceToNat, reduceIte, reduceCtorEq] | (refine hK _ ?_; clear hK; clear K') | refine And.intro ?_ ?_ | exact zlo | omega | exact zms)
  refine yi ?_
  repeat' (first | refine Qi fun K' hK => ?_ | refine Ql fun K' hK => ?_ | refine Qj ?_ | refine Qk ?_ | refine Qd ?_ | ((first | refine Qn ⟨_, rfl, fun hc => ?_, fun hc => ?_⟩ | refine QV (fun hc => ?_) (fun hc => ?_) | refine QW (fun hc => ?_) (fun hc => ?_)) <;> first | exact Bool.noConfusion hc | ((try simp only [znz] at hc); first | exact znf | skip)) | refine Qq ?_ | refine Qm ?_ | simp (maxSteps := 1000000) only [go_sem, Nat.reduceAdd, Nat.reduceMul, Nat.reduceEqDiff, Nat.reduceLeDiff, Nat.reduceLT, Nat.reduceSub, Int.reduceEq, Int.reduceBEq, Int.reduceLT, Int.reduceLE, Int.reduceAdd, Int.reduceToNat, reduceIte, reduceCtorEq] | (refine hK _ ?_; clear hK; clear K') | refine And.intro ?_ ?_ | exact zlo | omega | exact zms)
  all_goals first | (refine QF _ rfl ?_; simp only [go_sem, Nat.reduceEqDiff, Nat.reduceAdd, reduceIte, reduceCtorEq]; done) | trace_state
def QT (QO : Nat) : AC := Qt [0, 1] (.reg [mc 4 (V.bool false)]) (Qt [4] (.reg [mv 5 0, mv 6 1, cl 7 QO [5, 6], bc 8 .geq 7 (V.int 0), mv 4 8]) (.ret)) def r_slices_ContainsFunc___api_Item_api_Item : List YJ := [.tmp 4]
def QS (Γ : Env) (f : Nat) : Prop := ∀ (g : Nat), EvN Γ f [aco, .clo g []] (V.bool false)
theorem Yc {Γ : Env} {f QO : Nat} (h : Has Γ.P f 9 (QT QO) r_slices_ContainsFunc___api_Item_api_Item) (Jv : Q3 Γ QO) : QS Γ f := by
  intro g
  refine QA h (by simp) (by simp only [V.closed, Qc, V.noSl, Jh, and_self, and_true, true_and]) (by simp only [V.closed, Qc, V.noSl, Jh, and_self, and_true, true_and]) fun C hC hm => ?_
  subst hC
  unfold QT
  have hI := (Jv g).b
  have e0 : decide ((-1 : Int) ≥ 0) = false := by decide
  repeat' (first | refine Qi fun K' hK => ?_ | refine Ql fun K' hK => ?_ | refine Qj ?_ | refine Qk ?_ | refine Qd ?_ | ((first | refine Qn ⟨_, rfl, fun hc => ?_, fun hc => ?_⟩ | refine QV (fun hc => ?_) (fun hc => ?_) | refine QW (fun hc => ?_) (fun hc => ?_)) <;> first | exact Bool.noConfusion hc | ((try simp only [znz] at hc); first | exact znf | skip)) | refine Qq ?_ | refine Qm ?_ | simp (maxSteps := 1000000) only [go_sem, Nat.reduceAdd, Nat.reduceMul, Nat.reduceEqDiff, Nat.reduceLeDiff, Nat.reduceLT, Nat.reduceSub, Int.reduceEq, Int.reduceBEq, Int.reduceLT, Int.reduceLE, Int.reduceAdd, Int.reduceToNat, reduceIte, reduceCtorEq, e0] | (refine hK _ ?_; clear hK; clear K') | refine And.intro ?_ ?_ | (apply QY; (focus first | exact hI | exact (Jv _).b)) | exact zlo | omega | exact zms)
  all_goals first | (refine QF _ rfl ?_; simp only [go_sem, Nat.reduceEqDiff, Nat.reduceAdd, reduceIte, reduceCtorEq]; done) | trace_state
def Xt (QJ : Nat) : List AO := [xo 14 (.load true 9 (.t 4)), cl 15 QJ [14], bc 16 .neq 15 (V.int 0), mv 17 16, mg 18 3 17 false, xg 19 (.bin .gtr (.t 18) (.c (V.int 0))) 17 false, mg 20 19 17 false, xg 21 (.faddr 0 (.t 1)) 20 true, xg 22 (.load false 1 (.t 21)) 20 true, mg 23 3 20 true, xg 24 (.bin .sub (.t 23) (.c (V.int 1))) 20 true, xg 25 (.iaddr 9 (.t 22) (.t 24)) 20 true, xg 26 (.faddr 0 (.t 25)) 20 true, xg 27 (.load false 1 (.t 26)) 20 true, xg 28 (.faddr 0 (.t 4)) 20 true, xg 29 (.load false 1 (.t 28)) 20 true, xg 30 (.bin .geq (.t 27) (.t 29)) 20 true, xg 31 (.pick (.t 20) (.t 30) (.c (V.bool false))) 17 false, xo 32 (.pick (.t 17) (.c (V.bool true)) (.t 31))]
def XF : List (List Nat) := [[], [0], [1], [2, 1], [3], [4, 3], [5, 3, 3], [6], [7, 6], [6], [9, 6], [8, 10, 6], [11, 6], [12, 6], [6], [14, 6], [13, 15, 6], [6, 16, 3], [3, 17]]
def Xm : OT := .one 0 (.or 1 (.one 2 (.one 3 (.one 4 (.one 5 (.one 6 (.one 7 (.one 8 (.one 9 (.one 10 (.one 11 (.one 12 (.one 13 (.one 14 (.one 15 (.one 16 (.one 17 (.one 18 (.done)))))))))))))))))) (.done))
def Yl (QJ : Nat) : OP := .one 0 false [] (xo 14 (.load true 9 (.t 4))) (.or 1 false [] (cl 15 QJ [14]) (.one 2 false [1] (bc 16 .neq 15 (V.int 0)) (.one 3 false [1] (mv 17 16) (.one 4 false [1] (mg 18 3 17 false) (.one 5 false [1] (xg 19 (.bin .gtr (.t 18) (.c (V.int 0))) 17 false) (.one 6 false [1] (mg 20 19 17 false) (.one 7 false [1] (xg 21 (.faddr 0 (.t 1)) 20 true) (.one 8 false [1] (xg 22 (.load false 1 (.t 21)) 20 true) (.one 9 false [1] (mg 23 3 20 true) (.one 10 false [1] (xg 24 (.bin .sub (.t 23) (.c (V.int 1))) 20 true) (.one 11 false [1] (xg 25 (.iaddr 9 (.t 22) (.t 24)) 20 true) (.one 12 false [1] (xg 26 (.faddr 0 (.t 25)) 20 true) (.one 13 false [1] (xg 27 (.load false 1 (.t 26)) 20 true) (.one 14 false [1] (xg 28 (.faddr 0 (.t 4)) 20 true) (.one 15 false [1] (xg 29 (.load false 1 (.t 28)) 20 true) (.one 16 false [1] (xg 30 (.bin .geq (.t 27) (.t 29)) 20 true) (.one 17 false [1] (xg 31 (.pick (.t 20) (.t 30) (.c (V.bool false))) 17 false) (.one 18 false [1] (xo 32 (.pick (.t 17) (.c (V.bool true)) (.t 31))) (.done)))))))))))))))))) (.done))
theorem Ym (QJ : Nat) : okR (Xt QJ) XF [] Xm = true := by kernel_rfl
theorem Yj (QJ : Nat) : Yk (ris (Xt QJ) XF []) Xm = Yl QJ := by kernel_rfl def c_exposure_Check (QJ QH Xy YC : Nat) : AC := Qt [1] (.reg [xo 1 (.box true 3 (.t 0)), mc 2 (V.int 0)]) (Qt [1] (Qt [1, 7, 8, 9] (.reg [fa 6 0 1, ld 7 1 6, ln 8 7, mc 9 (V.int 0)]) (.block 0 (jj [1, 7, 8, 9] (Qt [1, 7, 8, 9, 10] (.reg [bn 10 .lss 9 8]) (Qt [1, 7, 8, 9] (.cond (.t 10) (.skip) (.exit 0)) (Qt [1, 7, 8, 9] (.block 1 (Qt [1, 3, 4, 7, 8, 9] (.reg [mv 11 9, ia 12 9 7 9, xo 13 (.load true 9 (.t 12)), xo 4 (.alloc [.val (.string ⟨#[]⟩), .val (.int .i64 0), .val (.int .i64 0), .nil 1, .val (.bool false), .nil 4, .nil 1, .nil 1, .val (.bool false)]), mv 3 11, xs 9 4 13]) (Qt [1, 7, 8, 9, 32] (ww [] Xm (Yl QJ) (Xt QJ) XF) (.cond (.t 32) (Qt [2] (.reg [mc 2 (V.int 31)]) (.ret)) (.skip))))) (.reg [bc 33 .add 9 (V.int 1), mv 9 33]))))))) (Qt [1, 5] (.reg [fa 34 2 1, ld 35 1 34, xo 36 (.call QH [(.t 35), (.c (.clo Xy []))]), mv 5 36]) (Qt [] (Qt [58] (.reg [mv 37 5, mv 38 37, xg 39 (.faddr 0 (.t 1)) 38 false, xg 40 (.load false 1 (.t 39)) 38 false, xg 41 (.lenL (.t 40)) 38 false, xg 42 (.bin .gtr (.t 41) (.c (V.int 16))) 38 false, xo 43 (.pick (.t 38) (.c (V.bool true)) (.t 42)), mv 44 43, xg 45 (.faddr 2 (.t 1)) 44 false, xg 46 (.load false 1 (.t 45)) 44 false, xg 47 (.lenL (.t 46)) 44 false, xg 48 (.bin .gtr (.t 47) (.c (V.int 30))) 44 false, xo 49 (.pick (.t 44) (.c (V.bool true)) (.t 48)), mv 50 49, xg 51 (.faddr 1 (.t 1)) 50 false, xg 52 (.load false 1 (.t 51)) 50 false, xg 53 (.faddr 0 (.t 1)) 50 false, xg 54 (.load false 1 (.t 53)) 50 false, xg 55 (.lenL (.t 54)) 50 false, xg 56 (.call YC [(.t 52), (.t 55)]) 50 false, xg 57 (.un .not (.t 56)) 50 false, xo 58 (.pick (.t 50) (.c (V.bool true)) (.t 57))]) (.cond (.t 58) (Qt [2] (.reg [mc 2 (V.int 31)]) (.ret)) (.skip))) (Qt [2] (.reg [mc 2 (V.int 0)]) (.ret))))) def r_exposure_Check : List YJ := [.tmp 2]
def XZ (Γ : Env) (f : Nat) : Prop := EvN Γ f [ade] (V.int 0)
theorem KF {Γ : Env} {f QJ QH Xy YC : Nat} (h : Has Γ.P f 59 (c_exposure_Check QJ QH Xy YC) r_exposure_Check) (QG : QS Γ QH) (XS : XM Γ YC) : XZ Γ f := by
  refine QA h (by simp) (by simp only [V.closed, Qc, V.noSl, Jh, and_self, and_true, true_and]) (by simp only [V.closed, Qc, V.noSl, Jh, and_self, and_true, true_and]) fun C hC hm => ?_
  subst hC
  unfold c_exposure_Check
  have hL := XS.b
  repeat' (first | refine Qi fun K' hK => ?_ | refine Ql fun K' hK => ?_ | refine QZ 19 (fun _ => true) rfl (Ym _) (Yj _) fun K' hK => ?_ | refine Q0 19 (fun _ => true) rfl (Ym _) (Yj _) fun K' hK => ?_ | refine Qj ?_ | refine Qk ?_ | refine Qd ?_ | ((first | refine Qn ⟨_, rfl, fun hc => ?_, fun hc => ?_⟩ | refine QV (fun hc => ?_) (fun hc => ?_) | refine QW (fun hc => ?_) (fun hc => ?_)) <;> first | exact Bool.noConfusion hc | ((try simp only [znz] at hc); first | exact znf | skip)) | refine Qq ?_ | refine Qm ?_ | simp (maxSteps := 1000000) only [go_sem, Nat.reduceAdd, Nat.reduceMul, Nat.reduceEqDiff, Nat.reduceLeDiff, Nat.reduceLT, Nat.reduceSub, Int.reduceEq, Int.reduceBEq, Int.reduceLT, Int.reduceLE, Int.reduceAdd, Int.reduceToNat, reduceIte, reduceCtorEq, Yl] | (refine hK _ ?_; clear hK; clear K') | refine And.intro ?_ ?_ | ((first | apply QY | apply Yg); (focus first | exact hL | exact (QG _).b | exact (QG _).b | exact EvN.b XS)) | exact zlo | omega | exact zms)
  refine yi ?_
  repeat' (first | refine Qi fun K' hK => ?_ | refine Ql fun K' hK => ?_ | refine QZ 19 (fun _ => true) rfl (Ym _) (Yj _) fun K' hK => ?_ | refine Q0 19 (fun _ => true) rfl (Ym _) (Yj _) fun K' hK => ?_ | refine Qj ?_ | refine Qk ?_ | refine Qd ?_ | ((first | refine Qn ⟨_, rfl, fun hc => ?_, fun hc => ?_⟩ | refine QV (fun hc => ?_) (fun hc => ?_) | refine QW (fun hc => ?_) (fun hc => ?_)) <;> first | exact Bool.noConfusion hc | ((try simp only [znz] at hc); first | exact znf | skip)) | refine Qq ?_ | refine Qm ?_ | simp (maxSteps := 1000000) only [go_sem, Nat.reduceAdd, Nat.reduceMul, Nat.reduceEqDiff, Nat.reduceLeDiff, Nat.reduceLT, Nat.reduceSub, Int.reduceEq, Int.reduceBEq, Int.reduceLT, Int.reduceLE, Int.reduceAdd, Int.reduceToNat, reduceIte, reduceCtorEq, Yl] | (refine hK _ ?_; clear hK; clear K') | refine And.intro ?_ ?_ | ((first | apply QY | apply Yg); (focus first | exact hL | exact (QG _).b | exact (QG _).b | exact EvN.b XS)) | exact zlo | omega | exact zms)
  all_goals first | (refine QF _ rfl ?_; simp only [go_sem, Nat.reduceEqDiff, Nat.reduceAdd, reduceIte, reduceCtorEq]; done) | trace_state
def q8 : AC := Qt [0, 1, 4] (.reg [xo 4 (.alloc [.val (.int .i64 0), .val (.string ⟨#[]⟩), .val (.int .i64 0), .val (.int .i64 0), .val (.int .i64 0), .val (.int .i64 0), .val (.string ⟨#[]⟩), .val (.int .i64 0), .val (.int .i64 0), .val (.int .i64 0), .val (.string ⟨#[]⟩)])]) (Qt [4] (.reg [mv 5 0, mv 6 1, xo 7 (.build [(.int .i64 0), (.string ⟨#[]⟩), (.int .i64 0), (.int .i64 0), (.int .i64 0), (.int .i64 0), (.string ⟨#[]⟩), (.int .i64 0), (.int .i64 0), (.int .i64 0), (.string ⟨#[]⟩)] [(0, 1, (.c (V.int 3))), (1, 1, (.t 5)), (2, 1, (.c (V.int 1))), (3, 1, (.t 6)), (4, 1, (.c (V.int 90))), (6, 1, (.c (V.str [116, 108, 115]))), (5, 1, (.c (V.int 4))), (9, 1, (.c (V.int 1)))]), xs 11 4 7]) (.ret)) def r_move_At : List YJ := [.cell 4 true 11]
def KR (Γ : Env) (f : Nat) : Prop := ∀ (h0 : List UInt8) (d : Int), EvC Γ f [V.str h0, V.int d] ((JH.v ⟨3, h0, 1, d, 90, 4, [116, 108, 115], 0, 0, 1, []⟩))
theorem wR {Γ : Env} {f : Nat} (h : Has Γ.P f 8 q8 r_move_At)  : KR Γ f := by
  intro h0 d
  refine Vx h (by simp) (by simp only [JH.v, JH.cells, V.closed, Qc, and_self, and_true]) fun C hC hm => ?_
  subst hC
  unfold q8
  simp only [JH.v, JH.cells]
  repeat' (first | refine Qi fun K' hK => ?_ | refine Ql fun K' hK => ?_ | refine Qj ?_ | refine Qk ?_ | refine Qd ?_ | ((first | refine Qn ⟨_, rfl, fun hc => ?_, fun hc => ?_⟩ | refine QV (fun hc => ?_) (fun hc => ?_) | refine QW (fun hc => ?_) (fun hc => ?_)) <;> first | exact Bool.noConfusion hc | ((try simp only [znz] at hc); first | exact znf | skip)) | refine Qq ?_ | refine Qm ?_ | simp (maxSteps := 1000000) only [go_sem, Nat.reduceAdd, Nat.reduceMul, Nat.reduceEqDiff, Nat.reduceLeDiff, Nat.reduceLT, Nat.reduceSub, Int.reduceEq, Int.reduceBEq, Int.reduceLT, Int.reduceLE, Int.reduceAdd, Int.reduceToNat, reduceIte, reduceCtorEq] | (refine hK _ ?_; clear hK; clear K') | refine And.intro ?_ ?_ | exact zlo | omega | exact zms)
  all_goals first | (refine QF _ rfl ?_; simp only [go_sem, Nat.reduceEqDiff, Nat.reduceAdd, reduceIte, reduceCtorEq]; first | done | exact ⟨rfl, rfl⟩ | (simp; done)) | trace_state
theorem vz : VI (Lib.fields [98, 114, 111, 107, 101, 110, 32, 111, 112, 101, 110, 32, 100, 111, 119, 110, 32, 105, 116, 101, 109]) 1 = [98, 114, 111, 107, 101, 110] := by decide +kernel
def Wt (Qa : Nat) : List AO := [mv 62 9, fa 63 0 2, ld 64 1 63, fa 65 0 10, ld 66 1 65, ia 67 9 64 66, fa 68 0 67, ld 69 1 68, cl 70 Qa [62, 69], fa 71 0 2, ld 72 1 71, fa 73 1 10, ld 74 1 73, ia 75 9 72 74, fa 76 0 75, ld 77 1 76, cl 78 Qa [70, 77]]
def WG : List (List Nat) := [[], [], [1], [], [3], [2, 4], [5], [6], [0, 7], [], [9], [], [11], [10, 12], [13], [14], [8, 15, 8]]
def Wr : OT := .one 0 (.one 1 (.one 2 (.one 3 (.one 4 (.one 5 (.one 6 (.one 7 (.one 8 (.one 9 (.one 10 (.one 11 (.one 12 (.one 13 (.one 14 (.one 15 (.one 16 (.done)))))))))))))))))
def Ws (Qa : Nat) : OP := .one 0 false [] (mv 62 9) (.one 1 false [] (fa 63 0 2) (.one 2 false [] (ld 64 1 63) (.one 3 false [] (fa 65 0 10) (.one 4 false [] (ld 66 1 65) (.one 5 false [] (ia 67 9 64 66) (.one 6 false [] (fa 68 0 67) (.one 7 false [] (ld 69 1 68) (.one 8 false [] (cl 70 Qa [62, 69]) (.one 9 false [] (fa 71 0 2) (.one 10 false [] (ld 72 1 71) (.one 11 false [] (fa 73 1 10) (.one 12 false [] (ld 74 1 73) (.one 13 false [] (ia 75 9 72 74) (.one 14 false [] (fa 76 0 75) (.one 15 false [] (ld 77 1 76) (.one 16 false [8] (cl 78 Qa [70, 77]) (.done)))))))))))))))))
theorem VZ (Qa : Nat) : okR (Wt Qa) WG [] Wr = true := by kernel_rfl
theorem VW (Qa : Nat) : Yk (ris (Wt Qa) WG []) Wr = Ws Qa := by kernel_rfl def c_report_risk (Jn Qw Qa Xz QU : Nat) : AC := Qt [2, 3] (.reg [xo 2 (.box true 3 (.t 0)), xo 3 (.box true 3 (.t 1)), mc 4 (V.str []), mc 5 (V.int 0)]) (Qt [2, 3, 6, 7] (.reg [fa 14 0 3, ld 15 1 14, xo 16 (.call Jn [(.c (V.str [98, 114, 111, 107, 101, 110, 32, 111, 112, 101, 110, 32, 100, 111, 119, 110, 32, 105, 116, 101, 109])), (.t 15)]), mv 13 16, ex 17 13 0, ex 18 13 1, mv 6 17, mv 7 18]) (Qt [2, 3, 6, 7, 8] (.reg [fa 19 1 2, ld 20 1 19, ln 21 20, mv 8 21]) (Qt [2, 3, 6, 7, 8] (Qt [2, 3, 6, 7, 8, 24] (.reg [fa 22 0 3, ld 23 1 22, bc 24 .eql 23 (V.int 4)]) (.cond (.t 24) (.reg [fa 25 2 2, ld 26 1 25, ln 27 26, mv 8 27]) (.skip))) (Qt [2, 3, 6] (Qt [2, 3, 6, 40] (.reg [mv 28 7, xo 29 (.un .not (.t 28)), mv 30 29, xg 31 (.faddr 1 (.t 3)) 30 false, xg 32 (.load false 1 (.t 31)) 30 false, xg 33 (.bin .lss (.t 32) (.c (V.int 0))) 30 false, xo 34 (.pick (.t 30) (.c (V.bool true)) (.t 33)), mv 35 34, xg 36 (.faddr 1 (.t 3)) 35 false, xg 37 (.load false 1 (.t 36)) 35 false, mg 38 8 35 false, xg 39 (.bin .geq (.t 37) (.t 38)) 35 false, xo 40 (.pick (.t 35) (.c (V.bool true)) (.t 39))]) (.cond (.t 40) (Qt [4, 5] (.reg [mc 4 (V.str []), mc 5 (V.int 2)]) (.ret)) (.skip))) (Qt [2, 3, 9] (.reg [cl 41 Qw [], mv 42 6, cl 43 Qa [41, 42], mv 9 43]) (Qt [3, 9] (Qt [2, 3, 9, 46] (.reg [fa 44 0 3, ld 45 1 44, bc 46 .eql 45 (V.int 4)]) (.cond (.t 46) (.reg [mv 47 9, fa 48 2 2, ld 49 1 48, fa 50 1 3, ld 51 1 50, ia 52 5 49 51, fa 53 0 52, ld 54 1 53, cl 55 Qa [47, 54]]) (Qt [2, 3, 9, 10] (.reg [fa 56 1 2, ld 57 1 56, fa 58 1 3, ld 59 1 58, ia 60 2 57 59, xo 61 (.load true 2 (.t 60)), xo 10 (.alloc [.val (.int .i64 0), .val (.int .i64 0)]), xs 2 10 61]) (ww [] Wr (Ws Qa) (Wt Qa) WG)))) (Qt [9] (Qt [3, 9, 86] (.reg [fa 79 0 3, ld 80 1 79, bc 81 .eql 80 (V.int 2), mv 82 81, xg 83 (.faddr 0 (.t 3)) 82 false, xg 84 (.load false 1 (.t 83)) 82 false, xg 85 (.bin .eql (.t 84) (.c (V.int 3))) 82 false, xo 86 (.pick (.t 82) (.c (V.bool true)) (.t 85))]) (.cond (.t 86) (Qt [9, 11, 12] (.reg [fa 88 2 3, ld 89 1 88, cl 90 Xz [89], mv 87 90, ex 91 87 0, ex 92 87 1, xo 11 (.alloc [.val (.int .i64 0), .val (.string ⟨#[]⟩), .val (.int .i64 0), .val (.int .i64 0), .val (.int .i64 0), .val (.int .i64 0), .val (.int .i64 0), .val (.int .i64 0), .val (.int .i64 0), .val (.int .i64 0), .val (.int .i64 0), .val (.int .i64 0)]), xs 12 11 91, mv 12 92]) (Qt [9, 11] (Qt [9, 11, 94] (.reg [mv 93 12, bc 94 .neq 93 (V.int 0)]) (.cond (.t 94) (Qt [4, 5] (.reg [mc 4 (V.str []), mc 5 (V.int 2)]) (.ret)) (.skip))) (.reg [mv 95 9, fa 96 1 11, ld 97 1 96, cl 98 Qa [95, 97]]))) (Qt [9, 101] (.reg [fa 99 2 3, ld 100 1 99, bc 101 .neq 100 (V.int 0)]) (.cond (.t 101) (Qt [4, 5] (.reg [mc 4 (V.str []), mc 5 (V.int 2)]) (.ret)) (.skip))))) (Qt [4, 5] (.reg [mv 102 9, cl 103 QU [102], mv 4 103, mc 5 (V.int 0)]) (.ret))))))))) def r_report_risk : List YJ := [.tmp 4, .tmp 5]
def W6 (Γ : Env) (f : Nat) : Prop := EvN Γ f [ade, .agg [V.int 1, V.int 0, V.int 0]] (.tup [V.str [], V.int 2])
theorem jp {Γ : Env} {f Jn Qw Qa Xz QU : Nat} (h : Has Γ.P f 104 (c_report_risk Jn Qw Qa Xz QU) r_report_risk) (Je : XH Γ Jn) (QL : XI Γ Qw) (Qf : Jz Γ Qa) (qM : Wj Γ Xz) (Qo : Yb Γ QU) : W6 Γ f := by
  refine QA h (by simp) (by simp only [V.closed, Qc, V.noSl, Jh, and_self, and_true, true_and]) (by simp only [V.closed, Qc, V.noSl, Jh, and_self, and_true, true_and]) fun C hC hm => ?_
  subst hC
  unfold c_report_risk
  have hN := (Je [98, 114, 111, 107, 101, 110, 32, 111, 112, 101, 110, 32, 100, 111, 119, 110, 32, 105, 116, 101, 109] 1 (by decide) (by decide +kernel) (by decide) (by decide)).b
  rw [vz, show (Lib.fields [98, 114, 111, 107, 101, 110, 32, 111, 112, 101, 110, 32, 100, 111, 119, 110, 32, 105, 116, 101, 109]).length = 4 by decide +kernel] at hN
  have e0 : (decide ((1 : Int) ≤ 1) && decide ((1 : Int) ≤ (4 : Nat))) = true := by decide
  rw [e0] at hN
  have e1 : decide ((0 : Int) ≥ 0) = true := by decide
  repeat' (first | refine Qi fun K' hK => ?_ | refine Ql fun K' hK => ?_ | refine QZ 17 (fun _ => true) rfl (VZ _) (VW _) fun K' hK => ?_ | refine Q0 17 (fun _ => true) rfl (VZ _) (VW _) fun K' hK => ?_ | refine Qj ?_ | refine Qk ?_ | refine Qd ?_ | ((first | refine Qn ⟨_, rfl, fun hc => ?_, fun hc => ?_⟩ | refine QV (fun hc => ?_) (fun hc => ?_) | refine QW (fun hc => ?_) (fun hc => ?_)) <;> first | exact Bool.noConfusion hc | ((try simp only [znz] at hc); first | exact znf | skip)) | refine Qq ?_ | refine Qm ?_ | simp (maxSteps := 1000000) only [go_sem, Nat.reduceAdd, Nat.reduceMul, Nat.reduceEqDiff, Nat.reduceLeDiff, Nat.reduceLT, Nat.reduceSub, Int.reduceEq, Int.reduceBEq, Int.reduceLT, Int.reduceLE, Int.reduceAdd, Int.reduceToNat, reduceIte, reduceCtorEq, e1, Ws] | (refine hK _ ?_; clear hK; clear K') | refine And.intro ?_ ?_ | (apply US; (focus first | exact QL)) | (apply ja; (focus first | exact QL)) | (apply UR; (focus exact rfl); (focus exact rfl); (focus first | exact rfl | decide); (focus first | exact rfl | decide); (focus first | exact (Qf _ _ zsd) | exact (Qo _ zsd zsd)); (focus exact rfl); (focus first | exact rfl | (simp; done))) | (apply KY; (focus exact rfl); (focus exact rfl); (focus first | exact (Qf _ _ zsd) | exact (Qo _ zsd zsd)); (focus exact rfl); (focus first | exact rfl | (simp; done))) | ((first | apply QY | apply Yg); (focus first | exact hN | exact (Je _ _ zsd zsd zsd zsd).b | exact (qM _).b)) | exact zlo | omega | exact zms)
  all_goals first | (refine QF _ rfl ?_; simp only [go_sem, Nat.reduceEqDiff, Nat.reduceAdd, reduceIte, reduceCtorEq]; done) | trace_state
def VA (YX Wl : Nat) : AC := Qt [2, 3] (.reg [xo 2 (.box true 3 (.t 0)), xo 3 (.box true 3 (.t 1)), mc 4 (V.str []), mc 5 (V.int 0)]) (Qt [2, 3] (Qt [2, 3, 8] (.reg [xo 6 (.load true 3 (.t 2)), cl 7 YX [6], bc 8 .neq 7 (V.int 0)]) (.cond (.t 8) (Qt [4, 5] (.reg [mc 4 (V.str []), mc 5 (V.int 31)]) (.ret)) (.skip))) (Qt [4, 5] (.reg [xo 9 (.load true 3 (.t 2)), xo 10 (.load true 3 (.t 3)), cl 11 Wl [9, 10], ex 12 11 0, ex 13 11 1, mv 4 12, mv 5 13]) (.ret))) def r_report_Risk : List YJ := [.tmp 4, .tmp 5]
def W7 (Γ : Env) (f : Nat) : Prop := EvN Γ f [ade, .agg [V.int 1, V.int 0, V.int 0]] (.tup [V.str [], V.int 2])
theorem jq {Γ : Env} {f YX Wl : Nat} (h : Has Γ.P f 14 (VA YX Wl) r_report_Risk) (VJ : XZ Γ YX) (U9 : W6 Γ Wl) : W7 Γ f := by
  refine QA h (by simp) (by simp only [V.closed, Qc, V.noSl, Jh, and_self, and_true, true_and]) (by simp only [V.closed, Qc, V.noSl, Jh, and_self, and_true, true_and]) fun C hC hm => ?_
  subst hC
  unfold VA
  have hC := VJ.b
  have hR := U9.b
  repeat' (first | refine Qi fun K' hK => ?_ | refine Ql fun K' hK => ?_ | refine Qj ?_ | refine Qk ?_ | refine Qd ?_ | ((first | refine Qn ⟨_, rfl, fun hc => ?_, fun hc => ?_⟩ | refine QV (fun hc => ?_) (fun hc => ?_) | refine QW (fun hc => ?_) (fun hc => ?_)) <;> first | exact Bool.noConfusion hc | ((try simp only [znz] at hc); first | exact znf | skip)) | refine Qq ?_ | refine Qm ?_ | simp (maxSteps := 1000000) only [go_sem, Nat.reduceAdd, Nat.reduceMul, Nat.reduceEqDiff, Nat.reduceLeDiff, Nat.reduceLT, Nat.reduceSub, Int.reduceEq, Int.reduceBEq, Int.reduceLT, Int.reduceLE, Int.reduceAdd, Int.reduceToNat, reduceIte, reduceCtorEq] | (refine hK _ ?_; clear hK; clear K') | refine And.intro ?_ ?_ | (apply QY; (focus first | exact hC | exact hR | exact EvN.b VJ | exact EvN.b U9)) | exact zlo | omega | exact zms)
  all_goals first | (refine QF _ rfl ?_; simp only [go_sem, Nat.reduceEqDiff, Nat.reduceAdd, reduceIte, reduceCtorEq]; done) | trace_state
end Av
end
section
set_option linter.unusedSimpArgs false
set_option linter.unusedVariables false
set_option maxRecDepth 10000
set_option maxHeartbeats 4000000
namespace Av
open Go
attribute [local irreducible] AWp Yd Yy YK awS awC XQ awQ XW Qr Jj XP awR Jk awB okR Yk ris
def j7 : List UInt8 := [117, 115, 101, 32, 115, 117, 105, 116, 101, 32, 107, 101, 121, 32, 109, 111, 115, 116, 32, 108, 101, 97, 115, 116, 32, 116, 114, 117, 115, 116, 32, 112, 101, 101, 114, 32, 111, 102, 102]
def Wv : List (List UInt8) := [[117, 115, 101], [115, 117, 105, 116, 101], [107, 101, 121], [109, 111, 115, 116], [108, 101, 97, 115, 116], [116, 114, 117, 115, 116], [112, 101, 101, 114], [111, 102, 102]]
theorem xn : Lib.fields j7 = Wv := by decide +kernel
def vh (f : JH) : List (List UInt8) :=
  if f.kind = 1 ∨ f.kind = 8 then [WY f.alg f.bits] else if f.kind = 3 then [WY f.alg f.bits, Lib.itoa f.num] else if f.kind = 7 then [f.text] else [Lib.itoa f.num]
def Ku (f : JH) : List (List UInt8) := [Lib.itoa f.day, f.host, Lib.itoa f.mach, f.subj, VI Wv f.kind] ++ vh f ++ [Lib.itoa f.conf]
def KC (f : JH) : List UInt8 := [32].intercalate (Ku f) ++ [10]
def i64 (n : Int) : Prop := -9223372036854775808 ≤ n ∧ n ≤ 9223372036854775807
def JH.Sz (f : JH) : Prop := f.host.length < 2 ^ 60 ∧ f.subj.length < 2 ^ 60 ∧ f.text.length < 2 ^ 60
theorem qY {f : JH} (h : Vf f = true) : (0 ≤ f.mach ∧ f.mach ≤ 1099511627776) ∧ (0 ≤ f.day ∧ f.day ≤ 40000) ∧ (1 ≤ f.conf ∧ f.conf ≤ 100) ∧ X6 f = true ∧ Ye f.host = true ∧ Ye f.subj = true := by
  simp only [Vf, Bool.and_eq_true, decide_eq_true_eq, Bool.not_eq_true', decide_eq_false_iff_not] at h
  obtain ⟨⟨⟨⟨⟨⟨⟨a1, a2⟩, a3⟩, a4⟩, ⟨⟨b1, b2⟩, b3⟩, b4⟩, _⟩, _⟩, c⟩ := h
  exact ⟨⟨a3, a4⟩, ⟨b1, b2⟩, ⟨b3, b4⟩, c, a1, a2⟩
theorem UO {f : JH} (h : X6 f = true) : (1 ≤ f.kind ∧ f.kind ≤ 8) ∧ 0 ≤ f.num ∧ f.num ≤ 2147483648 := by
  unfold X6 yC at h
  split at h
  · simp only [Bool.and_eq_true, beq_iff_eq] at h; omega
  split at h
  · simp only [Bool.and_eq_true, beq_iff_eq, decide_eq_true_eq] at h; omega
  split at h
  · simp only [Bool.and_eq_true, beq_iff_eq, decide_eq_true_eq] at h; omega
  split at h
  · simp only [Bool.and_eq_true, beq_iff_eq, decide_eq_true_eq] at h; omega
  split at h
  · simp only [Bool.and_eq_true, beq_iff_eq, decide_eq_true_eq] at h; omega
  split at h
  · simp only [Bool.and_eq_true, beq_iff_eq, decide_eq_true_eq] at h; omega
  · cases h
def Xs (Qw Qb Qa : Nat) : List AO := [cl 16 Qw [], fa 17 3 1, ld 18 1 17, cl 19 Qb [16, 18], fa 20 1 1, ld 21 1 20, cl 22 Qa [19, 21], fa 23 2 1, ld 24 1 23, cl 25 Qb [22, 24], fa 26 6 1, ld 27 1 26, cl 28 Qa [25, 27], mv 29 4, cl 30 Qa [28, 29], mv 6 30]
def XE : List (List Nat) := [[], [], [1], [0, 2, 0], [], [4], [3, 5, 3], [], [7], [6, 8, 6], [], [10], [9, 11, 9], [], [12, 13, 12], [14, 14, 0, 1, 2, 3, 4, 5, 6, 7, 8, 9, 10, 11, 12, 13, 14]]
def Xl : OT := .one 1 (.one 2 (.one 4 (.one 5 (.one 7 (.one 8 (.one 10 (.one 11 (.one 13 (.or 0 (.or 3 (.or 6 (.or 9 (.one 12 (.one 14 (.one 15 (.done)))) (.done)) (.done)) (.done)) (.done))))))))))
def Q7 (Qw Qb Qa : Nat) : OP := .one 1 false [] (fa 17 3 1) (.one 2 false [] (ld 18 1 17) (.one 4 false [] (fa 20 1 1) (.one 5 false [] (ld 21 1 20) (.one 7 false [] (fa 23 2 1) (.one 8 false [] (ld 24 1 23) (.one 10 false [] (fa 26 6 1) (.one 11 false [] (ld 27 1 26) (.one 13 false [] (mv 29 4) (.or 0 false [] (cl 16 Qw []) (.or 3 true [0] (cl 19 Qb [16, 18]) (.or 6 true [3, 0] (cl 22 Qa [19, 21]) (.or 9 true [6, 3, 0] (cl 25 Qb [22, 24]) (.one 12 true [9, 6, 3, 0] (cl 28 Qa [25, 27]) (.one 14 true [12, 9, 6, 3, 0] (cl 30 Qa [28, 29]) (.one 15 false [14, 12, 9, 6, 3, 0] (mv 6 30) (.done)))) (.done)) (.done)) (.done)) (.done))))))))))
theorem QE (Qw Qb Qa : Nat) : okR (Xs Qw Qb Qa) XE [3, 6, 9, 12, 14] Xl = true := by kernel_rfl
theorem QC (Qw Qb Qa : Nat) : Yk (ris (Xs Qw Qb Qa) XE [3, 6, 9, 12, 14]) Xl = Q7 Qw Qb Qa := by kernel_rfl
def Xr (QM Qa Qb : Nat) : List AO := [mv 47 6, fa 48 7 1, xo 49 (.load true 2 (.t 48)), cl 50 QM [49], cl 51 Qa [47, 50], fa 52 9 1, ld 53 1 52, cl 54 Qb [51, 53]]
def XD : List (List Nat) := [[], [], [1], [2], [0, 3, 3], [], [5], [4, 6, 4]]
def Xk : OT := .one 0 (.one 1 (.one 2 (.one 5 (.one 6 (.or 3 (.one 4 (.one 7 (.done))) (.done))))))
def Q6 (QM Qa Qb : Nat) : OP := .one 0 false [] (mv 47 6) (.one 1 false [] (fa 48 7 1) (.one 2 false [] (xo 49 (.load true 2 (.t 48))) (.one 5 false [] (fa 52 9 1) (.one 6 false [] (ld 53 1 52) (.or 3 false [] (cl 50 QM [49]) (.one 4 true [3] (cl 51 Qa [47, 50]) (.one 7 true [4, 3] (cl 54 Qb [51, 53]) (.done))) (.done))))))
theorem QD (QM Qa Qb : Nat) : okR (Xr QM Qa Qb) XD [4, 7] Xk = true := by kernel_rfl
theorem QB (QM Qa Qb : Nat) : Yk (ris (Xr QM Qa Qb) XD [4, 7]) Xk = Q6 QM Qa Qb := by kernel_rfl def c_report_Finding (Xx Jn Qw Qb Qa QM QU : Nat) : AC := Qt [1] (.reg [xo 1 (.box true 11 (.t 0)), mc 2 (V.str []), mc 3 (V.int 0)]) (Qt [1] (Qt [1, 9] (.reg [xo 7 (.load true 11 (.t 1)), cl 8 Xx [7], bc 9 .neq 8 (V.int 0)]) (.cond (.t 9) (Qt [2, 3] (.reg [mc 2 (V.str []), mc 3 (V.int 24)]) (.ret)) (.skip))) (Qt [1, 4] (.reg [fa 11 5 1, ld 12 1 11, xo 13 (.call Jn [(.c (V.str [117, 115, 101, 32, 115, 117, 105, 116, 101, 32, 107, 101, 121, 32, 109, 111, 115, 116, 32, 108, 101, 97, 115, 116, 32, 116, 114, 117, 115, 116, 32, 112, 101, 101, 114, 32, 111, 102, 102])), (.t 12)]), mv 10 13, ex 14 10 0, ex 15 10 1, mv 4 14, mv 5 15]) (Qt [1, 6] (ww [3, 6, 9, 12, 14] Xl (Q7 Qw Qb Qa) (Xs Qw Qb Qa) XE) (Qt [1, 6] (Qt [1, 6, 32] (.reg [fa 31 5 1, ld 32 1 31]) (.block 0 (Qt [1, 6, 32, 37] (Qt [1, 6, 32, 37] (.reg [bc 38 .eql 32 (V.int 1), mv 37 38]) (.cond (.t 37) (.skip) (.reg [bc 39 .eql 32 (V.int 8), mv 37 39]))) (.cond (.t 37) (.reg [mv 40 6, fa 41 7 1, xo 42 (.load true 2 (.t 41)), cl 43 QM [42], cl 44 Qa [40, 43]]) (Qt [1, 6, 32, 45] (.reg [bc 46 .eql 32 (V.int 3), mv 45 46]) (.cond (.t 45) (ww [4, 7] Xk (Q6 QM Qa Qb) (Xr QM Qa Qb) XD) (Qt [1, 6, 55] (.reg [bc 56 .eql 32 (V.int 7), mv 55 56]) (.cond (.t 55) (.reg [mv 57 6, fa 58 10 1, ld 59 1 58, cl 60 Qa [57, 59]]) (.reg [mv 33 6, fa 34 9 1, ld 35 1 34, cl 36 Qb [33, 35]]))))))))) (Qt [2, 3] (.reg [mv 61 6, fa 62 4 1, ld 63 1 62, cl 64 Qb [61, 63], cl 65 QU [64], mv 2 65, mc 3 (V.int 0)]) (.ret)))))) def r_report_Finding : List YJ := [.tmp 2, .tmp 3]
def YI (Γ : Env) (f : Nat) : Prop := ∀ (f0 : JH) (hz : f0.Sz) (hj : Vf f0 = true → (KC f0).length < 2 ^ 40), EvN Γ f [f0.v] ((bif Vf f0 then .tup [V.str (KC f0), V.int 0] else .tup [V.str [], V.int 24]))
theorem KE {Γ : Env} {f Xx Jn Qw Qb Qa QM QU : Nat} (h : Has Γ.P f 66 (c_report_Finding Xx Jn Qw Qb Qa QM QU) r_report_Finding) (JF : Wi Γ Xx) (Je : XH Γ Jn) (QL : XI Γ Qw) (Qg : Yi Γ Qb) (Qf : Jz Γ Qa) (JN : WL Γ QM) (Qo : Yb Γ QU) : YI Γ f := by
  intro f0 hz hj
  refine QA h (by simp) (by cases Vf f0 <;> simp only [cond_true, cond_false, V.closed, Qc, V.noSl, Jh, and_self]) (by cases Vf f0 <;> simp only [cond_true, cond_false, V.closed, Qc, V.noSl, Jh, and_self]) fun C hC hm => ?_
  subst hC
  unfold c_report_Finding
  obtain ⟨z1, z2, z3⟩ := hz
  have hC := (JF f0 z1 z2 z3).b
  rcases hc0 : Vf f0 with _ | _
  · rw [hc0] at hC
    obtain ⟨src, host, mach, day, conf, kind, subj, alg, bits, num, text⟩ := f0
    simp only [JH.v, JH.cells, cond_false] at *
    repeat' (first | refine Qi fun K' hK => ?_ | refine Ql fun K' hK => ?_ | refine QZ 16 (fun _ => true) rfl (QE _ _ _) (QC _ _ _) fun K' hK => ?_ | refine Q0 16 (fun _ => true) rfl (QE _ _ _) (QC _ _ _) fun K' hK => ?_ | refine QZ 8 (fun y => !decide (y = 14000) && !decide (y = 28000)) rfl (QD _ _ _) (QB _ _ _) fun K' hK => ?_ | refine Q0 8 (fun y => !decide (y = 14000) && !decide (y = 28000)) rfl (QD _ _ _) (QB _ _ _) fun K' hK => ?_ | refine Qj ?_ | refine Qk ?_ | refine Qd ?_ | ((first | refine Qn ⟨_, rfl, fun hc => ?_, fun hc => ?_⟩ | refine QV (fun hc => ?_) (fun hc => ?_) | refine QW (fun hc => ?_) (fun hc => ?_)) <;> first | exact Bool.noConfusion hc | ((try simp only [znz] at hc); first | exact znf | skip)) | refine Qq ?_ | refine Qm ?_ | simp (maxSteps := 1000000) only [go_sem, Nat.reduceAdd, Nat.reduceMul, Nat.reduceEqDiff, Nat.reduceLeDiff, Nat.reduceLT, Nat.reduceSub, Int.reduceEq, Int.reduceBEq, Int.reduceLT, Int.reduceLE, Int.reduceAdd, Int.reduceToNat, reduceIte, reduceCtorEq, Q7, Q6] | (refine hK _ ?_; clear hK; clear K') | refine And.intro ?_ ?_ | (apply US; (focus first | exact QL)) | (apply ja; (focus first | exact QL)) | (apply UR; (focus exact rfl); (focus exact rfl); (focus first | exact rfl | decide); (focus first | exact rfl | decide); (focus first | exact (Qg _ _ zsd zsd zsd) | exact (Qf _ _ zsd) | exact (Qo _ zsd zsd)); (focus exact rfl); (focus first | exact rfl | (simp; done))) | (apply KY; (focus exact rfl); (focus exact rfl); (focus first | exact (Qg _ _ zsd zsd zsd) | exact (Qf _ _ zsd) | exact (Qo _ zsd zsd)); (focus exact rfl); (focus first | exact rfl | (simp; done))) | ((first | apply QY | apply Yg); (focus first | exact hC | exact (JF _ zsd zsd zsd).b | exact (Je _ _ zsd zsd zsd zsd).b | exact (JN _ _).b)) | exact zlo | omega | exact zms)
    all_goals first | (refine QF _ rfl ?_; simp only [go_sem, Nat.reduceEqDiff, Nat.reduceAdd, reduceIte, reduceCtorEq]; done) | trace_state
  · rw [hc0] at hC
    have hj := hj hc0
    obtain ⟨r1, r2, r3, hco, -, -⟩ := qY hc0
    obtain ⟨r4, r5⟩ := UO hco
    clear hco hc0
    obtain ⟨src, host, mach, day, conf, kind, subj, alg, bits, num, text⟩ := f0
    simp only [KC, List.length_append, List.length_singleton] at hj
    simp only [JH.v, JH.cells, cond_true, KC, Ku, vh] at *
    have hN := (Je j7 kind (by decide) (by decide +kernel) (by omega) (by omega)).b
    rw [xn, show (decide (1 ≤ kind) && decide (kind ≤ (Wv.length : Int))) = true by simp [Wv]; omega] at hN
    simp only [j7] at hN
    generalize VI Wv kind = kw at *
    have u1 := Qg day [] (by simp) (by omega) (by omega)
    have u2 := Qf host [Lib.itoa day] (by simp)
    have u3 := Qg mach [Lib.itoa day, host] (by simp) (by omega) (by omega)
    have u4 := Qf subj [Lib.itoa day, host, Lib.itoa mach] (by simp)
    have u5 := Qf kw [Lib.itoa day, host, Lib.itoa mach, subj] (by simp)
    have hT := (JN alg bits).b
    generalize Lib.itoa day = sd at *
    generalize Lib.itoa mach = sm at *
    have E : ∀ n : Int, kind ≠ n → (kind == n) = false := fun n h => by simpa using h
    simp only [List.cons_append, List.nil_append, List.map_cons, List.map_nil] at u1 u2 u3 u4 u5 ⊢
    by_cases k1 : kind = 1
    · subst k1
      simp only [Int.reduceEq, or_true, true_or, or_false, false_or, if_true, if_false] at hj ⊢
      have u6 := Qf (WY alg bits) [sd, host, sm, subj, kw] (by simp)
      have u7 := Qg (conf) [sd, host, sm, subj, kw, WY alg bits] (by simp) (by omega) (by omega)
      have u8 := Qo [sd, host, sm, subj, kw, WY alg bits, Lib.itoa conf] (by simp) (by simpa using Nat.lt_of_succ_lt hj)
      simp only [List.cons_append, List.nil_append, List.map_cons, List.map_nil] at u6 u7 u8 ⊢
      repeat' (first | refine Qi fun K' hK => ?_ | refine Ql fun K' hK => ?_ | refine QZ 16 (fun _ => true) rfl (QE _ _ _) (QC _ _ _) fun K' hK => ?_ | refine Q0 16 (fun _ => true) rfl (QE _ _ _) (QC _ _ _) fun K' hK => ?_ | refine QZ 8 (fun y => !decide (y = 14000) && !decide (y = 28000)) rfl (QD _ _ _) (QB _ _ _) fun K' hK => ?_ | refine Q0 8 (fun y => !decide (y = 14000) && !decide (y = 28000)) rfl (QD _ _ _) (QB _ _ _) fun K' hK => ?_ | refine Qj ?_ | refine Qk ?_ | refine Qd ?_ | ((first | refine Qn ⟨_, rfl, fun hc => ?_, fun hc => ?_⟩ | refine QV (fun hc => ?_) (fun hc => ?_) | refine QW (fun hc => ?_) (fun hc => ?_)) <;> first | exact Bool.noConfusion hc | ((try simp only [znz] at hc); first | exact znf | skip)) | refine Qq ?_ | refine Qm ?_ | simp (maxSteps := 1000000) only [go_sem, Nat.reduceAdd, Nat.reduceMul, Nat.reduceEqDiff, Nat.reduceLeDiff, Nat.reduceLT, Nat.reduceSub, Int.reduceEq, Int.reduceBEq, Int.reduceLT, Int.reduceLE, Int.reduceAdd, Int.reduceToNat, reduceIte, reduceCtorEq, Q7, Q6] | (refine hK _ ?_; clear hK; clear K') | refine And.intro ?_ ?_ | (apply US; (focus first | exact QL)) | (apply ja; (focus first | exact QL)) | (apply UR; (focus exact rfl); (focus exact rfl); (focus first | exact rfl | decide); (focus first | exact rfl | decide); (focus first | exact u1 | exact u2 | exact u3 | exact u4 | exact u5 | exact u6 | exact u7 | exact u8 | exact (Qg _ _ zsd zsd zsd) | exact (Qf _ _ zsd) | exact (Qo _ zsd zsd)); (focus exact rfl); (focus first | exact rfl | (simp; done))) | (apply KY; (focus exact rfl); (focus exact rfl); (focus first | exact u1 | exact u2 | exact u3 | exact u4 | exact u5 | exact u6 | exact u7 | exact u8 | exact (Qg _ _ zsd zsd zsd) | exact (Qf _ _ zsd) | exact (Qo _ zsd zsd)); (focus exact rfl); (focus first | exact rfl | (simp; done))) | ((first | apply QY | apply Yg); (focus first | exact hC | exact hN | exact hT | exact (JF _ zsd zsd zsd).b | exact (Je _ _ zsd zsd zsd zsd).b | exact (JN _ _).b)) | exact zlo | omega | exact zms)
      all_goals first | (refine QF _ rfl ?_; simp only [go_sem, Nat.reduceEqDiff, Nat.reduceAdd, reduceIte, reduceCtorEq]; done) | trace_state
    by_cases k8 : kind = 8
    · subst k8
      simp only [Int.reduceEq, or_true, true_or, or_false, false_or, if_true, if_false] at hj ⊢
      have u6 := Qf (WY alg bits) [sd, host, sm, subj, kw] (by simp)
      have u7 := Qg (conf) [sd, host, sm, subj, kw, WY alg bits] (by simp) (by omega) (by omega)
      have u8 := Qo [sd, host, sm, subj, kw, WY alg bits, Lib.itoa conf] (by simp) (by simpa using Nat.lt_of_succ_lt hj)
      simp only [List.cons_append, List.nil_append, List.map_cons, List.map_nil] at u6 u7 u8 ⊢
      repeat' (first | refine Qi fun K' hK => ?_ | refine Ql fun K' hK => ?_ | refine QZ 16 (fun _ => true) rfl (QE _ _ _) (QC _ _ _) fun K' hK => ?_ | refine Q0 16 (fun _ => true) rfl (QE _ _ _) (QC _ _ _) fun K' hK => ?_ | refine QZ 8 (fun y => !decide (y = 14000) && !decide (y = 28000)) rfl (QD _ _ _) (QB _ _ _) fun K' hK => ?_ | refine Q0 8 (fun y => !decide (y = 14000) && !decide (y = 28000)) rfl (QD _ _ _) (QB _ _ _) fun K' hK => ?_ | refine Qj ?_ | refine Qk ?_ | refine Qd ?_ | ((first | refine Qn ⟨_, rfl, fun hc => ?_, fun hc => ?_⟩ | refine QV (fun hc => ?_) (fun hc => ?_) | refine QW (fun hc => ?_) (fun hc => ?_)) <;> first | exact Bool.noConfusion hc | ((try simp only [znz] at hc); first | exact znf | skip)) | refine Qq ?_ | refine Qm ?_ | simp (maxSteps := 1000000) only [go_sem, Nat.reduceAdd, Nat.reduceMul, Nat.reduceEqDiff, Nat.reduceLeDiff, Nat.reduceLT, Nat.reduceSub, Int.reduceEq, Int.reduceBEq, Int.reduceLT, Int.reduceLE, Int.reduceAdd, Int.reduceToNat, reduceIte, reduceCtorEq, Q7, Q6] | (refine hK _ ?_; clear hK; clear K') | refine And.intro ?_ ?_ | (apply US; (focus first | exact QL)) | (apply ja; (focus first | exact QL)) | (apply UR; (focus exact rfl); (focus exact rfl); (focus first | exact rfl | decide); (focus first | exact rfl | decide); (focus first | exact u1 | exact u2 | exact u3 | exact u4 | exact u5 | exact u6 | exact u7 | exact u8 | exact (Qg _ _ zsd zsd zsd) | exact (Qf _ _ zsd) | exact (Qo _ zsd zsd)); (focus exact rfl); (focus first | exact rfl | (simp; done))) | (apply KY; (focus exact rfl); (focus exact rfl); (focus first | exact u1 | exact u2 | exact u3 | exact u4 | exact u5 | exact u6 | exact u7 | exact u8 | exact (Qg _ _ zsd zsd zsd) | exact (Qf _ _ zsd) | exact (Qo _ zsd zsd)); (focus exact rfl); (focus first | exact rfl | (simp; done))) | ((first | apply QY | apply Yg); (focus first | exact hC | exact hN | exact hT | exact (JF _ zsd zsd zsd).b | exact (Je _ _ zsd zsd zsd zsd).b | exact (JN _ _).b)) | exact zlo | omega | exact zms)
      all_goals first | (refine QF _ rfl ?_; simp only [go_sem, Nat.reduceEqDiff, Nat.reduceAdd, reduceIte, reduceCtorEq]; done) | trace_state
    by_cases k3 : kind = 3
    · subst k3
      simp only [Int.reduceEq, or_self, if_true, if_false] at hj ⊢
      have u6 := Qf (WY alg bits) [sd, host, sm, subj, kw] (by simp)
      have u7 := Qg (num) [sd, host, sm, subj, kw, WY alg bits] (by simp) (by omega) (by omega)
      have u8 := Qg (conf) [sd, host, sm, subj, kw, WY alg bits, Lib.itoa num] (by simp) (by omega) (by omega)
      have u9 := Qo [sd, host, sm, subj, kw, WY alg bits, Lib.itoa num, Lib.itoa conf] (by simp) (by simpa using Nat.lt_of_succ_lt hj)
      simp only [List.cons_append, List.nil_append, List.map_cons, List.map_nil] at u6 u7 u8 u9 ⊢
      repeat' (first | refine Qi fun K' hK => ?_ | refine Ql fun K' hK => ?_ | refine QZ 16 (fun _ => true) rfl (QE _ _ _) (QC _ _ _) fun K' hK => ?_ | refine Q0 16 (fun _ => true) rfl (QE _ _ _) (QC _ _ _) fun K' hK => ?_ | refine QZ 8 (fun y => !decide (y = 14000) && !decide (y = 28000)) rfl (QD _ _ _) (QB _ _ _) fun K' hK => ?_ | refine Q0 8 (fun y => !decide (y = 14000) && !decide (y = 28000)) rfl (QD _ _ _) (QB _ _ _) fun K' hK => ?_ | refine Qj ?_ | refine Qk ?_ | refine Qd ?_ | ((first | refine Qn ⟨_, rfl, fun hc => ?_, fun hc => ?_⟩ | refine QV (fun hc => ?_) (fun hc => ?_) | refine QW (fun hc => ?_) (fun hc => ?_)) <;> first | exact Bool.noConfusion hc | ((try simp only [znz] at hc); first | exact znf | skip)) | refine Qq ?_ | refine Qm ?_ | simp (maxSteps := 1000000) only [go_sem, Nat.reduceAdd, Nat.reduceMul, Nat.reduceEqDiff, Nat.reduceLeDiff, Nat.reduceLT, Nat.reduceSub, Int.reduceEq, Int.reduceBEq, Int.reduceLT, Int.reduceLE, Int.reduceAdd, Int.reduceToNat, reduceIte, reduceCtorEq, Q7, Q6] | (refine hK _ ?_; clear hK; clear K') | refine And.intro ?_ ?_ | (apply US; (focus first | exact QL)) | (apply ja; (focus first | exact QL)) | (apply UR; (focus exact rfl); (focus exact rfl); (focus first | exact rfl | decide); (focus first | exact rfl | decide); (focus first | exact u1 | exact u2 | exact u3 | exact u4 | exact u5 | exact u6 | exact u7 | exact u8 | exact u9 | exact (Qg _ _ zsd zsd zsd) | exact (Qf _ _ zsd) | exact (Qo _ zsd zsd)); (focus exact rfl); (focus first | exact rfl | (simp; done))) | (apply KY; (focus exact rfl); (focus exact rfl); (focus first | exact u1 | exact u2 | exact u3 | exact u4 | exact u5 | exact u6 | exact u7 | exact u8 | exact u9 | exact (Qg _ _ zsd zsd zsd) | exact (Qf _ _ zsd) | exact (Qo _ zsd zsd)); (focus exact rfl); (focus first | exact rfl | (simp; done))) | ((first | apply QY | apply Yg); (focus first | exact hC | exact hN | exact hT | exact (JF _ zsd zsd zsd).b | exact (Je _ _ zsd zsd zsd zsd).b | exact (JN _ _).b)) | exact zlo | omega | exact zms)
      all_goals first | (refine QF _ rfl ?_; simp only [go_sem, Nat.reduceEqDiff, Nat.reduceAdd, reduceIte, reduceCtorEq]; done) | trace_state
    by_cases k7 : kind = 7
    · subst k7
      simp only [Int.reduceEq, or_self, if_true, if_false] at hj ⊢
      have u6 := Qf (text) [sd, host, sm, subj, kw] (by simp)
      have u7 := Qg (conf) [sd, host, sm, subj, kw, text] (by simp) (by omega) (by omega)
      have u8 := Qo [sd, host, sm, subj, kw, text, Lib.itoa conf] (by simp) (by simpa using Nat.lt_of_succ_lt hj)
      simp only [List.cons_append, List.nil_append, List.map_cons, List.map_nil] at u6 u7 u8 ⊢
      repeat' (first | refine Qi fun K' hK => ?_ | refine Ql fun K' hK => ?_ | refine QZ 16 (fun _ => true) rfl (QE _ _ _) (QC _ _ _) fun K' hK => ?_ | refine Q0 16 (fun _ => true) rfl (QE _ _ _) (QC _ _ _) fun K' hK => ?_ | refine QZ 8 (fun y => !decide (y = 14000) && !decide (y = 28000)) rfl (QD _ _ _) (QB _ _ _) fun K' hK => ?_ | refine Q0 8 (fun y => !decide (y = 14000) && !decide (y = 28000)) rfl (QD _ _ _) (QB _ _ _) fun K' hK => ?_ | refine Qj ?_ | refine Qk ?_ | refine Qd ?_ | ((first | refine Qn ⟨_, rfl, fun hc => ?_, fun hc => ?_⟩ | refine QV (fun hc => ?_) (fun hc => ?_) | refine QW (fun hc => ?_) (fun hc => ?_)) <;> first | exact Bool.noConfusion hc | ((try simp only [znz] at hc); first | exact znf | skip)) | refine Qq ?_ | refine Qm ?_ | simp (maxSteps := 1000000) only [go_sem, Nat.reduceAdd, Nat.reduceMul, Nat.reduceEqDiff, Nat.reduceLeDiff, Nat.reduceLT, Nat.reduceSub, Int.reduceEq, Int.reduceBEq, Int.reduceLT, Int.reduceLE, Int.reduceAdd, Int.reduceToNat, reduceIte, reduceCtorEq, Q7, Q6] | (refine hK _ ?_; clear hK; clear K') | refine And.intro ?_ ?_ | (apply US; (focus first | exact QL)) | (apply ja; (focus first | exact QL)) | (apply UR; (focus exact rfl); (focus exact rfl); (focus first | exact rfl | decide); (focus first | exact rfl | decide); (focus first | exact u1 | exact u2 | exact u3 | exact u4 | exact u5 | exact u6 | exact u7 | exact u8 | exact (Qg _ _ zsd zsd zsd) | exact (Qf _ _ zsd) | exact (Qo _ zsd zsd)); (focus exact rfl); (focus first | exact rfl | (simp; done))) | (apply KY; (focus exact rfl); (focus exact rfl); (focus first | exact u1 | exact u2 | exact u3 | exact u4 | exact u5 | exact u6 | exact u7 | exact u8 | exact (Qg _ _ zsd zsd zsd) | exact (Qf _ _ zsd) | exact (Qo _ zsd zsd)); (focus exact rfl); (focus first | exact rfl | (simp; done))) | ((first | apply QY | apply Yg); (focus first | exact hC | exact hN | exact hT | exact (JF _ zsd zsd zsd).b | exact (Je _ _ zsd zsd zsd zsd).b | exact (JN _ _).b)) | exact zlo | omega | exact zms)
      all_goals first | (refine QF _ rfl ?_; simp only [go_sem, Nat.reduceEqDiff, Nat.reduceAdd, reduceIte, reduceCtorEq]; done) | trace_state
    rw [if_neg (by omega), if_neg (by omega), if_neg (by omega)] at hj ⊢
    have u6 := Qg (num) [sd, host, sm, subj, kw] (by simp) (by omega) (by omega)
    have u7 := Qg (conf) [sd, host, sm, subj, kw, Lib.itoa num] (by simp) (by omega) (by omega)
    have u8 := Qo [sd, host, sm, subj, kw, Lib.itoa num, Lib.itoa conf] (by simp) (by simpa using Nat.lt_of_succ_lt hj)
    simp only [List.cons_append, List.nil_append, List.map_cons, List.map_nil] at u6 u7 u8 ⊢
    repeat' (first | refine Qi fun K' hK => ?_ | refine Ql fun K' hK => ?_ | refine QZ 16 (fun _ => true) rfl (QE _ _ _) (QC _ _ _) fun K' hK => ?_ | refine Q0 16 (fun _ => true) rfl (QE _ _ _) (QC _ _ _) fun K' hK => ?_ | refine QZ 8 (fun y => !decide (y = 14000) && !decide (y = 28000)) rfl (QD _ _ _) (QB _ _ _) fun K' hK => ?_ | refine Q0 8 (fun y => !decide (y = 14000) && !decide (y = 28000)) rfl (QD _ _ _) (QB _ _ _) fun K' hK => ?_ | refine Qj ?_ | refine Qk ?_ | refine Qd ?_ | ((first | refine Qn ⟨_, rfl, fun hc => ?_, fun hc => ?_⟩ | refine QV (fun hc => ?_) (fun hc => ?_) | refine QW (fun hc => ?_) (fun hc => ?_)) <;> first | exact Bool.noConfusion hc | ((try simp only [znz] at hc); first | exact znf | skip)) | refine Qq ?_ | refine Qm ?_ | simp (maxSteps := 1000000) only [go_sem, Nat.reduceAdd, Nat.reduceMul, Nat.reduceEqDiff, Nat.reduceLeDiff, Nat.reduceLT, Nat.reduceSub, Int.reduceEq, Int.reduceBEq, Int.reduceLT, Int.reduceLE, Int.reduceAdd, Int.reduceToNat, reduceIte, reduceCtorEq, E 1 k1, E 8 k8, E 3 k3, E 7 k7, Q7, Q6] | (refine hK _ ?_; clear hK; clear K') | refine And.intro ?_ ?_ | (apply US; (focus first | exact QL)) | (apply ja; (focus first | exact QL)) | (apply UR; (focus exact rfl); (focus exact rfl); (focus first | exact rfl | decide); (focus first | exact rfl | decide); (focus first | exact u1 | exact u2 | exact u3 | exact u4 | exact u5 | exact u6 | exact u7 | exact u8 | exact (Qg _ _ zsd zsd zsd) | exact (Qf _ _ zsd) | exact (Qo _ zsd zsd)); (focus exact rfl); (focus first | exact rfl | (simp; done))) | (apply KY; (focus exact rfl); (focus exact rfl); (focus first | exact u1 | exact u2 | exact u3 | exact u4 | exact u5 | exact u6 | exact u7 | exact u8 | exact (Qg _ _ zsd zsd zsd) | exact (Qf _ _ zsd) | exact (Qo _ zsd zsd)); (focus exact rfl); (focus first | exact rfl | (simp; done))) | ((first | apply QY | apply Yg); (focus first | exact hC | exact hN | exact hT | exact (JF _ zsd zsd zsd).b | exact (Je _ _ zsd zsd zsd zsd).b | exact (JN _ _).b)) | exact zlo | omega | exact zms)
    all_goals first | (refine QF _ rfl ?_; simp only [go_sem, Nat.reduceEqDiff, Nat.reduceAdd, reduceIte, reduceCtorEq]; done) | trace_state
end Av
end

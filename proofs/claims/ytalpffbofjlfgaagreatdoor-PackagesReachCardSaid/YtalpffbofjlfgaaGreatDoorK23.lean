/- K23 -/
import Derived.Test.YtalpffbofjlfgaaGreatDoorK21
import Derived.Test.YtalpffbofjlfgaaGreatDoorK22
import Derived.Test.YtalpffbofjlfgaaGreatDoorK20
set_option linter.unusedVariables false
set_option linter.unusedSimpArgs false
section
set_option linter.unusedSimpArgs false
set_option linter.unusedVariables false
set_option maxRecDepth 10000
set_option maxHeartbeats 4000000
namespace Av
open Go
attribute [local irreducible] AWp Wz WQ W4 awS awC V1 awQ Ue Jc YR VY awR YY awB okR Wt ris
structure JI where
  name : List UInt8
  lo : List Int
  up : List Int
  uses : List PU
def JI.cells (n : JI) : List V := [V.str n.name, .sl 1 (n.lo.map V.int), .sl 1 (n.up.map V.int), .sl 2 (n.uses.map usV)]
def JI.v (n : JI) : V := .agg n.cells
theorem afh (n : JI) : n.v.closed := by simp only [JI.v, JI.cells, V.closed, Qj, and_self]
def aif (a b : PU) : Int := if a.1 ≠ b.1 then a.1 - b.1 else a.2 - b.2
def jQ : AC := Qr [2, 3] (.reg [xo 2 (.box true 2 (.t 0)), xo 3 (.box true 2 (.t 1)), mc 4 (V.int 0)]) (Qr [2, 3] (Qr [2, 3, 9] (.reg [fa 5 0 2, ld 6 1 5, fa 7 0 3, ld 8 1 7, bn 9 .neq 6 8]) (.cond (.t 9) (Qr [4] (.reg [fa 10 0 2, ld 11 1 10, fa 12 0 3, ld 13 1 12, bn 14 .sub 11 13, mv 4 14]) (.ret)) (.skip))) (Qr [4] (.reg [fa 15 1 2, ld 16 1 15, fa 17 1 3, ld 18 1 17, bn 19 .sub 16 18, mv 4 19]) (.ret))) def r_catalog_Less : List Wc := [.tmp 4]
def jm (Γ : Env) (f : Nat) : Prop := ∀ (a b : PU) (ha : a.1.natAbs < 2 ^ 60) (ha2 : a.2.natAbs < 2 ^ 60) (hb : b.1.natAbs < 2 ^ 60) (hb2 : b.2.natAbs < 2 ^ 60), EvN Γ f [usV a, usV b] (V.int (aif a b))
theorem ab4 {Γ : Env} {f : Nat} (h : Has Γ.P f 20 jQ r_catalog_Less)  : jm Γ f := by
  intro a b ha ha2 hb hb2
  refine QV h (by simp) (by simp only [V.closed, Qj, V.noSl, Jy, and_self, and_true, true_and]) (by simp only [V.closed, Qj, V.noSl, Jy, and_self, and_true, true_and]) fun C hC hm => ?_
  subst hC
  unfold jQ
  have w1 : IntKind.i64.wrap (a.1 - b.1) = a.1 - b.1 := Wl (by omega) (by omega)
  have w2 : IntKind.i64.wrap (a.2 - b.2) = a.2 - b.2 := Wl (by omega) (by omega)
  unfold aif
  by_cases h : a.1 = b.1
  · have e1 : (a.1 != b.1) = false := by simp [h]
    rw [if_neg (by simpa using h)]
    repeat' (first | refine Qb fun K' hK => ?_ | refine Qe fun K' hK => ?_ | refine Qc ?_ | refine Qd ?_ | refine Qa ?_ | ((first | refine Qg ⟨_, rfl, fun hc => ?_, fun hc => ?_⟩ | refine QL (fun hc => ?_) (fun hc => ?_) | refine QM (fun hc => ?_) (fun hc => ?_)) <;> first | exact Bool.noConfusion hc | ((try simp only [znz] at hc); first | exact znf | skip)) | refine Qi ?_ | refine Qf ?_ | simp (maxSteps := 1000000) only [go_sem, Nat.reduceAdd, Nat.reduceMul, Nat.reduceEqDiff, Nat.reduceLeDiff, Nat.reduceLT, Nat.reduceSub, Int.reduceEq, Int.reduceBEq, Int.reduceLT, Int.reduceLE, Int.reduceAdd, Int.reduceToNat, reduceIte, reduceCtorEq, usV, w1, w2, e1] | (refine hK _ ?_; clear hK; clear K') | refine And.intro ?_ ?_ | exact zlo | omega | exact zms)
    all_goals first | (refine Jb _ rfl ?_; simp only [go_sem, Nat.reduceEqDiff, Nat.reduceAdd, reduceIte, reduceCtorEq]; done) | trace_state
  · have e1 : (a.1 != b.1) = true := by simp [h]
    rw [if_pos h]
    repeat' (first | refine Qb fun K' hK => ?_ | refine Qe fun K' hK => ?_ | refine Qc ?_ | refine Qd ?_ | refine Qa ?_ | ((first | refine Qg ⟨_, rfl, fun hc => ?_, fun hc => ?_⟩ | refine QL (fun hc => ?_) (fun hc => ?_) | refine QM (fun hc => ?_) (fun hc => ?_)) <;> first | exact Bool.noConfusion hc | ((try simp only [znz] at hc); first | exact znf | skip)) | refine Qi ?_ | refine Qf ?_ | simp (maxSteps := 1000000) only [go_sem, Nat.reduceAdd, Nat.reduceMul, Nat.reduceEqDiff, Nat.reduceLeDiff, Nat.reduceLT, Nat.reduceSub, Int.reduceEq, Int.reduceBEq, Int.reduceLT, Int.reduceLE, Int.reduceAdd, Int.reduceToNat, reduceIte, reduceCtorEq, usV, w1, w2, e1] | (refine hK _ ?_; clear hK; clear K') | refine And.intro ?_ ?_ | exact zlo | omega | exact zms)
    all_goals first | (refine Jb _ rfl ?_; simp only [go_sem, Nat.reduceEqDiff, Nat.reduceAdd, reduceIte, reduceCtorEq]; done) | trace_state
def Kb (l : List QK) (s : List UInt8) : Int × Int := if Uk l ≠ 0 then (0, Uk l) else if jX l s < 0 then (0, 4) else (jX l s, 0)
def qy (Xn XL : Nat) : AC := Qr [0, 1] (.reg [mc 4 (V.int 0), mc 5 (V.int 0)]) (Qr [0, 1] (Qr [0, 1, 6] (.reg [mv 8 0, cl 9 Xn [8], mv 6 9]) (Qr [0, 1, 6, 11] (.reg [mv 10 6, bc 11 .neq 10 (V.int 0)]) (.cond (.t 11) (Qr [4, 5] (.reg [mv 12 6, mc 4 (V.int 0), mv 5 12]) (.ret)) (.skip)))) (Qr [7] (.reg [mv 13 0, mv 14 1, cl 15 XL [13, 14], mv 7 15]) (Qr [7] (Qr [7, 17] (.reg [mv 16 7, bc 17 .lss 16 (V.int 0)]) (.cond (.t 17) (Qr [4, 5] (.reg [mc 4 (V.int 0), mc 5 (V.int 4)]) (.ret)) (.skip))) (Qr [4, 5] (.reg [mv 18 7, mv 4 18, mc 5 (V.int 0)]) (.ret))))) def r_packages_start : List Wc := [.tmp 4, .tmp 5]
def Ug (Γ : Env) (f : Nat) : Prop := ∀ (l : List QK) (s : List UInt8) (hl : PSz l), EvN Γ f [.sl 3 (l.map QK.v), V.str s] (.tup [V.int (Kb l s).1, V.int (Kb l s).2])
theorem aaA {Γ : Env} {f Xn XL : Nat} (h : Has Γ.P f 19 (qy Xn XL) r_packages_start) (Jq : Ui Γ Xn) (XI : UF Γ XL) : Ug Γ f := by
  intro l s hl
  refine QV h (by simp) (by simp only [V.closed, Qj, V.noSl, Jy, and_self, and_true, true_and]) (by simp only [V.closed, Qj, V.noSl, Jy, and_self, and_true, true_and]) fun C hC hm => ?_
  subst hC
  unfold qy
  have hC := (Jq l hl).b
  have hF := (XI l s hl.1).b
  unfold Kb
  by_cases hc0 : Uk l = 0
  · rw [if_neg (by simpa using hc0)]
    rw [hc0] at hC
    by_cases hf : jX l s < 0
    · rw [if_pos hf]
      have e1 : decide (jX l s < 0) = true := decide_eq_true hf
      repeat' (first | refine Qb fun K' hK => ?_ | refine Qe fun K' hK => ?_ | refine Qc ?_ | refine Qd ?_ | refine Qa ?_ | ((first | refine Qg ⟨_, rfl, fun hc => ?_, fun hc => ?_⟩ | refine QL (fun hc => ?_) (fun hc => ?_) | refine QM (fun hc => ?_) (fun hc => ?_)) <;> first | exact Bool.noConfusion hc | ((try simp only [znz] at hc); first | exact znf | skip)) | refine Qi ?_ | refine Qf ?_ | simp (maxSteps := 1000000) only [go_sem, Nat.reduceAdd, Nat.reduceMul, Nat.reduceEqDiff, Nat.reduceLeDiff, Nat.reduceLT, Nat.reduceSub, Int.reduceEq, Int.reduceBEq, Int.reduceLT, Int.reduceLE, Int.reduceAdd, Int.reduceToNat, reduceIte, reduceCtorEq, e1] | (refine hK _ ?_; clear hK; clear K') | refine And.intro ?_ ?_ | (apply QX; (focus first | exact hC | exact hF | exact (Jq _ zsd).b | exact (XI _ _ zsd).b)) | exact zlo | omega | exact zms)
      all_goals first | (refine Jb _ rfl ?_; simp only [go_sem, Nat.reduceEqDiff, Nat.reduceAdd, reduceIte, reduceCtorEq]; done) | trace_state
    · rw [if_neg hf]
      have e1 : decide (jX l s < 0) = false := decide_eq_false hf
      repeat' (first | refine Qb fun K' hK => ?_ | refine Qe fun K' hK => ?_ | refine Qc ?_ | refine Qd ?_ | refine Qa ?_ | ((first | refine Qg ⟨_, rfl, fun hc => ?_, fun hc => ?_⟩ | refine QL (fun hc => ?_) (fun hc => ?_) | refine QM (fun hc => ?_) (fun hc => ?_)) <;> first | exact Bool.noConfusion hc | ((try simp only [znz] at hc); first | exact znf | skip)) | refine Qi ?_ | refine Qf ?_ | simp (maxSteps := 1000000) only [go_sem, Nat.reduceAdd, Nat.reduceMul, Nat.reduceEqDiff, Nat.reduceLeDiff, Nat.reduceLT, Nat.reduceSub, Int.reduceEq, Int.reduceBEq, Int.reduceLT, Int.reduceLE, Int.reduceAdd, Int.reduceToNat, reduceIte, reduceCtorEq, e1] | (refine hK _ ?_; clear hK; clear K') | refine And.intro ?_ ?_ | (apply QX; (focus first | exact hC | exact hF | exact (Jq _ zsd).b | exact (XI _ _ zsd).b)) | exact zlo | omega | exact zms)
      all_goals first | (refine Jb _ rfl ?_; simp only [go_sem, Nat.reduceEqDiff, Nat.reduceAdd, reduceIte, reduceCtorEq]; done) | trace_state
  · rw [if_pos hc0]
    have e1 : (Uk l != 0) = true := by simpa using hc0
    repeat' (first | refine Qb fun K' hK => ?_ | refine Qe fun K' hK => ?_ | refine Qc ?_ | refine Qd ?_ | refine Qa ?_ | ((first | refine Qg ⟨_, rfl, fun hc => ?_, fun hc => ?_⟩ | refine QL (fun hc => ?_) (fun hc => ?_) | refine QM (fun hc => ?_) (fun hc => ?_)) <;> first | exact Bool.noConfusion hc | ((try simp only [znz] at hc); first | exact znf | skip)) | refine Qi ?_ | refine Qf ?_ | simp (maxSteps := 1000000) only [go_sem, Nat.reduceAdd, Nat.reduceMul, Nat.reduceEqDiff, Nat.reduceLeDiff, Nat.reduceLT, Nat.reduceSub, Int.reduceEq, Int.reduceBEq, Int.reduceLT, Int.reduceLE, Int.reduceAdd, Int.reduceToNat, reduceIte, reduceCtorEq, e1] | (refine hK _ ?_; clear hK; clear K') | refine And.intro ?_ ?_ | (apply QX; (focus first | exact hC | exact (Jq _ zsd).b | exact (XI _ _ zsd).b)) | exact zlo | omega | exact zms)
    all_goals first | (refine Jb _ rfl ?_; simp only [go_sem, Nat.reduceEqDiff, Nat.reduceAdd, reduceIte, reduceCtorEq]; done) | trace_state
def KX (YW : Nat) : AC := Qr [1] (.reg [xo 1 (.box true 4 (.t 0)), mc 2 (V.bool false)]) (Qr [2] (.reg [fa 3 1 1, xo 4 (.load true 2 (.t 3)), cl 5 YW [4], xo 6 (.un .not (.t 5)), mv 2 6]) (.ret)) def r_packages_Uses_1 : List Wc := [.tmp 2]
def Ky (Γ : Env) (f : Nat) : Prop := ∀ (n : JI) (ha : n.lo.length < 2 ^ 60) (hb : n.up.length < 2 ^ 60), EvN Γ f [n.v] (V.bool (!Kd n.lo n.up))
theorem vA {Γ : Env} {f YW : Nat} (h : Has Γ.P f 7 (KX YW) r_packages_Uses_1) (WS : VJ Γ YW) : Ky Γ f := by
  intro n ha hb
  refine QV h (by simp) (by simp only [V.closed, Qj, V.noSl, Jy, and_self, and_true, true_and]) (by simp only [V.closed, Qj, V.noSl, Jy, and_self, and_true, true_and]) fun C hC hm => ?_
  subst hC
  unfold KX
  have hR := (WS n.lo n.up ha hb).b
  simp only [wZ] at hR
  repeat' (first | refine Qb fun K' hK => ?_ | refine Qe fun K' hK => ?_ | refine Qc ?_ | refine Qd ?_ | refine Qa ?_ | ((first | refine Qg ⟨_, rfl, fun hc => ?_, fun hc => ?_⟩ | refine QL (fun hc => ?_) (fun hc => ?_) | refine QM (fun hc => ?_) (fun hc => ?_)) <;> first | exact Bool.noConfusion hc | ((try simp only [znz] at hc); first | exact znf | skip)) | refine Qi ?_ | refine Qf ?_ | simp (maxSteps := 1000000) only [go_sem, Nat.reduceAdd, Nat.reduceMul, Nat.reduceEqDiff, Nat.reduceLeDiff, Nat.reduceLT, Nat.reduceSub, Int.reduceEq, Int.reduceBEq, Int.reduceLT, Int.reduceLE, Int.reduceAdd, Int.reduceToNat, reduceIte, reduceCtorEq, JI.v, JI.cells] | (refine hK _ ?_; clear hK; clear K') | refine And.intro ?_ ?_ | (apply QX; (focus first | exact hR | exact (WS _ _ zsd zsd).b)) | exact zlo | omega | exact zms)
  all_goals first | (refine Jb _ rfl ?_; simp only [go_sem, Nat.reduceEqDiff, Nat.reduceAdd, reduceIte, reduceCtorEq]; done) | trace_state
def KW (Ki : Nat) : AC := Qr [1] (.reg [xo 1 (.box true 2 (.t 0)), mc 2 (V.bool false)]) (Qr [2] (.reg [xo 3 (.load true 2 (.t 1)), cl 4 Ki [3], xo 5 (.un .not (.t 4)), mv 2 5]) (.ret)) def r_packages_Uses_2 : List Wc := [.tmp 2]
def Kx (Γ : Env) (f : Nat) : Prop := ∀ (u : PU), EvN Γ f [usV u] (V.bool (!decide (Ka u.1 u.2 > 0)))
theorem vw {Γ : Env} {f Ki : Nat} (h : Has Γ.P f 6 (KW Ki) r_packages_Uses_2) (abX : qJ Γ Ki) : Kx Γ f := by
  intro u
  refine QV h (by simp) (by simp only [V.closed, Qj, V.noSl, Jy, and_self, and_true, true_and]) (by simp only [V.closed, Qj, V.noSl, Jy, and_self, and_true, true_and]) fun C hC hm => ?_
  subst hC
  unfold KW
  repeat' (first | refine Qb fun K' hK => ?_ | refine Qe fun K' hK => ?_ | refine Qc ?_ | refine Qd ?_ | refine Qa ?_ | ((first | refine Qg ⟨_, rfl, fun hc => ?_, fun hc => ?_⟩ | refine QL (fun hc => ?_) (fun hc => ?_) | refine QM (fun hc => ?_) (fun hc => ?_)) <;> first | exact Bool.noConfusion hc | ((try simp only [znz] at hc); first | exact znf | skip)) | refine Qi ?_ | refine Qf ?_ | simp (maxSteps := 1000000) only [go_sem, Nat.reduceAdd, Nat.reduceMul, Nat.reduceEqDiff, Nat.reduceLeDiff, Nat.reduceLT, Nat.reduceSub, Int.reduceEq, Int.reduceBEq, Int.reduceLT, Int.reduceLE, Int.reduceAdd, Int.reduceToNat, reduceIte, reduceCtorEq, usV] | (refine hK _ ?_; clear hK; clear K') | refine And.intro ?_ ?_ | (apply QX; (focus first | exact (abX _ _).b)) | exact zlo | omega | exact zms)
  all_goals first | (refine Jb _ rfl ?_; simp only [go_sem, Nat.reduceEqDiff, Nat.reduceAdd, reduceIte, reduceCtorEq]; done) | trace_state
def KV (JZ : Nat) : AC := Qr [1, 2] (.reg [xo 2 (.box true 4 (.t 0)), mc 3 (V.bool false)]) (Qr [3] (.reg [fa 4 3 2, ld 5 1 4, ld 6 1 1, cl 7 JZ [5, 6], mv 3 7]) (.ret)) def r_packages_Uses_3 : List Wc := [.tmp 3]
def Kw (Γ : Env) (f : Nat) : Prop := ∀ (n : JI) (g : Nat) (p : PU → Bool) (hp : ∀ x ∈ n.uses, EvN Γ g [usV x] (V.bool (p x))) (hu : n.uses.length < 2 ^ 60), EvN Γ f [n.v, .ro [.clo g []] 0] (V.bool (n.uses.any p))
theorem vv {Γ : Env} {f JZ : Nat} (h : Has Γ.P f 8 (KV JZ) r_packages_Uses_3) (X9 : YC Γ JZ) : Kw Γ f := by
  intro n g p hp hu
  refine QV h (by simp) (by simp only [V.closed, Qj, V.noSl, Jy, and_self, and_true, true_and]) (by simp only [V.closed, Qj, V.noSl, Jy, and_self, and_true, true_and]) fun C hC hm => ?_
  subst hC
  unfold KV
  have hC := (X9 n.uses g [] p hp trivial (by omega)).b
  repeat' (first | refine Qb fun K' hK => ?_ | refine Qe fun K' hK => ?_ | refine Qc ?_ | refine Qd ?_ | refine Qa ?_ | ((first | refine Qg ⟨_, rfl, fun hc => ?_, fun hc => ?_⟩ | refine QL (fun hc => ?_) (fun hc => ?_) | refine QM (fun hc => ?_) (fun hc => ?_)) <;> first | exact Bool.noConfusion hc | ((try simp only [znz] at hc); first | exact znf | skip)) | refine Qi ?_ | refine Qf ?_ | simp (maxSteps := 1000000) only [go_sem, Nat.reduceAdd, Nat.reduceMul, Nat.reduceEqDiff, Nat.reduceLeDiff, Nat.reduceLT, Nat.reduceSub, Int.reduceEq, Int.reduceBEq, Int.reduceLT, Int.reduceLE, Int.reduceAdd, Int.reduceToNat, reduceIte, reduceCtorEq, JI.v, JI.cells] | (refine hK _ ?_; clear hK; clear K') | refine And.intro ?_ ?_ | (apply QX; (focus first | exact hC | exact (X9 _ _ _ _ zsd zsd zsd).b)) | exact zlo | omega | exact zms)
  all_goals first | (refine Jb _ rfl ?_; simp only [go_sem, Nat.reduceEqDiff, Nat.reduceAdd, reduceIte, reduceCtorEq]; done) | trace_state
def j9 : List AO := [mv 12 0, mv 13 5, ia 14 2 12 13, xo 15 (.load true 2 (.t 14)), xo 16 (.load true 2 (.t 3)), xo 17 (.eqagg false [0, 0] (.t 15) (.t 16))]
def yw : List (List Nat) := [[], [], [0, 1], [2], [], [3, 4]]
def j4 : OT := .one 0 (.one 1 (.one 2 (.one 3 (.one 4 (.one 5 (.done))))))
def V3 : OP := .one 0 false [] (mv 12 0) (.one 1 false [] (mv 13 5) (.one 2 false [] (ia 14 2 12 13) (.one 3 false [] (xo 15 (.load true 2 (.t 14))) (.one 4 false [] (xo 16 (.load true 2 (.t 3))) (.one 5 false [] (xo 17 (.eqagg false [0, 0] (.t 15) (.t 16))) (.done))))))
theorem WG : okR (j9) yw [] j4 = true := by kernel_rfl
theorem WF : Wt (ris (j9) yw []) j4 = V3 := by kernel_rfl def c_law12_use : AC := Qr [0, 3] (.reg [xo 3 (.box true 2 (.t 1)), mc 4 (V.bool false)]) (Qr [] (Qr [0, 3, 5] (.reg [mc 5 (V.int 0)]) (.block 0 (W5 [0, 3, 5] (Qr [0, 3, 5] (Qr [0, 3, 5, 9] (.reg [mv 6 5, mv 7 0, ln 8 7, bn 9 .lss 6 8]) (.cond (.t 9) (.skip) (.exit 0))) (Qr [0, 3, 5] (.block 1 (Qr [0, 3, 5, 17] (acq [] j4 (V3) (j9) yw) (.cond (.t 17) (Qr [4] (.reg [mc 4 (V.bool true)]) (.ret)) (.skip)))) (.reg [mv 10 5, bc 11 .add 10 (V.int 1), mv 5 11])))))) (Qr [4] (.reg [mc 4 (V.bool false)]) (.ret))) def r_law12_use : List Wc := [.tmp 4]
def xn (Γ : Env) (f : Nat) : Prop := ∀ (l : List PU) (u : PU) (hl : l.length < 2 ^ 60), EvN Γ f [.sl 2 (l.map usV), usV u] (V.bool (l.any fun x => x.1 == u.1 && x.2 == u.2))
theorem aeD {Γ : Env} {f : Nat} (h : Has Γ.P f 18 c_law12_use r_law12_use)  : xn Γ f := by
  intro l u hl
  refine QV h (by simp) (by simp only [V.closed, Qj, V.noSl, Jy, and_self, and_true, true_and]) (by simp only [V.closed, Qj, V.noSl, Jy, and_self, and_true, true_and]) fun C hC hm => ?_
  subst hC
  unfold c_law12_use
  generalize hpp : (fun x : PU => x.1 == u.1 && x.2 == u.2) = pp
  have hp2 : ∀ x : PU, (x.1 == u.1 && x.2 == u.2) = pp x := fun x => by rw [← hpp]
  repeat' (first | refine Qb fun K' hK => ?_ | refine Qe fun K' hK => ?_ | refine Qp 6 (fun _ => true) rfl (WG) (WF) fun K' hK => ?_ | refine Qq 6 (fun _ => true) rfl (WG) (WF) fun K' hK => ?_ | refine Qc ?_ | refine Qd ?_ | refine Qa ?_ | ((first | refine Qg ⟨_, rfl, fun hc => ?_, fun hc => ?_⟩ | refine QL (fun hc => ?_) (fun hc => ?_) | refine QM (fun hc => ?_) (fun hc => ?_)) <;> first | exact Bool.noConfusion hc | ((try simp only [znz] at hc); first | exact znf | skip)) | refine Qi ?_ | refine Qf ?_ | simp (maxSteps := 1000000) only [go_sem, Nat.reduceAdd, Nat.reduceMul, Nat.reduceEqDiff, Nat.reduceLeDiff, Nat.reduceLT, Nat.reduceSub, Int.reduceEq, Int.reduceBEq, Int.reduceLT, Int.reduceLE, Int.reduceAdd, Int.reduceToNat, reduceIte, reduceCtorEq, usV, V3] | (refine hK _ ?_; clear hK; clear K') | refine And.intro ?_ ?_ | exact zlo | omega | exact zms)
  refine Vv (ι := Nat) (fun k => k ≤ l.length ∧ (l.drop k).any pp = l.any pp) (fun k => [(5, V.int k)]) (fun k => l.length - k) 0 (by omega) ⟨by simp, by simp⟩ (by repeat' first | exact UE | refine qu (by omega) (by simp only [Ob.lt, ltL, V.lt, and_self, and_true]; try omega) ?_) (fun i hi => by simp only [ovT, XZ, Nat.reduceEqDiff, reduceIte]; (repeat' first | exact qt | refine UD ?_ ?_ | simp only [V.lt, ltL, and_self, and_true] | omega)) (by simp only [Nat.reduceAdd, ovT, XZ, Nat.reduceEqDiff, reduceIte, Yx, XO, wL, u32, u33, u34, u35, u36, u37, u38, u39, and_self, and_true, true_and]; first | done | rfl) fun k hk K' hL => ?_
  obtain ⟨hk, hinv⟩ := hk
  simp only [ovT, XZ, Nat.reduceEqDiff, reduceIte]
  rcases hd : l.drop k with _ | ⟨y, r⟩
  · have := Vg hd
    rw [hd] at hinv
    have e1 : decide ((k : Int) < (((l.map usV).length : Nat) : Int)) = false := by simp; omega
    rw [← hinv]
    repeat' (first | refine Qb fun K' hK => ?_ | refine Qe fun K' hK => ?_ | refine Qp 6 (fun _ => true) rfl (WG) (WF) fun K' hK => ?_ | refine Qq 6 (fun _ => true) rfl (WG) (WF) fun K' hK => ?_ | refine Qc ?_ | refine Qd ?_ | refine Qa ?_ | ((first | refine Qg ⟨_, rfl, fun hc => ?_, fun hc => ?_⟩ | refine QL (fun hc => ?_) (fun hc => ?_) | refine QM (fun hc => ?_) (fun hc => ?_)) <;> first | exact Bool.noConfusion hc | ((try simp only [znz] at hc); first | exact znf | skip)) | refine Qi ?_ | refine Qf ?_ | simp (maxSteps := 1000000) only [go_sem, Nat.reduceAdd, Nat.reduceMul, Nat.reduceEqDiff, Nat.reduceLeDiff, Nat.reduceLT, Nat.reduceSub, Int.reduceEq, Int.reduceBEq, Int.reduceLT, Int.reduceLE, Int.reduceAdd, Int.reduceToNat, reduceIte, reduceCtorEq, e1, V3] | (refine hK _ ?_; clear hK; clear K') | refine And.intro ?_ ?_ | exact zlo | omega | exact zms)
    all_goals first | (refine Jb _ rfl ?_; simp only [go_sem, Nat.reduceEqDiff, Nat.reduceAdd, reduceIte, reduceCtorEq]; done) | (refine Jb _ rfl ?_; simp only [go_sem, Nat.reduceEqDiff, Nat.reduceAdd, reduceIte, reduceCtorEq]; simp; done) | trace_state
  · obtain ⟨hk', hget, hr⟩ := Wx hd
    rw [hd] at hinv
    have hw := JS (k := k) (by omega)
    have e1 : decide ((k : Int) < (((l.map usV).length : Nat) : Int)) = true := by simp; omega
    have hpy := hp2 y
    have vy : (l.map usV)[k]? = some (.agg [V.int y.1, V.int y.2]) := by rw [List.getElem?_map, hget]; rfl
    rcases hy : pp y with _ | _
    · rw [hy] at hpy
      repeat' (first | refine Qb fun K' hK => ?_ | refine Qe fun K' hK => ?_ | refine Qp 6 (fun _ => true) rfl (WG) (WF) fun K' hK => ?_ | refine Qq 6 (fun _ => true) rfl (WG) (WF) fun K' hK => ?_ | refine Qc ?_ | refine Qd ?_ | refine Qa ?_ | ((first | refine Qg ⟨_, rfl, fun hc => ?_, fun hc => ?_⟩ | refine QL (fun hc => ?_) (fun hc => ?_) | refine QM (fun hc => ?_) (fun hc => ?_)) <;> first | exact Bool.noConfusion hc | ((try simp only [znz] at hc); first | exact znf | skip)) | refine Qi ?_ | refine Qf ?_ | simp (maxSteps := 1000000) only [go_sem, Nat.reduceAdd, Nat.reduceMul, Nat.reduceEqDiff, Nat.reduceLeDiff, Nat.reduceLT, Nat.reduceSub, Int.reduceEq, Int.reduceBEq, Int.reduceLT, Int.reduceLE, Int.reduceAdd, Int.reduceToNat, reduceIte, reduceCtorEq, e1, hw, Int.toNat_natCast, vy, hpy, V3] | (refine hK _ ?_; clear hK; clear K') | refine And.intro ?_ ?_ | exact zlo | omega | exact zms)
      all_goals first
        | exact hL _ (k + 1) (by simp only [Nat.reduceAdd, ovT, XZ, Nat.reduceEqDiff, reduceIte, Yx, XO, wL, u32, u33, u34, u35, u36, u37, u38, u39, and_self, and_true, true_and]) ⟨by omega, by rw [hr, ← hinv, List.any_cons, hy, Bool.false_or]⟩ (by omega) (fun a ha => by simp only [u32, u33, u34, u35, u36, u37, u38, u39]; repeat rw [if_neg (by omega)])
        | trace_state
    · rw [hy] at hpy
      rw [← hinv, List.any_cons, hy, Bool.true_or]
      repeat' (first | refine Qb fun K' hK => ?_ | refine Qe fun K' hK => ?_ | refine Qp 6 (fun _ => true) rfl (WG) (WF) fun K' hK => ?_ | refine Qq 6 (fun _ => true) rfl (WG) (WF) fun K' hK => ?_ | refine Qc ?_ | refine Qd ?_ | refine Qa ?_ | ((first | refine Qg ⟨_, rfl, fun hc => ?_, fun hc => ?_⟩ | refine QL (fun hc => ?_) (fun hc => ?_) | refine QM (fun hc => ?_) (fun hc => ?_)) <;> first | exact Bool.noConfusion hc | ((try simp only [znz] at hc); first | exact znf | skip)) | refine Qi ?_ | refine Qf ?_ | simp (maxSteps := 1000000) only [go_sem, Nat.reduceAdd, Nat.reduceMul, Nat.reduceEqDiff, Nat.reduceLeDiff, Nat.reduceLT, Nat.reduceSub, Int.reduceEq, Int.reduceBEq, Int.reduceLT, Int.reduceLE, Int.reduceAdd, Int.reduceToNat, reduceIte, reduceCtorEq, e1, hw, Int.toNat_natCast, vy, hpy, V3] | (refine hK _ ?_; clear hK; clear K') | refine And.intro ?_ ?_ | exact zlo | omega | exact zms)
      all_goals first | (refine Jb _ rfl ?_; simp only [go_sem, Nat.reduceEqDiff, Nat.reduceAdd, reduceIte, reduceCtorEq]; done) | trace_state
inductive Rch (l : List QK) (a : Nat) : Nat → Prop
  | refl : Rch l a a
  | step {i k : Nat} {p : QK} {n : Yk} (h : Rch l a i) (hp : l[i]? = some p) (hn : n ∈ p.needs) (hk : yY l n = (k : Int)) : Rch l a k
theorem Rch.trans {l : List QK} {a b c : Nat} (h : Rch l a b) (h' : Rch l b c) : Rch l a c := by
  induction h' with
  | refl => exact h
  | step _ hp hn hk ih => exact .step ih hp hn hk
theorem ah9 {l : List QK} {n : Yk} {k : Nat} (h : yY l n = (k : Int)) : k < l.length := by
  unfold yY at h
  split at h
  · rename_i p hp
    split at h
    · rw [h] at hp
      obtain ⟨h1, _⟩ := List.getElem?_eq_some_iff.1 hp
      simpa using h1
    · omega
  · omega
theorem Rch.lt {l : List QK} {a b : Nat} (h : Rch l a b) (ha : a < l.length) : b < l.length := by
  induction h with
  | refl => exact ha
  | step _ _ _ hk _ => exact ah9 hk
noncomputable def ad8 (l : List QK) (a : Nat) : List Nat := (List.range l.length).filter fun i => @decide (Rch l a i) (Classical.propDecidable _)
theorem agE {l : List QK} {a i : Nat} : i ∈ ad8 l a ↔ i < l.length ∧ Rch l a i := by simp [ad8]
theorem agF {l : List QK} {a : Nat} : (ad8 l a).length ≤ l.length := by
  have := List.length_filter_le (fun i => @decide (Rch l a i) (Classical.propDecidable _)) (List.range l.length)
  rwa [List.length_range] at this
theorem adl {l : List QK} {a : Nat} : (ad8 l a).Pairwise (· < ·) := List.Pairwise.filter _ List.pairwise_lt_range
theorem aj0 : ∀ (xs ys : List Int), xs.Pairwise (· < ·) → ys.Pairwise (· < ·) → (∀ i, i ∈ xs ↔ i ∈ ys) → xs = ys
  | [], [], _, _, _ => rfl
  | [], y :: r, _, _, h => absurd ((h y).2 (by simp)) (by simp)
  | x :: r, [], _, _, h => absurd ((h x).1 (by simp)) (by simp)
  | x :: xs, y :: ys, h1, h2, h => by
    obtain ⟨a1, a2⟩ := List.pairwise_cons.1 h1
    obtain ⟨b1, b2⟩ := List.pairwise_cons.1 h2
    have e : x = y := by
      rcases List.mem_cons.1 ((h x).1 (by simp)) with e | e
      · exact e
      · rcases List.mem_cons.1 ((h y).2 (by simp)) with e' | e'
        · exact e'.symm
        · have := a1 y e'; have := b1 x e; omega
    subst e
    rw [aj0 xs ys a2 b2 fun i => ?_]
    constructor
    · intro hi
      rcases List.mem_cons.1 ((h i).1 (by simp [hi])) with e | e
      · subst e; have := a1 _ hi; omega
      · exact e
    · intro hi
      rcases List.mem_cons.1 ((h i).2 (by simp [hi])) with e | e
      · subst e; have := b1 _ hi; omega
      · exact e
noncomputable def qP (l : List QK) (a : Nat) : List Int := (ad8 l a).map fun i : Nat => (i : Int)
theorem U3 {l : List QK} {a : Nat} {i : Int} : i ∈ qP l a ↔ ∃ k : Nat, i = k ∧ k < l.length ∧ Rch l a k := by
  simp only [qP, List.mem_map, agE]
  constructor
  · rintro ⟨k, h, rfl⟩; exact ⟨k, rfl, h⟩
  · rintro ⟨k, rfl, h⟩; exact ⟨k, h, rfl⟩
theorem wY {l : List QK} {a : Nat} : (qP l a).Pairwise (· < ·) := by
  rw [qP, List.pairwise_map]
  exact adl.imp fun h => by omega
theorem pig : ∀ (n : Nat) (xs : List Int), xs.Nodup → (∀ x ∈ xs, 0 ≤ x ∧ x < n) → xs.length ≤ n
  | 0, [], _, _ => by simp
  | 0, x :: r, _, h => by have := h x (by simp); omega
  | n + 1, xs, hn, h => by
    have h1 := pig n (xs.erase (n : Int)) (hn.erase _) fun x hx => by
      have h2 := h x (List.mem_of_mem_erase hx)
      have h3 : x ≠ (n : Int) := fun e => by subst e; exact hn.not_mem_erase hx
      omega
    have := List.length_erase_le (a := (n : Int)) (l := xs)
    rcases Decidable.em ((n : Int) ∈ xs) with hm | hm
    · rw [List.length_erase_of_mem hm] at h1; omega
    · rw [List.erase_of_not_mem hm] at h1; omega
theorem aip {xs : List Int} (hn : xs.Nodup) : (Vr (fun x y : Int => decide (x < y)) xs).Pairwise (· < ·) := by
  have h1 := ain (lt := fun x y : Int => decide (x < y)) (fun x y z h h' => by simp at *; omega) (fun x y h => by simp at *; omega) xs
  have h2 : (Vr (fun x y : Int => decide (x < y)) xs).Nodup := agX.nodup_iff.2 hn
  unfold Ord at h1
  refine (h1.and h2).imp fun ⟨a, b⟩ => ?_
  simp at a; omega
def amd (l : List QK) (S : List Int) : Prop := ∀ i : Nat, (i : Int) ∈ S → ∀ p, l[i]? = some p → ∀ n ∈ p.needs, 0 ≤ yY l n → yY l n ∈ S
def got (l : List QK) (a : Nat) (S : List Int) : Prop := S.Nodup ∧ (a : Int) ∈ S ∧ ∀ i ∈ S, ∃ k : Nat, i = k ∧ k < l.length ∧ Rch l a k
theorem afi {l : List QK} {a : Nat} {S : List Int} (h : got l a S) : S.length ≤ l.length := pig _ _ h.1 fun x hx => by
  obtain ⟨k, rfl, h1, _⟩ := h.2.2 x hx; omega
theorem aik {l : List QK} {a : Nat} {S : List Int} (h : got l a S) (hc : amd l S) : Vr (fun x y : Int => decide (x < y)) S = qP l a := by
  refine aj0 _ _ (aip h.1) wY fun i => ?_
  rw [vm, U3]
  refine ⟨h.2.2 i, ?_⟩
  rintro ⟨k, rfl, hk, hr⟩
  clear hk
  induction hr with
  | refl => exact h.2.1
  | step _ hp hn hm ih => exact hm ▸ hc _ ih _ hp _ hn (by omega)
theorem akt {l : List QK} {a i : Nat} {S : List Int} {p : QK} {n : Yk} (h : got l a S) (hi : (i : Int) ∈ S) (hp : l[i]? = some p) (hn : n ∈ p.needs) (hm : 0 ≤ yY l n) (hx : yY l n ∉ S) : got l a (S ++ [yY l n]) := by
  obtain ⟨h1, h2, h3⟩ := h
  refine ⟨?_, by simp [h2], fun j hj => ?_⟩
  · rw [List.nodup_append]
    refine ⟨h1, by simp, fun x hx1 y hy e => ?_⟩
    simp only [List.mem_singleton] at hy
    subst hy; subst e; exact hx hx1
  · rcases List.mem_append.1 hj with hj | hj
    · exact h3 j hj
    · simp only [List.mem_singleton] at hj
      subst hj
      obtain ⟨k, hk⟩ : ∃ k : Nat, yY l n = k := ⟨(yY l n).toNat, by omega⟩
      obtain ⟨i', e, hi1, hi2⟩ := h3 _ hi
      have e : i = i' := by omega
      subst e
      exact ⟨k, hk, ah9 hk, .step hi2 hp hn hk⟩
theorem aez {k : Int} : ∀ (l : List Int) (i : Nat), k ∉ l → y3 false [0] (V.int k) (l.map V.int) i = some none
  | [], _, _ => rfl
  | x :: r, i, h => by
    simp only [List.mem_cons, not_or] at h
    have e : wE false [0] (V.int k) (V.int x) = some false := by
      show XP [0] [V.int k] [V.int x] = _
      simp only [XP, if_true, Option.map_some]
      simp [h.1]
    simp only [List.map_cons, y3, e]
    exact aez r (i + 1) h.2
def ahI (l : List QK) (S F : List Int) (c0 : Nat) : St := Vn [(0, .sl 3 (l.map QK.v)), (5, .hd 0 0 S.length), (6, .mp 1)] [(0, .buf true 1 (S.map V.int)), (1, .map (F.map V.int) (F.map fun _ => V.bool true) c0)] 2
theorem aeA {x : Int} : ∀ (l : List Int) (k : Nat), decide (jY x k l ≥ 0) = decide (x ∈ l)
  | [], k => by simp [jY]
  | y :: r, k => by
    rw [jY]
    by_cases h : x = y
    · rw [if_pos h]; simp [h]
    · rw [if_neg h, aeA r (k + 1)]; simp [h]
def afz (l : List QK) (A S : List Int) : Prop := ∀ i : Nat, (i : Int) ∈ A → ∀ p, l[i]? = some p → ∀ n ∈ p.needs, 0 ≤ yY l n → yY l n ∈ S
theorem aiI {l : List QK} {A S : List Int} {x : Int} (h : afz l A S) : afz l A (S ++ [x]) := fun i hi p hp n hn hm => by
  have := h i hi p hp n hn hm
  simp [this]
def ahJ (l : List QK) (S0 S F : List Int) (c0 j : Nat) : St := Vn [(0, .sl 3 (l.map QK.v)), (5, .hd 0 0 S.length), (6, .mp 1), (24, .hd 2 0 S0.length), (25, V.int S0.length), (26, V.int j)] [(0, .buf true 1 (S.map V.int)), (1, .map (F.map V.int) (F.map fun _ => V.bool true) c0), (2, .buf true 1 (S0.map V.int))] 3
def aaf (l : List QK) (S0 S F : List Int) (c0 j : Nat) (ns : List Yk) (m : Nat) : St := Vn [(0, .sl 3 (l.map QK.v)), (5, .hd 0 0 S.length), (6, .mp 1), (24, .hd 2 0 S0.length), (25, V.int S0.length), (26, V.int j), (34, .sl 3 (ns.map Yk.v)), (35, V.int ns.length), (36, V.int m)] [(0, .buf true 1 (S.map V.int)), (1, .map (F.map V.int) (F.map fun _ => V.bool true) c0), (2, .buf true 1 (S0.map V.int))] 3
theorem jq (τ : Nat → Nat) : ∀ F : List Int, KF τ (F.map fun _ => V.bool true) = F.map fun _ => V.bool true
  | [] => rfl
  | _ :: r => by simp only [List.map_cons, KF, V.ren, jq τ r]
theorem wT {n : Nat} : ∀ F : List Int, ltL n (F.map fun _ => V.bool true)
  | [] => trivial
  | _ :: r => ⟨trivial, wT r⟩
theorem ahx (τ : Nat → Nat) (F : List Int) : KF τ ((F.map fun _ => V.bool true) ++ [V.bool true]) = (F.map fun _ => V.bool true) ++ [V.bool true] := by
  have := jq τ (F ++ [0])
  simpa only [List.map_append, List.map_cons, List.map_nil] using this
theorem ajI {n : Nat} (F : List Int) : ltL n ((F.map fun _ => V.bool true) ++ [V.bool true]) := by
  have := wT (n := n) (F ++ [0])
  simpa only [List.map_append, List.map_cons, List.map_nil] using this
theorem ahc {l : List QK} {S S1 : List Int} {j k : Nat} {p : QK} (h : afz l (S.take j) S1) (hx : S[j]? = some (k : Int)) (hp : l[k]? = some p) (hn : ∀ n ∈ p.needs, 0 ≤ yY l n → yY l n ∈ S1) : afz l (S.take (j + 1)) S1 := by
  intro i hi p' hp' n hn' hm
  rw [List.take_add_one, hx] at hi
  rcases List.mem_append.1 hi with hi | hi
  · exact h i hi p' hp' n hn' hm
  · simp only [Option.toList_some, List.mem_singleton] at hi
    have e : i = k := by omega
    subst e
    rw [hp] at hp'
    cases hp'
    exact hn n hn' hm
theorem abQ {l : List QK} {ns : List Yk} {m : Nat} {n : Yk} {T T' : List Int} (h : ∀ x ∈ ns.take m, 0 ≤ yY l x → yY l x ∈ T) (hg : ns[m]? = some n) (hT : ∀ x ∈ T, x ∈ T') (hn : 0 ≤ yY l n → yY l n ∈ T') : ∀ x ∈ ns.take (m + 1), 0 ≤ yY l x → yY l x ∈ T' := by
  intro x hx hm
  rw [List.take_add_one, hg] at hx
  rcases List.mem_append.1 hx with hx | hx
  · exact hT _ (h x hx hm)
  · simp only [Option.toList_some, List.mem_singleton] at hx
    subst hx
    exact hn hm
def qz (Wf qe Jt Wp : Nat) : AC := Qr [0, 1] (.reg [xo 4 (.mknil 1)]) (Qr [0, 1, 5] (.reg [mv 13 1, xo 14 (.bslice 1 1 false [(.int .i64 0)] [(0, (.t 13))]), mv 5 14]) (Qr [0, 5, 6] (.reg [xo 15 (.mkmap), mv 16 1, ⟨none, .mapset false [0] (.t 15) (.t 16) (.c (V.bool true)), none⟩, mv 17 15, mv 6 17]) (Qr [5] (.block 0 (W5 [0, 5, 6] (Qr [0, 5, 6] (Qr [0, 5, 6, 20] (.reg [mv 18 6, xo 19 (.maplen (.t 18)), bc 20 .gtr 19 (V.int 0)]) (.cond (.t 20) (.skip) (.exit 0))) (.block 1 (Qr [0, 5, 6, 7] (.reg [mv 21 5, cl 22 Wf [21], mv 7 22]) (Qr [0, 5, 6, 7] (.reg [mv 23 6, ⟨none, .mapclr (.t 23), none⟩]) (Qr [0, 5, 6, 24, 25, 26] (.reg [mv 24 7, ln 25 24, mc 26 (V.int 0)]) (.block 2 (W5 [0, 5, 6, 24, 25, 26] (Qr [0, 5, 6, 24, 25, 26, 27] (.reg [bn 27 .lss 26 25]) (Qr [0, 5, 6, 24, 25, 26] (.cond (.t 27) (.skip) (.exit 2)) (Qr [0, 5, 6, 24, 25, 26] (.block 3 (Qr [0, 5, 6, 9, 24, 25, 26] (.reg [ia 28 1 24 26, ld 29 1 28, mv 9 29]) (Qr [0, 5, 6, 24, 25, 26, 34, 35, 36] (.reg [mv 30 0, mv 31 9, ia 32 3 30 31, fa 33 2 32, ld 34 1 33, ln 35 34, mc 36 (V.int 0)]) (.block 4 (W5 [0, 5, 6, 24, 25, 26, 34, 35, 36] (Qr [0, 5, 6, 24, 25, 26, 34, 35, 36, 37] (.reg [bn 37 .lss 36 35]) (Qr [0, 5, 6, 24, 25, 26, 34, 35, 36] (.cond (.t 37) (.skip) (.exit 4)) (Qr [0, 5, 6, 24, 25, 26, 34, 35, 36] (.block 5 (Qr [0, 5, 6, 11, 24, 25, 26, 34, 35, 36] (.reg [ia 38 3 34 36, xo 39 (.load true 3 (.t 38)), xo 11 (.alloc [.val (.string ⟨#[]⟩), .nil 1, .nil 1]), xs 3 11 39]) (Qr [0, 5, 6, 12, 24, 25, 26, 34, 35, 36] (.reg [mv 40 0, xo 41 (.load true 3 (.t 11)), cl 42 qe [40, 41], mv 12 42]) (Qr [0, 5, 6, 12, 24, 25, 26, 34, 35, 36, 50] (.reg [mv 43 12, bc 44 .geq 43 (V.int 0), mv 45 44, mg 46 5 45 true, mg 47 12 45 true, xg 48 (.call Jt [(.t 46), (.t 47)]) 45 true, xg 49 (.un .not (.t 48)) 45 true, xo 50 (.pick (.t 45) (.t 49) (.c (V.bool false)))]) (.cond (.t 50) (Qr [0, 5, 6, 12, 24, 25, 26, 34, 35, 36] (.reg [mv 51 6, mv 52 12, ⟨none, .mapset false [0] (.t 51) (.t 52) (.c (V.bool true)), none⟩]) (.reg [mv 53 5, mv 54 12, xo 55 (.bslice 1 1 false [(.int .i64 0)] [(0, (.t 54))]), xo 56 (.append 1 8 [(.int .i64 0)] (.t 53) (.t 55)), mv 5 56])) (.skip)))))) (.reg [bc 57 .add 36 (V.int 1), mv 36 57]))))))))) (.reg [bc 58 .add 26 (V.int 1), mv 26 58]))))))))))))) (Qr [5] (.reg [mv 59 5, cl 60 Wp [59]]) (Qr [4] (.reg [mv 61 5, mv 4 61]) (.ret)))))) def r_packages_reach : List Wc := [.tmp 4]
def Uh (Γ : Env) (f : Nat) : Prop := ∀ (l : List QK) (a : Nat) (hl : PSz l) (ha : a < l.length) (hl2 : l.length ≤ 12), EvC Γ f [.sl 3 (l.map QK.v), V.int a] (.sl 1 ((qP l a).map V.int))
theorem aaB {Γ : Env} {f Wf qe Jt Wp : Nat} (h : Has Γ.P f 62 (qz Wf qe Jt Wp) r_packages_reach) (Jz : WO Γ Wf) (XD : ji Γ qe) (QR : Xy Γ Jt) (JE : W2 Γ Wp) : Uh Γ f := by
  intro l a hl ha hl2
  refine KR h (by simp) (by simp only [V.closed, Qj, V.noSl, Jy, and_self, and_true, true_and]) fun C hC hm => ?_
  subst hC
  unfold qz
  have ek : XP [0] [V.int (a : Int)] [V.int (a : Int)] = some true := by simp [XP]
  repeat' (first | refine Qb fun K' hK => ?_ | refine Qe fun K' hK => ?_ | refine Qc ?_ | refine Qd ?_ | refine Qa ?_ | ((first | refine Qg ⟨_, rfl, fun hc => ?_, fun hc => ?_⟩ | refine QL (fun hc => ?_) (fun hc => ?_) | refine QM (fun hc => ?_) (fun hc => ?_)) <;> first | exact Bool.noConfusion hc | ((try simp only [znz] at hc); first | exact znf | skip)) | refine Qi ?_ | refine Qf ?_ | simp (maxSteps := 1000000) only [go_sem, Nat.reduceAdd, Nat.reduceMul, Nat.reduceEqDiff, Nat.reduceLeDiff, Nat.reduceLT, Nat.reduceSub, Int.reduceEq, Int.reduceBEq, Int.reduceLT, Int.reduceLE, Int.reduceAdd, Int.reduceToNat, reduceIte, reduceCtorEq, ek] | (refine hK _ ?_; clear hK; clear K') | refine And.intro ?_ ?_ | (apply vM; (focus first | exact (Jz _ zsd))) | (apply Vw; (focus exact rfl); (focus first | exact (JE _ zsd)); (focus exact rfl); (focus (first | (simp; done) | omega | (simp only [List.length_map]; omega)))) | (apply QX; (focus first | exact (XD _ _ zsd zsd).b | exact (QR _ _ zsd).b)) | exact zlo | omega | exact zms)
  refine Yj (ι := List Int × List Int × Nat) (fun q => got l a q.1 ∧ (q.2.1 = [] → amd l q.1)) (fun q => ahI l q.1 q.2.1 q.2.2) (fun q => 2 * (l.length - q.1.length) + (if q.2.1 = [] then 0 else 1)) ([(a : Int)], [(a : Int)], 0)
    ⟨⟨by simp, by simp, fun i hi => ⟨a, by simpa using hi, ha, .refl⟩⟩, by simp⟩ (Q0 [(0, 2000), (1, 4000)]) (YE [(0, 2000), (1, 4000)] (by simp only [go_sem, Nat.reduceAdd, Nat.reduceMul, Nat.reduceEqDiff, Nat.reduceLT, Int.reduceToNat, reduceIte, reduceCtorEq, and_true, true_and, implies_true, Option.some.injEq, exists_eq_left', Qk, Qo]; (repeat' (first | rfl | refine And.intro ?_ ?_ | omega | exact fun h => h | exact Exists.intro _ rfl))) (by simp only [go_sem, Nat.reduceAdd, Nat.reduceMul, Nat.reduceEqDiff, Nat.reduceLT, Int.reduceToNat, reduceIte, reduceCtorEq, and_true, true_and, implies_true, Option.some.injEq, exists_eq_left', Qk, Qo]; (repeat' (first | rfl | refine And.intro ?_ ?_ | omega | exact fun h => h | exact Exists.intro _ rfl))) (by simp [Q0]) (by simp; omega) (by omega)) fun q hq K' hL => ?_
  obtain ⟨S, F, c0⟩ := q
  obtain ⟨hg, hcl⟩ := hq
  dsimp only at hg hcl
  have hSl := afi hg
  by_cases hF : F = []
  · subst hF
    have hs := (JE S (by omega))
    rw [aik hg (hcl rfl)] at hs
    have e1 : decide ((([] : List Int).length : Int) > 0) = false := by simp
    repeat' (first | refine Qb fun K' hK => ?_ | refine Qe fun K' hK => ?_ | refine Qc ?_ | refine Qd ?_ | refine Qa ?_ | ((first | refine Qg ⟨_, rfl, fun hc => ?_, fun hc => ?_⟩ | refine QL (fun hc => ?_) (fun hc => ?_) | refine QM (fun hc => ?_) (fun hc => ?_)) <;> first | exact Bool.noConfusion hc | ((try simp only [znz] at hc); first | exact znf | skip)) | refine Qi ?_ | refine Qf ?_ | simp (maxSteps := 1000000) only [go_sem, Nat.reduceAdd, Nat.reduceMul, Nat.reduceEqDiff, Nat.reduceLeDiff, Nat.reduceLT, Nat.reduceSub, Int.reduceEq, Int.reduceBEq, Int.reduceLT, Int.reduceLE, Int.reduceAdd, Int.reduceToNat, reduceIte, reduceCtorEq, ahI, Vn, e1] | (refine hK _ ?_; clear hK; clear K') | refine And.intro ?_ ?_ | (apply vM; (focus first | exact (Jz _ zsd))) | (apply Vw; (focus exact rfl); (focus first | exact hs | exact (JE _ zsd)); (focus exact rfl); (focus (first | (simp; done) | omega | (simp only [List.length_map]; omega)))) | (apply QX; (focus first | exact (XD _ _ zsd zsd).b | exact (QR _ _ zsd).b)) | exact zlo | omega | exact zms)
    all_goals
      have hlr : (qP l a).length = S.length := by rw [← aik hg (hcl rfl), qT]
      refine Jb _ rfl ?_; simp only [go_sem, Nat.reduceEqDiff, Nat.reduceAdd, reduceIte, reduceCtorEq]
      rw [List.take_of_length_le (by rw [List.length_map]; omega)]
  · have e1 : decide (((F.map V.int).length : Int) > 0) = true := by simp; exact List.length_pos_iff.2 hF
    have hc2 := (Jz S (by omega))
    have htk : (S.map V.int).take S.length = S.map V.int := List.take_of_length_le (by simp)
    repeat' (first | refine Qb fun K' hK => ?_ | refine Qe fun K' hK => ?_ | refine Qc ?_ | refine Qd ?_ | refine Qa ?_ | ((first | refine Qg ⟨_, rfl, fun hc => ?_, fun hc => ?_⟩ | refine QL (fun hc => ?_) (fun hc => ?_) | refine QM (fun hc => ?_) (fun hc => ?_)) <;> first | exact Bool.noConfusion hc | ((try simp only [znz] at hc); first | exact znf | skip)) | refine Qi ?_ | refine Qf ?_ | simp (maxSteps := 1000000) only [go_sem, Nat.reduceAdd, Nat.reduceMul, Nat.reduceEqDiff, Nat.reduceLeDiff, Nat.reduceLT, Nat.reduceSub, Int.reduceEq, Int.reduceBEq, Int.reduceLT, Int.reduceLE, Int.reduceAdd, Int.reduceToNat, reduceIte, reduceCtorEq, ahI, Vn, e1, htk] | (refine hK _ ?_; clear hK; clear K') | refine And.intro ?_ ?_ | (apply vM; (focus first | exact hc2 | exact (Jz _ zsd))) | (apply Vw; (focus exact rfl); (focus first | exact (JE _ zsd)); (focus exact rfl); (focus (first | (simp; done) | omega | (simp only [List.length_map]; omega)))) | (apply QX; (focus first | exact (XD _ _ zsd zsd).b | exact (QR _ _ zsd).b)) | exact zlo | omega | exact zms)
    refine Yj (ι := List Int × List Int × Nat) (fun q => q.1 = S ++ q.2.1 ∧ got l a q.1 ∧ q.2.2 ≤ S.length ∧ afz l (S.take q.2.2) q.1) (fun q => ahJ l S q.1 q.2.1 (c0 + F.length) q.2.2) (fun q => S.length - q.2.2) (S, [], 0)
      ⟨by simp, hg, by simp, fun i hi => by simp at hi⟩ (Q0 [(2, 4002)]) (YE [(2, 4002)] (by simp only [go_sem, Nat.reduceAdd, Nat.reduceMul, Nat.reduceEqDiff, Nat.reduceLT, Int.reduceToNat, reduceIte, reduceCtorEq, and_true, true_and, implies_true, Option.some.injEq, exists_eq_left', Qk, Qo]; first | done | (simp; done) | (repeat' (first | rfl | refine And.intro ?_ ?_ | omega | exact fun h => h | exact Exists.intro _ rfl))) (by simp only [go_sem, Nat.reduceAdd, Nat.reduceMul, Nat.reduceEqDiff, Nat.reduceLT, Int.reduceToNat, reduceIte, reduceCtorEq, and_true, true_and, implies_true, Option.some.injEq, exists_eq_left', Qk, Qo]; simp; done) (by simp [Q0]) (by simp; omega) (by omega)) fun q hq K2 hL2 => ?_
    obtain ⟨S1, F1, j⟩ := q
    obtain ⟨hS1, hg1, hj, hcj⟩ := hq
    dsimp only at hS1 hg1 hj hcj
    have hSl1 := afi hg1
    have hlen1 : S1.length = S.length + F1.length := by rw [hS1, List.length_append]
    by_cases hje : j = S.length
    · have e2 : decide ((j : Int) < (S.length : Int)) = false := decide_eq_false (by omega)
      repeat' (first | refine Qb fun K' hK => ?_ | refine Qe fun K' hK => ?_ | refine Qc ?_ | refine Qd ?_ | refine Qa ?_ | ((first | refine Qg ⟨_, rfl, fun hc => ?_, fun hc => ?_⟩ | refine QL (fun hc => ?_) (fun hc => ?_) | refine QM (fun hc => ?_) (fun hc => ?_)) <;> first | exact Bool.noConfusion hc | ((try simp only [znz] at hc); first | exact znf | skip)) | refine Qi ?_ | refine Qf ?_ | simp (maxSteps := 1000000) only [go_sem, Nat.reduceAdd, Nat.reduceMul, Nat.reduceEqDiff, Nat.reduceLeDiff, Nat.reduceLT, Nat.reduceSub, Int.reduceEq, Int.reduceBEq, Int.reduceLT, Int.reduceLE, Int.reduceAdd, Int.reduceToNat, reduceIte, reduceCtorEq, ahJ, Vn, e2] | (refine hK _ ?_; clear hK; clear K') | refine And.intro ?_ ?_ | (apply vM; (focus first | exact (Jz _ zsd))) | (apply Vw; (focus exact rfl); (focus first | exact (JE _ zsd)); (focus exact rfl); (focus (first | (simp; done) | omega | (simp only [List.length_map]; omega)))) | (apply QX; (focus first | exact (XD _ _ zsd zsd).b | exact (QR _ _ zsd).b)) | exact zlo | omega | exact zms)
      all_goals
        have hF1 : F1 = [] → S1 = S := fun e => by rw [hS1, e, List.append_nil]
        have hFl : 1 ≤ F.length := List.length_pos_iff.2 hF
        refine hL _ (S1, F1, c0 + F.length) (Q0 []) ⟨hg1, fun e => ?_⟩ ?_ (YE [] (by simp only [go_sem, Nat.reduceAdd, Nat.reduceMul, Nat.reduceEqDiff, Nat.reduceLT, Int.reduceToNat, reduceIte, reduceCtorEq, and_true, true_and, implies_true, Option.some.injEq, exists_eq_left', Qk, Qo, ahI, jq, wT]; first | done | (simp; done) | (repeat' (first | rfl | refine And.intro ?_ ?_ | omega | exact fun h => h | exact Exists.intro _ rfl))) (by simp only [go_sem, Nat.reduceAdd, Nat.reduceMul, Nat.reduceEqDiff, Nat.reduceLT, Int.reduceToNat, reduceIte, reduceCtorEq, and_true, true_and, implies_true, Option.some.injEq, exists_eq_left', Qk, Qo, ahI, jq, wT]; first | done | (simp; done) | (repeat' (first | rfl | refine And.intro ?_ ?_ | omega | exact fun h => h | exact Exists.intro _ rfl))) (by simp [Q0]) (by simp) (by omega))
        · have := hcj
          rw [hje, List.take_of_length_le (Nat.le_refl _)] at this
          show afz l S1 S1
          rw [hF1 e] at this ⊢
          exact this
        · show 2 * (l.length - S1.length) + (if F1 = [] then 0 else 1) < 2 * (l.length - S.length) + (if F = [] then 0 else 1)
          rw [if_neg hF]
          by_cases e : F1 = []
          · rw [if_pos e, hF1 e]; omega
          · have : 1 ≤ F1.length := List.length_pos_iff.2 e
            rw [if_neg e]; omega
    · have e2 : decide ((j : Int) < (S.length : Int)) = true := decide_eq_true (by omega)
      obtain ⟨x, hx⟩ : ∃ x, S[j]? = some x := ⟨S[j], List.getElem?_eq_getElem (by omega)⟩
      obtain ⟨k, rfl, hkl, hkr⟩ := hg.2.2 x (List.mem_of_getElem? hx)
      obtain ⟨p, hp⟩ : ∃ p, l[k]? = some p := ⟨l[k], List.getElem?_eq_getElem hkl⟩
      have hpz := hl.2 p (List.mem_of_getElem? hp)
      have w1 := JS (k := j) (by omega)
      have vx : (S.map V.int)[j]? = some (V.int k) := by rw [List.getElem?_map, hx]; rfl
      have vp : (l.map QK.v)[k]? = some (.agg [V.str p.name, .sl 1 (p.ver.map V.int), .sl 3 (p.needs.map Yk.v)]) := by rw [List.getElem?_map, hp]; rfl
      repeat' (first | refine Qb fun K' hK => ?_ | refine Qe fun K' hK => ?_ | refine Qc ?_ | refine Qd ?_ | refine Qa ?_ | ((first | refine Qg ⟨_, rfl, fun hc => ?_, fun hc => ?_⟩ | refine QL (fun hc => ?_) (fun hc => ?_) | refine QM (fun hc => ?_) (fun hc => ?_)) <;> first | exact Bool.noConfusion hc | ((try simp only [znz] at hc); first | exact znf | skip)) | refine Qi ?_ | refine Qf ?_ | simp (maxSteps := 1000000) only [go_sem, Nat.reduceAdd, Nat.reduceMul, Nat.reduceEqDiff, Nat.reduceLeDiff, Nat.reduceLT, Nat.reduceSub, Int.reduceEq, Int.reduceBEq, Int.reduceLT, Int.reduceLE, Int.reduceAdd, Int.reduceToNat, reduceIte, reduceCtorEq, ahJ, Vn, e2, Int.toNat_natCast, vx, vp] | (refine hK _ ?_; clear hK; clear K') | refine And.intro ?_ ?_ | (apply vM; (focus first | exact (Jz _ zsd))) | (apply Vw; (focus exact rfl); (focus first | exact (JE _ zsd)); (focus exact rfl); (focus (first | (simp; done) | omega | (simp only [List.length_map]; omega)))) | (apply QX; (focus first | exact (XD _ _ zsd zsd).b | exact (QR _ _ zsd).b)) | exact zlo | omega | exact zms)
      refine Yj (ι := List Int × List Int × Nat) (fun q => q.1 = S ++ q.2.1 ∧ got l a q.1 ∧ q.2.2 ≤ p.needs.length ∧ afz l (S.take j) q.1 ∧ ∀ n ∈ p.needs.take q.2.2, 0 ≤ yY l n → yY l n ∈ q.1) (fun q => aaf l S q.1 q.2.1 (c0 + F.length) j p.needs q.2.2) (fun q => p.needs.length - q.2.2) (S1, F1, 0)
        ⟨hS1, hg1, by simp, hcj, fun n hn => by simp at hn⟩ (Q0 []) (YE [] (by simp only [go_sem, Nat.reduceAdd, Nat.reduceMul, Nat.reduceEqDiff, Nat.reduceLT, Int.reduceToNat, reduceIte, reduceCtorEq, and_true, true_and, implies_true, Option.some.injEq, exists_eq_left', Qk, Qo, aaf, jq, wT]; first | done | (simp; done) | (repeat' (first | rfl | refine And.intro ?_ ?_ | omega | exact fun h => h | exact Exists.intro _ rfl))) (by simp only [go_sem, Nat.reduceAdd, Nat.reduceMul, Nat.reduceEqDiff, Nat.reduceLT, Int.reduceToNat, reduceIte, reduceCtorEq, and_true, true_and, implies_true, Option.some.injEq, exists_eq_left', Qk, Qo, aaf, jq, wT]; first | done | (simp; done) | (repeat' (first | rfl | refine And.intro ?_ ?_ | omega | exact fun h => h | exact Exists.intro _ rfl))) (by simp [Q0]) (by simp) (by omega)) fun q hq K3 hL3 => ?_
      obtain ⟨S2, F2, m⟩ := q
      obtain ⟨hS2, hg2, hmm, hc2j, hnm⟩ := hq
      dsimp only at hS2 hg2 hmm hc2j hnm
      have hSl2 := afi hg2
      have hlen2 : S2.length = S.length + F2.length := by rw [hS2, List.length_append]
      rcases hd : p.needs.drop m with _ | ⟨n, r⟩
      · have := Vg hd
        have e3 : decide ((m : Int) < (p.needs.length : Int)) = false := decide_eq_false (by omega)
        repeat' (first | refine Qb fun K' hK => ?_ | refine Qe fun K' hK => ?_ | refine Qc ?_ | refine Qd ?_ | refine Qa ?_ | ((first | refine Qg ⟨_, rfl, fun hc => ?_, fun hc => ?_⟩ | refine QL (fun hc => ?_) (fun hc => ?_) | refine QM (fun hc => ?_) (fun hc => ?_)) <;> first | exact Bool.noConfusion hc | ((try simp only [znz] at hc); first | exact znf | skip)) | refine Qi ?_ | refine Qf ?_ | simp (maxSteps := 1000000) only [go_sem, Nat.reduceAdd, Nat.reduceMul, Nat.reduceEqDiff, Nat.reduceLeDiff, Nat.reduceLT, Nat.reduceSub, Int.reduceEq, Int.reduceBEq, Int.reduceLT, Int.reduceLE, Int.reduceAdd, Int.reduceToNat, reduceIte, reduceCtorEq, aaf, Vn, e3, w1] | (refine hK _ ?_; clear hK; clear K') | refine And.intro ?_ ?_ | (apply vM; (focus first | exact (Jz _ zsd))) | (apply Vw; (focus exact rfl); (focus first | exact (JE _ zsd)); (focus exact rfl); (focus (first | (simp; done) | omega | (simp only [List.length_map]; omega)))) | (apply QX; (focus first | exact (XD _ _ zsd zsd).b | exact (QR _ _ zsd).b)) | exact zlo | omega | exact zms)
        all_goals
          refine hL2 _ (S2, F2, j + 1) (Q0 []) ⟨hS2, hg2, (by show j + 1 ≤ S.length; omega), ahc hc2j hx hp (by rwa [List.take_of_length_le (by omega)] at hnm)⟩ (by show S.length - (j + 1) < S.length - j; omega) (YE [] (by simp only [go_sem, Nat.reduceAdd, Nat.reduceMul, Nat.reduceEqDiff, Nat.reduceLT, Int.reduceToNat, reduceIte, reduceCtorEq, and_true, true_and, implies_true, Option.some.injEq, exists_eq_left', Qk, Qo, ahJ, jq, wT]; first | done | (simp; done) | (repeat' (first | rfl | refine And.intro ?_ ?_ | omega | exact fun h => h | exact Exists.intro _ rfl))) (by simp only [go_sem, Nat.reduceAdd, Nat.reduceMul, Nat.reduceEqDiff, Nat.reduceLT, Int.reduceToNat, reduceIte, reduceCtorEq, and_true, true_and, implies_true, Option.some.injEq, exists_eq_left', Qk, Qo, ahJ, jq, wT]; first | done | (simp; done) | (repeat' (first | rfl | refine And.intro ?_ ?_ | omega | exact fun h => h | exact Exists.intro _ rfl))) (by simp [Q0]) (by simp) (by omega))
      · obtain ⟨hk', hget, hr⟩ := Wx hd
        have hnin : n ∈ p.needs := List.mem_of_getElem? hget
        have e3 : decide ((m : Int) < (p.needs.length : Int)) = true := decide_eq_true (by omega)
        have w2 := JS (k := m) (by have := hpz.2.2.1; omega)
        have vn : (p.needs.map Yk.v)[m]? = some (.agg [V.str n.name, .sl 1 (n.lo.map V.int), .sl 1 (n.up.map V.int)]) := by rw [List.getElem?_map, hget]; rfl
        have gm := (XD l n hl (hpz.2.2.2 n hnin)).b
        simp only [Yk.v, Yk.cells] at gm
        have gc := (QR S2 (yY l n) (by omega)).b
        rw [aeA] at gc
        have ht2 : (S2.map V.int).take S2.length = S2.map V.int := List.take_of_length_le (by simp)
        by_cases hneg : yY l n < 0
        · have e4 : decide (yY l n ≥ 0) = false := decide_eq_false (by omega)
          repeat' (first | refine Qb fun K' hK => ?_ | refine Qe fun K' hK => ?_ | refine Qc ?_ | refine Qd ?_ | refine Qa ?_ | ((first | refine Qg ⟨_, rfl, fun hc => ?_, fun hc => ?_⟩ | refine QL (fun hc => ?_) (fun hc => ?_) | refine QM (fun hc => ?_) (fun hc => ?_)) <;> first | exact Bool.noConfusion hc | ((try simp only [znz] at hc); first | exact znf | skip)) | refine Qi ?_ | refine Qf ?_ | simp (maxSteps := 1000000) only [go_sem, Nat.reduceAdd, Nat.reduceMul, Nat.reduceEqDiff, Nat.reduceLeDiff, Nat.reduceLT, Nat.reduceSub, Int.reduceEq, Int.reduceBEq, Int.reduceLT, Int.reduceLE, Int.reduceAdd, Int.reduceToNat, reduceIte, reduceCtorEq, aaf, Vn, e3, w2, Int.toNat_natCast, vn, e4, ht2] | (refine hK _ ?_; clear hK; clear K') | refine And.intro ?_ ?_ | (apply vM; (focus first | exact (Jz _ zsd))) | (apply Vw; (focus exact rfl); (focus first | exact (JE _ zsd)); (focus exact rfl); (focus (first | (simp; done) | omega | (simp only [List.length_map]; omega)))) | (apply QX; (focus first | exact gm | exact gc | exact (XD _ _ zsd zsd).b | exact (QR _ _ zsd).b)) | exact zlo | omega | exact zms)
          all_goals refine hL3 _ (S2, F2, m + 1) (Q0 []) ⟨hS2, hg2, (by show m + 1 ≤ p.needs.length; omega), hc2j, abQ hnm hget (fun _ h => h) (fun e => by omega)⟩ (by show p.needs.length - (m + 1) < p.needs.length - m; omega) (YE [] (by simp only [go_sem, Nat.reduceAdd, Nat.reduceMul, Nat.reduceEqDiff, Nat.reduceLT, Int.reduceToNat, reduceIte, reduceCtorEq, and_true, true_and, implies_true, Option.some.injEq, exists_eq_left', Qk, Qo, aaf, jq, wT]; first | done | (simp; done) | (repeat' (first | rfl | refine And.intro ?_ ?_ | omega | exact fun h => h | exact Exists.intro _ rfl))) (by simp only [go_sem, Nat.reduceAdd, Nat.reduceMul, Nat.reduceEqDiff, Nat.reduceLT, Int.reduceToNat, reduceIte, reduceCtorEq, and_true, true_and, implies_true, Option.some.injEq, exists_eq_left', Qk, Qo, aaf, jq, wT]; first | done | (simp; done) | (repeat' (first | rfl | refine And.intro ?_ ?_ | omega | exact fun h => h | exact Exists.intro _ rfl))) (by simp [Q0]) (by simp) (by omega))
        · have e4 : decide (yY l n ≥ 0) = true := decide_eq_true (by omega)
          by_cases hin : yY l n ∈ S2
          · rw [decide_eq_true hin] at gc
            repeat' (first | refine Qb fun K' hK => ?_ | refine Qe fun K' hK => ?_ | refine Qc ?_ | refine Qd ?_ | refine Qa ?_ | ((first | refine Qg ⟨_, rfl, fun hc => ?_, fun hc => ?_⟩ | refine QL (fun hc => ?_) (fun hc => ?_) | refine QM (fun hc => ?_) (fun hc => ?_)) <;> first | exact Bool.noConfusion hc | ((try simp only [znz] at hc); first | exact znf | skip)) | refine Qi ?_ | refine Qf ?_ | simp (maxSteps := 1000000) only [go_sem, Nat.reduceAdd, Nat.reduceMul, Nat.reduceEqDiff, Nat.reduceLeDiff, Nat.reduceLT, Nat.reduceSub, Int.reduceEq, Int.reduceBEq, Int.reduceLT, Int.reduceLE, Int.reduceAdd, Int.reduceToNat, reduceIte, reduceCtorEq, aaf, Vn, e3, w2, Int.toNat_natCast, vn, e4, ht2] | (refine hK _ ?_; clear hK; clear K') | refine And.intro ?_ ?_ | (apply vM; (focus first | exact (Jz _ zsd))) | (apply Vw; (focus exact rfl); (focus first | exact (JE _ zsd)); (focus exact rfl); (focus (first | (simp; done) | omega | (simp only [List.length_map]; omega)))) | (apply QX; (focus first | exact gm | exact gc | exact (XD _ _ zsd zsd).b | exact (QR _ _ zsd).b)) | exact zlo | omega | exact zms)
            all_goals refine hL3 _ (S2, F2, m + 1) (Q0 []) ⟨hS2, hg2, (by show m + 1 ≤ p.needs.length; omega), hc2j, abQ hnm hget (fun _ h => h) (fun _ => hin)⟩ (by show p.needs.length - (m + 1) < p.needs.length - m; omega) (YE [] (by simp only [go_sem, Nat.reduceAdd, Nat.reduceMul, Nat.reduceEqDiff, Nat.reduceLT, Int.reduceToNat, reduceIte, reduceCtorEq, and_true, true_and, implies_true, Option.some.injEq, exists_eq_left', Qk, Qo, aaf, jq, wT]; first | done | (simp; done) | (repeat' (first | rfl | refine And.intro ?_ ?_ | omega | exact fun h => h | exact Exists.intro _ rfl))) (by simp only [go_sem, Nat.reduceAdd, Nat.reduceMul, Nat.reduceEqDiff, Nat.reduceLT, Int.reduceToNat, reduceIte, reduceCtorEq, and_true, true_and, implies_true, Option.some.injEq, exists_eq_left', Qk, Qo, aaf, jq, wT]; first | done | (simp; done) | (repeat' (first | rfl | refine And.intro ?_ ?_ | omega | exact fun h => h | exact Exists.intro _ rfl))) (by simp [Q0]) (by simp) (by omega))
          · rw [decide_eq_false hin] at gc
            have vf : y3 false [0] (V.int (yY l n)) (F2.map V.int) 0 = some none := aez F2 0 fun h => hin (by rw [hS2]; simp [h])
            repeat' (first | refine Qb fun K' hK => ?_ | refine Qe fun K' hK => ?_ | refine Qc ?_ | refine Qd ?_ | refine Qa ?_ | ((first | refine Qg ⟨_, rfl, fun hc => ?_, fun hc => ?_⟩ | refine QL (fun hc => ?_) (fun hc => ?_) | refine QM (fun hc => ?_) (fun hc => ?_)) <;> first | exact Bool.noConfusion hc | ((try simp only [znz] at hc); first | exact znf | skip)) | refine Qi ?_ | refine Qf ?_ | simp (maxSteps := 1000000) only [go_sem, Nat.reduceAdd, Nat.reduceMul, Nat.reduceEqDiff, Nat.reduceLeDiff, Nat.reduceLT, Nat.reduceSub, Int.reduceEq, Int.reduceBEq, Int.reduceLT, Int.reduceLE, Int.reduceAdd, Int.reduceToNat, reduceIte, reduceCtorEq, aaf, Vn, e3, w2, Int.toNat_natCast, vn, e4, ht2, vf] | (refine hK _ ?_; clear hK; clear K') | refine And.intro ?_ ?_ | (apply vM; (focus first | exact (Jz _ zsd))) | (apply Vw; (focus exact rfl); (focus first | exact (JE _ zsd)); (focus exact rfl); (focus (first | (simp; done) | omega | (simp only [List.length_map]; omega)))) | (apply QX; (focus first | exact gm | exact gc | exact (XD _ _ zsd zsd).b | exact (QR _ _ zsd).b)) | exact zlo | omega | exact zms)
            all_goals
              have hk2 : (k : Int) ∈ S2 := by rw [hS2]; exact List.mem_append_left _ (List.mem_of_getElem? hx)
              refine hL3 _ (S2 ++ [yY l n], F2 ++ [yY l n], m + 1) (Q0 [(0, 23003)]) ⟨by rw [hS2, List.append_assoc], akt hg2 hk2 hp hnin (by omega) hin, (by show m + 1 ≤ p.needs.length; omega), aiI hc2j, abQ hnm hget (fun _ h => List.mem_append_left _ h) (fun _ => by simp)⟩ (by show p.needs.length - (m + 1) < p.needs.length - m; omega) (YE [(0, 23003)] (by simp only [go_sem, Nat.reduceAdd, Nat.reduceMul, Nat.reduceEqDiff, Nat.reduceLT, Int.reduceToNat, reduceIte, reduceCtorEq, and_true, true_and, implies_true, Option.some.injEq, exists_eq_left', Qk, Qo, aaf, jq, wT, ahx, ajI, List.map_append, List.map_cons, List.map_nil, List.length_append, List.length_cons, List.length_nil]; first | done | (simp; done) | (repeat' (first | rfl | refine And.intro ?_ ?_ | omega | exact fun h => h | exact Exists.intro _ rfl))) (by simp only [go_sem, Nat.reduceAdd, Nat.reduceMul, Nat.reduceEqDiff, Nat.reduceLT, Int.reduceToNat, reduceIte, reduceCtorEq, and_true, true_and, implies_true, Option.some.injEq, exists_eq_left', Qk, Qo, aaf, jq, wT, ahx, ajI, List.map_append, List.map_cons, List.map_nil, List.length_append, List.length_cons, List.length_nil]; first | done | (simp; done) | (repeat' (first | rfl | refine And.intro ?_ ?_ | omega | exact fun h => h | exact Exists.intro _ rfl))) (by simp [Q0]) (by simp; omega) (by omega))
end Av
end
section
set_option linter.unusedSimpArgs false
set_option linter.unusedVariables false
set_option maxRecDepth 10000
set_option maxHeartbeats 4000000
namespace Av
open Go
attribute [local irreducible] AWp Wz WQ W4 awS awC V1 awQ Ue Jc YR VY awR YY awB okR Wt ris
def YA : AC := Qr [0, 1] (.reg [mc 4 (V.int 0)]) (Qr [] (Qr [0, 1, 7, 8] (.reg [mv 6 0, ln 7 6, mc 8 (V.int 0)]) (.block 0 (W5 [0, 1, 7, 8] (Qr [0, 1, 7, 8, 9] (.reg [bn 9 .lss 8 7]) (Qr [0, 1, 7, 8] (.cond (.t 9) (.skip) (.exit 0)) (Qr [0, 1, 7, 8] (.block 1 (Qr [0, 1, 5, 7, 8] (.reg [mv 10 8, mv 5 10]) (Qr [0, 1, 5, 7, 8, 16] (.reg [mv 11 1, mv 12 0, mv 13 5, ia 14 4 12 13, xo 15 (.load true 4 (.t 14)), xo 16 (.callv (.t 11) [(.t 15)])]) (.cond (.t 16) (Qr [4] (.reg [mv 17 5, mv 4 17]) (.ret)) (.skip))))) (.reg [bc 18 .add 8 (V.int 1), mv 8 18]))))))) (Qr [4] (.reg [mc 4 (V.int (-1))]) (.ret))) def r_slices_IndexFunc___api_Known_api_Known : List Wc := [.tmp 4]
def Yt (Γ : Env) (f : Nat) : Prop := ∀ (xs : List JI) (g : Nat) (cap : List V) (p : JI → Bool) (hp : ∀ x ∈ xs, EvN Γ g (JI.v x :: cap) (V.bool (p x))) (hcap : Qj cap) (hl : xs.length < 2 ^ 62), EvN Γ f [.sl 4 (xs.map JI.v), .clo g cap] (V.int (wM p 0 xs))
theorem VC {Γ : Env} {f : Nat} (h : Has Γ.P f 19 YA r_slices_IndexFunc___api_Known_api_Known)  : Yt Γ f := by
  intro xs g cap p hp hcap hl
  refine QV h (by simp) (by simp only [V.closed, Qj, V.noSl, Jy, and_self, and_true, true_and]) (by simp only [V.closed, Qj, V.noSl, Jy, and_self, and_true, true_and]) fun C hC hm => ?_
  subst hC
  unfold YA
  have s1 : ∀ o, XY o cap = cap := fun o => Yp o cap hcap
  have s2 : ∀ o B, JB o B cap = True := fun o B => eq_true (JR o B cap hcap)
  repeat' (first | refine Qb fun K' hK => ?_ | refine Qe fun K' hK => ?_ | refine Qc ?_ | refine Qd ?_ | refine Qa ?_ | ((first | refine Qg ⟨_, rfl, fun hc => ?_, fun hc => ?_⟩ | refine QL (fun hc => ?_) (fun hc => ?_) | refine QM (fun hc => ?_) (fun hc => ?_)) <;> first | exact Bool.noConfusion hc | ((try simp only [znz] at hc); first | exact znf | skip)) | refine Qi ?_ | refine Qf ?_ | simp (maxSteps := 1000000) only [go_sem, Nat.reduceAdd, Nat.reduceMul, Nat.reduceEqDiff, Nat.reduceLeDiff, Nat.reduceLT, Nat.reduceSub, Int.reduceEq, Int.reduceBEq, Int.reduceLT, Int.reduceLE, Int.reduceAdd, Int.reduceToNat, reduceIte, reduceCtorEq] | (refine hK _ ?_; clear hK; clear K') | refine And.intro ?_ ?_ | exact zlo | omega | exact zms)
  refine Vv (ι := Nat) (fun k => k ≤ xs.length ∧ wM p k (xs.drop k) = wM p 0 xs) (fun k => [(8, V.int k)]) (fun k => xs.length - k) 0 (by omega) ⟨by simp, by simp⟩ (by repeat' first | exact UE | refine qu (by omega) (by simp only [Ob.lt, ltL, V.lt, and_self, and_true]; try omega) ?_) (fun i hi => by simp only [ovT, XZ, Nat.reduceEqDiff, reduceIte]; (repeat' first | exact qt | refine UD ?_ ?_ | simp only [V.lt, ltL, and_self, and_true] | omega); exact U5 _ _ hcap) (by simp only [Nat.reduceAdd, ovT, XZ, Nat.reduceEqDiff, reduceIte, Yx, XO, wL, u32, u33, u34, u35, u36, u37, u38, u39, and_self, and_true, true_and]; first | rfl | exact Qk _ _ hcap) fun k hk K' hL => ?_
  obtain ⟨hk, hinv⟩ := hk
  simp only [ovT, XZ, Nat.reduceEqDiff, reduceIte]
  rcases hd : xs.drop k with _ | ⟨y, r⟩
  · have := Vg hd
    rw [hd] at hinv
    have e1 : decide ((k : Int) < (((xs.map JI.v).length : Nat) : Int)) = false := by simp; omega
    repeat' (first | refine Qb fun K' hK => ?_ | refine Qe fun K' hK => ?_ | refine Qc ?_ | refine Qd ?_ | refine Qa ?_ | ((first | refine Qg ⟨_, rfl, fun hc => ?_, fun hc => ?_⟩ | refine QL (fun hc => ?_) (fun hc => ?_) | refine QM (fun hc => ?_) (fun hc => ?_)) <;> first | exact Bool.noConfusion hc | ((try simp only [znz] at hc); first | exact znf | skip)) | refine Qi ?_ | refine Qf ?_ | simp (maxSteps := 1000000) only [go_sem, Nat.reduceAdd, Nat.reduceMul, Nat.reduceEqDiff, Nat.reduceLeDiff, Nat.reduceLT, Nat.reduceSub, Int.reduceEq, Int.reduceBEq, Int.reduceLT, Int.reduceLE, Int.reduceAdd, Int.reduceToNat, reduceIte, reduceCtorEq, e1] | (refine hK _ ?_; clear hK; clear K') | refine And.intro ?_ ?_ | exact zlo | omega | exact zms)
    refine Jb _ rfl ?_
    simp only [go_sem, Nat.reduceEqDiff, Nat.reduceAdd, reduceIte, reduceCtorEq]
    rw [← hinv]; rfl
  · obtain ⟨hk, hget, hr⟩ := Wx hd
    rw [hd] at hinv
    have hw := JS (k := k) (by omega)
    have e1 : decide ((k : Int) < (((xs.map JI.v).length : Nat) : Int)) = true := by simp; omega
    have hpy := hp y (List.mem_of_getElem? hget)
    by_cases hy : p y = true
    · rw [hy] at hpy
      repeat' (first | refine Qb fun K' hK => ?_ | refine Qe fun K' hK => ?_ | refine Qc ?_ | refine Qd ?_ | refine Qa ?_ | ((first | refine Qg ⟨_, rfl, fun hc => ?_, fun hc => ?_⟩ | refine QL (fun hc => ?_) (fun hc => ?_) | refine QM (fun hc => ?_) (fun hc => ?_)) <;> first | exact Bool.noConfusion hc | ((try simp only [znz] at hc); first | exact znf | skip)) | refine Qi ?_ | refine Qf ?_ | simp (maxSteps := 1000000) only [go_sem, Nat.reduceAdd, Nat.reduceMul, Nat.reduceEqDiff, Nat.reduceLeDiff, Nat.reduceLT, Nat.reduceSub, Int.reduceEq, Int.reduceBEq, Int.reduceLT, Int.reduceLE, Int.reduceAdd, Int.reduceToNat, reduceIte, reduceCtorEq, Int.toNat_natCast, List.getElem?_map, hget, hw, e1, JI.v, JI.cells, s1, s2] | (refine hK _ ?_; clear hK; clear K') | refine And.intro ?_ ?_ | (apply QX; (focus first | exact hpy.b)) | exact zlo | omega | exact zms)
      refine Jb _ rfl ?_; simp only [go_sem, Nat.reduceEqDiff, Nat.reduceAdd, reduceIte, reduceCtorEq]
      rw [← hinv]; simp [wM, hy]
    · have hy' : p y = false := by simpa using hy
      rw [hy'] at hpy
      repeat' (first | refine Qb fun K' hK => ?_ | refine Qe fun K' hK => ?_ | refine Qc ?_ | refine Qd ?_ | refine Qa ?_ | ((first | refine Qg ⟨_, rfl, fun hc => ?_, fun hc => ?_⟩ | refine QL (fun hc => ?_) (fun hc => ?_) | refine QM (fun hc => ?_) (fun hc => ?_)) <;> first | exact Bool.noConfusion hc | ((try simp only [znz] at hc); first | exact znf | skip)) | refine Qi ?_ | refine Qf ?_ | simp (maxSteps := 1000000) only [go_sem, Nat.reduceAdd, Nat.reduceMul, Nat.reduceEqDiff, Nat.reduceLeDiff, Nat.reduceLT, Nat.reduceSub, Int.reduceEq, Int.reduceBEq, Int.reduceLT, Int.reduceLE, Int.reduceAdd, Int.reduceToNat, reduceIte, reduceCtorEq, Int.toNat_natCast, List.getElem?_map, hget, hw, e1, JI.v, JI.cells, s1, s2] | (refine hK _ ?_; clear hK; clear K') | refine And.intro ?_ ?_ | (apply QX; (focus first | exact hpy.b)) | exact zlo | omega | exact zms)
      refine hL _ (k + 1) (by simp only [Nat.reduceAdd, ovT, XZ, Nat.reduceEqDiff, reduceIte, Yx, XO, wL, u32, u33, u34, u35, u36, u37, u38, u39, and_self, and_true, true_and]) ⟨by omega, ?_⟩ (by omega) (fun a ha => by simp only [u32, u33, u34, u35, u36, u37, u38, u39]; repeat rw [if_neg (by omega)])
      rw [hr, ← hinv, wM, if_neg hy]
def Ym (JT : Nat) : AC := Qr [0, 1] (.reg [mc 4 (V.bool false)]) (Qr [4] (.reg [mv 5 0, mv 6 1, cl 7 JT [5, 6], bc 8 .geq 7 (V.int 0), mv 4 8]) (.ret)) def r_slices_ContainsFunc___api_Known_api_Known : List Wc := [.tmp 4]
def Yh (Γ : Env) (f : Nat) : Prop := ∀ (xs : List JI) (g : Nat) (cap : List V) (p : JI → Bool) (hp : ∀ x ∈ xs, EvN Γ g (JI.v x :: cap) (V.bool (p x))) (hcap : Qj cap) (hl : xs.length < 2 ^ 62), EvN Γ f [.sl 4 (xs.map JI.v), .clo g cap] (V.bool (xs.any p))
theorem W6 {Γ : Env} {f JT : Nat} (h : Has Γ.P f 9 (Ym JT) r_slices_ContainsFunc___api_Known_api_Known) (X6 : Yt Γ JT) : Yh Γ f := by
  intro xs g cap p hp hcap hl
  refine QV h (by simp) (by simp only [V.closed, Qj, V.noSl, Jy, and_self, and_true, true_and]) (by simp only [V.closed, Qj, V.noSl, Jy, and_self, and_true, true_and]) fun C hC hm => ?_
  subst hC
  unfold Ym
  have s1 : ∀ o, XY o cap = cap := fun o => Yp o cap hcap
  have s2 : ∀ o B, JB o B cap = True := fun o B => eq_true (JR o B cap hcap)
  have hi := (X6 xs g cap p hp hcap hl).b
  have e1 := xy p xs 0
  repeat' (first | refine Qb fun K' hK => ?_ | refine Qe fun K' hK => ?_ | refine Qc ?_ | refine Qd ?_ | refine Qa ?_ | ((first | refine Qg ⟨_, rfl, fun hc => ?_, fun hc => ?_⟩ | refine QL (fun hc => ?_) (fun hc => ?_) | refine QM (fun hc => ?_) (fun hc => ?_)) <;> first | exact Bool.noConfusion hc | ((try simp only [znz] at hc); first | exact znf | skip)) | refine Qi ?_ | refine Qf ?_ | simp (maxSteps := 1000000) only [go_sem, Nat.reduceAdd, Nat.reduceMul, Nat.reduceEqDiff, Nat.reduceLeDiff, Nat.reduceLT, Nat.reduceSub, Int.reduceEq, Int.reduceBEq, Int.reduceLT, Int.reduceLE, Int.reduceAdd, Int.reduceToNat, reduceIte, reduceCtorEq, s1, s2, e1] | (refine hK _ ?_; clear hK; clear K') | refine And.intro ?_ ?_ | (apply QX; (focus first | exact hi | exact (X6 _ _ _ _ zsd zsd zsd).b)) | exact zlo | omega | exact zms)
  all_goals first | (refine Jb _ rfl ?_; simp only [go_sem, Nat.reduceEqDiff, Nat.reduceAdd, reduceIte, reduceCtorEq]; done) | trace_state
def aee (l : List QK) (i : Int) : List UInt8 := match l[i.toNat]? with | some p => p.name | none => []
def aj4 (l : List QK) (i : Int) : List Int := match l[i.toNat]? with | some p => p.ver | none => []
noncomputable def qK (l : List QK) (a : Nat) : List (List UInt8) := (qP l a).map (aee l)
noncomputable def aad (l : List QK) (s : List UInt8) : V := if (Kb l s).2 = 0 then .tup [.sl 1 ((qK l (Kb l s).1.toNat).map V.str), V.int 0] else .tup [.sl 1 [], V.int (Kb l s).2]
theorem acr (l : List QK) (s : List UInt8) : (aad l s).closed := by unfold aad; split <;> simp only [V.closed, Qj, and_self]
theorem ad0 {l : List QK} {s : List UInt8} (h : (Kb l s).2 = 0) : Uk l = 0 ∧ ∃ (a : Nat) (p : QK), (Kb l s).1 = a ∧ l[a]? = some p ∧ p.name = s ∧ a < l.length := by
  unfold Kb at h ⊢
  by_cases h1 : Uk l ≠ 0
  · rw [if_pos h1] at h; exact absurd h h1
  · rw [if_neg h1] at h ⊢
    refine ⟨by simpa using h1, ?_⟩
    by_cases h2 : jX l s < 0
    · rw [if_pos h2] at h; exact absurd h (by decide)
    · rw [if_neg h2]
      obtain ⟨j, x, e, hg, hx⟩ := adA (fun p : QK => p.name == s) l 0 (by unfold jX at h2; omega)
      obtain ⟨hlt, _⟩ := List.getElem?_eq_some_iff.1 hg
      exact ⟨j, x, by show jX l s = _; rw [jX, e]; simp, hg, by simpa using hx, hlt⟩
theorem xu {l : List QK} {i : Nat} {p : QK} (h : l[i]? = some p) : aee l i = p.name := by unfold aee; rw [Int.toNat_natCast, h]
theorem aht {l : List QK} {i : Nat} {p : QK} (h : l[i]? = some p) : aj4 l i = p.ver := by unfold aj4; rw [Int.toNat_natCast, h]
theorem aae {l : List QK} {a : Nat} : (qP l a).length ≤ l.length := by rw [qP, List.length_map]; exact agF
theorem acQ {l : List QK} {a j : Nat} {x : Int} (h : (qP l a)[j]? = some x) : ∃ (k : Nat) (p : QK), x = k ∧ l[k]? = some p ∧ Rch l a k := by
  obtain ⟨k, rfl, hk, hr⟩ := U3.1 (List.mem_of_getElem? h)
  exact ⟨k, l[k], rfl, List.getElem?_eq_getElem hk, hr⟩
def alF (l : List QK) (R : List Int) (j : Nat) : St := Vn [(0, .sl 3 (l.map QK.v)), (8, .hd 0 0 ((R.take j).map (aee l)).length), (22, .sl 1 (R.map V.int)), (23, V.int R.length), (24, V.int j)] [(0, .buf true 1 (((R.take j).map (aee l)).map V.str))] 1
def qB (Xl Xm : Nat) : AC := Qr [0, 1] (.reg [xo 4 (.mknil 1), mc 5 (V.int 0)]) (Qr [0, 6, 7] (.reg [mv 12 0, mv 13 1, cl 14 Xl [12, 13], mv 11 14, ex 15 11 0, ex 16 11 1, mv 6 15, mv 7 16]) (Qr [0, 6] (Qr [0, 6, 7, 18] (.reg [mv 17 7, bc 18 .neq 17 (V.int 0)]) (.cond (.t 18) (Qr [4, 5] (.reg [mv 19 7, xo 4 (.mknil 1), mv 5 19]) (.ret)) (.skip))) (Qr [0, 6, 8] (.reg [xo 8 (.mknil 1)]) (Qr [8] (Qr [0, 8, 22, 23, 24] (.reg [mv 20 0, mv 21 6, cl 22 Xm [20, 21], ln 23 22, mc 24 (V.int 0)]) (.block 0 (W5 [0, 8, 22, 23, 24] (Qr [0, 8, 22, 23, 24, 25] (.reg [bn 25 .lss 24 23]) (Qr [0, 8, 22, 23, 24] (.cond (.t 25) (.skip) (.exit 0)) (Qr [0, 8, 22, 23, 24] (.block 1 (Qr [0, 8, 10, 22, 23, 24] (.reg [ia 26 1 22 24, ld 27 1 26, mv 10 27]) (.reg [mv 28 8, mv 29 0, mv 30 10, ia 31 3 29 30, fa 32 0 31, ld 33 1 32, xo 34 (.bslice 1 1 false [(.string ⟨#[]⟩)] [(0, (.t 33))]), xo 35 (.append 1 16 [(.string ⟨#[]⟩)] (.t 28) (.t 34)), mv 8 35]))) (.reg [bc 36 .add 24 (V.int 1), mv 24 36]))))))) (Qr [4, 5] (.reg [mv 37 8, mv 4 37, mc 5 (V.int 0)]) (.ret)))))) def r_packages_Reach : List Wc := [.tmp 4, .tmp 5]
def qb (Γ : Env) (f : Nat) : Prop := ∀ (l : List QK) (s : List UInt8) (hl : PSz l) (hl2 : l.length ≤ 12), EvC Γ f [.sl 3 (l.map QK.v), V.str s] (aad l s)
theorem aaD {Γ : Env} {f Xl Xm : Nat} (h : Has Γ.P f 38 (qB Xl Xm) r_packages_Reach) (Jv : Ug Γ Xl) (Jw : Uh Γ Xm) : qb Γ f := by
  intro l s hl hl2
  refine KR h (by simp) (acr _ _) fun C hC hm => ?_
  subst hC
  unfold qB
  have gS := (Jv l s hl).b
  unfold aad
  by_cases h0 : (Kb l s).2 = 0
  case neg =>
    rw [if_neg h0]
    generalize Kb l s = q at *
    obtain ⟨q1, q2⟩ := q
    dsimp only at *
    have e1 : (q2 != 0) = true := by simpa using h0
    repeat' (first | refine Qb fun K' hK => ?_ | refine Qe fun K' hK => ?_ | refine Qc ?_ | refine Qd ?_ | refine Qa ?_ | ((first | refine Qg ⟨_, rfl, fun hc => ?_, fun hc => ?_⟩ | refine QL (fun hc => ?_) (fun hc => ?_) | refine QM (fun hc => ?_) (fun hc => ?_)) <;> first | exact Bool.noConfusion hc | ((try simp only [znz] at hc); first | exact znf | skip)) | refine Qi ?_ | refine Qf ?_ | simp (maxSteps := 1000000) only [go_sem, Nat.reduceAdd, Nat.reduceMul, Nat.reduceEqDiff, Nat.reduceLeDiff, Nat.reduceLT, Nat.reduceSub, Int.reduceEq, Int.reduceBEq, Int.reduceLT, Int.reduceLE, Int.reduceAdd, Int.reduceToNat, reduceIte, reduceCtorEq, e1] | (refine hK _ ?_; clear hK; clear K') | refine And.intro ?_ ?_ | (apply QX; (focus first | exact gS | exact (Jv _ _ zsd).b | exact (Jw _ _ zsd zsd zsd).b)) | exact zlo | omega | exact zms)
    all_goals first | (refine Jb _ rfl ?_; simp only [go_sem, Nat.reduceEqDiff, Nat.reduceAdd, reduceIte, reduceCtorEq]; first | done | rfl | exact ⟨_, _, rfl⟩) | trace_state
  rw [if_pos h0]
  obtain ⟨_, a, p0, ea, hp0, _, halt⟩ := ad0 h0
  rw [ea, Int.toNat_natCast]
  rw [ea, h0] at gS
  have gR := Jw l a hl halt hl2
  unfold qK
  have hRl := aae (l := l) (a := a)
  have hRg := @acQ l a
  generalize qP l a = R at *
  have hRm : (R.map V.int).length = R.length := List.length_map _
  repeat' (first | refine Qb fun K' hK => ?_ | refine Qe fun K' hK => ?_ | refine Qc ?_ | refine Qd ?_ | refine Qa ?_ | ((first | refine Qg ⟨_, rfl, fun hc => ?_, fun hc => ?_⟩ | refine QL (fun hc => ?_) (fun hc => ?_) | refine QM (fun hc => ?_) (fun hc => ?_)) <;> first | exact Bool.noConfusion hc | ((try simp only [znz] at hc); first | exact znf | skip)) | refine Qi ?_ | refine Qf ?_ | simp (maxSteps := 1000000) only [go_sem, Nat.reduceAdd, Nat.reduceMul, Nat.reduceEqDiff, Nat.reduceLeDiff, Nat.reduceLT, Nat.reduceSub, Int.reduceEq, Int.reduceBEq, Int.reduceLT, Int.reduceLE, Int.reduceAdd, Int.reduceToNat, reduceIte, reduceCtorEq, hRm] | (refine hK _ ?_; clear hK; clear K') | refine And.intro ?_ ?_ | (apply QX; (focus first | exact gS | exact gR.b | exact (Jv _ _ zsd).b | exact (Jw _ _ zsd zsd zsd).b)) | exact zlo | omega | exact zms)
  refine Yj (ι := Nat) (fun j => j ≤ R.length) (fun j => alF l R j) (fun j => R.length - j) 0 (by omega) (Q0 [(0, 12000)]) (YE [(0, 12000)] (by simp only [go_sem, Nat.reduceAdd, Nat.reduceMul, Nat.reduceEqDiff, Nat.reduceLT, Int.reduceToNat, reduceIte, reduceCtorEq, and_true, true_and, implies_true, Option.some.injEq, exists_eq_left', Qk, Qo]; (repeat' (first | rfl | refine And.intro ?_ ?_ | omega | exact fun h => h | exact Exists.intro _ rfl))) (by simp only [go_sem, Nat.reduceAdd, Nat.reduceMul, Nat.reduceEqDiff, Nat.reduceLT, Int.reduceToNat, reduceIte, reduceCtorEq, and_true, true_and, implies_true, Option.some.injEq, exists_eq_left', Qk, Qo]; (repeat' (first | rfl | refine And.intro ?_ ?_ | omega | exact fun h => h | exact Exists.intro _ rfl))) (by simp [Q0]) (by simp; omega) (by omega)) fun j hj K' hL => ?_
  rcases hd : R.drop j with _ | ⟨x, r⟩
  · have hkl := Vg hd
    have e1 : decide ((j : Int) < (R.length : Int)) = false := by simp; omega
    have e3 : R.take j = R := List.take_of_length_le hkl
    repeat' (first | refine Qb fun K' hK => ?_ | refine Qe fun K' hK => ?_ | refine Qc ?_ | refine Qd ?_ | refine Qa ?_ | ((first | refine Qg ⟨_, rfl, fun hc => ?_, fun hc => ?_⟩ | refine QL (fun hc => ?_) (fun hc => ?_) | refine QM (fun hc => ?_) (fun hc => ?_)) <;> first | exact Bool.noConfusion hc | ((try simp only [znz] at hc); first | exact znf | skip)) | refine Qi ?_ | refine Qf ?_ | simp (maxSteps := 1000000) only [go_sem, Nat.reduceAdd, Nat.reduceMul, Nat.reduceEqDiff, Nat.reduceLeDiff, Nat.reduceLT, Nat.reduceSub, Int.reduceEq, Int.reduceBEq, Int.reduceLT, Int.reduceLE, Int.reduceAdd, Int.reduceToNat, reduceIte, reduceCtorEq, alF, Vn, e1, e3] | (refine hK _ ?_; clear hK; clear K') | refine And.intro ?_ ?_ | (apply QX; (focus first | exact (Jv _ _ zsd).b | exact (Jw _ _ zsd zsd zsd).b)) | exact zlo | omega | exact zms)
    all_goals first | (refine Jb _ rfl ?_; simp only [go_sem, Nat.reduceEqDiff, Nat.reduceAdd, reduceIte, reduceCtorEq]; rw [qn]; first | done | rfl | exact ⟨_, _, rfl⟩) | trace_state
  · obtain ⟨hk', hget, hr⟩ := Wx hd
    obtain ⟨k, p, rfl, hp, _⟩ := hRg hget
    have hw := JS (k := j) (by omega)
    have e1 : decide ((j : Int) < (R.length : Int)) = true := by simp; omega
    have vx : (R.map V.int)[j]? = some (V.int k) := by rw [List.getElem?_map, hget]; rfl
    have vp : (l.map QK.v)[k]? = some (.agg [V.str p.name, .sl 1 (p.ver.map V.int), .sl 3 (p.needs.map Yk.v)]) := by rw [List.getElem?_map, hp]; rfl
    have hns : (R.take (j + 1)).map (aee l) = (R.take j).map (aee l) ++ [p.name] := by rw [List.take_add_one, hget, List.map_append]; simp [xu hp]
    have hnl : ((R.take j).map (aee l)).length ≤ j := by rw [List.length_map, List.length_take]; omega
    have hL' : ∀ (s' : St) (τ : Nat → Nat), ahk C.m τ s' (alF l R (j + 1)) → K' s' := fun s' τ hw => hL s' (j + 1) τ (by omega) (by omega) hw
    unfold alF at hL' ⊢
    rw [hns] at hL'
    generalize (R.take j).map (aee l) = ns at *
    have hbb : List.map V.str ns ++ [V.str p.name] = (ns ++ [p.name]).map V.str := by rw [List.map_append]; rfl
    have hln : ns.length + 1 = (ns ++ [p.name]).length := by simp
    repeat' (first | refine Qb fun K' hK => ?_ | refine Qe fun K' hK => ?_ | refine Qc ?_ | refine Qd ?_ | refine Qa ?_ | ((first | refine Qg ⟨_, rfl, fun hc => ?_, fun hc => ?_⟩ | refine QL (fun hc => ?_) (fun hc => ?_) | refine QM (fun hc => ?_) (fun hc => ?_)) <;> first | exact Bool.noConfusion hc | ((try simp only [znz] at hc); first | exact znf | skip)) | refine Qi ?_ | refine Qf ?_ | simp (maxSteps := 1000000) only [go_sem, Nat.reduceAdd, Nat.reduceMul, Nat.reduceEqDiff, Nat.reduceLeDiff, Nat.reduceLT, Nat.reduceSub, Int.reduceEq, Int.reduceBEq, Int.reduceLT, Int.reduceLE, Int.reduceAdd, Int.reduceToNat, reduceIte, reduceCtorEq, Vn, e1, hw, Int.toNat_natCast, vx, vp, qn, hbb, hln] | (refine hK _ ?_; clear hK; clear K') | refine And.intro ?_ ?_ | (apply QX; (focus first | exact (Jv _ _ zsd).b | exact (Jw _ _ zsd zsd zsd).b)) | exact zlo | omega | exact zms)
    all_goals first
      | (exact hL' _ (Q0 [(0, 11001)]) (YE [(0, 11001)] (by simp only [go_sem, Nat.reduceAdd, Nat.reduceMul, Nat.reduceEqDiff, Nat.reduceLT, Int.reduceToNat, reduceIte, reduceCtorEq, and_true, true_and, implies_true, Option.some.injEq, exists_eq_left', Qk, Qo]; (repeat' (first | rfl | refine And.intro ?_ ?_ | omega | exact fun h => h | exact Exists.intro _ rfl))) (by simp only [go_sem, Nat.reduceAdd, Nat.reduceMul, Nat.reduceEqDiff, Nat.reduceLT, Int.reduceToNat, reduceIte, reduceCtorEq, and_true, true_and, implies_true, Option.some.injEq, exists_eq_left', Qk, Qo]; (repeat' (first | rfl | refine And.intro ?_ ?_ | omega | exact fun h => h | exact Exists.intro _ rfl))) (by simp [Q0]) (by simp; omega) (by omega)))
      | trace_state
end Av
end
section
set_option linter.unusedSimpArgs false
set_option linter.unusedVariables false
set_option maxRecDepth 10000
set_option maxHeartbeats 4000000
namespace Av
open Go
attribute [local irreducible] AWp Wz WQ W4 awS awC V1 awQ Ue Jc YR VY awR YY awB okR Wt ris
def agZ (l : List QK) (i : Int) (x : JI) : Bool := x.name == aee l i && inV x.lo x.up (aj4 l i)
def adL (l : List QK) (i : Int) (x : JI) : List PU := if agZ l i x then x.uses else []
def aiG (l : List QK) (ks : List JI) (i : Int) : List PU := ks.flatMap (adL l i)
noncomputable def abm (l : List QK) (ks : List JI) (a : Nat) : List PU := (qP l a).flatMap (aiG l ks)
def eqU (x y : PU) : Bool := x.1 == y.1 && x.2 == y.2
def ltU (x y : PU) : Bool := decide (aif x y < 0)
noncomputable def adW (l : List QK) (ks : List JI) (a : Nat) : List PU := wq eqU (Vr ltU (abm l ks a))
def alq (ks : List JI) : Bool := ks.any fun x => !Kd x.lo x.up
def alG (u : PU) : Bool := !decide (Ka u.1 u.2 > 0)
def alr (ks : List JI) : Bool := ks.any fun x => x.uses.any alG
noncomputable def adY (l : List QK) (ks : List JI) (s : List UInt8) : Int := if (Kb l s).2 ≠ 0 then (Kb l s).2 else if alq ks then 22 else if alr ks then 7 else 0
noncomputable def aj5 (l : List QK) (ks : List JI) (s : List UInt8) : List PU := if adY l ks s = 0 then adW l ks (Kb l s).1.toNat else []
noncomputable def agu (l : List QK) (ks : List JI) (s : List UInt8) : V := .tup [.sl 2 ((aj5 l ks s).map usV), V.int (adY l ks s)]
theorem adT (l : List QK) (ks : List JI) (s : List UInt8) : (agu l ks s).closed := by unfold agu; simp only [V.closed, Qj, and_self]
def JI.Sz (x : JI) : Prop := x.lo.length < 2 ^ 60 ∧ x.up.length < 2 ^ 60 ∧ x.uses.length < 2 ^ 60 ∧ ∀ u ∈ x.uses, u.1.natAbs < 2 ^ 60 ∧ u.2.natAbs < 2 ^ 60
def KSz (ks : List JI) : Prop := ks.length < 2 ^ 60 ∧ ∀ x ∈ ks, x.Sz
theorem aiu {α β : Type} {f : α → List β} {l : List α} {k : Nat} {x : α} (h : l[k]? = some x) : (l.take (k + 1)).flatMap f = (l.take k).flatMap f ++ f x := by
  rw [List.take_add_one, h, List.flatMap_append]; simp
theorem aiv {α β : Type} {f : α → List β} (l : List α) (k : Nat) : ((l.take k).flatMap f).length ≤ (l.flatMap f).length := by
  have : (l.flatMap f) = (l.take k).flatMap f ++ (l.drop k).flatMap f := by rw [← List.flatMap_append, List.take_append_drop]
  rw [this, List.length_append]; omega
def akX (l : List QK) (ks : List JI) (R : List Int) (out : List PU) (j : Nat) : St := Vn [(0, .sl 3 (l.map QK.v)), (1, .sl 4 (ks.map JI.v)), (11, .hd 0 0 out.length), (32, .sl 1 (R.map V.int)), (33, V.int R.length), (34, V.int j)] [(0, .buf true 2 (out.map usV))] 1
def wR (l : List QK) (ks : List JI) (R : List Int) (out : List PU) (j : Nat) (i : Nat) (m : Nat) : St := Vn [(0, .sl 3 (l.map QK.v)), (1, .sl 4 (ks.map JI.v)), (11, .hd 0 0 out.length), (13, V.int i), (32, .sl 1 (R.map V.int)), (33, V.int R.length), (34, V.int j), (38, .sl 4 (ks.map JI.v)), (39, V.int ks.length), (40, V.int m)] [(0, .buf true 2 (out.map usV))] 1
def KN (Q1 : Nat) : List AO := [fa 44 0 15, ld 45 1 44, mv 46 0, mv 47 13, ia 48 3 46 47, fa 49 0 48, ld 50 1 49, bn 51 .eql 45 50, mv 52 51, xg 53 (.faddr 1 (.t 15)) 52 true, xg 54 (.load true 2 (.t 53)) 52 true, mg 55 0 52 true, mg 56 13 52 true, xg 57 (.iaddr 3 (.t 55) (.t 56)) 52 true, xg 58 (.faddr 1 (.t 57)) 52 true, xg 59 (.load false 1 (.t 58)) 52 true, xg 60 (.call Q1 [(.t 54), (.t 59)]) 52 true, xo 61 (.pick (.t 52) (.t 60) (.c (V.bool false)))]
def K8 : List (List Nat) := [[], [0], [], [], [2, 3], [4], [5], [1, 6], [7], [8], [9, 8], [8], [8], [11, 12, 8], [13, 8], [14, 8], [10, 15, 8, 8], [8, 16]]
def KJ : OT := .one 0 (.one 1 (.one 2 (.one 3 (.one 4 (.one 5 (.one 6 (.one 7 (.one 8 (.one 9 (.one 10 (.one 11 (.one 12 (.one 13 (.one 14 (.one 15 (.one 16 (.one 17 (.done))))))))))))))))))
def JU (Q1 : Nat) : OP := .one 0 false [] (fa 44 0 15) (.one 1 false [] (ld 45 1 44) (.one 2 false [] (mv 46 0) (.one 3 false [] (mv 47 13) (.one 4 false [] (ia 48 3 46 47) (.one 5 false [] (fa 49 0 48) (.one 6 false [] (ld 50 1 49) (.one 7 false [] (bn 51 .eql 45 50) (.one 8 false [] (mv 52 51) (.one 9 false [] (xg 53 (.faddr 1 (.t 15)) 52 true) (.one 10 false [] (xg 54 (.load true 2 (.t 53)) 52 true) (.one 11 false [] (mg 55 0 52 true) (.one 12 false [] (mg 56 13 52 true) (.one 13 false [] (xg 57 (.iaddr 3 (.t 55) (.t 56)) 52 true) (.one 14 false [] (xg 58 (.faddr 1 (.t 57)) 52 true) (.one 15 false [] (xg 59 (.load false 1 (.t 58)) 52 true) (.one 16 false [] (xg 60 (.call Q1 [(.t 54), (.t 59)]) 52 true) (.one 17 false [16] (xo 61 (.pick (.t 52) (.t 60) (.c (V.bool false)))) (.done))))))))))))))))))
theorem Jl (Q1 : Nat) : okR (KN Q1) K8 [] KJ = true := by kernel_rfl
theorem Jk (Q1 : Nat) : Wt (ris (KN Q1) K8 []) KJ = JU Q1 := by kernel_rfl def c_packages_Uses (Xl Ju WX Ws WW Xm Q1 Yl Ux Yo : Nat) : AC := Qr [0, 1, 2] (.reg [xo 6 (.mknil 2), mc 7 (V.int 0)]) (Qr [0, 1, 8, 9] (.reg [mv 17 0, mv 18 2, cl 19 Xl [17, 18], mv 16 19, ex 20 16 0, ex 21 16 1, mv 8 20, mv 9 21]) (Qr [0, 1, 8] (Qr [0, 1, 8, 9, 23] (.reg [mv 22 9, bc 23 .neq 22 (V.int 0)]) (.cond (.t 23) (Qr [6, 7] (.reg [mv 24 9, xo 6 (.mknil 2), mv 7 24]) (.ret)) (.skip))) (Qr [0, 1, 8] (Qr [0, 1, 8, 26] (.reg [mv 25 1, xo 26 (.call Ju [(.t 25), (.c (.clo WX []))])]) (.cond (.t 26) (Qr [6, 7] (.reg [xo 6 (.mknil 2), mc 7 (V.int 22)]) (.ret)) (.skip))) (Qr [0, 1, 8, 10] (.reg [xo 10 (.alloc [.val .nilFunc]), ⟨none, .store 1 (.t 10) (.c (.clo Ws [])), none⟩]) (Qr [0, 1, 8] (Qr [0, 1, 8, 29] (.reg [mv 27 1, xo 28 (.mkfn WW [(.t 10)]), cl 29 Ju [27, 28]]) (.cond (.t 29) (Qr [6, 7] (.reg [xo 6 (.mknil 2), mc 7 (V.int 7)]) (.ret)) (.skip))) (Qr [0, 1, 8, 11] (.reg [xo 11 (.mknil 2)]) (Qr [11] (Qr [0, 1, 11, 32, 33, 34] (.reg [mv 30 0, mv 31 8, cl 32 Xm [30, 31], ln 33 32, mc 34 (V.int 0)]) (.block 0 (W5 [0, 1, 11, 32, 33, 34] (Qr [0, 1, 11, 32, 33, 34, 35] (.reg [bn 35 .lss 34 33]) (Qr [0, 1, 11, 32, 33, 34] (.cond (.t 35) (.skip) (.exit 0)) (Qr [0, 1, 11, 32, 33, 34] (.block 1 (Qr [0, 1, 11, 13, 32, 33, 34] (.reg [ia 36 1 32 34, ld 37 1 36, mv 13 37]) (Qr [0, 1, 11, 13, 32, 33, 34, 38, 39, 40] (.reg [mv 38 1, ln 39 38, mc 40 (V.int 0)]) (.block 2 (W5 [0, 1, 11, 13, 32, 33, 34, 38, 39, 40] (Qr [0, 1, 11, 13, 32, 33, 34, 38, 39, 40, 41] (.reg [bn 41 .lss 40 39]) (Qr [0, 1, 11, 13, 32, 33, 34, 38, 39, 40] (.cond (.t 41) (.skip) (.exit 2)) (Qr [0, 1, 11, 13, 32, 33, 34, 38, 39, 40] (.block 3 (Qr [0, 1, 11, 13, 15, 32, 33, 34, 38, 39, 40] (.reg [ia 42 4 38 40, xo 43 (.load true 4 (.t 42)), xo 15 (.alloc [.val (.string ⟨#[]⟩), .nil 1, .nil 1, .nil 2]), xs 4 15 43]) (Qr [0, 1, 11, 13, 15, 32, 33, 34, 38, 39, 40, 61] (acq [] KJ (JU Q1) (KN Q1) K8) (.cond (.t 61) (.reg [mv 62 11, fa 63 3 15, ld 64 1 63, xo 65 (.append 2 16 [(.int .i64 0), (.int .i64 0)] (.t 62) (.t 64)), mv 11 65]) (.skip))))) (.reg [bc 66 .add 40 (V.int 1), mv 40 66]))))))))) (.reg [bc 67 .add 34 (V.int 1), mv 34 67]))))))) (Qr [11] (.reg [mv 68 11, xo 69 (.call Yl [(.t 68), (.c (.clo Ux []))])]) (Qr [6, 7] (.reg [mv 70 11, cl 71 Yo [70], mv 6 71, mc 7 (V.int 0)]) (.ret)))))))))) def r_packages_Uses : List Wc := [.tmp 6, .tmp 7]
def qH (Γ : Env) (f : Nat) : Prop := ∀ (l : List QK) (ks : List JI) (s : List UInt8) (hl : PSz l) (hl2 : l.length ≤ 12) (hk : KSz ks) (hn : ∀ a, Uk l = 0 → (abm l ks a).length ≤ 12), EvC Γ f [.sl 3 (l.map QK.v), .sl 4 (ks.map JI.v), V.str s] (agu l ks s)
theorem abd {Γ : Env} {f Xl Ju WX Ws WW Xm Q1 Yl Ux Yo : Nat} (h : Has Γ.P f 72 (c_packages_Uses Xl Ju WX Ws WW Xm Q1 Yl Ux Yo) r_packages_Uses) (Jv : Ug Γ Xl) (QI : Yh Γ Ju) (J5 : Ky Γ WX) (J4 : Kx Γ Ws) (J3 : Kw Γ WW) (Jw : Uh Γ Xm) (JF : UC Γ Q1) (QU : Xh Γ Yl) (Xb : jm Γ Ux) (QW : Xw Γ Yo) : qH Γ f := by
  intro l ks s hl hl2 hk hn
  refine KR h (by simp) (adT _ _ _) fun C hC hm => ?_
  subst hC
  unfold c_packages_Uses
  have gS := (Jv l s hl).b
  have g1 := (QI ks WX [] (fun x => !Kd x.lo x.up) (fun x hx => J5 x (hk.2 x hx).1 (hk.2 x hx).2.1) trivial (by have := hk.1; omega)).b
  have g2 := (QI ks WW [.ro [.clo Ws []] 0] (fun x => x.uses.any alG) (fun x hx => J3 x Ws alG (fun u _ => J4 u) (hk.2 x hx).2.2.1) (by simp [Qj, V.closed]) (by have := hk.1; omega)).b
  unfold agu aj5
  by_cases h0 : (Kb l s).2 = 0
  case neg =>
    have e9 : adY l ks s = (Kb l s).2 := by unfold adY; rw [if_pos h0]
    rw [e9, if_neg h0]
    generalize Kb l s = q at *
    obtain ⟨q1, q2⟩ := q
    dsimp only at *
    have e1 : (q2 != 0) = true := by simpa using h0
    repeat' (first | refine Qb fun K' hK => ?_ | refine Qe fun K' hK => ?_ | refine Qp 18 (fun _ => true) rfl (Jl _) (Jk _) fun K' hK => ?_ | refine Qq 18 (fun _ => true) rfl (Jl _) (Jk _) fun K' hK => ?_ | refine Qc ?_ | refine Qd ?_ | refine Qa ?_ | ((first | refine Qg ⟨_, rfl, fun hc => ?_, fun hc => ?_⟩ | refine QL (fun hc => ?_) (fun hc => ?_) | refine QM (fun hc => ?_) (fun hc => ?_)) <;> first | exact Bool.noConfusion hc | ((try simp only [znz] at hc); first | exact znf | skip)) | refine Qi ?_ | refine Qf ?_ | simp (maxSteps := 1000000) only [go_sem, Nat.reduceAdd, Nat.reduceMul, Nat.reduceEqDiff, Nat.reduceLeDiff, Nat.reduceLT, Nat.reduceSub, Int.reduceEq, Int.reduceBEq, Int.reduceLT, Int.reduceLE, Int.reduceAdd, Int.reduceToNat, reduceIte, reduceCtorEq, e1, JU] | (refine hK _ ?_; clear hK; clear K') | refine And.intro ?_ ?_ | (apply xU; (focus exact rfl); (focus first | exact (QW _ zsd)); (focus exact rfl); (focus (first | (simp; done) | omega | (simp only [List.length_map]; omega)))) | (apply Vw; (focus exact rfl); (focus first | exact (QU _ _ _ zsd zsd)); (focus exact rfl); (focus (first | (simp; done) | omega | (simp only [List.length_map]; omega)))) | ((first | apply QX | apply YB); (focus first | exact gS | exact (Jv _ _ zsd).b | exact (QI _ _ _ _ zsd zsd zsd).b | exact (J5 _ zsd zsd).b | exact (J4 _).b | exact (J3 _ _ _ zsd zsd).b | exact (Jw _ _ zsd zsd zsd).b | exact (JF _ _ _ zsd zsd zsd).b | exact (Xb _ _ zsd zsd zsd zsd).b)) | exact zlo | omega | exact zms)
    all_goals first | (refine Jb _ rfl ?_; simp only [go_sem, Nat.reduceEqDiff, Nat.reduceAdd, reduceIte, reduceCtorEq]; first | done | rfl | exact ⟨_, _, rfl⟩) | trace_state
  obtain ⟨hck, a, p0, ea, hp0, _, halt⟩ := ad0 h0
  have hn := hn a hck
  rw [ea, Int.toNat_natCast]
  rw [ea, h0] at gS
  have e9 : adY l ks s = if alq ks then 22 else if alr ks then 7 else 0 := by unfold adY; rw [if_neg (by simpa using h0)]
  rw [e9]
  rw [show (ks.any fun x => !Kd x.lo x.up) = alq ks from rfl] at g1
  rw [show (ks.any fun x => x.uses.any alG) = alr ks from rfl] at g2
  rcases hb1 : alq ks with _ | _
  case true =>
    rw [hb1] at g1
    repeat' (first | refine Qb fun K' hK => ?_ | refine Qe fun K' hK => ?_ | refine Qp 18 (fun _ => true) rfl (Jl _) (Jk _) fun K' hK => ?_ | refine Qq 18 (fun _ => true) rfl (Jl _) (Jk _) fun K' hK => ?_ | refine Qc ?_ | refine Qd ?_ | refine Qa ?_ | ((first | refine Qg ⟨_, rfl, fun hc => ?_, fun hc => ?_⟩ | refine QL (fun hc => ?_) (fun hc => ?_) | refine QM (fun hc => ?_) (fun hc => ?_)) <;> first | exact Bool.noConfusion hc | ((try simp only [znz] at hc); first | exact znf | skip)) | refine Qi ?_ | refine Qf ?_ | simp (maxSteps := 1000000) only [go_sem, Nat.reduceAdd, Nat.reduceMul, Nat.reduceEqDiff, Nat.reduceLeDiff, Nat.reduceLT, Nat.reduceSub, Int.reduceEq, Int.reduceBEq, Int.reduceLT, Int.reduceLE, Int.reduceAdd, Int.reduceToNat, reduceIte, reduceCtorEq, JU] | (refine hK _ ?_; clear hK; clear K') | refine And.intro ?_ ?_ | (apply xU; (focus exact rfl); (focus first | exact (QW _ zsd)); (focus exact rfl); (focus (first | (simp; done) | omega | (simp only [List.length_map]; omega)))) | (apply Vw; (focus exact rfl); (focus first | exact (QU _ _ _ zsd zsd)); (focus exact rfl); (focus (first | (simp; done) | omega | (simp only [List.length_map]; omega)))) | ((first | apply QX | apply YB); (focus first | exact gS | exact g1 | exact (Jv _ _ zsd).b | exact (QI _ _ _ _ zsd zsd zsd).b | exact (J5 _ zsd zsd).b | exact (J4 _).b | exact (J3 _ _ _ zsd zsd).b | exact (Jw _ _ zsd zsd zsd).b | exact (JF _ _ _ zsd zsd zsd).b | exact (Xb _ _ zsd zsd zsd zsd).b)) | exact zlo | omega | exact zms)
    all_goals first | (refine Jb _ rfl ?_; simp only [go_sem, Nat.reduceEqDiff, Nat.reduceAdd, reduceIte, reduceCtorEq]; first | done | rfl | exact ⟨_, _, rfl⟩) | trace_state
  rcases hb2 : alr ks with _ | _
  case true =>
    rw [hb2] at g2
    rw [hb1] at g1
    repeat' (first | refine Qb fun K' hK => ?_ | refine Qe fun K' hK => ?_ | refine Qp 18 (fun _ => true) rfl (Jl _) (Jk _) fun K' hK => ?_ | refine Qq 18 (fun _ => true) rfl (Jl _) (Jk _) fun K' hK => ?_ | refine Qc ?_ | refine Qd ?_ | refine Qa ?_ | ((first | refine Qg ⟨_, rfl, fun hc => ?_, fun hc => ?_⟩ | refine QL (fun hc => ?_) (fun hc => ?_) | refine QM (fun hc => ?_) (fun hc => ?_)) <;> first | exact Bool.noConfusion hc | ((try simp only [znz] at hc); first | exact znf | skip)) | refine Qi ?_ | refine Qf ?_ | simp (maxSteps := 1000000) only [go_sem, Nat.reduceAdd, Nat.reduceMul, Nat.reduceEqDiff, Nat.reduceLeDiff, Nat.reduceLT, Nat.reduceSub, Int.reduceEq, Int.reduceBEq, Int.reduceLT, Int.reduceLE, Int.reduceAdd, Int.reduceToNat, reduceIte, reduceCtorEq, JU] | (refine hK _ ?_; clear hK; clear K') | refine And.intro ?_ ?_ | (apply xU; (focus exact rfl); (focus first | exact (QW _ zsd)); (focus exact rfl); (focus (first | (simp; done) | omega | (simp only [List.length_map]; omega)))) | (apply Vw; (focus exact rfl); (focus first | exact (QU _ _ _ zsd zsd)); (focus exact rfl); (focus (first | (simp; done) | omega | (simp only [List.length_map]; omega)))) | ((first | apply QX | apply YB); (focus first | exact gS | exact g1 | exact g2 | exact (Jv _ _ zsd).b | exact (QI _ _ _ _ zsd zsd zsd).b | exact (J5 _ zsd zsd).b | exact (J4 _).b | exact (J3 _ _ _ zsd zsd).b | exact (Jw _ _ zsd zsd zsd).b | exact (JF _ _ _ zsd zsd zsd).b | exact (Xb _ _ zsd zsd zsd zsd).b)) | exact zlo | omega | exact zms)
    all_goals first | (refine Jb _ rfl ?_; simp only [go_sem, Nat.reduceEqDiff, Nat.reduceAdd, reduceIte, reduceCtorEq]; first | done | rfl | exact ⟨_, _, rfl⟩) | trace_state
  rw [hb2] at g2
  rw [hb1] at g1
  simp only [Bool.false_eq_true, if_false, if_true]
  have gR := Jw l a hl halt hl2
  unfold adW
  have hall : ∀ u ∈ abm l ks a, u.1.natAbs < 2 ^ 60 ∧ u.2.natAbs < 2 ^ 60 := by
    intro u hu
    simp only [abm, List.mem_flatMap, aiG, adL] at hu
    obtain ⟨_, _, x, hx, hu⟩ := hu
    split at hu
    · exact (hk.2 x hx).2.2.2 u hu
    · exact absurd hu (by simp)
  unfold abm at *
  have hRl := aae (l := l) (a := a)
  have hRg := @acQ l a
  generalize qP l a = R at *
  have hRm : (R.map V.int).length = R.length := List.length_map _
  repeat' (first | refine Qb fun K' hK => ?_ | refine Qe fun K' hK => ?_ | refine Qp 18 (fun _ => true) rfl (Jl _) (Jk _) fun K' hK => ?_ | refine Qq 18 (fun _ => true) rfl (Jl _) (Jk _) fun K' hK => ?_ | refine Qc ?_ | refine Qd ?_ | refine Qa ?_ | ((first | refine Qg ⟨_, rfl, fun hc => ?_, fun hc => ?_⟩ | refine QL (fun hc => ?_) (fun hc => ?_) | refine QM (fun hc => ?_) (fun hc => ?_)) <;> first | exact Bool.noConfusion hc | ((try simp only [znz] at hc); first | exact znf | skip)) | refine Qi ?_ | refine Qf ?_ | simp (maxSteps := 1000000) only [go_sem, Nat.reduceAdd, Nat.reduceMul, Nat.reduceEqDiff, Nat.reduceLeDiff, Nat.reduceLT, Nat.reduceSub, Int.reduceEq, Int.reduceBEq, Int.reduceLT, Int.reduceLE, Int.reduceAdd, Int.reduceToNat, reduceIte, reduceCtorEq, hRm, JU] | (refine hK _ ?_; clear hK; clear K') | refine And.intro ?_ ?_ | (apply xU; (focus exact rfl); (focus first | exact (QW _ zsd)); (focus exact rfl); (focus (first | (simp; done) | omega | (simp only [List.length_map]; omega)))) | (apply Vw; (focus exact rfl); (focus first | exact (QU _ _ _ zsd zsd)); (focus exact rfl); (focus (first | (simp; done) | omega | (simp only [List.length_map]; omega)))) | ((first | apply QX | apply YB); (focus first | exact gS | exact g1 | exact g2 | exact gR.b | exact (Jv _ _ zsd).b | exact (QI _ _ _ _ zsd zsd zsd).b | exact (J5 _ zsd zsd).b | exact (J4 _).b | exact (J3 _ _ _ zsd zsd).b | exact (Jw _ _ zsd zsd zsd).b | exact (JF _ _ _ zsd zsd zsd).b | exact (Xb _ _ zsd zsd zsd zsd).b)) | exact zlo | omega | exact zms)
  refine Yj (ι := List PU × Nat) (fun q => q.2 ≤ R.length ∧ q.1 = (R.take q.2).flatMap (aiG l ks)) (fun q => akX l ks R q.1 q.2) (fun q => R.length - q.2) ([], 0) ⟨by simp, by simp⟩ (Q0 [(0, 19000)]) (YE [(0, 19000)] (by simp only [go_sem, Nat.reduceAdd, Nat.reduceMul, Nat.reduceEqDiff, Nat.reduceLT, Int.reduceToNat, reduceIte, reduceCtorEq, and_true, true_and, implies_true, Option.some.injEq, exists_eq_left', Qk, Qo]; (repeat' (first | rfl | refine And.intro ?_ ?_ | omega | exact fun h => h | exact Exists.intro _ rfl))) (by simp only [go_sem, Nat.reduceAdd, Nat.reduceMul, Nat.reduceEqDiff, Nat.reduceLT, Int.reduceToNat, reduceIte, reduceCtorEq, and_true, true_and, implies_true, Option.some.injEq, exists_eq_left', Qk, Qo]; (repeat' (first | rfl | refine And.intro ?_ ?_ | omega | exact fun h => h | exact Exists.intro _ rfl))) (by simp [Q0]) (by simp; omega) (by omega)) fun q hq K' hL => ?_
  obtain ⟨out, j⟩ := q
  obtain ⟨hj, hout⟩ := hq
  dsimp only at hj hout
  have hol : out.length ≤ 12 := by rw [hout]; exact Nat.le_trans (aiv R j) hn
  rcases hd : R.drop j with _ | ⟨x, r⟩
  · have hkl := Vg hd
    have e1 : decide ((j : Int) < (R.length : Int)) = false := by simp; omega
    have e3 : R.take j = R := List.take_of_length_le hkl
    rw [e3] at hout
    rw [← hout] at hall ⊢
    have htk : List.take out.length ((Vr ltU out).map usV) = (Vr ltU out).map usV := List.take_of_length_le (by rw [List.length_map, qT]; omega)
    have hgl : (Vr ltU out).length = out.length := qT _ _
    have gT := QU out Ux aif (fun x hx y hy => Xb x y (hall x hx).1 (hall x hx).2 (hall y hy).1 (hall y hy).2) hol
    have d1 : (fun x y : PU => decide (aif x y < 0)) = ltU := rfl
    rw [d1] at gT
    have gC := QW (Vr ltU out) (by rw [qT]; omega)
    have d2 : (fun x y : PU => x.1 == y.1 && x.2 == y.2) = eqU := rfl
    rw [d2] at gC
    repeat' (first | refine Qb fun K' hK => ?_ | refine Qe fun K' hK => ?_ | refine Qp 18 (fun _ => true) rfl (Jl _) (Jk _) fun K' hK => ?_ | refine Qq 18 (fun _ => true) rfl (Jl _) (Jk _) fun K' hK => ?_ | refine Qc ?_ | refine Qd ?_ | refine Qa ?_ | ((first | refine Qg ⟨_, rfl, fun hc => ?_, fun hc => ?_⟩ | refine QL (fun hc => ?_) (fun hc => ?_) | refine QM (fun hc => ?_) (fun hc => ?_)) <;> first | exact Bool.noConfusion hc | ((try simp only [znz] at hc); first | exact znf | skip)) | refine Qi ?_ | refine Qf ?_ | simp (maxSteps := 1000000) only [go_sem, Nat.reduceAdd, Nat.reduceMul, Nat.reduceEqDiff, Nat.reduceLeDiff, Nat.reduceLT, Nat.reduceSub, Int.reduceEq, Int.reduceBEq, Int.reduceLT, Int.reduceLE, Int.reduceAdd, Int.reduceToNat, reduceIte, reduceCtorEq, akX, Vn, e1, e3, htk, JU] | (refine hK _ ?_; clear hK; clear K') | refine And.intro ?_ ?_ | (apply xU; (focus exact rfl); (focus first | exact gC | exact (QW _ zsd)); (focus exact rfl); (focus (first | (simp; done) | omega | (simp only [List.length_map]; omega)))) | (apply Vw; (focus exact rfl); (focus first | exact gT | exact (QU _ _ _ zsd zsd)); (focus exact rfl); (focus (first | (simp; done) | omega | (simp only [List.length_map]; omega)))) | ((first | apply QX | apply YB); (focus first | exact (Jv _ _ zsd).b | exact (QI _ _ _ _ zsd zsd zsd).b | exact (J5 _ zsd zsd).b | exact (J4 _).b | exact (J3 _ _ _ zsd zsd).b | exact (Jw _ _ zsd zsd zsd).b | exact (JF _ _ _ zsd zsd zsd).b | exact (Xb _ _ zsd zsd zsd zsd).b)) | exact zlo | omega | exact zms)
    all_goals
      refine Jb _ rfl ?_; simp only [go_sem, Nat.reduceEqDiff, Nat.reduceAdd, reduceIte, reduceCtorEq]
      rw [List.take_append_of_le_length (by simp), List.take_of_length_le (by simp)]
      first | done | exact ⟨_, _, rfl⟩
  · obtain ⟨hk', hget, hr⟩ := Wx hd
    obtain ⟨i, p, rfl, hp, _⟩ := hRg hget
    have hpz := hl.2 p (List.mem_of_getElem? hp)
    have hw := JS (k := j) (by omega)
    have e1 : decide ((j : Int) < (R.length : Int)) = true := by simp; omega
    have vx : (R.map V.int)[j]? = some (V.int i) := by rw [List.getElem?_map, hget]; rfl
    have vp : (l.map QK.v)[i]? = some (.agg [V.str p.name, .sl 1 (p.ver.map V.int), .sl 3 (p.needs.map Yk.v)]) := by rw [List.getElem?_map, hp]; rfl
    have hR1 := aiu (f := aiG l ks) hget
    have hRn := aiv (f := aiG l ks) R (j + 1)
    rw [hR1, ← hout, List.length_append] at hRn
    have hkm : (ks.map JI.v).length = ks.length := List.length_map _
    repeat' (first | refine Qb fun K' hK => ?_ | refine Qe fun K' hK => ?_ | refine Qp 18 (fun _ => true) rfl (Jl _) (Jk _) fun K' hK => ?_ | refine Qq 18 (fun _ => true) rfl (Jl _) (Jk _) fun K' hK => ?_ | refine Qc ?_ | refine Qd ?_ | refine Qa ?_ | ((first | refine Qg ⟨_, rfl, fun hc => ?_, fun hc => ?_⟩ | refine QL (fun hc => ?_) (fun hc => ?_) | refine QM (fun hc => ?_) (fun hc => ?_)) <;> first | exact Bool.noConfusion hc | ((try simp only [znz] at hc); first | exact znf | skip)) | refine Qi ?_ | refine Qf ?_ | simp (maxSteps := 1000000) only [go_sem, Nat.reduceAdd, Nat.reduceMul, Nat.reduceEqDiff, Nat.reduceLeDiff, Nat.reduceLT, Nat.reduceSub, Int.reduceEq, Int.reduceBEq, Int.reduceLT, Int.reduceLE, Int.reduceAdd, Int.reduceToNat, reduceIte, reduceCtorEq, akX, Vn, e1, vx, Int.toNat_natCast, hkm, JU] | (refine hK _ ?_; clear hK; clear K') | refine And.intro ?_ ?_ | (apply xU; (focus exact rfl); (focus first | exact (QW _ zsd)); (focus exact rfl); (focus (first | (simp; done) | omega | (simp only [List.length_map]; omega)))) | (apply Vw; (focus exact rfl); (focus first | exact (QU _ _ _ zsd zsd)); (focus exact rfl); (focus (first | (simp; done) | omega | (simp only [List.length_map]; omega)))) | ((first | apply QX | apply YB); (focus first | exact (Jv _ _ zsd).b | exact (QI _ _ _ _ zsd zsd zsd).b | exact (J5 _ zsd zsd).b | exact (J4 _).b | exact (J3 _ _ _ zsd zsd).b | exact (Jw _ _ zsd zsd zsd).b | exact (JF _ _ _ zsd zsd zsd).b | exact (Xb _ _ zsd zsd zsd zsd).b)) | exact zlo | omega | exact zms)
    refine Yj (ι := List PU × Nat) (fun q => q.2 ≤ ks.length ∧ q.1 = out ++ (ks.take q.2).flatMap (adL l i)) (fun q => wR l ks R q.1 j i q.2) (fun q => ks.length - q.2) (out, 0) ⟨by simp, by simp⟩ (Q0 []) (YE [] (by simp only [go_sem, Nat.reduceAdd, Nat.reduceMul, Nat.reduceEqDiff, Nat.reduceLT, Int.reduceToNat, reduceIte, reduceCtorEq, and_true, true_and, implies_true, Option.some.injEq, exists_eq_left', Qk, Qo, wR]; (repeat' (first | rfl | refine And.intro ?_ ?_ | omega | exact fun h => h | exact Exists.intro _ rfl))) (by simp only [go_sem, Nat.reduceAdd, Nat.reduceMul, Nat.reduceEqDiff, Nat.reduceLT, Int.reduceToNat, reduceIte, reduceCtorEq, and_true, true_and, implies_true, Option.some.injEq, exists_eq_left', Qk, Qo, wR]; (repeat' (first | rfl | refine And.intro ?_ ?_ | omega | exact fun h => h | exact Exists.intro _ rfl))) (by simp [Q0]) (by simp) (by omega)) fun q hq K2 hL2 => ?_
    obtain ⟨out2, m⟩ := q
    obtain ⟨hm', hout2⟩ := hq
    dsimp only at hm' hout2
    rcases hd2 : ks.drop m with _ | ⟨x, r2⟩
    · have hkl := Vg hd2
      have e2 : decide ((m : Int) < (ks.length : Int)) = false := by simp; omega
      have e3 : ks.take m = ks := List.take_of_length_le hkl
      rw [e3] at hout2
      repeat' (first | refine Qb fun K' hK => ?_ | refine Qe fun K' hK => ?_ | refine Qp 18 (fun _ => true) rfl (Jl _) (Jk _) fun K' hK => ?_ | refine Qq 18 (fun _ => true) rfl (Jl _) (Jk _) fun K' hK => ?_ | refine Qc ?_ | refine Qd ?_ | refine Qa ?_ | ((first | refine Qg ⟨_, rfl, fun hc => ?_, fun hc => ?_⟩ | refine QL (fun hc => ?_) (fun hc => ?_) | refine QM (fun hc => ?_) (fun hc => ?_)) <;> first | exact Bool.noConfusion hc | ((try simp only [znz] at hc); first | exact znf | skip)) | refine Qi ?_ | refine Qf ?_ | simp (maxSteps := 1000000) only [go_sem, Nat.reduceAdd, Nat.reduceMul, Nat.reduceEqDiff, Nat.reduceLeDiff, Nat.reduceLT, Nat.reduceSub, Int.reduceEq, Int.reduceBEq, Int.reduceLT, Int.reduceLE, Int.reduceAdd, Int.reduceToNat, reduceIte, reduceCtorEq, wR, Vn, e2, hw, JU] | (refine hK _ ?_; clear hK; clear K') | refine And.intro ?_ ?_ | (apply xU; (focus exact rfl); (focus first | exact (QW _ zsd)); (focus exact rfl); (focus (first | (simp; done) | omega | (simp only [List.length_map]; omega)))) | (apply Vw; (focus exact rfl); (focus first | exact (QU _ _ _ zsd zsd)); (focus exact rfl); (focus (first | (simp; done) | omega | (simp only [List.length_map]; omega)))) | ((first | apply QX | apply YB); (focus first | exact (Jv _ _ zsd).b | exact (QI _ _ _ _ zsd zsd zsd).b | exact (J5 _ zsd zsd).b | exact (J4 _).b | exact (J3 _ _ _ zsd zsd).b | exact (Jw _ _ zsd zsd zsd).b | exact (JF _ _ _ zsd zsd zsd).b | exact (Xb _ _ zsd zsd zsd zsd).b)) | exact zlo | omega | exact zms)
      all_goals
        refine hL _ (out2, j + 1) (Q0 []) ⟨(by show j + 1 ≤ R.length; omega), (by show out2 = (R.take (j + 1)).flatMap (aiG l ks); rw [hR1, ← hout, hout2]; rfl)⟩ (by show R.length - (j + 1) < R.length - j; omega) (YE [] (by simp only [go_sem, Nat.reduceAdd, Nat.reduceMul, Nat.reduceEqDiff, Nat.reduceLT, Int.reduceToNat, reduceIte, reduceCtorEq, and_true, true_and, implies_true, Option.some.injEq, exists_eq_left', Qk, Qo, akX]; (repeat' (first | rfl | refine And.intro ?_ ?_ | omega | exact fun h => h | exact Exists.intro _ rfl))) (by simp only [go_sem, Nat.reduceAdd, Nat.reduceMul, Nat.reduceEqDiff, Nat.reduceLT, Int.reduceToNat, reduceIte, reduceCtorEq, and_true, true_and, implies_true, Option.some.injEq, exists_eq_left', Qk, Qo, akX]; (repeat' (first | rfl | refine And.intro ?_ ?_ | omega | exact fun h => h | exact Exists.intro _ rfl))) (by simp [Q0]) (by simp) (by omega))
    · obtain ⟨hk2, hget2, hr2⟩ := Wx hd2
      have hxz := hk.2 x (List.mem_of_getElem? hget2)
      have hw2 := JS (k := m) (by have := hk.1; omega)
      have e2 : decide ((m : Int) < (ks.length : Int)) = true := by simp; omega
      have vn : (ks.map JI.v)[m]? = some (.agg [V.str x.name, .sl 1 (x.lo.map V.int), .sl 1 (x.up.map V.int), .sl 2 (x.uses.map usV)]) := by rw [List.getElem?_map, hget2]; rfl
      have hK1 := aiu (f := adL l i) hget2
      have hKn := aiv (f := adL l i) ks (m + 1)
      rw [hK1, List.length_append] at hKn
      have hol2 : out2.length + (adL l i x).length ≤ 12 := by
        have : (aiG l ks i).length = (ks.flatMap (adL l i)).length := rfl
        rw [hout2, List.length_append]; omega
      have gI := (JF x.lo x.up p.ver hxz.1 hxz.2.1 hpz.2.1).b
      simp only [wZ] at gI
      have hnext : out ++ (ks.take (m + 1)).flatMap (adL l i) = out2 ++ adL l i x := by rw [hK1, ← List.append_assoc, ← hout2]
      have hL2' : ∀ (s' : St) (τ : Nat → Nat), ahk C.m τ s' (wR l ks R (out2 ++ adL l i x) j i (m + 1)) → K2 s' := fun s' τ hw => hL2 s' (out2 ++ adL l i x, m + 1) τ ⟨(by show m + 1 ≤ ks.length; omega), hnext.symm⟩ (by show ks.length - (m + 1) < ks.length - m; omega) hw
      unfold adL agZ at hL2' hol2
      rw [xu hp, aht hp] at hL2' hol2
      rcases hnm : (x.name == p.name) with _ | _
      · rw [hnm] at hL2' hol2
        simp only [Bool.false_and, Bool.false_eq_true, if_false, List.append_nil] at hL2'
        repeat' (first | refine Qb fun K' hK => ?_ | refine Qe fun K' hK => ?_ | refine Qp 18 (fun _ => true) rfl (Jl _) (Jk _) fun K' hK => ?_ | refine Qq 18 (fun _ => true) rfl (Jl _) (Jk _) fun K' hK => ?_ | refine Qc ?_ | refine Qd ?_ | refine Qa ?_ | ((first | refine Qg ⟨_, rfl, fun hc => ?_, fun hc => ?_⟩ | refine QL (fun hc => ?_) (fun hc => ?_) | refine QM (fun hc => ?_) (fun hc => ?_)) <;> first | exact Bool.noConfusion hc | ((try simp only [znz] at hc); first | exact znf | skip)) | refine Qi ?_ | refine Qf ?_ | simp (maxSteps := 1000000) only [go_sem, Nat.reduceAdd, Nat.reduceMul, Nat.reduceEqDiff, Nat.reduceLeDiff, Nat.reduceLT, Nat.reduceSub, Int.reduceEq, Int.reduceBEq, Int.reduceLT, Int.reduceLE, Int.reduceAdd, Int.reduceToNat, reduceIte, reduceCtorEq, wR, Vn, e2, hw2, Int.toNat_natCast, vn, vp, hnm, JU] | (refine hK _ ?_; clear hK; clear K') | refine And.intro ?_ ?_ | (apply xU; (focus exact rfl); (focus first | exact (QW _ zsd)); (focus exact rfl); (focus (first | (simp; done) | omega | (simp only [List.length_map]; omega)))) | (apply Vw; (focus exact rfl); (focus first | exact (QU _ _ _ zsd zsd)); (focus exact rfl); (focus (first | (simp; done) | omega | (simp only [List.length_map]; omega)))) | ((first | apply QX | apply YB); (focus first | exact gI | exact (Jv _ _ zsd).b | exact (QI _ _ _ _ zsd zsd zsd).b | exact (J5 _ zsd zsd).b | exact (J4 _).b | exact (J3 _ _ _ zsd zsd).b | exact (Jw _ _ zsd zsd zsd).b | exact (JF _ _ _ zsd zsd zsd).b | exact (Xb _ _ zsd zsd zsd zsd).b)) | exact zlo | omega | exact zms)
        all_goals first
          | exact hL2' _ (Q0 []) (YE [] (by simp only [go_sem, Nat.reduceAdd, Nat.reduceMul, Nat.reduceEqDiff, Nat.reduceLT, Int.reduceToNat, reduceIte, reduceCtorEq, and_true, true_and, implies_true, Option.some.injEq, exists_eq_left', Qk, Qo, wR]; (repeat' (first | rfl | refine And.intro ?_ ?_ | omega | exact fun h => h | exact Exists.intro _ rfl))) (by simp only [go_sem, Nat.reduceAdd, Nat.reduceMul, Nat.reduceEqDiff, Nat.reduceLT, Int.reduceToNat, reduceIte, reduceCtorEq, and_true, true_and, implies_true, Option.some.injEq, exists_eq_left', Qk, Qo, wR]; (repeat' (first | rfl | refine And.intro ?_ ?_ | omega | exact fun h => h | exact Exists.intro _ rfl))) (by simp [Q0]) (by simp) (by omega))
          | trace_state
      · rcases hin : inV x.lo x.up p.ver with _ | _
        · rw [hin] at gI
          rw [hnm, hin] at hL2' hol2
          simp only [Bool.and_false, Bool.false_eq_true, if_false, List.append_nil] at hL2'
          repeat' (first | refine Qb fun K' hK => ?_ | refine Qe fun K' hK => ?_ | refine Qp 18 (fun _ => true) rfl (Jl _) (Jk _) fun K' hK => ?_ | refine Qq 18 (fun _ => true) rfl (Jl _) (Jk _) fun K' hK => ?_ | refine Qc ?_ | refine Qd ?_ | refine Qa ?_ | ((first | refine Qg ⟨_, rfl, fun hc => ?_, fun hc => ?_⟩ | refine QL (fun hc => ?_) (fun hc => ?_) | refine QM (fun hc => ?_) (fun hc => ?_)) <;> first | exact Bool.noConfusion hc | ((try simp only [znz] at hc); first | exact znf | skip)) | refine Qi ?_ | refine Qf ?_ | simp (maxSteps := 1000000) only [go_sem, Nat.reduceAdd, Nat.reduceMul, Nat.reduceEqDiff, Nat.reduceLeDiff, Nat.reduceLT, Nat.reduceSub, Int.reduceEq, Int.reduceBEq, Int.reduceLT, Int.reduceLE, Int.reduceAdd, Int.reduceToNat, reduceIte, reduceCtorEq, wR, Vn, e2, hw2, Int.toNat_natCast, vn, vp, hnm, JU] | (refine hK _ ?_; clear hK; clear K') | refine And.intro ?_ ?_ | (apply xU; (focus exact rfl); (focus first | exact (QW _ zsd)); (focus exact rfl); (focus (first | (simp; done) | omega | (simp only [List.length_map]; omega)))) | (apply Vw; (focus exact rfl); (focus first | exact (QU _ _ _ zsd zsd)); (focus exact rfl); (focus (first | (simp; done) | omega | (simp only [List.length_map]; omega)))) | ((first | apply QX | apply YB); (focus first | exact gI | exact (Jv _ _ zsd).b | exact (QI _ _ _ _ zsd zsd zsd).b | exact (J5 _ zsd zsd).b | exact (J4 _).b | exact (J3 _ _ _ zsd zsd).b | exact (Jw _ _ zsd zsd zsd).b | exact (JF _ _ _ zsd zsd zsd).b | exact (Xb _ _ zsd zsd zsd zsd).b)) | exact zlo | omega | exact zms)
          all_goals first
            | exact hL2' _ (Q0 []) (YE [] (by simp only [go_sem, Nat.reduceAdd, Nat.reduceMul, Nat.reduceEqDiff, Nat.reduceLT, Int.reduceToNat, reduceIte, reduceCtorEq, and_true, true_and, implies_true, Option.some.injEq, exists_eq_left', Qk, Qo, wR]; (repeat' (first | rfl | refine And.intro ?_ ?_ | omega | exact fun h => h | exact Exists.intro _ rfl))) (by simp only [go_sem, Nat.reduceAdd, Nat.reduceMul, Nat.reduceEqDiff, Nat.reduceLT, Int.reduceToNat, reduceIte, reduceCtorEq, and_true, true_and, implies_true, Option.some.injEq, exists_eq_left', Qk, Qo, wR]; (repeat' (first | rfl | refine And.intro ?_ ?_ | omega | exact fun h => h | exact Exists.intro _ rfl))) (by simp [Q0]) (by simp) (by omega))
            | trace_state
        · rw [hin] at gI
          rw [hnm, hin] at hL2' hol2
          simp only [Bool.and_true, if_true] at hL2' hol2
          have hul := List.length_map usV (as := x.uses)
          have hjn : out2.map usV ++ x.uses.map usV = (out2 ++ x.uses).map usV := (List.map_append ..).symm
          have hln : out2.length + x.uses.length = (out2 ++ x.uses).length := (List.length_append ..).symm
          have hyc : ∀ y ∈ x.uses.map usV, y.cells.length = 2 := by
            intro y hy
            obtain ⟨u, _, rfl⟩ := List.mem_map.1 hy
            rfl
          repeat' (first | refine Qb fun K' hK => ?_ | refine Qe fun K' hK => ?_ | refine Qp 18 (fun _ => true) rfl (Jl _) (Jk _) fun K' hK => ?_ | refine Qq 18 (fun _ => true) rfl (Jl _) (Jk _) fun K' hK => ?_ | refine Qc ?_ | refine Qd ?_ | refine Qa ?_ | ((first | refine Qg ⟨_, rfl, fun hc => ?_, fun hc => ?_⟩ | refine QL (fun hc => ?_) (fun hc => ?_) | refine QM (fun hc => ?_) (fun hc => ?_)) <;> first | exact Bool.noConfusion hc | ((try simp only [znz] at hc); first | exact znf | skip)) | refine Qi ?_ | refine Qf ?_ | simp (maxSteps := 1000000) only [go_sem, Nat.reduceAdd, Nat.reduceMul, Nat.reduceEqDiff, Nat.reduceLeDiff, Nat.reduceLT, Nat.reduceSub, Int.reduceEq, Int.reduceBEq, Int.reduceLT, Int.reduceLE, Int.reduceAdd, Int.reduceToNat, reduceIte, reduceCtorEq, wR, Vn, e2, hw2, Int.toNat_natCast, vn, vp, hnm, hul, hln, qn, hjn, List.length_map, JU] | (refine hK _ ?_; clear hK; clear K') | refine And.intro ?_ ?_ | (apply xU; (focus exact rfl); (focus first | exact (QW _ zsd)); (focus exact rfl); (focus (first | (simp; done) | omega | (simp only [List.length_map]; omega)))) | (apply Vw; (focus exact rfl); (focus first | exact (QU _ _ _ zsd zsd)); (focus exact rfl); (focus (first | (simp; done) | omega | (simp only [List.length_map]; omega)))) | ((first | apply QX | apply YB); (focus first | exact gI | exact (Jv _ _ zsd).b | exact (QI _ _ _ _ zsd zsd zsd).b | exact (J5 _ zsd zsd).b | exact (J4 _).b | exact (J3 _ _ _ zsd zsd).b | exact (Jw _ _ zsd zsd zsd).b | exact (JF _ _ _ zsd zsd zsd).b | exact (Xb _ _ zsd zsd zsd zsd).b)) | exact zlo | omega | exact zms)
          all_goals first
            | exact hyc
            | exact hL2' _ (Q0 [(0, 26001)]) (YE [(0, 26001)] (by simp only [go_sem, Nat.reduceAdd, Nat.reduceMul, Nat.reduceEqDiff, Nat.reduceLT, Int.reduceToNat, reduceIte, reduceCtorEq, and_true, true_and, implies_true, Option.some.injEq, exists_eq_left', Qk, Qo, wR]; (repeat' (first | rfl | refine And.intro ?_ ?_ | omega | exact fun h => h | exact Exists.intro _ rfl))) (by simp only [go_sem, Nat.reduceAdd, Nat.reduceMul, Nat.reduceEqDiff, Nat.reduceLT, Int.reduceToNat, reduceIte, reduceCtorEq, and_true, true_and, implies_true, Option.some.injEq, exists_eq_left', Qk, Qo, wR]; (repeat' (first | rfl | refine And.intro ?_ ?_ | omega | exact fun h => h | exact Exists.intro _ rfl))) (by simp [Q0]) (by simp; omega) (by omega))
            | trace_state
end Av
end
section
set_option linter.unusedSimpArgs false
set_option linter.unusedVariables false
set_option maxRecDepth 10000
set_option maxHeartbeats 4000000
namespace Av
open Go
attribute [local irreducible] AWp Wz WQ W4 awS awC V1 awQ Ue Jc YR VY awR YY awB okR Wt ris
section
variable {α : Type}
def adR (f : α → Nat → V) : Nat → List α → List V
  | _, [] => []
  | n, p :: r => f p n :: adR f (n + 1) r
theorem KM (f : α → Nat → V) : ∀ (ps : List α) (n : Nat), (adR f n ps).length = ps.length
  | [], _ => rfl
  | p :: r, n => by simp only [adR, List.length_cons, KM f r]
theorem xr (f : α → Nat → V) : ∀ (ps : List α) (n j : Nat), (adR f n ps)[j]? = (ps[j]?).map fun p => f p (n + j)
  | [], n, j => by simp [adR]
  | p :: r, n, 0 => by simp [adR]
  | p :: r, n, j + 1 => by
    simp only [adR, List.getElem?_cons_succ]
    rw [xr f r (n + 1) j, show n + 1 + j = n + (j + 1) by omega]
theorem afT (f : α → Nat → V) : ∀ (ps : List α) (n : Nat) (p : α), adR f n (ps ++ [p]) = adR f n ps ++ [f p (n + ps.length)]
  | [], n, p => rfl
  | q :: r, n, p => by
    simp only [List.cons_append, adR, afT f r, List.length_cons]
    rw [show n + 1 + r.length = n + (r.length + 1) by omega]
theorem abr {f : α → Nat → V} (hf : ∀ x a τ, (f x a).ren τ = f x (τ a)) {τ : Nat → Nat} : ∀ (ps : List α) (n : Nat), (∀ i, i < ps.length → τ (n + i) = n + i) → KF τ (adR f n ps) = adR f n ps
  | [], _, _ => rfl
  | p :: r, n, h => by
    have h0 := h 0 (by simp)
    simp only [adR, KF, hf]
    rw [abr hf r (n + 1) (fun i hi => by rw [show n + 1 + i = n + (i + 1) by omega]; exact h (i + 1) (by simp; omega))]
    rw [show τ n = n by simpa using h0]
theorem adr {f : α → Nat → V} (hf : ∀ x a m, a < m → (f x a).lt m) : ∀ (ps : List α) (n m : Nat), n + ps.length ≤ m → ltL m (adR f n ps)
  | [], _, _, _ => trivial
  | p :: r, n, m, h => by
    simp only [List.length_cons] at h
    exact ⟨hf _ _ _ (by omega), adr hf r (n + 1) m (by omega)⟩
theorem ahK {f : α → Nat → V} (h1 : ∀ x a τ, (f x a).ren τ = f x (τ a)) (h2 : ∀ x a m, a < m → (f x a).lt m) {sz : Nat} {ps : List α} {τ : Nat → Nat} {N n : Nat} (ht : ∀ i, i < ps.length → τ (N + i) = N + i) (hn : N + ps.length ≤ n) :
    (Ob.obuf true sz (adR f N ps)).weak τ n (.obuf true sz (adR f N ps)) := ⟨id, rfl, (abr h1 ps N ht).symm, adr h2 ps N n hn⟩
theorem ab7 {o : Nat → Option Ob} {br : List Nat} {B : Option (List Nat)} : ∀ (xs ys : List V), xs.length = ys.length → (∀ (i : Nat) (x y : V), xs[i]? = some x → ys[i]? = some y → conv o br B x y) → Xx o br B xs ys
  | [], [], _, _ => trivial
  | [], _ :: _, h, _ => by simp at h
  | _ :: _, [], h, _ => by simp at h
  | x :: r, y :: r', h, hh => ⟨hh 0 x y rfl rfl, ab7 r r' (by simpa using h) fun i x' y' h1 h2 => hh (i + 1) x' y' h1 h2⟩
end
theorem afP (τ : Nat → Nat) : ∀ xs ys : List V, KF τ (xs ++ ys) = KF τ xs ++ KF τ ys
  | [], ys => rfl
  | x :: xs, ys => by simp only [List.cons_append, KF, afP τ xs ys]
def JI.own (p : JI) (a : Nat) : V := .agg [V.str p.name, .sl 1 (p.lo.map V.int), .sl 1 (p.up.map V.int), .hd a 0 p.uses.length]
theorem abt (x : JI) (a : Nat) (τ : Nat → Nat) : (x.own a).ren τ = x.own (τ a) := by simp only [JI.own, V.ren, KF]
theorem afg (x : JI) (a m : Nat) (h : a < m) : (x.own a).lt m := ⟨trivial, trivial, trivial, h, trivial⟩
abbrev ahn : Nat → List JI → List V := adR JI.own
def aaT (ks : List JI) : List Ob := ks.map fun p => .buf true 2 (p.uses.map usV)
theorem KI (ks : List JI) : (aaT ks).length = ks.length := by simp [aaT]
theorem w6 {ks : List JI} {τ : Nat → Nat} {n : Nat} (ht : ∀ i, i < ks.length → τ (100 + i) = 100 + i) (hn : 100 + ks.length ≤ n) : (Ob.obuf true 4 (ahn 100 ks)).weak τ n (.obuf true 4 (ahn 100 ks)) := ahK abt afg ht hn
def aj6 (u : PU) : Prop := u.1.natAbs < 2 ^ 60 ∧ u.2.natAbs < 2 ^ 60
def ak9 (n : Nat) (x : JI) : Prop := x.name.length ≤ 5 ∧ x.lo.length ≤ 4 ∧ x.up.length ≤ 4 ∧ x.uses.length ≤ n ∧ ∀ u ∈ x.uses, aj6 u
def jJ (n : Nat) (ks : List JI) : Prop := ks.length ≤ 4 ∧ ∀ x ∈ ks, ak9 n x
def abS (ks : List JI) : V := .sl 4 (ks.map JI.v)
theorem adz (ks : List JI) : (abS ks).closed := by simp only [abS, V.closed]
def akr (l : List Int) (ks : List JI) (k c : Nat) : St := UL [(0, .ptr 0 0), (3, .hd 1 0 ks.length), (4, V.int c)] [(0, .box true (JJ l k)), (1, .obuf true 4 (ahn 100 ks))] 100 (aaT ks) 200
def alT (l : List Int) (ks : List JI) (nm : List UInt8) (lo up : List Int) (us : List PU) (k c : Nat) (n : Int) : St :=
  UL [(0, .ptr 0 0), (3, .hd 1 0 ks.length), (4, V.int c), (5, .ptr 2 0), (6, V.int n)] [(0, .box true (JJ l k)), (1, .obuf true 4 (ahn 100 ks)), (2, .box true [V.str nm, .sl 1 (lo.map V.int), .sl 1 (up.map V.int), .hd 3 0 us.length]), (3, .buf true 2 (us.map usV))] 100 (aaT ks) 200
def aej (l : List Int) (ks : List JI) (k : Nat) : St := UL [(0, .ptr 0 0), (3, .hd 1 0 ks.length)] [(0, .box true (JJ l k)), (1, .obuf true 4 (ahn 100 ks))] 100 (aaT ks) 200
theorem vV {ks : List JI} {s : St} {tau : List (Nat × Nat)} {n : Nat} (h : ∀ i, i < ks.length → s.o (Q0 tau (100 + i)) = (aaT ks)[i]?) :
    ∀ i (hi : i < (aaT ks).length), ∃ x, s.o (Q0 tau (100 + i)) = some x ∧ x.weak (Q0 tau) n (aaT ks)[i] := by
  intro i hi
  have h1 := h i (by simpa [aaT] using hi)
  rw [List.getElem?_eq_getElem hi] at h1
  refine ⟨_, h1, ?_⟩
  simp only [aaT, List.getElem_map]
  exact ⟨id, rfl, rfl⟩
theorem aj8 {l : List Int} {k : Nat} (hk : k ≤ l.length) : (aj9 l k).2 ≤ l.length := by
  have h1 := XW (l := l) (k := k) (n := 22) hk
  show (aaa l _ _).2 ≤ l.length
  unfold aaa
  split
  · exact h1
  · exact afX h1
theorem ae0 : ∀ a ∈ ([1, 2, 3, 4, 5, 6, 7, 8, 9, 10, 11, 12, 13, 14, 15, 16, 17, 18, 19, 20, 21, 22] : List Int), ∀ b ∈ (if j5 a = [] then [0] else j5 a), 0 ≤ b ∧ b ≤ 16384 := by decide +kernel
theorem ae1 (l : List Int) (k : Nat) (a : Int) (ha : 1 ≤ a ∧ a ≤ 22) : 0 ≤ (aaa l k a).1 ∧ (aaa l k a).1 ≤ 16384 := by
  refine ae0 a (by simp only [List.mem_cons, List.not_mem_nil, or_false]; omega) _ ?_
  by_cases h : j5 a = []
  · rw [aaa, if_pos h, if_pos h]; simp
  · rw [aaa, if_neg h, if_neg h]
    exact ahY h (by unfold j5; (repeat' split) <;> simp)
theorem aj7 (l : List Int) (k : Nat) : aj6 (aj9 l k).1 := by
  have hr := Y0 (l := l) (k := k) (n := 22) (by omega) (by omega)
  have hs := ae1 l (J2 l k 22).2 (1 + (J2 l k 22).1) (by omega)
  refine ⟨?_, ?_⟩
  · show (1 + (J2 l k 22).1).natAbs < 2 ^ 60
    omega
  · show (aaa l (J2 l k 22).2 (1 + (J2 l k 22).1)).1.natAbs < 2 ^ 60
    omega
theorem afZ : ∀ (ks : List JI), ntL (ks.map JI.v)
  | [] => trivial
  | p :: r => ⟨by simp [JI.v], afZ r⟩
theorem aaX : ∀ (ks : List JI), Qj (ks.map JI.v)
  | [] => trivial
  | p :: r => ⟨afh p, aaX r⟩
theorem aan {o : Nat → Option Ob} {xs : List V} {ks : List JI} (h1 : o 1 = some (.obuf true 4 xs)) (hl : xs.length = ks.length)
    (hx : ∀ (i : Nat) (p : JI), ks[i]? = some p → ∃ z a, xs[i]? = some (.agg [V.str p.name, z, .sl 1 (p.up.map V.int), .hd a 0 p.uses.length]) ∧ conv o [0] none z (.sl 1 (p.lo.map V.int)) ∧ a ≠ 0 ∧ o a = some (.buf true 2 (p.uses.map usV))) :
    conv o [0] none (.hd 1 0 ks.length) (abS ks) := by
  rw [abS, ag3]
  refine ⟨trivial, by simp, .inr ⟨true, xs, h1, ?_, afZ ks, aaX ks⟩⟩
  rw [List.drop_zero, List.take_of_length_le (by omega)]
  refine ab7 _ _ (by rw [hl, List.length_map]) fun i x y h3 h4 => ?_
  rw [List.getElem?_map] at h4
  simp only [Option.map_eq_some_iff] at h4
  obtain ⟨p, hp, rfl⟩ := h4
  obtain ⟨z, a, e1, e2, e3, e4⟩ := hx i p hp
  rw [e1] at h3; cases h3
  refine ⟨by simp [conv], e2, by simp [conv], ?_, trivial⟩
  rw [ag3]
  exact ⟨trivial, by simpa using e3, .inl ⟨true, _, e4, by rw [List.drop_zero, List.take_of_length_le (by simp)]⟩⟩
def qr (X3 : Nat) : List AO := [fa 25 3 5, ld 26 1 25, mv 27 0, cl 28 X3 [27], xo 29 (.bslice 1 2 true [(.int .i64 0), (.int .i64 0)] [(0, (.t 28))]), xo 30 (.append 2 16 [(.int .i64 0), (.int .i64 0)] (.t 26) (.t 29)), fa 31 3 5, xs 1 31 30]
def qE : List (List Nat) := [[], [0], [], [2], [3], [1, 4, 3], [0, 1, 2, 3, 4, 5], [6, 5, 5, 0, 1, 2, 3, 4, 5]]
def qp : OT := .one 0 (.one 2 (.or 1 (.one 3 (.one 4 (.one 5 (.one 6 (.one 7 (.done)))))) (.or 3 (.one 1 (.one 4 (.one 5 (.one 6 (.one 7 (.done)))))) (.done))))
def JV (X3 : Nat) : OP := .one 0 false [] (fa 25 3 5) (.one 2 false [] (mv 27 0) (.or 1 true [] (ld 26 1 25) (.one 3 true [] (cl 28 X3 [27]) (.one 4 false [3] (xo 29 (.bslice 1 2 true [(.int .i64 0), (.int .i64 0)] [(0, (.t 28))])) (.one 5 true [4, 3] (xo 30 (.append 2 16 [(.int .i64 0), (.int .i64 0)] (.t 26) (.t 29))) (.one 6 false [] (fa 31 3 5) (.one 7 true [5, 4, 3] (xs 1 31 30) (.done)))))) (.or 3 true [] (cl 28 X3 [27]) (.one 1 true [] (ld 26 1 25) (.one 4 false [3] (xo 29 (.bslice 1 2 true [(.int .i64 0), (.int .i64 0)] [(0, (.t 28))])) (.one 5 true [4, 3] (xo 30 (.append 2 16 [(.int .i64 0), (.int .i64 0)] (.t 26) (.t 29))) (.one 6 false [] (fa 31 3 5) (.one 7 true [5, 4, 3] (xs 1 31 30) (.done)))))) (.done))))
theorem Jj (X3 : Nat) : okR (qr X3) qE [1, 3] qp = true := by kernel_rfl
theorem Ji (X3 : Nat) : Wt (ris (qr X3) qE [1, 3]) qp = JV X3 := by kernel_rfl def c_law12_knowns (Qn QO Jh X3 JD : Nat) : AC := Qr [0] (.reg [xo 2 (.mknil 4)]) (Qr [0, 3] (.reg [xo 3 (.mknil 4)]) (Qr [0, 3] (Qr [0, 3, 4] (.reg [mv 7 0, xo 8 (.call Qn [(.t 7), (.c (V.int 5))]), mv 4 8]) (.block 0 (W5 [0, 3, 4] (Qr [0, 3, 4] (Qr [0, 3, 4, 10] (.reg [mv 9 4, bc 10 .gtr 9 (V.int 0)]) (.cond (.t 10) (.skip) (.exit 0))) (Qr [0, 3, 4] (.block 1 (Qr [0, 3, 4, 5] (.reg [mv 13 0, xo 14 (.bslice 4 1 false [(.string ⟨#[]⟩)] [(0, (.c (V.str [99, 114, 121, 112, 116]))), (1, (.c (V.str [115, 115, 108]))), (2, (.c (V.str [108, 105, 98]))), (3, (.c (V.str [97, 112, 112])))]), cl 15 QO [13, 14], mv 16 0, cl 17 Jh [16], xo 18 (.build [(.string ⟨#[]⟩), (.slice none 0 0), (.slice none 0 0), (.slice none 0 0)] [(0, 1, (.t 15)), (1, 2, (.t 17))]), xo 5 (.alloc [.val (.string ⟨#[]⟩), .nil 1, .nil 1, .nil 2]), xs 4 5 18]) (Qr [0, 3, 4, 5] (Qr [0, 3, 4, 5, 6] (.reg [mv 19 0, xo 20 (.call Qn [(.t 19), (.c (V.int 3))]), mv 6 20]) (.block 2 (W5 [0, 3, 4, 5, 6] (Qr [0, 3, 4, 5, 6] (Qr [0, 3, 4, 5, 6, 22] (.reg [mv 21 6, bc 22 .gtr 21 (V.int 0)]) (.cond (.t 22) (.skip) (.exit 2))) (Qr [0, 3, 4, 5, 6] (.block 3 (acq [1, 3] qp (JV X3) (qr X3) qE)) (.reg [mv 23 6, bc 24 .sub 23 (V.int 1), mv 6 24])))))) (.reg [mv 32 3, xo 33 (.load true 4 (.t 5)), xo 34 (.obslice 1 4 true [(.string ⟨#[]⟩), (.slice none 0 0), (.slice none 0 0), (.slice none 0 0)] [(0, (.t 33))]), xo 35 (.append 4 88 [(.string ⟨#[]⟩), (.slice none 0 0), (.slice none 0 0), (.slice none 0 0)] (.t 32) (.t 34)), mv 3 35])))) (.reg [mv 11 4, bc 12 .sub 11 (V.int 1), mv 4 12])))))) (Qr [0, 3] (Qr [0, 3, 42] (.reg [mv 36 3, ln 37 36, bc 38 .gtr 37 (V.int 0), mv 39 38, mg 40 0 39 true, xg 41 (.call JD [(.t 40), (.c (V.int 8))]) 39 true, xo 42 (.pick (.t 39) (.t 41) (.c (V.bool false)))]) (.cond (.t 42) (.reg [mv 43 3, mv 44 3, xo 45 (.iaddr 4 (.t 44) (.c (V.int 0))), fa 46 3 45, ld 47 1 46, xo 48 (.build [(.int .i64 0), (.int .i64 0)] [(0, 1, (.c (V.int 99)))]), xo 49 (.bslice 1 2 true [(.int .i64 0), (.int .i64 0)] [(0, (.t 48))]), xo 50 (.append 2 16 [(.int .i64 0), (.int .i64 0)] (.t 47) (.t 49)), xo 51 (.iaddr 4 (.t 43) (.c (V.int 0))), fa 52 3 51, xs 1 52 50]) (.skip))) (Qr [3] (Qr [3, 59] (.reg [mv 53 3, ln 54 53, bc 55 .gtr 54 (V.int 0), mv 56 55, mg 57 0 56 true, xg 58 (.call JD [(.t 57), (.c (V.int 8))]) 56 true, xo 59 (.pick (.t 56) (.t 58) (.c (V.bool false)))]) (.cond (.t 59) (.reg [mv 60 3, mv 61 3, ln 62 61, bc 63 .sub 62 (V.int 1), xo 64 (.bslice 1 1 false [(.int .i64 0)] [(0, (.c (V.int (-3))))]), ia 65 4 60 63, fa 66 1 65, fa 67 0 66, xs 1 67 64]) (.skip))) (Qr [2] (.reg [mv 68 3, mv 2 68]) (.ret)))))) def r_law12_knowns : List Wc := [.tmp 2]
def jk (Γ : Env) (f : Nat) : Prop := ∀ (l : List Int) (k : Nat) (hl : l.length ≤ 400) (hk : k ≤ l.length), EvK Γ f [] (JJ l k) (alX (JJ l) l.length (jJ 3) abS)
theorem ab1 {Γ : Env} {f Qn QO Jh X3 JD : Nat} (h : Has Γ.P f 69 (c_law12_knowns Qn QO Jh X3 JD) r_law12_knowns) (Qh : Yy Γ Qn) (Qm : VK Γ QO) (QB : qi Γ Jh) (J6 : wJ Γ X3) (Ql : W3 Γ JD) : jk Γ f := by
  intro l k hl hk
  refine afs h (by simp) (Jx _ _) (fun r cs2 hq => (by obtain ⟨gx, gk, _, hgP, rfl, rfl⟩ := hq; exact ⟨adz _, Jx _ _⟩)) fun C hC hm => ?_
  subst hC
  unfold c_law12_knowns
  refine aeO ?_
  refine Qb fun K' hK => ?_
  simp (maxSteps := 1000000) only [go_sem, Nat.reduceAdd, Nat.reduceMul, Nat.reduceEqDiff, Nat.reduceLeDiff, Nat.reduceLT, Nat.reduceSub, Int.reduceEq, Int.reduceBEq, Int.reduceLT, Int.reduceLE, Int.reduceAdd, Int.reduceToNat, reduceIte, reduceCtorEq]
  refine hK _ ?_
  clear hK
  clear K'
  (try simp only [go_sem, Nat.reduceAdd, Nat.reduceMul, Nat.reduceEqDiff, Nat.reduceLeDiff, Nat.reduceLT, Nat.reduceSub, Int.reduceEq, Int.reduceBEq, Int.reduceLT, Int.reduceLE, Int.reduceAdd, Int.reduceToNat, reduceIte, reduceCtorEq])
  refine Qb fun K' hK => ?_
  simp (maxSteps := 1000000) only [go_sem, Nat.reduceAdd, Nat.reduceMul, Nat.reduceEqDiff, Nat.reduceLeDiff, Nat.reduceLT, Nat.reduceSub, Int.reduceEq, Int.reduceBEq, Int.reduceLT, Int.reduceLE, Int.reduceAdd, Int.reduceToNat, reduceIte, reduceCtorEq]
  refine hK _ ?_
  clear hK
  clear K'
  (try simp only [go_sem, Nat.reduceAdd, Nat.reduceMul, Nat.reduceEqDiff, Nat.reduceLeDiff, Nat.reduceLT, Nat.reduceSub, Int.reduceEq, Int.reduceBEq, Int.reduceLT, Int.reduceLE, Int.reduceAdd, Int.reduceToNat, reduceIte, reduceCtorEq])
  refine adO (ι := List JI × Nat) (fun q => jJ 2 q.1 ∧ q.2 ≤ l.length) (fun q => aej l q.1 q.2) (fun K' hK' => ?_) (fun q hq => ?_)
  · have n1 := Qh l k 5 hl hk
    have hk1 := XW (l := l) (k := k) (n := 5) hk
    have hr1 := Y0 (l := l) (k := k) (n := 5) (by omega) (by omega)
    generalize J2 l k 5 = w at *
    obtain ⟨c0, k1⟩ := w
    simp only [JJ] at n1 hk1 hr1 ⊢
    obtain ⟨c0, rfl⟩ : ∃ j : Nat, c0 = (j : Int) := ⟨c0.toNat, by omega⟩
    repeat' (first | refine Qb fun K' hK => ?_ | refine Qe fun K' hK => ?_ | refine Qp 8 (fun y => !decide (y = 0) && !decide (y = 2) && !decide (y = 3)) rfl (Jj _) (Ji _) fun K' hK => ?_ | refine Qq 8 (fun y => !decide (y = 0) && !decide (y = 2) && !decide (y = 3)) rfl (Jj _) (Ji _) fun K' hK => ?_ | refine Qc ?_ | refine Qd ?_ | refine Qa ?_ | ((first | refine Qg ⟨_, rfl, fun hc => ?_, fun hc => ?_⟩ | refine QL (fun hc => ?_) (fun hc => ?_) | refine QM (fun hc => ?_) (fun hc => ?_)) <;> first | exact Bool.noConfusion hc | ((try simp only [znz] at hc); first | exact znf | skip)) | refine Qi ?_ | refine Qf ?_ | simp (maxSteps := 1000000) only [go_sem, Nat.reduceAdd, Nat.reduceMul, Nat.reduceEqDiff, Nat.reduceLeDiff, Nat.reduceLT, Nat.reduceSub, Int.reduceEq, Int.reduceBEq, Int.reduceLT, Int.reduceLE, Int.reduceAdd, Int.reduceToNat, reduceIte, reduceCtorEq, JJ, JV] | (refine hK _ ?_; clear hK; clear K') | refine And.intro ?_ ?_ | (apply XS; (focus exact rfl); (focus first | exact n1 | exact (Qh _ _ _ zsd zsd) | exact (Qm _ _ _ zsd zsd zsd zsd) | exact (QB _ _ zsd zsd) | exact (J6 _ _ zsd zsd) | exact (Ql _ _ _ zsd zsd zsd zsd)); (focus exact rfl); (focus exact rfl)) | (apply Wb; (focus exact rfl); (focus first | exact rfl | decide); (focus first | exact rfl | decide); (focus first | exact n1 | exact (Qh _ _ _ zsd zsd) | exact (Qm _ _ _ zsd zsd zsd zsd) | exact (QB _ _ zsd zsd) | exact (J6 _ _ zsd zsd) | exact (Ql _ _ _ zsd zsd zsd zsd)); (focus exact rfl); (focus exact rfl); (focus first | exact rfl | decide)) | exact zlo | omega | exact zms)
    refine Yj (ι := List JI × Nat × Nat) (fun q => jJ 2 q.1 ∧ q.1.length + q.2.2 ≤ 4 ∧ q.2.1 ≤ l.length) (fun q => akr l q.1 q.2.1 q.2.2) (fun q => q.2.2) ([], k1, c0) ⟨⟨by simp, by simp⟩, by simp; omega, hk1⟩ (Q0 [(1, 1001)])
      (V2 [(1, 1001)] (by simp only [go_sem, Nat.reduceAdd, Nat.reduceMul, Nat.reduceEqDiff, Nat.reduceLT, Int.reduceToNat, reduceIte, reduceCtorEq, and_true, true_and, implies_true, Option.some.injEq, exists_eq_left', Qk, Qo]; (repeat' (first | rfl | refine And.intro ?_ ?_ | omega | exact fun h => h | exact Exists.intro _ rfl))) (by simp only [go_sem, Nat.reduceAdd, Nat.reduceMul, Nat.reduceEqDiff, Nat.reduceLT, Int.reduceToNat, reduceIte, reduceCtorEq, and_true, true_and, implies_true, Option.some.injEq, exists_eq_left', Qk, Qo]; (repeat' (first | rfl | refine And.intro ?_ ?_ | omega | exact fun h => h | exact Exists.intro _ rfl)); all_goals first | exact trivial | (refine UA _ _ ?_; simp only [V.closed])) (by simp [aaT]) (by omega) (by simp [aaT]) (fun a b _ _ => by simp only [Q0]; (repeat' split) <;> omega) (by simp; omega) (by omega)) fun q hq K2 hK2 => ?_
    obtain ⟨ks, k2, c⟩ := q
    obtain ⟨hok, hlen, hk2⟩ := hq
    dsimp only at hok hlen hk2
    have hk4 := hok.1
    rcases c with _ | c
    · repeat' (first | refine Qb fun K' hK => ?_ | refine Qe fun K' hK => ?_ | refine Qp 8 (fun y => !decide (y = 0) && !decide (y = 2) && !decide (y = 3)) rfl (Jj _) (Ji _) fun K' hK => ?_ | refine Qq 8 (fun y => !decide (y = 0) && !decide (y = 2) && !decide (y = 3)) rfl (Jj _) (Ji _) fun K' hK => ?_ | refine Qc ?_ | refine Qd ?_ | refine Qa ?_ | ((first | refine Qg ⟨_, rfl, fun hc => ?_, fun hc => ?_⟩ | refine QL (fun hc => ?_) (fun hc => ?_) | refine QM (fun hc => ?_) (fun hc => ?_)) <;> first | exact Bool.noConfusion hc | ((try simp only [znz] at hc); first | exact znf | skip)) | refine Qi ?_ | refine Qf ?_ | simp (maxSteps := 1000000) only [go_sem, Nat.reduceAdd, Nat.reduceMul, Nat.reduceEqDiff, Nat.reduceLeDiff, Nat.reduceLT, Nat.reduceSub, Int.reduceEq, Int.reduceBEq, Int.reduceLT, Int.reduceLE, Int.reduceAdd, Int.reduceToNat, reduceIte, reduceCtorEq, akr, UL, Wn, JV] | (refine hK _ ?_; clear hK; clear K') | refine And.intro ?_ ?_ | (apply XS; (focus exact rfl); (focus first | exact (Qh _ _ _ zsd zsd) | exact (Qm _ _ _ zsd zsd zsd zsd) | exact (QB _ _ zsd zsd) | exact (J6 _ _ zsd zsd) | exact (Ql _ _ _ zsd zsd zsd zsd)); (focus exact rfl); (focus exact rfl)) | (apply Wb; (focus exact rfl); (focus first | exact rfl | decide); (focus first | exact rfl | decide); (focus first | exact (Qh _ _ _ zsd zsd) | exact (Qm _ _ _ zsd zsd zsd zsd) | exact (QB _ _ zsd zsd) | exact (J6 _ _ zsd zsd) | exact (Ql _ _ _ zsd zsd zsd zsd)); (focus exact rfl); (focus exact rfl); (focus first | exact rfl | decide)) | exact zlo | omega | exact zms)
      refine hK' _ (ks, k2) (Q0 []) ⟨hok, hk2⟩ (V2 [] (by simp only [go_sem, Nat.reduceAdd, Nat.reduceMul, Nat.reduceEqDiff, Nat.reduceLT, Int.reduceToNat, reduceIte, reduceCtorEq, and_true, true_and, implies_true, Option.some.injEq, exists_eq_left', Qk, Qo]; (repeat' (first | rfl | refine And.intro ?_ ?_ | omega | exact fun h => h | exact Exists.intro _ rfl))) (fun p hp => ?_) (vV fun i _ => by simp only [Q0, St.keep, YS]) (by omega) (by rw [KI]; show 100 + ks.length ≤ 200; omega) (fun a b _ _ h => h) (by simp) (by omega))
      simp only [List.mem_cons, List.not_mem_nil, or_false] at hp
      rcases hp with rfl | rfl
      · exact ⟨_, rfl, qV⟩
      · exact ⟨_, rfl, w6 (fun _ _ => rfl) (by omega)⟩
    · have e1 : decide (((c + 1 : Nat) : Int) > 0) = true := decide_eq_true (by omega)
      have ew : IntKind.i64.wrap (((c + 1 : Nat) : Int) - 1) = (c : Int) := by rw [Wl (by omega) (by omega)]; omega
      have n2 := Qm l k2 [[99, 114, 121, 112, 116], [115, 115, 108], [108, 105, 98], [97, 112, 112]] hl hk2 (by simp) (by simp)
      have hk3 := adi (l := l) (k := k2) (xs := [[99, 114, 121, 112, 116], [115, 115, 108], [108, 105, 98], [97, 112, 112]]) hk2
      have hwm := aby (l := l) (k := k2) (xs := [[99, 114, 121, 112, 116], [115, 115, 108], [108, 105, 98], [97, 112, 112]]) (by simp) (by simp)
      have hwl : (aa1 l k2 [[99, 114, 121, 112, 116], [115, 115, 108], [108, 105, 98], [97, 112, 112]]).1.length ≤ 5 := by
        simp only [List.mem_cons, List.not_mem_nil, or_false] at hwm
        rcases hwm with e | e | e | e <;> (rw [e]; decide)
      generalize aa1 l k2 [[99, 114, 121, 112, 116], [115, 115, 108], [108, 105, 98], [97, 112, 112]] = u at *
      obtain ⟨nm, k3⟩ := u
      have n3 := QB l k3 hl hk3
      have hk5 := vk (l := l) (vk (l := l) hk3)
      have hb1 := vj l k3
      have hb2 := vj l (KD l k3).2
      simp only [adf, wZ] at n3
      generalize (KD l (KD l k3).2) = w3 at *
      generalize (KD l k3) = w4 at *
      obtain ⟨up, k5⟩ := w3
      obtain ⟨lo, _⟩ := w4
      have n4 := Qh l k5 3 hl hk5
      have hk6 := XW (l := l) (k := k5) (n := 3) hk5
      have hr6 := Y0 (l := l) (k := k5) (n := 3) (by omega) (by omega)
      generalize J2 l k5 3 = w at *
      obtain ⟨d0, k6⟩ := w
      simp only [JJ, List.map_cons, List.map_nil] at n2 n3 n4 hk3 hk5 hk6 hr6 hb1 hb2 hwl ⊢
      obtain ⟨d0, rfl⟩ : ∃ j : Nat, d0 = (j : Int) := ⟨d0.toNat, by omega⟩
      repeat' (first | refine Qb fun K' hK => ?_ | refine Qe fun K' hK => ?_ | refine Qp 8 (fun y => !decide (y = 0) && !decide (y = 2) && !decide (y = 3)) rfl (Jj _) (Ji _) fun K' hK => ?_ | refine Qq 8 (fun y => !decide (y = 0) && !decide (y = 2) && !decide (y = 3)) rfl (Jj _) (Ji _) fun K' hK => ?_ | refine Qc ?_ | refine Qd ?_ | refine Qa ?_ | ((first | refine Qg ⟨_, rfl, fun hc => ?_, fun hc => ?_⟩ | refine QL (fun hc => ?_) (fun hc => ?_) | refine QM (fun hc => ?_) (fun hc => ?_)) <;> first | exact Bool.noConfusion hc | ((try simp only [znz] at hc); first | exact znf | skip)) | refine Qi ?_ | refine Qf ?_ | simp (maxSteps := 1000000) only [go_sem, Nat.reduceAdd, Nat.reduceMul, Nat.reduceEqDiff, Nat.reduceLeDiff, Nat.reduceLT, Nat.reduceSub, Int.reduceEq, Int.reduceBEq, Int.reduceLT, Int.reduceLE, Int.reduceAdd, Int.reduceToNat, reduceIte, reduceCtorEq, akr, UL, Wn, e1, JJ, JV] | (refine hK _ ?_; clear hK; clear K') | refine And.intro ?_ ?_ | (apply XS; (focus exact rfl); (focus first | exact n2 | exact n3 | exact n4 | exact (Qh _ _ _ zsd zsd) | exact (Qm _ _ _ zsd zsd zsd zsd) | exact (QB _ _ zsd zsd) | exact (J6 _ _ zsd zsd) | exact (Ql _ _ _ zsd zsd zsd zsd)); (focus exact rfl); (focus exact rfl)) | (apply Wb; (focus exact rfl); (focus first | exact rfl | decide); (focus first | exact rfl | decide); (focus first | exact n2 | exact n3 | exact n4 | exact (Qh _ _ _ zsd zsd) | exact (Qm _ _ _ zsd zsd zsd zsd) | exact (QB _ _ zsd zsd) | exact (J6 _ _ zsd zsd) | exact (Ql _ _ _ zsd zsd zsd zsd)); (focus exact rfl); (focus exact rfl); (focus first | exact rfl | decide)) | exact zlo | omega | exact zms)
      refine aeP 8200 3 2 rfl rfl ?_
      refine Yj (ι := List PU × Nat × Nat) (fun q => (∀ x ∈ q.1, aj6 x) ∧ q.1.length + q.2.2 ≤ 2 ∧ q.2.1 ≤ l.length) (fun q => alT l ks nm lo up q.1 q.2.1 (c + 1) q.2.2) (fun q => q.2.2) ([], k6, d0) ⟨by simp, by simp; omega, hk6⟩ (Q0 [(2, 8200), (3, 13200)])
        (V2 [(2, 8200), (3, 13200)] (fun p hp => ?_) (fun p hp => ?_) (vV fun j hj => ?_) (by omega) (by rw [KI]; omega) (fun a b _ _ => by simp only [Q0]; (repeat' split) <;> omega) (by simp; omega) (by omega)) fun q hq K3 hK3 => ?_
      · simp only [List.mem_cons, List.not_mem_nil, or_false] at hp
        rcases hp with rfl | rfl | rfl | rfl | rfl
        · exact ⟨rfl, by show 0 < 200; omega⟩
        · exact ⟨rfl, by show 1 < 200; omega⟩
        · exact ⟨rfl, trivial⟩
        · exact ⟨rfl, by show 2 < 200; omega⟩
        · exact ⟨rfl, trivial⟩
      · simp only [List.mem_cons, List.not_mem_nil, or_false] at hp
        rcases hp with rfl | rfl | rfl | rfl
        · exact ⟨_, rfl, qV⟩
        · exact ⟨_, rfl, w6 (fun j hj => by simp only [Q0]; rw [if_neg (by omega), if_neg (by omega)]) (by omega)⟩
        · exact ⟨_, rfl, id, rfl, trivial, UA _ _ (by simp only [V.closed]), UA _ _ (by simp only [V.closed]), (by show 3 < 200; omega), trivial⟩
        · exact ⟨_, rfl, id, rfl, rfl⟩
      · have e5 : Q0 [(2, 8200), (3, 13200)] (100 + j) = 100 + j := by simp only [Q0]; rw [if_neg (by omega), if_neg (by omega)]
        rw [e5]
        iterate 10 refine (Jo _ _ (by first | omega | (show _ ≠ 13200; omega))).trans ?_
        refine (ac6 (by simp; omega)).trans ?_
        refine (Jo _ _ (by omega)).trans ?_
        exact YS
      obtain ⟨us, k7, d⟩ := q
      obtain ⟨hus, hud, hk7⟩ := hq
      dsimp only at hus hud hk7
      rcases d with _ | d
      · repeat' (first | refine Qb fun K' hK => ?_ | refine Qe fun K' hK => ?_ | refine Qp 8 (fun y => !decide (y = 0) && !decide (y = 2) && !decide (y = 3)) rfl (Jj _) (Ji _) fun K' hK => ?_ | refine Qq 8 (fun y => !decide (y = 0) && !decide (y = 2) && !decide (y = 3)) rfl (Jj _) (Ji _) fun K' hK => ?_ | refine Qc ?_ | refine Qd ?_ | refine Qa ?_ | ((first | refine Qg ⟨_, rfl, fun hc => ?_, fun hc => ?_⟩ | refine QL (fun hc => ?_) (fun hc => ?_) | refine QM (fun hc => ?_) (fun hc => ?_)) <;> first | exact Bool.noConfusion hc | ((try simp only [znz] at hc); first | exact znf | skip)) | refine Qi ?_ | refine Qf ?_ | simp (maxSteps := 1000000) only [go_sem, Nat.reduceAdd, Nat.reduceMul, Nat.reduceEqDiff, Nat.reduceLeDiff, Nat.reduceLT, Nat.reduceSub, Int.reduceEq, Int.reduceBEq, Int.reduceLT, Int.reduceLE, Int.reduceAdd, Int.reduceToNat, reduceIte, reduceCtorEq, alT, UL, Wn, ew, JV] | (refine hK _ ?_; clear hK; clear K') | refine And.intro ?_ ?_ | (apply XS; (focus exact rfl); (focus first | exact (Qh _ _ _ zsd zsd) | exact (Qm _ _ _ zsd zsd zsd zsd) | exact (QB _ _ zsd zsd) | exact (J6 _ _ zsd zsd) | exact (Ql _ _ _ zsd zsd zsd zsd)); (focus exact rfl); (focus exact rfl)) | (apply Wb; (focus exact rfl); (focus first | exact rfl | decide); (focus first | exact rfl | decide); (focus first | exact (Qh _ _ _ zsd zsd) | exact (Qm _ _ _ zsd zsd zsd zsd) | exact (QB _ _ zsd zsd) | exact (J6 _ _ zsd zsd) | exact (Ql _ _ _ zsd zsd zsd zsd)); (focus exact rfl); (focus exact rfl); (focus first | exact rfl | decide)) | exact zlo | omega | exact zms)
        have hp : ak9 2 ⟨nm, lo, up, us⟩ := ⟨hwl, hb1, hb2, (by show us.length ≤ 2; omega), hus⟩
        have tz : ∀ a, a ≠ 1 → a ≠ 100 + ks.length → a ≠ 3 → Q0 [(1, 5200), (100 + ks.length, 3), (3, 9999)] a = a := fun a h1 h2 h3 => by
          simp only [Q0]; rw [if_neg (by omega), if_neg (by omega), if_neg (by omega)]
        have tn : Q0 [(1, 5200), (100 + ks.length, 3), (3, 9999)] (100 + ks.length) = 3 := by
          simp only [Q0]; rw [if_neg (by omega)]; simp
        refine hK2 _ (ks ++ [⟨nm, lo, up, us⟩], k7, c) (Q0 [(1, 5200), (100 + ks.length, 3), (3, 9999)]) ⟨⟨(by simp; omega), fun p hpm => (by
            rcases List.mem_append.1 hpm with h1 | h1
            · exact hok.2 p h1
            · rw [List.mem_singleton.1 h1]; exact hp)⟩, (by simp; omega), hk7⟩ (by show c < c + 1; omega)
          (V2 [(1, 5200), (100 + ks.length, 3), (3, 9999)] (fun p hpm => ?_) (fun p hpm => ?_) (vV fun j hj => ?_) (by omega) (by rw [KI]; simp; omega) (fun a b _ _ => by simp only [Q0]; (repeat' split) <;> omega) (by simp; omega) (by omega))
        · simp only [List.mem_cons, List.not_mem_nil, or_false] at hpm
          rcases hpm with rfl | rfl | rfl
          · refine ⟨?_, ?_⟩
            · show V.ptr 0 0 = V.ptr (Q0 _ 0) 0; rw [tz 0 (by omega) (by omega) (by omega)]
            · show 0 < 200; omega
          · refine ⟨?_, ?_⟩
            · show V.hd 5200 0 (ks.length + 1) = V.hd 5200 0 (ks ++ [_]).length; simp
            · show 1 < 200; omega
          · exact ⟨rfl, trivial⟩
        · simp only [List.mem_cons, List.not_mem_nil, or_false] at hpm
          rcases hpm with rfl | rfl
          · refine ⟨_, ?_, qV (l := l) (k := k7)⟩
            simp only [tz 0 (by omega) (by omega) (by omega)]; rfl
          · refine ⟨_, rfl, id, rfl, ?_, adr afg _ _ _ (by simp; omega)⟩
            rw [ahn, afT, List.take_of_length_le (by rw [KM]; omega), afP]
            rw [abr abt ks 100 (fun j hj => tz (100 + j) (by omega) (by omega) (by omega))]
            simp only [KF, JI.own, V.ren, tn]
        · by_cases hj2 : j = ks.length
          · subst hj2
            rw [tn]
            have e6 : (aaT (ks ++ [⟨nm, lo, up, us⟩]))[ks.length]? = some (.buf true 2 (us.map usV)) := by simp [aaT]
            rw [e6]; rfl
          · have hj3 : j < ks.length := by simp at hj; omega
            rw [tz (100 + j) (by omega) (by omega) (by omega)]
            iterate 3 refine (Jo _ _ (by omega)).trans ?_
            refine YS.trans ?_
            simp only [aaT, List.map_append]
            rw [List.getElem?_append_left (by simpa using hj3)]
      · have e2 : decide (((d + 1 : Nat) : Int) > 0) = true := decide_eq_true (by omega)
        have ew2 : IntKind.i64.wrap (((d + 1 : Nat) : Int) - 1) = (d : Int) := by rw [Wl (by omega) (by omega)]; omega
        have n5 := J6 l k7 hl hk7
        have hk8 := aj8 (l := l) hk7
        have hok8 := aj7 l k7
        generalize aj9 l k7 = w at *
        obtain ⟨u8, k8⟩ := w
        simp only [JJ] at n5 hk8 hok8 ⊢
        have hbk : List.take us.length (us.map usV) ++ [V.agg [V.int u8.1, V.int u8.2]] = (us ++ [u8]).map usV := by
          rw [List.take_of_length_le (by simp), List.map_append]; rfl
        repeat' (first | refine Qb fun K' hK => ?_ | refine Qe fun K' hK => ?_ | refine Qp 8 (fun y => !decide (y = 0) && !decide (y = 2) && !decide (y = 3)) rfl (Jj _) (Ji _) fun K' hK => ?_ | refine Qq 8 (fun y => !decide (y = 0) && !decide (y = 2) && !decide (y = 3)) rfl (Jj _) (Ji _) fun K' hK => ?_ | refine Qc ?_ | refine Qd ?_ | refine Qa ?_ | ((first | refine Qg ⟨_, rfl, fun hc => ?_, fun hc => ?_⟩ | refine QL (fun hc => ?_) (fun hc => ?_) | refine QM (fun hc => ?_) (fun hc => ?_)) <;> first | exact Bool.noConfusion hc | ((try simp only [znz] at hc); first | exact znf | skip)) | refine Qi ?_ | refine Qf ?_ | simp (maxSteps := 1000000) only [go_sem, Nat.reduceAdd, Nat.reduceMul, Nat.reduceEqDiff, Nat.reduceLeDiff, Nat.reduceLT, Nat.reduceSub, Int.reduceEq, Int.reduceBEq, Int.reduceLT, Int.reduceLE, Int.reduceAdd, Int.reduceToNat, reduceIte, reduceCtorEq, alT, UL, Wn, e2, ew2, JJ, JV] | (refine hK _ ?_; clear hK; clear K') | refine And.intro ?_ ?_ | (apply XS; (focus exact rfl); (focus first | exact n5 | exact (Qh _ _ _ zsd zsd) | exact (Qm _ _ _ zsd zsd zsd zsd) | exact (QB _ _ zsd zsd) | exact (J6 _ _ zsd zsd) | exact (Ql _ _ _ zsd zsd zsd zsd)); (focus exact rfl); (focus exact rfl)) | (apply Wb; (focus exact rfl); (focus first | exact rfl | decide); (focus first | exact rfl | decide); (focus first | exact n5 | exact (Qh _ _ _ zsd zsd) | exact (Qm _ _ _ zsd zsd zsd zsd) | exact (QB _ _ zsd zsd) | exact (J6 _ _ zsd zsd) | exact (Ql _ _ _ zsd zsd zsd zsd)); (focus exact rfl); (focus exact rfl); (focus first | exact rfl | decide)) | exact zlo | omega | exact zms)
        all_goals
          refine hK3 _ (us ++ [u8], k8, d) (Q0 [(3, 7200)]) ⟨fun x hxm => (by
              rcases List.mem_append.1 hxm with h1 | h1
              · exact hus x h1
              · rw [List.mem_singleton.1 h1]; exact hok8), (by simp; omega), hk8⟩ (by show d < d + 1; omega)
            (V2 [(3, 7200)] (fun p hp => ?_) (fun p hp => ?_) (vV fun j hj => ?_) (by omega) (by rw [KI]; omega) (fun a b _ _ => by simp only [Q0]; (repeat' split) <;> omega) (by simp; omega) (by omega))
          · simp only [List.mem_cons, List.not_mem_nil, or_false] at hp
            rcases hp with rfl | rfl | rfl | rfl | rfl
            · exact ⟨rfl, by show 0 < 200; omega⟩
            · exact ⟨rfl, by show 1 < 200; omega⟩
            · exact ⟨rfl, trivial⟩
            · exact ⟨rfl, by show 2 < 200; omega⟩
            · exact ⟨rfl, trivial⟩
          · simp only [List.mem_cons, List.not_mem_nil, or_false] at hp
            rcases hp with rfl | rfl | rfl | rfl
            · exact ⟨_, rfl, qV⟩
            · exact ⟨_, rfl, w6 (fun j hj => by simp only [Q0]; rw [if_neg (by omega)]) (by omega)⟩
            · exact ⟨_, rfl, id, (by show [_, _, _, V.hd 7200 0 (us.length + 1)] = [_, _, _, V.hd 7200 0 (us ++ [_]).length]; rw [List.length_append]; rfl), trivial, UA _ _ (by simp only [V.closed]), UA _ _ (by simp only [V.closed]), (by show 3 < 200; omega), trivial⟩
            · exact ⟨_, rfl, id, rfl, hbk⟩
          · have e5 : Q0 [(3, 7200)] (100 + j) = 100 + j := by simp only [Q0]; rw [if_neg (by omega)]
            rw [e5]
            iterate 5 refine (Jo _ _ (by omega)).trans ?_
            exact YS
  · refine adO (ι := List JI × Nat) (fun q => jJ 3 q.1 ∧ q.2 ≤ l.length) (fun q => aej l q.1 q.2) (fun K' hK' => ?_) (fun q hq => ?_)
    · obtain ⟨ks, k1⟩ := q
      obtain ⟨hok, hk1⟩ := hq
      dsimp only at hok hk1
      have hk4 := hok.1
      have hok3 : jJ 3 ks := ⟨hok.1, fun x hx => (let ⟨a, b, c, d, e⟩ := hok.2 x hx; ⟨a, b, c, by omega, e⟩)⟩
      have fin0 : ∀ (t0 : Nat → V) (k' n : Nat), k' ≤ l.length → t0 0 = .ptr 0 0 → t0 3 = .hd 1 0 ks.length → ∀ o : Nat → Option Ob, o 0 = some (.box true (JJ l k')) → o 1 = some (.obuf true 4 (ahn 100 ks)) → (∀ i, i < ks.length → o (100 + i) = (aaT ks)[i]?) → K' { t := t0, o := o, n := n } := fun t0 k' n hk' ht0 ht3 o ho0 ho1 hoi => by
        refine hK' _ (ks, k') (Q0 []) ⟨hok3, hk'⟩ (V2 [] (fun p hp => ?_) (fun p hp => ?_) (vV fun i hi => hoi i hi) (by omega) (by rw [KI]; show 100 + ks.length ≤ 200; omega) (fun a b _ _ h => h) (by simp) (by omega))
        · simp only [List.mem_cons, List.not_mem_nil, or_false] at hp
          rcases hp with rfl | rfl
          · exact ⟨(by simpa [St.keep, qR, V.ren, Q0] using ht0), by show 0 < 200; omega⟩
          · exact ⟨(by simpa [St.keep, qR, V.ren, Q0] using ht3), by show 1 < 200; omega⟩
        · simp only [List.mem_cons, List.not_mem_nil, or_false] at hp
          rcases hp with rfl | rfl
          · exact ⟨_, ho0, qV⟩
          · exact ⟨_, ho1, w6 (fun _ _ => rfl) (by omega)⟩
      by_cases h0 : ks.length = 0
      · have e1 : decide ((ks.length : Int) > 0) = false := by simp; exact List.length_eq_zero_iff.1 h0
        repeat' (first | refine Qb fun K' hK => ?_ | refine Qe fun K' hK => ?_ | refine Qp 8 (fun y => !decide (y = 0) && !decide (y = 2) && !decide (y = 3)) rfl (Jj _) (Ji _) fun K' hK => ?_ | refine Qq 8 (fun y => !decide (y = 0) && !decide (y = 2) && !decide (y = 3)) rfl (Jj _) (Ji _) fun K' hK => ?_ | refine Qc ?_ | refine Qd ?_ | refine Qa ?_ | ((first | refine Qg ⟨_, rfl, fun hc => ?_, fun hc => ?_⟩ | refine QL (fun hc => ?_) (fun hc => ?_) | refine QM (fun hc => ?_) (fun hc => ?_)) <;> first | exact Bool.noConfusion hc | ((try simp only [znz] at hc); first | exact znf | skip)) | refine Qi ?_ | refine Qf ?_ | simp (maxSteps := 1000000) only [go_sem, Nat.reduceAdd, Nat.reduceMul, Nat.reduceEqDiff, Nat.reduceLeDiff, Nat.reduceLT, Nat.reduceSub, Int.reduceEq, Int.reduceBEq, Int.reduceLT, Int.reduceLE, Int.reduceAdd, Int.reduceToNat, reduceIte, reduceCtorEq, aej, UL, Wn, e1, JV] | (refine hK _ ?_; clear hK; clear K') | refine And.intro ?_ ?_ | (apply XS; (focus exact rfl); (focus first | exact (Qh _ _ _ zsd zsd) | exact (Qm _ _ _ zsd zsd zsd zsd) | exact (QB _ _ zsd zsd) | exact (J6 _ _ zsd zsd) | exact (Ql _ _ _ zsd zsd zsd zsd)); (focus exact rfl); (focus exact rfl)) | (apply Wb; (focus exact rfl); (focus first | exact rfl | decide); (focus first | exact rfl | decide); (focus first | exact (Qh _ _ _ zsd zsd) | exact (Qm _ _ _ zsd zsd zsd zsd) | exact (QB _ _ zsd zsd) | exact (J6 _ _ zsd zsd) | exact (Ql _ _ _ zsd zsd zsd zsd)); (focus exact rfl); (focus exact rfl); (focus first | exact rfl | decide)) | exact zlo | omega | exact zms)
        all_goals
          refine fin0 _ k1 _ hk1 ?_ ?_ _ ?_ ?_ (fun i hi => ?_)
          · rfl
          · rfl
          · rfl
          · rfl
          · exact YS
      · have e1 : decide ((ks.length : Int) > 0) = true := decide_eq_true (by omega)
        have n1 := Ql l k1 8 hl hk1 (by omega) (by omega)
        have hk2 := XW (l := l) (k := k1) (n := 8) hk1
        generalize J2 l k1 8 = w at *
        obtain ⟨x, k2⟩ := w
        simp only [JJ] at n1 hk2 ⊢
        cases hx : (x == 8 - 1)
        · rw [hx] at n1
          repeat' (first | refine Qb fun K' hK => ?_ | refine Qe fun K' hK => ?_ | refine Qp 8 (fun y => !decide (y = 0) && !decide (y = 2) && !decide (y = 3)) rfl (Jj _) (Ji _) fun K' hK => ?_ | refine Qq 8 (fun y => !decide (y = 0) && !decide (y = 2) && !decide (y = 3)) rfl (Jj _) (Ji _) fun K' hK => ?_ | refine Qc ?_ | refine Qd ?_ | refine Qa ?_ | ((first | refine Qg ⟨_, rfl, fun hc => ?_, fun hc => ?_⟩ | refine QL (fun hc => ?_) (fun hc => ?_) | refine QM (fun hc => ?_) (fun hc => ?_)) <;> first | exact Bool.noConfusion hc | ((try simp only [znz] at hc); first | exact znf | skip)) | refine Qi ?_ | refine Qf ?_ | simp (maxSteps := 1000000) only [go_sem, Nat.reduceAdd, Nat.reduceMul, Nat.reduceEqDiff, Nat.reduceLeDiff, Nat.reduceLT, Nat.reduceSub, Int.reduceEq, Int.reduceBEq, Int.reduceLT, Int.reduceLE, Int.reduceAdd, Int.reduceToNat, reduceIte, reduceCtorEq, aej, UL, Wn, e1, JJ, JV] | (refine hK _ ?_; clear hK; clear K') | refine And.intro ?_ ?_ | (apply XS; (focus exact rfl); (focus first | exact n1 | exact (Qh _ _ _ zsd zsd) | exact (Qm _ _ _ zsd zsd zsd zsd) | exact (QB _ _ zsd zsd) | exact (J6 _ _ zsd zsd) | exact (Ql _ _ _ zsd zsd zsd zsd)); (focus exact rfl); (focus exact rfl)) | (apply Wb; (focus exact rfl); (focus first | exact rfl | decide); (focus first | exact rfl | decide); (focus first | exact n1 | exact (Qh _ _ _ zsd zsd) | exact (Qm _ _ _ zsd zsd zsd zsd) | exact (QB _ _ zsd zsd) | exact (J6 _ _ zsd zsd) | exact (Ql _ _ _ zsd zsd zsd zsd)); (focus exact rfl); (focus exact rfl); (focus first | exact rfl | decide)) | exact zlo | omega | exact zms)
          all_goals
            refine fin0 _ k2 _ hk2 ?_ ?_ _ ?_ ?_ (fun i hi => ?_)
            · rfl
            · rfl
            · rfl
            · rfl
            · exact (Jo _ _ (by omega)).trans YS
        · rw [hx] at n1
          obtain ⟨x0, hx0⟩ : ∃ x0, ks[0]? = some x0 := ⟨ks[0]'(by omega), List.getElem?_eq_getElem (by omega)⟩
          have hxo := hok.2 x0 (List.mem_of_getElem? hx0)
          have hxu : x0.uses.length ≤ 2 := hxo.2.2.2.1
          have he : (ahn 100 ks)[0]? = some (.agg [V.str x0.name, .sl 1 (x0.lo.map V.int), .sl 1 (x0.up.map V.int), .hd (100 + 0) 0 x0.uses.length]) := by rw [xr, hx0]; rfl
          have hu0 : ahG [(0, Ob.box true [V.sl 1 (l.map V.int), V.int k1]), (1, Ob.obuf true 4 (ahn 100 ks))] 100 (aaT ks) (100 + 0) = some (.buf true 2 (x0.uses.map usV)) := by rw [YS, aaT, List.getElem?_map, hx0]; rfl
          simp only [Nat.add_zero] at he hu0
          repeat' (first | refine Qb fun K' hK => ?_ | refine Qe fun K' hK => ?_ | refine Qp 8 (fun y => !decide (y = 0) && !decide (y = 2) && !decide (y = 3)) rfl (Jj _) (Ji _) fun K' hK => ?_ | refine Qq 8 (fun y => !decide (y = 0) && !decide (y = 2) && !decide (y = 3)) rfl (Jj _) (Ji _) fun K' hK => ?_ | refine Qc ?_ | refine Qd ?_ | refine Qa ?_ | ((first | refine Qg ⟨_, rfl, fun hc => ?_, fun hc => ?_⟩ | refine QL (fun hc => ?_) (fun hc => ?_) | refine QM (fun hc => ?_) (fun hc => ?_)) <;> first | exact Bool.noConfusion hc | ((try simp only [znz] at hc); first | exact znf | skip)) | refine Qi ?_ | refine Qf ?_ | simp (maxSteps := 1000000) only [go_sem, Nat.reduceAdd, Nat.reduceMul, Nat.reduceEqDiff, Nat.reduceLeDiff, Nat.reduceLT, Nat.reduceSub, Int.reduceEq, Int.reduceBEq, Int.reduceLT, Int.reduceLE, Int.reduceAdd, Int.reduceToNat, reduceIte, reduceCtorEq, aej, UL, Wn, e1, JJ, he, hu0, JV] | (refine hK _ ?_; clear hK; clear K') | refine And.intro ?_ ?_ | (apply XS; (focus exact rfl); (focus first | exact n1 | exact (Qh _ _ _ zsd zsd) | exact (Qm _ _ _ zsd zsd zsd zsd) | exact (QB _ _ zsd zsd) | exact (J6 _ _ zsd zsd) | exact (Ql _ _ _ zsd zsd zsd zsd)); (focus exact rfl); (focus exact rfl)) | (apply Wb; (focus exact rfl); (focus first | exact rfl | decide); (focus first | exact rfl | decide); (focus first | exact n1 | exact (Qh _ _ _ zsd zsd) | exact (Qm _ _ _ zsd zsd zsd zsd) | exact (QB _ _ zsd zsd) | exact (J6 _ _ zsd zsd) | exact (Ql _ _ _ zsd zsd zsd zsd)); (focus exact rfl); (focus exact rfl); (focus first | exact rfl | decide)) | exact zlo | omega | exact zms)
          all_goals
            have ht : ∀ a, a ≠ 100 → Q0 [(100, 14200)] a = a := fun a h1 => by simp only [Q0]; rw [if_neg (by omega)]
            have ht0 : Q0 [(100, 14200)] 100 = 14200 := by simp [Q0]
            refine hK' _ (ks.set 0 ⟨x0.name, x0.lo, x0.up, x0.uses ++ [(99, 0)]⟩, k2) (Q0 [(100, 14200)]) ⟨⟨by simpa using hok.1, fun x hx => ?_⟩, hk2⟩
              (V2 [(100, 14200)] (fun p hp => ?_) (fun p hp => ?_) (vV fun j hj => ?_) (by omega) (by rw [KI, List.length_set]; omega) (fun a b _ _ => by simp only [Q0]; (repeat' split) <;> omega) (by simp; omega) (by omega))
            · rcases List.mem_or_eq_of_mem_set hx with h2 | h2
              · exact hok3.2 x h2
              · rw [h2]
                refine ⟨hxo.1, hxo.2.1, hxo.2.2.1, (by show (x0.uses ++ [_]).length ≤ 3; simp; omega), fun u hu => ?_⟩
                rcases List.mem_append.1 hu with h3 | h3
                · exact hxo.2.2.2.2 u h3
                · rw [List.mem_singleton.1 h3]; exact ⟨by decide, by decide⟩
            · simp only [List.mem_cons, List.not_mem_nil, or_false] at hp
              rcases hp with rfl | rfl
              · refine ⟨?_, (by show 0 < 200; omega)⟩
                show V.ptr 0 0 = V.ptr (Q0 _ 0) 0; rw [ht 0 (by omega)]
              · refine ⟨?_, (by show 1 < 200; omega)⟩
                show V.hd 1 0 ks.length = V.hd (Q0 _ 1) 0 (ks.set 0 _).length; rw [ht 1 (by omega), List.length_set]
            · simp only [List.mem_cons, List.not_mem_nil, or_false] at hp
              rcases hp with rfl | rfl
              · refine ⟨_, ?_, qV (l := l) (k := k2)⟩
                simp only [ht 0 (by omega)]; rfl
              · refine ⟨.obuf true 4 ((ahn 100 ks).set 0 (.agg [V.str x0.name, .sl 1 (x0.lo.map V.int), .sl 1 (x0.up.map V.int), .hd 14200 0 (x0.uses.length + 1)])), (by simp only [ht 1 (by omega)]; rfl), id, rfl, ?_, adr afg _ _ _ (by rw [List.length_set]; omega)⟩
                rcases ks with _ | ⟨y, r⟩
                · exact absurd rfl h0
                · simp only [List.getElem?_cons_zero, Option.some.injEq] at hx0
                  subst hx0
                  simp only [ahn, adR, List.set_cons_zero, KF, abt, ht0]
                  rw [abr abt r (100 + 1) (fun i hi => ht _ (by omega))]
                  simp only [JI.own, List.length_append, List.length_singleton]
            · rw [List.length_set] at hj
              rcases Nat.eq_zero_or_pos j with rfl | hj0
              · rw [Nat.add_zero, ht0]
                have e6 : (aaT (ks.set 0 ⟨x0.name, x0.lo, x0.up, x0.uses ++ [(99, 0)]⟩))[0]? = some (.buf true 2 ((x0.uses ++ [((99, 0) : PU)]).map usV)) := by
                  rw [aaT, List.getElem?_map, List.getElem?_set, if_pos rfl, if_pos hj]; rfl
                rw [e6, List.map_append]
                simp only [St.keep]
                rw [Jo _ _ (show (14200 : Nat) ≠ 1 by omega), QP, List.take_of_length_le (by simp)]; rfl
              · rw [ht (100 + j) (by omega)]
                iterate 5 refine (Jo _ _ (by omega)).trans ?_
                refine YS.trans ?_
                rw [aaT, aaT, List.getElem?_map, List.getElem?_map, List.getElem?_set, if_neg (by omega)]
    · obtain ⟨ks, k1⟩ := q
      obtain ⟨hok, hk1⟩ := hq
      dsimp only at hok hk1
      have hk4 := hok.1
      by_cases h0 : ks.length = 0
      · have e1 : decide ((ks.length : Int) > 0) = false := by simp; exact List.length_eq_zero_iff.1 h0
        repeat' (first | refine Qb fun K' hK => ?_ | refine Qe fun K' hK => ?_ | refine Qp 8 (fun y => !decide (y = 0) && !decide (y = 2) && !decide (y = 3)) rfl (Jj _) (Ji _) fun K' hK => ?_ | refine Qq 8 (fun y => !decide (y = 0) && !decide (y = 2) && !decide (y = 3)) rfl (Jj _) (Ji _) fun K' hK => ?_ | refine Qc ?_ | refine Qd ?_ | refine Qa ?_ | ((first | refine Qg ⟨_, rfl, fun hc => ?_, fun hc => ?_⟩ | refine QL (fun hc => ?_) (fun hc => ?_) | refine QM (fun hc => ?_) (fun hc => ?_)) <;> first | exact Bool.noConfusion hc | ((try simp only [znz] at hc); first | exact znf | skip)) | refine Qi ?_ | refine Qf ?_ | simp (maxSteps := 1000000) only [go_sem, Nat.reduceAdd, Nat.reduceMul, Nat.reduceEqDiff, Nat.reduceLeDiff, Nat.reduceLT, Nat.reduceSub, Int.reduceEq, Int.reduceBEq, Int.reduceLT, Int.reduceLE, Int.reduceAdd, Int.reduceToNat, reduceIte, reduceCtorEq, aej, UL, Wn, e1, JV] | (refine hK _ ?_; clear hK; clear K') | refine And.intro ?_ ?_ | (apply XS; (focus exact rfl); (focus first | exact (Qh _ _ _ zsd zsd) | exact (Qm _ _ _ zsd zsd zsd zsd) | exact (QB _ _ zsd zsd) | exact (J6 _ _ zsd zsd) | exact (Ql _ _ _ zsd zsd zsd zsd)); (focus exact rfl); (focus exact rfl)) | (apply Wb; (focus exact rfl); (focus first | exact rfl | decide); (focus first | exact rfl | decide); (focus first | exact (Qh _ _ _ zsd zsd) | exact (Qm _ _ _ zsd zsd zsd zsd) | exact (QB _ _ zsd zsd) | exact (J6 _ _ zsd zsd) | exact (Ql _ _ _ zsd zsd zsd zsd)); (focus exact rfl); (focus exact rfl); (focus first | exact rfl | decide)) | exact zlo | omega | exact zms)
        all_goals
          refine ⟨_, Le.refl _, aft ks k1 _ rfl rfl hk1 hok (Jx _ _) (aan rfl (KM _ _ _) fun i p hp => ?_)⟩
          exact ⟨.sl 1 (p.lo.map V.int), 100 + i, by rw [xr, hp]; rfl, by simp [conv], by omega, YS.trans (by rw [aaT, List.getElem?_map, hp]; rfl)⟩
      · have e1 : decide ((ks.length : Int) > 0) = true := decide_eq_true (by omega)
        have ew : IntKind.i64.wrap ((ks.length : Int) - 1) = ((ks.length - 1 : Nat) : Int) := by rw [Wl (by omega) (by omega)]; omega
        have n1 := Ql l k1 8 hl hk1 (by omega) (by omega)
        have hk2 := XW (l := l) (k := k1) (n := 8) hk1
        generalize J2 l k1 8 = w at *
        obtain ⟨x, k2⟩ := w
        simp only [JJ] at n1 hk2 ⊢
        cases hx : (x == 8 - 1)
        · rw [hx] at n1
          repeat' (first | refine Qb fun K' hK => ?_ | refine Qe fun K' hK => ?_ | refine Qp 8 (fun y => !decide (y = 0) && !decide (y = 2) && !decide (y = 3)) rfl (Jj _) (Ji _) fun K' hK => ?_ | refine Qq 8 (fun y => !decide (y = 0) && !decide (y = 2) && !decide (y = 3)) rfl (Jj _) (Ji _) fun K' hK => ?_ | refine Qc ?_ | refine Qd ?_ | refine Qa ?_ | ((first | refine Qg ⟨_, rfl, fun hc => ?_, fun hc => ?_⟩ | refine QL (fun hc => ?_) (fun hc => ?_) | refine QM (fun hc => ?_) (fun hc => ?_)) <;> first | exact Bool.noConfusion hc | ((try simp only [znz] at hc); first | exact znf | skip)) | refine Qi ?_ | refine Qf ?_ | simp (maxSteps := 1000000) only [go_sem, Nat.reduceAdd, Nat.reduceMul, Nat.reduceEqDiff, Nat.reduceLeDiff, Nat.reduceLT, Nat.reduceSub, Int.reduceEq, Int.reduceBEq, Int.reduceLT, Int.reduceLE, Int.reduceAdd, Int.reduceToNat, reduceIte, reduceCtorEq, aej, UL, Wn, e1, JJ, JV] | (refine hK _ ?_; clear hK; clear K') | refine And.intro ?_ ?_ | (apply XS; (focus exact rfl); (focus first | exact n1 | exact (Qh _ _ _ zsd zsd) | exact (Qm _ _ _ zsd zsd zsd zsd) | exact (QB _ _ zsd zsd) | exact (J6 _ _ zsd zsd) | exact (Ql _ _ _ zsd zsd zsd zsd)); (focus exact rfl); (focus exact rfl)) | (apply Wb; (focus exact rfl); (focus first | exact rfl | decide); (focus first | exact rfl | decide); (focus first | exact n1 | exact (Qh _ _ _ zsd zsd) | exact (Qm _ _ _ zsd zsd zsd zsd) | exact (QB _ _ zsd zsd) | exact (J6 _ _ zsd zsd) | exact (Ql _ _ _ zsd zsd zsd zsd)); (focus exact rfl); (focus exact rfl); (focus first | exact rfl | decide)) | exact zlo | omega | exact zms)
          all_goals
            refine ⟨_, Le.refl _, aft ks k2 _ rfl rfl hk2 hok (Jx _ _) (aan rfl (KM _ _ _) fun i p hp => ?_)⟩
            exact ⟨.sl 1 (p.lo.map V.int), 100 + i, by rw [xr, hp]; rfl, by simp [conv], by omega, (Jo _ _ (by omega)).trans (YS.trans (by rw [aaT, List.getElem?_map, hp]; rfl))⟩
        · rw [hx] at n1
          obtain ⟨x0, hx0⟩ : ∃ x0, ks[ks.length - 1]? = some x0 := ⟨ks[ks.length - 1]'(by omega), List.getElem?_eq_getElem (by omega)⟩
          have hxo := hok.2 x0 (List.mem_of_getElem? hx0)
          have he : (ahn 100 ks)[ks.length - 1]? = some (.agg [V.str x0.name, .sl 1 (x0.lo.map V.int), .sl 1 (x0.up.map V.int), .hd (100 + (ks.length - 1)) 0 x0.uses.length]) := by rw [xr, hx0]; rfl
          repeat' (first | refine Qb fun K' hK => ?_ | refine Qe fun K' hK => ?_ | refine Qp 8 (fun y => !decide (y = 0) && !decide (y = 2) && !decide (y = 3)) rfl (Jj _) (Ji _) fun K' hK => ?_ | refine Qq 8 (fun y => !decide (y = 0) && !decide (y = 2) && !decide (y = 3)) rfl (Jj _) (Ji _) fun K' hK => ?_ | refine Qc ?_ | refine Qd ?_ | refine Qa ?_ | ((first | refine Qg ⟨_, rfl, fun hc => ?_, fun hc => ?_⟩ | refine QL (fun hc => ?_) (fun hc => ?_) | refine QM (fun hc => ?_) (fun hc => ?_)) <;> first | exact Bool.noConfusion hc | ((try simp only [znz] at hc); first | exact znf | skip)) | refine Qi ?_ | refine Qf ?_ | simp (maxSteps := 1000000) only [go_sem, Nat.reduceAdd, Nat.reduceMul, Nat.reduceEqDiff, Nat.reduceLeDiff, Nat.reduceLT, Nat.reduceSub, Int.reduceEq, Int.reduceBEq, Int.reduceLT, Int.reduceLE, Int.reduceAdd, Int.reduceToNat, reduceIte, reduceCtorEq, aej, UL, Wn, e1, ew, Int.toNat_natCast, JJ, he, JV] | (refine hK _ ?_; clear hK; clear K') | refine And.intro ?_ ?_ | (apply XS; (focus exact rfl); (focus first | exact n1 | exact (Qh _ _ _ zsd zsd) | exact (Qm _ _ _ zsd zsd zsd zsd) | exact (QB _ _ zsd zsd) | exact (J6 _ _ zsd zsd) | exact (Ql _ _ _ zsd zsd zsd zsd)); (focus exact rfl); (focus exact rfl)) | (apply Wb; (focus exact rfl); (focus first | exact rfl | decide); (focus first | exact rfl | decide); (focus first | exact n1 | exact (Qh _ _ _ zsd zsd) | exact (Qm _ _ _ zsd zsd zsd zsd) | exact (QB _ _ zsd zsd) | exact (J6 _ _ zsd zsd) | exact (Ql _ _ _ zsd zsd zsd zsd)); (focus exact rfl); (focus exact rfl); (focus first | exact rfl | decide)) | exact zlo | omega | exact zms)
          all_goals
            have hkn : jJ 3 (ks.set (ks.length - 1) ⟨x0.name, [-3], x0.up, x0.uses⟩) := ⟨by rw [List.length_set]; exact hok.1, fun y hy => by
              rcases List.mem_or_eq_of_mem_set hy with h2 | h2
              · exact hok.2 y h2
              · rw [h2]; exact ⟨hxo.1, by simp, hxo.2.2.1, hxo.2.2.2⟩⟩
            have hconv := fun (o : Nat → Option Ob) xs h1 h2 h3 => aan (o := o) (xs := xs) (ks := ks.set (ks.length - 1) ⟨x0.name, [-3], x0.up, x0.uses⟩) h1 h2 h3
            rw [List.length_set] at hconv
            refine ⟨_, Le.refl _, aft (ks.set (ks.length - 1) ⟨x0.name, [-3], x0.up, x0.uses⟩) k2 _ rfl rfl hk2 hkn (Jx _ _) (hconv _ _ rfl (by rw [List.length_set, KM]) fun i p hp => ?_)⟩
            rw [List.getElem?_set] at hp
            split at hp
            · rename_i e
              subst e
              rw [if_pos (by omega)] at hp
              cases hp
              refine ⟨.hd 11200 0 1, 100 + (ks.length - 1), by rw [List.getElem?_set, if_pos rfl, if_pos (by rw [KM]; omega)], ?_, by omega, ?_⟩
              · rw [ag3]
                exact ⟨trivial, by simp, .inl ⟨true, _, rfl, rfl⟩⟩
              · iterate 3 refine (Jo _ _ (by omega)).trans ?_
                exact YS.trans (by rw [aaT, List.getElem?_map, hx0]; rfl)
            · rename_i e
              have hi4 := (List.getElem?_eq_some_iff.1 hp).1
              refine ⟨.sl 1 (p.lo.map V.int), 100 + i, by rw [List.getElem?_set, if_neg e, xr, hp]; rfl, by simp [conv], by omega, ?_⟩
              iterate 3 refine (Jo _ _ (by omega)).trans ?_
              exact YS.trans (by rw [aaT, List.getElem?_map, hp]; rfl)
end Av
end
section
set_option linter.unusedSimpArgs false
set_option linter.unusedVariables false
set_option maxRecDepth 10000
set_option maxHeartbeats 4000000
namespace Av
open Go
attribute [local irreducible] AWp Wz WQ W4 awS awC V1 awQ Ue Jc YR VY awR YY awB okR Wt ris
def abO (ps : List QK) : V := .sl 3 (ps.map QK.v)
theorem adp (ps : List QK) : (abO ps).closed := by simp only [abO, V.closed]
theorem alQ {Γ : Env} {f : FuncId} {l : List Int} {k : Nat} (h : EvP Γ f [.ptr 0 0] [.box true (JJ l k)] (aid l)) : EvK Γ f [] (JJ l k) (alX (JJ l) l.length xR abO) := by
  refine ⟨h.shut ?_, Jx _ _, fun r cs2 ⟨ps, k', _, _, h1, h2⟩ => by subst h1; subst h2; exact ⟨adp _, Jx _ _⟩⟩
  rintro _ _ ⟨ps, k', hok, hk', rfl, rfl⟩
  refine ⟨abO ps, [.box true (JJ l k')], [0], none, ⟨JJ l k', rfl, ps, k', hk', hok, rfl, rfl⟩, ?_, ⟨⟨_, rfl, fun h => h, Yi _ _ _ _ (Jx _ _)⟩, trivial⟩, by simp, rfl⟩
  rw [abO, ag3]
  refine ⟨trivial, by simp, .inr ⟨true, w5 2 ps, rfl, ?_, afY ps, vJ ps⟩⟩
  rw [List.drop_zero, List.take_of_length_le (by rw [Vc]; omega)]
  refine ab7 _ _ (by rw [Vc, List.length_map]) fun i x y h3 h4 => ?_
  rw [List.getElem?_map] at h4
  rw [j8] at h3
  simp only [Option.map_eq_some_iff] at h3 h4
  obtain ⟨p, hp, rfl⟩ := h3
  obtain ⟨q, hq, rfl⟩ := h4
  rw [hp] at hq; cases hq
  refine ⟨by simp [conv], by simp [conv], ?_, trivial⟩
  rw [ag3]
  refine ⟨trivial, by simp, .inl ⟨true, p.needs.map Yk.v, ?_, by rw [List.drop_zero, List.take_of_length_le (by simp)]⟩⟩
  rw [show 2 + i = i + 1 + 1 by omega, List.getElem?_cons_succ, List.getElem?_cons_succ, Us, List.getElem?_map, hp]; rfl
theorem aaY {l : List QK} (h : Uk l = 0) : Wd l = false := (ahd h).2
theorem abD : ∀ (l : List QK), Wd l = false → l.Pairwise fun a b => Op.bytesLess a.name b.name = true
  | [], _ => .nil
  | a :: l, h => .cons (ad1 l a h) (abD l (aeZ h))
theorem acM {l : List QK} (h : Wd l = false) {i j : Nat} {p q : QK} (hp : l[i]? = some p) (hq : l[j]? = some q) (e : p.name = q.name) : i = j := by
  have h1 := List.pairwise_iff_getElem.1 (abD l h)
  obtain ⟨hi, rfl⟩ := List.getElem?_eq_some_iff.1 hp
  obtain ⟨hj, rfl⟩ := List.getElem?_eq_some_iff.1 hq
  rcases Nat.lt_trichotomy i j with h2 | h2 | h2
  · have := h1 i j hi hj h2
    rw [e, adv] at this; cases this
  · exact h2
  · have := h1 j i hj hi h2
    rw [e, adv] at this; cases this
theorem adj {l : List QK} {i : Nat} {p : QK} (hc : Uk l = 0) (hp : l[i]? = some p) : Kb l p.name = ((i : Int), 0) := by
  have h1 : l.any (fun q => q.name == p.name) = true := List.any_eq_true.2 ⟨p, List.mem_of_getElem? hp, by simp⟩
  rw [← xy _ l 0] at h1
  obtain ⟨j, x, e, hj, hx⟩ := adA (fun q : QK => q.name == p.name) l 0 (of_decide_eq_true h1)
  have e2 : jX l p.name = (j : Int) := by rw [jX, e]; simp
  have e3 : i = j := acM (aaY hc) hp hj (Eq.symm (by simpa using hx))
  unfold Kb
  rw [if_neg (by simp [hc]), if_neg (by omega), e2, e3]
theorem xq {l : List QK} {a : Nat} {s : List UInt8} : s ∈ qK l a ↔ ∃ (k : Nat) (p : QK), l[k]? = some p ∧ Rch l a k ∧ p.name = s := by
  rw [qK, List.mem_map]
  constructor
  · rintro ⟨i, hi, rfl⟩
    obtain ⟨k, rfl, hk, hr⟩ := U3.1 hi
    exact ⟨k, l[k], List.getElem?_eq_getElem hk, hr, (xu (List.getElem?_eq_getElem hk)).symm⟩
  · rintro ⟨k, p, hp, hr, rfl⟩
    obtain ⟨hk, _⟩ := List.getElem?_eq_some_iff.1 hp
    exact ⟨k, U3.2 ⟨k, rfl, hk, hr⟩, xu hp⟩
theorem ae6 {l : List QK} {i : Nat} {p : QK} (hp : l[i]? = some p) : p.name ∈ qK l i := xq.2 ⟨i, p, hp, .refl, rfl⟩
theorem agD {l : List QK} {i j : Nat} (h : Rch l i j) {s : List UInt8} (hs : s ∈ qK l j) : s ∈ qK l i := by
  obtain ⟨k, p, hp, hr, e⟩ := xq.1 hs
  exact xq.2 ⟨k, p, hp, h.trans hr, e⟩
theorem aiF {l : List QK} {ks : List JI} {i j : Nat} (h : Rch l i j) {u : PU} (hu : u ∈ abm l ks j) : u ∈ abm l ks i := by
  unfold abm at hu ⊢
  rw [List.mem_flatMap] at hu ⊢
  obtain ⟨x, hx, h1⟩ := hu
  obtain ⟨k, rfl, hk, hr⟩ := U3.1 hx
  exact ⟨k, U3.2 ⟨k, rfl, hk, h.trans hr⟩, h1⟩
theorem alc (x y : PU) (h : eqU x y = true) : x = y := by
  unfold eqU at h
  simp only [Bool.and_eq_true, beq_iff_eq] at h
  exact Prod.ext h.1 h.2
theorem adV {l : List QK} {ks : List JI} {a : Nat} {u : PU} : u ∈ adW l ks a ↔ u ∈ abm l ks a := by
  rw [adW, ait alc, vm]
theorem ahv {l : List QK} {ks : List JI} {i j : Nat} (h : Rch l i j) {u : PU} (hu : u ∈ adW l ks j) : u ∈ adW l ks i := adV.2 (aiF h (adV.1 hu))
theorem ajW {α β : Type} (f g : α → List β) : ∀ R : List α, (R.flatMap fun i => f i ++ g i).length = (R.flatMap f).length + (R.flatMap g).length
  | [] => rfl
  | x :: r => by simp only [List.flatMap_cons, List.length_append, ajW f g r]; omega
theorem aeJ {l : List QK} {x : JI} : ∀ R : List Int, R.Pairwise (fun i j => aee l i ≠ aee l j) → (R.flatMap fun i => adL l i x).length ≤ x.uses.length
  | [], _ => by simp
  | i :: r, h => by
    obtain ⟨h1, h2⟩ := List.pairwise_cons.1 h
    have ih := aeJ (x := x) r h2
    simp only [List.flatMap_cons, List.length_append]
    by_cases hf : agZ l i x = true
    · have hz : (r.flatMap fun i => adL l i x) = [] := by
        rw [List.flatMap_eq_nil_iff]
        intro j hj
        have hn : x.name = aee l i := by unfold agZ at hf; simp only [Bool.and_eq_true, beq_iff_eq] at hf; exact hf.1
        have : agZ l j x = false := by
          unfold agZ
          rw [beq_eq_false_iff_ne.2 (by rw [hn]; exact h1 j hj)]; rfl
        unfold adL; rw [this]; rfl
      rw [hz]; unfold adL; rw [if_pos hf]; simp
    · have : adL l i x = [] := by unfold adL; rw [if_neg hf]
      rw [this]; simpa using ih
theorem aiE {l : List QK} {R : List Int} (hR : R.Pairwise (fun i j => aee l i ≠ aee l j)) : ∀ ks : List JI, (R.flatMap (aiG l ks)).length ≤ (ks.map fun x => x.uses.length).sum
  | [] => by
    have : R.flatMap (aiG l []) = [] := by rw [List.flatMap_eq_nil_iff]; intro i _; rfl
    rw [this]; simp
  | x :: ks => by
    have e : aiG l (x :: ks) = fun i => adL l i x ++ aiG l ks i := by funext i; rfl
    rw [e, ajW]
    have := aeJ (x := x) R hR
    have := aiE hR ks
    simp only [List.map_cons, List.sum_cons]; omega
theorem ajJ {n : Nat} : ∀ ks : List JI, (∀ x ∈ ks, x.uses.length ≤ n) → (ks.map fun x => x.uses.length).sum ≤ n * ks.length
  | [], _ => by simp
  | x :: r, h => by
    have h1 := h x (by simp)
    have h2 := ajJ r fun y hy => h y (by simp [hy])
    simp only [List.map_cons, List.sum_cons, List.length_cons, Nat.mul_succ]; omega
theorem ad9 {l : List QK} (h : Uk l = 0) (a : Nat) : (qP l a).Pairwise (fun i j => aee l i ≠ aee l j) := by
  refine List.Pairwise.imp_of_mem ?_ wY
  intro i j hi hj hij e
  obtain ⟨i, rfl, h1, _⟩ := U3.1 hi
  obtain ⟨j, rfl, h2, _⟩ := U3.1 hj
  rw [xu (List.getElem?_eq_getElem h1), xu (List.getElem?_eq_getElem h2)] at e
  have := acM (aaY h) (List.getElem?_eq_getElem h1) (List.getElem?_eq_getElem h2) e
  omega
theorem aaH {l : List QK} {ks : List JI} (hk : jJ 3 ks) (a : Nat) (h : Uk l = 0) : (abm l ks a).length ≤ 12 := by
  have h1 := aiE (ad9 h a) ks
  have h2 := ajJ (n := 3) ks fun x hx => (hk.2 x hx).2.2.2.1
  have h3 := hk.1
  unfold abm; omega
theorem ajl {ks : List JI} (hk : jJ 3 ks) : KSz ks := ⟨by have := hk.1; omega, fun x hx => by
  obtain ⟨_, h2, h3, h4, h5⟩ := hk.2 x hx
  exact ⟨by omega, by omega, by omega, h5⟩⟩
end Av
end
section
set_option linter.unusedSimpArgs false
set_option linter.unusedVariables false
set_option maxRecDepth 10000
set_option maxHeartbeats 4000000
namespace Av
open Go
attribute [local irreducible] AWp Wz WQ W4 awS awC V1 awQ Ue Jc YR VY awR YY awB okR Wt ris
noncomputable def adX (ks : List JI) : Int := if alq ks then 22 else if alr ks then 7 else 0
noncomputable def acn (ps : List QK) (ks : List JI) (i : Nat) : List PU := if adX ks = 0 then adW ps ks i else []
theorem acO {l : List QK} {i : Nat} {p : QK} (hc : Uk l = 0) (hp : l[i]? = some p) : aad l p.name = .tup [.sl 1 ((qK l i).map V.str), V.int 0] := by
  unfold aad; rw [adj hc hp, if_pos rfl, Int.toNat_natCast]
theorem afJ {l : List QK} {ks : List JI} {i : Nat} {p : QK} (hc : Uk l = 0) (hp : l[i]? = some p) : agu l ks p.name = .tup [.sl 2 ((acn l ks i).map usV), V.int (adX ks)] := by
  have e : adY l ks p.name = adX ks := by unfold adY adX; rw [adj hc hp]; simp
  unfold agu aj5; rw [e, adj hc hp, Int.toNat_natCast]; rfl
theorem ahu {l : List QK} {ks : List JI} {i j : Nat} (h : Rch l i j) {u : PU} (hu : u ∈ acn l ks j) : (acn l ks i).any (fun x => x.1 == u.1 && x.2 == u.2) = true := by
  unfold acn at hu ⊢
  split at hu
  · rename_i e
    rw [if_pos e]
    exact List.any_eq_true.2 ⟨u, ahv h hu, by simp⟩
  · cases hu
theorem af8 {α : Type} (eq : α → α → Bool) : ∀ (r : List α) (x : α), (wo eq x r).length ≤ r.length
  | [], _ => by simp [wo]
  | y :: r, x => by
    have ih := af8 eq r y
    rw [wo]
    split
    · simp only [List.length_cons]; omega
    · simp only [List.length_cons]; omega
theorem ajr {α : Type} (eq : α → α → Bool) (l : List α) : (wq eq l).length ≤ l.length := by
  cases l with
  | nil => simp [wq]
  | cons x r => have := af8 eq r x; simp only [wq, List.length_cons]; omega
theorem adU {ps : List QK} {ks : List JI} (hk : jJ 3 ks) (h : Uk ps = 0) (i : Nat) : (acn ps ks i).length ≤ 12 := by
  have h1 := aaH hk i h
  unfold acn
  split
  · have h2 := ajr eqU (Vr ltU (abm ps ks i))
    rw [qT] at h2
    unfold adW; omega
  · simp
theorem acP {ps : List QK} {i : Nat} : (qK ps i).length ≤ ps.length := by rw [qK, List.length_map]; exact aae
def pr1 (ps : List QK) (ks : List JI) (i : Nat) : St := Vn [(4, .sl 3 (ps.map QK.v)), (5, .sl 4 (ks.map JI.v)), (6, V.int i)] [] 0
def pr2 (ps : List QK) (ks : List JI) (i : Nat) (A : List (List UInt8)) (U : List PU) (E : Int) (m : Nat) : St := Vn [(4, .sl 3 (ps.map QK.v)), (5, .sl 4 (ks.map JI.v)), (6, V.int i), (7, .sl 1 (A.map V.str)), (9, .sl 2 (U.map usV)), (10, V.int E), (11, V.int m)] [] 0
def pr3 (ps : List QK) (ks : List JI) (i : Nat) (A : List (List UInt8)) (U : List PU) (E : Int) (m : Nat) (B : List (List UInt8)) (W : List PU) (n : Nat) : St := Vn [(4, .sl 3 (ps.map QK.v)), (5, .sl 4 (ks.map JI.v)), (6, V.int i), (7, .sl 1 (A.map V.str)), (9, .sl 2 (U.map usV)), (10, V.int E), (11, V.int m), (12, .sl 1 (B.map V.str)), (14, .sl 2 (W.map usV)), (16, V.int n)] [] 0
def pr4 (ps : List QK) (ks : List JI) (i : Nat) (A : List (List UInt8)) (U : List PU) (E : Int) (m : Nat) (W : List PU) (n : Nat) : St := Vn [(4, .sl 3 (ps.map QK.v)), (5, .sl 4 (ks.map JI.v)), (6, V.int i), (7, .sl 1 (A.map V.str)), (9, .sl 2 (U.map usV)), (10, V.int E), (11, V.int m), (14, .sl 2 (W.map usV)), (17, V.int n)] [] 0
def VX (jw V8 yl jx qf Xn Vt qk VS ym : Nat) : AC := Qr [0] (.reg [mc 2 (V.bool false)]) (Qr [0] (Qr [0, 20] (.reg [mv 18 0, cl 19 jw [18], xo 20 (.un .not (.t 19))]) (.cond (.t 20) (Qr [2] (.reg [cl 21 V8 [], mv 2 21]) (.ret)) (.skip))) (Qr [3] (.reg [mv 22 0, cl 23 yl [22], mv 3 23]) (Qr [4, 5] (.reg [mv 24 3, cl 25 jx [24], mv 26 3, cl 27 qf [26], mv 4 25, mv 5 27]) (Qr [4, 5] (Qr [4, 5, 30] (.reg [mv 28 4, cl 29 Xn [28], bc 30 .neq 29 (V.int 0)]) (.cond (.t 30) (Qr [2] (.reg [cl 31 V8 [], mv 2 31]) (.ret)) (.skip))) (Qr [] (Qr [4, 5, 6] (.reg [mc 6 (V.int 0)]) (.block 0 (W5 [4, 5, 6] (Qr [4, 5, 6] (Qr [4, 5, 6, 35] (.reg [mv 32 6, mv 33 4, ln 34 33, bn 35 .lss 32 34]) (.cond (.t 35) (.skip) (.exit 0))) (Qr [4, 5, 6] (.block 1 (Qr [4, 5, 6, 7, 8] (.reg [mv 39 4, mv 40 4, mv 41 6, ia 42 3 40 41, fa 43 0 42, ld 44 1 43, cl 45 Vt [39, 44], mv 38 45, ex 46 38 0, ex 47 38 1, mv 7 46, mv 8 47]) (Qr [4, 5, 6, 7] (Qr [4, 5, 6, 7, 59] (.reg [mv 48 8, bc 49 .neq 48 (V.int 0), mv 50 49, mg 51 7 50 false, mg 52 4 50 false, mg 53 6 50 false, xg 54 (.iaddr 3 (.t 52) (.t 53)) 50 false, xg 55 (.faddr 0 (.t 54)) 50 false, xg 56 (.load false 1 (.t 55)) 50 false, xg 57 (.call qk [(.t 51), (.t 56)]) 50 false, xg 58 (.un .not (.t 57)) 50 false, xo 59 (.pick (.t 50) (.c (V.bool true)) (.t 58))]) (.cond (.t 59) (Qr [2] (.reg [mc 2 (V.bool false)]) (.ret)) (.skip))) (Qr [4, 5, 6, 7, 9, 10] (.reg [mv 61 4, mv 62 5, mv 63 4, mv 64 6, ia 65 3 63 64, fa 66 0 65, ld 67 1 66, cl 68 VS [61, 62, 67], mv 60 68, ex 69 60 0, ex 70 60 1, mv 9 69, mv 10 70]) (Qr [4, 5, 6, 7, 9, 10, 11] (.reg [mc 11 (V.int 0)]) (.block 2 (W5 [4, 5, 6, 7, 9, 10, 11] (Qr [4, 5, 6, 7, 9, 10, 11] (Qr [4, 5, 6, 7, 9, 10, 11, 74] (.reg [mv 71 11, mv 72 7, ln 73 72, bn 74 .lss 71 73]) (.cond (.t 74) (.skip) (.exit 2))) (Qr [4, 5, 6, 7, 9, 10, 11] (.block 3 (Qr [4, 5, 6, 7, 9, 10, 11, 12, 13] (.reg [mv 78 4, mv 79 7, mv 80 11, ia 81 1 79 80, ld 82 1 81, cl 83 Vt [78, 82], mv 77 83, ex 84 77 0, ex 85 77 1, mv 12 84, mv 13 85]) (Qr [4, 5, 6, 7, 9, 10, 11, 12, 13, 14, 15] (.reg [mv 87 4, mv 88 5, mv 89 7, mv 90 11, ia 91 1 89 90, ld 92 1 91, cl 93 VS [87, 88, 92], mv 86 93, ex 94 86 0, ex 95 86 1, mv 14 94, mv 15 95]) (Qr [4, 5, 6, 7, 9, 10, 11, 12, 14] (Qr [4, 5, 6, 7, 9, 10, 11, 12, 14, 102] (.reg [mv 96 13, bc 97 .neq 96 (V.int 0), mv 98 97, mg 99 10 98 false, mg 100 15 98 false, xg 101 (.bin .neq (.t 99) (.t 100)) 98 false, xo 102 (.pick (.t 98) (.c (V.bool true)) (.t 101))]) (.cond (.t 102) (Qr [2] (.reg [mc 2 (V.bool false)]) (.ret)) (.skip))) (Qr [4, 5, 6, 7, 9, 10, 11, 14] (Qr [4, 5, 6, 7, 9, 10, 11, 12, 14, 16] (.reg [mc 16 (V.int 0)]) (.block 4 (W5 [4, 5, 6, 7, 9, 10, 11, 12, 14, 16] (Qr [4, 5, 6, 7, 9, 10, 11, 12, 14, 16] (Qr [4, 5, 6, 7, 9, 10, 11, 12, 14, 16, 106] (.reg [mv 103 16, mv 104 12, ln 105 104, bn 106 .lss 103 105]) (.cond (.t 106) (.skip) (.exit 4))) (Qr [4, 5, 6, 7, 9, 10, 11, 12, 14, 16] (.block 5 (Qr [4, 5, 6, 7, 9, 10, 11, 12, 14, 16, 115] (.reg [mv 109 7, mv 110 12, mv 111 16, ia 112 1 110 111, ld 113 1 112, cl 114 qk [109, 113], xo 115 (.un .not (.t 114))]) (.cond (.t 115) (Qr [2] (.reg [mc 2 (V.bool false)]) (.ret)) (.skip)))) (.reg [mv 107 16, bc 108 .add 107 (V.int 1), mv 16 108])))))) (Qr [4, 5, 6, 7, 9, 10, 11, 14, 17] (.reg [mc 17 (V.int 0)]) (.block 6 (W5 [4, 5, 6, 7, 9, 10, 11, 14, 17] (Qr [4, 5, 6, 7, 9, 10, 11, 14, 17] (Qr [4, 5, 6, 7, 9, 10, 11, 14, 17, 119] (.reg [mv 116 17, mv 117 14, ln 118 117, bn 119 .lss 116 118]) (.cond (.t 119) (.skip) (.exit 6))) (Qr [4, 5, 6, 7, 9, 10, 11, 14, 17] (.block 7 (Qr [4, 5, 6, 7, 9, 10, 11, 14, 17, 128] (.reg [mv 122 9, mv 123 14, mv 124 17, ia 125 2 123 124, xo 126 (.load true 2 (.t 125)), cl 127 ym [122, 126], xo 128 (.un .not (.t 127))]) (.cond (.t 128) (Qr [2] (.reg [mc 2 (V.bool false)]) (.ret)) (.skip)))) (.reg [mv 120 17, bc 121 .add 120 (V.int 1), mv 17 121]))))))))))) (.reg [mv 75 11, bc 76 .add 75 (V.int 1), mv 11 76])))))))))) (.reg [mv 36 6, bc 37 .add 36 (V.int 1), mv 6 37])))))) (Qr [2] (.reg [cl 129 V8 [], mv 2 129]) (.ret))))))) def r_law12_PackagesReach : List Wc := [.tmp 2]
def KH (Γ : Env) (f : Nat) : Prop := ∀ (l : List Int), EvN Γ f [.sl 1 (l.map V.int)] (V.bool true)
theorem yR {Γ : Env} {f jw V8 yl jx qf Xn Vt qk VS ym : Nat} (h : Has Γ.P f 130 (VX jw V8 yl jx qf Xn Vt qk VS ym) r_law12_PackagesReach) (XR : yA Γ jw) (YU : jU Γ V8) (X0 : xm Γ yl) (aeo : yC Γ jx) (YP : jk Γ qf) (Jq : Ui Γ Xn) (JO : qb Γ Vt) (Y4 : yB Γ qk) (JX : qH Γ VS) (X1 : xn Γ ym) : KH Γ f := by
  intro l
  refine QV h (by simp) (by simp only [V.closed, Qj, V.noSl, Jy, and_self, and_true, true_and]) (by simp only [V.closed, Qj, V.noSl, Jy, and_self, and_true, true_and]) fun C hC hm => ?_
  subst hC
  unfold VX
  have gA := (YU).b
  by_cases hlen : l.length ≤ 400
  case neg =>
    have e0 : decide ((l.length : Int) ≤ 400) = false := by simp; omega
    repeat' (first | refine Qb fun K' hK => ?_ | refine Qe fun K' hK => ?_ | refine Qc ?_ | refine Qd ?_ | refine Qa ?_ | ((first | refine Qg ⟨_, rfl, fun hc => ?_, fun hc => ?_⟩ | refine QL (fun hc => ?_) (fun hc => ?_) | refine QM (fun hc => ?_) (fun hc => ?_)) <;> first | exact Bool.noConfusion hc | ((try simp only [znz] at hc); first | exact znf | skip)) | refine Qi ?_ | refine Qf ?_ | simp (maxSteps := 1000000) only [go_sem, Nat.reduceAdd, Nat.reduceMul, Nat.reduceEqDiff, Nat.reduceLeDiff, Nat.reduceLT, Nat.reduceSub, Int.reduceEq, Int.reduceBEq, Int.reduceLT, Int.reduceLE, Int.reduceAdd, Int.reduceToNat, reduceIte, reduceCtorEq, e0] | (refine hK _ ?_; clear hK; clear K') | refine And.intro ?_ ?_ | (apply yJ; (focus exact rfl); (focus first | exact (YP _ _ zsd zsd)); (focus exact rfl); (focus exact rfl); (focus (first | exact rfl | exact trivial | (simp; done) | skip)); (rintro _ _ ⟨gx, gk, hgk, hgP, rfl, rfl⟩)) | (apply yI; (focus first | exact (X0 _))) | (apply QX; (focus first | exact gA | exact (XR _).b | exact EvN.b YU | exact (Jq _ zsd).b | exact (JO _ _ zsd zsd).b | exact (Y4 _ _ zsd).b | exact (JX _ _ _ zsd zsd zsd zsd).b | exact (X1 _ _ zsd).b)) | exact zlo | omega | exact zms)
    all_goals first | (refine Jb _ rfl ?_; simp only [go_sem, Nat.reduceEqDiff, Nat.reduceAdd, reduceIte, reduceCtorEq]; done) | trace_state
  have e0 : decide ((l.length : Int) ≤ 400) = true := by simp; omega
  have n1 := X0 l
  have n2 := alQ (aeo l 0 hlen (by omega))
  repeat' (first | refine Qb fun K' hK => ?_ | refine Qe fun K' hK => ?_ | refine Qc ?_ | refine Qd ?_ | refine Qa ?_ | ((first | refine Qg ⟨_, rfl, fun hc => ?_, fun hc => ?_⟩ | refine QL (fun hc => ?_) (fun hc => ?_) | refine QM (fun hc => ?_) (fun hc => ?_)) <;> first | exact Bool.noConfusion hc | ((try simp only [znz] at hc); first | exact znf | skip)) | refine Qi ?_ | refine Qf ?_ | simp (maxSteps := 1000000) only [go_sem, Nat.reduceAdd, Nat.reduceMul, Nat.reduceEqDiff, Nat.reduceLeDiff, Nat.reduceLT, Nat.reduceSub, Int.reduceEq, Int.reduceBEq, Int.reduceLT, Int.reduceLE, Int.reduceAdd, Int.reduceToNat, reduceIte, reduceCtorEq, e0, JJ] | (refine hK _ ?_; clear hK; clear K') | refine And.intro ?_ ?_ | (apply yJ; (focus exact rfl); (focus first | exact n2 | exact (YP _ _ zsd zsd)); (focus exact rfl); (focus exact rfl); (focus (first | exact rfl | exact trivial | (simp; done) | skip)); (rintro _ _ ⟨gx, gk, hgk, hgP, rfl, rfl⟩)) | (apply yI; (focus first | exact n1 | exact (X0 _))) | (apply QX; (focus first | exact gA | exact (XR _).b | exact EvN.b YU | exact (Jq _ zsd).b | exact (JO _ _ zsd zsd).b | exact (Y4 _ _ zsd).b | exact (JX _ _ _ zsd zsd zsd zsd).b | exact (X1 _ _ zsd).b)) | exact zlo | omega | exact zms)
  rename List QK => ps
  rename xR ps => hok
  rename List JI => ks
  rename jJ 3 ks => hks
  have hps := hok.1
  have hsz := aie hok
  have hkz := ajl hks
  have hC := (Jq ps hsz).b
  have hpl : (ps.map QK.v).length = ps.length := List.length_map _
  by_cases hck : Uk ps = 0
  case neg =>
    have hne : (Uk ps != 0) = true := by simpa using hck
    repeat' (first | refine Qb fun K' hK => ?_ | refine Qe fun K' hK => ?_ | refine Qc ?_ | refine Qd ?_ | refine Qa ?_ | ((first | refine Qg ⟨_, rfl, fun hc => ?_, fun hc => ?_⟩ | refine QL (fun hc => ?_) (fun hc => ?_) | refine QM (fun hc => ?_) (fun hc => ?_)) <;> first | exact Bool.noConfusion hc | ((try simp only [znz] at hc); first | exact znf | skip)) | refine Qi ?_ | refine Qf ?_ | simp (maxSteps := 1000000) only [go_sem, Nat.reduceAdd, Nat.reduceMul, Nat.reduceEqDiff, Nat.reduceLeDiff, Nat.reduceLT, Nat.reduceSub, Int.reduceEq, Int.reduceBEq, Int.reduceLT, Int.reduceLE, Int.reduceAdd, Int.reduceToNat, reduceIte, reduceCtorEq, abO, abS, hne] | (refine hK _ ?_; clear hK; clear K') | refine And.intro ?_ ?_ | (apply yJ; (focus exact rfl); (focus first | exact (YP _ _ zsd zsd)); (focus exact rfl); (focus exact rfl); (focus (first | exact rfl | exact trivial | (simp; done) | skip)); (rintro _ _ ⟨gx, gk, hgk, hgP, rfl, rfl⟩)) | (apply yI; (focus first | exact (X0 _))) | (apply QX; (focus first | exact hC | exact gA | exact (XR _).b | exact EvN.b YU | exact (Jq _ zsd).b | exact (JO _ _ zsd zsd).b | exact (Y4 _ _ zsd).b | exact (JX _ _ _ zsd zsd zsd zsd).b | exact (X1 _ _ zsd).b)) | exact zlo | omega | exact zms)
    all_goals first | (refine Jb _ rfl ?_; simp only [go_sem, Nat.reduceEqDiff, Nat.reduceAdd, reduceIte, reduceCtorEq]; done) | trace_state
  rw [hck] at hC
  repeat' (first | refine Qb fun K' hK => ?_ | refine Qe fun K' hK => ?_ | refine Qc ?_ | refine Qd ?_ | refine Qa ?_ | ((first | refine Qg ⟨_, rfl, fun hc => ?_, fun hc => ?_⟩ | refine QL (fun hc => ?_) (fun hc => ?_) | refine QM (fun hc => ?_) (fun hc => ?_)) <;> first | exact Bool.noConfusion hc | ((try simp only [znz] at hc); first | exact znf | skip)) | refine Qi ?_ | refine Qf ?_ | simp (maxSteps := 1000000) only [go_sem, Nat.reduceAdd, Nat.reduceMul, Nat.reduceEqDiff, Nat.reduceLeDiff, Nat.reduceLT, Nat.reduceSub, Int.reduceEq, Int.reduceBEq, Int.reduceLT, Int.reduceLE, Int.reduceAdd, Int.reduceToNat, reduceIte, reduceCtorEq, abO, abS] | (refine hK _ ?_; clear hK; clear K') | refine And.intro ?_ ?_ | (apply yJ; (focus exact rfl); (focus first | exact (YP _ _ zsd zsd)); (focus exact rfl); (focus exact rfl); (focus (first | exact rfl | exact trivial | (simp; done) | skip)); (rintro _ _ ⟨gx, gk, hgk, hgP, rfl, rfl⟩)) | (apply yI; (focus first | exact (X0 _))) | (apply QX; (focus first | exact hC | exact (XR _).b | exact EvN.b YU | exact (Jq _ zsd).b | exact (JO _ _ zsd zsd).b | exact (Y4 _ _ zsd).b | exact (JX _ _ _ zsd zsd zsd zsd).b | exact (X1 _ _ zsd).b)) | exact zlo | omega | exact zms)
  refine Yj (ι := Nat) (fun i => i ≤ ps.length) (fun i => pr1 ps ks i) (fun i => ps.length - i) 0 (by omega) (Q0 []) (YE [] (by simp only [go_sem, Nat.reduceAdd, Nat.reduceMul, Nat.reduceEqDiff, Nat.reduceLT, Int.reduceToNat, reduceIte, reduceCtorEq, and_true, true_and, implies_true, Option.some.injEq, exists_eq_left', Qk, Qo, pr1]; (repeat' (first | rfl | refine And.intro ?_ ?_ | omega | exact fun h => h | exact Exists.intro _ rfl))) (by simp) (by simp [Q0]) (by simp) (by omega)) fun i hi K1 hL1 => ?_
  by_cases hie : i = ps.length
  · have e1 : decide ((i : Int) < ((ps.length : Nat) : Int)) = false := decide_eq_false (by omega)
    repeat' (first | refine Qb fun K' hK => ?_ | refine Qe fun K' hK => ?_ | refine Qc ?_ | refine Qd ?_ | refine Qa ?_ | ((first | refine Qg ⟨_, rfl, fun hc => ?_, fun hc => ?_⟩ | refine QL (fun hc => ?_) (fun hc => ?_) | refine QM (fun hc => ?_) (fun hc => ?_)) <;> first | exact Bool.noConfusion hc | ((try simp only [znz] at hc); first | exact znf | skip)) | refine Qi ?_ | refine Qf ?_ | simp (maxSteps := 1000000) only [go_sem, Nat.reduceAdd, Nat.reduceMul, Nat.reduceEqDiff, Nat.reduceLeDiff, Nat.reduceLT, Nat.reduceSub, Int.reduceEq, Int.reduceBEq, Int.reduceLT, Int.reduceLE, Int.reduceAdd, Int.reduceToNat, reduceIte, reduceCtorEq, pr1, Vn, hpl, e1] | (refine hK _ ?_; clear hK; clear K') | refine And.intro ?_ ?_ | (apply yJ; (focus exact rfl); (focus first | exact (YP _ _ zsd zsd)); (focus exact rfl); (focus exact rfl); (focus (first | exact rfl | exact trivial | (simp; done) | skip)); (rintro _ _ ⟨gx, gk, hgk, hgP, rfl, rfl⟩)) | (apply yI; (focus first | exact (X0 _))) | (apply QX; (focus first | exact gA | exact (XR _).b | exact EvN.b YU | exact (Jq _ zsd).b | exact (JO _ _ zsd zsd).b | exact (Y4 _ _ zsd).b | exact (JX _ _ _ zsd zsd zsd zsd).b | exact (X1 _ _ zsd).b)) | exact zlo | omega | exact zms)
    all_goals first | (refine Jb _ rfl ?_; simp only [go_sem, Nat.reduceEqDiff, Nat.reduceAdd, reduceIte, reduceCtorEq]; done) | trace_state
  have e1 : decide ((i : Int) < ((ps.length : Nat) : Int)) = true := decide_eq_true (by omega)
  obtain ⟨p, hp⟩ : ∃ p, ps[i]? = some p := ⟨ps[i], List.getElem?_eq_getElem (by omega)⟩
  have vp : (ps.map QK.v)[i]? = some (.agg [V.str p.name, .sl 1 (p.ver.map V.int), .sl 3 (p.needs.map Yk.v)]) := by rw [List.getElem?_map, hp]; rfl
  have w1 := JS (k := i) (by omega)
  have gR := (JO ps p.name hsz (by omega)).b
  rw [acO hck hp] at gR
  have gU := (JX ps ks p.name hsz (by omega) hkz (aaH hks)).b
  rw [afJ hck hp] at gU
  have hAl := acP (ps := ps) (i := i)
  have hUl := adU hks hck i
  have gT := (Y4 (qK ps i) p.name (by omega)).b
  rw [List.contains_iff_mem.2 (ae6 hp)] at gT
  have hAg : ∀ (m : Nat) s, (qK ps i)[m]? = some s → ∃ (j : Nat) (q : QK), ps[j]? = some q ∧ Rch ps i j ∧ q.name = s := fun m s h => xq.1 (List.mem_of_getElem? h)
  have hBs : ∀ (j : Nat), Rch ps i j → ∀ s ∈ qK ps j, s ∈ qK ps i := fun j h s hs => agD h hs
  have hWs : ∀ (j : Nat), Rch ps i j → ∀ u ∈ acn ps ks j, (acn ps ks i).any (fun x => x.1 == u.1 && x.2 == u.2) = true := fun j h u hu => ahu h hu
  generalize qK ps i = A at *
  generalize acn ps ks i = U at *
  generalize hE : adX ks = E at *
  have hAm : (A.map V.str).length = A.length := List.length_map _
  repeat' (first | refine Qb fun K' hK => ?_ | refine Qe fun K' hK => ?_ | refine Qc ?_ | refine Qd ?_ | refine Qa ?_ | ((first | refine Qg ⟨_, rfl, fun hc => ?_, fun hc => ?_⟩ | refine QL (fun hc => ?_) (fun hc => ?_) | refine QM (fun hc => ?_) (fun hc => ?_)) <;> first | exact Bool.noConfusion hc | ((try simp only [znz] at hc); first | exact znf | skip)) | refine Qi ?_ | refine Qf ?_ | simp (maxSteps := 1000000) only [go_sem, Nat.reduceAdd, Nat.reduceMul, Nat.reduceEqDiff, Nat.reduceLeDiff, Nat.reduceLT, Nat.reduceSub, Int.reduceEq, Int.reduceBEq, Int.reduceLT, Int.reduceLE, Int.reduceAdd, Int.reduceToNat, reduceIte, reduceCtorEq, pr1, Vn, hpl, e1, Int.toNat_natCast, vp] | (refine hK _ ?_; clear hK; clear K') | refine And.intro ?_ ?_ | (apply yJ; (focus exact rfl); (focus first | exact (YP _ _ zsd zsd)); (focus exact rfl); (focus exact rfl); (focus (first | exact rfl | exact trivial | (simp; done) | skip)); (rintro _ _ ⟨gx, gk, hgk, hgP, rfl, rfl⟩)) | (apply yI; (focus first | exact (X0 _))) | (apply QX; (focus first | exact gR | exact gU | exact gT | exact (XR _).b | exact EvN.b YU | exact (Jq _ zsd).b | exact (JO _ _ zsd zsd).b | exact (Y4 _ _ zsd).b | exact (JX _ _ _ zsd zsd zsd zsd).b | exact (X1 _ _ zsd).b)) | exact zlo | omega | exact zms)
  refine Yj (ι := Nat) (fun m => m ≤ A.length) (fun m => pr2 ps ks i A U E m) (fun m => A.length - m) 0 (by omega) (Q0 []) (YE [] (by simp only [go_sem, Nat.reduceAdd, Nat.reduceMul, Nat.reduceEqDiff, Nat.reduceLT, Int.reduceToNat, reduceIte, reduceCtorEq, and_true, true_and, implies_true, Option.some.injEq, exists_eq_left', Qk, Qo, pr2]; (repeat' (first | rfl | refine And.intro ?_ ?_ | omega | exact fun h => h | exact Exists.intro _ rfl))) (by simp) (by simp [Q0]) (by simp) (by omega)) fun m hm2 K2 hL2 => ?_
  by_cases hme : m = A.length
  · have e2 : decide ((m : Int) < ((A.length : Nat) : Int)) = false := decide_eq_false (by omega)
    repeat' (first | refine Qb fun K' hK => ?_ | refine Qe fun K' hK => ?_ | refine Qc ?_ | refine Qd ?_ | refine Qa ?_ | ((first | refine Qg ⟨_, rfl, fun hc => ?_, fun hc => ?_⟩ | refine QL (fun hc => ?_) (fun hc => ?_) | refine QM (fun hc => ?_) (fun hc => ?_)) <;> first | exact Bool.noConfusion hc | ((try simp only [znz] at hc); first | exact znf | skip)) | refine Qi ?_ | refine Qf ?_ | simp (maxSteps := 1000000) only [go_sem, Nat.reduceAdd, Nat.reduceMul, Nat.reduceEqDiff, Nat.reduceLeDiff, Nat.reduceLT, Nat.reduceSub, Int.reduceEq, Int.reduceBEq, Int.reduceLT, Int.reduceLE, Int.reduceAdd, Int.reduceToNat, reduceIte, reduceCtorEq, pr2, Vn, hAm, e2, w1] | (refine hK _ ?_; clear hK; clear K') | refine And.intro ?_ ?_ | (apply yJ; (focus exact rfl); (focus first | exact (YP _ _ zsd zsd)); (focus exact rfl); (focus exact rfl); (focus (first | exact rfl | exact trivial | (simp; done) | skip)); (rintro _ _ ⟨gx, gk, hgk, hgP, rfl, rfl⟩)) | (apply yI; (focus first | exact (X0 _))) | (apply QX; (focus first | exact (XR _).b | exact EvN.b YU | exact (Jq _ zsd).b | exact (JO _ _ zsd zsd).b | exact (Y4 _ _ zsd).b | exact (JX _ _ _ zsd zsd zsd zsd).b | exact (X1 _ _ zsd).b)) | exact zlo | omega | exact zms)
    all_goals first
      | exact hL1 _ (i + 1) (Q0 []) (by omega) (by omega) (YE [] (by simp only [go_sem, Nat.reduceAdd, Nat.reduceMul, Nat.reduceEqDiff, Nat.reduceLT, Int.reduceToNat, reduceIte, reduceCtorEq, and_true, true_and, implies_true, Option.some.injEq, exists_eq_left', Qk, Qo, pr1]; (repeat' (first | rfl | refine And.intro ?_ ?_ | omega | exact fun h => h | exact Exists.intro _ rfl))) (by simp) (by simp [Q0]) (by simp) (by omega))
      | trace_state
  have e2 : decide ((m : Int) < ((A.length : Nat) : Int)) = true := decide_eq_true (by omega)
  obtain ⟨s, hs⟩ : ∃ s, A[m]? = some s := ⟨A[m], List.getElem?_eq_getElem (by omega)⟩
  have vs : (A.map V.str)[m]? = some (V.str s) := by rw [List.getElem?_map, hs]; rfl
  obtain ⟨j, q, hq, hr, hqs⟩ := hAg m s hs
  have w2 := JS (k := m) (by omega)
  have gR2 := (JO ps q.name hsz (by omega)).b
  rw [acO hck hq, hqs] at gR2
  have gU2 := (JX ps ks q.name hsz (by omega) hkz (aaH hks)).b
  rw [afJ hck hq, hqs, hE] at gU2
  have hBl := acP (ps := ps) (i := j)
  have hWl := adU hks hck j
  have hBs := hBs j hr
  have hWs := hWs j hr
  generalize qK ps j = B at *
  generalize acn ps ks j = W at *
  have hBm : (B.map V.str).length = B.length := List.length_map _
  have hWm : (W.map usV).length = W.length := List.length_map _
  have eE : (E != E) = false := by simp
  repeat' (first | refine Qb fun K' hK => ?_ | refine Qe fun K' hK => ?_ | refine Qc ?_ | refine Qd ?_ | refine Qa ?_ | ((first | refine Qg ⟨_, rfl, fun hc => ?_, fun hc => ?_⟩ | refine QL (fun hc => ?_) (fun hc => ?_) | refine QM (fun hc => ?_) (fun hc => ?_)) <;> first | exact Bool.noConfusion hc | ((try simp only [znz] at hc); first | exact znf | skip)) | refine Qi ?_ | refine Qf ?_ | simp (maxSteps := 1000000) only [go_sem, Nat.reduceAdd, Nat.reduceMul, Nat.reduceEqDiff, Nat.reduceLeDiff, Nat.reduceLT, Nat.reduceSub, Int.reduceEq, Int.reduceBEq, Int.reduceLT, Int.reduceLE, Int.reduceAdd, Int.reduceToNat, reduceIte, reduceCtorEq, pr2, Vn, hAm, e2, Int.toNat_natCast, vs, eE] | (refine hK _ ?_; clear hK; clear K') | refine And.intro ?_ ?_ | (apply yJ; (focus exact rfl); (focus first | exact (YP _ _ zsd zsd)); (focus exact rfl); (focus exact rfl); (focus (first | exact rfl | exact trivial | (simp; done) | skip)); (rintro _ _ ⟨gx, gk, hgk, hgP, rfl, rfl⟩)) | (apply yI; (focus first | exact (X0 _))) | (apply QX; (focus first | exact gR2 | exact gU2 | exact (XR _).b | exact EvN.b YU | exact (Jq _ zsd).b | exact (JO _ _ zsd zsd).b | exact (Y4 _ _ zsd).b | exact (JX _ _ _ zsd zsd zsd zsd).b | exact (X1 _ _ zsd).b)) | exact zlo | omega | exact zms)
  refine Yj (ι := Nat) (fun n => n ≤ B.length) (fun n => pr3 ps ks i A U E m B W n) (fun n => B.length - n) 0 (by omega) (Q0 []) (YE [] (by simp only [go_sem, Nat.reduceAdd, Nat.reduceMul, Nat.reduceEqDiff, Nat.reduceLT, Int.reduceToNat, reduceIte, reduceCtorEq, and_true, true_and, implies_true, Option.some.injEq, exists_eq_left', Qk, Qo, pr3]; (repeat' (first | rfl | refine And.intro ?_ ?_ | omega | exact fun h => h | exact Exists.intro _ rfl))) (by simp) (by simp [Q0]) (by simp) (by omega)) fun n hn K3 hL3 => ?_
  by_cases hne : n = B.length
  case neg =>
    have e3 : decide ((n : Int) < ((B.length : Nat) : Int)) = true := decide_eq_true (by omega)
    obtain ⟨s3, hs3⟩ : ∃ s, B[n]? = some s := ⟨B[n], List.getElem?_eq_getElem (by omega)⟩
    have vs3 : (B.map V.str)[n]? = some (V.str s3) := by rw [List.getElem?_map, hs3]; rfl
    have w3 := JS (k := n) (by omega)
    have gT3 := (Y4 A s3 (by omega)).b
    rw [List.contains_iff_mem.2 (hBs s3 (List.mem_of_getElem? hs3))] at gT3
    repeat' (first | refine Qb fun K' hK => ?_ | refine Qe fun K' hK => ?_ | refine Qc ?_ | refine Qd ?_ | refine Qa ?_ | ((first | refine Qg ⟨_, rfl, fun hc => ?_, fun hc => ?_⟩ | refine QL (fun hc => ?_) (fun hc => ?_) | refine QM (fun hc => ?_) (fun hc => ?_)) <;> first | exact Bool.noConfusion hc | ((try simp only [znz] at hc); first | exact znf | skip)) | refine Qi ?_ | refine Qf ?_ | simp (maxSteps := 1000000) only [go_sem, Nat.reduceAdd, Nat.reduceMul, Nat.reduceEqDiff, Nat.reduceLeDiff, Nat.reduceLT, Nat.reduceSub, Int.reduceEq, Int.reduceBEq, Int.reduceLT, Int.reduceLE, Int.reduceAdd, Int.reduceToNat, reduceIte, reduceCtorEq, pr3, Vn, hBm, e3, Int.toNat_natCast, vs3, w3] | (refine hK _ ?_; clear hK; clear K') | refine And.intro ?_ ?_ | (apply yJ; (focus exact rfl); (focus first | exact (YP _ _ zsd zsd)); (focus exact rfl); (focus exact rfl); (focus (first | exact rfl | exact trivial | (simp; done) | skip)); (rintro _ _ ⟨gx, gk, hgk, hgP, rfl, rfl⟩)) | (apply yI; (focus first | exact (X0 _))) | (apply QX; (focus first | exact gT3 | exact (XR _).b | exact EvN.b YU | exact (Jq _ zsd).b | exact (JO _ _ zsd zsd).b | exact (Y4 _ _ zsd).b | exact (JX _ _ _ zsd zsd zsd zsd).b | exact (X1 _ _ zsd).b)) | exact zlo | omega | exact zms)
    all_goals first
      | exact hL3 _ (n + 1) (Q0 []) (by omega) (by omega) (YE [] (by simp only [go_sem, Nat.reduceAdd, Nat.reduceMul, Nat.reduceEqDiff, Nat.reduceLT, Int.reduceToNat, reduceIte, reduceCtorEq, and_true, true_and, implies_true, Option.some.injEq, exists_eq_left', Qk, Qo, pr3]; (repeat' (first | rfl | refine And.intro ?_ ?_ | omega | exact fun h => h | exact Exists.intro _ rfl))) (by simp) (by simp [Q0]) (by simp) (by omega))
      | trace_state
  have e3 : decide ((n : Int) < ((B.length : Nat) : Int)) = false := decide_eq_false (by omega)
  repeat' (first | refine Qb fun K' hK => ?_ | refine Qe fun K' hK => ?_ | refine Qc ?_ | refine Qd ?_ | refine Qa ?_ | ((first | refine Qg ⟨_, rfl, fun hc => ?_, fun hc => ?_⟩ | refine QL (fun hc => ?_) (fun hc => ?_) | refine QM (fun hc => ?_) (fun hc => ?_)) <;> first | exact Bool.noConfusion hc | ((try simp only [znz] at hc); first | exact znf | skip)) | refine Qi ?_ | refine Qf ?_ | simp (maxSteps := 1000000) only [go_sem, Nat.reduceAdd, Nat.reduceMul, Nat.reduceEqDiff, Nat.reduceLeDiff, Nat.reduceLT, Nat.reduceSub, Int.reduceEq, Int.reduceBEq, Int.reduceLT, Int.reduceLE, Int.reduceAdd, Int.reduceToNat, reduceIte, reduceCtorEq, pr3, Vn, hBm, e3] | (refine hK _ ?_; clear hK; clear K') | refine And.intro ?_ ?_ | (apply yJ; (focus exact rfl); (focus first | exact (YP _ _ zsd zsd)); (focus exact rfl); (focus exact rfl); (focus (first | exact rfl | exact trivial | (simp; done) | skip)); (rintro _ _ ⟨gx, gk, hgk, hgP, rfl, rfl⟩)) | (apply yI; (focus first | exact (X0 _))) | (apply QX; (focus first | exact (XR _).b | exact EvN.b YU | exact (Jq _ zsd).b | exact (JO _ _ zsd zsd).b | exact (Y4 _ _ zsd).b | exact (JX _ _ _ zsd zsd zsd zsd).b | exact (X1 _ _ zsd).b)) | exact zlo | omega | exact zms)
  refine Yj (ι := Nat) (fun n => n ≤ W.length) (fun n => pr4 ps ks i A U E m W n) (fun n => W.length - n) 0 (by omega) (Q0 []) (YE [] (by simp only [go_sem, Nat.reduceAdd, Nat.reduceMul, Nat.reduceEqDiff, Nat.reduceLT, Int.reduceToNat, reduceIte, reduceCtorEq, and_true, true_and, implies_true, Option.some.injEq, exists_eq_left', Qk, Qo, pr4]; (repeat' (first | rfl | refine And.intro ?_ ?_ | omega | exact fun h => h | exact Exists.intro _ rfl))) (by simp) (by simp [Q0]) (by simp) (by omega)) fun n hn K4 hL4 => ?_
  by_cases hne : n = W.length
  case neg =>
    have e4 : decide ((n : Int) < ((W.length : Nat) : Int)) = true := decide_eq_true (by omega)
    obtain ⟨u, hu⟩ : ∃ u, W[n]? = some u := ⟨W[n], List.getElem?_eq_getElem (by omega)⟩
    have vu : (W.map usV)[n]? = some (.agg [V.int u.1, V.int u.2]) := by rw [List.getElem?_map, hu]; rfl
    have w4 := JS (k := n) (by omega)
    have gV := (X1 U u (by omega)).b
    rw [hWs u (List.mem_of_getElem? hu)] at gV
    simp only [usV] at gV
    repeat' (first | refine Qb fun K' hK => ?_ | refine Qe fun K' hK => ?_ | refine Qc ?_ | refine Qd ?_ | refine Qa ?_ | ((first | refine Qg ⟨_, rfl, fun hc => ?_, fun hc => ?_⟩ | refine QL (fun hc => ?_) (fun hc => ?_) | refine QM (fun hc => ?_) (fun hc => ?_)) <;> first | exact Bool.noConfusion hc | ((try simp only [znz] at hc); first | exact znf | skip)) | refine Qi ?_ | refine Qf ?_ | simp (maxSteps := 1000000) only [go_sem, Nat.reduceAdd, Nat.reduceMul, Nat.reduceEqDiff, Nat.reduceLeDiff, Nat.reduceLT, Nat.reduceSub, Int.reduceEq, Int.reduceBEq, Int.reduceLT, Int.reduceLE, Int.reduceAdd, Int.reduceToNat, reduceIte, reduceCtorEq, pr4, Vn, hWm, e4, Int.toNat_natCast, vu, w4, usV] | (refine hK _ ?_; clear hK; clear K') | refine And.intro ?_ ?_ | (apply yJ; (focus exact rfl); (focus first | exact (YP _ _ zsd zsd)); (focus exact rfl); (focus exact rfl); (focus (first | exact rfl | exact trivial | (simp; done) | skip)); (rintro _ _ ⟨gx, gk, hgk, hgP, rfl, rfl⟩)) | (apply yI; (focus first | exact (X0 _))) | (apply QX; (focus first | exact gV | exact (XR _).b | exact EvN.b YU | exact (Jq _ zsd).b | exact (JO _ _ zsd zsd).b | exact (Y4 _ _ zsd).b | exact (JX _ _ _ zsd zsd zsd zsd).b | exact (X1 _ _ zsd).b)) | exact zlo | omega | exact zms)
    all_goals first
      | exact hL4 _ (n + 1) (Q0 []) (by omega) (by omega) (YE [] (by simp only [go_sem, Nat.reduceAdd, Nat.reduceMul, Nat.reduceEqDiff, Nat.reduceLT, Int.reduceToNat, reduceIte, reduceCtorEq, and_true, true_and, implies_true, Option.some.injEq, exists_eq_left', Qk, Qo, pr4]; (repeat' (first | rfl | refine And.intro ?_ ?_ | omega | exact fun h => h | exact Exists.intro _ rfl))) (by simp) (by simp [Q0]) (by simp) (by omega))
      | trace_state
  have e4 : decide ((n : Int) < ((W.length : Nat) : Int)) = false := decide_eq_false (by omega)
  repeat' (first | refine Qb fun K' hK => ?_ | refine Qe fun K' hK => ?_ | refine Qc ?_ | refine Qd ?_ | refine Qa ?_ | ((first | refine Qg ⟨_, rfl, fun hc => ?_, fun hc => ?_⟩ | refine QL (fun hc => ?_) (fun hc => ?_) | refine QM (fun hc => ?_) (fun hc => ?_)) <;> first | exact Bool.noConfusion hc | ((try simp only [znz] at hc); first | exact znf | skip)) | refine Qi ?_ | refine Qf ?_ | simp (maxSteps := 1000000) only [go_sem, Nat.reduceAdd, Nat.reduceMul, Nat.reduceEqDiff, Nat.reduceLeDiff, Nat.reduceLT, Nat.reduceSub, Int.reduceEq, Int.reduceBEq, Int.reduceLT, Int.reduceLE, Int.reduceAdd, Int.reduceToNat, reduceIte, reduceCtorEq, pr4, Vn, hWm, e4, w2] | (refine hK _ ?_; clear hK; clear K') | refine And.intro ?_ ?_ | (apply yJ; (focus exact rfl); (focus first | exact (YP _ _ zsd zsd)); (focus exact rfl); (focus exact rfl); (focus (first | exact rfl | exact trivial | (simp; done) | skip)); (rintro _ _ ⟨gx, gk, hgk, hgP, rfl, rfl⟩)) | (apply yI; (focus first | exact (X0 _))) | (apply QX; (focus first | exact (XR _).b | exact EvN.b YU | exact (Jq _ zsd).b | exact (JO _ _ zsd zsd).b | exact (Y4 _ _ zsd).b | exact (JX _ _ _ zsd zsd zsd zsd).b | exact (X1 _ _ zsd).b)) | exact zlo | omega | exact zms)
  all_goals first
    | exact hL2 _ (m + 1) (Q0 []) (by omega) (by omega) (YE [] (by simp only [go_sem, Nat.reduceAdd, Nat.reduceMul, Nat.reduceEqDiff, Nat.reduceLT, Int.reduceToNat, reduceIte, reduceCtorEq, and_true, true_and, implies_true, Option.some.injEq, exists_eq_left', Qk, Qo, pr2]; (repeat' (first | rfl | refine And.intro ?_ ?_ | omega | exact fun h => h | exact Exists.intro _ rfl))) (by simp) (by simp [Q0]) (by simp) (by omega))
    | trace_state
end Av
end

/- K21 -/
import Derived.Test.YtalpffbofjlfgaaGreatDoorK20
set_option linter.unusedVariables false
set_option linter.unusedSimpArgs false
section
set_option linter.unusedSimpArgs false
set_option linter.unusedVariables false
set_option maxRecDepth 10000
set_option maxHeartbeats 4000000
namespace Av
open Go
attribute [local irreducible] AWp Wz WQ W4 awS awC V1 awQ Ue Jc YR VY awR YY awB okR Wt ris
end Av
end
section
set_option linter.unusedSimpArgs false
set_option linter.unusedVariables false
set_option maxRecDepth 10000
set_option maxHeartbeats 4000000
namespace Av
open Go
attribute [local irreducible] AWp Wz WQ W4 awS awC V1 awQ Ue Jc YR VY awR YY awB okR Wt ris
structure Yk where
  name : List UInt8
  lo : List Int
  up : List Int
def Yk.cells (n : Yk) : List V := [V.str n.name, .sl 1 (n.lo.map V.int), .sl 1 (n.up.map V.int)]
def Yk.v (n : Yk) : V := .agg n.cells
structure QK where
  name : List UInt8
  ver : List Int
  needs : List Yk
def QK.cells (p : QK) : List V := [V.str p.name, .sl 1 (p.ver.map V.int), .sl 3 (p.needs.map Yk.v)]
def QK.v (p : QK) : V := .agg p.cells
theorem xy {α : Type} (p : α → Bool) : ∀ (xs : List α) (k : Nat), decide (wM p k xs ≥ 0) = xs.any p
  | [], k => by simp [wM]
  | x :: r, k => by
    have ih := xy p r (k + 1)
    rw [wM, List.any_cons]
    by_cases h : p x = true
    · rw [if_pos h, h]; simp
    · have h2 : p x = false := by simpa using h
      rw [if_neg h, h2, ih]; rfl
def YX : AC := Qr [0, 1] (.reg [mc 4 (V.int 0)]) (Qr [] (Qr [0, 1, 7, 8] (.reg [mv 6 0, ln 7 6, mc 8 (V.int 0)]) (.block 0 (W5 [0, 1, 7, 8] (Qr [0, 1, 7, 8, 9] (.reg [bn 9 .lss 8 7]) (Qr [0, 1, 7, 8] (.cond (.t 9) (.skip) (.exit 0)) (Qr [0, 1, 7, 8] (.block 1 (Qr [0, 1, 5, 7, 8] (.reg [mv 10 8, mv 5 10]) (Qr [0, 1, 5, 7, 8, 16] (.reg [mv 11 1, mv 12 0, mv 13 5, ia 14 3 12 13, xo 15 (.load true 3 (.t 14)), xo 16 (.callv (.t 11) [(.t 15)])]) (.cond (.t 16) (Qr [4] (.reg [mv 17 5, mv 4 17]) (.ret)) (.skip))))) (.reg [bc 18 .add 8 (V.int 1), mv 8 18]))))))) (Qr [4] (.reg [mc 4 (V.int (-1))]) (.ret))) def r_slices_IndexFunc___api_Need_api_Need : List Wc := [.tmp 4]
def YN (Γ : Env) (f : Nat) : Prop := ∀ (xs : List Yk) (g : Nat) (cap : List V) (p : Yk → Bool) (hp : ∀ x ∈ xs, EvN Γ g (x.v :: cap) (V.bool (p x))) (hcap : Qj cap) (hl : xs.length < 2 ^ 62), EvN Γ f [.sl 3 (xs.map Yk.v), .clo g cap] (V.int (wM p 0 xs))
theorem VT {Γ : Env} {f : Nat} (h : Has Γ.P f 19 YX r_slices_IndexFunc___api_Need_api_Need)  : YN Γ f := by
  intro xs g cap p hp hcap hl
  refine QV h (by simp) (by simp only [V.closed, Qj, V.noSl, Jy, and_self, and_true, true_and]) (by simp only [V.closed, Qj, V.noSl, Jy, and_self, and_true, true_and]) fun C hC hm => ?_
  subst hC
  unfold YX
  have s1 : ∀ o, XY o cap = cap := fun o => Yp o cap hcap
  have s2 : ∀ o B, JB o B cap = True := fun o B => eq_true (JR o B cap hcap)
  repeat' (first | refine Qb fun K' hK => ?_ | refine Qe fun K' hK => ?_ | refine Qc ?_ | refine Qd ?_ | refine Qa ?_ | ((first | refine Qg ⟨_, rfl, fun hc => ?_, fun hc => ?_⟩ | refine QL (fun hc => ?_) (fun hc => ?_) | refine QM (fun hc => ?_) (fun hc => ?_)) <;> first | exact Bool.noConfusion hc | ((try simp only [znz] at hc); first | exact znf | skip)) | refine Qi ?_ | refine Qf ?_ | simp (maxSteps := 1000000) only [go_sem, Nat.reduceAdd, Nat.reduceMul, Nat.reduceEqDiff, Nat.reduceLeDiff, Nat.reduceLT, Nat.reduceSub, Int.reduceEq, Int.reduceBEq, Int.reduceLT, Int.reduceLE, Int.reduceAdd, Int.reduceToNat, reduceIte, reduceCtorEq] | (refine hK _ ?_; clear hK; clear K') | refine And.intro ?_ ?_ | exact zlo | omega | exact zms)
  refine Vv (ι := Nat) (fun k => k ≤ xs.length ∧ wM p k (xs.drop k) = wM p 0 xs) (fun k => [(8, V.int k)]) (fun k => xs.length - k) 0 (by omega) ⟨by simp, by simp⟩ (by repeat' first | exact UE | refine qu (by omega) (by simp only [Ob.lt, ltL, V.lt, and_self, and_true]; try omega) ?_) (fun i hi => by simp only [ovT, XZ, Nat.reduceEqDiff, reduceIte]; (repeat' first | exact qt | refine UD ?_ ?_ | simp only [V.lt, ltL, and_self, and_true] | omega); exact U5 _ _ hcap) (by simp only [Nat.reduceAdd, ovT, XZ, Nat.reduceEqDiff, reduceIte, Yx, XO, wL, u32, u33, u34, u35, u36, u37, u38, u39, and_self, and_true, true_and]; first | rfl | exact Qk _ _ hcap) fun k hk K' hL => ?_
  obtain ⟨hk, hinv⟩ := hk
  simp only [ovT, XZ, Nat.reduceEqDiff, reduceIte]
  rcases hd : xs.drop k with _ | ⟨y, r⟩
  · have := Vg hd
    rw [hd] at hinv
    have e1 : decide ((k : Int) < (((xs.map Yk.v).length : Nat) : Int)) = false := by simp; omega
    repeat' (first | refine Qb fun K' hK => ?_ | refine Qe fun K' hK => ?_ | refine Qc ?_ | refine Qd ?_ | refine Qa ?_ | ((first | refine Qg ⟨_, rfl, fun hc => ?_, fun hc => ?_⟩ | refine QL (fun hc => ?_) (fun hc => ?_) | refine QM (fun hc => ?_) (fun hc => ?_)) <;> first | exact Bool.noConfusion hc | ((try simp only [znz] at hc); first | exact znf | skip)) | refine Qi ?_ | refine Qf ?_ | simp (maxSteps := 1000000) only [go_sem, Nat.reduceAdd, Nat.reduceMul, Nat.reduceEqDiff, Nat.reduceLeDiff, Nat.reduceLT, Nat.reduceSub, Int.reduceEq, Int.reduceBEq, Int.reduceLT, Int.reduceLE, Int.reduceAdd, Int.reduceToNat, reduceIte, reduceCtorEq, e1] | (refine hK _ ?_; clear hK; clear K') | refine And.intro ?_ ?_ | exact zlo | omega | exact zms)
    refine Jb _ rfl ?_
    simp only [go_sem, Nat.reduceEqDiff, Nat.reduceAdd, reduceIte, reduceCtorEq]
    rw [← hinv]; rfl
  · obtain ⟨hk, hget, hr⟩ := Wx hd
    rw [hd] at hinv
    have hw := JS (k := k) (by omega)
    have e1 : decide ((k : Int) < (((xs.map Yk.v).length : Nat) : Int)) = true := by simp; omega
    have hpy := hp y (List.mem_of_getElem? hget)
    by_cases hy : p y = true
    · rw [hy] at hpy
      repeat' (first | refine Qb fun K' hK => ?_ | refine Qe fun K' hK => ?_ | refine Qc ?_ | refine Qd ?_ | refine Qa ?_ | ((first | refine Qg ⟨_, rfl, fun hc => ?_, fun hc => ?_⟩ | refine QL (fun hc => ?_) (fun hc => ?_) | refine QM (fun hc => ?_) (fun hc => ?_)) <;> first | exact Bool.noConfusion hc | ((try simp only [znz] at hc); first | exact znf | skip)) | refine Qi ?_ | refine Qf ?_ | simp (maxSteps := 1000000) only [go_sem, Nat.reduceAdd, Nat.reduceMul, Nat.reduceEqDiff, Nat.reduceLeDiff, Nat.reduceLT, Nat.reduceSub, Int.reduceEq, Int.reduceBEq, Int.reduceLT, Int.reduceLE, Int.reduceAdd, Int.reduceToNat, reduceIte, reduceCtorEq, Int.toNat_natCast, List.getElem?_map, hget, hw, e1, Yk.v, Yk.cells, s1, s2] | (refine hK _ ?_; clear hK; clear K') | refine And.intro ?_ ?_ | (apply QX; (focus first | exact hpy.b)) | exact zlo | omega | exact zms)
      refine Jb _ rfl ?_; simp only [go_sem, Nat.reduceEqDiff, Nat.reduceAdd, reduceIte, reduceCtorEq]
      rw [← hinv]; simp [wM, hy]
    · have hy' : p y = false := by simpa using hy
      rw [hy'] at hpy
      repeat' (first | refine Qb fun K' hK => ?_ | refine Qe fun K' hK => ?_ | refine Qc ?_ | refine Qd ?_ | refine Qa ?_ | ((first | refine Qg ⟨_, rfl, fun hc => ?_, fun hc => ?_⟩ | refine QL (fun hc => ?_) (fun hc => ?_) | refine QM (fun hc => ?_) (fun hc => ?_)) <;> first | exact Bool.noConfusion hc | ((try simp only [znz] at hc); first | exact znf | skip)) | refine Qi ?_ | refine Qf ?_ | simp (maxSteps := 1000000) only [go_sem, Nat.reduceAdd, Nat.reduceMul, Nat.reduceEqDiff, Nat.reduceLeDiff, Nat.reduceLT, Nat.reduceSub, Int.reduceEq, Int.reduceBEq, Int.reduceLT, Int.reduceLE, Int.reduceAdd, Int.reduceToNat, reduceIte, reduceCtorEq, Int.toNat_natCast, List.getElem?_map, hget, hw, e1, Yk.v, Yk.cells, s1, s2] | (refine hK _ ?_; clear hK; clear K') | refine And.intro ?_ ?_ | (apply QX; (focus first | exact hpy.b)) | exact zlo | omega | exact zms)
      refine hL _ (k + 1) (by simp only [Nat.reduceAdd, ovT, XZ, Nat.reduceEqDiff, reduceIte, Yx, XO, wL, u32, u33, u34, u35, u36, u37, u38, u39, and_self, and_true, true_and]) ⟨by omega, ?_⟩ (by omega) (fun a ha => by simp only [u32, u33, u34, u35, u36, u37, u38, u39]; repeat rw [if_neg (by omega)])
      rw [hr, ← hinv, wM, if_neg hy]
def Ys (J1 : Nat) : AC := Qr [0, 1] (.reg [mc 4 (V.bool false)]) (Qr [4] (.reg [mv 5 0, mv 6 1, cl 7 J1 [5, 6], bc 8 .geq 7 (V.int 0), mv 4 8]) (.ret)) def r_slices_ContainsFunc___api_Need_api_Need : List Wc := [.tmp 4]
def Yn (Γ : Env) (f : Nat) : Prop := ∀ (xs : List Yk) (g : Nat) (cap : List V) (p : Yk → Bool) (hp : ∀ x ∈ xs, EvN Γ g (x.v :: cap) (V.bool (p x))) (hcap : Qj cap) (hl : xs.length < 2 ^ 62), EvN Γ f [.sl 3 (xs.map Yk.v), .clo g cap] (V.bool (xs.any p))
theorem Vu {Γ : Env} {f J1 : Nat} (h : Has Γ.P f 9 (Ys J1) r_slices_ContainsFunc___api_Need_api_Need) (We : YN Γ J1) : Yn Γ f := by
  intro xs g cap p hp hcap hl
  refine QV h (by simp) (by simp only [V.closed, Qj, V.noSl, Jy, and_self, and_true, true_and]) (by simp only [V.closed, Qj, V.noSl, Jy, and_self, and_true, true_and]) fun C hC hm => ?_
  subst hC
  unfold Ys
  have s1 : ∀ o, XY o cap = cap := fun o => Yp o cap hcap
  have s2 : ∀ o B, JB o B cap = True := fun o B => eq_true (JR o B cap hcap)
  have hi := (We xs g cap p hp hcap hl).b
  have e1 := xy p xs 0
  repeat' (first | refine Qb fun K' hK => ?_ | refine Qe fun K' hK => ?_ | refine Qc ?_ | refine Qd ?_ | refine Qa ?_ | ((first | refine Qg ⟨_, rfl, fun hc => ?_, fun hc => ?_⟩ | refine QL (fun hc => ?_) (fun hc => ?_) | refine QM (fun hc => ?_) (fun hc => ?_)) <;> first | exact Bool.noConfusion hc | ((try simp only [znz] at hc); first | exact znf | skip)) | refine Qi ?_ | refine Qf ?_ | simp (maxSteps := 1000000) only [go_sem, Nat.reduceAdd, Nat.reduceMul, Nat.reduceEqDiff, Nat.reduceLeDiff, Nat.reduceLT, Nat.reduceSub, Int.reduceEq, Int.reduceBEq, Int.reduceLT, Int.reduceLE, Int.reduceAdd, Int.reduceToNat, reduceIte, reduceCtorEq, s1, s2, e1] | (refine hK _ ?_; clear hK; clear K') | refine And.intro ?_ ?_ | (apply QX; (focus first | exact hi | exact (We _ _ _ _ zsd zsd zsd).b)) | exact zlo | omega | exact zms)
  all_goals first | (refine Jb _ rfl ?_; simp only [go_sem, Nat.reduceEqDiff, Nat.reduceAdd, reduceIte, reduceCtorEq]; done) | trace_state
def Yg : AC := Qr [0, 1] (.reg [mc 4 (V.int 0)]) (Qr [] (Qr [0, 1, 7, 8] (.reg [mv 6 0, ln 7 6, mc 8 (V.int 0)]) (.block 0 (W5 [0, 1, 7, 8] (Qr [0, 1, 7, 8, 9] (.reg [bn 9 .lss 8 7]) (Qr [0, 1, 7, 8] (.cond (.t 9) (.skip) (.exit 0)) (Qr [0, 1, 7, 8] (.block 1 (Qr [0, 1, 5, 7, 8] (.reg [mv 10 8, mv 5 10]) (Qr [0, 1, 5, 7, 8, 16] (.reg [mv 11 1, mv 12 0, mv 13 5, ia 14 3 12 13, xo 15 (.load true 3 (.t 14)), xo 16 (.callv (.t 11) [(.t 15)])]) (.cond (.t 16) (Qr [4] (.reg [mv 17 5, mv 4 17]) (.ret)) (.skip))))) (.reg [bc 18 .add 8 (V.int 1), mv 8 18]))))))) (Qr [4] (.reg [mc 4 (V.int (-1))]) (.ret))) def r_slices_IndexFunc___api_Package_api_Package : List Wc := [.tmp 4]
def JH (Γ : Env) (f : Nat) : Prop := ∀ (xs : List QK) (g : Nat) (cap : List V) (p : QK → Bool) (hp : ∀ x ∈ xs, EvN Γ g (x.v :: cap) (V.bool (p x))) (hcap : Qj cap) (hl : xs.length < 2 ^ 62), EvN Γ f [.sl 3 (xs.map QK.v), .clo g cap] (V.int (wM p 0 xs))
theorem WY {Γ : Env} {f : Nat} (h : Has Γ.P f 19 Yg r_slices_IndexFunc___api_Package_api_Package)  : JH Γ f := by
  intro xs g cap p hp hcap hl
  refine QV h (by simp) (by simp only [V.closed, Qj, V.noSl, Jy, and_self, and_true, true_and]) (by simp only [V.closed, Qj, V.noSl, Jy, and_self, and_true, true_and]) fun C hC hm => ?_
  subst hC
  unfold Yg
  have s1 : ∀ o, XY o cap = cap := fun o => Yp o cap hcap
  have s2 : ∀ o B, JB o B cap = True := fun o B => eq_true (JR o B cap hcap)
  repeat' (first | refine Qb fun K' hK => ?_ | refine Qe fun K' hK => ?_ | refine Qc ?_ | refine Qd ?_ | refine Qa ?_ | ((first | refine Qg ⟨_, rfl, fun hc => ?_, fun hc => ?_⟩ | refine QL (fun hc => ?_) (fun hc => ?_) | refine QM (fun hc => ?_) (fun hc => ?_)) <;> first | exact Bool.noConfusion hc | ((try simp only [znz] at hc); first | exact znf | skip)) | refine Qi ?_ | refine Qf ?_ | simp (maxSteps := 1000000) only [go_sem, Nat.reduceAdd, Nat.reduceMul, Nat.reduceEqDiff, Nat.reduceLeDiff, Nat.reduceLT, Nat.reduceSub, Int.reduceEq, Int.reduceBEq, Int.reduceLT, Int.reduceLE, Int.reduceAdd, Int.reduceToNat, reduceIte, reduceCtorEq] | (refine hK _ ?_; clear hK; clear K') | refine And.intro ?_ ?_ | exact zlo | omega | exact zms)
  refine Vv (ι := Nat) (fun k => k ≤ xs.length ∧ wM p k (xs.drop k) = wM p 0 xs) (fun k => [(8, V.int k)]) (fun k => xs.length - k) 0 (by omega) ⟨by simp, by simp⟩ (by repeat' first | exact UE | refine qu (by omega) (by simp only [Ob.lt, ltL, V.lt, and_self, and_true]; try omega) ?_) (fun i hi => by simp only [ovT, XZ, Nat.reduceEqDiff, reduceIte]; (repeat' first | exact qt | refine UD ?_ ?_ | simp only [V.lt, ltL, and_self, and_true] | omega); exact U5 _ _ hcap) (by simp only [Nat.reduceAdd, ovT, XZ, Nat.reduceEqDiff, reduceIte, Yx, XO, wL, u32, u33, u34, u35, u36, u37, u38, u39, and_self, and_true, true_and]; first | rfl | exact Qk _ _ hcap) fun k hk K' hL => ?_
  obtain ⟨hk, hinv⟩ := hk
  simp only [ovT, XZ, Nat.reduceEqDiff, reduceIte]
  rcases hd : xs.drop k with _ | ⟨y, r⟩
  · have := Vg hd
    rw [hd] at hinv
    have e1 : decide ((k : Int) < (((xs.map QK.v).length : Nat) : Int)) = false := by simp; omega
    repeat' (first | refine Qb fun K' hK => ?_ | refine Qe fun K' hK => ?_ | refine Qc ?_ | refine Qd ?_ | refine Qa ?_ | ((first | refine Qg ⟨_, rfl, fun hc => ?_, fun hc => ?_⟩ | refine QL (fun hc => ?_) (fun hc => ?_) | refine QM (fun hc => ?_) (fun hc => ?_)) <;> first | exact Bool.noConfusion hc | ((try simp only [znz] at hc); first | exact znf | skip)) | refine Qi ?_ | refine Qf ?_ | simp (maxSteps := 1000000) only [go_sem, Nat.reduceAdd, Nat.reduceMul, Nat.reduceEqDiff, Nat.reduceLeDiff, Nat.reduceLT, Nat.reduceSub, Int.reduceEq, Int.reduceBEq, Int.reduceLT, Int.reduceLE, Int.reduceAdd, Int.reduceToNat, reduceIte, reduceCtorEq, e1] | (refine hK _ ?_; clear hK; clear K') | refine And.intro ?_ ?_ | exact zlo | omega | exact zms)
    refine Jb _ rfl ?_
    simp only [go_sem, Nat.reduceEqDiff, Nat.reduceAdd, reduceIte, reduceCtorEq]
    rw [← hinv]; rfl
  · obtain ⟨hk, hget, hr⟩ := Wx hd
    rw [hd] at hinv
    have hw := JS (k := k) (by omega)
    have e1 : decide ((k : Int) < (((xs.map QK.v).length : Nat) : Int)) = true := by simp; omega
    have hpy := hp y (List.mem_of_getElem? hget)
    by_cases hy : p y = true
    · rw [hy] at hpy
      repeat' (first | refine Qb fun K' hK => ?_ | refine Qe fun K' hK => ?_ | refine Qc ?_ | refine Qd ?_ | refine Qa ?_ | ((first | refine Qg ⟨_, rfl, fun hc => ?_, fun hc => ?_⟩ | refine QL (fun hc => ?_) (fun hc => ?_) | refine QM (fun hc => ?_) (fun hc => ?_)) <;> first | exact Bool.noConfusion hc | ((try simp only [znz] at hc); first | exact znf | skip)) | refine Qi ?_ | refine Qf ?_ | simp (maxSteps := 1000000) only [go_sem, Nat.reduceAdd, Nat.reduceMul, Nat.reduceEqDiff, Nat.reduceLeDiff, Nat.reduceLT, Nat.reduceSub, Int.reduceEq, Int.reduceBEq, Int.reduceLT, Int.reduceLE, Int.reduceAdd, Int.reduceToNat, reduceIte, reduceCtorEq, Int.toNat_natCast, List.getElem?_map, hget, hw, e1, QK.v, QK.cells, s1, s2] | (refine hK _ ?_; clear hK; clear K') | refine And.intro ?_ ?_ | (apply QX; (focus first | exact hpy.b)) | exact zlo | omega | exact zms)
      refine Jb _ rfl ?_; simp only [go_sem, Nat.reduceEqDiff, Nat.reduceAdd, reduceIte, reduceCtorEq]
      rw [← hinv]; simp [wM, hy]
    · have hy' : p y = false := by simpa using hy
      rw [hy'] at hpy
      repeat' (first | refine Qb fun K' hK => ?_ | refine Qe fun K' hK => ?_ | refine Qc ?_ | refine Qd ?_ | refine Qa ?_ | ((first | refine Qg ⟨_, rfl, fun hc => ?_, fun hc => ?_⟩ | refine QL (fun hc => ?_) (fun hc => ?_) | refine QM (fun hc => ?_) (fun hc => ?_)) <;> first | exact Bool.noConfusion hc | ((try simp only [znz] at hc); first | exact znf | skip)) | refine Qi ?_ | refine Qf ?_ | simp (maxSteps := 1000000) only [go_sem, Nat.reduceAdd, Nat.reduceMul, Nat.reduceEqDiff, Nat.reduceLeDiff, Nat.reduceLT, Nat.reduceSub, Int.reduceEq, Int.reduceBEq, Int.reduceLT, Int.reduceLE, Int.reduceAdd, Int.reduceToNat, reduceIte, reduceCtorEq, Int.toNat_natCast, List.getElem?_map, hget, hw, e1, QK.v, QK.cells, s1, s2] | (refine hK _ ?_; clear hK; clear K') | refine And.intro ?_ ?_ | (apply QX; (focus first | exact hpy.b)) | exact zlo | omega | exact zms)
      refine hL _ (k + 1) (by simp only [Nat.reduceAdd, ovT, XZ, Nat.reduceEqDiff, reduceIte, Yx, XO, wL, u32, u33, u34, u35, u36, u37, u38, u39, and_self, and_true, true_and]) ⟨by omega, ?_⟩ (by omega) (fun a ha => by simp only [u32, u33, u34, u35, u36, u37, u38, u39]; repeat rw [if_neg (by omega)])
      rw [hr, ← hinv, wM, if_neg hy]
def J0 (QQ : Nat) : AC := Qr [0, 1] (.reg [mc 4 (V.bool false)]) (Qr [4] (.reg [mv 5 0, mv 6 1, cl 7 QQ [5, 6], bc 8 .geq 7 (V.int 0), mv 4 8]) (.ret)) def r_slices_ContainsFunc___api_Package_api_Package : List Wc := [.tmp 4]
def JA (Γ : Env) (f : Nat) : Prop := ∀ (xs : List QK) (g : Nat) (cap : List V) (p : QK → Bool) (hp : ∀ x ∈ xs, EvN Γ g (x.v :: cap) (V.bool (p x))) (hcap : Qj cap) (hl : xs.length < 2 ^ 62), EvN Γ f [.sl 3 (xs.map QK.v), .clo g cap] (V.bool (xs.any p))
theorem WM {Γ : Env} {f QQ : Nat} (h : Has Γ.P f 9 (J0 QQ) r_slices_ContainsFunc___api_Package_api_Package) (Jr : JH Γ QQ) : JA Γ f := by
  intro xs g cap p hp hcap hl
  refine QV h (by simp) (by simp only [V.closed, Qj, V.noSl, Jy, and_self, and_true, true_and]) (by simp only [V.closed, Qj, V.noSl, Jy, and_self, and_true, true_and]) fun C hC hm => ?_
  subst hC
  unfold J0
  have s1 : ∀ o, XY o cap = cap := fun o => Yp o cap hcap
  have s2 : ∀ o B, JB o B cap = True := fun o B => eq_true (JR o B cap hcap)
  have hi := (Jr xs g cap p hp hcap hl).b
  have e1 := xy p xs 0
  repeat' (first | refine Qb fun K' hK => ?_ | refine Qe fun K' hK => ?_ | refine Qc ?_ | refine Qd ?_ | refine Qa ?_ | ((first | refine Qg ⟨_, rfl, fun hc => ?_, fun hc => ?_⟩ | refine QL (fun hc => ?_) (fun hc => ?_) | refine QM (fun hc => ?_) (fun hc => ?_)) <;> first | exact Bool.noConfusion hc | ((try simp only [znz] at hc); first | exact znf | skip)) | refine Qi ?_ | refine Qf ?_ | simp (maxSteps := 1000000) only [go_sem, Nat.reduceAdd, Nat.reduceMul, Nat.reduceEqDiff, Nat.reduceLeDiff, Nat.reduceLT, Nat.reduceSub, Int.reduceEq, Int.reduceBEq, Int.reduceLT, Int.reduceLE, Int.reduceAdd, Int.reduceToNat, reduceIte, reduceCtorEq, s1, s2, e1] | (refine hK _ ?_; clear hK; clear K') | refine And.intro ?_ ?_ | (apply QX; (focus first | exact hi | exact (Jr _ _ _ _ zsd zsd zsd).b)) | exact zlo | omega | exact zms)
  all_goals first | (refine Jb _ rfl ?_; simp only [go_sem, Nat.reduceEqDiff, Nat.reduceAdd, reduceIte, reduceCtorEq]; done) | trace_state
end Av
end
section
set_option linter.unusedSimpArgs false
set_option linter.unusedVariables false
set_option maxRecDepth 10000
set_option maxHeartbeats 4000000
namespace Av
open Go
attribute [local irreducible] AWp Wz WQ W4 awS awC V1 awQ Ue Jc YR VY awR YY awB okR Wt ris
def agG (c : UInt8) : Bool := decide ((c.toNat : Int) ≤ 32) || decide ((c.toNat : Int) > 126)
def UP (s : List UInt8) : Bool := !s.any agG && (decide ((s.length : Int) ≥ 1) && decide ((s.length : Int) ≤ 32))
def Kd (lo up : List Int) : Bool := (lo.isEmpty || qN lo) && (up.isEmpty || qN up)
def jd : AC := Qr [0] (.reg [mc 2 (V.bool false)]) (Qr [0] (Qr [0, 6, 7, 8] (.reg [mv 5 0, xo 6 (.convSB (.t 5)), ln 7 6, mc 8 (V.int 0)]) (.block 0 (W5 [0, 6, 7, 8] (Qr [0, 6, 7, 8, 9] (.reg [bn 9 .lss 8 7]) (Qr [0, 6, 7, 8] (.cond (.t 9) (.skip) (.exit 0)) (Qr [0, 6, 7, 8] (.block 1 (Qr [0, 4, 6, 7, 8] (.reg [ia 10 1 6 8, ld 11 1 10, mv 4 11]) (Qr [0, 6, 7, 8, 17] (.reg [mv 12 4, bc 13 .leq 12 (.sc (.int .u8 32)), mv 14 13, mg 15 4 14 false, xg 16 (.bin .gtr (.t 15) (.c (.sc (.int .u8 126)))) 14 false, xo 17 (.pick (.t 14) (.c (V.bool true)) (.t 16))]) (.cond (.t 17) (Qr [2] (.reg [mc 2 (V.bool false)]) (.ret)) (.skip))))) (.reg [bc 18 .add 8 (V.int 1), mv 8 18]))))))) (Qr [2] (.reg [mv 19 0, xo 20 (.lenS (.t 19)), bc 21 .geq 20 (V.int 1), mv 22 21, mg 23 0 22 true, xg 24 (.lenS (.t 23)) 22 true, xg 25 (.bin .leq (.t 24) (.c (V.int 32))) 22 true, xo 26 (.pick (.t 22) (.t 25) (.c (V.bool false))), mv 2 26]) (.ret))) def r_catalog_Named : List Wc := [.tmp 2]
def UI (Γ : Env) (f : Nat) : Prop := ∀ (s : List UInt8) (hs : s.length < 2 ^ 60), EvN Γ f [V.str s] (V.bool (UP s))
theorem abk {Γ : Env} {f : Nat} (h : Has Γ.P f 27 jd r_catalog_Named)  : UI Γ f := by
  intro s hs
  refine QV h (by simp) (by simp only [V.closed, Qj, V.noSl, Jy, and_self, and_true, true_and]) (by simp only [V.closed, Qj, V.noSl, Jy, and_self, and_true, true_and]) fun C hC hm => ?_
  subst hC
  unfold jd
  repeat' (first | refine Qb fun K' hK => ?_ | refine Qe fun K' hK => ?_ | refine Qc ?_ | refine Qd ?_ | refine Qa ?_ | ((first | refine Qg ⟨_, rfl, fun hc => ?_, fun hc => ?_⟩ | refine QL (fun hc => ?_) (fun hc => ?_) | refine QM (fun hc => ?_) (fun hc => ?_)) <;> first | exact Bool.noConfusion hc | ((try simp only [znz] at hc); first | exact znf | skip)) | refine Qi ?_ | refine Qf ?_ | simp (maxSteps := 1000000) only [go_sem, Nat.reduceAdd, Nat.reduceMul, Nat.reduceEqDiff, Nat.reduceLeDiff, Nat.reduceLT, Nat.reduceSub, Int.reduceEq, Int.reduceBEq, Int.reduceLT, Int.reduceLE, Int.reduceAdd, Int.reduceToNat, reduceIte, reduceCtorEq] | (refine hK _ ?_; clear hK; clear K') | refine And.intro ?_ ?_ | exact zlo | omega | exact zms)
  refine Yj (ι := Nat) (fun k => k ≤ s.length ∧ (s.drop k).any agG = s.any agG) (fun k => Vn [(0, V.str s), (6, .hd 0 0 s.length), (7, V.int s.length), (8, V.int k)] [(0, .buf true 1 (s.map fun c => V.sc (.int .u8 c.toNat)))] 1) (fun k => s.length - k) 0 ⟨by omega, by simp⟩ (Q0 [(0, 2000)]) (YE [(0, 2000)] (by simp only [go_sem, Nat.reduceAdd, Nat.reduceMul, Nat.reduceEqDiff, Nat.reduceLT, Int.reduceToNat, reduceIte, reduceCtorEq, and_true, true_and, implies_true, Option.some.injEq, exists_eq_left', Qk, Qo]; (repeat' (first | rfl | refine And.intro ?_ ?_ | omega | exact fun h => h | exact Exists.intro _ rfl))) (by simp only [go_sem, Nat.reduceAdd, Nat.reduceMul, Nat.reduceEqDiff, Nat.reduceLT, Int.reduceToNat, reduceIte, reduceCtorEq, and_true, true_and, implies_true, Option.some.injEq, exists_eq_left', Qk, Qo]; (repeat' (first | rfl | refine And.intro ?_ ?_ | omega | exact fun h => h | exact Exists.intro _ rfl))) (by simp [Q0]) (by simp; omega) (by omega)) fun k hk K' hL => ?_
  obtain ⟨hk, hinv⟩ := hk
  rcases hd : s.drop k with _ | ⟨c, r⟩
  · have hkl := Vg hd
    rw [hd] at hinv
    have e1 : decide ((k : Int) < ((s.length : Nat) : Int)) = false := by simp; omega
    have hok : UP s = (decide ((s.length : Int) ≥ 1) && decide ((s.length : Int) ≤ 32)) := by rw [UP, ← hinv]; rfl
    rw [hok]
    rcases hq : decide ((s.length : Int) ≥ 1) with _ | _
    · repeat' (first | refine Qb fun K' hK => ?_ | refine Qe fun K' hK => ?_ | refine Qc ?_ | refine Qd ?_ | refine Qa ?_ | ((first | refine Qg ⟨_, rfl, fun hc => ?_, fun hc => ?_⟩ | refine QL (fun hc => ?_) (fun hc => ?_) | refine QM (fun hc => ?_) (fun hc => ?_)) <;> first | exact Bool.noConfusion hc | ((try simp only [znz] at hc); first | exact znf | skip)) | refine Qi ?_ | refine Qf ?_ | simp (maxSteps := 1000000) only [go_sem, Nat.reduceAdd, Nat.reduceMul, Nat.reduceEqDiff, Nat.reduceLeDiff, Nat.reduceLT, Nat.reduceSub, Int.reduceEq, Int.reduceBEq, Int.reduceLT, Int.reduceLE, Int.reduceAdd, Int.reduceToNat, reduceIte, reduceCtorEq, Vn, e1, hq] | (refine hK _ ?_; clear hK; clear K') | refine And.intro ?_ ?_ | exact zlo | omega | exact zms)
      all_goals first | (refine Jb _ rfl ?_; simp only [go_sem, Nat.reduceEqDiff, Nat.reduceAdd, reduceIte, reduceCtorEq]; done) | trace_state
    · repeat' (first | refine Qb fun K' hK => ?_ | refine Qe fun K' hK => ?_ | refine Qc ?_ | refine Qd ?_ | refine Qa ?_ | ((first | refine Qg ⟨_, rfl, fun hc => ?_, fun hc => ?_⟩ | refine QL (fun hc => ?_) (fun hc => ?_) | refine QM (fun hc => ?_) (fun hc => ?_)) <;> first | exact Bool.noConfusion hc | ((try simp only [znz] at hc); first | exact znf | skip)) | refine Qi ?_ | refine Qf ?_ | simp (maxSteps := 1000000) only [go_sem, Nat.reduceAdd, Nat.reduceMul, Nat.reduceEqDiff, Nat.reduceLeDiff, Nat.reduceLT, Nat.reduceSub, Int.reduceEq, Int.reduceBEq, Int.reduceLT, Int.reduceLE, Int.reduceAdd, Int.reduceToNat, reduceIte, reduceCtorEq, Vn, e1, hq] | (refine hK _ ?_; clear hK; clear K') | refine And.intro ?_ ?_ | exact zlo | omega | exact zms)
      all_goals first | (refine Jb _ rfl ?_; simp only [go_sem, Nat.reduceEqDiff, Nat.reduceAdd, reduceIte, reduceCtorEq]; done) | (refine Jb _ rfl ?_; simp only [go_sem, Nat.reduceEqDiff, Nat.reduceAdd, reduceIte, reduceCtorEq]; simp; done) | trace_state
  · obtain ⟨hk', hget, hr⟩ := Wx hd
    rw [hd] at hinv
    have hw := JS (k := k) (by omega)
    have e1 : decide ((k : Int) < ((s.length : Nat) : Int)) = true := by simp; omega
    rcases h1 : decide ((c.toNat : Int) ≤ 32) with _ | _
    · rcases h2 : decide ((c.toNat : Int) > 126) with _ | _
      · repeat' (first | refine Qb fun K' hK => ?_ | refine Qe fun K' hK => ?_ | refine Qc ?_ | refine Qd ?_ | refine Qa ?_ | ((first | refine Qg ⟨_, rfl, fun hc => ?_, fun hc => ?_⟩ | refine QL (fun hc => ?_) (fun hc => ?_) | refine QM (fun hc => ?_) (fun hc => ?_)) <;> first | exact Bool.noConfusion hc | ((try simp only [znz] at hc); first | exact znf | skip)) | refine Qi ?_ | refine Qf ?_ | simp (maxSteps := 1000000) only [go_sem, Nat.reduceAdd, Nat.reduceMul, Nat.reduceEqDiff, Nat.reduceLeDiff, Nat.reduceLT, Nat.reduceSub, Int.reduceEq, Int.reduceBEq, Int.reduceLT, Int.reduceLE, Int.reduceAdd, Int.reduceToNat, reduceIte, reduceCtorEq, Vn, e1, hw, Int.toNat_natCast, List.getElem?_map, hget, h1, h2] | (refine hK _ ?_; clear hK; clear K') | refine And.intro ?_ ?_ | exact zlo | omega | exact zms)
        all_goals first
          | exact hL _ (k + 1) (Q0 [(0, 0)]) ⟨by omega, by rw [hr, ← hinv]; simp only [List.any_cons, agG, h1, h2, Bool.or_self, Bool.false_or]⟩ (by omega) (YE [(0, 0)] (by simp only [go_sem, Nat.reduceAdd, Nat.reduceMul, Nat.reduceEqDiff, Nat.reduceLT, Int.reduceToNat, reduceIte, reduceCtorEq, and_true, true_and, implies_true, Option.some.injEq, exists_eq_left', Qk, Qo]; (repeat' (first | rfl | refine And.intro ?_ ?_ | omega | exact fun h => h | exact Exists.intro _ rfl))) (by simp only [go_sem, Nat.reduceAdd, Nat.reduceMul, Nat.reduceEqDiff, Nat.reduceLT, Int.reduceToNat, reduceIte, reduceCtorEq, and_true, true_and, implies_true, Option.some.injEq, exists_eq_left', Qk, Qo]; (repeat' (first | rfl | refine And.intro ?_ ?_ | omega | exact fun h => h | exact Exists.intro _ rfl))) (by simp [Q0]) (by simp; omega) (by omega))
          | trace_state
      · have hok : UP s = false := by rw [UP, ← hinv]; simp only [List.any_cons, agG, h2, Bool.or_true, Bool.true_or, Bool.not_true, Bool.false_and]
        rw [hok]
        repeat' (first | refine Qb fun K' hK => ?_ | refine Qe fun K' hK => ?_ | refine Qc ?_ | refine Qd ?_ | refine Qa ?_ | ((first | refine Qg ⟨_, rfl, fun hc => ?_, fun hc => ?_⟩ | refine QL (fun hc => ?_) (fun hc => ?_) | refine QM (fun hc => ?_) (fun hc => ?_)) <;> first | exact Bool.noConfusion hc | ((try simp only [znz] at hc); first | exact znf | skip)) | refine Qi ?_ | refine Qf ?_ | simp (maxSteps := 1000000) only [go_sem, Nat.reduceAdd, Nat.reduceMul, Nat.reduceEqDiff, Nat.reduceLeDiff, Nat.reduceLT, Nat.reduceSub, Int.reduceEq, Int.reduceBEq, Int.reduceLT, Int.reduceLE, Int.reduceAdd, Int.reduceToNat, reduceIte, reduceCtorEq, Vn, e1, hw, Int.toNat_natCast, List.getElem?_map, hget, h1, h2] | (refine hK _ ?_; clear hK; clear K') | refine And.intro ?_ ?_ | exact zlo | omega | exact zms)
        all_goals first | (refine Jb _ rfl ?_; simp only [go_sem, Nat.reduceEqDiff, Nat.reduceAdd, reduceIte, reduceCtorEq]; done) | trace_state
    · have hok : UP s = false := by rw [UP, ← hinv]; simp only [List.any_cons, agG, h1, Bool.or_true, Bool.true_or, Bool.not_true, Bool.false_and]
      rw [hok]
      repeat' (first | refine Qb fun K' hK => ?_ | refine Qe fun K' hK => ?_ | refine Qc ?_ | refine Qd ?_ | refine Qa ?_ | ((first | refine Qg ⟨_, rfl, fun hc => ?_, fun hc => ?_⟩ | refine QL (fun hc => ?_) (fun hc => ?_) | refine QM (fun hc => ?_) (fun hc => ?_)) <;> first | exact Bool.noConfusion hc | ((try simp only [znz] at hc); first | exact znf | skip)) | refine Qi ?_ | refine Qf ?_ | simp (maxSteps := 1000000) only [go_sem, Nat.reduceAdd, Nat.reduceMul, Nat.reduceEqDiff, Nat.reduceLeDiff, Nat.reduceLT, Nat.reduceSub, Int.reduceEq, Int.reduceBEq, Int.reduceLT, Int.reduceLE, Int.reduceAdd, Int.reduceToNat, reduceIte, reduceCtorEq, Vn, e1, hw, Int.toNat_natCast, List.getElem?_map, hget, h1] | (refine hK _ ?_; clear hK; clear K') | refine And.intro ?_ ?_ | exact zlo | omega | exact zms)
      all_goals first | (refine Jb _ rfl ?_; simp only [go_sem, Nat.reduceEqDiff, Nat.reduceAdd, reduceIte, reduceCtorEq]; done) | trace_state
def KT (Jg : Nat) : AC := Qr [1] (.reg [xo 1 (.box true 2 (.t 0)), mc 2 (V.bool false)]) (Qr [2] (.reg [fa 3 0 1, ld 4 1 3, ln 5 4, bc 6 .eql 5 (V.int 0), mv 7 6, xg 8 (.faddr 0 (.t 1)) 7 false, xg 9 (.load false 1 (.t 8)) 7 false, xg 10 (.call Jg [(.t 9)]) 7 false, xo 11 (.pick (.t 7) (.c (V.bool true)) (.t 10)), mv 12 11, xg 13 (.faddr 1 (.t 1)) 12 true, xg 14 (.load false 1 (.t 13)) 12 true, xg 15 (.lenL (.t 14)) 12 true, xg 16 (.bin .eql (.t 15) (.c (V.int 0))) 12 true, mg 17 16 12 true, xg 18 (.faddr 1 (.t 1)) 17 false, xg 19 (.load false 1 (.t 18)) 17 false, xg 20 (.call Jg [(.t 19)]) 17 false, xg 21 (.pick (.t 17) (.c (V.bool true)) (.t 20)) 12 true, xo 22 (.pick (.t 12) (.t 21) (.c (V.bool false))), mv 2 22]) (.ret)) def r_packages_ranged : List Wc := [.tmp 2]
def VJ (Γ : Env) (f : Nat) : Prop := ∀ (lo up : List Int) (ha : lo.length < 2 ^ 60) (hb : up.length < 2 ^ 60), EvN Γ f [wZ lo up] (V.bool (Kd lo up))
theorem vq {Γ : Env} {f Jg : Nat} (h : Has Γ.P f 23 (KT Jg) r_packages_ranged) (Jf : X5 Γ Jg) : VJ Γ f := by
  intro lo up ha hb
  refine QV h (by simp) (by simp only [V.closed, Qj, V.noSl, Jy, and_self, and_true, true_and]) (by simp only [V.closed, Qj, V.noSl, Jy, and_self, and_true, true_and]) fun C hC hm => ?_
  subst hC
  unfold KT
  have c1 := (Jf lo (by omega)).b
  have c2 := (Jf up (by omega)).b
  have e1 := vI lo
  have e2 := vI up
  unfold Kd
  rcases h1 : lo.isEmpty with _ | _ <;> rcases h2 : up.isEmpty with _ | _ <;> rcases h3 : qN lo with _ | _ <;> rw [h1] at e1 <;> rw [h2] at e2 <;> rw [h3] at c1
  all_goals
    repeat' (first | refine Qb fun K' hK => ?_ | refine Qe fun K' hK => ?_ | refine Qc ?_ | refine Qd ?_ | refine Qa ?_ | ((first | refine Qg ⟨_, rfl, fun hc => ?_, fun hc => ?_⟩ | refine QL (fun hc => ?_) (fun hc => ?_) | refine QM (fun hc => ?_) (fun hc => ?_)) <;> first | exact Bool.noConfusion hc | ((try simp only [znz] at hc); first | exact znf | skip)) | refine Qi ?_ | refine Qf ?_ | simp (maxSteps := 1000000) only [go_sem, Nat.reduceAdd, Nat.reduceMul, Nat.reduceEqDiff, Nat.reduceLeDiff, Nat.reduceLT, Nat.reduceSub, Int.reduceEq, Int.reduceBEq, Int.reduceLT, Int.reduceLE, Int.reduceAdd, Int.reduceToNat, reduceIte, reduceCtorEq, e1, e2, h1, h2, h3] | (refine hK _ ?_; clear hK; clear K') | refine And.intro ?_ ?_ | (apply QX; (focus first | exact c1 | exact c2 | exact (Jf _ zsd).b)) | exact zlo | omega | exact zms)
    all_goals first | (refine Jb _ rfl ?_; simp only [go_sem, Nat.reduceEqDiff, Nat.reduceAdd, reduceIte, reduceCtorEq]; done) | (refine Jb _ rfl ?_; simp only [go_sem, Nat.reduceEqDiff, Nat.reduceAdd, reduceIte, reduceCtorEq]; simp; done) | trace_state
def Kr : AC := Qr [1] (.reg [xo 1 (.box true 3 (.t 0)), mc 2 (V.bool false)]) (Qr [2] (.reg [fa 3 2 1, ld 4 1 3, ln 5 4, bc 6 .gtr 5 (V.int 8), mv 2 6]) (.ret)) def r_packages_Check_1 : List Wc := [.tmp 2]
def U1 (Γ : Env) (f : Nat) : Prop := ∀ (p : QK), EvN Γ f [p.v] (V.bool (decide ((p.needs.length : Int) > 8)))
theorem wB {Γ : Env} {f : Nat} (h : Has Γ.P f 7 Kr r_packages_Check_1)  : U1 Γ f := by
  intro p
  refine QV h (by simp) (by simp only [V.closed, Qj, V.noSl, Jy, and_self, and_true, true_and]) (by simp only [V.closed, Qj, V.noSl, Jy, and_self, and_true, true_and]) fun C hC hm => ?_
  subst hC
  unfold Kr
  repeat' (first | refine Qb fun K' hK => ?_ | refine Qe fun K' hK => ?_ | refine Qc ?_ | refine Qd ?_ | refine Qa ?_ | ((first | refine Qg ⟨_, rfl, fun hc => ?_, fun hc => ?_⟩ | refine QL (fun hc => ?_) (fun hc => ?_) | refine QM (fun hc => ?_) (fun hc => ?_)) <;> first | exact Bool.noConfusion hc | ((try simp only [znz] at hc); first | exact znf | skip)) | refine Qi ?_ | refine Qf ?_ | simp (maxSteps := 1000000) only [go_sem, Nat.reduceAdd, Nat.reduceMul, Nat.reduceEqDiff, Nat.reduceLeDiff, Nat.reduceLT, Nat.reduceSub, Int.reduceEq, Int.reduceBEq, Int.reduceLT, Int.reduceLE, Int.reduceAdd, Int.reduceToNat, reduceIte, reduceCtorEq, QK.v, QK.cells, List.length_map] | (refine hK _ ?_; clear hK; clear K') | refine And.intro ?_ ?_ | exact zlo | omega | exact zms)
  all_goals first | (refine Jb _ rfl ?_; simp only [go_sem, Nat.reduceEqDiff, Nat.reduceAdd, reduceIte, reduceCtorEq]; done) | trace_state
def Kq (XN : Nat) : AC := Qr [1] (.reg [xo 1 (.box true 3 (.t 0)), mc 2 (V.bool false)]) (Qr [2] (.reg [fa 3 0 1, ld 4 1 3, cl 5 XN [4], xo 6 (.un .not (.t 5)), mv 2 6]) (.ret)) def r_packages_Check_2 : List Wc := [.tmp 2]
def U0 (Γ : Env) (f : Nat) : Prop := ∀ (p : QK) (hn : p.name.length < 2 ^ 60), EvN Γ f [p.v] (V.bool (!UP p.name))
theorem wA {Γ : Env} {f XN : Nat} (h : Has Γ.P f 7 (Kq XN) r_packages_Check_2) (qS : UI Γ XN) : U0 Γ f := by
  intro p hn
  refine QV h (by simp) (by simp only [V.closed, Qj, V.noSl, Jy, and_self, and_true, true_and]) (by simp only [V.closed, Qj, V.noSl, Jy, and_self, and_true, true_and]) fun C hC hm => ?_
  subst hC
  unfold Kq
  repeat' (first | refine Qb fun K' hK => ?_ | refine Qe fun K' hK => ?_ | refine Qc ?_ | refine Qd ?_ | refine Qa ?_ | ((first | refine Qg ⟨_, rfl, fun hc => ?_, fun hc => ?_⟩ | refine QL (fun hc => ?_) (fun hc => ?_) | refine QM (fun hc => ?_) (fun hc => ?_)) <;> first | exact Bool.noConfusion hc | ((try simp only [znz] at hc); first | exact znf | skip)) | refine Qi ?_ | refine Qf ?_ | simp (maxSteps := 1000000) only [go_sem, Nat.reduceAdd, Nat.reduceMul, Nat.reduceEqDiff, Nat.reduceLeDiff, Nat.reduceLT, Nat.reduceSub, Int.reduceEq, Int.reduceBEq, Int.reduceLT, Int.reduceLE, Int.reduceAdd, Int.reduceToNat, reduceIte, reduceCtorEq, QK.v, QK.cells] | (refine hK _ ?_; clear hK; clear K') | refine And.intro ?_ ?_ | (apply QX; (focus first | exact (qS _ zsd).b)) | exact zlo | omega | exact zms)
  all_goals first | (refine Jb _ rfl ?_; simp only [go_sem, Nat.reduceEqDiff, Nat.reduceAdd, reduceIte, reduceCtorEq]; done) | trace_state
def Kp (XN : Nat) : AC := Qr [1] (.reg [xo 1 (.box true 3 (.t 0)), mc 2 (V.bool false)]) (Qr [2] (.reg [fa 3 0 1, ld 4 1 3, cl 5 XN [4], xo 6 (.un .not (.t 5)), mv 2 6]) (.ret)) def r_packages_Check_3 : List Wc := [.tmp 2]
def UZ (Γ : Env) (f : Nat) : Prop := ∀ (p : Yk) (hn : p.name.length < 2 ^ 60), EvN Γ f [p.v] (V.bool (!UP p.name))
theorem wz {Γ : Env} {f XN : Nat} (h : Has Γ.P f 7 (Kp XN) r_packages_Check_3) (qS : UI Γ XN) : UZ Γ f := by
  intro p hn
  refine QV h (by simp) (by simp only [V.closed, Qj, V.noSl, Jy, and_self, and_true, true_and]) (by simp only [V.closed, Qj, V.noSl, Jy, and_self, and_true, true_and]) fun C hC hm => ?_
  subst hC
  unfold Kp
  repeat' (first | refine Qb fun K' hK => ?_ | refine Qe fun K' hK => ?_ | refine Qc ?_ | refine Qd ?_ | refine Qa ?_ | ((first | refine Qg ⟨_, rfl, fun hc => ?_, fun hc => ?_⟩ | refine QL (fun hc => ?_) (fun hc => ?_) | refine QM (fun hc => ?_) (fun hc => ?_)) <;> first | exact Bool.noConfusion hc | ((try simp only [znz] at hc); first | exact znf | skip)) | refine Qi ?_ | refine Qf ?_ | simp (maxSteps := 1000000) only [go_sem, Nat.reduceAdd, Nat.reduceMul, Nat.reduceEqDiff, Nat.reduceLeDiff, Nat.reduceLT, Nat.reduceSub, Int.reduceEq, Int.reduceBEq, Int.reduceLT, Int.reduceLE, Int.reduceAdd, Int.reduceToNat, reduceIte, reduceCtorEq, Yk.v, Yk.cells] | (refine hK _ ?_; clear hK; clear K') | refine And.intro ?_ ?_ | (apply QX; (focus first | exact (qS _ zsd).b)) | exact zlo | omega | exact zms)
  all_goals first | (refine Jb _ rfl ?_; simp only [go_sem, Nat.reduceEqDiff, Nat.reduceAdd, reduceIte, reduceCtorEq]; done) | trace_state
def Ko (Jg : Nat) : AC := Qr [1] (.reg [xo 1 (.box true 3 (.t 0)), mc 2 (V.bool false)]) (Qr [2] (.reg [fa 3 1 1, ld 4 1 3, cl 5 Jg [4], xo 6 (.un .not (.t 5)), mv 2 6]) (.ret)) def r_packages_Check_4 : List Wc := [.tmp 2]
def UY (Γ : Env) (f : Nat) : Prop := ∀ (p : QK) (hn : p.ver.length < 2 ^ 60), EvN Γ f [p.v] (V.bool (!qN p.ver))
theorem wx {Γ : Env} {f Jg : Nat} (h : Has Γ.P f 7 (Ko Jg) r_packages_Check_4) (Jf : X5 Γ Jg) : UY Γ f := by
  intro p hn
  refine QV h (by simp) (by simp only [V.closed, Qj, V.noSl, Jy, and_self, and_true, true_and]) (by simp only [V.closed, Qj, V.noSl, Jy, and_self, and_true, true_and]) fun C hC hm => ?_
  subst hC
  unfold Ko
  have g := (Jf p.ver (by omega)).b
  repeat' (first | refine Qb fun K' hK => ?_ | refine Qe fun K' hK => ?_ | refine Qc ?_ | refine Qd ?_ | refine Qa ?_ | ((first | refine Qg ⟨_, rfl, fun hc => ?_, fun hc => ?_⟩ | refine QL (fun hc => ?_) (fun hc => ?_) | refine QM (fun hc => ?_) (fun hc => ?_)) <;> first | exact Bool.noConfusion hc | ((try simp only [znz] at hc); first | exact znf | skip)) | refine Qi ?_ | refine Qf ?_ | simp (maxSteps := 1000000) only [go_sem, Nat.reduceAdd, Nat.reduceMul, Nat.reduceEqDiff, Nat.reduceLeDiff, Nat.reduceLT, Nat.reduceSub, Int.reduceEq, Int.reduceBEq, Int.reduceLT, Int.reduceLE, Int.reduceAdd, Int.reduceToNat, reduceIte, reduceCtorEq, QK.v, QK.cells] | (refine hK _ ?_; clear hK; clear K') | refine And.intro ?_ ?_ | (apply QX; (focus first | exact g | exact (Jf _ zsd).b)) | exact zlo | omega | exact zms)
  all_goals first | (refine Jb _ rfl ?_; simp only [go_sem, Nat.reduceEqDiff, Nat.reduceAdd, reduceIte, reduceCtorEq]; done) | trace_state
def Kn (YW : Nat) : AC := Qr [1] (.reg [xo 1 (.box true 3 (.t 0)), mc 2 (V.bool false)]) (Qr [2] (.reg [fa 3 1 1, xo 4 (.load true 2 (.t 3)), cl 5 YW [4], xo 6 (.un .not (.t 5)), mv 2 6]) (.ret)) def r_packages_Check_5 : List Wc := [.tmp 2]
def UX (Γ : Env) (f : Nat) : Prop := ∀ (p : Yk) (ha : p.lo.length < 2 ^ 60) (hb : p.up.length < 2 ^ 60), EvN Γ f [p.v] (V.bool (!Kd p.lo p.up))
theorem ww {Γ : Env} {f YW : Nat} (h : Has Γ.P f 7 (Kn YW) r_packages_Check_5) (WS : VJ Γ YW) : UX Γ f := by
  intro p ha hb
  refine QV h (by simp) (by simp only [V.closed, Qj, V.noSl, Jy, and_self, and_true, true_and]) (by simp only [V.closed, Qj, V.noSl, Jy, and_self, and_true, true_and]) fun C hC hm => ?_
  subst hC
  unfold Kn
  have g := (WS p.lo p.up ha hb).b
  repeat' (first | refine Qb fun K' hK => ?_ | refine Qe fun K' hK => ?_ | refine Qc ?_ | refine Qd ?_ | refine Qa ?_ | ((first | refine Qg ⟨_, rfl, fun hc => ?_, fun hc => ?_⟩ | refine QL (fun hc => ?_) (fun hc => ?_) | refine QM (fun hc => ?_) (fun hc => ?_)) <;> first | exact Bool.noConfusion hc | ((try simp only [znz] at hc); first | exact znf | skip)) | refine Qi ?_ | refine Qf ?_ | simp (maxSteps := 1000000) only [go_sem, Nat.reduceAdd, Nat.reduceMul, Nat.reduceEqDiff, Nat.reduceLeDiff, Nat.reduceLT, Nat.reduceSub, Int.reduceEq, Int.reduceBEq, Int.reduceLT, Int.reduceLE, Int.reduceAdd, Int.reduceToNat, reduceIte, reduceCtorEq, Yk.v, Yk.cells] | (refine hK _ ?_; clear hK; clear K') | refine And.intro ?_ ?_ | (apply QX; (focus first | exact g | exact (WS _ _ zsd zsd).b)) | exact zlo | omega | exact zms)
  all_goals first | (refine Jb _ rfl ?_; simp only [go_sem, Nat.reduceEqDiff, Nat.reduceAdd, reduceIte, reduceCtorEq]; done) | trace_state
def qA (JQ : Nat) : AC := Qr [1, 2, 3] (.reg [xo 3 (.box true 3 (.t 0)), mc 4 (V.bool false)]) (Qr [4] (.reg [ld 5 1 1, xo 6 (.load true 3 (.t 3)), xo 7 (.callv (.t 5) [(.t 6)]), mv 8 7, xg 9 (.faddr 2 (.t 3)) 8 false, xg 10 (.load false 1 (.t 9)) 8 false, xg 11 (.load false 1 (.t 2)) 8 false, xg 12 (.call JQ [(.t 10), (.t 11)]) 8 false, xo 13 (.pick (.t 8) (.c (V.bool true)) (.t 12)), mv 4 13]) (.ret)) def r_packages_any_1 : List Wc := [.tmp 4]
def qa (Γ : Env) (f : Nat) : Prop := ∀ (x : QK) (g1 : Nat) (c1 : List V) (g2 : Nat) (c2 : List V) (p : QK → Bool) (q : Yk → Bool) (hp : EvN Γ g1 (x.v :: c1) (V.bool (p x))) (hq : ∀ y ∈ x.needs, EvN Γ g2 (y.v :: c2) (V.bool (q y))) (hc1 : Qj c1) (hc2 : Qj c2) (hl : x.needs.length < 2 ^ 62), EvN Γ f [x.v, .ro [.clo g1 c1] 0, .ro [.clo g2 c2] 0] (V.bool (p x || x.needs.any q))
theorem aaC {Γ : Env} {f JQ : Nat} (h : Has Γ.P f 14 (qA JQ) r_packages_any_1) (Yq : Yn Γ JQ) : qa Γ f := by
  intro x g1 c1 g2 c2 p q hp hq hc1 hc2 hl
  refine QV h (by simp) (by simp only [V.closed, Qj, V.noSl, Jy, and_self, and_true, true_and]) (by simp only [V.closed, Qj, V.noSl, Jy, and_self, and_true, true_and]) fun C hC hm => ?_
  subst hC
  unfold qA
  have s1 : ∀ o, XY o c1 = c1 := fun o => Yp o c1 hc1
  have s2 : ∀ o B, JB o B c1 = True := fun o B => eq_true (JR o B c1 hc1)
  have s3 : ∀ o, XY o c2 = c2 := fun o => Yp o c2 hc2
  have s4 : ∀ o B, JB o B c2 = True := fun o B => eq_true (JR o B c2 hc2)
  have gq := (Yq x.needs g2 c2 q hq hc2 hl).b
  have gp := hp.b
  simp only [QK.v, QK.cells] at gp
  rcases hpx : p x with _ | _
  · rw [hpx] at gp
    repeat' (first | refine Qb fun K' hK => ?_ | refine Qe fun K' hK => ?_ | refine Qc ?_ | refine Qd ?_ | refine Qa ?_ | ((first | refine Qg ⟨_, rfl, fun hc => ?_, fun hc => ?_⟩ | refine QL (fun hc => ?_) (fun hc => ?_) | refine QM (fun hc => ?_) (fun hc => ?_)) <;> first | exact Bool.noConfusion hc | ((try simp only [znz] at hc); first | exact znf | skip)) | refine Qi ?_ | refine Qf ?_ | simp (maxSteps := 1000000) only [go_sem, Nat.reduceAdd, Nat.reduceMul, Nat.reduceEqDiff, Nat.reduceLeDiff, Nat.reduceLT, Nat.reduceSub, Int.reduceEq, Int.reduceBEq, Int.reduceLT, Int.reduceLE, Int.reduceAdd, Int.reduceToNat, reduceIte, reduceCtorEq, QK.v, QK.cells, s1, s2, s3, s4] | (refine hK _ ?_; clear hK; clear K') | refine And.intro ?_ ?_ | (apply QX; (focus first | exact gp | exact gq | exact (Yq _ _ _ _ zsd zsd zsd).b)) | exact zlo | omega | exact zms)
    all_goals first | (refine Jb _ rfl ?_; simp only [go_sem, Nat.reduceEqDiff, Nat.reduceAdd, reduceIte, reduceCtorEq]; done) | (refine Jb _ rfl ?_; simp only [go_sem, Nat.reduceEqDiff, Nat.reduceAdd, reduceIte, reduceCtorEq]; simp; done) | trace_state
  · rw [hpx] at gp
    repeat' (first | refine Qb fun K' hK => ?_ | refine Qe fun K' hK => ?_ | refine Qc ?_ | refine Qd ?_ | refine Qa ?_ | ((first | refine Qg ⟨_, rfl, fun hc => ?_, fun hc => ?_⟩ | refine QL (fun hc => ?_) (fun hc => ?_) | refine QM (fun hc => ?_) (fun hc => ?_)) <;> first | exact Bool.noConfusion hc | ((try simp only [znz] at hc); first | exact znf | skip)) | refine Qi ?_ | refine Qf ?_ | simp (maxSteps := 1000000) only [go_sem, Nat.reduceAdd, Nat.reduceMul, Nat.reduceEqDiff, Nat.reduceLeDiff, Nat.reduceLT, Nat.reduceSub, Int.reduceEq, Int.reduceBEq, Int.reduceLT, Int.reduceLE, Int.reduceAdd, Int.reduceToNat, reduceIte, reduceCtorEq, QK.v, QK.cells, s1, s2, s3, s4] | (refine hK _ ?_; clear hK; clear K') | refine And.intro ?_ ?_ | (apply QX; (focus first | exact gp | exact gq | exact (Yq _ _ _ _ zsd zsd zsd).b)) | exact zlo | omega | exact zms)
    all_goals first | (refine Jb _ rfl ?_; simp only [go_sem, Nat.reduceEqDiff, Nat.reduceAdd, reduceIte, reduceCtorEq]; done) | (refine Jb _ rfl ?_; simp only [go_sem, Nat.reduceEqDiff, Nat.reduceAdd, reduceIte, reduceCtorEq]; simp; done) | trace_state
end Av
end
section
set_option linter.unusedSimpArgs false
set_option linter.unusedVariables false
set_option maxRecDepth 10000
set_option maxHeartbeats 4000000
namespace Av
open Go
attribute [local irreducible] AWp Wz WQ W4 awS awC V1 awQ Ue Jc YR VY awR YY awB okR Wt ris
theorem afG {n : Int} (h0 : 0 ≤ n) (h1 : n < 2 ^ 64) : IntKind.u64.wrap n = n := by
  have e1 : IntKind.u64.bits = 64 := rfl
  have e2 : IntKind.u64.signed = false := rfl
  simp only [IntKind.wrap, e1, e2, Bool.false_and, Bool.false_eq_true, if_false]
  omega
abbrev V.u64 (n : Int) : V := .sc (.int .u64 n)
def alR : Nat → Int
  | 0 => 0 | 1 => 1 | 2 => 2 | 3 => 2 | 4 => 3 | 5 => 3 | 6 => 3 | 7 => 3 | 8 => 4 | 9 => 4 | 10 => 4 | 11 => 4 | _ => 4
def KY : AC := Qr [0, 2] (.reg [mc 2 (V.int 0)]) (Qr [0, 2] (Qr [0, 2, 4] (.reg [mv 3 0, bc 4 .geq 3 (.sc (.int .u64 4294967296))]) (.cond (.t 4) (Qr [0] (.reg [mv 5 0, bc 6 .shr 5 (.sc (.int .u64 32)), mv 0 6]) (.reg [mc 2 (V.int 32)])) (.skip))) (Qr [0, 2] (Qr [0, 2, 8] (.reg [mv 7 0, bc 8 .geq 7 (.sc (.int .u64 65536))]) (.cond (.t 8) (Qr [0, 2] (.reg [mv 9 0, bc 10 .shr 9 (.sc (.int .u64 16)), mv 0 10]) (.reg [mv 11 2, bc 12 .add 11 (V.int 16), mv 2 12])) (.skip))) (Qr [0, 2] (Qr [0, 2, 14] (.reg [mv 13 0, bc 14 .geq 13 (.sc (.int .u64 256))]) (.cond (.t 14) (Qr [0, 2] (.reg [mv 15 0, bc 16 .shr 15 (.sc (.int .u64 8)), mv 0 16]) (.reg [mv 17 2, bc 18 .add 17 (V.int 8), mv 2 18])) (.skip))) (Qr [2] (.reg [mv 19 2, mv 20 0, xo 21 (.convI .u8 (.t 20)), xo 22 (.idxS (.c (V.str [0, 1, 2, 2, 3, 3, 3, 3, 4, 4, 4, 4, 4, 4, 4, 4, 5, 5, 5, 5, 5, 5, 5, 5, 5, 5, 5, 5, 5, 5, 5, 5, 6, 6, 6, 6, 6, 6, 6, 6, 6, 6, 6, 6, 6, 6, 6, 6, 6, 6, 6, 6, 6, 6, 6, 6, 6, 6, 6, 6, 6, 6, 6, 6, 7, 7, 7, 7, 7, 7, 7, 7, 7, 7, 7, 7, 7, 7, 7, 7, 7, 7, 7, 7, 7, 7, 7, 7, 7, 7, 7, 7, 7, 7, 7, 7, 7, 7, 7, 7, 7, 7, 7, 7, 7, 7, 7, 7, 7, 7, 7, 7, 7, 7, 7, 7, 7, 7, 7, 7, 7, 7, 7, 7, 7, 7, 7, 7, 8, 8, 8, 8, 8, 8, 8, 8, 8, 8, 8, 8, 8, 8, 8, 8, 8, 8, 8, 8, 8, 8, 8, 8, 8, 8, 8, 8, 8, 8, 8, 8, 8, 8, 8, 8, 8, 8, 8, 8, 8, 8, 8, 8, 8, 8, 8, 8, 8, 8, 8, 8, 8, 8, 8, 8, 8, 8, 8, 8, 8, 8, 8, 8, 8, 8, 8, 8, 8, 8, 8, 8, 8, 8, 8, 8, 8, 8, 8, 8, 8, 8, 8, 8, 8, 8, 8, 8, 8, 8, 8, 8, 8, 8, 8, 8, 8, 8, 8, 8, 8, 8, 8, 8, 8, 8, 8, 8, 8, 8, 8, 8, 8, 8, 8, 8, 8, 8, 8, 8, 8, 8, 8, 8, 8, 8, 8, 8])) (.t 21)), xo 23 (.convI .i64 (.t 22)), bn 24 .add 19 23, mv 2 24]) (.ret))))) def r_math_bits_Len64 : List Wc := [.tmp 2]
def Kz (Γ : Env) (f : Nat) : Prop := ∀ (n : Nat) (hn : n ≤ 12), EvN Γ f [V.u64 n] (V.int (alR n))
theorem vB {Γ : Env} {f : Nat} (h : Has Γ.P f 25 KY r_math_bits_Len64)  : Kz Γ f := by
  intro n hn
  refine QV h (by simp) (by simp only [V.closed, Qj, V.noSl, Jy, and_self, and_true, true_and]) (by simp only [V.closed, Qj, V.noSl, Jy, and_self, and_true, true_and]) fun C hC hm => ?_
  subst hC
  unfold KY
  have hn' : n = 0 ∨ n = 1 ∨ n = 2 ∨ n = 3 ∨ n = 4 ∨ n = 5 ∨ n = 6 ∨ n = 7 ∨ n = 8 ∨ n = 9 ∨ n = 10 ∨ n = 11 ∨ n = 12 := by omega
  have e1 : decide ((n : Int) ≥ 4294967296) = false := by simp; omega
  have e2 : decide ((n : Int) ≥ 65536) = false := by simp; omega
  have e3 : decide ((n : Int) ≥ 256) = false := by simp; omega
  have hw : IntKind.u8.wrap (n : Int) = (n : Int) := aj1 (by omega) (by omega)
  obtain ⟨c, hc1, hc2⟩ : ∃ c : UInt8, ([0, 1, 2, 2, 3, 3, 3, 3, 4, 4, 4, 4, 4] : List UInt8)[n]? = some c ∧ (c.toNat : Int) = alR n := by
    rcases hn' with rfl | rfl | rfl | rfl | rfl | rfl | rfl | rfl | rfl | rfl | rfl | rfl | rfl <;> exact ⟨_, rfl, rfl⟩
  have hget : ∀ l : List UInt8, l.take 13 = [0, 1, 2, 2, 3, 3, 3, 3, 4, 4, 4, 4, 4] → l[n]? = some c := fun l hl => by
    rw [← hc1, ← hl, List.getElem?_take, if_pos (by omega)]
  have hc3 : 0 ≤ (c.toNat : Int) ∧ (c.toNat : Int) < 256 := by have := c.toNat_lt; omega
  have hw2 : IntKind.i64.wrap (c.toNat : Int) = (c.toNat : Int) := Wl (by omega) (by omega)
  have hw3 : IntKind.i64.wrap (0 + (c.toNat : Int)) = (c.toNat : Int) := by rw [Int.zero_add, hw2]
  rw [← hc2]
  have hg : ([0, 1, 2, 2, 3, 3, 3, 3, 4, 4, 4, 4, 4, 4, 4, 4, 5, 5, 5, 5, 5, 5, 5, 5, 5, 5, 5, 5, 5, 5, 5, 5, 6, 6, 6, 6, 6, 6, 6, 6, 6, 6, 6, 6, 6, 6, 6, 6, 6, 6, 6, 6, 6, 6, 6, 6, 6, 6, 6, 6, 6, 6, 6, 6, 7, 7, 7, 7, 7, 7, 7, 7, 7, 7, 7, 7, 7, 7, 7, 7, 7, 7, 7, 7, 7, 7, 7, 7, 7, 7, 7, 7, 7, 7, 7, 7, 7, 7, 7, 7, 7, 7, 7, 7, 7, 7, 7, 7, 7, 7, 7, 7, 7, 7, 7, 7, 7, 7, 7, 7, 7, 7, 7, 7, 7, 7, 7, 7, 8, 8, 8, 8, 8, 8, 8, 8, 8, 8, 8, 8, 8, 8, 8, 8, 8, 8, 8, 8, 8, 8, 8, 8, 8, 8, 8, 8, 8, 8, 8, 8, 8, 8, 8, 8, 8, 8, 8, 8, 8, 8, 8, 8, 8, 8, 8, 8, 8, 8, 8, 8, 8, 8, 8, 8, 8, 8, 8, 8, 8, 8, 8, 8, 8, 8, 8, 8, 8, 8, 8, 8, 8, 8, 8, 8, 8, 8, 8, 8, 8, 8, 8, 8, 8, 8, 8, 8, 8, 8, 8, 8, 8, 8, 8, 8, 8, 8, 8, 8, 8, 8, 8, 8, 8, 8, 8, 8, 8, 8, 8, 8, 8, 8, 8, 8, 8, 8, 8, 8, 8, 8, 8, 8, 8, 8, 8, 8] : List UInt8)[n]? = some c := hget _ rfl
  repeat' (first | refine Qb fun K' hK => ?_ | refine Qe fun K' hK => ?_ | refine Qc ?_ | refine Qd ?_ | refine Qa ?_ | ((first | refine Qg ⟨_, rfl, fun hc => ?_, fun hc => ?_⟩ | refine QL (fun hc => ?_) (fun hc => ?_) | refine QM (fun hc => ?_) (fun hc => ?_)) <;> first | exact Bool.noConfusion hc | ((try simp only [znz] at hc); first | exact znf | skip)) | refine Qi ?_ | refine Qf ?_ | simp (maxSteps := 1000000) only [go_sem, Nat.reduceAdd, Nat.reduceMul, Nat.reduceEqDiff, Nat.reduceLeDiff, Nat.reduceLT, Nat.reduceSub, Int.reduceEq, Int.reduceBEq, Int.reduceLT, Int.reduceLE, Int.reduceAdd, Int.reduceToNat, reduceIte, reduceCtorEq, e1, e2, e3, hw, hg, hw2, hw3] | (refine hK _ ?_; clear hK; clear K') | refine And.intro ?_ ?_ | exact zlo | omega | exact zms)
  all_goals first | (refine Jb _ rfl ?_; simp only [go_sem, Nat.reduceEqDiff, Nat.reduceAdd, reduceIte, reduceCtorEq]; done) | trace_state
def q8 (KO V7 : Nat) : AC := Qr [0] (.reg [mc 2 (V.int 0)]) (Qr [0] (.cond (.c (V.bool false)) (Qr [2] (.reg [mv 3 0, xo 4 (.convI .u32 (.t 3)), cl 5 KO [4], mv 2 5]) (.ret)) (.skip)) (Qr [2] (.reg [mv 6 0, cl 7 V7 [6], mv 2 7]) (.ret))) def r_math_bits_Len : List Wc := [.tmp 2]
def Vx (Γ : Env) (f : Nat) : Prop := ∀ (n : Nat) (hn : n ≤ 12), EvN Γ f [V.u64 n] (V.int (alR n))
theorem abf {Γ : Env} {f KO V7 : Nat} (h : Has Γ.P f 8 (q8 KO V7) r_math_bits_Len) (aay : Kz Γ V7) : Vx Γ f := by
  intro n hn
  refine QV h (by simp) (by simp only [V.closed, Qj, V.noSl, Jy, and_self, and_true, true_and]) (by simp only [V.closed, Qj, V.noSl, Jy, and_self, and_true, true_and]) fun C hC hm => ?_
  subst hC
  unfold q8
  repeat' (first | refine Qb fun K' hK => ?_ | refine Qe fun K' hK => ?_ | refine Qc ?_ | refine Qd ?_ | refine Qa ?_ | ((first | refine Qg ⟨_, rfl, fun hc => ?_, fun hc => ?_⟩ | refine QL (fun hc => ?_) (fun hc => ?_) | refine QM (fun hc => ?_) (fun hc => ?_)) <;> first | exact Bool.noConfusion hc | ((try simp only [znz] at hc); first | exact znf | skip)) | refine Qi ?_ | refine Qf ?_ | simp (maxSteps := 1000000) only [go_sem, Nat.reduceAdd, Nat.reduceMul, Nat.reduceEqDiff, Nat.reduceLeDiff, Nat.reduceLT, Nat.reduceSub, Int.reduceEq, Int.reduceBEq, Int.reduceLT, Int.reduceLE, Int.reduceAdd, Int.reduceToNat, reduceIte, reduceCtorEq] | (refine hK _ ?_; clear hK; clear K') | refine And.intro ?_ ?_ | (apply QX; (focus first | exact (aay _ zsd).b)) | exact zlo | omega | exact zms)
  all_goals first | (refine Jb _ rfl ?_; simp only [go_sem, Nat.reduceEqDiff, Nat.reduceAdd, reduceIte, reduceCtorEq]; done) | trace_state
theorem adg {Γ : Env} {f : Nat} (h : Vx Γ f) (n : Nat) (hn : n ≤ 12) : ∃ lim : Int, EvN Γ f [V.u64 n] (V.int lim) := ⟨_, h n hn⟩
def jO (YJ : Nat) : AC := Qr [0, 1] (.reg [mc 4 (V.bool false)]) (Qr [4] (.reg [mv 5 0, cl 6 YJ [5], mv 7 6, mg 8 1 7 true, xg 9 (.call YJ [(.t 8)]) 7 true, xg 10 (.un .not (.t 9)) 7 true, xo 11 (.pick (.t 7) (.t 10) (.c (V.bool false))), mv 12 11, mg 13 0 12 false, mg 14 1 12 false, xg 15 (.bin .lss (.t 13) (.t 14)) 12 false, xo 16 (.pick (.t 12) (.c (V.bool true)) (.t 15)), mv 4 16]) (.ret)) def r_cmp_Less_int : List Wc := [.tmp 4]
def KA (Γ : Env) (f : Nat) : Prop := ∀ (a b : Int), EvN Γ f [V.int a, V.int b] (V.bool (decide (a < b)))
theorem ab2 {Γ : Env} {f YJ : Nat} (h : Has Γ.P f 17 (jO YJ) r_cmp_Less_int) (VQ : UH Γ YJ) : KA Γ f := by
  intro a b
  refine QV h (by simp) (by simp only [V.closed, Qj, V.noSl, Jy, and_self, and_true, true_and]) (by simp only [V.closed, Qj, V.noSl, Jy, and_self, and_true, true_and]) fun C hC hm => ?_
  subst hC
  unfold jO
  repeat' (first | refine Qb fun K' hK => ?_ | refine Qe fun K' hK => ?_ | refine Qc ?_ | refine Qd ?_ | refine Qa ?_ | ((first | refine Qg ⟨_, rfl, fun hc => ?_, fun hc => ?_⟩ | refine QL (fun hc => ?_) (fun hc => ?_) | refine QM (fun hc => ?_) (fun hc => ?_)) <;> first | exact Bool.noConfusion hc | ((try simp only [znz] at hc); first | exact znf | skip)) | refine Qi ?_ | refine Qf ?_ | simp (maxSteps := 1000000) only [go_sem, Nat.reduceAdd, Nat.reduceMul, Nat.reduceEqDiff, Nat.reduceLeDiff, Nat.reduceLT, Nat.reduceSub, Int.reduceEq, Int.reduceBEq, Int.reduceLT, Int.reduceLE, Int.reduceAdd, Int.reduceToNat, reduceIte, reduceCtorEq] | (refine hK _ ?_; clear hK; clear K') | refine And.intro ?_ ?_ | (apply QX; (focus first | exact (VQ _).b)) | exact zlo | omega | exact zms)
  all_goals first | (refine Jb _ rfl ?_; simp only [go_sem, Nat.reduceEqDiff, Nat.reduceAdd, reduceIte, reduceCtorEq]; done) | trace_state
end Av
end
section
set_option linter.unusedSimpArgs false
set_option linter.unusedVariables false
set_option maxRecDepth 10000
set_option maxHeartbeats 4000000
namespace Av
open Go
attribute [local irreducible] AWp Wz WQ W4 awS awC V1 awQ Ue Jc YR VY awR YY awB okR Wt ris
section
variable {α : Type}
def wo (eq : α → α → Bool) : α → List α → List α
  | _, [] => []
  | p, x :: r => if eq x p = true then wo eq x r else x :: wo eq x r
def wq (eq : α → α → Bool) : List α → List α
  | [] => []
  | x :: r => x :: wo eq x r
theorem aeu {eq : α → α → Bool} (he : ∀ x y, eq x y = true → x = y) {y : α} : ∀ (l : List α) (p : α), y ∈ p :: wo eq p l ↔ y ∈ p :: l
  | [], p => by simp [wo]
  | x :: r, p => by
    have ih := aeu he (y := y) r x
    rw [wo]
    by_cases h : eq x p = true
    · rw [if_pos h]
      have := he _ _ h
      subst this
      rw [ih]; simp
    · rw [if_neg h, List.mem_cons, ih, List.mem_cons (a := y) (l := x :: r)]
theorem ait {eq : α → α → Bool} (he : ∀ x y, eq x y = true → x = y) {y : α} : ∀ l : List α, y ∈ wq eq l ↔ y ∈ l
  | [] => by simp [wq]
  | x :: r => aeu he r x
end
end Av
end
section
set_option linter.unusedSimpArgs false
set_option linter.unusedVariables false
set_option maxRecDepth 10000
set_option maxHeartbeats 4000000
namespace Av
open Go
attribute [local irreducible] AWp Wz WQ W4 awS awC V1 awQ Ue Jc YR VY awR YY awB okR Wt ris
abbrev PU := Int × Int
def usV (u : PU) : V := .agg [V.int u.1, V.int u.2]
end Av
end
section
set_option linter.unusedSimpArgs false
set_option linter.unusedVariables false
set_option maxRecDepth 10000
set_option maxHeartbeats 4000000
namespace Av
open Go
attribute [local irreducible] AWp Wz WQ W4 awS awC V1 awQ Ue Jc YR VY awR YY awB okR Wt ris
def Xd : AC := Qr [0, 1] (.reg [mc 4 (V.int 0)]) (Qr [] (Qr [0, 1, 7, 8] (.reg [mv 6 0, ln 7 6, mc 8 (V.int 0)]) (.block 0 (W5 [0, 1, 7, 8] (Qr [0, 1, 7, 8, 9] (.reg [bn 9 .lss 8 7]) (Qr [0, 1, 7, 8] (.cond (.t 9) (.skip) (.exit 0)) (Qr [0, 1, 7, 8] (.block 1 (Qr [0, 1, 5, 7, 8] (.reg [mv 10 8, mv 5 10]) (Qr [0, 1, 5, 7, 8, 16] (.reg [mv 11 1, mv 12 0, mv 13 5, ia 14 2 12 13, xo 15 (.load true 2 (.t 14)), xo 16 (.callv (.t 11) [(.t 15)])]) (.cond (.t 16) (Qr [4] (.reg [mv 17 5, mv 4 17]) (.ret)) (.skip))))) (.reg [bc 18 .add 8 (V.int 1), mv 8 18]))))))) (Qr [4] (.reg [mc 4 (V.int (-1))]) (.ret))) def r_slices_IndexFunc___api_Use_api_Use : List Wc := [.tmp 4]
def Y3 (Γ : Env) (f : Nat) : Prop := ∀ (xs : List PU) (g : Nat) (cap : List V) (p : PU → Bool) (hp : ∀ x ∈ xs, EvN Γ g (usV x :: cap) (V.bool (p x))) (hcap : Qj cap) (hl : xs.length < 2 ^ 62), EvN Γ f [.sl 2 (xs.map usV), .clo g cap] (V.int (wM p 0 xs))
theorem Un {Γ : Env} {f : Nat} (h : Has Γ.P f 19 Xd r_slices_IndexFunc___api_Use_api_Use)  : Y3 Γ f := by
  intro xs g cap p hp hcap hl
  refine QV h (by simp) (by simp only [V.closed, Qj, V.noSl, Jy, and_self, and_true, true_and]) (by simp only [V.closed, Qj, V.noSl, Jy, and_self, and_true, true_and]) fun C hC hm => ?_
  subst hC
  unfold Xd
  have s1 : ∀ o, XY o cap = cap := fun o => Yp o cap hcap
  have s2 : ∀ o B, JB o B cap = True := fun o B => eq_true (JR o B cap hcap)
  repeat' (first | refine Qb fun K' hK => ?_ | refine Qe fun K' hK => ?_ | refine Qc ?_ | refine Qd ?_ | refine Qa ?_ | ((first | refine Qg ⟨_, rfl, fun hc => ?_, fun hc => ?_⟩ | refine QL (fun hc => ?_) (fun hc => ?_) | refine QM (fun hc => ?_) (fun hc => ?_)) <;> first | exact Bool.noConfusion hc | ((try simp only [znz] at hc); first | exact znf | skip)) | refine Qi ?_ | refine Qf ?_ | simp (maxSteps := 1000000) only [go_sem, Nat.reduceAdd, Nat.reduceMul, Nat.reduceEqDiff, Nat.reduceLeDiff, Nat.reduceLT, Nat.reduceSub, Int.reduceEq, Int.reduceBEq, Int.reduceLT, Int.reduceLE, Int.reduceAdd, Int.reduceToNat, reduceIte, reduceCtorEq] | (refine hK _ ?_; clear hK; clear K') | refine And.intro ?_ ?_ | exact zlo | omega | exact zms)
  refine Vv (ι := Nat) (fun k => k ≤ xs.length ∧ wM p k (xs.drop k) = wM p 0 xs) (fun k => [(8, V.int k)]) (fun k => xs.length - k) 0 (by omega) ⟨by simp, by simp⟩ (by repeat' first | exact UE | refine qu (by omega) (by simp only [Ob.lt, ltL, V.lt, and_self, and_true]; try omega) ?_) (fun i hi => by simp only [ovT, XZ, Nat.reduceEqDiff, reduceIte]; (repeat' first | exact qt | refine UD ?_ ?_ | simp only [V.lt, ltL, and_self, and_true] | omega); exact U5 _ _ hcap) (by simp only [Nat.reduceAdd, ovT, XZ, Nat.reduceEqDiff, reduceIte, Yx, XO, wL, u32, u33, u34, u35, u36, u37, u38, u39, and_self, and_true, true_and]; first | rfl | exact Qk _ _ hcap) fun k hk K' hL => ?_
  obtain ⟨hk, hinv⟩ := hk
  simp only [ovT, XZ, Nat.reduceEqDiff, reduceIte]
  rcases hd : xs.drop k with _ | ⟨y, r⟩
  · have := Vg hd
    rw [hd] at hinv
    have e1 : decide ((k : Int) < (((xs.map usV).length : Nat) : Int)) = false := by simp; omega
    repeat' (first | refine Qb fun K' hK => ?_ | refine Qe fun K' hK => ?_ | refine Qc ?_ | refine Qd ?_ | refine Qa ?_ | ((first | refine Qg ⟨_, rfl, fun hc => ?_, fun hc => ?_⟩ | refine QL (fun hc => ?_) (fun hc => ?_) | refine QM (fun hc => ?_) (fun hc => ?_)) <;> first | exact Bool.noConfusion hc | ((try simp only [znz] at hc); first | exact znf | skip)) | refine Qi ?_ | refine Qf ?_ | simp (maxSteps := 1000000) only [go_sem, Nat.reduceAdd, Nat.reduceMul, Nat.reduceEqDiff, Nat.reduceLeDiff, Nat.reduceLT, Nat.reduceSub, Int.reduceEq, Int.reduceBEq, Int.reduceLT, Int.reduceLE, Int.reduceAdd, Int.reduceToNat, reduceIte, reduceCtorEq, e1] | (refine hK _ ?_; clear hK; clear K') | refine And.intro ?_ ?_ | exact zlo | omega | exact zms)
    refine Jb _ rfl ?_
    simp only [go_sem, Nat.reduceEqDiff, Nat.reduceAdd, reduceIte, reduceCtorEq]
    rw [← hinv]; rfl
  · obtain ⟨hk, hget, hr⟩ := Wx hd
    rw [hd] at hinv
    have hw := JS (k := k) (by omega)
    have e1 : decide ((k : Int) < (((xs.map usV).length : Nat) : Int)) = true := by simp; omega
    have hpy := hp y (List.mem_of_getElem? hget)
    by_cases hy : p y = true
    · rw [hy] at hpy
      repeat' (first | refine Qb fun K' hK => ?_ | refine Qe fun K' hK => ?_ | refine Qc ?_ | refine Qd ?_ | refine Qa ?_ | ((first | refine Qg ⟨_, rfl, fun hc => ?_, fun hc => ?_⟩ | refine QL (fun hc => ?_) (fun hc => ?_) | refine QM (fun hc => ?_) (fun hc => ?_)) <;> first | exact Bool.noConfusion hc | ((try simp only [znz] at hc); first | exact znf | skip)) | refine Qi ?_ | refine Qf ?_ | simp (maxSteps := 1000000) only [go_sem, Nat.reduceAdd, Nat.reduceMul, Nat.reduceEqDiff, Nat.reduceLeDiff, Nat.reduceLT, Nat.reduceSub, Int.reduceEq, Int.reduceBEq, Int.reduceLT, Int.reduceLE, Int.reduceAdd, Int.reduceToNat, reduceIte, reduceCtorEq, Int.toNat_natCast, List.getElem?_map, hget, hw, e1, usV, s1, s2] | (refine hK _ ?_; clear hK; clear K') | refine And.intro ?_ ?_ | (apply QX; (focus first | exact hpy.b)) | exact zlo | omega | exact zms)
      refine Jb _ rfl ?_; simp only [go_sem, Nat.reduceEqDiff, Nat.reduceAdd, reduceIte, reduceCtorEq]
      rw [← hinv]; simp [wM, hy]
    · have hy' : p y = false := by simpa using hy
      rw [hy'] at hpy
      repeat' (first | refine Qb fun K' hK => ?_ | refine Qe fun K' hK => ?_ | refine Qc ?_ | refine Qd ?_ | refine Qa ?_ | ((first | refine Qg ⟨_, rfl, fun hc => ?_, fun hc => ?_⟩ | refine QL (fun hc => ?_) (fun hc => ?_) | refine QM (fun hc => ?_) (fun hc => ?_)) <;> first | exact Bool.noConfusion hc | ((try simp only [znz] at hc); first | exact znf | skip)) | refine Qi ?_ | refine Qf ?_ | simp (maxSteps := 1000000) only [go_sem, Nat.reduceAdd, Nat.reduceMul, Nat.reduceEqDiff, Nat.reduceLeDiff, Nat.reduceLT, Nat.reduceSub, Int.reduceEq, Int.reduceBEq, Int.reduceLT, Int.reduceLE, Int.reduceAdd, Int.reduceToNat, reduceIte, reduceCtorEq, Int.toNat_natCast, List.getElem?_map, hget, hw, e1, usV, s1, s2] | (refine hK _ ?_; clear hK; clear K') | refine And.intro ?_ ?_ | (apply QX; (focus first | exact hpy.b)) | exact zlo | omega | exact zms)
      refine hL _ (k + 1) (by simp only [Nat.reduceAdd, ovT, XZ, Nat.reduceEqDiff, reduceIte, Yx, XO, wL, u32, u33, u34, u35, u36, u37, u38, u39, and_self, and_true, true_and]) ⟨by omega, ?_⟩ (by omega) (fun a ha => by simp only [u32, u33, u34, u35, u36, u37, u38, u39]; repeat rw [if_neg (by omega)])
      rw [hr, ← hinv, wM, if_neg hy]
def YK (Yd : Nat) : AC := Qr [0, 1] (.reg [mc 4 (V.bool false)]) (Qr [4] (.reg [mv 5 0, mv 6 1, cl 7 Yd [5, 6], bc 8 .geq 7 (V.int 0), mv 4 8]) (.ret)) def r_slices_ContainsFunc___api_Use_api_Use : List Wc := [.tmp 4]
def YC (Γ : Env) (f : Nat) : Prop := ∀ (xs : List PU) (g : Nat) (cap : List V) (p : PU → Bool) (hp : ∀ x ∈ xs, EvN Γ g (usV x :: cap) (V.bool (p x))) (hcap : Qj cap) (hl : xs.length < 2 ^ 62), EvN Γ f [.sl 2 (xs.map usV), .clo g cap] (V.bool (xs.any p))
theorem VM {Γ : Env} {f Yd : Nat} (h : Has Γ.P f 9 (YK Yd) r_slices_ContainsFunc___api_Use_api_Use) (Wr : Y3 Γ Yd) : YC Γ f := by
  intro xs g cap p hp hcap hl
  refine QV h (by simp) (by simp only [V.closed, Qj, V.noSl, Jy, and_self, and_true, true_and]) (by simp only [V.closed, Qj, V.noSl, Jy, and_self, and_true, true_and]) fun C hC hm => ?_
  subst hC
  unfold YK
  have s1 : ∀ o, XY o cap = cap := fun o => Yp o cap hcap
  have s2 : ∀ o B, JB o B cap = True := fun o B => eq_true (JR o B cap hcap)
  have hi := (Wr xs g cap p hp hcap hl).b
  have e1 := xy p xs 0
  repeat' (first | refine Qb fun K' hK => ?_ | refine Qe fun K' hK => ?_ | refine Qc ?_ | refine Qd ?_ | refine Qa ?_ | ((first | refine Qg ⟨_, rfl, fun hc => ?_, fun hc => ?_⟩ | refine QL (fun hc => ?_) (fun hc => ?_) | refine QM (fun hc => ?_) (fun hc => ?_)) <;> first | exact Bool.noConfusion hc | ((try simp only [znz] at hc); first | exact znf | skip)) | refine Qi ?_ | refine Qf ?_ | simp (maxSteps := 1000000) only [go_sem, Nat.reduceAdd, Nat.reduceMul, Nat.reduceEqDiff, Nat.reduceLeDiff, Nat.reduceLT, Nat.reduceSub, Int.reduceEq, Int.reduceBEq, Int.reduceLT, Int.reduceLE, Int.reduceAdd, Int.reduceToNat, reduceIte, reduceCtorEq, s1, s2, e1] | (refine hK _ ?_; clear hK; clear K') | refine And.intro ?_ ?_ | (apply QX; (focus first | exact hi | exact (Wr _ _ _ _ zsd zsd zsd).b)) | exact zlo | omega | exact zms)
  all_goals first | (refine Jb _ rfl ?_; simp only [go_sem, Nat.reduceEqDiff, Nat.reduceAdd, reduceIte, reduceCtorEq]; done) | trace_state
def Y9 : List AO := [mv 16 0, mv 17 3, ia 18 2 16 17, xo 19 (.load true 2 (.t 18)), mv 20 0, mv 21 3, bc 22 .sub 21 (V.int 1), ia 23 2 20 22, xo 24 (.load true 2 (.t 23)), xo 25 (.eqagg false [0, 0] (.t 19) (.t 24))]
def Xf : List (List Nat) := [[], [], [0, 1], [2], [], [], [5], [4, 6], [7], [3, 8]]
def Y7 : OT := .one 0 (.one 1 (.one 2 (.one 3 (.one 4 (.one 5 (.one 6 (.one 7 (.one 8 (.one 9 (.done))))))))))
def QZ : OP := .one 0 false [] (mv 16 0) (.one 1 false [] (mv 17 3) (.one 2 false [] (ia 18 2 16 17) (.one 3 false [] (xo 19 (.load true 2 (.t 18))) (.one 4 false [] (mv 20 0) (.one 5 false [] (mv 21 3) (.one 6 false [] (bc 22 .sub 21 (V.int 1)) (.one 7 false [] (ia 23 2 20 22) (.one 8 false [] (xo 24 (.load true 2 (.t 23))) (.one 9 false [] (xo 25 (.eqagg false [0, 0] (.t 19) (.t 24))) (.done))))))))))
theorem QA : okR (Y9) Xf [] Y7 = true := by kernel_rfl
theorem Qy : Wt (ris (Y9) Xf []) Y7 = QZ := by kernel_rfl
def Y8 : List AO := [mv 35 4, mv 36 5, ia 37 2 35 36, xo 38 (.load true 2 (.t 37)), mv 39 4, mv 40 5, bc 41 .sub 40 (V.int 1), ia 42 2 39 41, xo 43 (.load true 2 (.t 42)), xo 44 (.eqagg true [0, 0] (.t 38) (.t 43))]
def Xe : List (List Nat) := [[], [], [0, 1], [2], [], [], [5], [4, 6], [7], [3, 8]]
def Y6 : OT := .one 0 (.one 1 (.one 2 (.one 3 (.one 4 (.one 5 (.one 6 (.one 7 (.one 8 (.one 9 (.done))))))))))
def QY : OP := .one 0 false [] (mv 35 4) (.one 1 false [] (mv 36 5) (.one 2 false [] (ia 37 2 35 36) (.one 3 false [] (xo 38 (.load true 2 (.t 37))) (.one 4 false [] (mv 39 4) (.one 5 false [] (mv 40 5) (.one 6 false [] (bc 41 .sub 40 (V.int 1)) (.one 7 false [] (ia 42 2 39 41) (.one 8 false [] (xo 43 (.load true 2 (.t 42))) (.one 9 false [] (xo 44 (.eqagg true [0, 0] (.t 38) (.t 43))) (.done))))))))))
theorem Qz : okR (Y8) Xe [] Y6 = true := by kernel_rfl
theorem Qx : Wt (ris (Y8) Xe []) Y6 = QY := by kernel_rfl def c_slices_Compact___api_Use_api_Use : AC := Qr [0] (.reg [xo 2 (.mknil 2)]) (Qr [0] (Qr [0, 8] (.reg [mv 6 0, ln 7 6, bc 8 .lss 7 (V.int 2)]) (.cond (.t 8) (Qr [2] (.reg [mv 9 0, mv 2 9]) (.ret)) (.skip))) (Qr [0] (Qr [0, 3] (.reg [mc 3 (V.int 1)]) (.block 0 (W5 [0, 3] (Qr [0, 3] (Qr [0, 3, 13] (.reg [mv 10 3, mv 11 0, ln 12 11, bn 13 .lss 10 12]) (.cond (.t 13) (.skip) (.exit 0))) (Qr [0, 3] (.block 1 (Qr [0, 3, 25] (acq [] Y7 (QZ) (Y9) Xf) (.cond (.t 25) (Qr [0, 3, 4] (.reg [mv 26 0, mv 27 3, xo 28 (.slsl 2 (.t 26) (some (.t 27)) none), mv 4 28]) (Qr [0, 3] (Qr [0, 3, 4, 5] (.reg [mc 5 (V.int 1)]) (.block 2 (W5 [0, 3, 4, 5] (Qr [0, 3, 4, 5] (Qr [0, 3, 4, 5, 32] (.reg [mv 29 5, mv 30 4, ln 31 30, bn 32 .lss 29 31]) (.cond (.t 32) (.skip) (.exit 2))) (Qr [0, 3, 4, 5] (.block 3 (Qr [0, 3, 4, 5, 44] (acq [] Y6 (QY) (Y8) Xe) (.cond (.t 44) (Qr [0, 3, 4, 5] (.reg [mv 45 0, mv 46 3, mv 47 4, mv 48 5, ia 49 2 47 48, xo 50 (.load true 2 (.t 49)), ia 51 2 45 46, xs 2 51 50]) (.reg [mv 52 3, bc 53 .add 52 (V.int 1), mv 3 53])) (.skip)))) (.reg [mv 33 5, bc 34 .add 33 (V.int 1), mv 5 34])))))) (Qr [0, 3] (.reg [mv 54 0, mv 55 3, xo 56 (.slsl 2 (.t 54) (some (.t 55)) none), ⟨none, .clrS 2 true [(.int .i64 0), (.int .i64 0)] (.t 56), none⟩]) (Qr [2] (.reg [mv 57 0, mv 58 3, xo 59 (.slsl 2 (.t 57) none (some (.t 58))), mv 2 59]) (.ret))))) (.skip)))) (.reg [mv 14 3, bc 15 .add 14 (V.int 1), mv 3 15])))))) (Qr [2] (.reg [mv 60 0, mv 2 60]) (.ret)))) def r_slices_Compact___api_Use_api_Use : List Wc := [.tmp 2]
def Xw (Γ : Env) (f : Nat) : Prop := ∀ (xs : List PU) (hx : xs.length < 2 ^ 34), EvZ Γ f [] 2 (xs.map usV) ((wq (fun x y : PU ↦ x.1 == y.1 && x.2 == y.2) xs).length) ((wq (fun x y : PU ↦ x.1 == y.1 && x.2 == y.2) xs).map usV ++ List.replicate (xs.length - (wq (fun x y : PU ↦ x.1 == y.1 && x.2 == y.2) xs).length) (V.agg [V.int 0, V.int 0]))
theorem UR {Γ : Env} {f : Nat} (h : Has Γ.P f 61 c_slices_Compact___api_Use_api_Use r_slices_Compact___api_Use_api_Use)  : Xw Γ f := by
  intro xs hx
  refine afp h (by simp) fun C hC hm => ?_
  subst hC
  unfold c_slices_Compact___api_Use_api_Use
  have hlen : (xs.map usV).length = xs.length := List.length_map _
  generalize heq : (fun x y : PU => x.1 == y.1 && x.2 == y.2) = eq
  have heq2 : ∀ x y : PU, (x.1 == y.1 && x.2 == y.2) = eq x y := fun x y => by rw [← heq]
  by_cases h2 : xs.length < 2
  · have e1 : decide (((xs.map usV).length : Int) < 2) = true := decide_eq_true (by rw [hlen]; omega)
    have hg : wq eq xs = xs := by
      match xs, h2 with
      | [], _ => rfl
      | [x], _ => rfl
    rw [hg, Nat.sub_self]
    repeat' (first | refine Qb fun K' hK => ?_ | refine Qe fun K' hK => ?_ | refine Qp 10 (fun _ => true) rfl (QA) (Qy) fun K' hK => ?_ | refine Qq 10 (fun _ => true) rfl (QA) (Qy) fun K' hK => ?_ | refine Qp 10 (fun _ => true) rfl (Qz) (Qx) fun K' hK => ?_ | refine Qq 10 (fun _ => true) rfl (Qz) (Qx) fun K' hK => ?_ | refine Qc ?_ | refine Qd ?_ | refine Qa ?_ | ((first | refine Qg ⟨_, rfl, fun hc => ?_, fun hc => ?_⟩ | refine QL (fun hc => ?_) (fun hc => ?_) | refine QM (fun hc => ?_) (fun hc => ?_)) <;> first | exact Bool.noConfusion hc | ((try simp only [znz] at hc); first | exact znf | skip)) | refine Qi ?_ | refine Qf ?_ | simp (maxSteps := 1000000) only [go_sem, Nat.reduceAdd, Nat.reduceMul, Nat.reduceEqDiff, Nat.reduceLeDiff, Nat.reduceLT, Nat.reduceSub, Int.reduceEq, Int.reduceBEq, Int.reduceLT, Int.reduceLE, Int.reduceAdd, Int.reduceToNat, reduceIte, reduceCtorEq, e1, QZ, QY] | (refine hK _ ?_; clear hK; clear K') | refine And.intro ?_ ?_ | exact zlo | omega | exact zms)
    all_goals first | (refine aiy _ rfl rfl rfl ?_ ?_ <;> first | rfl | (simp; done)) | trace_state
  · have e1 : decide (((xs.map usV).length : Int) < 2) = false := decide_eq_false (by rw [hlen]; omega)
    repeat' (first | refine Qb fun K' hK => ?_ | refine Qe fun K' hK => ?_ | refine Qp 10 (fun _ => true) rfl (QA) (Qy) fun K' hK => ?_ | refine Qq 10 (fun _ => true) rfl (QA) (Qy) fun K' hK => ?_ | refine Qp 10 (fun _ => true) rfl (Qz) (Qx) fun K' hK => ?_ | refine Qq 10 (fun _ => true) rfl (Qz) (Qx) fun K' hK => ?_ | refine Qc ?_ | refine Qd ?_ | refine Qa ?_ | ((first | refine Qg ⟨_, rfl, fun hc => ?_, fun hc => ?_⟩ | refine QL (fun hc => ?_) (fun hc => ?_) | refine QM (fun hc => ?_) (fun hc => ?_)) <;> first | exact Bool.noConfusion hc | ((try simp only [znz] at hc); first | exact znf | skip)) | refine Qi ?_ | refine Qf ?_ | simp (maxSteps := 1000000) only [go_sem, Nat.reduceAdd, Nat.reduceMul, Nat.reduceEqDiff, Nat.reduceLeDiff, Nat.reduceLT, Nat.reduceSub, Int.reduceEq, Int.reduceBEq, Int.reduceLT, Int.reduceLE, Int.reduceAdd, Int.reduceToNat, reduceIte, reduceCtorEq, e1, QZ, QY] | (refine hK _ ?_; clear hK; clear K') | refine And.intro ?_ ?_ | exact zlo | omega | exact zms)
    refine Vv (ι := Nat) (fun k => 1 ≤ k ∧ k ≤ xs.length ∧ ∃ p, xs[k - 1]? = some p ∧ wq eq xs = xs.take k ++ wo eq p (xs.drop k)) (fun k => [(3, V.int k)]) (fun k => xs.length - k) 1 (by omega) ⟨by omega, by omega, ?_⟩ (by repeat' first | exact UE | refine qu (by omega) (by simp only [Ob.lt, ltL, V.lt, and_self, and_true]; try omega) ?_) (fun i hi => by simp only [ovT, XZ, Nat.reduceEqDiff, reduceIte]; (repeat' first | exact qt | refine UD ?_ ?_ | simp only [V.lt, ltL, and_self, and_true] | omega)) (by simp only [Nat.reduceAdd, ovT, XZ, Nat.reduceEqDiff, reduceIte, Yx, XO, wL, u32, u33, u34, u35, u36, u37, u38, u39, and_self, and_true, true_and]; first | done | rfl) fun k hk K' hL => ?_
    · match xs, h2 with
      | x :: r, _ => exact ⟨x, rfl, rfl⟩
      | [], h2 => exact absurd (by simp) h2
    obtain ⟨hk1, hk2, p, hp, hinv⟩ := hk
    simp only [ovT, XZ, Nat.reduceEqDiff, reduceIte]
    by_cases hke : k = xs.length
    · have e2 : decide ((k : Int) < ((xs.map usV).length : Int)) = false := decide_eq_false (by rw [hlen]; omega)
      have hg : wq eq xs = xs := by rw [hinv, hke, List.take_length, List.drop_length]; simp [wo]
      rw [hg, Nat.sub_self]
      repeat' (first | refine Qb fun K' hK => ?_ | refine Qe fun K' hK => ?_ | refine Qp 10 (fun _ => true) rfl (QA) (Qy) fun K' hK => ?_ | refine Qq 10 (fun _ => true) rfl (QA) (Qy) fun K' hK => ?_ | refine Qp 10 (fun _ => true) rfl (Qz) (Qx) fun K' hK => ?_ | refine Qq 10 (fun _ => true) rfl (Qz) (Qx) fun K' hK => ?_ | refine Qc ?_ | refine Qd ?_ | refine Qa ?_ | ((first | refine Qg ⟨_, rfl, fun hc => ?_, fun hc => ?_⟩ | refine QL (fun hc => ?_) (fun hc => ?_) | refine QM (fun hc => ?_) (fun hc => ?_)) <;> first | exact Bool.noConfusion hc | ((try simp only [znz] at hc); first | exact znf | skip)) | refine Qi ?_ | refine Qf ?_ | simp (maxSteps := 1000000) only [go_sem, Nat.reduceAdd, Nat.reduceMul, Nat.reduceEqDiff, Nat.reduceLeDiff, Nat.reduceLT, Nat.reduceSub, Int.reduceEq, Int.reduceBEq, Int.reduceLT, Int.reduceLE, Int.reduceAdd, Int.reduceToNat, reduceIte, reduceCtorEq, e2, QZ, QY] | (refine hK _ ?_; clear hK; clear K') | refine And.intro ?_ ?_ | exact zlo | omega | exact zms)
      all_goals first | (refine aiy _ rfl rfl rfl ?_ ?_ <;> first | rfl | (simp; done)) | trace_state
    · have e2 : decide ((k : Int) < ((xs.map usV).length : Int)) = true := decide_eq_true (by rw [hlen]; omega)
      obtain ⟨y, hy⟩ : ∃ y, xs[k]? = some y := ⟨_, List.getElem?_eq_getElem (by omega)⟩
      have hdy : xs.drop k = y :: xs.drop (k + 1) := by
        obtain ⟨h1, h2⟩ := List.getElem?_eq_some_iff.1 hy
        rw [List.drop_eq_getElem_cons h1, h2]
      rw [hdy, wo] at hinv
      have hw := JS (k := k) (by omega)
      have hwm : IntKind.i64.wrap ((k : Int) - 1) = ((k - 1 : Nat) : Int) := by rw [Wl (by omega) (by omega)]; omega
      have vy : (xs.map usV)[k]? = some (usV y) := by rw [List.getElem?_map, hy]; rfl
      have vp : (xs.map usV)[k - 1]? = some (usV p) := by rw [List.getElem?_map, hp]; rfl
      simp only [usV] at vy vp
      have hq := heq2 y p
      have r1 : ((k : Int) < ((xs.map usV).length : Int)) = True := eq_true (by rw [hlen]; omega)
      have r2 : ((k - 1 : Nat) : Int) < ((xs.map usV).length : Int) := by rw [hlen]; omega
      rcases hb : eq y p with _ | _
      · rw [hb] at hq
        simp only [hb, Bool.false_eq_true, if_false] at hinv
        repeat' (first | refine Qb fun K' hK => ?_ | refine Qe fun K' hK => ?_ | refine Qp 10 (fun _ => true) rfl (QA) (Qy) fun K' hK => ?_ | refine Qq 10 (fun _ => true) rfl (QA) (Qy) fun K' hK => ?_ | refine Qp 10 (fun _ => true) rfl (Qz) (Qx) fun K' hK => ?_ | refine Qq 10 (fun _ => true) rfl (Qz) (Qx) fun K' hK => ?_ | refine Qc ?_ | refine Qd ?_ | refine Qa ?_ | ((first | refine Qg ⟨_, rfl, fun hc => ?_, fun hc => ?_⟩ | refine QL (fun hc => ?_) (fun hc => ?_) | refine QM (fun hc => ?_) (fun hc => ?_)) <;> first | exact Bool.noConfusion hc | ((try simp only [znz] at hc); first | exact znf | skip)) | refine Qi ?_ | refine Qf ?_ | simp (maxSteps := 1000000) only [go_sem, Nat.reduceAdd, Nat.reduceMul, Nat.reduceEqDiff, Nat.reduceLeDiff, Nat.reduceLT, Nat.reduceSub, Int.reduceEq, Int.reduceBEq, Int.reduceLT, Int.reduceLE, Int.reduceAdd, Int.reduceToNat, reduceIte, reduceCtorEq, e2, hw, hwm, Int.toNat_natCast, vy, vp, hq, QZ, QY] | (refine hK _ ?_; clear hK; clear K') | refine And.intro ?_ ?_ | exact zlo | omega | exact zms)
        all_goals first
          | exact hL _ (k + 1) (by simp only [Nat.reduceAdd, ovT, XZ, Nat.reduceEqDiff, reduceIte, Yx, XO, wL, u32, u33, u34, u35, u36, u37, u38, u39, and_self, and_true, true_and]) ⟨by omega, by omega, y, by rw [Nat.add_sub_cancel]; exact hy, by rw [hinv, List.take_add_one, hy]; simp⟩ (by omega) (fun a ha => by simp only [u32, u33, u34, u35, u36, u37, u38, u39]; repeat rw [if_neg (by omega)])
          | exact r2
          | trace_state
      · rw [hb] at hq
        simp only [hb, if_true] at hinv
        repeat' (first | refine Qb fun K' hK => ?_ | refine Qe fun K' hK => ?_ | refine Qp 10 (fun _ => true) rfl (QA) (Qy) fun K' hK => ?_ | refine Qq 10 (fun _ => true) rfl (QA) (Qy) fun K' hK => ?_ | refine Qp 10 (fun _ => true) rfl (Qz) (Qx) fun K' hK => ?_ | refine Qq 10 (fun _ => true) rfl (Qz) (Qx) fun K' hK => ?_ | refine Qc ?_ | refine Qd ?_ | refine Qa ?_ | ((first | refine Qg ⟨_, rfl, fun hc => ?_, fun hc => ?_⟩ | refine QL (fun hc => ?_) (fun hc => ?_) | refine QM (fun hc => ?_) (fun hc => ?_)) <;> first | exact Bool.noConfusion hc | ((try simp only [znz] at hc); first | exact znf | skip)) | refine Qi ?_ | refine Qf ?_ | simp (maxSteps := 1000000) only [go_sem, Nat.reduceAdd, Nat.reduceMul, Nat.reduceEqDiff, Nat.reduceLeDiff, Nat.reduceLT, Nat.reduceSub, Int.reduceEq, Int.reduceBEq, Int.reduceLT, Int.reduceLE, Int.reduceAdd, Int.reduceToNat, reduceIte, reduceCtorEq, e2, hw, hwm, Int.toNat_natCast, vy, vp, hq, QZ, QY] | (refine hK _ ?_; clear hK; clear K') | refine And.intro ?_ ?_ | exact zlo | omega | exact zms)
        all_goals first
          | exact r2
          | skip
        refine Yj (ι := List PU × Nat × Nat) (fun q => q.1.length = xs.length ∧ 1 ≤ q.2.2 ∧ k + q.2.2 ≤ xs.length ∧ k ≤ q.2.1 ∧ q.2.1 ≤ k + q.2.2 - 1 ∧ q.1.drop (k + q.2.2 - 1) = xs.drop (k + q.2.2 - 1) ∧ ∃ z, xs[k + q.2.2 - 1]? = some z ∧ wq eq xs = q.1.take q.2.1 ++ wo eq z (xs.drop (k + q.2.2)))
          (fun q => Vn [(0, .hd 0 0 (xs.map usV).length), (3, V.int q.2.1), (4, .hd 0 k (xs.length - k)), (5, V.int q.2.2)] [(0, .buf true 2 (q.1.map usV))] 1) (fun q => xs.length - q.2.2) (xs, k, 1)
          ⟨rfl, by simp only; omega, by simp only; omega, by simp only; omega, by simp only; omega, rfl, y, by simp only [Nat.add_sub_cancel]; exact hy, by rw [hinv]⟩ (Q0 []) (YE [] (by simp only [go_sem, Nat.reduceAdd, Nat.reduceMul, Nat.reduceEqDiff, Nat.reduceLT, Int.reduceToNat, reduceIte, reduceCtorEq, and_true, true_and, implies_true, Option.some.injEq, exists_eq_left', Qk, Qo]; first | done | (simp only [List.length_map]; (repeat' (first | rfl | refine And.intro ?_ ?_ | omega | exact fun h => h | exact Exists.intro _ rfl))) | (repeat' (first | rfl | refine And.intro ?_ ?_ | omega | exact fun h => h | exact Exists.intro _ rfl))) (by simp only [go_sem, Nat.reduceAdd, Nat.reduceMul, Nat.reduceEqDiff, Nat.reduceLT, Int.reduceToNat, reduceIte, reduceCtorEq, and_true, true_and, implies_true, Option.some.injEq, exists_eq_left', Qk, Qo]; (repeat' (first | rfl | refine And.intro ?_ ?_ | omega | exact fun h => h | exact Exists.intro _ rfl))) (by simp) (by simp) (by omega)) fun q hq K2 hL2 => ?_
        obtain ⟨B, w, j⟩ := q
        obtain ⟨hB, hj1, hj2, hw1, hw2, hdr, z, hz, hinv2⟩ := hq
        dsimp only at hB hj1 hj2 hw1 hw2 hdr hz hinv2
        have hBl : (B.map usV).length = xs.length := by rw [List.length_map, hB]
        have hwj := JS (k := j) (by omega)
        have hww := JS (k := w) (by omega)
        by_cases hje : k + j = xs.length
        · have e3 : decide ((j : Int) < ((xs.length - k : Nat) : Int)) = false := decide_eq_false (by omega)
          have hg : wq eq xs = B.take w := by rw [hinv2, hje, List.drop_length]; simp [wo]
          have hgl : (wq eq xs).length = w := by rw [hg, List.length_take, hB]; omega
          have r3 : ((w : Int) ≤ ((xs.map usV).length : Int)) = True := eq_true (by rw [hlen]; omega)
          rw [hgl, hg]
          repeat' (first | refine Qb fun K' hK => ?_ | refine Qe fun K' hK => ?_ | refine Qp 10 (fun _ => true) rfl (QA) (Qy) fun K' hK => ?_ | refine Qq 10 (fun _ => true) rfl (QA) (Qy) fun K' hK => ?_ | refine Qp 10 (fun _ => true) rfl (Qz) (Qx) fun K' hK => ?_ | refine Qq 10 (fun _ => true) rfl (Qz) (Qx) fun K' hK => ?_ | refine Qc ?_ | refine Qd ?_ | refine Qa ?_ | ((first | refine Qg ⟨_, rfl, fun hc => ?_, fun hc => ?_⟩ | refine QL (fun hc => ?_) (fun hc => ?_) | refine QM (fun hc => ?_) (fun hc => ?_)) <;> first | exact Bool.noConfusion hc | ((try simp only [znz] at hc); first | exact znf | skip)) | refine Qi ?_ | refine Qf ?_ | simp (maxSteps := 1000000) only [go_sem, Nat.reduceAdd, Nat.reduceMul, Nat.reduceEqDiff, Nat.reduceLeDiff, Nat.reduceLT, Nat.reduceSub, Int.reduceEq, Int.reduceBEq, Int.reduceLT, Int.reduceLE, Int.reduceAdd, Int.reduceToNat, reduceIte, reduceCtorEq, Vn, e3, Int.toNat_natCast, QZ, QY] | (refine hK _ ?_; clear hK; clear K') | refine And.intro ?_ ?_ | exact zlo | omega | exact zms)
          all_goals first
            | (rw [hlen]; omega)
            | (refine aiy _ rfl rfl rfl ?_ ?_ <;> first | rfl | (rw [List.drop_eq_nil_of_le (by rw [hBl, hlen]; omega), List.append_nil, List.map_take, hlen]; done) | (simp; done))
            | trace_state
        · have e3 : decide ((j : Int) < ((xs.length - k : Nat) : Int)) = true := decide_eq_true (by omega)
          obtain ⟨u, hu⟩ : ∃ u, xs[k + j]? = some u := ⟨_, List.getElem?_eq_getElem (by omega)⟩
          have hdu : xs.drop (k + j) = u :: xs.drop (k + j + 1) := by
            obtain ⟨h1, h2⟩ := List.getElem?_eq_some_iff.1 hu
            rw [List.drop_eq_getElem_cons h1, h2]
          rw [hdu, wo] at hinv2
          have bz : B[k + (j - 1)]? = some z := by
            have : (B.drop (k + j - 1))[0]? = (xs.drop (k + j - 1))[0]? := by rw [hdr]
            rw [List.getElem?_drop, List.getElem?_drop, Nat.add_zero, hz] at this
            rw [← this]; congr 1; omega
          have bu : B[k + j]? = some u := by
            have : (B.drop (k + j - 1))[1]? = (xs.drop (k + j - 1))[1]? := by rw [hdr]
            rw [List.getElem?_drop, List.getElem?_drop, show k + j - 1 + 1 = k + j by omega, hu] at this
            exact this
          have vz : (B.map usV)[k + (j - 1)]? = some (usV z) := by rw [List.getElem?_map, bz]; rfl
          have vu : (B.map usV)[k + j]? = some (usV u) := by rw [List.getElem?_map, bu]; rfl
          have bw : ∃ t, B[w]? = some t := ⟨_, List.getElem?_eq_getElem (by omega)⟩
          obtain ⟨t, bw⟩ := bw
          have vt : (B.map usV)[w]? = some (usV t) := by rw [List.getElem?_map, bw]; rfl
          have hset : (B.map usV).set w (usV u) = (B.set w u).map usV := List.map_set.symm
          have hwm2 : IntKind.i64.wrap ((j : Int) - 1) = ((j - 1 : Nat) : Int) := by rw [Wl (by omega) (by omega)]; omega
          simp only [usV] at vz vu vt hset
          have hq := heq2 u z
          have r4 : (((w : Int)) < ((xs.map usV).length : Int)) = True := eq_true (by rw [hlen]; omega)
          have r5 : ((j : Int) < ((xs.length - k : Nat) : Int)) = True := eq_true (by omega)
          have r6 : ((((j - 1 : Nat) : Int)) < ((xs.length - k : Nat) : Int)) = True := eq_true (by omega)
          rcases hb2 : eq u z with _ | _
          · rw [hb2] at hq
            simp only [hb2, Bool.false_eq_true, if_false] at hinv2
            repeat' (first | refine Qb fun K' hK => ?_ | refine Qe fun K' hK => ?_ | refine Qp 10 (fun _ => true) rfl (QA) (Qy) fun K' hK => ?_ | refine Qq 10 (fun _ => true) rfl (QA) (Qy) fun K' hK => ?_ | refine Qp 10 (fun _ => true) rfl (Qz) (Qx) fun K' hK => ?_ | refine Qq 10 (fun _ => true) rfl (Qz) (Qx) fun K' hK => ?_ | refine Qc ?_ | refine Qd ?_ | refine Qa ?_ | ((first | refine Qg ⟨_, rfl, fun hc => ?_, fun hc => ?_⟩ | refine QL (fun hc => ?_) (fun hc => ?_) | refine QM (fun hc => ?_) (fun hc => ?_)) <;> first | exact Bool.noConfusion hc | ((try simp only [znz] at hc); first | exact znf | skip)) | refine Qi ?_ | refine Qf ?_ | simp (maxSteps := 1000000) only [go_sem, Nat.reduceAdd, Nat.reduceMul, Nat.reduceEqDiff, Nat.reduceLeDiff, Nat.reduceLT, Nat.reduceSub, Int.reduceEq, Int.reduceBEq, Int.reduceLT, Int.reduceLE, Int.reduceAdd, Int.reduceToNat, reduceIte, reduceCtorEq, Vn, e3, hwj, hww, hwm2, Int.toNat_natCast, vz, vu, vt, hset, hq, r4, r5, r6, QZ, QY] | (refine hK _ ?_; clear hK; clear K') | refine And.intro ?_ ?_ | exact zlo | omega | exact zms)
            all_goals first
              | exact hL2 _ (B.set w u, w + 1, j + 1) (Q0 []) ⟨by simp only [List.length_set]; exact hB, by simp only; omega, by simp only; omega, by simp only; omega, by simp only; omega, by
                  simp only
                  rw [List.drop_set_of_lt (by omega), show k + (j + 1) - 1 = (k + j - 1) + 1 by omega, ← List.drop_drop, hdr, List.drop_drop], u, by simp only; rw [show k + (j + 1) - 1 = k + j by omega]; exact hu, by
                  simp only
                  rw [hinv2, show k + (j + 1) = k + j + 1 by omega, List.take_add_one, List.getElem?_set_self (by omega), List.take_set_of_le (Nat.le_refl _)]; simp⟩ (by simp only; omega) (YE [] (by simp only [go_sem, Nat.reduceAdd, Nat.reduceMul, Nat.reduceEqDiff, Nat.reduceLT, Int.reduceToNat, reduceIte, reduceCtorEq, and_true, true_and, implies_true, Option.some.injEq, exists_eq_left', Qk, Qo]; (repeat' (first | rfl | refine And.intro ?_ ?_ | omega | exact fun h => h | exact Exists.intro _ rfl))) (by simp only [go_sem, Nat.reduceAdd, Nat.reduceMul, Nat.reduceEqDiff, Nat.reduceLT, Int.reduceToNat, reduceIte, reduceCtorEq, and_true, true_and, implies_true, Option.some.injEq, exists_eq_left', Qk, Qo]; (repeat' (first | rfl | refine And.intro ?_ ?_ | omega | exact fun h => h | exact Exists.intro _ rfl))) (by simp) (by simp) (by omega))
              | (rw [hlen]; omega)
              | trace_state
          · rw [hb2] at hq
            simp only [hb2, if_true] at hinv2
            repeat' (first | refine Qb fun K' hK => ?_ | refine Qe fun K' hK => ?_ | refine Qp 10 (fun _ => true) rfl (QA) (Qy) fun K' hK => ?_ | refine Qq 10 (fun _ => true) rfl (QA) (Qy) fun K' hK => ?_ | refine Qp 10 (fun _ => true) rfl (Qz) (Qx) fun K' hK => ?_ | refine Qq 10 (fun _ => true) rfl (Qz) (Qx) fun K' hK => ?_ | refine Qc ?_ | refine Qd ?_ | refine Qa ?_ | ((first | refine Qg ⟨_, rfl, fun hc => ?_, fun hc => ?_⟩ | refine QL (fun hc => ?_) (fun hc => ?_) | refine QM (fun hc => ?_) (fun hc => ?_)) <;> first | exact Bool.noConfusion hc | ((try simp only [znz] at hc); first | exact znf | skip)) | refine Qi ?_ | refine Qf ?_ | simp (maxSteps := 1000000) only [go_sem, Nat.reduceAdd, Nat.reduceMul, Nat.reduceEqDiff, Nat.reduceLeDiff, Nat.reduceLT, Nat.reduceSub, Int.reduceEq, Int.reduceBEq, Int.reduceLT, Int.reduceLE, Int.reduceAdd, Int.reduceToNat, reduceIte, reduceCtorEq, Vn, e3, hwj, hww, hwm2, Int.toNat_natCast, vz, vu, vt, hset, hq, r4, r5, r6, QZ, QY] | (refine hK _ ?_; clear hK; clear K') | refine And.intro ?_ ?_ | exact zlo | omega | exact zms)
            all_goals first
              | exact hL2 _ (B, w, j + 1) (Q0 []) ⟨hB, by simp only; omega, by simp only; omega, by simp only; omega, by simp only; omega, by
                  simp only
                  rw [show k + (j + 1) - 1 = (k + j - 1) + 1 by omega, ← List.drop_drop, hdr, List.drop_drop], u, by simp only; rw [show k + (j + 1) - 1 = k + j by omega]; exact hu, by simp only; rw [hinv2, show k + (j + 1) = k + j + 1 by omega]⟩ (by simp only; omega) (YE [] (by simp only [go_sem, Nat.reduceAdd, Nat.reduceMul, Nat.reduceEqDiff, Nat.reduceLT, Int.reduceToNat, reduceIte, reduceCtorEq, and_true, true_and, implies_true, Option.some.injEq, exists_eq_left', Qk, Qo]; (repeat' (first | rfl | refine And.intro ?_ ?_ | omega | exact fun h => h | exact Exists.intro _ rfl))) (by simp only [go_sem, Nat.reduceAdd, Nat.reduceMul, Nat.reduceEqDiff, Nat.reduceLT, Int.reduceToNat, reduceIte, reduceCtorEq, and_true, true_and, implies_true, Option.some.injEq, exists_eq_left', Qk, Qo]; (repeat' (first | rfl | refine And.intro ?_ ?_ | omega | exact fun h => h | exact Exists.intro _ rfl))) (by simp) (by simp) (by omega))
              | trace_state
end Av
end
section
set_option linter.unusedSimpArgs false
set_option linter.unusedVariables false
set_option maxRecDepth 10000
set_option maxHeartbeats 4000000
namespace Av
open Go
attribute [local irreducible] AWp Wz WQ W4 awS awC V1 awQ Ue Jc YR VY awR YY awB okR Wt ris
def YI : List AO := [mv 18 9, mv 19 1, bn 20 .gtr 18 19, mv 21 20, mg 22 3 21 true, mg 23 0 21 true, mg 24 9 21 true, xg 25 (.iaddr 2 (.t 23) (.t 24)) 21 true, xg 26 (.load true 2 (.t 25)) 21 true, mg 27 0 21 true, mg 28 9 21 true, xg 29 (.bin .sub (.t 28) (.c (V.int 1))) 21 true, xg 30 (.iaddr 2 (.t 27) (.t 29)) 21 true, xg 31 (.load true 2 (.t 30)) 21 true, xg 32 (.callv (.t 22) [(.t 26), (.t 31)]) 21 true, xg 33 (.bin .lss (.t 32) (.c (V.int 0))) 21 true, xo 34 (.pick (.t 21) (.t 33) (.c (V.bool false)))]
def YM : List (List Nat) := [[], [], [0, 1], [2], [3], [3], [3], [5, 6, 3], [7, 3], [3], [3], [10, 3], [9, 11, 3], [12, 3], [4, 8, 13, 3, 3], [14, 3], [3, 15]]
def YG : OT := .one 0 (.one 1 (.one 2 (.one 3 (.one 4 (.one 5 (.one 6 (.one 7 (.one 8 (.one 9 (.one 10 (.one 11 (.one 12 (.one 13 (.or 14 (.one 15 (.one 16 (.done))) (.done)))))))))))))))
def QT : OP := .one 0 false [] (mv 18 9) (.one 1 false [] (mv 19 1) (.one 2 false [] (bn 20 .gtr 18 19) (.one 3 false [] (mv 21 20) (.one 4 false [] (mg 22 3 21 true) (.one 5 false [] (mg 23 0 21 true) (.one 6 false [] (mg 24 9 21 true) (.one 7 false [] (xg 25 (.iaddr 2 (.t 23) (.t 24)) 21 true) (.one 8 false [] (xg 26 (.load true 2 (.t 25)) 21 true) (.one 9 false [] (mg 27 0 21 true) (.one 10 false [] (mg 28 9 21 true) (.one 11 false [] (xg 29 (.bin .sub (.t 28) (.c (V.int 1))) 21 true) (.one 12 false [] (xg 30 (.iaddr 2 (.t 27) (.t 29)) 21 true) (.one 13 false [] (xg 31 (.load true 2 (.t 30)) 21 true) (.or 14 true [] (xg 32 (.callv (.t 22) [(.t 26), (.t 31)]) 21 true) (.one 15 false [14] (xg 33 (.bin .lss (.t 32) (.c (V.int 0))) 21 true) (.one 16 false [14] (xo 34 (.pick (.t 21) (.t 33) (.c (V.bool false)))) (.done))) (.done)))))))))))))))
theorem Qw : okR (YI) YM [14] YG = true := by kernel_rfl
theorem Qu : Wt (ris (YI) YM [14]) YG = QT := by kernel_rfl
def YH : List AO := [mv 37 0, mv 38 9, mv 39 0, mv 40 9, bc 41 .sub 40 (V.int 1), mv 42 0, mv 43 9, bc 44 .sub 43 (V.int 1), ia 45 2 42 44, xo 46 (.load true 2 (.t 45)), mv 47 0, mv 48 9, ia 49 2 47 48, xo 50 (.load true 2 (.t 49)), ia 51 2 37 38, xs 2 51 46, ia 52 2 39 41, xs 2 52 50]
def YL : List (List Nat) := [[], [], [], [], [3], [], [], [6], [5, 7], [8], [], [], [10, 11], [12], [0, 1, 0, 1, 5, 6, 7, 8, 9, 13], [14, 9, 0, 1, 5, 6, 7, 8, 9, 13], [2, 4, 0, 1, 2, 3, 4, 5, 6, 7, 8, 9, 10, 11, 12, 13, 14, 15], [16, 13, 15, 0, 1, 2, 3, 4, 5, 6, 7, 8, 9, 10, 11, 12, 13, 14, 15]]
def YF : OT := .one 0 (.one 1 (.one 2 (.one 3 (.one 4 (.one 5 (.one 6 (.one 7 (.one 10 (.one 11 (.or 8 (.or 9 (.or 12 (.one 13 (.one 14 (.one 15 (.one 16 (.one 17 (.done)))))) (.done)) (.or 12 (.or 9 (.one 13 (.one 14 (.one 15 (.one 16 (.one 17 (.done)))))) (.or 13 (.one 9 (.one 14 (.one 15 (.one 16 (.one 17 (.done)))))) (.done))) (.done))) (.or 12 (.or 8 (.or 9 (.one 13 (.one 14 (.one 15 (.one 16 (.one 17 (.done)))))) (.or 13 (.one 9 (.one 14 (.one 15 (.one 16 (.one 17 (.done)))))) (.done))) (.or 13 (.one 8 (.one 9 (.one 14 (.one 15 (.one 16 (.one 17 (.done))))))) (.done))) (.done))))))))))))
def QS : OP := .one 0 false [] (mv 37 0) (.one 1 false [] (mv 38 9) (.one 2 false [] (mv 39 0) (.one 3 false [] (mv 40 9) (.one 4 false [] (bc 41 .sub 40 (V.int 1)) (.one 5 false [] (mv 42 0) (.one 6 false [] (mv 43 9) (.one 7 false [] (bc 44 .sub 43 (V.int 1)) (.one 10 false [] (mv 47 0) (.one 11 false [] (mv 48 9) (.or 8 true [] (ia 45 2 42 44) (.or 9 true [] (xo 46 (.load true 2 (.t 45))) (.or 12 true [] (ia 49 2 47 48) (.one 13 true [] (xo 50 (.load true 2 (.t 49))) (.one 14 true [] (ia 51 2 37 38) (.one 15 true [] (xs 2 51 46) (.one 16 true [] (ia 52 2 39 41) (.one 17 true [] (xs 2 52 50) (.done)))))) (.done)) (.or 12 true [] (ia 49 2 47 48) (.or 9 true [] (xo 46 (.load true 2 (.t 45))) (.one 13 true [] (xo 50 (.load true 2 (.t 49))) (.one 14 true [] (ia 51 2 37 38) (.one 15 true [] (xs 2 51 46) (.one 16 true [] (ia 52 2 39 41) (.one 17 true [] (xs 2 52 50) (.done)))))) (.or 13 true [] (xo 50 (.load true 2 (.t 49))) (.one 9 true [] (xo 46 (.load true 2 (.t 45))) (.one 14 true [] (ia 51 2 37 38) (.one 15 true [] (xs 2 51 46) (.one 16 true [] (ia 52 2 39 41) (.one 17 true [] (xs 2 52 50) (.done)))))) (.done))) (.done))) (.or 12 true [] (ia 49 2 47 48) (.or 8 true [] (ia 45 2 42 44) (.or 9 true [] (xo 46 (.load true 2 (.t 45))) (.one 13 true [] (xo 50 (.load true 2 (.t 49))) (.one 14 true [] (ia 51 2 37 38) (.one 15 true [] (xs 2 51 46) (.one 16 true [] (ia 52 2 39 41) (.one 17 true [] (xs 2 52 50) (.done)))))) (.or 13 true [] (xo 50 (.load true 2 (.t 49))) (.one 9 true [] (xo 46 (.load true 2 (.t 45))) (.one 14 true [] (ia 51 2 37 38) (.one 15 true [] (xs 2 51 46) (.one 16 true [] (ia 52 2 39 41) (.one 17 true [] (xs 2 52 50) (.done)))))) (.done))) (.or 13 true [] (xo 50 (.load true 2 (.t 49))) (.one 8 true [] (ia 45 2 42 44) (.one 9 true [] (xo 46 (.load true 2 (.t 45))) (.one 14 true [] (ia 51 2 37 38) (.one 15 true [] (xs 2 51 46) (.one 16 true [] (ia 52 2 39 41) (.one 17 true [] (xs 2 52 50) (.done))))))) (.done))) (.done))))))))))))
theorem Qv : okR (YH) YL [8, 9, 12, 13, 14, 16] YF = true := by kernel_rfl
theorem Qt : Wt (ris (YH) YL [8, 9, 12, 13, 14, 16]) YF = QS := by kernel_rfl def c_slices_insertionSortCmpFunc_api_Use : AC := Qr [0, 1, 2, 3, 8] (.reg [mv 10 1, bc 11 .add 10 (V.int 1), mv 8 11]) (.block 0 (W5 [0, 1, 2, 3, 8] (Qr [0, 1, 2, 3, 8] (Qr [0, 1, 2, 3, 8, 14] (.reg [mv 12 8, mv 13 2, bn 14 .lss 12 13]) (.cond (.t 14) (.skip) (.exit 0))) (Qr [0, 1, 2, 3, 8] (.block 1 (Qr [0, 1, 2, 3, 8, 9] (.reg [mv 17 8, mv 9 17]) (.block 2 (W5 [0, 1, 2, 3, 8, 9] (Qr [0, 1, 2, 3, 8, 9] (Qr [0, 1, 2, 3, 8, 9, 34] (acq [14] YG (QT) (YI) YM) (.cond (.t 34) (.skip) (.exit 2))) (Qr [0, 1, 2, 3, 8, 9] (.block 3 (acq [8, 9, 12, 13, 14, 16] YF (QS) (YH) YL)) (.reg [mv 35 9, bc 36 .sub 35 (V.int 1), mv 9 36]))))))) (.reg [mv 15 8, bc 16 .add 15 (V.int 1), mv 8 16]))))) def r_slices_insertionSortCmpFunc_api_Use : List Wc := []
def YZ (Γ : Env) (f : Nat) : Prop := ∀ (xs : List PU) (a b : Nat) (g : Nat) (c : PU → PU → Int) (hcmp : ∀ x ∈ xs, ∀ y ∈ xs, EvN Γ g [usV x, usV y] (V.int (c x y))) (hab : a ≤ b) (hb : b ≤ xs.length) (hx : xs.length < 2 ^ 34), EvL Γ f [V.int a, V.int b, .clo g []] 2 (xs.map usV) (.tup []) ((if a = b then xs.map usV else (yj (fun x y => decide (c x y < 0)) xs a b).map usV))
theorem Ub {Γ : Env} {f : Nat} (h : Has Γ.P f 53 c_slices_insertionSortCmpFunc_api_Use r_slices_insertionSortCmpFunc_api_Use)  : YZ Γ f := by
  intro xs a b g c hcmp hab hb hx
  refine KQ h (by simp) (by simp only [V.closed, Qj, V.noSl, Jy, and_self, and_true, true_and]) fun C hC hm => ?_
  subst hC
  unfold c_slices_insertionSortCmpFunc_api_Use
  have hwa := JS (k := a) (by omega)
  by_cases he : a = b
  · subst he
    rw [if_pos rfl]
    have e1 : decide (((a + 1 : Nat) : Int) < (a : Int)) = false := by simp; omega
    repeat' (first | refine Qb fun K' hK => ?_ | refine Qe fun K' hK => ?_ | refine Qp 17 (fun _ => true) rfl (Qw) (Qu) fun K' hK => ?_ | refine Qq 17 (fun _ => true) rfl (Qw) (Qu) fun K' hK => ?_ | refine Qp 18 (fun _ => false) rfl (Qv) (Qt) fun K' hK => ?_ | refine Qq 18 (fun _ => false) rfl (Qv) (Qt) fun K' hK => ?_ | refine Qc ?_ | refine Qd ?_ | refine Qa ?_ | ((first | refine Qg ⟨_, rfl, fun hc => ?_, fun hc => ?_⟩ | refine QL (fun hc => ?_) (fun hc => ?_) | refine QM (fun hc => ?_) (fun hc => ?_)) <;> first | exact Bool.noConfusion hc | ((try simp only [znz] at hc); first | exact znf | skip)) | refine Qi ?_ | refine Qf ?_ | simp (maxSteps := 1000000) only [go_sem, Nat.reduceAdd, Nat.reduceMul, Nat.reduceEqDiff, Nat.reduceLeDiff, Nat.reduceLT, Nat.reduceSub, Int.reduceEq, Int.reduceBEq, Int.reduceLT, Int.reduceLE, Int.reduceAdd, Int.reduceToNat, reduceIte, reduceCtorEq, hwa, QT, QS] | (refine hK _ ?_; clear hK; clear K') | refine And.intro ?_ ?_ | exact zlo | omega | exact zms)
    refine Yj (ι := Unit) (fun _ => True) (fun _ => Vn [(0, .hd 0 0 (xs.map usV).length), (1, V.int a), (2, V.int a), (3, .clo g []), (8, V.int (a + 1 : Nat))] [(0, .buf true 2 (xs.map usV))] 1) (fun _ => 0) () trivial (Q0 []) (YE [] (by simp only [go_sem, Nat.reduceAdd, Nat.reduceMul, Nat.reduceEqDiff, Nat.reduceLT, Int.reduceToNat, reduceIte, reduceCtorEq, and_true, true_and, implies_true, Option.some.injEq, exists_eq_left', Qk, Qo]; (repeat' (first | rfl | refine And.intro ?_ ?_ | omega | exact fun h => h | exact Exists.intro _ rfl))) (by simp only [go_sem, Nat.reduceAdd, Nat.reduceMul, Nat.reduceEqDiff, Nat.reduceLT, Int.reduceToNat, reduceIte, reduceCtorEq, and_true, true_and, implies_true, Option.some.injEq, exists_eq_left', Qk, Qo]; (repeat' (first | rfl | refine And.intro ?_ ?_ | omega | exact fun h => h | exact Exists.intro _ rfl))) (by simp) (by simp) (by omega)) fun j hj K'' hL2 => ?_
    repeat' (first | refine Qb fun K' hK => ?_ | refine Qe fun K' hK => ?_ | refine Qp 17 (fun _ => true) rfl (Qw) (Qu) fun K' hK => ?_ | refine Qq 17 (fun _ => true) rfl (Qw) (Qu) fun K' hK => ?_ | refine Qp 18 (fun _ => false) rfl (Qv) (Qt) fun K' hK => ?_ | refine Qq 18 (fun _ => false) rfl (Qv) (Qt) fun K' hK => ?_ | refine Qc ?_ | refine Qd ?_ | refine Qa ?_ | ((first | refine Qg ⟨_, rfl, fun hc => ?_, fun hc => ?_⟩ | refine QL (fun hc => ?_) (fun hc => ?_) | refine QM (fun hc => ?_) (fun hc => ?_)) <;> first | exact Bool.noConfusion hc | ((try simp only [znz] at hc); first | exact znf | skip)) | refine Qi ?_ | refine Qf ?_ | simp (maxSteps := 1000000) only [go_sem, Nat.reduceAdd, Nat.reduceMul, Nat.reduceEqDiff, Nat.reduceLeDiff, Nat.reduceLT, Nat.reduceSub, Int.reduceEq, Int.reduceBEq, Int.reduceLT, Int.reduceLE, Int.reduceAdd, Int.reduceToNat, reduceIte, reduceCtorEq, Vn, e1, QT, QS] | (refine hK _ ?_; clear hK; clear K') | refine And.intro ?_ ?_ | exact zlo | omega | exact zms)
    all_goals first | (refine jz _ rfl rfl (by simp only [go_sem, Nat.reduceEqDiff, Nat.reduceAdd, reduceIte, reduceCtorEq]) ?_ <;> first | rfl | (simp; done)) | trace_state
  · rw [if_neg he]
    repeat' (first | refine Qb fun K' hK => ?_ | refine Qe fun K' hK => ?_ | refine Qp 17 (fun _ => true) rfl (Qw) (Qu) fun K' hK => ?_ | refine Qq 17 (fun _ => true) rfl (Qw) (Qu) fun K' hK => ?_ | refine Qp 18 (fun _ => false) rfl (Qv) (Qt) fun K' hK => ?_ | refine Qq 18 (fun _ => false) rfl (Qv) (Qt) fun K' hK => ?_ | refine Qc ?_ | refine Qd ?_ | refine Qa ?_ | ((first | refine Qg ⟨_, rfl, fun hc => ?_, fun hc => ?_⟩ | refine QL (fun hc => ?_) (fun hc => ?_) | refine QM (fun hc => ?_) (fun hc => ?_)) <;> first | exact Bool.noConfusion hc | ((try simp only [znz] at hc); first | exact znf | skip)) | refine Qi ?_ | refine Qf ?_ | simp (maxSteps := 1000000) only [go_sem, Nat.reduceAdd, Nat.reduceMul, Nat.reduceEqDiff, Nat.reduceLeDiff, Nat.reduceLT, Nat.reduceSub, Int.reduceEq, Int.reduceBEq, Int.reduceLT, Int.reduceLE, Int.reduceAdd, Int.reduceToNat, reduceIte, reduceCtorEq, hwa, QT, QS] | (refine hK _ ?_; clear hK; clear K') | refine And.intro ?_ ?_ | exact zlo | omega | exact zms)
    generalize hlt : (fun x y => decide (c x y < 0)) = lt
    have hlt2 : ∀ x y, decide (c x y < 0) = lt x y := by intro x y; rw [← hlt]
    refine Yj (ι := Nat) (fun i => a + 1 ≤ i ∧ i ≤ b) (fun i => Vn [(0, .hd 0 0 (xs.map usV).length), (1, V.int a), (2, V.int b), (3, .clo g []), (8, V.int i)] [(0, .buf true 2 ((yj lt xs a i).map usV))] 1) (fun i => b - i) (a + 1) ⟨by omega, by omega⟩ (Q0 []) (YE [] (by simp only [go_sem, Nat.reduceAdd, Nat.reduceMul, Nat.reduceEqDiff, Nat.reduceLT, Int.reduceToNat, reduceIte, reduceCtorEq, and_true, true_and, implies_true, Option.some.injEq, exists_eq_left', Qk, Qo]; (repeat' (first | rfl | refine And.intro ?_ ?_ | omega | exact fun h => h | exact Exists.intro _ rfl))) (by rw [aex (by omega)]; simp only [go_sem, Nat.reduceAdd, Nat.reduceMul, Nat.reduceEqDiff, Nat.reduceLT, Int.reduceToNat, reduceIte, reduceCtorEq, and_true, true_and, implies_true, Option.some.injEq, exists_eq_left', Qk, Qo]; (repeat' (first | rfl | refine And.intro ?_ ?_ | omega | exact fun h => h | exact Exists.intro _ rfl))) (by simp) (by simp) (by omega)) fun i hi K' hL => ?_
    obtain ⟨hi1, hi2⟩ := hi
    by_cases hib : i = b
    · subst hib
      have e1 : decide ((i : Int) < (i : Int)) = false := by simp
      repeat' (first | refine Qb fun K' hK => ?_ | refine Qe fun K' hK => ?_ | refine Qp 17 (fun _ => true) rfl (Qw) (Qu) fun K' hK => ?_ | refine Qq 17 (fun _ => true) rfl (Qw) (Qu) fun K' hK => ?_ | refine Qp 18 (fun _ => false) rfl (Qv) (Qt) fun K' hK => ?_ | refine Qq 18 (fun _ => false) rfl (Qv) (Qt) fun K' hK => ?_ | refine Qc ?_ | refine Qd ?_ | refine Qa ?_ | ((first | refine Qg ⟨_, rfl, fun hc => ?_, fun hc => ?_⟩ | refine QL (fun hc => ?_) (fun hc => ?_) | refine QM (fun hc => ?_) (fun hc => ?_)) <;> first | exact Bool.noConfusion hc | ((try simp only [znz] at hc); first | exact znf | skip)) | refine Qi ?_ | refine Qf ?_ | simp (maxSteps := 1000000) only [go_sem, Nat.reduceAdd, Nat.reduceMul, Nat.reduceEqDiff, Nat.reduceLeDiff, Nat.reduceLT, Nat.reduceSub, Int.reduceEq, Int.reduceBEq, Int.reduceLT, Int.reduceLE, Int.reduceAdd, Int.reduceToNat, reduceIte, reduceCtorEq, Vn, e1, QT, QS] | (refine hK _ ?_; clear hK; clear K') | refine And.intro ?_ ?_ | exact zlo | omega | exact zms)
      all_goals first | (refine jz _ rfl rfl (by simp only [go_sem, Nat.reduceEqDiff, Nat.reduceAdd, reduceIte, reduceCtorEq]) ?_ <;> first | rfl | (simp; done)) | trace_state
    · have e1 : decide ((i : Int) < (b : Int)) = true := by simp; omega
      have hwi := JS (k := i) (by omega)
      obtain ⟨x, hget⟩ : ∃ x, xs[i]? = some x := ⟨_, List.getElem?_eq_getElem (by omega)⟩
      have hxm : x ∈ xs := List.mem_of_getElem? hget
      have hdx : xs.drop i = x :: xs.drop (i + 1) := by
        rw [List.drop_eq_getElem_cons (by omega)]; congr 1
        rw [List.getElem?_eq_getElem (by omega)] at hget; exact Option.some.inj hget
      have hP : (xs.take a).length = a := by simp; omega
      have hS : (Vr lt ((xs.take i).drop a)).length = i - a := by rw [qT]; simp; omega
      have hSm : ∀ y ∈ Vr lt ((xs.take i).drop a), y ∈ xs := fun y hy => List.mem_of_mem_take (List.mem_of_mem_drop (vm.1 hy))
      have hnext : yj lt xs a (i + 1) = xs.take a ++ (adE lt (Vr lt ((xs.take i).drop a)) x ++ xs.drop (i + 1)) := by
        have : (xs.take (i + 1)).drop a = (xs.take i).drop a ++ [x] := by
          rw [List.take_add_one, hget, List.drop_append_of_le_length (by simp; omega)]; rfl
        rw [yj, this, Vr, List.foldl_append]; rfl
      have hnow : yj lt xs a i = V6 (xs.take a) (Vr lt ((xs.take i).drop a)) x (xs.drop (i + 1)) (i - a) := by
        rw [yj, hdx, V6, ← hS, List.take_length, List.drop_length]; rfl
      rw [hnow]
      generalize Vr lt ((xs.take i).drop a) = S at *
      have hPg := hP
      generalize xs.take a = P at *
      have hR : (xs.drop (i + 1)).length = xs.length - (i + 1) := List.length_drop
      generalize xs.drop (i + 1) = R at *
      repeat' (first | refine Qb fun K' hK => ?_ | refine Qe fun K' hK => ?_ | refine Qp 17 (fun _ => true) rfl (Qw) (Qu) fun K' hK => ?_ | refine Qq 17 (fun _ => true) rfl (Qw) (Qu) fun K' hK => ?_ | refine Qp 18 (fun _ => false) rfl (Qv) (Qt) fun K' hK => ?_ | refine Qq 18 (fun _ => false) rfl (Qv) (Qt) fun K' hK => ?_ | refine Qc ?_ | refine Qd ?_ | refine Qa ?_ | ((first | refine Qg ⟨_, rfl, fun hc => ?_, fun hc => ?_⟩ | refine QL (fun hc => ?_) (fun hc => ?_) | refine QM (fun hc => ?_) (fun hc => ?_)) <;> first | exact Bool.noConfusion hc | ((try simp only [znz] at hc); first | exact znf | skip)) | refine Qi ?_ | refine Qf ?_ | simp (maxSteps := 1000000) only [go_sem, Nat.reduceAdd, Nat.reduceMul, Nat.reduceEqDiff, Nat.reduceLeDiff, Nat.reduceLT, Nat.reduceSub, Int.reduceEq, Int.reduceBEq, Int.reduceLT, Int.reduceLE, Int.reduceAdd, Int.reduceToNat, reduceIte, reduceCtorEq, Vn, e1, QT, QS] | (refine hK _ ?_; clear hK; clear K') | refine And.intro ?_ ?_ | exact zlo | omega | exact zms)
      refine Yj (ι := Nat) (fun q => q ≤ i - a ∧ gK lt S x q = gK lt S x S.length) (fun q => Vn [(0, .hd 0 0 (xs.map usV).length), (1, V.int a), (2, V.int b), (3, .clo g []), (8, V.int i), (9, V.int (a + q : Nat))] [(0, .buf true 2 ((V6 P S x R q).map usV))] 1) (fun q => q) (i - a) ⟨by omega, by rw [hS]⟩ (Q0 []) (YE [] (by rw [show a + (i - a) = i by omega]; simp only [go_sem, Nat.reduceAdd, Nat.reduceMul, Nat.reduceEqDiff, Nat.reduceLT, Int.reduceToNat, reduceIte, reduceCtorEq, and_true, true_and, implies_true, Option.some.injEq, exists_eq_left', Qk, Qo]; (repeat' (first | rfl | refine And.intro ?_ ?_ | omega | exact fun h => h | exact Exists.intro _ rfl))) (by simp only [go_sem, Nat.reduceAdd, Nat.reduceMul, Nat.reduceEqDiff, Nat.reduceLT, Int.reduceToNat, reduceIte, reduceCtorEq, and_true, true_and, implies_true, Option.some.injEq, exists_eq_left', Qk, Qo]; (repeat' (first | rfl | refine And.intro ?_ ?_ | omega | exact fun h => h | exact Exists.intro _ rfl))) (by simp) (by simp) (by omega)) fun q hq K'' hL2 => ?_
      obtain ⟨hq1, hq2⟩ := hq
      have hfin : gK lt S x S.length = q → V6 P S x R q = yj lt xs a (i + 1) := by
        intro h
        rw [hnext, adE, h]; simp only [V6, List.append_assoc, List.singleton_append, List.cons_append, List.nil_append]
      have hlen : (V6 P S x R q).length = xs.length := by rw [aew, hP, hS, hR]; omega
      have gx := aim (P := P) (R := R) (x := x) (q := q) (S := S) (by omega)
      rw [hP] at gx
      rcases q with _ | q
      · have e2 : decide (((a + 0 : Nat) : Int) > (a : Int)) = false := by simp
        have hf := hfin hq2.symm
        repeat' (first | refine Qb fun K' hK => ?_ | refine Qe fun K' hK => ?_ | refine Qp 17 (fun _ => true) rfl (Qw) (Qu) fun K' hK => ?_ | refine Qq 17 (fun _ => true) rfl (Qw) (Qu) fun K' hK => ?_ | refine Qp 18 (fun _ => false) rfl (Qv) (Qt) fun K' hK => ?_ | refine Qq 18 (fun _ => false) rfl (Qv) (Qt) fun K' hK => ?_ | refine Qc ?_ | refine Qd ?_ | refine Qa ?_ | ((first | refine Qg ⟨_, rfl, fun hc => ?_, fun hc => ?_⟩ | refine QL (fun hc => ?_) (fun hc => ?_) | refine QM (fun hc => ?_) (fun hc => ?_)) <;> first | exact Bool.noConfusion hc | ((try simp only [znz] at hc); first | exact znf | skip)) | refine Qi ?_ | refine Qf ?_ | simp (maxSteps := 1000000) only [go_sem, Nat.reduceAdd, Nat.reduceMul, Nat.reduceEqDiff, Nat.reduceLeDiff, Nat.reduceLT, Nat.reduceSub, Int.reduceEq, Int.reduceBEq, Int.reduceLT, Int.reduceLE, Int.reduceAdd, Int.reduceToNat, reduceIte, reduceCtorEq, Vn, e2, hwi, QT, QS] | (refine hK _ ?_; clear hK; clear K') | refine And.intro ?_ ?_ | exact zlo | omega | exact zms)
        rw [hf]
        exact hL _ (i + 1) (Q0 []) ⟨by omega, by omega⟩ (by omega) (YE [] (by simp only [go_sem, Nat.reduceAdd, Nat.reduceMul, Nat.reduceEqDiff, Nat.reduceLT, Int.reduceToNat, reduceIte, reduceCtorEq, and_true, true_and, implies_true, Option.some.injEq, exists_eq_left', Qk, Qo]; (repeat' (first | rfl | refine And.intro ?_ ?_ | omega | exact fun h => h | exact Exists.intro _ rfl))) (by simp only [go_sem, Nat.reduceAdd, Nat.reduceMul, Nat.reduceEqDiff, Nat.reduceLT, Int.reduceToNat, reduceIte, reduceCtorEq, and_true, true_and, implies_true, Option.some.injEq, exists_eq_left', Qk, Qo]; (repeat' (first | rfl | refine And.intro ?_ ?_ | omega | exact fun h => h | exact Exists.intro _ rfl))) (by simp) (by simp) (by omega))
      · have hqS : q < S.length := by omega
        have e2 : decide (((a + (q + 1) : Nat) : Int) > (a : Int)) = true := decide_eq_true (by omega)
        have hwj : IntKind.i64.wrap (((a + (q + 1) : Nat) : Int) - 1) = ((a + q : Nat) : Int) := by rw [Wl (by omega) (by omega)]; omega
        have gy := ail (P := P) (R := R) (x := x) (q := q) (S := S) hqS
        rw [hP] at gy
        have hset := aev (P := P) (R := R) (x := x) (q := q) (S := S) hqS
        rw [hP] at hset
        have hyd : S[q]? = some S[q] := List.getElem?_eq_getElem hqS
        have hym : S[q] ∈ xs := hSm _ (List.getElem_mem hqS)
        rw [gK, hyd] at hq2
        dsimp only at hq2
        generalize S[q] = y at *
        have hcc := (hcmp x hxm y hym).b
        have hd := hlt2 x y
        have vx : (List.map usV (V6 P S x R (q + 1)))[a + (q + 1)]? = some (usV x) := by rw [List.getElem?_map, gx]; rfl
        have vy : (List.map usV (V6 P S x R (q + 1)))[a + q]? = some (usV y) := by rw [List.getElem?_map, gy]; rfl
        have hs1 : ((List.map usV (V6 P S x R (q + 1))).set (a + (q + 1)) (usV y))[a + q]? = some (usV y) := by
          rw [List.getElem?_set_ne (by omega), List.getElem?_map, gy]; rfl
        have hs2 : ((List.map usV (V6 P S x R (q + 1))).set (a + (q + 1)) (usV y)).set (a + q) (usV x) = List.map usV (V6 P S x R q) := by
          rw [← hset, List.map_set, List.map_set]
        simp only [usV] at vx vy hs1 hs2 hcc
        rcases hl : lt x y with _ | _
        · rw [hl] at hd
          simp only [hl, Bool.false_eq_true, if_false] at hq2
          have hf := hfin hq2.symm
          repeat' (first | refine Qb fun K' hK => ?_ | refine Qe fun K' hK => ?_ | refine Qp 17 (fun _ => true) rfl (Qw) (Qu) fun K' hK => ?_ | refine Qq 17 (fun _ => true) rfl (Qw) (Qu) fun K' hK => ?_ | refine Qp 18 (fun _ => false) rfl (Qv) (Qt) fun K' hK => ?_ | refine Qq 18 (fun _ => false) rfl (Qv) (Qt) fun K' hK => ?_ | refine Qc ?_ | refine Qd ?_ | refine Qa ?_ | ((first | refine Qg ⟨_, rfl, fun hc => ?_, fun hc => ?_⟩ | refine QL (fun hc => ?_) (fun hc => ?_) | refine QM (fun hc => ?_) (fun hc => ?_)) <;> first | exact Bool.noConfusion hc | ((try simp only [znz] at hc); first | exact znf | skip)) | refine Qi ?_ | refine Qf ?_ | simp (maxSteps := 1000000) only [go_sem, Nat.reduceAdd, Nat.reduceMul, Nat.reduceEqDiff, Nat.reduceLeDiff, Nat.reduceLT, Nat.reduceSub, Int.reduceEq, Int.reduceBEq, Int.reduceLT, Int.reduceLE, Int.reduceAdd, Int.reduceToNat, reduceIte, reduceCtorEq, Vn, e2, hwi, hwj, Int.toNat_natCast, vx, vy, hd, QT, QS] | (refine hK _ ?_; clear hK; clear K') | refine And.intro ?_ ?_ | ((first | apply QX | apply YB); (focus first | exact hcc)) | exact zlo | omega | exact zms)
          all_goals
            rw [hf]
            exact hL _ (i + 1) (Q0 []) ⟨by omega, by omega⟩ (by omega) (YE [] (by simp only [go_sem, Nat.reduceAdd, Nat.reduceMul, Nat.reduceEqDiff, Nat.reduceLT, Int.reduceToNat, reduceIte, reduceCtorEq, and_true, true_and, implies_true, Option.some.injEq, exists_eq_left', Qk, Qo]; (repeat' (first | rfl | refine And.intro ?_ ?_ | omega | exact fun h => h | exact Exists.intro _ rfl))) (by simp only [go_sem, Nat.reduceAdd, Nat.reduceMul, Nat.reduceEqDiff, Nat.reduceLT, Int.reduceToNat, reduceIte, reduceCtorEq, and_true, true_and, implies_true, Option.some.injEq, exists_eq_left', Qk, Qo]; (repeat' (first | rfl | refine And.intro ?_ ?_ | omega | exact fun h => h | exact Exists.intro _ rfl))) (by simp) (by simp) (by omega))
        · rw [hl] at hd
          simp only [hl, if_true] at hq2
          repeat' (first | refine Qb fun K' hK => ?_ | refine Qe fun K' hK => ?_ | refine Qp 17 (fun _ => true) rfl (Qw) (Qu) fun K' hK => ?_ | refine Qq 17 (fun _ => true) rfl (Qw) (Qu) fun K' hK => ?_ | refine Qp 18 (fun _ => false) rfl (Qv) (Qt) fun K' hK => ?_ | refine Qq 18 (fun _ => false) rfl (Qv) (Qt) fun K' hK => ?_ | refine Qc ?_ | refine Qd ?_ | refine Qa ?_ | ((first | refine Qg ⟨_, rfl, fun hc => ?_, fun hc => ?_⟩ | refine QL (fun hc => ?_) (fun hc => ?_) | refine QM (fun hc => ?_) (fun hc => ?_)) <;> first | exact Bool.noConfusion hc | ((try simp only [znz] at hc); first | exact znf | skip)) | refine Qi ?_ | refine Qf ?_ | simp (maxSteps := 1000000) only [go_sem, Nat.reduceAdd, Nat.reduceMul, Nat.reduceEqDiff, Nat.reduceLeDiff, Nat.reduceLT, Nat.reduceSub, Int.reduceEq, Int.reduceBEq, Int.reduceLT, Int.reduceLE, Int.reduceAdd, Int.reduceToNat, reduceIte, reduceCtorEq, Vn, e2, hwi, hwj, Int.toNat_natCast, vx, vy, hd, hs1, hs2, QT, QS] | (refine hK _ ?_; clear hK; clear K') | refine And.intro ?_ ?_ | ((first | apply QX | apply YB); (focus first | exact hcc)) | exact zlo | omega | exact zms)
          all_goals exact hL2 _ q (Q0 []) ⟨by omega, hq2⟩ (by omega) (YE [] (by simp only [go_sem, Nat.reduceAdd, Nat.reduceMul, Nat.reduceEqDiff, Nat.reduceLT, Int.reduceToNat, reduceIte, reduceCtorEq, and_true, true_and, implies_true, Option.some.injEq, exists_eq_left', Qk, Qo]; (repeat' (first | rfl | refine And.intro ?_ ?_ | omega | exact fun h => h | exact Exists.intro _ rfl))) (by simp only [go_sem, Nat.reduceAdd, Nat.reduceMul, Nat.reduceEqDiff, Nat.reduceLT, Int.reduceToNat, reduceIte, reduceCtorEq, and_true, true_and, implies_true, Option.some.injEq, exists_eq_left', Qk, Qo]; (repeat' (first | rfl | refine And.intro ?_ ?_ | omega | exact fun h => h | exact Exists.intro _ rfl))) (by simp) (by simp) (by omega))
def XF : List AO := [mv 81 1, bc 82 .gtr 81 (V.int 0), mv 83 82, mg 84 4 83 true, mg 85 0 83 true, mg 86 1 83 true, xg 87 (.bin .sub (.t 86) (.c (V.int 1))) 83 true, xg 88 (.iaddr 2 (.t 85) (.t 87)) 83 true, xg 89 (.load true 2 (.t 88)) 83 true, mg 90 0 83 true, mg 91 13 83 true, xg 92 (.iaddr 2 (.t 90) (.t 91)) 83 true, xg 93 (.load true 2 (.t 92)) 83 true, xg 94 (.callv (.t 84) [(.t 89), (.t 93)]) 83 true, xg 95 (.bin .lss (.t 94) (.c (V.int 0))) 83 true, xg 96 (.un .not (.t 95)) 83 true, xo 97 (.pick (.t 83) (.t 96) (.c (V.bool false)))]
def XQ : List (List Nat) := [[], [0], [1], [2], [2], [2], [5, 2], [4, 6, 2], [7, 2], [2], [2], [9, 10, 2], [11, 2], [3, 8, 12, 2, 2], [13, 2], [14, 2], [2, 15]]
def XE : OT := .one 0 (.one 1 (.one 2 (.one 3 (.one 4 (.one 5 (.one 6 (.one 7 (.one 8 (.one 9 (.one 10 (.one 11 (.one 12 (.or 13 (.one 14 (.one 15 (.one 16 (.done)))) (.done))))))))))))))
def Yv : OP := .one 0 false [] (mv 81 1) (.one 1 false [] (bc 82 .gtr 81 (V.int 0)) (.one 2 false [] (mv 83 82) (.one 3 false [] (mg 84 4 83 true) (.one 4 false [] (mg 85 0 83 true) (.one 5 false [] (mg 86 1 83 true) (.one 6 false [] (xg 87 (.bin .sub (.t 86) (.c (V.int 1))) 83 true) (.one 7 false [] (xg 88 (.iaddr 2 (.t 85) (.t 87)) 83 true) (.one 8 false [] (xg 89 (.load true 2 (.t 88)) 83 true) (.one 9 false [] (mg 90 0 83 true) (.one 10 false [] (mg 91 13 83 true) (.one 11 false [] (xg 92 (.iaddr 2 (.t 90) (.t 91)) 83 true) (.one 12 false [] (xg 93 (.load true 2 (.t 92)) 83 true) (.or 13 true [] (xg 94 (.callv (.t 84) [(.t 89), (.t 93)]) 83 true) (.one 14 false [13] (xg 95 (.bin .lss (.t 94) (.c (V.int 0))) 83 true) (.one 15 false [13] (xg 96 (.un .not (.t 95)) 83 true) (.one 16 false [13] (xo 97 (.pick (.t 83) (.t 96) (.c (V.bool false)))) (.done)))) (.done))))))))))))))
theorem Yw : okR (XF) XQ [13] XE = true := by kernel_rfl
theorem Yu : Wt (ris (XF) XQ [13]) XE = Yv := by kernel_rfl def c_slices_pdqsortCmpFunc_api_Use (JK XU Y2 Xs Xc Yf YV XJ JC : Nat) : AC := Qr [0, 1, 2, 3, 4, 10] (.reg [mc 10 (V.bool true)]) (Qr [0, 1, 2, 3, 4, 10, 11] (.reg [mc 11 (V.bool true)]) (.block 0 (W5 [0, 1, 2, 3, 4, 10, 11] (.block 1 (Qr [0, 1, 2, 3, 4, 10, 11, 12] (.reg [mv 21 2, mv 22 1, bn 23 .sub 21 22, mv 12 23]) (Qr [0, 1, 2, 3, 4, 10, 11, 12] (Qr [0, 1, 2, 3, 4, 10, 11, 12, 25] (.reg [mv 24 12, bc 25 .leq 24 (V.int 12)]) (.cond (.t 25) (Qr [] (.reg [mv 26 0, mv 27 1, mv 28 2, mv 29 4, cl 30 JK [26, 27, 28, 29]]) (.ret)) (.skip))) (Qr [0, 1, 2, 3, 4, 10, 11, 12] (Qr [0, 1, 2, 3, 4, 10, 11, 12, 32] (.reg [mv 31 3, bc 32 .eql 31 (V.int 0)]) (.cond (.t 32) (Qr [] (.reg [mv 33 0, mv 34 1, mv 35 2, mv 36 4, cl 37 XU [33, 34, 35, 36]]) (.ret)) (.skip))) (Qr [0, 1, 2, 3, 4, 10, 11, 12] (Qr [0, 1, 2, 3, 4, 10, 11, 12, 39] (.reg [mv 38 10, xo 39 (.un .not (.t 38))]) (.cond (.t 39) (Qr [0, 1, 2, 3, 4, 10, 11, 12] (.reg [mv 40 0, mv 41 1, mv 42 2, mv 43 4, cl 44 Y2 [40, 41, 42, 43]]) (.reg [mv 45 3, bc 46 .sub 45 (V.int 1), mv 3 46])) (.skip))) (Qr [0, 1, 2, 3, 4, 10, 11, 12, 13, 14] (.reg [mv 48 0, mv 49 1, mv 50 2, mv 51 4, cl 52 Xs [48, 49, 50, 51], mv 47 52, ex 53 47 0, ex 54 47 1, mv 13 53, mv 14 54]) (Qr [0, 1, 2, 3, 4, 10, 11, 12, 13, 14] (Qr [0, 1, 2, 3, 4, 10, 11, 12, 13, 14, 56] (.reg [mv 55 14, bc 56 .eql 55 (V.int 2)]) (.cond (.t 56) (Qr [0, 1, 2, 3, 4, 10, 11, 12, 13] (.reg [mv 57 0, mv 58 1, mv 59 2, mv 60 4, cl 61 Xc [57, 58, 59, 60]]) (Qr [0, 1, 2, 3, 4, 10, 11, 12, 13] (.reg [mv 62 2, bc 63 .sub 62 (V.int 1), mv 64 13, mv 65 1, bn 66 .sub 64 65, bn 67 .sub 63 66, mv 13 67]) (.reg [mc 14 (V.int 1)]))) (.skip))) (Qr [0, 1, 2, 3, 4, 10, 11, 12, 13] (Qr [0, 1, 2, 3, 4, 10, 11, 12, 13, 75] (.reg [mv 68 10, mv 69 68, mg 70 11 69 true, xo 71 (.pick (.t 69) (.t 70) (.c (V.bool false))), mv 72 71, mg 73 14 72 true, xg 74 (.bin .eql (.t 73) (.c (V.int 1))) 72 true, xo 75 (.pick (.t 72) (.t 74) (.c (V.bool false)))]) (.cond (.t 75) (Qr [0, 1, 2, 3, 4, 10, 11, 12, 13, 80] (.reg [mv 76 0, mv 77 1, mv 78 2, mv 79 4, cl 80 Yf [76, 77, 78, 79]]) (.cond (.t 80) (.ret) (.skip))) (.skip))) (Qr [0, 1, 2, 3, 4, 12, 13] (Qr [0, 1, 2, 3, 4, 10, 11, 12, 13, 97] (acq [13] XE (Yv) (XF) XQ) (.cond (.t 97) (Qr [0, 2, 3, 4, 10, 11, 15] (.reg [mv 98 0, mv 99 1, mv 100 2, mv 101 13, mv 102 4, cl 103 YV [98, 99, 100, 101, 102], mv 15 103]) (Qr [0, 1, 2, 3, 4, 10, 11] (.reg [mv 104 15, mv 1 104]) (.exit 1))) (.skip))) (Qr [0, 1, 2, 3, 4, 12, 16, 17] (.reg [mv 106 0, mv 107 1, mv 108 2, mv 109 13, mv 110 4, cl 111 XJ [106, 107, 108, 109, 110], mv 105 111, ex 112 105 0, ex 113 105 1, mv 16 112, mv 17 113]) (Qr [0, 1, 2, 3, 4, 11, 12, 16] (.reg [mv 114 17, mv 11 114]) (Qr [0, 1, 2, 3, 4, 11, 12, 16, 18, 19] (.reg [mv 115 16, mv 116 1, bn 117 .sub 115 116, mv 118 2, mv 119 16, bn 120 .sub 118 119, mv 18 117, mv 19 120]) (Qr [0, 1, 2, 3, 4, 11, 16, 18, 19, 20] (.reg [mv 121 12, bc 122 .quo 121 (V.int 8), mv 20 122]) (Qr [0, 1, 2, 3, 4, 11, 16, 18, 19, 20, 125] (.reg [mv 123 18, mv 124 19, bn 125 .lss 123 124]) (.cond (.t 125) (Qr [0, 1, 2, 3, 4, 10, 11, 16] (.reg [mv 126 18, mv 127 20, bn 128 .geq 126 127, mv 10 128]) (Qr [0, 2, 3, 4, 10, 11, 16] (.reg [mv 129 0, mv 130 1, mv 131 16, mv 132 3, mv 133 4, cl 134 JC [129, 130, 131, 132, 133]]) (.reg [mv 135 16, bc 136 .add 135 (V.int 1), mv 1 136]))) (Qr [0, 1, 2, 3, 4, 10, 11, 16] (.reg [mv 137 19, mv 138 20, bn 139 .geq 137 138, mv 10 139]) (Qr [0, 1, 3, 4, 10, 11, 16] (.reg [mv 140 0, mv 141 16, bc 142 .add 141 (V.int 1), mv 143 2, mv 144 3, mv 145 4, cl 146 JC [140, 142, 143, 144, 145]]) (.reg [mv 147 16, mv 2 147]))))))))))))))))))))) def r_slices_pdqsortCmpFunc_api_Use : List Wc := []
def XV (Γ : Env) (f : Nat) : Prop := ∀ (xs : List PU) (lim : Int) (g : Nat) (c : PU → PU → Int) (hcmp : ∀ x ∈ xs, ∀ y ∈ xs, EvN Γ g [usV x, usV y] (V.int (c x y))) (hx : xs.length ≤ 12), EvL Γ f [V.int 0, V.int xs.length, V.int lim, .clo g []] 2 (xs.map usV) (.tup []) (((Vr (fun x y => decide (c x y < 0)) xs).map usV))
theorem KE {Γ : Env} {f JK XU Y2 Xs Xc Yf YV XJ : Nat} (h : Has Γ.P f 148 (c_slices_pdqsortCmpFunc_api_Use JK XU Y2 Xs Xc Yf YV XJ f) r_slices_pdqsortCmpFunc_api_Use) (Y1 : YZ Γ JK) : XV Γ f := by
  intro xs lim g c hcmp hx
  refine KQ h (by simp) (by simp only [V.closed, Qj, V.noSl, Jy, and_self, and_true, true_and]) fun C hC hm => ?_
  subst hC
  unfold c_slices_pdqsortCmpFunc_api_Use
  have hi := Y1 xs 0 xs.length g c hcmp (by omega) (by omega) (by omega)
  rw [af9] at hi
  have hi0 : EvL C.env JK [V.int 0, V.int xs.length, .clo g []] 2 (xs.map usV) (.tup []) ((Vr (fun x y => decide (c x y < 0)) xs).map usV) := hi
  have hw : IntKind.i64.wrap ((xs.length : Int) - 0) = (xs.length : Int) := by rw [Wl (by omega) (by omega)]; omega
  have e1 : decide ((xs.length : Int) ≤ 12) = true := by simp; omega
  repeat' (first | refine Qb fun K' hK => ?_ | refine Qe fun K' hK => ?_ | refine Qp 17 (fun _ => true) rfl (Yw) (Yu) fun K' hK => ?_ | refine Qq 17 (fun _ => true) rfl (Yw) (Yu) fun K' hK => ?_ | refine Qc ?_ | refine Qd ?_ | refine Qa ?_ | ((first | refine Qg ⟨_, rfl, fun hc => ?_, fun hc => ?_⟩ | refine QL (fun hc => ?_) (fun hc => ?_) | refine QM (fun hc => ?_) (fun hc => ?_)) <;> first | exact Bool.noConfusion hc | ((try simp only [znz] at hc); first | exact znf | skip)) | refine Qi ?_ | refine Qf ?_ | simp (maxSteps := 1000000) only [go_sem, Nat.reduceAdd, Nat.reduceMul, Nat.reduceEqDiff, Nat.reduceLeDiff, Nat.reduceLT, Nat.reduceSub, Int.reduceEq, Int.reduceBEq, Int.reduceLT, Int.reduceLE, Int.reduceAdd, Int.reduceToNat, reduceIte, reduceCtorEq, Yv] | (refine hK _ ?_; clear hK; clear K') | refine And.intro ?_ ?_ | (apply Vw; (focus exact rfl); (focus first | exact (Y1 _ _ _ _ _ zsd zsd zsd zsd) | exact (YT _ _ _ _ zsd zsd)); (focus exact rfl); (focus (first | (simp; done) | omega | (simp only [List.length_map]; omega)))) | exact zlo | omega | exact zms)
  refine ago ?_
  repeat' (first | refine Qb fun K' hK => ?_ | refine Qe fun K' hK => ?_ | refine Qp 17 (fun _ => true) rfl (Yw) (Yu) fun K' hK => ?_ | refine Qq 17 (fun _ => true) rfl (Yw) (Yu) fun K' hK => ?_ | refine Qc ?_ | refine Qd ?_ | refine Qa ?_ | ((first | refine Qg ⟨_, rfl, fun hc => ?_, fun hc => ?_⟩ | refine QL (fun hc => ?_) (fun hc => ?_) | refine QM (fun hc => ?_) (fun hc => ?_)) <;> first | exact Bool.noConfusion hc | ((try simp only [znz] at hc); first | exact znf | skip)) | refine Qi ?_ | refine Qf ?_ | simp (maxSteps := 1000000) only [go_sem, Nat.reduceAdd, Nat.reduceMul, Nat.reduceEqDiff, Nat.reduceLeDiff, Nat.reduceLT, Nat.reduceSub, Int.reduceEq, Int.reduceBEq, Int.reduceLT, Int.reduceLE, Int.reduceAdd, Int.reduceToNat, reduceIte, reduceCtorEq, hw, e1, Yv] | (refine hK _ ?_; clear hK; clear K') | refine And.intro ?_ ?_ | (apply Vw; (focus exact rfl); (focus first | exact hi0 | exact (Y1 _ _ _ _ _ zsd zsd zsd zsd) | exact (YT _ _ _ _ zsd zsd)); (focus exact rfl); (focus (first | (simp; done) | omega | (simp only [List.length_map]; omega)))) | exact zlo | omega | exact zms)
  all_goals first | (refine jz _ rfl rfl (by simp only [go_sem, Nat.reduceEqDiff, Nat.reduceAdd, reduceIte, reduceCtorEq]) ?_; done) | (refine jz _ rfl rfl (by simp only [go_sem, Nat.reduceEqDiff, Nat.reduceAdd, reduceIte, reduceCtorEq]) ?_; rfl) | (refine jz _ rfl rfl (by simp only [go_sem, Nat.reduceEqDiff, Nat.reduceAdd, reduceIte, reduceCtorEq]) ?_ <;> first | rfl | (simp; done)) | trace_state
def Xt (XM JC : Nat) : AC := Qr [0, 1, 4] (.reg [mv 5 0, ln 6 5, mv 4 6]) (.reg [mv 7 0, mv 8 4, mv 9 4, xo 10 (.convI .u64 (.t 9)), cl 11 XM [10], mv 12 1, xo 13 (.call JC [(.t 7), (.c (V.int 0)), (.t 8), (.t 11), (.t 12)])]) def r_slices_SortFunc___api_Use_api_Use : List Wc := []
def Xh (Γ : Env) (f : Nat) : Prop := ∀ (xs : List PU) (g : Nat) (c : PU → PU → Int) (hcmp : ∀ x ∈ xs, ∀ y ∈ xs, EvN Γ g [usV x, usV y] (V.int (c x y))) (hx : xs.length ≤ 12), EvL Γ f [.clo g []] 2 (xs.map usV) (.tup []) (((Vr (fun x y => decide (c x y < 0)) xs).map usV))
theorem Uy {Γ : Env} {f XM JC : Nat} (h : Has Γ.P f 14 (Xt XM JC) r_slices_SortFunc___api_Use_api_Use) (VP : Vx Γ XM) (YT : XV Γ JC) : Xh Γ f := by
  intro xs g c hcmp hx
  refine KQ h (by simp) (by simp only [V.closed, Qj, V.noSl, Jy, and_self, and_true, true_and]) fun C hC hm => ?_
  subst hC
  unfold Xt
  obtain ⟨lim, hlim⟩ := adg VP xs.length hx
  have hi := YT xs lim g c hcmp hx
  have e : ((xs.map usV).length : Int) = (xs.length : Int) := by simp
  have hb := hlim.b
  have hw : IntKind.u64.wrap (xs.length : Int) = (xs.length : Int) := afG (by omega) (by omega)
  repeat' (first | refine Qb fun K' hK => ?_ | refine Qe fun K' hK => ?_ | refine Qc ?_ | refine Qd ?_ | refine Qa ?_ | ((first | refine Qg ⟨_, rfl, fun hc => ?_, fun hc => ?_⟩ | refine QL (fun hc => ?_) (fun hc => ?_) | refine QM (fun hc => ?_) (fun hc => ?_)) <;> first | exact Bool.noConfusion hc | ((try simp only [znz] at hc); first | exact znf | skip)) | refine Qi ?_ | refine Qf ?_ | simp (maxSteps := 1000000) only [go_sem, Nat.reduceAdd, Nat.reduceMul, Nat.reduceEqDiff, Nat.reduceLeDiff, Nat.reduceLT, Nat.reduceSub, Int.reduceEq, Int.reduceBEq, Int.reduceLT, Int.reduceLE, Int.reduceAdd, Int.reduceToNat, reduceIte, reduceCtorEq, e, hw] | (refine hK _ ?_; clear hK; clear K') | refine And.intro ?_ ?_ | (apply Vw; (focus exact rfl); (focus first | exact hi | exact (YT _ _ _ _ zsd zsd)); (focus exact rfl); (focus (first | (simp; done) | omega | (simp only [List.length_map]; omega)))) | (apply QX; (focus first | exact hb | exact (VP _ zsd).b)) | exact zlo | omega | exact zms)
  all_goals first | (refine jz _ rfl rfl (by simp only [go_sem, Nat.reduceEqDiff, Nat.reduceAdd, reduceIte, reduceCtorEq]) ?_; done) | (refine jz _ rfl rfl (by simp only [go_sem, Nat.reduceEqDiff, Nat.reduceAdd, reduceIte, reduceCtorEq]) ?_; rfl) | trace_state
end Av
end
section
set_option linter.unusedSimpArgs false
set_option linter.unusedVariables false
set_option maxRecDepth 10000
set_option maxHeartbeats 4000000
namespace Av
open Go
attribute [local irreducible] AWp Wz WQ W4 awS awC V1 awQ Ue Jc YR VY awR YY awB okR Wt ris
def Xr (Jd : Nat) : List AO := [mv 16 7, mv 17 1, bn 18 .gtr 16 17, mv 19 18, mg 20 0 19 true, mg 21 7 19 true, xg 22 (.iaddr 1 (.t 20) (.t 21)) 19 true, xg 23 (.load false 1 (.t 22)) 19 true, mg 24 0 19 true, mg 25 7 19 true, xg 26 (.bin .sub (.t 25) (.c (V.int 1))) 19 true, xg 27 (.iaddr 1 (.t 24) (.t 26)) 19 true, xg 28 (.load false 1 (.t 27)) 19 true, xg 29 (.call Jd [(.t 23), (.t 28)]) 19 true, xo 30 (.pick (.t 19) (.t 29) (.c (V.bool false)))]
def Xv : List (List Nat) := [[], [], [0, 1], [2], [3], [3], [4, 5, 3], [6, 3], [3], [3], [9, 3], [8, 10, 3], [11, 3], [7, 12, 3, 3], [3, 13]]
def Xp : OT := .one 0 (.one 1 (.one 2 (.one 3 (.one 4 (.one 5 (.one 6 (.one 7 (.one 8 (.one 9 (.one 10 (.one 11 (.one 12 (.one 13 (.one 14 (.done)))))))))))))))
def Q4 (Jd : Nat) : OP := .one 0 false [] (mv 16 7) (.one 1 false [] (mv 17 1) (.one 2 false [] (bn 18 .gtr 16 17) (.one 3 false [] (mv 19 18) (.one 4 false [] (mg 20 0 19 true) (.one 5 false [] (mg 21 7 19 true) (.one 6 false [] (xg 22 (.iaddr 1 (.t 20) (.t 21)) 19 true) (.one 7 false [] (xg 23 (.load false 1 (.t 22)) 19 true) (.one 8 false [] (mg 24 0 19 true) (.one 9 false [] (mg 25 7 19 true) (.one 10 false [] (xg 26 (.bin .sub (.t 25) (.c (V.int 1))) 19 true) (.one 11 false [] (xg 27 (.iaddr 1 (.t 24) (.t 26)) 19 true) (.one 12 false [] (xg 28 (.load false 1 (.t 27)) 19 true) (.one 13 false [] (xg 29 (.call Jd [(.t 23), (.t 28)]) 19 true) (.one 14 false [13] (xo 30 (.pick (.t 19) (.t 29) (.c (V.bool false)))) (.done)))))))))))))))
theorem QG (Jd : Nat) : okR (Xr Jd) Xv [] Xp = true := by kernel_rfl
theorem QE (Jd : Nat) : Wt (ris (Xr Jd) Xv []) Xp = Q4 Jd := by kernel_rfl
def Xq : List AO := [mv 33 0, mv 34 7, mv 35 0, mv 36 7, bc 37 .sub 36 (V.int 1), mv 38 0, mv 39 7, bc 40 .sub 39 (V.int 1), ia 41 1 38 40, ld 42 1 41, mv 43 0, mv 44 7, ia 45 1 43 44, ld 46 1 45, ia 47 1 33 34, xs 1 47 42, ia 48 1 35 37, xs 1 48 46]
def Xu : List (List Nat) := [[], [], [], [], [3], [], [], [6], [5, 7], [8], [], [], [10, 11], [12], [0, 1, 0, 1, 5, 6, 7, 8, 9, 13], [14, 9, 0, 1, 5, 6, 7, 8, 9, 13], [2, 4, 0, 1, 2, 3, 4, 5, 6, 7, 8, 9, 10, 11, 12, 13, 14, 15], [16, 13, 15, 0, 1, 2, 3, 4, 5, 6, 7, 8, 9, 10, 11, 12, 13, 14, 15]]
def Xo : OT := .one 0 (.one 1 (.one 2 (.one 3 (.one 4 (.one 5 (.one 6 (.one 7 (.one 10 (.one 11 (.or 8 (.or 9 (.or 12 (.one 13 (.one 14 (.one 15 (.one 16 (.one 17 (.done)))))) (.done)) (.or 12 (.or 9 (.one 13 (.one 14 (.one 15 (.one 16 (.one 17 (.done)))))) (.or 13 (.one 9 (.one 14 (.one 15 (.one 16 (.one 17 (.done)))))) (.done))) (.done))) (.or 12 (.or 8 (.or 9 (.one 13 (.one 14 (.one 15 (.one 16 (.one 17 (.done)))))) (.or 13 (.one 9 (.one 14 (.one 15 (.one 16 (.one 17 (.done)))))) (.done))) (.or 13 (.one 8 (.one 9 (.one 14 (.one 15 (.one 16 (.one 17 (.done))))))) (.done))) (.done))))))))))))
def Q3 : OP := .one 0 false [] (mv 33 0) (.one 1 false [] (mv 34 7) (.one 2 false [] (mv 35 0) (.one 3 false [] (mv 36 7) (.one 4 false [] (bc 37 .sub 36 (V.int 1)) (.one 5 false [] (mv 38 0) (.one 6 false [] (mv 39 7) (.one 7 false [] (bc 40 .sub 39 (V.int 1)) (.one 10 false [] (mv 43 0) (.one 11 false [] (mv 44 7) (.or 8 true [] (ia 41 1 38 40) (.or 9 true [] (ld 42 1 41) (.or 12 true [] (ia 45 1 43 44) (.one 13 true [] (ld 46 1 45) (.one 14 true [] (ia 47 1 33 34) (.one 15 true [] (xs 1 47 42) (.one 16 true [] (ia 48 1 35 37) (.one 17 true [] (xs 1 48 46) (.done)))))) (.done)) (.or 12 true [] (ia 45 1 43 44) (.or 9 true [] (ld 42 1 41) (.one 13 true [] (ld 46 1 45) (.one 14 true [] (ia 47 1 33 34) (.one 15 true [] (xs 1 47 42) (.one 16 true [] (ia 48 1 35 37) (.one 17 true [] (xs 1 48 46) (.done)))))) (.or 13 true [] (ld 46 1 45) (.one 9 true [] (ld 42 1 41) (.one 14 true [] (ia 47 1 33 34) (.one 15 true [] (xs 1 47 42) (.one 16 true [] (ia 48 1 35 37) (.one 17 true [] (xs 1 48 46) (.done)))))) (.done))) (.done))) (.or 12 true [] (ia 45 1 43 44) (.or 8 true [] (ia 41 1 38 40) (.or 9 true [] (ld 42 1 41) (.one 13 true [] (ld 46 1 45) (.one 14 true [] (ia 47 1 33 34) (.one 15 true [] (xs 1 47 42) (.one 16 true [] (ia 48 1 35 37) (.one 17 true [] (xs 1 48 46) (.done)))))) (.or 13 true [] (ld 46 1 45) (.one 9 true [] (ld 42 1 41) (.one 14 true [] (ia 47 1 33 34) (.one 15 true [] (xs 1 47 42) (.one 16 true [] (ia 48 1 35 37) (.one 17 true [] (xs 1 48 46) (.done)))))) (.done))) (.or 13 true [] (ld 46 1 45) (.one 8 true [] (ia 41 1 38 40) (.one 9 true [] (ld 42 1 41) (.one 14 true [] (ia 47 1 33 34) (.one 15 true [] (xs 1 47 42) (.one 16 true [] (ia 48 1 35 37) (.one 17 true [] (xs 1 48 46) (.done))))))) (.done))) (.done))))))))))))
theorem QF : okR (Xq) Xu [8, 9, 12, 13, 14, 16] Xo = true := by kernel_rfl
theorem QD : Wt (ris (Xq) Xu [8, 9, 12, 13, 14, 16]) Xo = Q3 := by kernel_rfl def c_slices_insertionSortOrdered_int (Jd : Nat) : AC := Qr [0, 1, 2, 6] (.reg [mv 8 1, bc 9 .add 8 (V.int 1), mv 6 9]) (.block 0 (W5 [0, 1, 2, 6] (Qr [0, 1, 2, 6] (Qr [0, 1, 2, 6, 12] (.reg [mv 10 6, mv 11 2, bn 12 .lss 10 11]) (.cond (.t 12) (.skip) (.exit 0))) (Qr [0, 1, 2, 6] (.block 1 (Qr [0, 1, 2, 6, 7] (.reg [mv 15 6, mv 7 15]) (.block 2 (W5 [0, 1, 2, 6, 7] (Qr [0, 1, 2, 6, 7] (Qr [0, 1, 2, 6, 7, 30] (acq [] Xp (Q4 Jd) (Xr Jd) Xv) (.cond (.t 30) (.skip) (.exit 2))) (Qr [0, 1, 2, 6, 7] (.block 3 (acq [8, 9, 12, 13, 14, 16] Xo (Q3) (Xq) Xu)) (.reg [mv 31 7, bc 32 .sub 31 (V.int 1), mv 7 32]))))))) (.reg [mv 13 6, bc 14 .add 13 (V.int 1), mv 6 14]))))) def r_slices_insertionSortOrdered_int : List Wc := []
def XA (Γ : Env) (f : Nat) : Prop := ∀ (xs : List Int) (a b : Nat) (hab : a ≤ b) (hb : b ≤ xs.length) (hx : xs.length < 2 ^ 34), EvL Γ f [V.int a, V.int b] 1 (xs.map V.int) (.tup []) ((if a = b then xs.map V.int else (yj (fun x y : Int => decide (x < y)) xs a b).map V.int))
theorem U7 {Γ : Env} {f Jd : Nat} (h : Has Γ.P f 49 (c_slices_insertionSortOrdered_int Jd) r_slices_insertionSortOrdered_int) (YQ : KA Γ Jd) : XA Γ f := by
  intro xs a b hab hb hx
  refine KQ h (by simp) (by simp only [V.closed, Qj, V.noSl, Jy, and_self, and_true, true_and]) fun C hC hm => ?_
  subst hC
  unfold c_slices_insertionSortOrdered_int
  have hwa := JS (k := a) (by omega)
  by_cases he : a = b
  · subst he
    rw [if_pos rfl]
    have e1 : decide (((a + 1 : Nat) : Int) < (a : Int)) = false := by simp; omega
    repeat' (first | refine Qb fun K' hK => ?_ | refine Qe fun K' hK => ?_ | refine Qp 15 (fun _ => true) rfl (QG _) (QE _) fun K' hK => ?_ | refine Qq 15 (fun _ => true) rfl (QG _) (QE _) fun K' hK => ?_ | refine Qp 18 (fun _ => false) rfl (QF) (QD) fun K' hK => ?_ | refine Qq 18 (fun _ => false) rfl (QF) (QD) fun K' hK => ?_ | refine Qc ?_ | refine Qd ?_ | refine Qa ?_ | ((first | refine Qg ⟨_, rfl, fun hc => ?_, fun hc => ?_⟩ | refine QL (fun hc => ?_) (fun hc => ?_) | refine QM (fun hc => ?_) (fun hc => ?_)) <;> first | exact Bool.noConfusion hc | ((try simp only [znz] at hc); first | exact znf | skip)) | refine Qi ?_ | refine Qf ?_ | simp (maxSteps := 1000000) only [go_sem, Nat.reduceAdd, Nat.reduceMul, Nat.reduceEqDiff, Nat.reduceLeDiff, Nat.reduceLT, Nat.reduceSub, Int.reduceEq, Int.reduceBEq, Int.reduceLT, Int.reduceLE, Int.reduceAdd, Int.reduceToNat, reduceIte, reduceCtorEq, hwa, Q4, Q3] | (refine hK _ ?_; clear hK; clear K') | refine And.intro ?_ ?_ | ((first | apply QX | apply YB); (focus first | exact (YQ _ _).b)) | exact zlo | omega | exact zms)
    refine Yj (ι := Unit) (fun _ => True) (fun _ => Vn [(0, .hd 0 0 (xs.map V.int).length), (1, V.int a), (2, V.int a), (6, V.int (a + 1 : Nat))] [(0, .buf true 1 (xs.map V.int))] 1) (fun _ => 0) () trivial (Q0 []) (YE [] (by simp only [go_sem, Nat.reduceAdd, Nat.reduceMul, Nat.reduceEqDiff, Nat.reduceLT, Int.reduceToNat, reduceIte, reduceCtorEq, and_true, true_and, implies_true, Option.some.injEq, exists_eq_left', Qk, Qo]; (repeat' (first | rfl | refine And.intro ?_ ?_ | omega | exact fun h => h | exact Exists.intro _ rfl))) (by simp only [go_sem, Nat.reduceAdd, Nat.reduceMul, Nat.reduceEqDiff, Nat.reduceLT, Int.reduceToNat, reduceIte, reduceCtorEq, and_true, true_and, implies_true, Option.some.injEq, exists_eq_left', Qk, Qo]; (repeat' (first | rfl | refine And.intro ?_ ?_ | omega | exact fun h => h | exact Exists.intro _ rfl))) (by simp) (by simp) (by omega)) fun j hj K'' hL2 => ?_
    repeat' (first | refine Qb fun K' hK => ?_ | refine Qe fun K' hK => ?_ | refine Qp 15 (fun _ => true) rfl (QG _) (QE _) fun K' hK => ?_ | refine Qq 15 (fun _ => true) rfl (QG _) (QE _) fun K' hK => ?_ | refine Qp 18 (fun _ => false) rfl (QF) (QD) fun K' hK => ?_ | refine Qq 18 (fun _ => false) rfl (QF) (QD) fun K' hK => ?_ | refine Qc ?_ | refine Qd ?_ | refine Qa ?_ | ((first | refine Qg ⟨_, rfl, fun hc => ?_, fun hc => ?_⟩ | refine QL (fun hc => ?_) (fun hc => ?_) | refine QM (fun hc => ?_) (fun hc => ?_)) <;> first | exact Bool.noConfusion hc | ((try simp only [znz] at hc); first | exact znf | skip)) | refine Qi ?_ | refine Qf ?_ | simp (maxSteps := 1000000) only [go_sem, Nat.reduceAdd, Nat.reduceMul, Nat.reduceEqDiff, Nat.reduceLeDiff, Nat.reduceLT, Nat.reduceSub, Int.reduceEq, Int.reduceBEq, Int.reduceLT, Int.reduceLE, Int.reduceAdd, Int.reduceToNat, reduceIte, reduceCtorEq, Vn, e1, Q4, Q3] | (refine hK _ ?_; clear hK; clear K') | refine And.intro ?_ ?_ | ((first | apply QX | apply YB); (focus first | exact (YQ _ _).b)) | exact zlo | omega | exact zms)
    all_goals first | (refine jz _ rfl rfl (by simp only [go_sem, Nat.reduceEqDiff, Nat.reduceAdd, reduceIte, reduceCtorEq]) ?_ <;> first | rfl | (simp; done)) | trace_state
  · rw [if_neg he]
    repeat' (first | refine Qb fun K' hK => ?_ | refine Qe fun K' hK => ?_ | refine Qp 15 (fun _ => true) rfl (QG _) (QE _) fun K' hK => ?_ | refine Qq 15 (fun _ => true) rfl (QG _) (QE _) fun K' hK => ?_ | refine Qp 18 (fun _ => false) rfl (QF) (QD) fun K' hK => ?_ | refine Qq 18 (fun _ => false) rfl (QF) (QD) fun K' hK => ?_ | refine Qc ?_ | refine Qd ?_ | refine Qa ?_ | ((first | refine Qg ⟨_, rfl, fun hc => ?_, fun hc => ?_⟩ | refine QL (fun hc => ?_) (fun hc => ?_) | refine QM (fun hc => ?_) (fun hc => ?_)) <;> first | exact Bool.noConfusion hc | ((try simp only [znz] at hc); first | exact znf | skip)) | refine Qi ?_ | refine Qf ?_ | simp (maxSteps := 1000000) only [go_sem, Nat.reduceAdd, Nat.reduceMul, Nat.reduceEqDiff, Nat.reduceLeDiff, Nat.reduceLT, Nat.reduceSub, Int.reduceEq, Int.reduceBEq, Int.reduceLT, Int.reduceLE, Int.reduceAdd, Int.reduceToNat, reduceIte, reduceCtorEq, hwa, Q4, Q3] | (refine hK _ ?_; clear hK; clear K') | refine And.intro ?_ ?_ | ((first | apply QX | apply YB); (focus first | exact (YQ _ _).b)) | exact zlo | omega | exact zms)
    generalize hlt : (fun x y : Int => decide (x < y)) = lt
    have hlt2 : ∀ x y : Int, decide (x < y) = lt x y := by intro x y; rw [← hlt]
    refine Yj (ι := Nat) (fun i => a + 1 ≤ i ∧ i ≤ b) (fun i => Vn [(0, .hd 0 0 (xs.map V.int).length), (1, V.int a), (2, V.int b), (6, V.int i)] [(0, .buf true 1 ((yj lt xs a i).map V.int))] 1) (fun i => b - i) (a + 1) ⟨by omega, by omega⟩ (Q0 []) (YE [] (by simp only [go_sem, Nat.reduceAdd, Nat.reduceMul, Nat.reduceEqDiff, Nat.reduceLT, Int.reduceToNat, reduceIte, reduceCtorEq, and_true, true_and, implies_true, Option.some.injEq, exists_eq_left', Qk, Qo]; (repeat' (first | rfl | refine And.intro ?_ ?_ | omega | exact fun h => h | exact Exists.intro _ rfl))) (by rw [aex (by omega)]; simp only [go_sem, Nat.reduceAdd, Nat.reduceMul, Nat.reduceEqDiff, Nat.reduceLT, Int.reduceToNat, reduceIte, reduceCtorEq, and_true, true_and, implies_true, Option.some.injEq, exists_eq_left', Qk, Qo]; (repeat' (first | rfl | refine And.intro ?_ ?_ | omega | exact fun h => h | exact Exists.intro _ rfl))) (by simp) (by simp) (by omega)) fun i hi K' hL => ?_
    obtain ⟨hi1, hi2⟩ := hi
    by_cases hib : i = b
    · subst hib
      have e1 : decide ((i : Int) < (i : Int)) = false := by simp
      repeat' (first | refine Qb fun K' hK => ?_ | refine Qe fun K' hK => ?_ | refine Qp 15 (fun _ => true) rfl (QG _) (QE _) fun K' hK => ?_ | refine Qq 15 (fun _ => true) rfl (QG _) (QE _) fun K' hK => ?_ | refine Qp 18 (fun _ => false) rfl (QF) (QD) fun K' hK => ?_ | refine Qq 18 (fun _ => false) rfl (QF) (QD) fun K' hK => ?_ | refine Qc ?_ | refine Qd ?_ | refine Qa ?_ | ((first | refine Qg ⟨_, rfl, fun hc => ?_, fun hc => ?_⟩ | refine QL (fun hc => ?_) (fun hc => ?_) | refine QM (fun hc => ?_) (fun hc => ?_)) <;> first | exact Bool.noConfusion hc | ((try simp only [znz] at hc); first | exact znf | skip)) | refine Qi ?_ | refine Qf ?_ | simp (maxSteps := 1000000) only [go_sem, Nat.reduceAdd, Nat.reduceMul, Nat.reduceEqDiff, Nat.reduceLeDiff, Nat.reduceLT, Nat.reduceSub, Int.reduceEq, Int.reduceBEq, Int.reduceLT, Int.reduceLE, Int.reduceAdd, Int.reduceToNat, reduceIte, reduceCtorEq, Vn, e1, Q4, Q3] | (refine hK _ ?_; clear hK; clear K') | refine And.intro ?_ ?_ | ((first | apply QX | apply YB); (focus first | exact (YQ _ _).b)) | exact zlo | omega | exact zms)
      all_goals first | (refine jz _ rfl rfl (by simp only [go_sem, Nat.reduceEqDiff, Nat.reduceAdd, reduceIte, reduceCtorEq]) ?_ <;> first | rfl | (simp; done)) | trace_state
    · have e1 : decide ((i : Int) < (b : Int)) = true := by simp; omega
      have hwi := JS (k := i) (by omega)
      obtain ⟨x, hget⟩ : ∃ x, xs[i]? = some x := ⟨_, List.getElem?_eq_getElem (by omega)⟩
      have hxm : x ∈ xs := List.mem_of_getElem? hget
      have hdx : xs.drop i = x :: xs.drop (i + 1) := by
        rw [List.drop_eq_getElem_cons (by omega)]; congr 1
        rw [List.getElem?_eq_getElem (by omega)] at hget; exact Option.some.inj hget
      have hP : (xs.take a).length = a := by simp; omega
      have hS : (Vr lt ((xs.take i).drop a)).length = i - a := by rw [qT]; simp; omega
      have hSm : ∀ y ∈ Vr lt ((xs.take i).drop a), y ∈ xs := fun y hy => List.mem_of_mem_take (List.mem_of_mem_drop (vm.1 hy))
      have hnext : yj lt xs a (i + 1) = xs.take a ++ (adE lt (Vr lt ((xs.take i).drop a)) x ++ xs.drop (i + 1)) := by
        have : (xs.take (i + 1)).drop a = (xs.take i).drop a ++ [x] := by
          rw [List.take_add_one, hget, List.drop_append_of_le_length (by simp; omega)]; rfl
        rw [yj, this, Vr, List.foldl_append]; rfl
      have hnow : yj lt xs a i = V6 (xs.take a) (Vr lt ((xs.take i).drop a)) x (xs.drop (i + 1)) (i - a) := by
        rw [yj, hdx, V6, ← hS, List.take_length, List.drop_length]; rfl
      rw [hnow]
      generalize Vr lt ((xs.take i).drop a) = S at *
      have hPg := hP
      generalize xs.take a = P at *
      have hR : (xs.drop (i + 1)).length = xs.length - (i + 1) := List.length_drop
      generalize xs.drop (i + 1) = R at *
      repeat' (first | refine Qb fun K' hK => ?_ | refine Qe fun K' hK => ?_ | refine Qp 15 (fun _ => true) rfl (QG _) (QE _) fun K' hK => ?_ | refine Qq 15 (fun _ => true) rfl (QG _) (QE _) fun K' hK => ?_ | refine Qp 18 (fun _ => false) rfl (QF) (QD) fun K' hK => ?_ | refine Qq 18 (fun _ => false) rfl (QF) (QD) fun K' hK => ?_ | refine Qc ?_ | refine Qd ?_ | refine Qa ?_ | ((first | refine Qg ⟨_, rfl, fun hc => ?_, fun hc => ?_⟩ | refine QL (fun hc => ?_) (fun hc => ?_) | refine QM (fun hc => ?_) (fun hc => ?_)) <;> first | exact Bool.noConfusion hc | ((try simp only [znz] at hc); first | exact znf | skip)) | refine Qi ?_ | refine Qf ?_ | simp (maxSteps := 1000000) only [go_sem, Nat.reduceAdd, Nat.reduceMul, Nat.reduceEqDiff, Nat.reduceLeDiff, Nat.reduceLT, Nat.reduceSub, Int.reduceEq, Int.reduceBEq, Int.reduceLT, Int.reduceLE, Int.reduceAdd, Int.reduceToNat, reduceIte, reduceCtorEq, Vn, e1, Q4, Q3] | (refine hK _ ?_; clear hK; clear K') | refine And.intro ?_ ?_ | ((first | apply QX | apply YB); (focus first | exact (YQ _ _).b)) | exact zlo | omega | exact zms)
      refine Yj (ι := Nat) (fun q => q ≤ i - a ∧ gK lt S x q = gK lt S x S.length) (fun q => Vn [(0, .hd 0 0 (xs.map V.int).length), (1, V.int a), (2, V.int b), (6, V.int i), (7, V.int (a + q : Nat))] [(0, .buf true 1 ((V6 P S x R q).map V.int))] 1) (fun q => q) (i - a) ⟨by omega, by rw [hS]⟩ (Q0 []) (YE [] (by rw [show a + (i - a) = i by omega]; simp only [go_sem, Nat.reduceAdd, Nat.reduceMul, Nat.reduceEqDiff, Nat.reduceLT, Int.reduceToNat, reduceIte, reduceCtorEq, and_true, true_and, implies_true, Option.some.injEq, exists_eq_left', Qk, Qo]; (repeat' (first | rfl | refine And.intro ?_ ?_ | omega | exact fun h => h | exact Exists.intro _ rfl))) (by simp only [go_sem, Nat.reduceAdd, Nat.reduceMul, Nat.reduceEqDiff, Nat.reduceLT, Int.reduceToNat, reduceIte, reduceCtorEq, and_true, true_and, implies_true, Option.some.injEq, exists_eq_left', Qk, Qo]; (repeat' (first | rfl | refine And.intro ?_ ?_ | omega | exact fun h => h | exact Exists.intro _ rfl))) (by simp) (by simp) (by omega)) fun q hq K'' hL2 => ?_
      obtain ⟨hq1, hq2⟩ := hq
      have hfin : gK lt S x S.length = q → V6 P S x R q = yj lt xs a (i + 1) := by
        intro h
        rw [hnext, adE, h]; simp only [V6, List.append_assoc, List.singleton_append, List.cons_append, List.nil_append]
      have hlen : (V6 P S x R q).length = xs.length := by rw [aew, hP, hS, hR]; omega
      have gx := aim (P := P) (R := R) (x := x) (q := q) (S := S) (by omega)
      rw [hP] at gx
      rcases q with _ | q
      · have e2 : decide (((a + 0 : Nat) : Int) > (a : Int)) = false := by simp
        have hf := hfin hq2.symm
        repeat' (first | refine Qb fun K' hK => ?_ | refine Qe fun K' hK => ?_ | refine Qp 15 (fun _ => true) rfl (QG _) (QE _) fun K' hK => ?_ | refine Qq 15 (fun _ => true) rfl (QG _) (QE _) fun K' hK => ?_ | refine Qp 18 (fun _ => false) rfl (QF) (QD) fun K' hK => ?_ | refine Qq 18 (fun _ => false) rfl (QF) (QD) fun K' hK => ?_ | refine Qc ?_ | refine Qd ?_ | refine Qa ?_ | ((first | refine Qg ⟨_, rfl, fun hc => ?_, fun hc => ?_⟩ | refine QL (fun hc => ?_) (fun hc => ?_) | refine QM (fun hc => ?_) (fun hc => ?_)) <;> first | exact Bool.noConfusion hc | ((try simp only [znz] at hc); first | exact znf | skip)) | refine Qi ?_ | refine Qf ?_ | simp (maxSteps := 1000000) only [go_sem, Nat.reduceAdd, Nat.reduceMul, Nat.reduceEqDiff, Nat.reduceLeDiff, Nat.reduceLT, Nat.reduceSub, Int.reduceEq, Int.reduceBEq, Int.reduceLT, Int.reduceLE, Int.reduceAdd, Int.reduceToNat, reduceIte, reduceCtorEq, Vn, e2, hwi, Q4, Q3] | (refine hK _ ?_; clear hK; clear K') | refine And.intro ?_ ?_ | ((first | apply QX | apply YB); (focus first | exact (YQ _ _).b)) | exact zlo | omega | exact zms)
        rw [hf]
        exact hL _ (i + 1) (Q0 []) ⟨by omega, by omega⟩ (by omega) (YE [] (by simp only [go_sem, Nat.reduceAdd, Nat.reduceMul, Nat.reduceEqDiff, Nat.reduceLT, Int.reduceToNat, reduceIte, reduceCtorEq, and_true, true_and, implies_true, Option.some.injEq, exists_eq_left', Qk, Qo]; (repeat' (first | rfl | refine And.intro ?_ ?_ | omega | exact fun h => h | exact Exists.intro _ rfl))) (by simp only [go_sem, Nat.reduceAdd, Nat.reduceMul, Nat.reduceEqDiff, Nat.reduceLT, Int.reduceToNat, reduceIte, reduceCtorEq, and_true, true_and, implies_true, Option.some.injEq, exists_eq_left', Qk, Qo]; (repeat' (first | rfl | refine And.intro ?_ ?_ | omega | exact fun h => h | exact Exists.intro _ rfl))) (by simp) (by simp) (by omega))
      · have hqS : q < S.length := by omega
        have e2 : decide (((a + (q + 1) : Nat) : Int) > (a : Int)) = true := decide_eq_true (by omega)
        have hwj : IntKind.i64.wrap (((a + (q + 1) : Nat) : Int) - 1) = ((a + q : Nat) : Int) := by rw [Wl (by omega) (by omega)]; omega
        have gy := ail (P := P) (R := R) (x := x) (q := q) (S := S) hqS
        rw [hP] at gy
        have hset := aev (P := P) (R := R) (x := x) (q := q) (S := S) hqS
        rw [hP] at hset
        have hyd : S[q]? = some S[q] := List.getElem?_eq_getElem hqS
        have hym : S[q] ∈ xs := hSm _ (List.getElem_mem hqS)
        rw [gK, hyd] at hq2
        dsimp only at hq2
        generalize S[q] = y at *
        have hcc := (YQ x y).b
        have hd := hlt2 x y
        have vx : (List.map V.int (V6 P S x R (q + 1)))[a + (q + 1)]? = some (V.int x) := by rw [List.getElem?_map, gx]; rfl
        have vy : (List.map V.int (V6 P S x R (q + 1)))[a + q]? = some (V.int y) := by rw [List.getElem?_map, gy]; rfl
        have hs1 : ((List.map V.int (V6 P S x R (q + 1))).set (a + (q + 1)) (V.int y))[a + q]? = some (V.int y) := by
          rw [List.getElem?_set_ne (by omega), List.getElem?_map, gy]; rfl
        have hs2 : ((List.map V.int (V6 P S x R (q + 1))).set (a + (q + 1)) (V.int y)).set (a + q) (V.int x) = List.map V.int (V6 P S x R q) := by
          rw [← hset, List.map_set, List.map_set]
        rcases hl : lt x y with _ | _
        · rw [hl] at hd
          simp only [hl, Bool.false_eq_true, if_false] at hq2
          have hf := hfin hq2.symm
          repeat' (first | refine Qb fun K' hK => ?_ | refine Qe fun K' hK => ?_ | refine Qp 15 (fun _ => true) rfl (QG _) (QE _) fun K' hK => ?_ | refine Qq 15 (fun _ => true) rfl (QG _) (QE _) fun K' hK => ?_ | refine Qp 18 (fun _ => false) rfl (QF) (QD) fun K' hK => ?_ | refine Qq 18 (fun _ => false) rfl (QF) (QD) fun K' hK => ?_ | refine Qc ?_ | refine Qd ?_ | refine Qa ?_ | ((first | refine Qg ⟨_, rfl, fun hc => ?_, fun hc => ?_⟩ | refine QL (fun hc => ?_) (fun hc => ?_) | refine QM (fun hc => ?_) (fun hc => ?_)) <;> first | exact Bool.noConfusion hc | ((try simp only [znz] at hc); first | exact znf | skip)) | refine Qi ?_ | refine Qf ?_ | simp (maxSteps := 1000000) only [go_sem, Nat.reduceAdd, Nat.reduceMul, Nat.reduceEqDiff, Nat.reduceLeDiff, Nat.reduceLT, Nat.reduceSub, Int.reduceEq, Int.reduceBEq, Int.reduceLT, Int.reduceLE, Int.reduceAdd, Int.reduceToNat, reduceIte, reduceCtorEq, Vn, e2, hwi, hwj, Int.toNat_natCast, vx, vy, hd, Q4, Q3] | (refine hK _ ?_; clear hK; clear K') | refine And.intro ?_ ?_ | ((first | apply QX | apply YB); (focus first | exact hcc | exact (YQ _ _).b)) | exact zlo | omega | exact zms)
          all_goals
            rw [hf]
            exact hL _ (i + 1) (Q0 []) ⟨by omega, by omega⟩ (by omega) (YE [] (by simp only [go_sem, Nat.reduceAdd, Nat.reduceMul, Nat.reduceEqDiff, Nat.reduceLT, Int.reduceToNat, reduceIte, reduceCtorEq, and_true, true_and, implies_true, Option.some.injEq, exists_eq_left', Qk, Qo]; (repeat' (first | rfl | refine And.intro ?_ ?_ | omega | exact fun h => h | exact Exists.intro _ rfl))) (by simp only [go_sem, Nat.reduceAdd, Nat.reduceMul, Nat.reduceEqDiff, Nat.reduceLT, Int.reduceToNat, reduceIte, reduceCtorEq, and_true, true_and, implies_true, Option.some.injEq, exists_eq_left', Qk, Qo]; (repeat' (first | rfl | refine And.intro ?_ ?_ | omega | exact fun h => h | exact Exists.intro _ rfl))) (by simp) (by simp) (by omega))
        · rw [hl] at hd
          simp only [hl, if_true] at hq2
          repeat' (first | refine Qb fun K' hK => ?_ | refine Qe fun K' hK => ?_ | refine Qp 15 (fun _ => true) rfl (QG _) (QE _) fun K' hK => ?_ | refine Qq 15 (fun _ => true) rfl (QG _) (QE _) fun K' hK => ?_ | refine Qp 18 (fun _ => false) rfl (QF) (QD) fun K' hK => ?_ | refine Qq 18 (fun _ => false) rfl (QF) (QD) fun K' hK => ?_ | refine Qc ?_ | refine Qd ?_ | refine Qa ?_ | ((first | refine Qg ⟨_, rfl, fun hc => ?_, fun hc => ?_⟩ | refine QL (fun hc => ?_) (fun hc => ?_) | refine QM (fun hc => ?_) (fun hc => ?_)) <;> first | exact Bool.noConfusion hc | ((try simp only [znz] at hc); first | exact znf | skip)) | refine Qi ?_ | refine Qf ?_ | simp (maxSteps := 1000000) only [go_sem, Nat.reduceAdd, Nat.reduceMul, Nat.reduceEqDiff, Nat.reduceLeDiff, Nat.reduceLT, Nat.reduceSub, Int.reduceEq, Int.reduceBEq, Int.reduceLT, Int.reduceLE, Int.reduceAdd, Int.reduceToNat, reduceIte, reduceCtorEq, Vn, e2, hwi, hwj, Int.toNat_natCast, vx, vy, hd, hs1, hs2, Q4, Q3] | (refine hK _ ?_; clear hK; clear K') | refine And.intro ?_ ?_ | ((first | apply QX | apply YB); (focus first | exact hcc | exact (YQ _ _).b)) | exact zlo | omega | exact zms)
          all_goals exact hL2 _ q (Q0 []) ⟨by omega, hq2⟩ (by omega) (YE [] (by simp only [go_sem, Nat.reduceAdd, Nat.reduceMul, Nat.reduceEqDiff, Nat.reduceLT, Int.reduceToNat, reduceIte, reduceCtorEq, and_true, true_and, implies_true, Option.some.injEq, exists_eq_left', Qk, Qo]; (repeat' (first | rfl | refine And.intro ?_ ?_ | omega | exact fun h => h | exact Exists.intro _ rfl))) (by simp only [go_sem, Nat.reduceAdd, Nat.reduceMul, Nat.reduceEqDiff, Nat.reduceLT, Int.reduceToNat, reduceIte, reduceCtorEq, and_true, true_and, implies_true, Option.some.injEq, exists_eq_left', Qk, Qo]; (repeat' (first | rfl | refine And.intro ?_ ?_ | omega | exact fun h => h | exact Exists.intro _ rfl))) (by simp) (by simp) (by omega))
def Wi (Jd : Nat) : List AO := [mv 73 1, bc 74 .gtr 73 (V.int 0), mv 75 74, mg 76 0 75 true, mg 77 1 75 true, xg 78 (.bin .sub (.t 77) (.c (V.int 1))) 75 true, xg 79 (.iaddr 1 (.t 76) (.t 78)) 75 true, xg 80 (.load false 1 (.t 79)) 75 true, mg 81 0 75 true, mg 82 11 75 true, xg 83 (.iaddr 1 (.t 81) (.t 82)) 75 true, xg 84 (.load false 1 (.t 83)) 75 true, xg 85 (.call Jd [(.t 80), (.t 84)]) 75 true, xg 86 (.un .not (.t 85)) 75 true, xo 87 (.pick (.t 75) (.t 86) (.c (V.bool false)))]
def Wk : List (List Nat) := [[], [0], [1], [2], [2], [4, 2], [3, 5, 2], [6, 2], [2], [2], [8, 9, 2], [10, 2], [7, 11, 2, 2], [12, 2], [2, 13]]
def Wh : OT := .one 0 (.one 1 (.one 2 (.one 3 (.one 4 (.one 5 (.one 6 (.one 7 (.one 8 (.one 9 (.one 10 (.one 11 (.or 12 (.one 13 (.one 14 (.done))) (.done)))))))))))))
def Xj (Jd : Nat) : OP := .one 0 false [] (mv 73 1) (.one 1 false [] (bc 74 .gtr 73 (V.int 0)) (.one 2 false [] (mv 75 74) (.one 3 false [] (mg 76 0 75 true) (.one 4 false [] (mg 77 1 75 true) (.one 5 false [] (xg 78 (.bin .sub (.t 77) (.c (V.int 1))) 75 true) (.one 6 false [] (xg 79 (.iaddr 1 (.t 76) (.t 78)) 75 true) (.one 7 false [] (xg 80 (.load false 1 (.t 79)) 75 true) (.one 8 false [] (mg 81 0 75 true) (.one 9 false [] (mg 82 11 75 true) (.one 10 false [] (xg 83 (.iaddr 1 (.t 81) (.t 82)) 75 true) (.one 11 false [] (xg 84 (.load false 1 (.t 83)) 75 true) (.or 12 false [] (xg 85 (.call Jd [(.t 80), (.t 84)]) 75 true) (.one 13 false [12] (xg 86 (.un .not (.t 85)) 75 true) (.one 14 false [12] (xo 87 (.pick (.t 75) (.t 86) (.c (V.bool false)))) (.done))) (.done)))))))))))))
theorem Xk (Jd : Nat) : okR (Wi Jd) Wk [] Wh = true := by kernel_rfl
theorem Xi (Jd : Nat) : Wt (ris (Wi Jd) Wk []) Wh = Xj Jd := by kernel_rfl def c_slices_pdqsortOrdered_int (JY Wo XK X2 XT Yz Jd Xz Wj JP : Nat) : AC := Qr [0, 1, 2, 3, 8] (.reg [mc 8 (V.bool true)]) (Qr [0, 1, 2, 3, 8, 9] (.reg [mc 9 (V.bool true)]) (.block 0 (W5 [0, 1, 2, 3, 8, 9] (.block 1 (Qr [0, 1, 2, 3, 8, 9, 10] (.reg [mv 19 2, mv 20 1, bn 21 .sub 19 20, mv 10 21]) (Qr [0, 1, 2, 3, 8, 9, 10] (Qr [0, 1, 2, 3, 8, 9, 10, 23] (.reg [mv 22 10, bc 23 .leq 22 (V.int 12)]) (.cond (.t 23) (Qr [] (.reg [mv 24 0, mv 25 1, mv 26 2, cl 27 JY [24, 25, 26]]) (.ret)) (.skip))) (Qr [0, 1, 2, 3, 8, 9, 10] (Qr [0, 1, 2, 3, 8, 9, 10, 29] (.reg [mv 28 3, bc 29 .eql 28 (V.int 0)]) (.cond (.t 29) (Qr [] (.reg [mv 30 0, mv 31 1, mv 32 2, cl 33 Wo [30, 31, 32]]) (.ret)) (.skip))) (Qr [0, 1, 2, 3, 8, 9, 10] (Qr [0, 1, 2, 3, 8, 9, 10, 35] (.reg [mv 34 8, xo 35 (.un .not (.t 34))]) (.cond (.t 35) (Qr [0, 1, 2, 3, 8, 9, 10] (.reg [mv 36 0, mv 37 1, mv 38 2, cl 39 XK [36, 37, 38]]) (.reg [mv 40 3, bc 41 .sub 40 (V.int 1), mv 3 41])) (.skip))) (Qr [0, 1, 2, 3, 8, 9, 10, 11, 12] (.reg [mv 43 0, mv 44 1, mv 45 2, cl 46 X2 [43, 44, 45], mv 42 46, ex 47 42 0, ex 48 42 1, mv 11 47, mv 12 48]) (Qr [0, 1, 2, 3, 8, 9, 10, 11, 12] (Qr [0, 1, 2, 3, 8, 9, 10, 11, 12, 50] (.reg [mv 49 12, bc 50 .eql 49 (V.int 2)]) (.cond (.t 50) (Qr [0, 1, 2, 3, 8, 9, 10, 11] (.reg [mv 51 0, mv 52 1, mv 53 2, cl 54 XT [51, 52, 53]]) (Qr [0, 1, 2, 3, 8, 9, 10, 11] (.reg [mv 55 2, bc 56 .sub 55 (V.int 1), mv 57 11, mv 58 1, bn 59 .sub 57 58, bn 60 .sub 56 59, mv 11 60]) (.reg [mc 12 (V.int 1)]))) (.skip))) (Qr [0, 1, 2, 3, 8, 9, 10, 11] (Qr [0, 1, 2, 3, 8, 9, 10, 11, 68] (.reg [mv 61 8, mv 62 61, mg 63 9 62 true, xo 64 (.pick (.t 62) (.t 63) (.c (V.bool false))), mv 65 64, mg 66 12 65 true, xg 67 (.bin .eql (.t 66) (.c (V.int 1))) 65 true, xo 68 (.pick (.t 65) (.t 67) (.c (V.bool false)))]) (.cond (.t 68) (Qr [0, 1, 2, 3, 8, 9, 10, 11, 72] (.reg [mv 69 0, mv 70 1, mv 71 2, cl 72 Yz [69, 70, 71]]) (.cond (.t 72) (.ret) (.skip))) (.skip))) (Qr [0, 1, 2, 3, 10, 11] (Qr [0, 1, 2, 3, 8, 9, 10, 11, 87] (acq [] Wh (Xj Jd) (Wi Jd) Wk) (.cond (.t 87) (Qr [0, 2, 3, 8, 9, 13] (.reg [mv 88 0, mv 89 1, mv 90 2, mv 91 11, cl 92 Xz [88, 89, 90, 91], mv 13 92]) (Qr [0, 1, 2, 3, 8, 9] (.reg [mv 93 13, mv 1 93]) (.exit 1))) (.skip))) (Qr [0, 1, 2, 3, 10, 14, 15] (.reg [mv 95 0, mv 96 1, mv 97 2, mv 98 11, cl 99 Wj [95, 96, 97, 98], mv 94 99, ex 100 94 0, ex 101 94 1, mv 14 100, mv 15 101]) (Qr [0, 1, 2, 3, 9, 10, 14] (.reg [mv 102 15, mv 9 102]) (Qr [0, 1, 2, 3, 9, 10, 14, 16, 17] (.reg [mv 103 14, mv 104 1, bn 105 .sub 103 104, mv 106 2, mv 107 14, bn 108 .sub 106 107, mv 16 105, mv 17 108]) (Qr [0, 1, 2, 3, 9, 14, 16, 17, 18] (.reg [mv 109 10, bc 110 .quo 109 (V.int 8), mv 18 110]) (Qr [0, 1, 2, 3, 9, 14, 16, 17, 18, 113] (.reg [mv 111 16, mv 112 17, bn 113 .lss 111 112]) (.cond (.t 113) (Qr [0, 1, 2, 3, 8, 9, 14] (.reg [mv 114 16, mv 115 18, bn 116 .geq 114 115, mv 8 116]) (Qr [0, 2, 3, 8, 9, 14] (.reg [mv 117 0, mv 118 1, mv 119 14, mv 120 3, cl 121 JP [117, 118, 119, 120]]) (.reg [mv 122 14, bc 123 .add 122 (V.int 1), mv 1 123]))) (Qr [0, 1, 2, 3, 8, 9, 14] (.reg [mv 124 17, mv 125 18, bn 126 .geq 124 125, mv 8 126]) (Qr [0, 1, 3, 8, 9, 14] (.reg [mv 127 0, mv 128 14, bc 129 .add 128 (V.int 1), mv 130 2, mv 131 3, cl 132 JP [127, 129, 130, 131]]) (.reg [mv 133 14, mv 2 133]))))))))))))))))))))) def r_slices_pdqsortOrdered_int : List Wc := []
def Wq (Γ : Env) (f : Nat) : Prop := ∀ (xs : List Int) (lim : Int) (hx : xs.length ≤ 12), EvL Γ f [V.int 0, V.int xs.length, V.int lim] 1 (xs.map V.int) (.tup []) (((Vr (fun x y : Int => decide (x < y)) xs).map V.int))
theorem qL {Γ : Env} {f JY Wo XK X2 XT Yz Jd Xz Wj : Nat} (h : Has Γ.P f 134 (c_slices_pdqsortOrdered_int JY Wo XK X2 XT Yz Jd Xz Wj f) r_slices_pdqsortOrdered_int) (XH : XA Γ JY) (YQ : KA Γ Jd) : Wq Γ f := by
  intro xs lim hx
  refine KQ h (by simp) (by simp only [V.closed, Qj, V.noSl, Jy, and_self, and_true, true_and]) fun C hC hm => ?_
  subst hC
  unfold c_slices_pdqsortOrdered_int
  have hi := XH xs 0 xs.length (by omega) (by omega) (by omega)
  rw [af9] at hi
  have hi0 : EvL C.env JY [V.int 0, V.int xs.length] 1 (xs.map V.int) (.tup []) ((Vr (fun x y : Int => decide (x < y)) xs).map V.int) := hi
  have hw : IntKind.i64.wrap ((xs.length : Int) - 0) = (xs.length : Int) := by rw [Wl (by omega) (by omega)]; omega
  have e1 : decide ((xs.length : Int) ≤ 12) = true := by simp; omega
  repeat' (first | refine Qb fun K' hK => ?_ | refine Qe fun K' hK => ?_ | refine Qp 15 (fun _ => true) rfl (Xk _) (Xi _) fun K' hK => ?_ | refine Qq 15 (fun _ => true) rfl (Xk _) (Xi _) fun K' hK => ?_ | refine Qc ?_ | refine Qd ?_ | refine Qa ?_ | ((first | refine Qg ⟨_, rfl, fun hc => ?_, fun hc => ?_⟩ | refine QL (fun hc => ?_) (fun hc => ?_) | refine QM (fun hc => ?_) (fun hc => ?_)) <;> first | exact Bool.noConfusion hc | ((try simp only [znz] at hc); first | exact znf | skip)) | refine Qi ?_ | refine Qf ?_ | simp (maxSteps := 1000000) only [go_sem, Nat.reduceAdd, Nat.reduceMul, Nat.reduceEqDiff, Nat.reduceLeDiff, Nat.reduceLT, Nat.reduceSub, Int.reduceEq, Int.reduceBEq, Int.reduceLT, Int.reduceLE, Int.reduceAdd, Int.reduceToNat, reduceIte, reduceCtorEq, Xj] | (refine hK _ ?_; clear hK; clear K') | refine And.intro ?_ ?_ | (apply Vw; (focus exact rfl); (focus first | exact (XH _ _ _ zsd zsd zsd) | exact (XG _ _ zsd)); (focus exact rfl); (focus (first | (simp; done) | omega | (simp only [List.length_map]; omega)))) | ((first | apply QX | apply YB); (focus first | exact (YQ _ _).b)) | exact zlo | omega | exact zms)
  refine ago ?_
  repeat' (first | refine Qb fun K' hK => ?_ | refine Qe fun K' hK => ?_ | refine Qp 15 (fun _ => true) rfl (Xk _) (Xi _) fun K' hK => ?_ | refine Qq 15 (fun _ => true) rfl (Xk _) (Xi _) fun K' hK => ?_ | refine Qc ?_ | refine Qd ?_ | refine Qa ?_ | ((first | refine Qg ⟨_, rfl, fun hc => ?_, fun hc => ?_⟩ | refine QL (fun hc => ?_) (fun hc => ?_) | refine QM (fun hc => ?_) (fun hc => ?_)) <;> first | exact Bool.noConfusion hc | ((try simp only [znz] at hc); first | exact znf | skip)) | refine Qi ?_ | refine Qf ?_ | simp (maxSteps := 1000000) only [go_sem, Nat.reduceAdd, Nat.reduceMul, Nat.reduceEqDiff, Nat.reduceLeDiff, Nat.reduceLT, Nat.reduceSub, Int.reduceEq, Int.reduceBEq, Int.reduceLT, Int.reduceLE, Int.reduceAdd, Int.reduceToNat, reduceIte, reduceCtorEq, hw, e1, Xj] | (refine hK _ ?_; clear hK; clear K') | refine And.intro ?_ ?_ | (apply Vw; (focus exact rfl); (focus first | exact hi0 | exact (XH _ _ _ zsd zsd zsd) | exact (XG _ _ zsd)); (focus exact rfl); (focus (first | (simp; done) | omega | (simp only [List.length_map]; omega)))) | ((first | apply QX | apply YB); (focus first | exact (YQ _ _).b)) | exact zlo | omega | exact zms)
  all_goals first | (refine jz _ rfl rfl (by simp only [go_sem, Nat.reduceEqDiff, Nat.reduceAdd, reduceIte, reduceCtorEq]) ?_; done) | (refine jz _ rfl rfl (by simp only [go_sem, Nat.reduceEqDiff, Nat.reduceAdd, reduceIte, reduceCtorEq]) ?_; rfl) | (refine jz _ rfl rfl (by simp only [go_sem, Nat.reduceEqDiff, Nat.reduceAdd, reduceIte, reduceCtorEq]) ?_ <;> first | rfl | (simp; done)) | trace_state
def Vk (XM JP : Nat) : AC := Qr [0, 2] (.reg [mv 3 0, ln 4 3, mv 2 4]) (.reg [mv 5 0, mv 6 2, mv 7 2, xo 8 (.convI .u64 (.t 7)), cl 9 XM [8], xo 10 (.call JP [(.t 5), (.c (V.int 0)), (.t 6), (.t 9)])]) def r_slices_Sort___int_int : List Wc := []
def W2 (Γ : Env) (f : Nat) : Prop := ∀ (xs : List Int) (hx : xs.length ≤ 12), EvL Γ f [] 1 (xs.map V.int) (.tup []) (((Vr (fun x y : Int => decide (x < y)) xs).map V.int))
theorem jZ {Γ : Env} {f XM JP : Nat} (h : Has Γ.P f 11 (Vk XM JP) r_slices_Sort___int_int) (VP : Vx Γ XM) (XG : Wq Γ JP) : W2 Γ f := by
  intro xs hx
  refine KQ h (by simp) (by simp only [V.closed, Qj, V.noSl, Jy, and_self, and_true, true_and]) fun C hC hm => ?_
  subst hC
  unfold Vk
  obtain ⟨lim, hlim⟩ := adg VP xs.length hx
  have hi := XG xs lim hx
  have e : ((xs.map V.int).length : Int) = (xs.length : Int) := by simp
  have hb := hlim.b
  have hw : IntKind.u64.wrap (xs.length : Int) = (xs.length : Int) := afG (by omega) (by omega)
  repeat' (first | refine Qb fun K' hK => ?_ | refine Qe fun K' hK => ?_ | refine Qc ?_ | refine Qd ?_ | refine Qa ?_ | ((first | refine Qg ⟨_, rfl, fun hc => ?_, fun hc => ?_⟩ | refine QL (fun hc => ?_) (fun hc => ?_) | refine QM (fun hc => ?_) (fun hc => ?_)) <;> first | exact Bool.noConfusion hc | ((try simp only [znz] at hc); first | exact znf | skip)) | refine Qi ?_ | refine Qf ?_ | simp (maxSteps := 1000000) only [go_sem, Nat.reduceAdd, Nat.reduceMul, Nat.reduceEqDiff, Nat.reduceLeDiff, Nat.reduceLT, Nat.reduceSub, Int.reduceEq, Int.reduceBEq, Int.reduceLT, Int.reduceLE, Int.reduceAdd, Int.reduceToNat, reduceIte, reduceCtorEq, e, hw] | (refine hK _ ?_; clear hK; clear K') | refine And.intro ?_ ?_ | (apply Vw; (focus exact rfl); (focus first | exact hi | exact (XG _ _ zsd)); (focus exact rfl); (focus (first | (simp; done) | omega | (simp only [List.length_map]; omega)))) | (apply QX; (focus first | exact hb | exact (VP _ zsd).b)) | exact zlo | omega | exact zms)
  all_goals first | (refine jz _ rfl rfl (by simp only [go_sem, Nat.reduceEqDiff, Nat.reduceAdd, reduceIte, reduceCtorEq]) ?_; done) | (refine jz _ rfl rfl (by simp only [go_sem, Nat.reduceEqDiff, Nat.reduceAdd, reduceIte, reduceCtorEq]) ?_; rfl) | trace_state
end Av
end
section
set_option linter.unusedSimpArgs false
set_option linter.unusedVariables false
set_option maxRecDepth 10000
set_option maxHeartbeats 4000000
namespace Av
open Go
attribute [local irreducible] AWp Wz WQ W4 awS awC V1 awQ Ue Jc YR VY awR YY awB okR Wt ris
def Yk.Sz (n : Yk) : Prop := n.name.length < 2 ^ 60 ∧ n.lo.length < 2 ^ 60 ∧ n.up.length < 2 ^ 60
def QK.Sz (p : QK) : Prop := p.name.length < 2 ^ 60 ∧ p.ver.length < 2 ^ 60 ∧ p.needs.length < 2 ^ 62 ∧ ∀ n ∈ p.needs, n.Sz
def PSz (l : List QK) : Prop := l.length < 2 ^ 62 ∧ ∀ p ∈ l, p.Sz
def jN (Vs QN : Nat) : AC := Qr [0, 4, 5] (.reg [xo 4 (.box false 1 (.t 1)), xo 5 (.box false 1 (.t 2)), mc 6 (V.bool false)]) (Qr [6] (.reg [mv 7 0, xo 8 (.mkfn Vs [(.t 4), (.t 5)]), cl 9 QN [7, 8], mv 6 9]) (.ret)) def r_packages_any : List Wc := [.tmp 6]
def jj (Γ : Env) (f : Nat) : Prop := ∀ (l : List QK) (g1 : Nat) (c1 : List V) (g2 : Nat) (c2 : List V) (p : QK → Bool) (q : Yk → Bool) (hp : ∀ x ∈ l, EvN Γ g1 (x.v :: c1) (V.bool (p x))) (hq : ∀ x ∈ l, ∀ y ∈ x.needs, EvN Γ g2 (y.v :: c2) (V.bool (q y))) (hc1 : Qj c1) (hc2 : Qj c2) (hl : PSz l), EvN Γ f [.sl 3 (l.map QK.v), .clo g1 c1, .clo g2 c2] (V.bool (l.any fun x => p x || x.needs.any q))
theorem ab0 {Γ : Env} {f Vs QN : Nat} (h : Has Γ.P f 10 (jN Vs QN) r_packages_any) (yG : qa Γ Vs) (Qs : JA Γ QN) : jj Γ f := by
  intro l g1 c1 g2 c2 p q hp hq hc1 hc2 hl
  refine QV h (by simp) (by simp only [V.closed, Qj, V.noSl, Jy, and_self, and_true, true_and]) (by simp only [V.closed, Qj, V.noSl, Jy, and_self, and_true, true_and]) fun C hC hm => ?_
  subst hC
  unfold jN
  have s1 : ∀ o, XY o c1 = c1 := fun o => Yp o c1 hc1
  have s2 : ∀ o B, JB o B c1 = True := fun o B => eq_true (JR o B c1 hc1)
  have s3 : ∀ o, XY o c2 = c2 := fun o => Yp o c2 hc2
  have s4 : ∀ o B, JB o B c2 = True := fun o B => eq_true (JR o B c2 hc2)
  have s5 : Qj c1 = True := eq_true hc1
  have s6 : Qj c2 = True := eq_true hc2
  have hi := (Qs l Vs [.ro [.clo g1 c1] 0, .ro [.clo g2 c2] 0] (fun x => p x || x.needs.any q) (fun x hx => yG x g1 c1 g2 c2 p q (hp x hx) (hq x hx) hc1 hc2 (hl.2 x hx).2.2.1) (by simp only [Qj, V.closed, s5, s6, and_self]) hl.1).b
  repeat' (first | refine Qb fun K' hK => ?_ | refine Qe fun K' hK => ?_ | refine Qc ?_ | refine Qd ?_ | refine Qa ?_ | ((first | refine Qg ⟨_, rfl, fun hc => ?_, fun hc => ?_⟩ | refine QL (fun hc => ?_) (fun hc => ?_) | refine QM (fun hc => ?_) (fun hc => ?_)) <;> first | exact Bool.noConfusion hc | ((try simp only [znz] at hc); first | exact znf | skip)) | refine Qi ?_ | refine Qf ?_ | simp (maxSteps := 1000000) only [go_sem, Nat.reduceAdd, Nat.reduceMul, Nat.reduceEqDiff, Nat.reduceLeDiff, Nat.reduceLT, Nat.reduceSub, Int.reduceEq, Int.reduceBEq, Int.reduceLT, Int.reduceLE, Int.reduceAdd, Int.reduceToNat, reduceIte, reduceCtorEq, s1, s2, s3, s4, s5, s6] | (refine hK _ ?_; clear hK; clear K') | refine And.intro ?_ ?_ | (apply QX; (focus first | exact hi | exact (yG _ _ _ _ _ _ _ zsd zsd zsd zsd zsd).b | exact (Qs _ _ _ _ zsd zsd zsd).b)) | exact zlo | omega | exact zms)
  all_goals first | (refine Jb _ rfl ?_; simp only [go_sem, Nat.reduceEqDiff, Nat.reduceAdd, reduceIte, reduceCtorEq]; done) | trace_state
def KU : AC := Qr [1, 2] (.reg [xo 2 (.box true 3 (.t 0)), mc 3 (V.bool false)]) (Qr [3] (.reg [fa 4 0 2, ld 5 1 4, ld 6 1 1, bn 7 .eql 5 6, mv 3 7]) (.ret)) def r_packages_find_1 : List Wc := [.tmp 3]
def Kv (Γ : Env) (f : Nat) : Prop := ∀ (p : QK) (n : List UInt8), EvN Γ f [p.v, .ro [V.str n] 0] (V.bool (p.name == n))
theorem vr {Γ : Env} {f : Nat} (h : Has Γ.P f 8 KU r_packages_find_1)  : Kv Γ f := by
  intro p n
  refine QV h (by simp) (by simp only [V.closed, Qj, V.noSl, Jy, and_self, and_true, true_and]) (by simp only [V.closed, Qj, V.noSl, Jy, and_self, and_true, true_and]) fun C hC hm => ?_
  subst hC
  unfold KU
  repeat' (first | refine Qb fun K' hK => ?_ | refine Qe fun K' hK => ?_ | refine Qc ?_ | refine Qd ?_ | refine Qa ?_ | ((first | refine Qg ⟨_, rfl, fun hc => ?_, fun hc => ?_⟩ | refine QL (fun hc => ?_) (fun hc => ?_) | refine QM (fun hc => ?_) (fun hc => ?_)) <;> first | exact Bool.noConfusion hc | ((try simp only [znz] at hc); first | exact znf | skip)) | refine Qi ?_ | refine Qf ?_ | simp (maxSteps := 1000000) only [go_sem, Nat.reduceAdd, Nat.reduceMul, Nat.reduceEqDiff, Nat.reduceLeDiff, Nat.reduceLT, Nat.reduceSub, Int.reduceEq, Int.reduceBEq, Int.reduceLT, Int.reduceLE, Int.reduceAdd, Int.reduceToNat, reduceIte, reduceCtorEq, QK.v, QK.cells] | (refine hK _ ?_; clear hK; clear K') | refine And.intro ?_ ?_ | exact zlo | omega | exact zms)
  all_goals first | (refine Jb _ rfl ?_; simp only [go_sem, Nat.reduceEqDiff, Nat.reduceAdd, reduceIte, reduceCtorEq]; done) | trace_state
def jX (l : List QK) (n : List UInt8) : Int := wM (fun p : QK => p.name == n) 0 l
def qY (WV QQ : Nat) : AC := Qr [0, 3] (.reg [xo 3 (.box false 1 (.t 1)), mc 4 (V.int 0)]) (Qr [4] (.reg [mv 5 0, xo 6 (.mkfn WV [(.t 3)]), cl 7 QQ [5, 6], mv 4 7]) (.ret)) def r_packages_find : List Wc := [.tmp 4]
def UF (Γ : Env) (f : Nat) : Prop := ∀ (l : List QK) (n : List UInt8) (hl : l.length < 2 ^ 62), EvN Γ f [.sl 3 (l.map QK.v), V.str n] (V.int (jX l n))
theorem abc {Γ : Env} {f WV QQ : Nat} (h : Has Γ.P f 8 (qY WV QQ) r_packages_find) (jW : Kv Γ WV) (Jr : JH Γ QQ) : UF Γ f := by
  intro l n hl
  refine QV h (by simp) (by simp only [V.closed, Qj, V.noSl, Jy, and_self, and_true, true_and]) (by simp only [V.closed, Qj, V.noSl, Jy, and_self, and_true, true_and]) fun C hC hm => ?_
  subst hC
  unfold qY
  have hi := (Jr l WV [.ro [V.str n] 0] (fun p => p.name == n) (fun x _ => jW x n) (by simp [Qj, V.closed]) hl).b
  unfold jX
  repeat' (first | refine Qb fun K' hK => ?_ | refine Qe fun K' hK => ?_ | refine Qc ?_ | refine Qd ?_ | refine Qa ?_ | ((first | refine Qg ⟨_, rfl, fun hc => ?_, fun hc => ?_⟩ | refine QL (fun hc => ?_) (fun hc => ?_) | refine QM (fun hc => ?_) (fun hc => ?_)) <;> first | exact Bool.noConfusion hc | ((try simp only [znz] at hc); first | exact znf | skip)) | refine Qi ?_ | refine Qf ?_ | simp (maxSteps := 1000000) only [go_sem, Nat.reduceAdd, Nat.reduceMul, Nat.reduceEqDiff, Nat.reduceLeDiff, Nat.reduceLT, Nat.reduceSub, Int.reduceEq, Int.reduceBEq, Int.reduceLT, Int.reduceLE, Int.reduceAdd, Int.reduceToNat, reduceIte, reduceCtorEq] | (refine hK _ ?_; clear hK; clear K') | refine And.intro ?_ ?_ | (apply QX; (focus first | exact hi | exact (jW _ _).b | exact (Jr _ _ _ _ zsd zsd zsd).b)) | exact zlo | omega | exact zms)
  all_goals first | (refine Jb _ rfl ?_; simp only [go_sem, Nat.reduceEqDiff, Nat.reduceAdd, reduceIte, reduceCtorEq]; done) | trace_state
def yY (l : List QK) (n : Yk) : Int := match l[(jX l n.name).toNat]? with
  | some p => if decide (jX l n.name ≥ 0) && inV n.lo n.up p.ver then jX l n.name else -1
  | none => -1
theorem adA {α : Type} (p : α → Bool) : ∀ (xs : List α) (k : Nat), 0 ≤ wM p k xs → ∃ j x, wM p k xs = ((k + j : Nat) : Int) ∧ xs[j]? = some x ∧ p x = true
  | [], k, h => by simp [wM] at h
  | x :: r, k, h => by
    unfold wM at h ⊢
    by_cases hx : p x = true
    · rw [if_pos hx] at h ⊢; exact ⟨0, x, by simp, rfl, hx⟩
    · rw [if_neg hx] at h ⊢
      obtain ⟨j, y, h1, h2, h3⟩ := adA p r (k + 1) h
      exact ⟨j + 1, y, by rw [h1]; congr 1; omega, by simpa using h2, h3⟩
def qq (Q1 : Nat) : List AO := [mv 10 5, bc 11 .geq 10 (V.int 0), mv 12 11, xg 13 (.faddr 1 (.t 3)) 12 true, xg 14 (.load true 2 (.t 13)) 12 true, mg 15 0 12 true, mg 16 5 12 true, xg 17 (.iaddr 3 (.t 15) (.t 16)) 12 true, xg 18 (.faddr 1 (.t 17)) 12 true, xg 19 (.load false 1 (.t 18)) 12 true, xg 20 (.call Q1 [(.t 14), (.t 19)]) 12 true, xo 21 (.pick (.t 12) (.t 20) (.c (V.bool false)))]
def qD : List (List Nat) := [[], [0], [1], [2], [3, 2], [2], [2], [5, 6, 2], [7, 2], [8, 2], [4, 9, 2, 2], [2, 10]]
def qo : OT := .one 0 (.one 1 (.one 2 (.one 3 (.one 4 (.one 5 (.one 6 (.one 7 (.one 8 (.one 9 (.one 10 (.one 11 (.done))))))))))))
def Vp (Q1 : Nat) : OP := .one 0 false [] (mv 10 5) (.one 1 false [] (bc 11 .geq 10 (V.int 0)) (.one 2 false [] (mv 12 11) (.one 3 false [] (xg 13 (.faddr 1 (.t 3)) 12 true) (.one 4 false [] (xg 14 (.load true 2 (.t 13)) 12 true) (.one 5 false [] (mg 15 0 12 true) (.one 6 false [] (mg 16 5 12 true) (.one 7 false [] (xg 17 (.iaddr 3 (.t 15) (.t 16)) 12 true) (.one 8 false [] (xg 18 (.faddr 1 (.t 17)) 12 true) (.one 9 false [] (xg 19 (.load false 1 (.t 18)) 12 true) (.one 10 false [] (xg 20 (.call Q1 [(.t 14), (.t 19)]) 12 true) (.one 11 false [10] (xo 21 (.pick (.t 12) (.t 20) (.c (V.bool false)))) (.done))))))))))))
theorem WC (Q1 : Nat) : okR (qq Q1) qD [] qo = true := by kernel_rfl
theorem WB (Q1 : Nat) : Wt (ris (qq Q1) qD []) qo = Vp Q1 := by kernel_rfl def c_packages_met (XL Q1 : Nat) : AC := Qr [0, 3] (.reg [xo 3 (.box true 3 (.t 1)), mc 4 (V.int 0)]) (Qr [] (Qr [0, 3, 5] (.reg [mv 6 0, fa 7 0 3, ld 8 1 7, cl 9 XL [6, 8], mv 5 9]) (Qr [5, 21] (acq [] qo (Vp Q1) (qq Q1) qD) (.cond (.t 21) (Qr [4] (.reg [mv 22 5, mv 4 22]) (.ret)) (.skip)))) (Qr [4] (.reg [mc 4 (V.int (-1))]) (.ret))) def r_packages_met : List Wc := [.tmp 4]
def ji (Γ : Env) (f : Nat) : Prop := ∀ (l : List QK) (n : Yk) (hl : PSz l) (hn : n.Sz), EvN Γ f [.sl 3 (l.map QK.v), n.v] (V.int (yY l n))
theorem abZ {Γ : Env} {f XL Q1 : Nat} (h : Has Γ.P f 23 (c_packages_met XL Q1) r_packages_met) (XI : UF Γ XL) (JF : UC Γ Q1) : ji Γ f := by
  intro l n hl hn
  refine QV h (by simp) (by simp only [V.closed, Qj, V.noSl, Jy, and_self, and_true, true_and]) (by simp only [V.closed, Qj, V.noSl, Jy, and_self, and_true, true_and]) fun C hC hm => ?_
  subst hC
  unfold c_packages_met
  have hi := (XI l n.name hl.1).b
  by_cases h0 : 0 ≤ jX l n.name
  · obtain ⟨j, x, h1, hget, _⟩ := adA (fun p : QK => p.name == n.name) l 0 h0
    have h1 : jX l n.name = (j : Int) := by rw [jX, h1]; simp
    have hx := hl.2 x (List.mem_of_getElem? hget)
    have g := (JF n.lo n.up x.ver hn.2.1 hn.2.2 hx.2.1).b
    have hm : yY l n = if inV n.lo n.up x.ver then (j : Int) else -1 := by
      unfold yY; rw [h1, Int.toNat_natCast, hget]; simp
    rw [hm]
    rw [h1] at hi
    simp only [wZ] at g
    have e1 : decide ((j : Int) ≥ 0) = true := by simp
    rcases hv : inV n.lo n.up x.ver with _ | _
    · rw [hv] at g
      repeat' (first | refine Qb fun K' hK => ?_ | refine Qe fun K' hK => ?_ | refine Qp 12 (fun _ => true) rfl (WC _) (WB _) fun K' hK => ?_ | refine Qq 12 (fun _ => true) rfl (WC _) (WB _) fun K' hK => ?_ | refine Qc ?_ | refine Qd ?_ | refine Qa ?_ | ((first | refine Qg ⟨_, rfl, fun hc => ?_, fun hc => ?_⟩ | refine QL (fun hc => ?_) (fun hc => ?_) | refine QM (fun hc => ?_) (fun hc => ?_)) <;> first | exact Bool.noConfusion hc | ((try simp only [znz] at hc); first | exact znf | skip)) | refine Qi ?_ | refine Qf ?_ | simp (maxSteps := 1000000) only [go_sem, Nat.reduceAdd, Nat.reduceMul, Nat.reduceEqDiff, Nat.reduceLeDiff, Nat.reduceLT, Nat.reduceSub, Int.reduceEq, Int.reduceBEq, Int.reduceLT, Int.reduceLE, Int.reduceAdd, Int.reduceToNat, reduceIte, reduceCtorEq, Yk.v, Yk.cells, QK.v, QK.cells, e1, Int.toNat_natCast, List.getElem?_map, hget, Vp] | (refine hK _ ?_; clear hK; clear K') | refine And.intro ?_ ?_ | ((first | apply QX | apply YB); (focus first | exact hi | exact g | exact (XI _ _ zsd).b | exact (JF _ _ _ zsd zsd zsd).b)) | exact zlo | omega | exact zms)
      all_goals first | (refine Jb _ rfl ?_; simp only [go_sem, Nat.reduceEqDiff, Nat.reduceAdd, reduceIte, reduceCtorEq]; done) | trace_state
    · rw [hv] at g
      repeat' (first | refine Qb fun K' hK => ?_ | refine Qe fun K' hK => ?_ | refine Qp 12 (fun _ => true) rfl (WC _) (WB _) fun K' hK => ?_ | refine Qq 12 (fun _ => true) rfl (WC _) (WB _) fun K' hK => ?_ | refine Qc ?_ | refine Qd ?_ | refine Qa ?_ | ((first | refine Qg ⟨_, rfl, fun hc => ?_, fun hc => ?_⟩ | refine QL (fun hc => ?_) (fun hc => ?_) | refine QM (fun hc => ?_) (fun hc => ?_)) <;> first | exact Bool.noConfusion hc | ((try simp only [znz] at hc); first | exact znf | skip)) | refine Qi ?_ | refine Qf ?_ | simp (maxSteps := 1000000) only [go_sem, Nat.reduceAdd, Nat.reduceMul, Nat.reduceEqDiff, Nat.reduceLeDiff, Nat.reduceLT, Nat.reduceSub, Int.reduceEq, Int.reduceBEq, Int.reduceLT, Int.reduceLE, Int.reduceAdd, Int.reduceToNat, reduceIte, reduceCtorEq, Yk.v, Yk.cells, QK.v, QK.cells, e1, Int.toNat_natCast, List.getElem?_map, hget, Vp] | (refine hK _ ?_; clear hK; clear K') | refine And.intro ?_ ?_ | ((first | apply QX | apply YB); (focus first | exact hi | exact g | exact (XI _ _ zsd).b | exact (JF _ _ _ zsd zsd zsd).b)) | exact zlo | omega | exact zms)
      all_goals first | (refine Jb _ rfl ?_; simp only [go_sem, Nat.reduceEqDiff, Nat.reduceAdd, reduceIte, reduceCtorEq]; done) | trace_state
  · have e1 : decide (jX l n.name ≥ 0) = false := by simp; omega
    have hm : yY l n = -1 := by
      unfold yY; split
      · rw [e1]; rfl
      · rfl
    rw [hm]
    repeat' (first | refine Qb fun K' hK => ?_ | refine Qe fun K' hK => ?_ | refine Qp 12 (fun _ => true) rfl (WC _) (WB _) fun K' hK => ?_ | refine Qq 12 (fun _ => true) rfl (WC _) (WB _) fun K' hK => ?_ | refine Qc ?_ | refine Qd ?_ | refine Qa ?_ | ((first | refine Qg ⟨_, rfl, fun hc => ?_, fun hc => ?_⟩ | refine QL (fun hc => ?_) (fun hc => ?_) | refine QM (fun hc => ?_) (fun hc => ?_)) <;> first | exact Bool.noConfusion hc | ((try simp only [znz] at hc); first | exact znf | skip)) | refine Qi ?_ | refine Qf ?_ | simp (maxSteps := 1000000) only [go_sem, Nat.reduceAdd, Nat.reduceMul, Nat.reduceEqDiff, Nat.reduceLeDiff, Nat.reduceLT, Nat.reduceSub, Int.reduceEq, Int.reduceBEq, Int.reduceLT, Int.reduceLE, Int.reduceAdd, Int.reduceToNat, reduceIte, reduceCtorEq, Yk.v, Yk.cells, e1, Vp] | (refine hK _ ?_; clear hK; clear K') | refine And.intro ?_ ?_ | ((first | apply QX | apply YB); (focus first | exact hi | exact (XI _ _ zsd).b | exact (JF _ _ _ zsd zsd zsd).b)) | exact zlo | omega | exact zms)
    all_goals first | (refine Jb _ rfl ?_; simp only [go_sem, Nat.reduceEqDiff, Nat.reduceAdd, reduceIte, reduceCtorEq]; done) | trace_state
end Av
end

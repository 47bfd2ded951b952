/- Functions that are handed a method value bound to a variable of the caller's; such that are lent two variables; closures that append to a captured slice. -/
import Derived.Test.YtalpffbofjlfgaaDoorK20
set_option linter.unusedVariables false
set_option linter.unusedSimpArgs false
section
set_option linter.unusedSimpArgs false
set_option linter.unusedVariables false
set_option maxRecDepth 10000
set_option maxHeartbeats 4000000
namespace Av
open Go
attribute [local irreducible] AWp Y0 Xe Xo awS awC Wo awQ Wp QS JT Wm awR JV awB okR Y6 ris
def Js.Sz (n : Js) : Prop := n.name.length < 2 ^ 60 ∧ n.lo.length < 2 ^ 60 ∧ n.up.length < 2 ^ 60
def QB.Sz (p : QB) : Prop := p.name.length < 2 ^ 60 ∧ p.ver.length < 2 ^ 60 ∧ p.needs.length < 2 ^ 62 ∧ ∀ n ∈ p.needs, n.Sz
def PSz (l : List QB) : Prop := l.length < 2 ^ 62 ∧ ∀ p ∈ l, p.Sz
def VE (YV Qt : Nat) : AC := QP [0, 4, 5] (.reg [xo 4 (.box false 1 (.t 1)), xo 5 (.box false 1 (.t 2)), mc 6 (V.bool false)]) (QP [6] (.reg [mv 7 0, xo 8 (.mkfn YV [(.t 4), (.t 5)]), cl 9 Qt [7, 8], mv 6 9]) (.ret)) def r_packages_any : List Xq := [.tmp 6]
def Vk (Γ : Env) (f : Nat) : Prop := ∀ (l : List QB) (g1 : Nat) (c1 : List V) (g2 : Nat) (c2 : List V) (p : QB → Bool) (q : Js → Bool) (hp : ∀ x ∈ l, EvN Γ g1 (x.v :: c1) (V.bool (p x))) (hq : ∀ x ∈ l, ∀ y ∈ x.needs, EvN Γ g2 (y.v :: c2) (V.bool (q y))) (hc1 : Qg c1) (hc2 : Qg c2) (hl : PSz l), EvN Γ f [.sl 3 (l.map QB.v), .clo g1 c1, .clo g2 c2] (V.bool (l.any fun x => p x || x.needs.any q))
theorem jV {Γ : Env} {f YV Qt : Nat} (h : Has Γ.P f 10 (VE YV Qt) r_packages_any) (Uh : WC Γ YV) (Ql : Q6 Γ Qt) : Vk Γ f := by
  intro l g1 c1 g2 c2 p q hp hq hc1 hc2 hl
  refine Q1 h (by simp) (by simp only [V.closed, Qg, V.noSl, Jw, and_self, and_true, true_and]) (by simp only [V.closed, Qg, V.noSl, Jw, and_self, and_true, true_and]) fun C hC hm => ?_
  subst hC
  unfold VE
  have s1 : ∀ o, Yc o c1 = c1 := fun o => JS o c1 hc1
  have s2 : ∀ o B, Jf o B c1 = True := fun o B => eq_true (JC o B c1 hc1)
  have s3 : ∀ o, Yc o c2 = c2 := fun o => JS o c2 hc2
  have s4 : ∀ o B, Jf o B c2 = True := fun o B => eq_true (JC o B c2 hc2)
  have s5 : Qg c1 = True := eq_true hc1
  have s6 : Qg c2 = True := eq_true hc2
  have hi := (Ql l YV [.ro [.clo g1 c1] 0, .ro [.clo g2 c2] 0] (fun x => p x || x.needs.any q) (fun x hx => Uh x g1 c1 g2 c2 p q (hp x hx) (hq x hx) hc1 hc2 (hl.2 x hx).2.2.1) (by simp only [Qg, V.closed, s5, s6, and_self]) hl.1).b
  repeat' (first | refine Qe fun K' hK => ?_ | refine Qk fun K' hK => ?_ | refine Qf ?_ | refine Qj ?_ | refine Qa ?_ | ((first | refine Qi ⟨_, rfl, fun hc => ?_, fun hc => ?_⟩ | refine QY (fun hc => ?_) (fun hc => ?_) | refine QZ (fun hc => ?_) (fun hc => ?_)) <;> first | exact Bool.noConfusion hc | ((try simp only [znz] at hc); first | exact znf | skip)) | refine Qn ?_ | refine Qh ?_ | simp (maxSteps := 1000000) only [go_sem, Nat.reduceAdd, Nat.reduceMul, Nat.reduceEqDiff, Nat.reduceLeDiff, Nat.reduceLT, Nat.reduceSub, Int.reduceEq, Int.reduceBEq, Int.reduceLT, Int.reduceLE, Int.reduceAdd, Int.reduceToNat, reduceIte, reduceCtorEq, s1, s2, s3, s4, s5, s6] | (refine hK _ ?_; clear hK; clear K') | refine And.intro ?_ ?_ | (apply Q7; (focus first | exact hi | exact (Uh _ _ _ _ _ _ _ zsd zsd zsd zsd zsd).b | exact (Ql _ _ _ _ zsd zsd zsd).b)) | exact zlo | omega | exact zms)
  all_goals first | (refine Q5 _ rfl ?_; simp only [go_sem, Nat.reduceEqDiff, Nat.reduceAdd, reduceIte, reduceCtorEq]; done) | trace_state
def Wx : AC := QP [1, 2] (.reg [xo 2 (.box true 3 (.t 0)), mc 3 (V.bool false)]) (QP [3] (.reg [fa 4 0 2, ld 5 1 4, ld 6 1 1, bn 7 .eql 5 6, mv 3 7]) (.ret)) def r_packages_find_1 : List Xq := [.tmp 3]
def Wj (Γ : Env) (f : Nat) : Prop := ∀ (p : QB) (n : List UInt8), EvN Γ f [p.v, .ro [V.str n] 0] (V.bool (p.name == n))
theorem K5 {Γ : Env} {f : Nat} (h : Has Γ.P f 8 Wx r_packages_find_1)  : Wj Γ f := by
  intro p n
  refine Q1 h (by simp) (by simp only [V.closed, Qg, V.noSl, Jw, and_self, and_true, true_and]) (by simp only [V.closed, Qg, V.noSl, Jw, and_self, and_true, true_and]) fun C hC hm => ?_
  subst hC
  unfold Wx
  repeat' (first | refine Qe fun K' hK => ?_ | refine Qk fun K' hK => ?_ | refine Qf ?_ | refine Qj ?_ | refine Qa ?_ | ((first | refine Qi ⟨_, rfl, fun hc => ?_, fun hc => ?_⟩ | refine QY (fun hc => ?_) (fun hc => ?_) | refine QZ (fun hc => ?_) (fun hc => ?_)) <;> first | exact Bool.noConfusion hc | ((try simp only [znz] at hc); first | exact znf | skip)) | refine Qn ?_ | refine Qh ?_ | simp (maxSteps := 1000000) only [go_sem, Nat.reduceAdd, Nat.reduceMul, Nat.reduceEqDiff, Nat.reduceLeDiff, Nat.reduceLT, Nat.reduceSub, Int.reduceEq, Int.reduceBEq, Int.reduceLT, Int.reduceLE, Int.reduceAdd, Int.reduceToNat, reduceIte, reduceCtorEq, QB.v, QB.cells] | (refine hK _ ?_; clear hK; clear K') | refine And.intro ?_ ?_ | exact zlo | omega | exact zms)
  all_goals first | (refine Q5 _ rfl ?_; simp only [go_sem, Nat.reduceEqDiff, Nat.reduceAdd, reduceIte, reduceCtorEq]; done) | trace_state
def KZ (l : List QB) (n : List UInt8) : Int := yP (fun p : QB => p.name == n) 0 l
def Va (YB Qv : Nat) : AC := QP [0, 3] (.reg [xo 3 (.box false 1 (.t 1)), mc 4 (V.int 0)]) (QP [4] (.reg [mv 5 0, xo 6 (.mkfn YB [(.t 3)]), cl 7 Qv [5, 6], mv 4 7]) (.ret)) def r_packages_find : List Xq := [.tmp 4]
def WT (Γ : Env) (f : Nat) : Prop := ∀ (l : List QB) (n : List UInt8) (hl : l.length < 2 ^ 62), EvN Γ f [.sl 3 (l.map QB.v), V.str n] (V.int (KZ l n))
theorem jj {Γ : Env} {f YB Qv : Nat} (h : Has Γ.P f 8 (Va YB Qv) r_packages_find) (VM : Wj Γ YB) (Q3 : Q9 Γ Qv) : WT Γ f := by
  intro l n hl
  refine Q1 h (by simp) (by simp only [V.closed, Qg, V.noSl, Jw, and_self, and_true, true_and]) (by simp only [V.closed, Qg, V.noSl, Jw, and_self, and_true, true_and]) fun C hC hm => ?_
  subst hC
  unfold Va
  have hi := (Q3 l YB [.ro [V.str n] 0] (fun p => p.name == n) (fun x _ => VM x n) (by simp [Qg, V.closed]) hl).b
  unfold KZ
  repeat' (first | refine Qe fun K' hK => ?_ | refine Qk fun K' hK => ?_ | refine Qf ?_ | refine Qj ?_ | refine Qa ?_ | ((first | refine Qi ⟨_, rfl, fun hc => ?_, fun hc => ?_⟩ | refine QY (fun hc => ?_) (fun hc => ?_) | refine QZ (fun hc => ?_) (fun hc => ?_)) <;> first | exact Bool.noConfusion hc | ((try simp only [znz] at hc); first | exact znf | skip)) | refine Qn ?_ | refine Qh ?_ | simp (maxSteps := 1000000) only [go_sem, Nat.reduceAdd, Nat.reduceMul, Nat.reduceEqDiff, Nat.reduceLeDiff, Nat.reduceLT, Nat.reduceSub, Int.reduceEq, Int.reduceBEq, Int.reduceLT, Int.reduceLE, Int.reduceAdd, Int.reduceToNat, reduceIte, reduceCtorEq] | (refine hK _ ?_; clear hK; clear K') | refine And.intro ?_ ?_ | (apply Q7; (focus first | exact hi | exact (VM _ _).b | exact (Q3 _ _ _ _ zsd zsd zsd).b)) | exact zlo | omega | exact zms)
  all_goals first | (refine Q5 _ rfl ?_; simp only [go_sem, Nat.reduceEqDiff, Nat.reduceAdd, reduceIte, reduceCtorEq]; done) | trace_state
def vk (l : List QB) (n : Js) : Int := match l[(KZ l n.name).toNat]? with
  | some p => if decide (KZ l n.name ≥ 0) && inV n.lo n.up p.ver then KZ l n.name else -1
  | none => -1
theorem wJ {α : Type} (p : α → Bool) : ∀ (xs : List α) (k : Nat), 0 ≤ yP p k xs → ∃ j x, yP p k xs = ((k + j : Nat) : Int) ∧ xs[j]? = some x ∧ p x = true
  | [], k, h => by simp [yP] at h
  | x :: r, k, h => by
    unfold yP at h ⊢
    by_cases hx : p x = true
    · rw [if_pos hx] at h ⊢; exact ⟨0, x, by simp, rfl, hx⟩
    · rw [if_neg hx] at h ⊢
      obtain ⟨j, y, h1, h2, h3⟩ := wJ p r (k + 1) h
      exact ⟨j + 1, y, by rw [h1]; congr 1; omega, by simpa using h2, h3⟩
def WO (Q8 : Nat) : List AO := [mv 10 5, bc 11 .geq 10 (V.int 0), mv 12 11, xg 13 (.faddr 1 (.t 3)) 12 true, xg 14 (.load true 2 (.t 13)) 12 true, mg 15 0 12 true, mg 16 5 12 true, xg 17 (.iaddr 3 (.t 15) (.t 16)) 12 true, xg 18 (.faddr 1 (.t 17)) 12 true, xg 19 (.load false 1 (.t 18)) 12 true, xg 20 (.call Q8 [(.t 14), (.t 19)]) 12 true, xo 21 (.pick (.t 12) (.t 20) (.c (V.bool false)))]
def WR : List (List Nat) := [[], [0], [1], [2], [3, 2], [2], [2], [5, 6, 2], [7, 2], [8, 2], [4, 9, 2, 2], [2, 10]]
def WN : OT := .one 0 (.one 1 (.one 2 (.one 3 (.one 4 (.one 5 (.one 6 (.one 7 (.one 8 (.one 9 (.one 10 (.one 11 (.done))))))))))))
def YU (Q8 : Nat) : OP := .one 0 false [] (mv 10 5) (.one 1 false [] (bc 11 .geq 10 (V.int 0)) (.one 2 false [] (mv 12 11) (.one 3 false [] (xg 13 (.faddr 1 (.t 3)) 12 true) (.one 4 false [] (xg 14 (.load true 2 (.t 13)) 12 true) (.one 5 false [] (mg 15 0 12 true) (.one 6 false [] (mg 16 5 12 true) (.one 7 false [] (xg 17 (.iaddr 3 (.t 15) (.t 16)) 12 true) (.one 8 false [] (xg 18 (.faddr 1 (.t 17)) 12 true) (.one 9 false [] (xg 19 (.load false 1 (.t 18)) 12 true) (.one 10 false [] (xg 20 (.call Q8 [(.t 14), (.t 19)]) 12 true) (.one 11 false [10] (xo 21 (.pick (.t 12) (.t 20) (.c (V.bool false)))) (.done))))))))))))
theorem Yf (Q8 : Nat) : okR (WO Q8) WR [] WN = true := by kernel_rfl
theorem Ye (Q8 : Nat) : Y6 (ris (WO Q8) WR []) WN = YU Q8 := by kernel_rfl def c_packages_met (X3 Q8 : Nat) : AC := QP [0, 3] (.reg [xo 3 (.box true 3 (.t 1)), mc 4 (V.int 0)]) (QP [] (QP [0, 3, 5] (.reg [mv 6 0, fa 7 0 3, ld 8 1 7, cl 9 X3 [6, 8], mv 5 9]) (QP [5, 21] (aaM [] WN (YU Q8) (WO Q8) WR) (.cond (.t 21) (QP [4] (.reg [mv 22 5, mv 4 22]) (.ret)) (.skip)))) (QP [4] (.reg [mc 4 (V.int (-1))]) (.ret))) def r_packages_met : List Xq := [.tmp 4]
def Vj (Γ : Env) (f : Nat) : Prop := ∀ (l : List QB) (n : Js) (hl : PSz l) (hn : n.Sz), EvN Γ f [.sl 3 (l.map QB.v), n.v] (V.int (vk l n))
theorem jU {Γ : Env} {f X3 Q8 : Nat} (h : Has Γ.P f 23 (c_packages_met X3 Q8) r_packages_met) (X1 : WT Γ X3) (Yk : WH Γ Q8) : Vj Γ f := by
  intro l n hl hn
  refine Q1 h (by simp) (by simp only [V.closed, Qg, V.noSl, Jw, and_self, and_true, true_and]) (by simp only [V.closed, Qg, V.noSl, Jw, and_self, and_true, true_and]) fun C hC hm => ?_
  subst hC
  unfold c_packages_met
  have hi := (X1 l n.name hl.1).b
  by_cases h0 : 0 ≤ KZ l n.name
  · obtain ⟨j, x, h1, hget, _⟩ := wJ (fun p : QB => p.name == n.name) l 0 h0
    have h1 : KZ l n.name = (j : Int) := by rw [KZ, h1]; simp
    have hx := hl.2 x (List.mem_of_getElem? hget)
    have g := (Yk n.lo n.up x.ver hn.2.1 hn.2.2 hx.2.1).b
    have hm : vk l n = if inV n.lo n.up x.ver then (j : Int) else -1 := by
      unfold vk; rw [h1, Int.toNat_natCast, hget]; simp
    rw [hm]
    rw [h1] at hi
    simp only [yA] at g
    have e1 : decide ((j : Int) ≥ 0) = true := by simp
    rcases hv : inV n.lo n.up x.ver with _ | _
    · rw [hv] at g
      repeat' (first | refine Qe fun K' hK => ?_ | refine Qk fun K' hK => ?_ | refine Qy 12 (fun _ => true) rfl (Yf _) (Ye _) fun K' hK => ?_ | refine Qz 12 (fun _ => true) rfl (Yf _) (Ye _) fun K' hK => ?_ | refine Qf ?_ | refine Qj ?_ | refine Qa ?_ | ((first | refine Qi ⟨_, rfl, fun hc => ?_, fun hc => ?_⟩ | refine QY (fun hc => ?_) (fun hc => ?_) | refine QZ (fun hc => ?_) (fun hc => ?_)) <;> first | exact Bool.noConfusion hc | ((try simp only [znz] at hc); first | exact znf | skip)) | refine Qn ?_ | refine Qh ?_ | simp (maxSteps := 1000000) only [go_sem, Nat.reduceAdd, Nat.reduceMul, Nat.reduceEqDiff, Nat.reduceLeDiff, Nat.reduceLT, Nat.reduceSub, Int.reduceEq, Int.reduceBEq, Int.reduceLT, Int.reduceLE, Int.reduceAdd, Int.reduceToNat, reduceIte, reduceCtorEq, Js.v, Js.cells, QB.v, QB.cells, e1, Int.toNat_natCast, List.getElem?_map, hget, YU] | (refine hK _ ?_; clear hK; clear K') | refine And.intro ?_ ?_ | ((first | apply Q7 | apply JP); (focus first | exact hi | exact g | exact (X1 _ _ zsd).b | exact (Yk _ _ _ zsd zsd zsd).b)) | exact zlo | omega | exact zms)
      all_goals first | (refine Q5 _ rfl ?_; simp only [go_sem, Nat.reduceEqDiff, Nat.reduceAdd, reduceIte, reduceCtorEq]; done) | trace_state
    · rw [hv] at g
      repeat' (first | refine Qe fun K' hK => ?_ | refine Qk fun K' hK => ?_ | refine Qy 12 (fun _ => true) rfl (Yf _) (Ye _) fun K' hK => ?_ | refine Qz 12 (fun _ => true) rfl (Yf _) (Ye _) fun K' hK => ?_ | refine Qf ?_ | refine Qj ?_ | refine Qa ?_ | ((first | refine Qi ⟨_, rfl, fun hc => ?_, fun hc => ?_⟩ | refine QY (fun hc => ?_) (fun hc => ?_) | refine QZ (fun hc => ?_) (fun hc => ?_)) <;> first | exact Bool.noConfusion hc | ((try simp only [znz] at hc); first | exact znf | skip)) | refine Qn ?_ | refine Qh ?_ | simp (maxSteps := 1000000) only [go_sem, Nat.reduceAdd, Nat.reduceMul, Nat.reduceEqDiff, Nat.reduceLeDiff, Nat.reduceLT, Nat.reduceSub, Int.reduceEq, Int.reduceBEq, Int.reduceLT, Int.reduceLE, Int.reduceAdd, Int.reduceToNat, reduceIte, reduceCtorEq, Js.v, Js.cells, QB.v, QB.cells, e1, Int.toNat_natCast, List.getElem?_map, hget, YU] | (refine hK _ ?_; clear hK; clear K') | refine And.intro ?_ ?_ | ((first | apply Q7 | apply JP); (focus first | exact hi | exact g | exact (X1 _ _ zsd).b | exact (Yk _ _ _ zsd zsd zsd).b)) | exact zlo | omega | exact zms)
      all_goals first | (refine Q5 _ rfl ?_; simp only [go_sem, Nat.reduceEqDiff, Nat.reduceAdd, reduceIte, reduceCtorEq]; done) | trace_state
  · have e1 : decide (KZ l n.name ≥ 0) = false := by simp; omega
    have hm : vk l n = -1 := by
      unfold vk; split
      · rw [e1]; rfl
      · rfl
    rw [hm]
    repeat' (first | refine Qe fun K' hK => ?_ | refine Qk fun K' hK => ?_ | refine Qy 12 (fun _ => true) rfl (Yf _) (Ye _) fun K' hK => ?_ | refine Qz 12 (fun _ => true) rfl (Yf _) (Ye _) fun K' hK => ?_ | refine Qf ?_ | refine Qj ?_ | refine Qa ?_ | ((first | refine Qi ⟨_, rfl, fun hc => ?_, fun hc => ?_⟩ | refine QY (fun hc => ?_) (fun hc => ?_) | refine QZ (fun hc => ?_) (fun hc => ?_)) <;> first | exact Bool.noConfusion hc | ((try simp only [znz] at hc); first | exact znf | skip)) | refine Qn ?_ | refine Qh ?_ | simp (maxSteps := 1000000) only [go_sem, Nat.reduceAdd, Nat.reduceMul, Nat.reduceEqDiff, Nat.reduceLeDiff, Nat.reduceLT, Nat.reduceSub, Int.reduceEq, Int.reduceBEq, Int.reduceLT, Int.reduceLE, Int.reduceAdd, Int.reduceToNat, reduceIte, reduceCtorEq, Js.v, Js.cells, e1, YU] | (refine hK _ ?_; clear hK; clear K') | refine And.intro ?_ ?_ | ((first | apply Q7 | apply JP); (focus first | exact hi | exact (X1 _ _ zsd).b | exact (Yk _ _ _ zsd zsd zsd).b)) | exact zlo | omega | exact zms)
    all_goals first | (refine Q5 _ rfl ?_; simp only [go_sem, Nat.reduceEqDiff, Nat.reduceAdd, reduceIte, reduceCtorEq]; done) | trace_state
def Xp (WF : Nat) : AC := QP [1, 2] (.reg [xo 2 (.box true 3 (.t 0)), mc 3 (V.bool false)]) (QP [3] (.reg [ld 4 1 1, xo 5 (.load true 3 (.t 2)), cl 6 WF [4, 5], bc 7 .lss 6 (V.int 0), mv 3 7]) (.ret)) def r_packages_Missing_1 : List Xq := [.tmp 3]
def Xd (Γ : Env) (f : Nat) : Prop := ∀ (n : Js) (l : List QB) (hl : PSz l) (hn : n.Sz), EvN Γ f [n.v, .ro [.sl 3 (l.map QB.v)] 0] (V.bool (decide (vk l n < 0)))
theorem UB {Γ : Env} {f WF : Nat} (h : Has Γ.P f 8 (Xp WF) r_packages_Missing_1) (Ke : Vj Γ WF) : Xd Γ f := by
  intro n l hl hn
  refine Q1 h (by simp) (by simp only [V.closed, Qg, V.noSl, Jw, and_self, and_true, true_and]) (by simp only [V.closed, Qg, V.noSl, Jw, and_self, and_true, true_and]) fun C hC hm => ?_
  subst hC
  unfold Xp
  have g := (Ke l n hl hn).b
  simp only [Js.v, Js.cells] at g
  repeat' (first | refine Qe fun K' hK => ?_ | refine Qk fun K' hK => ?_ | refine Qf ?_ | refine Qj ?_ | refine Qa ?_ | ((first | refine Qi ⟨_, rfl, fun hc => ?_, fun hc => ?_⟩ | refine QY (fun hc => ?_) (fun hc => ?_) | refine QZ (fun hc => ?_) (fun hc => ?_)) <;> first | exact Bool.noConfusion hc | ((try simp only [znz] at hc); first | exact znf | skip)) | refine Qn ?_ | refine Qh ?_ | simp (maxSteps := 1000000) only [go_sem, Nat.reduceAdd, Nat.reduceMul, Nat.reduceEqDiff, Nat.reduceLeDiff, Nat.reduceLT, Nat.reduceSub, Int.reduceEq, Int.reduceBEq, Int.reduceLT, Int.reduceLE, Int.reduceAdd, Int.reduceToNat, reduceIte, reduceCtorEq, Js.v, Js.cells] | (refine hK _ ?_; clear hK; clear K') | refine And.intro ?_ ?_ | (apply Q7; (focus first | exact g | exact (Ke _ _ zsd zsd).b)) | exact zlo | omega | exact zms)
  all_goals first | (refine Q5 _ rfl ?_; simp only [go_sem, Nat.reduceEqDiff, Nat.reduceAdd, reduceIte, reduceCtorEq]; done) | trace_state
end Av
end
section
set_option linter.unusedSimpArgs false
set_option linter.unusedVariables false
set_option maxRecDepth 10000
set_option maxHeartbeats 4000000
namespace Av
open Go
attribute [local irreducible] AWp Y0 Xe Xo awS awC Wo awQ Wp QS JT Wm awR JV awB okR Y6 ris
def J5 : List QB → Bool
  | a :: b :: r => !(Op.bytesLess a.name b.name) || J5 (b :: r)
  | _ => false
def aab (p : QB) : Bool := decide ((p.needs.length : Int) > 8)
def adD (x : QB) : Bool := !XG x.name || x.needs.any fun n => !XG n.name
def acK (x : QB) : Bool := !W1 x.ver || x.needs.any fun n => !VT n.lo n.up
def VO (l : List QB) : Int :=
  if (decide ((l.length : Int) > 64) || l.any aab) = true then 3 else if l.any adD = true then 14 else if l.any acK = true then 22 else if J5 l = true then 6 else 0
theorem yf {l : List QB} (h : l.length ≤ 1) : J5 l = false := by
  match l, h with
  | [], _ => rfl
  | [_], _ => rfl
def X0 : List AO := [mv 25 4, bc 26 .gtr 25 (V.int 0), mv 27 26, mg 28 0 27 true, mg 29 4 27 true, xg 30 (.bin .sub (.t 29) (.c (V.int 1))) 27 true, xg 31 (.iaddr 3 (.t 28) (.t 30)) 27 true, xg 32 (.faddr 0 (.t 31)) 27 true, xg 33 (.load false 1 (.t 32)) 27 true, mg 34 0 27 true, mg 35 4 27 true, xg 36 (.iaddr 3 (.t 34) (.t 35)) 27 true, xg 37 (.faddr 0 (.t 36)) 27 true, xg 38 (.load false 1 (.t 37)) 27 true, xg 39 (.bin .geq (.t 33) (.t 38)) 27 true, xo 40 (.pick (.t 27) (.t 39) (.c (V.bool false)))]
def Wh : List (List Nat) := [[], [0], [1], [2], [2], [4, 2], [3, 5, 2], [6, 2], [7, 2], [2], [2], [9, 10, 2], [11, 2], [12, 2], [8, 13, 2], [2, 14]]
def XX : OT := .one 0 (.one 1 (.one 2 (.one 3 (.one 4 (.one 5 (.one 6 (.one 7 (.one 8 (.one 9 (.one 10 (.one 11 (.one 12 (.one 13 (.one 14 (.one 15 (.done))))))))))))))))
def Jg : OP := .one 0 false [] (mv 25 4) (.one 1 false [] (bc 26 .gtr 25 (V.int 0)) (.one 2 false [] (mv 27 26) (.one 3 false [] (mg 28 0 27 true) (.one 4 false [] (mg 29 4 27 true) (.one 5 false [] (xg 30 (.bin .sub (.t 29) (.c (V.int 1))) 27 true) (.one 6 false [] (xg 31 (.iaddr 3 (.t 28) (.t 30)) 27 true) (.one 7 false [] (xg 32 (.faddr 0 (.t 31)) 27 true) (.one 8 false [] (xg 33 (.load false 1 (.t 32)) 27 true) (.one 9 false [] (mg 34 0 27 true) (.one 10 false [] (mg 35 4 27 true) (.one 11 false [] (xg 36 (.iaddr 3 (.t 34) (.t 35)) 27 true) (.one 12 false [] (xg 37 (.faddr 0 (.t 36)) 27 true) (.one 13 false [] (xg 38 (.load false 1 (.t 37)) 27 true) (.one 14 false [] (xg 39 (.bin .geq (.t 33) (.t 38)) 27 true) (.one 15 false [] (xo 40 (.pick (.t 27) (.t 39) (.c (V.bool false)))) (.done))))))))))))))))
theorem QR : okR (X0) Wh [] XX = true := by kernel_rfl
theorem QQ : Y6 (ris (X0) Wh []) XX = Jg := by kernel_rfl def c_packages_Check (Yp Qt Xv Yo Yn Ym Yl : Nat) : AC := QP [0] (.reg [mc 2 (V.int 0)]) (QP [0, 3] (.reg [mc 3 (.clo Yp [])]) (QP [0] (.block 0 (QP [0, 5] (.reg [mv 6 0, ln 7 6, bc 8 .gtr 7 (V.int 64), mv 9 8, mg 10 0 9 false, mg 11 3 9 false, xg 12 (.call Qt [(.t 10), (.t 11)]) 9 false, xo 13 (.pick (.t 9) (.c (V.bool true)) (.t 12)), mv 5 13]) (.cond (.t 5) (QP [2] (.reg [mc 2 (V.int 3)]) (.ret)) (QP [0, 14] (.reg [mv 15 0, xo 16 (.call Xv [(.t 15), (.c (.clo Yo [])), (.c (.clo Yn []))]), mv 14 16]) (.cond (.t 14) (QP [2] (.reg [mc 2 (V.int 14)]) (.ret)) (QP [0, 17] (.reg [mv 18 0, xo 19 (.call Xv [(.t 18), (.c (.clo Ym [])), (.c (.clo Yl []))]), mv 17 19]) (.cond (.t 17) (QP [2] (.reg [mc 2 (V.int 22)]) (.ret)) (.skip)))))))) (QP [] (QP [0, 21, 22] (.reg [mv 20 0, ln 21 20, mc 22 (V.int 0)]) (.block 1 (VC [0, 21, 22] (QP [0, 21, 22, 23] (.reg [bn 23 .lss 22 21]) (QP [0, 21, 22] (.cond (.t 23) (.skip) (.exit 1)) (QP [0, 21, 22] (.block 2 (QP [0, 4, 21, 22] (.reg [mv 24 22, mv 4 24]) (QP [0, 21, 22, 40] (aaM [] XX (Jg) (X0) Wh) (.cond (.t 40) (QP [2] (.reg [mc 2 (V.int 6)]) (.ret)) (.skip))))) (.reg [bc 41 .add 22 (V.int 1), mv 22 41]))))))) (QP [2] (.reg [mc 2 (V.int 0)]) (.ret))))) def r_packages_Check : List Xq := [.tmp 2]
def Xm (Γ : Env) (f : Nat) : Prop := ∀ (l : List QB) (hl : PSz l), EvN Γ f [.sl 3 (l.map QB.v)] (V.int (VO l))
theorem qP {Γ : Env} {f Yp Qt Xv Yo Yn Ym Yl : Nat} (h : Has Γ.P f 42 (c_packages_Check Yp Qt Xv Yo Yn Ym Yl) r_packages_Check) (Jp : XS Γ Yp) (Ql : Q6 Γ Qt) (JH : Vk Γ Xv) (Jo : XR Γ Yo) (Jn : XQ Γ Yn) (Jm : XP Γ Ym) (Jl : XO Γ Yl) : Xm Γ f := by
  intro l hl
  refine Q1 h (by simp) (by simp only [V.closed, Qg, V.noSl, Jw, and_self, and_true, true_and]) (by simp only [V.closed, Qg, V.noSl, Jw, and_self, and_true, true_and]) fun C hC hm => ?_
  subst hC
  unfold c_packages_Check
  have g1 := (Ql l Yp [] aab (fun x _ => Jp x) trivial hl.1).b
  have g2 := (JH l Yo [] Yn [] (fun p => !XG p.name) (fun n => !XG n.name) (fun x hx => Jo x (hl.2 x hx).1) (fun x hx y hy => Jn y ((hl.2 x hx).2.2.2 y hy).1) trivial trivial hl).b
  have g3 := (JH l Ym [] Yl [] (fun p => !W1 p.ver) (fun n => !VT n.lo n.up) (fun x hx => Jm x (hl.2 x hx).2.1) (fun x hx y hy => Jl y ((hl.2 x hx).2.2.2 y hy).2.1 ((hl.2 x hx).2.2.2 y hy).2.2) trivial trivial hl).b
  have d2 : (l.any fun x => !XG x.name || x.needs.any fun n => !XG n.name) = l.any adD := rfl
  have d3 : (l.any fun x => !W1 x.ver || x.needs.any fun n => !VT n.lo n.up) = l.any acK := rfl
  rw [d2] at g2
  rw [d3] at g3
  have hlen := hl.1
  unfold VO
  rcases e0 : decide ((l.length : Int) > 64) with _ | _
  · have e0' : decide ((((l.map QB.v).length : Nat) : Int) > 64) = false := by rw [List.length_map]; exact e0
    rcases e1 : l.any aab with _ | _
    · rw [e1] at g1
      rcases e2 : l.any adD with _ | _
      · rw [e2] at g2
        rcases e3 : l.any acK with _ | _
        · rw [e3] at g3
          simp only [Bool.or_self, Bool.false_eq_true, if_false]
          repeat' (first | refine Qe fun K' hK => ?_ | refine Qk fun K' hK => ?_ | refine Qy 16 (fun _ => true) rfl (QR) (QQ) fun K' hK => ?_ | refine Qz 16 (fun _ => true) rfl (QR) (QQ) fun K' hK => ?_ | refine Qf ?_ | refine Qj ?_ | refine Qa ?_ | ((first | refine Qi ⟨_, rfl, fun hc => ?_, fun hc => ?_⟩ | refine QY (fun hc => ?_) (fun hc => ?_) | refine QZ (fun hc => ?_) (fun hc => ?_)) <;> first | exact Bool.noConfusion hc | ((try simp only [znz] at hc); first | exact znf | skip)) | refine Qn ?_ | refine Qh ?_ | simp (maxSteps := 1000000) only [go_sem, Nat.reduceAdd, Nat.reduceMul, Nat.reduceEqDiff, Nat.reduceLeDiff, Nat.reduceLT, Nat.reduceSub, Int.reduceEq, Int.reduceBEq, Int.reduceLT, Int.reduceLE, Int.reduceAdd, Int.reduceToNat, reduceIte, reduceCtorEq, e0', Jg] | (refine hK _ ?_; clear hK; clear K') | refine And.intro ?_ ?_ | ((first | apply Q7 | apply JP); (focus first | exact g1 | exact g2 | exact g3 | exact (Jp _).b | exact (Ql _ _ _ _ zsd zsd zsd).b | exact (JH _ _ _ _ _ _ _ zsd zsd zsd zsd zsd).b | exact (Jo _ zsd).b | exact (Jn _ zsd).b | exact (Jm _ zsd).b | exact (Jl _ zsd zsd).b)) | exact zlo | omega | exact zms)
          refine Wg (ι := Nat) (fun k => k ≤ l.length ∧ J5 (l.drop (k - 1)) = J5 l) (fun k => [(22, V.int k)]) (fun k => l.length - k) 0 (by omega) ⟨by simp, by simp⟩ (by repeat' first | exact WY | refine VZ (by omega) (by simp only [Ob.lt, ltL, V.lt, and_self, and_true]; try omega) ?_) (fun i hi => by simp only [ovT, YL, Nat.reduceEqDiff, reduceIte]; (repeat' first | exact VY | refine WX ?_ ?_ | simp only [V.lt, ltL, and_self, and_true] | omega)) (by simp only [Nat.reduceAdd, ovT, YL, Nat.reduceEqDiff, reduceIte, J7, YP, yz, u32, u33, u34, u35, u36, u37, u38, u39, and_self, and_true, true_and]; first | done | rfl) fun k hk K' hL => ?_
          obtain ⟨hk, hinv⟩ := hk
          simp only [ovT, YL, Nat.reduceEqDiff, reduceIte]
          by_cases hkl : k < l.length
          · have c1 : decide ((k : Int) < (((l.map QB.v).length : Nat) : Int)) = true := by simp; omega
            have hw := Yg (k := k) (by omega)
            rcases k with _ | j
            · repeat' (first | refine Qe fun K' hK => ?_ | refine Qk fun K' hK => ?_ | refine Qy 16 (fun _ => true) rfl (QR) (QQ) fun K' hK => ?_ | refine Qz 16 (fun _ => true) rfl (QR) (QQ) fun K' hK => ?_ | refine Qf ?_ | refine Qj ?_ | refine Qa ?_ | ((first | refine Qi ⟨_, rfl, fun hc => ?_, fun hc => ?_⟩ | refine QY (fun hc => ?_) (fun hc => ?_) | refine QZ (fun hc => ?_) (fun hc => ?_)) <;> first | exact Bool.noConfusion hc | ((try simp only [znz] at hc); first | exact znf | skip)) | refine Qn ?_ | refine Qh ?_ | simp (maxSteps := 1000000) only [go_sem, Nat.reduceAdd, Nat.reduceMul, Nat.reduceEqDiff, Nat.reduceLeDiff, Nat.reduceLT, Nat.reduceSub, Int.reduceEq, Int.reduceBEq, Int.reduceLT, Int.reduceLE, Int.reduceAdd, Int.reduceToNat, reduceIte, reduceCtorEq, c1, hw, Jg] | (refine hK _ ?_; clear hK; clear K') | refine And.intro ?_ ?_ | ((first | apply Q7 | apply JP); (focus first | exact (Jp _).b | exact (Ql _ _ _ _ zsd zsd zsd).b | exact (JH _ _ _ _ _ _ _ zsd zsd zsd zsd zsd).b | exact (Jo _ zsd).b | exact (Jn _ zsd).b | exact (Jm _ zsd).b | exact (Jl _ zsd zsd).b)) | exact zlo | omega | exact zms)
              all_goals first | exact hL _ 1 (by simp only [Nat.reduceAdd, ovT, YL, Nat.reduceEqDiff, reduceIte, J7, YP, yz, u32, u33, u34, u35, u36, u37, u38, u39, and_self, and_true, true_and]; first | done | rfl) ⟨by omega, by simp⟩ (by omega) (fun a ha => by simp only [u32, u33, u34, u35, u36, u37, u38, u39]; repeat rw [if_neg (by omega)]) | trace_state
            · have hj : (l.drop j) = l[j] :: l[j + 1] :: l.drop (j + 2) := by rw [List.drop_eq_getElem_cons (by omega), List.drop_eq_getElem_cons (by omega)]
              have hga : l[j]? = some l[j] := List.getElem?_eq_getElem (by omega)
              have hgb : l[j + 1]? = some l[j + 1] := List.getElem?_eq_getElem (by omega)
              have hdd : l.drop (j + 1) = l[j + 1] :: l.drop (j + 2) := by rw [List.drop_eq_getElem_cons (by omega)]
              rw [Nat.add_sub_cancel, hj, J5, ← hdd] at hinv
              have c2 : decide (((j + 1 : Nat) : Int) > 0) = true := decide_eq_true (by omega)
              have hw2 : IntKind.i64.wrap (((j + 1 : Nat) : Int) - 1) = (j : Int) := by rw [Wq (by omega) (by omega)]; omega
              generalize l[j] = a at *
              generalize l[j + 1] = b at *
              rcases hb : Op.bytesLess a.name b.name with _ | _
              · rw [hb] at hinv
                have : J5 l = true := by rw [← hinv]; rfl
                rw [this]
                repeat' (first | refine Qe fun K' hK => ?_ | refine Qk fun K' hK => ?_ | refine Qy 16 (fun _ => true) rfl (QR) (QQ) fun K' hK => ?_ | refine Qz 16 (fun _ => true) rfl (QR) (QQ) fun K' hK => ?_ | refine Qf ?_ | refine Qj ?_ | refine Qa ?_ | ((first | refine Qi ⟨_, rfl, fun hc => ?_, fun hc => ?_⟩ | refine QY (fun hc => ?_) (fun hc => ?_) | refine QZ (fun hc => ?_) (fun hc => ?_)) <;> first | exact Bool.noConfusion hc | ((try simp only [znz] at hc); first | exact znf | skip)) | refine Qn ?_ | refine Qh ?_ | simp (maxSteps := 1000000) only [go_sem, Nat.reduceAdd, Nat.reduceMul, Nat.reduceEqDiff, Nat.reduceLeDiff, Nat.reduceLT, Nat.reduceSub, Int.reduceEq, Int.reduceBEq, Int.reduceLT, Int.reduceLE, Int.reduceAdd, Int.reduceToNat, reduceIte, reduceCtorEq, c1, c2, hw, hw2, hga, hgb, hb, Int.toNat_natCast, List.getElem?_map, QB.v, QB.cells, Jg] | (refine hK _ ?_; clear hK; clear K') | refine And.intro ?_ ?_ | ((first | apply Q7 | apply JP); (focus first | exact (Jp _).b | exact (Ql _ _ _ _ zsd zsd zsd).b | exact (JH _ _ _ _ _ _ _ zsd zsd zsd zsd zsd).b | exact (Jo _ zsd).b | exact (Jn _ zsd).b | exact (Jm _ zsd).b | exact (Jl _ zsd zsd).b)) | exact zlo | omega | exact zms)
                all_goals first | (refine Q5 _ rfl ?_; simp only [go_sem, Nat.reduceEqDiff, Nat.reduceAdd, reduceIte, reduceCtorEq]; done) | trace_state
              · rw [hb] at hinv
                repeat' (first | refine Qe fun K' hK => ?_ | refine Qk fun K' hK => ?_ | refine Qy 16 (fun _ => true) rfl (QR) (QQ) fun K' hK => ?_ | refine Qz 16 (fun _ => true) rfl (QR) (QQ) fun K' hK => ?_ | refine Qf ?_ | refine Qj ?_ | refine Qa ?_ | ((first | refine Qi ⟨_, rfl, fun hc => ?_, fun hc => ?_⟩ | refine QY (fun hc => ?_) (fun hc => ?_) | refine QZ (fun hc => ?_) (fun hc => ?_)) <;> first | exact Bool.noConfusion hc | ((try simp only [znz] at hc); first | exact znf | skip)) | refine Qn ?_ | refine Qh ?_ | simp (maxSteps := 1000000) only [go_sem, Nat.reduceAdd, Nat.reduceMul, Nat.reduceEqDiff, Nat.reduceLeDiff, Nat.reduceLT, Nat.reduceSub, Int.reduceEq, Int.reduceBEq, Int.reduceLT, Int.reduceLE, Int.reduceAdd, Int.reduceToNat, reduceIte, reduceCtorEq, c1, c2, hw, hw2, hga, hgb, hb, Int.toNat_natCast, List.getElem?_map, QB.v, QB.cells, Jg] | (refine hK _ ?_; clear hK; clear K') | refine And.intro ?_ ?_ | ((first | apply Q7 | apply JP); (focus first | exact (Jp _).b | exact (Ql _ _ _ _ zsd zsd zsd).b | exact (JH _ _ _ _ _ _ _ zsd zsd zsd zsd zsd).b | exact (Jo _ zsd).b | exact (Jn _ zsd).b | exact (Jm _ zsd).b | exact (Jl _ zsd zsd).b)) | exact zlo | omega | exact zms)
                all_goals first | exact hL _ (j + 1 + 1) (by simp only [Nat.reduceAdd, ovT, YL, Nat.reduceEqDiff, reduceIte, J7, YP, yz, u32, u33, u34, u35, u36, u37, u38, u39, and_self, and_true, true_and]) ⟨by omega, by simpa using hinv⟩ (by omega) (fun a ha => by simp only [u32, u33, u34, u35, u36, u37, u38, u39]; repeat rw [if_neg (by omega)]) | trace_state
          · have c1 : decide ((k : Int) < (((l.map QB.v).length : Nat) : Int)) = false := by simp; omega
            rw [yf (by simp; omega)] at hinv
            rw [← hinv]
            repeat' (first | refine Qe fun K' hK => ?_ | refine Qk fun K' hK => ?_ | refine Qy 16 (fun _ => true) rfl (QR) (QQ) fun K' hK => ?_ | refine Qz 16 (fun _ => true) rfl (QR) (QQ) fun K' hK => ?_ | refine Qf ?_ | refine Qj ?_ | refine Qa ?_ | ((first | refine Qi ⟨_, rfl, fun hc => ?_, fun hc => ?_⟩ | refine QY (fun hc => ?_) (fun hc => ?_) | refine QZ (fun hc => ?_) (fun hc => ?_)) <;> first | exact Bool.noConfusion hc | ((try simp only [znz] at hc); first | exact znf | skip)) | refine Qn ?_ | refine Qh ?_ | simp (maxSteps := 1000000) only [go_sem, Nat.reduceAdd, Nat.reduceMul, Nat.reduceEqDiff, Nat.reduceLeDiff, Nat.reduceLT, Nat.reduceSub, Int.reduceEq, Int.reduceBEq, Int.reduceLT, Int.reduceLE, Int.reduceAdd, Int.reduceToNat, reduceIte, reduceCtorEq, c1, Jg] | (refine hK _ ?_; clear hK; clear K') | refine And.intro ?_ ?_ | ((first | apply Q7 | apply JP); (focus first | exact (Jp _).b | exact (Ql _ _ _ _ zsd zsd zsd).b | exact (JH _ _ _ _ _ _ _ zsd zsd zsd zsd zsd).b | exact (Jo _ zsd).b | exact (Jn _ zsd).b | exact (Jm _ zsd).b | exact (Jl _ zsd zsd).b)) | exact zlo | omega | exact zms)
            all_goals first | (refine Q5 _ rfl ?_; simp only [go_sem, Nat.reduceEqDiff, Nat.reduceAdd, reduceIte, reduceCtorEq]; done) | trace_state
        · rw [e3] at g3
          repeat' (first | refine Qe fun K' hK => ?_ | refine Qk fun K' hK => ?_ | refine Qy 16 (fun _ => true) rfl (QR) (QQ) fun K' hK => ?_ | refine Qz 16 (fun _ => true) rfl (QR) (QQ) fun K' hK => ?_ | refine Qf ?_ | refine Qj ?_ | refine Qa ?_ | ((first | refine Qi ⟨_, rfl, fun hc => ?_, fun hc => ?_⟩ | refine QY (fun hc => ?_) (fun hc => ?_) | refine QZ (fun hc => ?_) (fun hc => ?_)) <;> first | exact Bool.noConfusion hc | ((try simp only [znz] at hc); first | exact znf | skip)) | refine Qn ?_ | refine Qh ?_ | simp (maxSteps := 1000000) only [go_sem, Nat.reduceAdd, Nat.reduceMul, Nat.reduceEqDiff, Nat.reduceLeDiff, Nat.reduceLT, Nat.reduceSub, Int.reduceEq, Int.reduceBEq, Int.reduceLT, Int.reduceLE, Int.reduceAdd, Int.reduceToNat, reduceIte, reduceCtorEq, e0', Jg] | (refine hK _ ?_; clear hK; clear K') | refine And.intro ?_ ?_ | ((first | apply Q7 | apply JP); (focus first | exact g1 | exact g2 | exact g3 | exact (Jp _).b | exact (Ql _ _ _ _ zsd zsd zsd).b | exact (JH _ _ _ _ _ _ _ zsd zsd zsd zsd zsd).b | exact (Jo _ zsd).b | exact (Jn _ zsd).b | exact (Jm _ zsd).b | exact (Jl _ zsd zsd).b)) | exact zlo | omega | exact zms)
          all_goals first | (refine Q5 _ rfl ?_; simp only [go_sem, Nat.reduceEqDiff, Nat.reduceAdd, reduceIte, reduceCtorEq]; done) | trace_state
      · rw [e2] at g2
        repeat' (first | refine Qe fun K' hK => ?_ | refine Qk fun K' hK => ?_ | refine Qy 16 (fun _ => true) rfl (QR) (QQ) fun K' hK => ?_ | refine Qz 16 (fun _ => true) rfl (QR) (QQ) fun K' hK => ?_ | refine Qf ?_ | refine Qj ?_ | refine Qa ?_ | ((first | refine Qi ⟨_, rfl, fun hc => ?_, fun hc => ?_⟩ | refine QY (fun hc => ?_) (fun hc => ?_) | refine QZ (fun hc => ?_) (fun hc => ?_)) <;> first | exact Bool.noConfusion hc | ((try simp only [znz] at hc); first | exact znf | skip)) | refine Qn ?_ | refine Qh ?_ | simp (maxSteps := 1000000) only [go_sem, Nat.reduceAdd, Nat.reduceMul, Nat.reduceEqDiff, Nat.reduceLeDiff, Nat.reduceLT, Nat.reduceSub, Int.reduceEq, Int.reduceBEq, Int.reduceLT, Int.reduceLE, Int.reduceAdd, Int.reduceToNat, reduceIte, reduceCtorEq, e0', Jg] | (refine hK _ ?_; clear hK; clear K') | refine And.intro ?_ ?_ | ((first | apply Q7 | apply JP); (focus first | exact g1 | exact g2 | exact (Jp _).b | exact (Ql _ _ _ _ zsd zsd zsd).b | exact (JH _ _ _ _ _ _ _ zsd zsd zsd zsd zsd).b | exact (Jo _ zsd).b | exact (Jn _ zsd).b | exact (Jm _ zsd).b | exact (Jl _ zsd zsd).b)) | exact zlo | omega | exact zms)
        all_goals first | (refine Q5 _ rfl ?_; simp only [go_sem, Nat.reduceEqDiff, Nat.reduceAdd, reduceIte, reduceCtorEq]; done) | trace_state
    · rw [e1] at g1
      repeat' (first | refine Qe fun K' hK => ?_ | refine Qk fun K' hK => ?_ | refine Qy 16 (fun _ => true) rfl (QR) (QQ) fun K' hK => ?_ | refine Qz 16 (fun _ => true) rfl (QR) (QQ) fun K' hK => ?_ | refine Qf ?_ | refine Qj ?_ | refine Qa ?_ | ((first | refine Qi ⟨_, rfl, fun hc => ?_, fun hc => ?_⟩ | refine QY (fun hc => ?_) (fun hc => ?_) | refine QZ (fun hc => ?_) (fun hc => ?_)) <;> first | exact Bool.noConfusion hc | ((try simp only [znz] at hc); first | exact znf | skip)) | refine Qn ?_ | refine Qh ?_ | simp (maxSteps := 1000000) only [go_sem, Nat.reduceAdd, Nat.reduceMul, Nat.reduceEqDiff, Nat.reduceLeDiff, Nat.reduceLT, Nat.reduceSub, Int.reduceEq, Int.reduceBEq, Int.reduceLT, Int.reduceLE, Int.reduceAdd, Int.reduceToNat, reduceIte, reduceCtorEq, e0', Jg] | (refine hK _ ?_; clear hK; clear K') | refine And.intro ?_ ?_ | ((first | apply Q7 | apply JP); (focus first | exact g1 | exact (Jp _).b | exact (Ql _ _ _ _ zsd zsd zsd).b | exact (JH _ _ _ _ _ _ _ zsd zsd zsd zsd zsd).b | exact (Jo _ zsd).b | exact (Jn _ zsd).b | exact (Jm _ zsd).b | exact (Jl _ zsd zsd).b)) | exact zlo | omega | exact zms)
      all_goals first | (refine Q5 _ rfl ?_; simp only [go_sem, Nat.reduceEqDiff, Nat.reduceAdd, reduceIte, reduceCtorEq]; done) | trace_state
  · have e0' : decide ((((l.map QB.v).length : Nat) : Int) > 64) = true := by rw [List.length_map]; exact e0
    repeat' (first | refine Qe fun K' hK => ?_ | refine Qk fun K' hK => ?_ | refine Qy 16 (fun _ => true) rfl (QR) (QQ) fun K' hK => ?_ | refine Qz 16 (fun _ => true) rfl (QR) (QQ) fun K' hK => ?_ | refine Qf ?_ | refine Qj ?_ | refine Qa ?_ | ((first | refine Qi ⟨_, rfl, fun hc => ?_, fun hc => ?_⟩ | refine QY (fun hc => ?_) (fun hc => ?_) | refine QZ (fun hc => ?_) (fun hc => ?_)) <;> first | exact Bool.noConfusion hc | ((try simp only [znz] at hc); first | exact znf | skip)) | refine Qn ?_ | refine Qh ?_ | simp (maxSteps := 1000000) only [go_sem, Nat.reduceAdd, Nat.reduceMul, Nat.reduceEqDiff, Nat.reduceLeDiff, Nat.reduceLT, Nat.reduceSub, Int.reduceEq, Int.reduceBEq, Int.reduceLT, Int.reduceLE, Int.reduceAdd, Int.reduceToNat, reduceIte, reduceCtorEq, e0', Jg] | (refine hK _ ?_; clear hK; clear K') | refine And.intro ?_ ?_ | ((first | apply Q7 | apply JP); (focus first | exact (Jp _).b | exact (Ql _ _ _ _ zsd zsd zsd).b | exact (JH _ _ _ _ _ _ _ zsd zsd zsd zsd zsd).b | exact (Jo _ zsd).b | exact (Jn _ zsd).b | exact (Jm _ zsd).b | exact (Jl _ zsd zsd).b)) | exact zlo | omega | exact zms)
    all_goals first | (refine Q5 _ rfl ?_; simp only [go_sem, Nat.reduceEqDiff, Nat.reduceAdd, reduceIte, reduceCtorEq]; done) | trace_state
end Av
end
section
set_option linter.unusedSimpArgs false
set_option linter.unusedVariables false
set_option maxRecDepth 10000
set_option maxHeartbeats 4000000
namespace Av
open Go
attribute [local irreducible] AWp Y0 Xe Xo awS awC Wo awQ Wp QS JT Wm awR JV awB okR Y6 ris
def UZ (l : List QB) (p : QB) : Bool := p.needs.any fun n => decide (vk l n < 0)
def abc (l : List QB) : List (List UInt8) := (l.filter (UZ l)).map QB.name
def aba (l : List QB) : V := if VO l = 0 then .tup [.sl 1 ((abc l).map V.str), V.int 0] else .tup [.sl 1 [], V.int (VO l)]
theorem xN (l : List QB) : (aba l).closed := by unfold aba; split <;> simp only [V.closed, Qg, and_self]
def X8 (JJ J4 QA : Nat) : AC := QP [1] (.reg [xo 1 (.box false 1 (.t 0)), xo 2 (.mknil 1), mc 3 (V.int 0)]) (QP [1] (QP [1, 4] (.reg [ld 8 1 1, cl 9 JJ [8], mv 4 9]) (QP [1, 4, 11] (.reg [mv 10 4, bc 11 .neq 10 (V.int 0)]) (.cond (.t 11) (QP [2, 3] (.reg [mv 12 4, xo 2 (.mknil 1), mv 3 12]) (.ret)) (.skip)))) (QP [1, 5] (.reg [xo 5 (.mknil 1)]) (QP [5] (QP [1, 5, 13, 14, 15] (.reg [ld 13 1 1, ln 14 13, mc 15 (V.int 0)]) (.block 0 (VC [1, 5, 13, 14, 15] (QP [1, 5, 13, 14, 15, 16] (.reg [bn 16 .lss 15 14]) (QP [1, 5, 13, 14, 15] (.cond (.t 16) (.skip) (.exit 0)) (QP [1, 5, 13, 14, 15] (.block 1 (QP [1, 5, 7, 13, 14, 15] (.reg [ia 17 3 13 15, xo 18 (.load true 3 (.t 17)), xo 7 (.alloc [.val (.string ⟨#[]⟩), .nil 1, .nil 3]), xs 3 7 18]) (QP [1, 5, 7, 13, 14, 15, 22] (.reg [fa 19 2 7, ld 20 1 19, xo 21 (.mkfn J4 [(.t 1)]), cl 22 QA [20, 21]]) (.cond (.t 22) (.reg [mv 23 5, fa 24 0 7, ld 25 1 24, xo 26 (.bslice 1 1 false [(.string ⟨#[]⟩)] [(0, (.t 25))]), xo 27 (.append 1 16 [(.string ⟨#[]⟩)] (.t 23) (.t 26)), mv 5 27]) (.skip))))) (.reg [bc 28 .add 15 (V.int 1), mv 15 28]))))))) (QP [2, 3] (.reg [mv 29 5, mv 2 29, mc 3 (V.int 0)]) (.ret))))) def r_packages_Missing : List Xq := [.tmp 2, .tmp 3]
def XN (Γ : Env) (f : Nat) : Prop := ∀ (l : List QB) (hl : PSz l), EvC Γ f [.sl 3 (l.map QB.v)] (aba l)
theorem Kx {Γ : Env} {f JJ J4 QA : Nat} (h : Has Γ.P f 30 (X8 JJ J4 QA) r_packages_Missing) (QO : Xm Γ JJ) (JR : Xd Γ J4) (Qu : Je Γ QA) : XN Γ f := by
  intro l hl
  refine jX h (by simp) (xN _) fun C hC hm => ?_
  subst hC
  unfold X8
  have gc := (QO l hl).b
  have hlen := hl.1
  unfold aba
  by_cases hc0 : VO l = 0
  · have h64 : l.length ≤ 64 := by
      rcases Nat.lt_or_ge 64 l.length with h | h
      · have e : decide ((l.length : Int) > 64) = true := decide_eq_true (by omega)
        rw [VO, e, Bool.true_or, if_pos rfl] at hc0
        exact absurd hc0 (by decide)
      · exact h
    rw [hc0] at gc
    rw [if_pos hc0]
    repeat' (first | refine Qe fun K' hK => ?_ | refine Qk fun K' hK => ?_ | refine Qf ?_ | refine Qj ?_ | refine Qa ?_ | ((first | refine Qi ⟨_, rfl, fun hc => ?_, fun hc => ?_⟩ | refine QY (fun hc => ?_) (fun hc => ?_) | refine QZ (fun hc => ?_) (fun hc => ?_)) <;> first | exact Bool.noConfusion hc | ((try simp only [znz] at hc); first | exact znf | skip)) | refine Qn ?_ | refine Qh ?_ | simp (maxSteps := 1000000) only [go_sem, Nat.reduceAdd, Nat.reduceMul, Nat.reduceEqDiff, Nat.reduceLeDiff, Nat.reduceLT, Nat.reduceSub, Int.reduceEq, Int.reduceBEq, Int.reduceLT, Int.reduceLE, Int.reduceAdd, Int.reduceToNat, reduceIte, reduceCtorEq] | (refine hK _ ?_; clear hK; clear K') | refine And.intro ?_ ?_ | (apply Q7; (focus first | exact gc | exact (QO _ zsd).b | exact (JR _ _ zsd zsd).b | exact (Qu _ _ _ _ zsd zsd zsd).b)) | exact zlo | omega | exact zms)
    refine Wf (ι := Nat) (fun k => k ≤ l.length) (fun k => q8 [(1, .ptr 0 0), (5, .hd 1 0 (((l.take k).filter (UZ l)).map QB.name).length), (13, .sl 3 (l.map QB.v)), (14, V.int (l.map QB.v).length), (15, V.int k)] [(0, .box true [.sl 3 (l.map QB.v)]), (1, .buf true 1 ((((l.take k).filter (UZ l)).map QB.name).map V.str))] 2) (fun k => l.length - k) 0 (by omega) (Ja [(1, 8000)]) (Us [(1, 8000)] (by simp only [go_sem, Nat.reduceAdd, Nat.reduceMul, Nat.reduceEqDiff, Nat.reduceLT, Int.reduceToNat, reduceIte, reduceCtorEq, and_true, true_and, implies_true, Option.some.injEq, exists_eq_left', QJ, QU]; (repeat' (first | rfl | refine And.intro ?_ ?_ | omega | exact fun h => h | exact Exists.intro _ rfl))) (by simp only [go_sem, Nat.reduceAdd, Nat.reduceMul, Nat.reduceEqDiff, Nat.reduceLT, Int.reduceToNat, reduceIte, reduceCtorEq, and_true, true_and, implies_true, Option.some.injEq, exists_eq_left', QJ, QU]; (repeat' (first | rfl | refine And.intro ?_ ?_ | omega | exact fun h => h | exact Exists.intro _ rfl))) (by simp [Ja]) (by simp; omega) (by omega)) fun k hk K' hL => ?_
    rcases hd : l.drop k with _ | ⟨p, r⟩
    · have hkl := Vt hd
      have e1 : decide ((k : Int) < (((l.map QB.v).length : Nat) : Int)) = false := by simp; omega
      have e3 : l.take k = l := List.take_of_length_le hkl
      rw [e3]
      repeat' (first | refine Qe fun K' hK => ?_ | refine Qk fun K' hK => ?_ | refine Qf ?_ | refine Qj ?_ | refine Qa ?_ | ((first | refine Qi ⟨_, rfl, fun hc => ?_, fun hc => ?_⟩ | refine QY (fun hc => ?_) (fun hc => ?_) | refine QZ (fun hc => ?_) (fun hc => ?_)) <;> first | exact Bool.noConfusion hc | ((try simp only [znz] at hc); first | exact znf | skip)) | refine Qn ?_ | refine Qh ?_ | simp (maxSteps := 1000000) only [go_sem, Nat.reduceAdd, Nat.reduceMul, Nat.reduceEqDiff, Nat.reduceLeDiff, Nat.reduceLT, Nat.reduceSub, Int.reduceEq, Int.reduceBEq, Int.reduceLT, Int.reduceLE, Int.reduceAdd, Int.reduceToNat, reduceIte, reduceCtorEq, q8, e1, WM] | (refine hK _ ?_; clear hK; clear K') | refine And.intro ?_ ?_ | (apply Q7; (focus first | exact (QO _ zsd).b | exact (JR _ _ zsd zsd).b | exact (Qu _ _ _ _ zsd zsd zsd).b)) | exact zlo | omega | exact zms)
      all_goals first | (refine Q5 _ rfl ?_; simp only [go_sem, Nat.reduceEqDiff, Nat.reduceAdd, reduceIte, reduceCtorEq]; rw [WM]; first | done | rfl | exact ⟨_, _, rfl⟩) | trace_state
    · obtain ⟨hk', hget, hr⟩ := WK hd
      have hw := Yg (k := k) (by omega)
      have e1 : decide ((k : Int) < (((l.map QB.v).length : Nat) : Int)) = true := by simp; omega
      have hp := hl.2 p (List.mem_of_getElem? hget)
      have g1 := (Qu p.needs J4 [.ro [.sl 3 (l.map QB.v)] 0] (fun n => decide (vk l n < 0)) (fun n hn => JR n l hl (hp.2.2.2 n hn)) (by simp [Qg, V.closed]) hp.2.2.1).b
      have d1 : (p.needs.any fun n => decide (vk l n < 0)) = UZ l p := rfl
      rw [d1] at g1
      have hnl : (((l.take k).filter (UZ l)).map QB.name).length ≤ k := by
        rw [List.length_map]
        exact Nat.le_trans (List.length_filter_le _ _) (by simp; omega)
      have htk : (l.take (k + 1)).filter (UZ l) = (l.take k).filter (UZ l) ++ (if UZ l p = true then [p] else []) := by
        rw [List.take_add_one, hget, List.filter_append]; simp only [Option.toList, List.filter_cons, List.filter_nil]
      rcases hb : UZ l p with _ | _
      · rw [hb] at g1 htk
        simp only [Bool.false_eq_true, if_false, List.append_nil] at htk
        repeat' (first | refine Qe fun K' hK => ?_ | refine Qk fun K' hK => ?_ | refine Qf ?_ | refine Qj ?_ | refine Qa ?_ | ((first | refine Qi ⟨_, rfl, fun hc => ?_, fun hc => ?_⟩ | refine QY (fun hc => ?_) (fun hc => ?_) | refine QZ (fun hc => ?_) (fun hc => ?_)) <;> first | exact Bool.noConfusion hc | ((try simp only [znz] at hc); first | exact znf | skip)) | refine Qn ?_ | refine Qh ?_ | simp (maxSteps := 1000000) only [go_sem, Nat.reduceAdd, Nat.reduceMul, Nat.reduceEqDiff, Nat.reduceLeDiff, Nat.reduceLT, Nat.reduceSub, Int.reduceEq, Int.reduceBEq, Int.reduceLT, Int.reduceLE, Int.reduceAdd, Int.reduceToNat, reduceIte, reduceCtorEq, q8, e1, hw, Int.toNat_natCast, List.getElem?_map, hget, QB.v, QB.cells] | (refine hK _ ?_; clear hK; clear K') | refine And.intro ?_ ?_ | (apply Q7; (focus first | exact g1 | exact (QO _ zsd).b | exact (JR _ _ zsd zsd).b | exact (Qu _ _ _ _ zsd zsd zsd).b)) | exact zlo | omega | exact zms)
        refine hL _ (k + 1) (Ja []) (by omega) (by omega) ?_
        rw [htk]
        exact Us [] (by simp only [go_sem, Nat.reduceAdd, Nat.reduceMul, Nat.reduceEqDiff, Nat.reduceLT, Int.reduceToNat, reduceIte, reduceCtorEq, and_true, true_and, implies_true, Option.some.injEq, exists_eq_left', QJ, QU]; (repeat' (first | rfl | refine And.intro ?_ ?_ | omega | exact fun h => h | exact Exists.intro _ rfl))) (by simp only [go_sem, Nat.reduceAdd, Nat.reduceMul, Nat.reduceEqDiff, Nat.reduceLT, Int.reduceToNat, reduceIte, reduceCtorEq, and_true, true_and, implies_true, Option.some.injEq, exists_eq_left', QJ, QU]; (repeat' (first | rfl | refine And.intro ?_ ?_ | omega | exact fun h => h | exact Exists.intro _ rfl))) (by simp [Ja]) (by first | (simp [Ja]; done) | (simp [Ja]; omega)) (by omega)
      · rw [hb] at g1 htk
        simp only [if_true] at htk
        have hns : ((l.take (k + 1)).filter (UZ l)).map QB.name = ((l.take k).filter (UZ l)).map QB.name ++ [p.name] := by rw [htk, List.map_append]; rfl
        generalize ((l.take k).filter (UZ l)).map QB.name = ns at *
        have hbb : List.map V.str ns ++ [V.str p.name] = (ns ++ [p.name]).map V.str := by rw [List.map_append]; rfl
        have hln : ns.length + 1 = (ns ++ [p.name]).length := by simp
        repeat' (first | refine Qe fun K' hK => ?_ | refine Qk fun K' hK => ?_ | refine Qf ?_ | refine Qj ?_ | refine Qa ?_ | ((first | refine Qi ⟨_, rfl, fun hc => ?_, fun hc => ?_⟩ | refine QY (fun hc => ?_) (fun hc => ?_) | refine QZ (fun hc => ?_) (fun hc => ?_)) <;> first | exact Bool.noConfusion hc | ((try simp only [znz] at hc); first | exact znf | skip)) | refine Qn ?_ | refine Qh ?_ | simp (maxSteps := 1000000) only [go_sem, Nat.reduceAdd, Nat.reduceMul, Nat.reduceEqDiff, Nat.reduceLeDiff, Nat.reduceLT, Nat.reduceSub, Int.reduceEq, Int.reduceBEq, Int.reduceLT, Int.reduceLE, Int.reduceAdd, Int.reduceToNat, reduceIte, reduceCtorEq, q8, e1, hw, Int.toNat_natCast, List.getElem?_map, hget, QB.v, QB.cells, WM, hbb, hln] | (refine hK _ ?_; clear hK; clear K') | refine And.intro ?_ ?_ | (apply Q7; (focus first | exact g1 | exact (QO _ zsd).b | exact (JR _ _ zsd zsd).b | exact (Qu _ _ _ _ zsd zsd zsd).b)) | exact zlo | omega | exact zms)
        all_goals first
          | (refine hL _ (k + 1) (Ja [(1, 13002)]) (by omega) (by omega) ?_
             rw [hns]
             exact Us [(1, 13002)] (by simp only [go_sem, Nat.reduceAdd, Nat.reduceMul, Nat.reduceEqDiff, Nat.reduceLT, Int.reduceToNat, reduceIte, reduceCtorEq, and_true, true_and, implies_true, Option.some.injEq, exists_eq_left', QJ, QU]; (repeat' (first | rfl | refine And.intro ?_ ?_ | omega | exact fun h => h | exact Exists.intro _ rfl))) (by simp only [go_sem, Nat.reduceAdd, Nat.reduceMul, Nat.reduceEqDiff, Nat.reduceLT, Int.reduceToNat, reduceIte, reduceCtorEq, and_true, true_and, implies_true, Option.some.injEq, exists_eq_left', QJ, QU]; (repeat' (first | rfl | refine And.intro ?_ ?_ | omega | exact fun h => h | exact Exists.intro _ rfl))) (by simp [Ja]) (by simp; omega) (by omega))
          | (simp only [List.length_append, List.length_singleton]; omega)
          | trace_state
  · have e2 : (VO l != 0) = true := by simpa using hc0
    rw [if_neg hc0]
    repeat' (first | refine Qe fun K' hK => ?_ | refine Qk fun K' hK => ?_ | refine Qf ?_ | refine Qj ?_ | refine Qa ?_ | ((first | refine Qi ⟨_, rfl, fun hc => ?_, fun hc => ?_⟩ | refine QY (fun hc => ?_) (fun hc => ?_) | refine QZ (fun hc => ?_) (fun hc => ?_)) <;> first | exact Bool.noConfusion hc | ((try simp only [znz] at hc); first | exact znf | skip)) | refine Qn ?_ | refine Qh ?_ | simp (maxSteps := 1000000) only [go_sem, Nat.reduceAdd, Nat.reduceMul, Nat.reduceEqDiff, Nat.reduceLeDiff, Nat.reduceLT, Nat.reduceSub, Int.reduceEq, Int.reduceBEq, Int.reduceLT, Int.reduceLE, Int.reduceAdd, Int.reduceToNat, reduceIte, reduceCtorEq, e2] | (refine hK _ ?_; clear hK; clear K') | refine And.intro ?_ ?_ | (apply Q7; (focus first | exact gc | exact (QO _ zsd).b | exact (JR _ _ zsd zsd).b | exact (Qu _ _ _ _ zsd zsd zsd).b)) | exact zlo | omega | exact zms)
    all_goals first | (refine Q5 _ rfl ?_; simp only [go_sem, Nat.reduceEqDiff, Nat.reduceAdd, reduceIte, reduceCtorEq]; first | done | rfl | exact ⟨_, _, rfl⟩) | trace_state
end Av
end
section
set_option linter.unusedSimpArgs false
set_option linter.unusedVariables false
set_option maxRecDepth 10000
set_option maxHeartbeats 4000000
namespace Av
open Go
attribute [local irreducible] AWp Y0 Xe Xo awS awC Wo awQ Wp QS JT Wm awR JV awB okR Y6 ris
def UI : AC := QP [0, 1] (.reg [mc 4 (V.bool false)]) (QP [] (QP [0, 1, 5] (.reg [mc 5 (V.int 0)]) (.block 0 (VC [0, 1, 5] (QP [0, 1, 5] (QP [0, 1, 5, 9] (.reg [mv 6 5, mv 7 0, ln 8 7, bn 9 .lss 6 8]) (.cond (.t 9) (.skip) (.exit 0))) (QP [0, 1, 5] (.block 1 (QP [0, 1, 5, 17] (.reg [mv 12 0, mv 13 5, ia 14 1 12 13, ld 15 1 14, mv 16 1, bn 17 .eql 15 16]) (.cond (.t 17) (QP [4] (.reg [mc 4 (V.bool true)]) (.ret)) (.skip)))) (.reg [mv 10 5, bc 11 .add 10 (V.int 1), mv 5 11])))))) (QP [4] (.reg [mc 4 (V.bool false)]) (.ret))) def r_law12_text : List Xq := [.tmp 4]
def Ue (Γ : Env) (f : Nat) : Prop := ∀ (l : List (List UInt8)) (s : List UInt8) (hl : l.length < 2 ^ 62), EvN Γ f [.sl 1 (l.map V.str), V.str s] (V.bool (l.contains s))
theorem xm {Γ : Env} {f : Nat} (h : Has Γ.P f 18 UI r_law12_text)  : Ue Γ f := by
  intro l s hl
  refine Q1 h (by simp) (by simp only [V.closed, Qg, V.noSl, Jw, and_self, and_true, true_and]) (by simp only [V.closed, Qg, V.noSl, Jw, and_self, and_true, true_and]) fun C hC hm => ?_
  subst hC
  unfold UI
  repeat' (first | refine Qe fun K' hK => ?_ | refine Qk fun K' hK => ?_ | refine Qf ?_ | refine Qj ?_ | refine Qa ?_ | ((first | refine Qi ⟨_, rfl, fun hc => ?_, fun hc => ?_⟩ | refine QY (fun hc => ?_) (fun hc => ?_) | refine QZ (fun hc => ?_) (fun hc => ?_)) <;> first | exact Bool.noConfusion hc | ((try simp only [znz] at hc); first | exact znf | skip)) | refine Qn ?_ | refine Qh ?_ | simp (maxSteps := 1000000) only [go_sem, Nat.reduceAdd, Nat.reduceMul, Nat.reduceEqDiff, Nat.reduceLeDiff, Nat.reduceLT, Nat.reduceSub, Int.reduceEq, Int.reduceBEq, Int.reduceLT, Int.reduceLE, Int.reduceAdd, Int.reduceToNat, reduceIte, reduceCtorEq] | (refine hK _ ?_; clear hK; clear K') | refine And.intro ?_ ?_ | exact zlo | omega | exact zms)
  refine Wg (ι := Nat) (fun k => k ≤ l.length ∧ (l.drop k).contains s = l.contains s) (fun k => [(5, V.int k)]) (fun k => l.length - k) 0 (by omega) ⟨by simp, by simp⟩ (by repeat' first | exact WY | refine VZ (by omega) (by simp only [Ob.lt, ltL, V.lt, and_self, and_true]; try omega) ?_) (fun i hi => by simp only [ovT, YL, Nat.reduceEqDiff, reduceIte]; (repeat' first | exact VY | refine WX ?_ ?_ | simp only [V.lt, ltL, and_self, and_true] | omega)) (by simp only [Nat.reduceAdd, ovT, YL, Nat.reduceEqDiff, reduceIte, J7, YP, yz, u32, u33, u34, u35, u36, u37, u38, u39, and_self, and_true, true_and]; first | done | rfl) fun k hk K' hL => ?_
  obtain ⟨hk, hinv⟩ := hk
  simp only [ovT, YL, Nat.reduceEqDiff, reduceIte]
  rcases hd : l.drop k with _ | ⟨y, r⟩
  · have := Vt hd
    rw [hd] at hinv
    have e1 : decide ((k : Int) < (((l.map V.str).length : Nat) : Int)) = false := by simp; omega
    rw [← hinv]
    repeat' (first | refine Qe fun K' hK => ?_ | refine Qk fun K' hK => ?_ | refine Qf ?_ | refine Qj ?_ | refine Qa ?_ | ((first | refine Qi ⟨_, rfl, fun hc => ?_, fun hc => ?_⟩ | refine QY (fun hc => ?_) (fun hc => ?_) | refine QZ (fun hc => ?_) (fun hc => ?_)) <;> first | exact Bool.noConfusion hc | ((try simp only [znz] at hc); first | exact znf | skip)) | refine Qn ?_ | refine Qh ?_ | simp (maxSteps := 1000000) only [go_sem, Nat.reduceAdd, Nat.reduceMul, Nat.reduceEqDiff, Nat.reduceLeDiff, Nat.reduceLT, Nat.reduceSub, Int.reduceEq, Int.reduceBEq, Int.reduceLT, Int.reduceLE, Int.reduceAdd, Int.reduceToNat, reduceIte, reduceCtorEq, e1] | (refine hK _ ?_; clear hK; clear K') | refine And.intro ?_ ?_ | exact zlo | omega | exact zms)
    all_goals first | (refine Q5 _ rfl ?_; simp only [go_sem, Nat.reduceEqDiff, Nat.reduceAdd, reduceIte, reduceCtorEq]; done) | (refine Q5 _ rfl ?_; simp only [go_sem, Nat.reduceEqDiff, Nat.reduceAdd, reduceIte, reduceCtorEq]; simp; done) | trace_state
  · obtain ⟨hk', hget, hr⟩ := WK hd
    rw [hd] at hinv
    have hw := Yg (k := k) (by omega)
    have e1 : decide ((k : Int) < (((l.map V.str).length : Nat) : Int)) = true := by simp; omega
    rcases hy : y == s with _ | _
    · have h2 : (s == y) = false := by rw [BEq.comm]; exact hy
      repeat' (first | refine Qe fun K' hK => ?_ | refine Qk fun K' hK => ?_ | refine Qf ?_ | refine Qj ?_ | refine Qa ?_ | ((first | refine Qi ⟨_, rfl, fun hc => ?_, fun hc => ?_⟩ | refine QY (fun hc => ?_) (fun hc => ?_) | refine QZ (fun hc => ?_) (fun hc => ?_)) <;> first | exact Bool.noConfusion hc | ((try simp only [znz] at hc); first | exact znf | skip)) | refine Qn ?_ | refine Qh ?_ | simp (maxSteps := 1000000) only [go_sem, Nat.reduceAdd, Nat.reduceMul, Nat.reduceEqDiff, Nat.reduceLeDiff, Nat.reduceLT, Nat.reduceSub, Int.reduceEq, Int.reduceBEq, Int.reduceLT, Int.reduceLE, Int.reduceAdd, Int.reduceToNat, reduceIte, reduceCtorEq, e1, hw, hy, Int.toNat_natCast, List.getElem?_map, hget] | (refine hK _ ?_; clear hK; clear K') | refine And.intro ?_ ?_ | exact zlo | omega | exact zms)
      all_goals first
        | exact hL _ (k + 1) (by simp only [Nat.reduceAdd, ovT, YL, Nat.reduceEqDiff, reduceIte, J7, YP, yz, u32, u33, u34, u35, u36, u37, u38, u39, and_self, and_true, true_and]) ⟨by omega, by rw [hr, ← hinv, List.contains_cons, h2, Bool.false_or]⟩ (by omega) (fun a ha => by simp only [u32, u33, u34, u35, u36, u37, u38, u39]; repeat rw [if_neg (by omega)])
        | trace_state
    · have h2 : (s == y) = true := by rw [BEq.comm]; exact hy
      rw [← hinv, List.contains_cons, h2, Bool.true_or]
      repeat' (first | refine Qe fun K' hK => ?_ | refine Qk fun K' hK => ?_ | refine Qf ?_ | refine Qj ?_ | refine Qa ?_ | ((first | refine Qi ⟨_, rfl, fun hc => ?_, fun hc => ?_⟩ | refine QY (fun hc => ?_) (fun hc => ?_) | refine QZ (fun hc => ?_) (fun hc => ?_)) <;> first | exact Bool.noConfusion hc | ((try simp only [znz] at hc); first | exact znf | skip)) | refine Qn ?_ | refine Qh ?_ | simp (maxSteps := 1000000) only [go_sem, Nat.reduceAdd, Nat.reduceMul, Nat.reduceEqDiff, Nat.reduceLeDiff, Nat.reduceLT, Nat.reduceSub, Int.reduceEq, Int.reduceBEq, Int.reduceLT, Int.reduceLE, Int.reduceAdd, Int.reduceToNat, reduceIte, reduceCtorEq, e1, hw, hy, Int.toNat_natCast, List.getElem?_map, hget] | (refine hK _ ?_; clear hK; clear K') | refine And.intro ?_ ?_ | exact zlo | omega | exact zms)
      all_goals first | (refine Q5 _ rfl ?_; simp only [go_sem, Nat.reduceEqDiff, Nat.reduceAdd, reduceIte, reduceCtorEq]; done) | trace_state
def KI (n : Js) : Js := { n with lo := [], up := [] }
def KH (p : QB) : QB := { p with needs := p.needs.map KI }
theorem abm (l : List QB) (n : List UInt8) : decide (KZ l n ≥ 0) = l.any fun p => p.name == n := ju _ l 0
theorem abd (l : List QB) (n : Js) (h1 : n.lo = []) (h2 : n.up = []) : decide (vk l n < 0) = !(l.any fun p => p.name == n.name) := by
  rw [← abm]
  by_cases h0 : 0 ≤ KZ l n.name
  · obtain ⟨j, x, e1, hget, _⟩ := wJ (fun p : QB => p.name == n.name) l 0 h0
    have e1 : KZ l n.name = (j : Int) := by rw [KZ, e1]; simp
    have hm : vk l n = (j : Int) := by
      unfold vk; rw [e1, Int.toNat_natCast, hget, h1, h2]; simp [inV]
    rw [hm, e1]; simp
  · have e1 : decide (KZ l n.name ≥ 0) = false := by simp; omega
    have hm : vk l n = -1 := by
      unfold vk; split
      · rw [e1]; rfl
      · rfl
    rw [hm, e1]; rfl
end Av
end
section
set_option linter.unusedSimpArgs false
set_option linter.unusedVariables false
set_option maxRecDepth 10000
set_option maxHeartbeats 4000000
namespace Av
open Go
attribute [local irreducible] AWp Y0 Xe Xo awS awC Wo awQ Wp QS JT Wm awR JV awB okR Y6 ris
theorem vl : ∀ a : List UInt8, Op.bytesLess a a = false
  | [] => rfl
  | c :: r => by
    rw [Op.bytesLess, vl r]
    simp
theorem yO : ∀ a b c : List UInt8, Op.bytesLess a b = true → Op.bytesLess b c = true → Op.bytesLess a c = true
  | _, [], _, h, _ => by simp [Op.bytesLess] at h
  | _, _ :: _, [], _, h => by simp [Op.bytesLess] at h
  | [], _ :: _, _ :: _, _, _ => rfl
  | x :: a, y :: b, z :: c, h1, h2 => by
    have ih := yO a b c
    simp only [Op.bytesLess, Bool.or_eq_true, Bool.and_eq_true, decide_eq_true_eq, beq_iff_eq] at h1 h2 ⊢
    rcases h1 with h1 | ⟨rfl, h1⟩
    · rcases h2 with h2 | ⟨rfl, h2⟩
      · exact .inl (UInt8.lt_trans h1 h2)
      · exact .inl h1
    · rcases h2 with h2 | ⟨rfl, h2⟩
      · exact .inl h2
      · exact .inr ⟨rfl, ih h1 h2⟩
theorem xy : ∀ (l : List QB) (a : QB), J5 (a :: l) = false → ∀ p ∈ l, Op.bytesLess a.name p.name = true
  | [], _, _, p, hp => by cases hp
  | b :: l, a, h, p, hp => by
    simp only [J5, Bool.or_eq_false_iff, Bool.not_eq_false'] at h
    rcases List.mem_cons.1 hp with rfl | hp
    · exact h.1
    · exact yO _ _ _ h.1 (xy l b h.2 p hp)
theorem ww {a : QB} {l : List QB} (h : J5 (a :: l) = false) : J5 l = false := by
  cases l with
  | nil => rfl
  | cons b r => simp only [J5, Bool.or_eq_false_iff] at h; exact h.2
theorem yx : ∀ (l : List QB), J5 l = false → ∀ p ∈ l, ∀ q ∈ l, p.name = q.name → p = q
  | [], _, p, hp, _, _, _ => by cases hp
  | a :: l, h, p, hp, q, hq, e => by
    have hlt := xy l a h
    have ih := yx l (ww h)
    have ne : ∀ x ∈ l, a.name ≠ x.name := fun x hx e => by
      have h1 := hlt x hx
      rw [e, vl] at h1; cases h1
    rcases List.mem_cons.1 hp with h1 | h1 <;> rcases List.mem_cons.1 hq with h2 | h2
    · rw [h1, h2]
    · rw [h1] at e; exact absurd e (ne q h2)
    · rw [h2] at e; exact absurd e.symm (ne p h1)
    · exact ih p h1 q h2 e
theorem abb {l : List QB} (h : J5 l = false) {p : QB} (hp : p ∈ l) : (abc l).contains p.name = UZ l p := by
  rcases hk : UZ l p with _ | _
  · rw [← Bool.not_eq_true, List.contains_iff_mem]
    intro hm
    obtain ⟨q, hq, e⟩ := List.mem_map.1 hm
    obtain ⟨hq1, hq2⟩ := List.mem_filter.1 hq
    rw [yx l h p hp q hq1 e.symm, hq2] at hk; cases hk
  · rw [List.contains_iff_mem]
    exact List.mem_map.2 ⟨p, List.mem_filter.2 ⟨hp, hk⟩, rfl⟩
theorem abj {l : List QB} {p : QB} (h : ∀ n ∈ p.needs, n.lo = [] ∧ n.up = []) : UZ l p = !(p.needs.all fun n => l.any fun q => q.name == n.name) := by
  unfold UZ
  generalize p.needs = ns at h
  induction ns with
  | nil => rfl
  | cons n r ih =>
    have hn := h n (by simp)
    rw [List.any_cons, List.all_cons, abd l n hn.1 hn.2, ih (fun m hm => h m (by simp [hm])), Bool.not_and]
theorem VQ : ∀ l : List QB, J5 (l.map KH) = J5 l
  | [] => rfl
  | [_] => rfl
  | a :: b :: r => by
    have ih := VQ (b :: r)
    simp only [List.map_cons] at ih
    simp only [List.map_cons, J5]
    rw [ih]; rfl
theorem aao {l : List QB} (h : VO l = 0) : VO (l.map KH) = 0 ∧ J5 l = false := by
  unfold VO at h
  split at h
  · exact absurd h (by decide)
  · rename_i h1
    split at h
    · exact absurd h (by decide)
    · rename_i h2
      split at h
      · exact absurd h (by decide)
      · rename_i h3
        split at h
        · exact absurd h (by decide)
        · rename_i h4
          have h4 : J5 l = false := by simpa using h4
          refine ⟨?_, h4⟩
          have e1 : (l.map KH).any aab = l.any aab := by
            rw [List.any_map]; congr 1; funext p; simp [aab, KH]
          have e2 : (l.map KH).any adD = l.any adD := by
            rw [List.any_map]; congr 1; funext p; simp only [Function.comp, adD, KH, List.any_map]; rfl
          have e3 : (l.map KH).any acK = false := by
            rw [List.any_map, List.any_eq_false]
            intro p hp
            have hm : acK p = false := by
              have h3 : l.any acK = false := by simpa using h3
              exact Bool.eq_false_iff.2 (List.any_eq_false.1 h3 p hp)
            simp only [acK, Bool.or_eq_false_iff] at hm
            simp only [Function.comp, acK, KH, List.any_map, hm.1, Bool.false_or]
            simp [KI, VT, List.any_eq_true]
          unfold VO
          rw [List.length_map, e1, e2, e3, VQ, if_neg h1, if_neg h2, h4]
          rfl
end Av
end
section
namespace Av
open Go
section
variable {Γ : Env} {b : Nat} {r : List AO} {s : St} {d : Option Nat} {f g : FuncId} {acts args : List V} {okf : Option (List Nat) → Prop} {res x : V} {K : St → Prop} {cs cs2 ds ds2 : List V} {a e off : Nat}
end
section
variable {Γ : Env} {b : Nat} {r : List AO} {s : St} {d : Option Nat} {f : FuncId} {acts args : List V} {okf : Option (List Nat) → Prop} {res : V} {K : St → Prop} {xs ys : List V} {a p n sz : Nat}
end
end Av
end
section
namespace Av
open Go
section
variable {Γ : Env} {A W : Nat → Bool} {b : Nat} {r : List AO} {s : St} {d : Option Nat} {f : FuncId} {args : List V} {okf : Option (List Nat) → Prop} {J K : St → Prop} {a p n : Nat} {l t : List UInt8}
end
end Av
end
section
namespace Av
open Go
theorem Ev.shut {Γ : Env} {f : FuncId} {args : List V} {ins : List Ob} {res res2 : V} {outs outs2 : List Ob} {br : List Nat} {B : Option (List Nat)} (h : Ev Γ f args ins res outs)
    (hc : conv (fun k => outs[k]?) br B res res2) (hl : abP (fun k => outs[k]?) br B br outs2) (hn : br.Nodup) (hf : br.take ins.length = List.range ins.length) : Ev Γ f args ins res2 outs2 := by
  intro C cargs hP hm hmu hg hF hsz hrep
  refine (h C cargs hP hm hmu hg hF hsz hrep).mono ?_
  rintro e w' ⟨v, Z', μ', rfl, hr, hg', hmu'⟩
  obtain ⟨g2, h2, _⟩ := hg'.close hn hl (by rw [hm]; exact hf)
  exact ⟨v, _, _, rfl, WG hg' br B _ _ _ _ (Nat.le_refl _) hr hc, g2, h2⟩
structure EvO (Γ : Env) (f : FuncId) (args cs : List V) (s1 s2 : Nat) (xs ys cs2 : List V) : Prop where
  ev : Ev Γ f (.ptr 0 0 :: args) [.box true cs] (.agg [.hd 1 0 xs.length, .hd 2 0 ys.length]) [.box true cs2, .buf true s1 xs, .buf true s2 ys]
  c1 : Qg cs
  c2 : Qg cs2
  ca : Qg args
theorem EvO.d {Γ : Env} {f : FuncId} {args cs : List V} {s1 s2 : Nat} {xs ys cs2 : List V} (h : EvO Γ f args cs s1 s2 xs ys cs2) : EvD Γ f args cs (.agg [.sl s1 xs, .sl s2 ys]) cs2 := by
  refine ⟨h.ev.shut (br := [0]) (B := none) ?_ ⟨⟨_, rfl, fun h => h, Ju _ _ _ _ h.c2⟩, trivial⟩ (by simp) rfl, ?_, h.c1, h.c2⟩
  · simp [conv, JL, okB]
  · simp only [V.closed, Qg, and_self]
section
variable {Γ : Env} {b : Nat} {r : List AO} {s : St} {d : Option Nat} {f : FuncId} {args acts : List V} {cs cs2 xs ys : List V} {s1 s2 : Nat} {K : St → Prop} {okf : Option (List Nat) → Prop} {a : Nat}
end
end Av
end
section
namespace Av
open Go
def abI (fix : List (Nat × Ob)) (N : Nat) (arr : List Ob) : Nat → Option Ob := fun a => if a < N then yh fix a else arr[a - N]?
theorem Yy {fix : List (Nat × Ob)} {N : Nat} {arr : List Ob} {a : Nat} (h : a < N) : abI fix N arr a = yh fix a := if_pos h
theorem JK {fix : List (Nat × Ob)} {N : Nat} {arr : List Ob} {i : Nat} : abI fix N arr (N + i) = arr[i]? := by
  unfold abI
  rw [if_neg (by omega), Nat.add_sub_cancel_left]
abbrev XZ (ts : List (Nat × V)) (fix : List (Nat × Ob)) (N : Nat) (arr : List Ob) (n : Nat) : St := { t := Vm ts, o := abI fix N arr, n := n }
theorem XW {m n N : Nat} {s : St} (tau : List (Nat × Nat)) {ts : List (Nat × V)} {fix : List (Nat × Ob)} {arr : List Ob}
    (ht : ∀ p ∈ ts, s.t p.1 = p.2.ren (Ja tau) ∧ p.2.lt n)
    (ho : ∀ p ∈ fix, ∃ x, s.o (Ja tau p.1) = some x ∧ x.weak (Ja tau) n p.2)
    (ha : ∀ i (h : i < arr.length), ∃ x, s.o (Ja tau (N + i)) = some x ∧ x.weak (Ja tau) n arr[i])
    (hN : N ≤ n) (hl : N + arr.length ≤ n)
    (hi : ∀ a b, a < n → b < n → Ja tau a = Ja tau b → a = b) (hf : ∀ p ∈ tau, m ≤ p.1) (hm : m ≤ n) : vH m (Ja tau) s (XZ ts fix N arr n) := by
  have keep : ∀ (l : List (Nat × Nat)), (∀ p ∈ l, m ≤ p.1) → ∀ k, k < m → Ja l k = k := by
    intro l
    induction l with
    | nil => intro _ k _; rfl
    | cons p l ih =>
      intro hl k hk
      have := hl p (by simp)
      simp only [Ja]
      rw [if_neg (by omega)]
      exact ih (fun q hq => hl q (by simp [hq])) k hk
  have lt : ∀ a y, abI fix N arr a = some y → a < n := by
    intro a y h
    unfold abI at h
    split at h
    · omega
    · obtain ⟨h1, _⟩ := List.getElem?_eq_some_iff.1 h
      omega
  refine ⟨fun i => ?_, fun a y h => ⟨lt a y h, ?_⟩, fun a b ha' hb hab => ?_, keep tau hf, hm⟩
  · rcases Uy ts i with h | h
    · exact .inl h
    · exact .inr (ht _ h)
  · have h : abI fix N arr a = some y := h
    unfold abI at h
    split at h
    · exact ho _ (Uz fix a y h)
    · obtain ⟨h1, rfl⟩ := List.getElem?_eq_some_iff.1 h
      have := ha (a - N) h1
      rwa [show N + (a - N) = a by omega] at this
  · obtain ⟨x, hx⟩ := Option.ne_none_iff_exists'.1 ha'
    obtain ⟨y, hy⟩ := Option.ne_none_iff_exists'.1 hb
    exact hi a b (lt a x hx) (lt b y hy) hab
end Av
end
section
set_option linter.unusedSimpArgs false
set_option linter.unusedVariables false
set_option maxRecDepth 10000
set_option maxHeartbeats 4000000
namespace Av
open Go
attribute [local irreducible] AWp Y0 Xe Xo awS awC Wo awQ Wp QS JT Wm awR JV awB okR Y6 ris
def QB.own (p : QB) (a : Nat) : V := .agg [V.str p.name, .sl 1 (p.ver.map V.int), .hd a 0 p.needs.length]
def Wn : Nat → List QB → List V
  | _, [] => []
  | n, p :: r => p.own n :: Wn (n + 1) r
theorem YK : ∀ (ps : List QB) (n : Nat), (Wn n ps).length = ps.length
  | [], _ => rfl
  | p :: r, n => by simp only [Wn, List.length_cons, YK r]
theorem VU : ∀ (ps : List QB) (n j : Nat), (Wn n ps)[j]? = (ps[j]?).map fun p => p.own (n + j)
  | [], n, j => by simp [Wn]
  | p :: r, n, 0 => by simp [Wn]
  | p :: r, n, j + 1 => by
    simp only [Wn, List.getElem?_cons_succ]
    rw [VU r (n + 1) j, show n + 1 + j = n + (j + 1) by omega]
theorem vf : ∀ (ps : List QB) (n : Nat) (p : QB), Wn n (ps ++ [p]) = Wn n ps ++ [p.own (n + ps.length)]
  | [], n, p => rfl
  | q :: r, n, p => by
    simp only [List.cons_append, Wn, vf r, List.length_cons]
    rw [show n + 1 + r.length = n + (r.length + 1) by omega]
theorem y5 {τ : Nat → Nat} : ∀ (ps : List QB) (n : Nat), (∀ i, i < ps.length → τ (n + i) = n + i) → W3 τ (Wn n ps) = Wn n ps
  | [], _, _ => rfl
  | p :: r, n, h => by
    have h0 := h 0 (by simp)
    simp only [Wn, W3, QB.own, V.ren]
    rw [y5 r (n + 1) (fun i hi => by rw [show n + 1 + i = n + (i + 1) by omega]; exact h (i + 1) (by simp; omega))]
    rw [show τ n = n by simpa using h0]
theorem y6 : ∀ (ps : List QB) (n m : Nat), n + ps.length ≤ m → ltL m (Wn n ps)
  | [], _, _, _ => trivial
  | p :: r, n, m, h => by
    simp only [List.length_cons] at h
    refine ⟨⟨trivial, trivial, ?_, trivial⟩, y6 r (n + 1) m (by omega)⟩
    show n < m; omega
def Yj (ps : List QB) : List Ob := ps.map fun p => .buf true 3 (p.needs.map Js.v)
theorem J9 (ps : List QB) : (Yj ps).length = ps.length := by simp [Yj]
def aa6 (n : Js) : Prop := n.name.length ≤ 5 ∧ n.lo.length ≤ 4 ∧ n.up.length ≤ 4
def xI (p : QB) : Prop := p.name.length ≤ 5 ∧ p.ver.length ≤ 5 ∧ p.needs.length ≤ 9 ∧ ∀ n ∈ p.needs, aa6 n
def KU (ps : List QB) : Prop := ps.length ≤ 5 ∧ ∀ p ∈ ps, xI p
def adK (p : QB) : Prop := p.name.length ≤ 5 ∧ p.ver.length ≤ 5 ∧ p.needs.length ≤ 3 ∧ ∀ n ∈ p.needs, aa6 n
def ab8 (ps : List QB) : Prop := ps.length ≤ 5 ∧ ∀ p ∈ ps, adK p
theorem ab8.ok {ps : List QB} (h : ab8 ps) : KU ps := ⟨h.1, fun p hp => ⟨(h.2 p hp).1, (h.2 p hp).2.1, Nat.le_trans (h.2 p hp).2.2.1 (by omega), (h.2 p hp).2.2.2⟩⟩
def ab9 (l : List Int) (res : V) (outs : List Ob) : Prop := ∃ ps k, KU ps ∧ k ≤ l.length ∧ res = .hd 1 0 ps.length ∧ outs = .box true (Jy l k) :: .obuf true 3 (Wn 2 ps) :: Yj ps
theorem w9 {o : Nat → Option Ob} {br : List Nat} {B : Option (List Nat)} : ∀ (names : List Nat) (obs : List Ob), names.length = obs.length →
    (∀ (i a : Nat) (y : Ob), names[i]? = some a → obs[i]? = some y → ∃ x, o a = some x ∧ abO o br B x y) → abP o br B names obs
  | [], [], _, _ => trivial
  | [], _ :: _, h, _ => by simp at h
  | _ :: _, [], h, _ => by simp at h
  | a :: r, y :: r', h, hh => ⟨hh 0 a y rfl rfl, w9 r r' (by simpa using h) fun i a' y' h1 h2 => hh (i + 1) a' y' h1 h2⟩
theorem j1 {o : Nat → Option Ob} {br : List Nat} {B : Option (List Nat)} : ∀ (xs ys : List V), xs.length = ys.length → (∀ (i : Nat) (x y : V), xs[i]? = some x → ys[i]? = some y → JL o br B x.cells y.cells) → jp o br B xs ys
  | [], [], _, _ => trivial
  | [], _ :: _, h, _ => by simp at h
  | _ :: _, [], h, _ => by simp at h
  | x :: r, y :: r', h, hh => ⟨hh 0 x y rfl rfl, j1 r r' (by simpa using h) fun i x' y' h1 h2 => hh (i + 1) x' y' h1 h2⟩
theorem jZ {l : List Int} {k X : Nat} {s : St} {xs : List V} {ps : List QB} (nm : Nat → Nat) (hok : KU ps) (hk : k ≤ l.length) (h2 : s.t 2 = .hd X 0 ps.length) (h0 : s.o 0 = some (.box true (Jy l k)))
    (hX : s.o X = some (.obuf true 3 xs)) (hl : xs.length = ps.length)
    (hn : ∀ (i : Nat) (p : QB), ps[i]? = some p → ∃ y, s.o (nm i) = some y ∧ abO s.o (0 :: X :: (List.range ps.length).map nm) none y (.buf true 3 (p.needs.map Js.v)))
    (hx : ∀ (i : Nat) (p : QB), ps[i]? = some p → ∃ z, xs[i]? = some (.agg [V.str p.name, z, .hd (nm i) 0 p.needs.length]) ∧ conv s.o (0 :: X :: (List.range ps.length).map nm) none z (.sl 1 (p.ver.map V.int)))
    (hX0 : X ≠ 0) (hne : ∀ i, i < ps.length → nm i ≠ 0 ∧ nm i ≠ X) (hinj : ∀ i j, i < ps.length → j < ps.length → nm i = nm j → i = j) : aav 1 [.tmp 2] (ab9 l) s := by
  refine ⟨.hd 1 0 ps.length, .box true (Jy l k) :: .obuf true 3 (Wn 2 ps) :: Yj ps, ⟨ps, k, hok, hk, rfl, rfl⟩, ?_⟩
  show ∃ br B, _
  refine ⟨0 :: X :: (List.range ps.length).map nm, none, ?_, ⟨⟨_, h0, fun h => h, Ju _ _ _ _ (JG _ _)⟩, ⟨_, hX, fun h => h, rfl, ?_⟩, w9 _ _ (by simp [Yj]) fun i a y h1 h2 => ?_⟩, ?_, rfl⟩
  · show conv s.o _ none (s.t 2) _
    rw [h2]; simp [conv]
  · refine j1 _ _ (by rw [hl, YK]) fun i x y h3 h4 => ?_
    rw [VU] at h4
    simp only [Option.map_eq_some_iff] at h4
    obtain ⟨p, hp, rfl⟩ := h4
    obtain ⟨z, e1, e2⟩ := hx i p hp
    rw [e1] at h3; cases h3
    have hi : i < ps.length := (List.getElem?_eq_some_iff.1 hp).1
    refine ⟨by simp [conv], e2, ?_, trivial⟩
    simp only [conv, and_true]
    rw [show 2 + i = i + 1 + 1 by omega, List.getElem?_cons_succ, List.getElem?_cons_succ, List.getElem?_map, List.getElem?_range hi]; rfl
  · simp only [List.getElem?_map, Option.map_eq_some_iff] at h1
    obtain ⟨j, hj, rfl⟩ := h1
    obtain ⟨hi, rfl⟩ := List.getElem?_eq_some_iff.1 hj
    simp only [List.length_range] at hi
    simp only [Yj, List.getElem?_map, Option.map_eq_some_iff] at h2
    obtain ⟨p, hp, rfl⟩ := h2
    simpa using hn i p hp
  · simp only [List.nodup_cons, List.mem_cons, List.mem_map, List.mem_range, not_or, not_exists, not_and]
    refine ⟨⟨fun h => hX0 h.symm, fun i hi e => (hne i hi).1 e⟩, fun i hi e => (hne i hi).2 e, ?_⟩
    rw [List.Nodup, List.pairwise_map]
    exact List.Pairwise.imp_of_mem (fun {a b} ha hb hab e => hab (hinj a b (by simpa using ha) (by simpa using hb) e)) List.nodup_range
end Av
end
section
namespace Av
open Go
def aeR (a : Nat) : V → V
  | .ptr _ _ => .ptr a 0
  | v => v
attribute [go_sem] aeR
section
variable {Γ : Env} {A W : Nat → Bool} {b : Nat} {s : St} {d : Option Nat} {f : FuncId} {acts args : List V} {okf : Option (List Nat) → Prop} {J : St → Prop} {a p n : Nat}
theorem XH {cs : List V} (h : EvR Γ f args cs) (hl : ((Y8 acts).all fun x => A x && W x) = true) (hc : Jf (J8 A s.o) (some (Y8 acts)) acts)
    (hk : J { t := (s.put d (.ptr b 0)).t, o := upd (KY (some (Y8 acts)) [] s.o) b (some (.box true cs)), n := s.n }) : acs Γ A W b s d f acts args okf J := by
  rintro rfl _
  refine ⟨_, _, _, _, [], some (Y8 acts), h.ev, YZ _ _ _ hc, trivial, List.nodup_nil, fun x hx => by simp at hx, by simp, by simp [KK], fun h => by simp at h, fun l h x hx => (by cases h; simpa using List.all_eq_true.1 hl x hx), ?_⟩
  simp only [Xf, XT, Ob.ren, QJ _ _ h.c1]
  exact hk
end
section
variable {Γ : Env} {A W : Nat → Bool} {b : Nat} {r : List AO} {s : St} {d : Option Nat} {f : FuncId} {acts args : List V} {okf : Option (List Nat) → Prop} {J K : St → Prop} {sx : Nat} {xs : List V}
end
end Av
end
section
namespace Av
open Go
def leL : List V → List V → Prop
  | [], [] => True
  | x :: r, y :: r' => LeV x y ∧ leL r r'
  | _, _ => False
def leC : List V → List V → Prop
  | [], [] => True
  | x :: r, y :: r' => leL x.cells y.cells ∧ leC r r'
  | _, _ => False
theorem xd : ∀ {xs ys : List V}, leL xs ys → xs.length = ys.length ∧ ∀ i (h : i < xs.length) (h' : i < ys.length), LeV xs[i] ys[i]
  | [], [], _ => ⟨rfl, fun i h => by simp at h⟩
  | x :: r, y :: r', h => by
    obtain ⟨h1, h2⟩ := xd h.2
    refine ⟨by simp [h1], fun i hi hi' => ?_⟩
    cases i with
    | zero => exact h.1
    | succ i => exact h2 i (by simpa using hi) (by simpa using hi')
theorem abi : ∀ {xs ys : List V}, leC xs ys → xs.length = ys.length ∧ ∀ i (h : i < xs.length) (h' : i < ys.length), leL xs[i].cells ys[i].cells
  | [], [], _ => ⟨rfl, fun i h => by simp at h⟩
  | x :: r, y :: r', h => by
    obtain ⟨h1, h2⟩ := abi h.2
    refine ⟨by simp [h1], fun i hi hi' => ?_⟩
    cases i with
    | zero => exact h.1
    | succ i => exact h2 i (by simpa using hi) (by simpa using hi')
theorem jt : ∀ xs : List V, leL xs xs
  | [] => trivial
  | x :: r => ⟨LeV.refl x, jt r⟩
theorem xe : ∀ xs : List V, leC xs xs
  | [] => trivial
  | x :: r => ⟨jt _, xe r⟩
theorem abh : ∀ {xs : List V} {i : Nat} {x y : V}, leL x.cells y.cells → leC (xs.set i x) (xs.set i y)
  | [], i, _, _, _ => by cases i <;> exact trivial
  | z :: r, 0, _, _, h => ⟨h, xe r⟩
  | z :: r, i + 1, _, _, h => ⟨jt _, abh h⟩
theorem BOk.le {w : World} {Z : Nat → Nat → Prop} {ν : Nat → Option Cn} {c : Cn} {wr : Bool} {sz : Nat} {xs ys : List V} (h : BOk w Z ν c wr sz xs) (hl : leC xs ys) : BOk w Z ν c wr sz ys := by
  obtain ⟨l1, l2⟩ := abi hl
  refine ⟨by rw [← l1]; exact h.1, fun hv => ?_⟩
  obtain ⟨h0, h1, h2, h3, h4, cs, ty, fr, hh, h5, h6, h7⟩ := h.2 hv
  refine ⟨h0, h1, h2, h3, fun i hi => ?_, cs, ty, fr, hh, h5, h6, fun i hi j hj => ?_⟩
  · rw [← (xd (l2 i (by omega) hi)).1]; exact h4 i (by omega)
  · obtain ⟨m1, m2⟩ := xd (l2 i (by omega) hi)
    obtain ⟨v, e1, e2, e3⟩ := h7 i (by omega) j (by omega)
    exact ⟨v, e1, e2, m2 j (by omega) hj _ _ _ _ e3⟩
section
variable {C : Ctx} {nt n : Nat} {s : St} {K : St → Prop} {E : Nat → St → Prop} {R : St → Prop}
end
def LeO : Ob → Ob → Prop
  | .buf wr s xs, .buf wr' s' ys => wr = wr' ∧ s = s' ∧ leC xs ys
  | .obuf wr s xs, .obuf wr' s' ys => wr = wr' ∧ s = s' ∧ leC xs ys
  | .box wr xs, .box wr' ys => wr = wr' ∧ leL xs ys
  | x, y => x = y
theorem LeO.refl (x : Ob) : LeO x x := by
  cases x <;> first | exact rfl | exact ⟨rfl, rfl, xe _⟩ | exact ⟨rfl, jt _⟩
theorem LeO.ok {w : World} {Z : Nat → Nat → Prop} {μ : Nat → Option Cn} {c : Cn} {x y : Ob} (h : LeO x y) (hk : Uk w Z μ c x) : Uk w Z μ c y ∧ (y.live c → x.live c) := by
  cases x <;> cases y <;> first
    | (cases h; done)
    | (cases h; exact ⟨hk, fun h => h⟩)
    | (obtain ⟨rfl, rfl, hl⟩ := h; exact ⟨BOk.le hk hl, fun h => h⟩)
    | (obtain ⟨rfl, hl⟩ := h
       obtain ⟨hv, ⟨cs, ty, hh, hs, hr⟩, hz⟩ := hk
       obtain ⟨l1, l2⟩ := xd hl
       exact ⟨⟨hv, ⟨cs, ty, hh, by omega, fun j h h' => ⟨l2 j (by omega) h _ _ _ _ (hr j (by omega) h').1, (hr j (by omega) h').2⟩⟩, hz⟩, fun h => h⟩)
structure Le (s s2 : St) : Prop where
  t : ∀ i, LeV (s.t i) (s2.t i)
  o : ∀ a y, s2.o a = some y → ∃ x, s.o a = some x ∧ LeO x y
  n : s.n = s2.n
theorem Le.refl (s : St) : Le s s := ⟨fun _ => LeV.refl _, fun a y h => ⟨y, h, LeO.refl y⟩, rfl⟩
theorem Le.trans {s s2 s3 : St} (h : Le s s2) (h' : Le s2 s3) (hO : ∀ x y z, LeO x y → LeO y z → LeO x z) : Le s s3 :=
  ⟨fun i w Z μ v hv => h'.t i _ _ _ _ (h.t i _ _ _ _ hv), fun a y hy => let ⟨x, h1, h2⟩ := h'.o a y hy; let ⟨z, h3, h4⟩ := h.o a x h1; ⟨z, h3, hO _ _ _ h4 h2⟩, h.n.trans h'.n⟩
theorem Le.objs {t : Nat → V} {o o2 : Nat → Option Ob} {n : Nat} (h : ∀ a y, o2 a = some y → ∃ x, o a = some x ∧ LeO x y) : Le { t := t, o := o, n := n } { t := t, o := o2, n := n } := ⟨fun _ => LeV.refl _, h, rfl⟩
theorem Le.upd {t : Nat → V} {o : Nat → Option Ob} {n a : Nat} {x y : Ob} (ho : o a = some x) (h : LeO x y) : Le { t := t, o := o, n := n } { t := t, o := upd o a (some y), n := n } :=
  Le.objs fun b z hz => by
    by_cases hb : b = a
    · subst hb; rw [Qr] at hz; cases hz; exact ⟨x, ho, h⟩
    · rw [QT _ _ hb] at hz; exact ⟨z, hz, LeO.refl z⟩
theorem Sim.le {C : Ctx} {nt n : Nat} {s s2 : St} {a : Act} {w : World} (h : Sim C nt n s a w) (hl : Le s s2) : Sim C nt n s2 a w := by
  obtain ⟨Z, μ, hg, ht, hf, hm, hd, hn⟩ := h
  refine ⟨Z, μ, ⟨fun b y hb => ?_, fun b d p q e f hbd hp hq he hf lp lq => ?_, hg.zlt, hg.grow, hg.frame, hg.zsub, hg.zsup, hg.zkeep, hg.fix, hg.oo⟩, fun i => hl.t i _ _ _ _ (ht i), hf, hm, hd, hn⟩
  · obtain ⟨x, h1, h2⟩ := hl.o b y hb
    obtain ⟨c, hm, hk, hv⟩ := hg.ob b x h1
    obtain ⟨k1, k2⟩ := h2.ok hk
    exact ⟨c, hm, k1, fun hy => hv (k2 hy)⟩
  · obtain ⟨x, h1, h2⟩ := hl.o b p hp
    obtain ⟨x', h1', h2'⟩ := hl.o d q hq
    obtain ⟨c, hm, hk, _⟩ := hg.ob b x h1
    obtain ⟨c', hm', hk', _⟩ := hg.ob d x' h1'
    have e1 : c = e := by rw [hm] at he; cases he; rfl
    have e2 : c' = f := by rw [hm'] at hf; cases hf; rfl
    subst e1; subst e2
    exact hg.sep b d x x' _ _ hbd h1 h1' hm hm' ((h2.ok hk).2 lp) ((h2'.ok hk').2 lq)
section
variable {C : Ctx} {nt : Nat} {s : St} {K : St → Prop} {E : Nat → St → Prop} {R : St → Prop}
theorem adz {c : AC} {s2 : St} (hl : Le s s2) (h : AWp C nt c s2 K E R) : AWp C nt c s K E R := by
  intro code hc act w hs
  exact h code hc act w (by have := hs.le hl; rw [hl.n] at this; exact this)
theorem abz {c : AC} (h : AWp C nt c s (fun s' => ∃ s2, Le s' s2 ∧ K s2) (fun i s' => ∃ s2, Le s' s2 ∧ E i s2) (fun s' => ∃ s2, Le s' s2 ∧ R s2)) : AWp C nt c s K E R := by
  intro code hc act w hs
  refine wp_mono (h code hc act w hs) fun e a' w' hq => ?_
  cases e with
  | normal => obtain ⟨s', ⟨s2, h1, h2⟩, h3⟩ := hq; exact ⟨s2, h2, by have := h3.le h1; rw [h1.n] at this; exact this⟩
  | exit e => obtain ⟨s', ⟨s2, h1, h2⟩, h3⟩ := hq; exact ⟨s2, h2, by have := h3.le h1; rw [h1.n] at this; exact this⟩
  | ret => obtain ⟨s', ⟨s2, h1, h2⟩, h3⟩ := hq; exact ⟨s2, h2, by have := h3.le h1; rw [h1.n] at this; exact this⟩
  | _ => exact hq
end
end Av
end
section
set_option linter.unusedSimpArgs false
set_option linter.unusedVariables false
set_option maxRecDepth 10000
set_option maxHeartbeats 4000000
namespace Av
open Go
attribute [local irreducible] AWp Y0 Xe Xo awS awC Wo awQ Wp QS JT Wm awR JV awB okR Y6 ris
def vj : List (List UInt8) := [[97, 112, 112], [99, 114, 121, 112, 116], [108, 105, 98], [115, 115, 108], [122, 105, 112]]
theorem yK {j : Nat} (h : j < 5) : ∃ w, vj[j]? = some w ∧ w.length ≤ 5 := by
  match j, h with
  | 0, _ => exact ⟨_, rfl, by decide⟩
  | 1, _ => exact ⟨_, rfl, by decide⟩
  | 2, _ => exact ⟨_, rfl, by decide⟩
  | 3, _ => exact ⟨_, rfl, by decide⟩
  | 4, _ => exact ⟨_, rfl, by decide⟩
abbrev aa8 : List V := vj.map V.str
def vp (l : List Int) (ps : List QB) (k i : Nat) : St := XZ [(0, .ptr 0 0), (3, .hd 1 0 5), (4, .hd 2 0 ps.length), (5, V.int i)] [(0, .box true (Jy l k)), (1, .buf true 1 aa8), (2, .obuf true 3 (Wn 100 ps))] 100 (Yj ps) 200
def aa5 (l : List Int) (ps : List QB) (nm : List UInt8) (ver : List Int) (ns : List Js) (k i : Nat) (c : Int) : St :=
  XZ [(0, .ptr 0 0), (3, .hd 1 0 5), (4, .hd 2 0 ps.length), (5, V.int i), (6, .ptr 3 0), (7, V.int c)] [(0, .box true (Jy l k)), (1, .buf true 1 aa8), (2, .obuf true 3 (Wn 100 ps)), (3, .box true [V.str nm, .sl 1 (ver.map V.int), .hd 4 0 ns.length]), (4, .buf true 3 (ns.map Js.v))] 100 (Yj ps) 200
def Kg (l : List Int) (ps : List QB) (k : Nat) : St := XZ [(0, .ptr 0 0), (4, .hd 2 0 ps.length)] [(0, .box true (Jy l k)), (2, .obuf true 3 (Wn 100 ps))] 100 (Yj ps) 200
theorem Kp : ∀ (ns : List Js), KF (ns.map Js.v)
  | [] => trivial
  | n :: r => ⟨⟨trivial, (by simp only [V.closed]), (by simp only [V.closed]), trivial⟩, Kp r⟩
theorem WW {ps : List QB} {s : St} {tau : List (Nat × Nat)} {n : Nat} (h : ∀ i, i < ps.length → s.o (Ja tau (100 + i)) = (Yj ps)[i]?) :
    ∀ i (hi : i < (Yj ps).length), ∃ x, s.o (Ja tau (100 + i)) = some x ∧ x.weak (Ja tau) n (Yj ps)[i] := by
  intro i hi
  have h1 := h i (by simpa [Yj] using hi)
  rw [List.getElem?_eq_getElem hi] at h1
  refine ⟨_, h1, ?_⟩
  simp only [Yj, List.getElem_map]
  exact ⟨id, rfl, rfl⟩
theorem KS {ps : List QB} {τ : Nat → Nat} {n : Nat} (ht : ∀ i, i < ps.length → τ (100 + i) = 100 + i) (hn : 100 + ps.length ≤ n) : (Ob.obuf true 3 (Wn 100 ps)).weak τ n (.obuf true 3 (Wn 100 ps)) :=
  ⟨id, rfl, (y5 ps 100 ht).symm, y6 ps 100 n hn⟩
theorem j0 {l : List Int} {k : Nat} {τ : Nat → Nat} {n : Nat} : (Ob.box true (Jy l k)).weak τ n (.box true (Jy l k)) :=
  ⟨id, rfl, UF _ _ (by simp only [V.closed]), trivial, trivial⟩
theorem yN {ps : List QB} {j : Nat} {q : QB} (h : KU ps) (hq : xI q) : KU (ps.set j q) := ⟨by simp; exact h.1, fun y hy => by
  rcases List.mem_or_eq_of_mem_set hy with h2 | h2
  · exact h.2 y h2
  · rw [h2]; exact hq⟩
theorem V5 {l : List Int} {k j nj : Nat} {s : St} {ps : List QB} {q : QB} {z : V} (hok : KU ps) (hq : xI q) (hj : j < ps.length) (hk : k ≤ l.length) (h2 : s.t 2 = .hd 2 0 ps.length) (h0 : s.o 0 = some (.box true (Jy l k)))
    (hX : s.o 2 = some (.obuf true 3 ((Wn 100 ps).set j (.agg [V.str q.name, z, .hd nj 0 q.needs.length]))))
    (hz : ∀ br : List Nat, (∀ a ∈ br, a < 200 ∨ a = nj) → conv s.o br none z (.sl 1 (q.ver.map V.int))) (hnj : nj = 100 + j ∨ 200 ≤ nj)
    (hn : ∀ i, i < ps.length → i ≠ j → s.o (100 + i) = (Yj ps)[i]?) (hj2 : ∀ br : List Nat, (∀ a ∈ br, a < 200 ∨ a = nj) → ∃ y, s.o nj = some y ∧ abO s.o br none y (.buf true 3 (q.needs.map Js.v))) : aav 1 [.tmp 2] (ab9 l) s := by
  have hps := hok.1
  have hbr : ∀ a ∈ (0 :: 2 :: (List.range (ps.set j q).length).map (fun i => if i = j then nj else 100 + i)), a < 200 ∨ a = nj := by
    intro a ha
    simp only [List.mem_cons, List.mem_map, List.mem_range, List.length_set] at ha
    rcases ha with rfl | rfl | ⟨i, hi, rfl⟩
    · omega
    · omega
    · split <;> omega
  refine jZ (k := k) (X := 2) (xs := (Wn 100 ps).set j (.agg [V.str q.name, z, .hd nj 0 q.needs.length])) (ps := ps.set j q) (fun i => if i = j then nj else 100 + i) (yN hok hq) hk
    (by rw [h2, List.length_set]) h0 hX (by rw [List.length_set, List.length_set, YK]) (fun i y hy => ?_) (fun i y hy => ?_) (by omega) (fun i hi => ?_) (fun a b ha hb hab => ?_)
  · rw [List.getElem?_set] at hy
    by_cases hij : i = j
    · subst hij
      rw [if_pos rfl, if_pos hj] at hy; cases hy
      rw [if_pos rfl]
      exact hj2 _ hbr
    · rw [if_neg (fun e => hij e.symm)] at hy
      rw [if_neg hij]
      have hi := (List.getElem?_eq_some_iff.1 hy).1
      refine ⟨.buf true 3 (y.needs.map Js.v), ?_, fun h => h, rfl, rfl⟩
      rw [hn i hi hij, Yj, List.getElem?_map, hy]; rfl
  · rw [List.getElem?_set] at hy
    by_cases hij : i = j
    · subst hij
      rw [if_pos rfl, if_pos hj] at hy; cases hy
      refine ⟨z, ?_, hz _ hbr⟩
      rw [List.getElem?_set, if_pos rfl, if_pos (by rw [YK]; exact hj)]
      simp
    · rw [if_neg (fun e => hij e.symm)] at hy
      refine ⟨.sl 1 (y.ver.map V.int), ?_, by simp [conv]⟩
      rw [List.getElem?_set, if_neg (fun e => hij e.symm), VU, hy, if_neg hij]; rfl
  · rw [List.length_set] at hi
    split <;> omega
  · rw [List.length_set] at ha hb
    split at hab <;> split at hab <;> omega
theorem xZ {l br : List Nat} {o : Nat → Option Ob} {a : Nat} (h : a ∉ l) : KY (some l) br o a = o a := by unfold KY; simp [h]
theorem qe (n : Js) : Qg n.v.cells := ⟨trivial, (by simp only [V.closed]), (by simp only [V.closed]), trivial⟩
def VA (Q0 : Nat) : List AO := [mv 18 3, mv 19 5, ia 20 1 18 19, ld 21 1 20, mv 22 0, cl 23 Q0 [22], xo 24 (.build [(.string ⟨#[]⟩), (.slice none 0 0), (.slice none 0 0)] [(0, 1, (.t 21)), (1, 1, (.t 23))]), xo 6 (.alloc [.val (.string ⟨#[]⟩), .nil 1, .nil 3]), xs 3 6 24]
def VH : List (List Nat) := [[], [], [0, 1], [2], [], [4], [3, 5], [], [7, 6, 5, 0, 1, 2, 3, 4, 5, 6, 7]]
def Vx : OT := .one 0 (.one 1 (.one 2 (.one 3 (.one 4 (.one 5 (.one 6 (.one 7 (.one 8 (.done)))))))))
def Jd (Q0 : Nat) : OP := .one 0 false [] (mv 18 3) (.one 1 false [] (mv 19 5) (.one 2 false [] (ia 20 1 18 19) (.one 3 false [] (ld 21 1 20) (.one 4 false [] (mv 22 0) (.one 5 true [] (cl 23 Q0 [22]) (.one 6 false [5] (xo 24 (.build [(.string ⟨#[]⟩), (.slice none 0 0), (.slice none 0 0)] [(0, 1, (.t 21)), (1, 1, (.t 23))])) (.one 7 false [] (xo 6 (.alloc [.val (.string ⟨#[]⟩), .nil 1, .nil 3])) (.one 8 true [7, 5] (xs 3 6 24) (.done)))))))))
theorem QI (Q0 : Nat) : okR (VA Q0) VH [5] Vx = true := by kernel_rfl
theorem QF (Q0 : Nat) : Y6 (ris (VA Q0) VH [5]) Vx = Jd Q0 := by kernel_rfl
def Vz (Qm QV : Nat) : List AO := [fa 31 2 6, ld 32 1 31, mv 33 3, mv 34 0, mv 35 3, ln 36 35, cl 37 Qm [34, 36], ia 38 1 33 37, ld 39 1 38, mv 40 0, cl 41 QV [40], xo 42 (.build [(.string ⟨#[]⟩), (.slice none 0 0), (.slice none 0 0)] [(0, 1, (.t 39)), (1, 2, (.t 41))]), xo 43 (.obslice 1 3 true [(.string ⟨#[]⟩), (.slice none 0 0), (.slice none 0 0)] [(0, (.t 42))]), xo 44 (.append 3 64 [(.string ⟨#[]⟩), (.slice none 0 0), (.slice none 0 0)] (.t 32) (.t 43)), fa 45 2 6, xs 1 45 44]
def VG : List (List Nat) := [[], [0], [], [], [], [4], [3, 5], [2, 6], [7], [], [9, 6], [8, 10], [11], [1, 12, 10], [0, 1, 2, 3, 4, 5, 6, 7, 8, 9, 10, 11, 12, 13], [14, 13, 13, 0, 1, 2, 3, 4, 5, 6, 7, 8, 9, 10, 11, 12, 13]]
def Vw : OT := .one 0 (.one 2 (.one 3 (.one 4 (.one 5 (.one 9 (.or 1 (.or 6 (.or 7 (.or 8 (.or 10 (.or 11 (.one 12 (.one 13 (.one 14 (.one 15 (.done))))) (.done)) (.done)) (.or 10 (.or 8 (.or 11 (.one 12 (.one 13 (.one 14 (.one 15 (.done))))) (.done)) (.done)) (.done))) (.or 10 (.or 7 (.or 8 (.or 11 (.one 12 (.one 13 (.one 14 (.one 15 (.done))))) (.done)) (.done)) (.done)) (.done))) (.done)) (.or 6 (.or 1 (.or 7 (.or 8 (.or 10 (.or 11 (.one 12 (.one 13 (.one 14 (.one 15 (.done))))) (.done)) (.done)) (.or 10 (.or 8 (.or 11 (.one 12 (.one 13 (.one 14 (.one 15 (.done))))) (.done)) (.done)) (.done))) (.or 10 (.or 7 (.or 8 (.or 11 (.one 12 (.one 13 (.one 14 (.one 15 (.done))))) (.done)) (.done)) (.done)) (.done))) (.or 7 (.or 1 (.or 8 (.or 10 (.or 11 (.one 12 (.one 13 (.one 14 (.one 15 (.done))))) (.done)) (.done)) (.or 10 (.or 8 (.or 11 (.one 12 (.one 13 (.one 14 (.one 15 (.done))))) (.done)) (.done)) (.done))) (.or 8 (.or 1 (.or 10 (.or 11 (.one 12 (.one 13 (.one 14 (.one 15 (.done))))) (.done)) (.done)) (.or 10 (.one 1 (.or 11 (.one 12 (.one 13 (.one 14 (.one 15 (.done))))) (.done))) (.done))) (.or 10 (.or 1 (.or 8 (.or 11 (.one 12 (.one 13 (.one 14 (.one 15 (.done))))) (.done)) (.done)) (.or 8 (.one 1 (.or 11 (.one 12 (.one 13 (.one 14 (.one 15 (.done))))) (.done))) (.done))) (.done)))) (.or 10 (.or 1 (.or 7 (.or 8 (.or 11 (.one 12 (.one 13 (.one 14 (.one 15 (.done))))) (.done)) (.done)) (.done)) (.or 7 (.or 1 (.or 8 (.or 11 (.one 12 (.one 13 (.one 14 (.one 15 (.done))))) (.done)) (.done)) (.or 8 (.one 1 (.or 11 (.one 12 (.one 13 (.one 14 (.one 15 (.done))))) (.done))) (.done))) (.done))) (.done)))) (.done))))))))
def Jc (Qm QV : Nat) : OP := .one 0 false [] (fa 31 2 6) (.one 2 false [] (mv 33 3) (.one 3 false [] (mv 34 0) (.one 4 false [] (mv 35 3) (.one 5 false [] (ln 36 35) (.one 9 false [] (mv 40 0) (.or 1 true [] (ld 32 1 31) (.or 6 true [] (cl 37 Qm [34, 36]) (.or 7 true [6] (ia 38 1 33 37) (.or 8 true [6] (ld 39 1 38) (.or 10 true [] (cl 41 QV [40]) (.or 11 false [10, 6] (xo 42 (.build [(.string ⟨#[]⟩), (.slice none 0 0), (.slice none 0 0)] [(0, 1, (.t 39)), (1, 2, (.t 41))])) (.one 12 false [10, 6] (xo 43 (.obslice 1 3 true [(.string ⟨#[]⟩), (.slice none 0 0), (.slice none 0 0)] [(0, (.t 42))])) (.one 13 true [12, 10, 6] (xo 44 (.append 3 64 [(.string ⟨#[]⟩), (.slice none 0 0), (.slice none 0 0)] (.t 32) (.t 43))) (.one 14 false [] (fa 45 2 6) (.one 15 true [13, 12, 10, 6] (xs 1 45 44) (.done))))) (.done)) (.done)) (.or 10 true [] (cl 41 QV [40]) (.or 8 true [6] (ld 39 1 38) (.or 11 false [10, 6] (xo 42 (.build [(.string ⟨#[]⟩), (.slice none 0 0), (.slice none 0 0)] [(0, 1, (.t 39)), (1, 2, (.t 41))])) (.one 12 false [10, 6] (xo 43 (.obslice 1 3 true [(.string ⟨#[]⟩), (.slice none 0 0), (.slice none 0 0)] [(0, (.t 42))])) (.one 13 true [12, 10, 6] (xo 44 (.append 3 64 [(.string ⟨#[]⟩), (.slice none 0 0), (.slice none 0 0)] (.t 32) (.t 43))) (.one 14 false [] (fa 45 2 6) (.one 15 true [13, 12, 10, 6] (xs 1 45 44) (.done))))) (.done)) (.done)) (.done))) (.or 10 true [] (cl 41 QV [40]) (.or 7 true [6] (ia 38 1 33 37) (.or 8 true [6] (ld 39 1 38) (.or 11 false [10, 6] (xo 42 (.build [(.string ⟨#[]⟩), (.slice none 0 0), (.slice none 0 0)] [(0, 1, (.t 39)), (1, 2, (.t 41))])) (.one 12 false [10, 6] (xo 43 (.obslice 1 3 true [(.string ⟨#[]⟩), (.slice none 0 0), (.slice none 0 0)] [(0, (.t 42))])) (.one 13 true [12, 10, 6] (xo 44 (.append 3 64 [(.string ⟨#[]⟩), (.slice none 0 0), (.slice none 0 0)] (.t 32) (.t 43))) (.one 14 false [] (fa 45 2 6) (.one 15 true [13, 12, 10, 6] (xs 1 45 44) (.done))))) (.done)) (.done)) (.done)) (.done))) (.done)) (.or 6 true [] (cl 37 Qm [34, 36]) (.or 1 true [] (ld 32 1 31) (.or 7 true [6] (ia 38 1 33 37) (.or 8 true [6] (ld 39 1 38) (.or 10 true [] (cl 41 QV [40]) (.or 11 false [10, 6] (xo 42 (.build [(.string ⟨#[]⟩), (.slice none 0 0), (.slice none 0 0)] [(0, 1, (.t 39)), (1, 2, (.t 41))])) (.one 12 false [10, 6] (xo 43 (.obslice 1 3 true [(.string ⟨#[]⟩), (.slice none 0 0), (.slice none 0 0)] [(0, (.t 42))])) (.one 13 true [12, 10, 6] (xo 44 (.append 3 64 [(.string ⟨#[]⟩), (.slice none 0 0), (.slice none 0 0)] (.t 32) (.t 43))) (.one 14 false [] (fa 45 2 6) (.one 15 true [13, 12, 10, 6] (xs 1 45 44) (.done))))) (.done)) (.done)) (.or 10 true [] (cl 41 QV [40]) (.or 8 true [6] (ld 39 1 38) (.or 11 false [10, 6] (xo 42 (.build [(.string ⟨#[]⟩), (.slice none 0 0), (.slice none 0 0)] [(0, 1, (.t 39)), (1, 2, (.t 41))])) (.one 12 false [10, 6] (xo 43 (.obslice 1 3 true [(.string ⟨#[]⟩), (.slice none 0 0), (.slice none 0 0)] [(0, (.t 42))])) (.one 13 true [12, 10, 6] (xo 44 (.append 3 64 [(.string ⟨#[]⟩), (.slice none 0 0), (.slice none 0 0)] (.t 32) (.t 43))) (.one 14 false [] (fa 45 2 6) (.one 15 true [13, 12, 10, 6] (xs 1 45 44) (.done))))) (.done)) (.done)) (.done))) (.or 10 true [] (cl 41 QV [40]) (.or 7 true [6] (ia 38 1 33 37) (.or 8 true [6] (ld 39 1 38) (.or 11 false [10, 6] (xo 42 (.build [(.string ⟨#[]⟩), (.slice none 0 0), (.slice none 0 0)] [(0, 1, (.t 39)), (1, 2, (.t 41))])) (.one 12 false [10, 6] (xo 43 (.obslice 1 3 true [(.string ⟨#[]⟩), (.slice none 0 0), (.slice none 0 0)] [(0, (.t 42))])) (.one 13 true [12, 10, 6] (xo 44 (.append 3 64 [(.string ⟨#[]⟩), (.slice none 0 0), (.slice none 0 0)] (.t 32) (.t 43))) (.one 14 false [] (fa 45 2 6) (.one 15 true [13, 12, 10, 6] (xs 1 45 44) (.done))))) (.done)) (.done)) (.done)) (.done))) (.or 7 true [6] (ia 38 1 33 37) (.or 1 true [] (ld 32 1 31) (.or 8 true [6] (ld 39 1 38) (.or 10 true [] (cl 41 QV [40]) (.or 11 false [10, 6] (xo 42 (.build [(.string ⟨#[]⟩), (.slice none 0 0), (.slice none 0 0)] [(0, 1, (.t 39)), (1, 2, (.t 41))])) (.one 12 false [10, 6] (xo 43 (.obslice 1 3 true [(.string ⟨#[]⟩), (.slice none 0 0), (.slice none 0 0)] [(0, (.t 42))])) (.one 13 true [12, 10, 6] (xo 44 (.append 3 64 [(.string ⟨#[]⟩), (.slice none 0 0), (.slice none 0 0)] (.t 32) (.t 43))) (.one 14 false [] (fa 45 2 6) (.one 15 true [13, 12, 10, 6] (xs 1 45 44) (.done))))) (.done)) (.done)) (.or 10 true [] (cl 41 QV [40]) (.or 8 true [6] (ld 39 1 38) (.or 11 false [10, 6] (xo 42 (.build [(.string ⟨#[]⟩), (.slice none 0 0), (.slice none 0 0)] [(0, 1, (.t 39)), (1, 2, (.t 41))])) (.one 12 false [10, 6] (xo 43 (.obslice 1 3 true [(.string ⟨#[]⟩), (.slice none 0 0), (.slice none 0 0)] [(0, (.t 42))])) (.one 13 true [12, 10, 6] (xo 44 (.append 3 64 [(.string ⟨#[]⟩), (.slice none 0 0), (.slice none 0 0)] (.t 32) (.t 43))) (.one 14 false [] (fa 45 2 6) (.one 15 true [13, 12, 10, 6] (xs 1 45 44) (.done))))) (.done)) (.done)) (.done))) (.or 8 true [6] (ld 39 1 38) (.or 1 true [] (ld 32 1 31) (.or 10 true [] (cl 41 QV [40]) (.or 11 false [10, 6] (xo 42 (.build [(.string ⟨#[]⟩), (.slice none 0 0), (.slice none 0 0)] [(0, 1, (.t 39)), (1, 2, (.t 41))])) (.one 12 false [10, 6] (xo 43 (.obslice 1 3 true [(.string ⟨#[]⟩), (.slice none 0 0), (.slice none 0 0)] [(0, (.t 42))])) (.one 13 true [12, 10, 6] (xo 44 (.append 3 64 [(.string ⟨#[]⟩), (.slice none 0 0), (.slice none 0 0)] (.t 32) (.t 43))) (.one 14 false [] (fa 45 2 6) (.one 15 true [13, 12, 10, 6] (xs 1 45 44) (.done))))) (.done)) (.done)) (.or 10 true [] (cl 41 QV [40]) (.one 1 true [] (ld 32 1 31) (.or 11 false [10, 6] (xo 42 (.build [(.string ⟨#[]⟩), (.slice none 0 0), (.slice none 0 0)] [(0, 1, (.t 39)), (1, 2, (.t 41))])) (.one 12 false [10, 6] (xo 43 (.obslice 1 3 true [(.string ⟨#[]⟩), (.slice none 0 0), (.slice none 0 0)] [(0, (.t 42))])) (.one 13 true [12, 10, 6] (xo 44 (.append 3 64 [(.string ⟨#[]⟩), (.slice none 0 0), (.slice none 0 0)] (.t 32) (.t 43))) (.one 14 false [] (fa 45 2 6) (.one 15 true [13, 12, 10, 6] (xs 1 45 44) (.done))))) (.done))) (.done))) (.or 10 true [] (cl 41 QV [40]) (.or 1 true [] (ld 32 1 31) (.or 8 true [6] (ld 39 1 38) (.or 11 false [10, 6] (xo 42 (.build [(.string ⟨#[]⟩), (.slice none 0 0), (.slice none 0 0)] [(0, 1, (.t 39)), (1, 2, (.t 41))])) (.one 12 false [10, 6] (xo 43 (.obslice 1 3 true [(.string ⟨#[]⟩), (.slice none 0 0), (.slice none 0 0)] [(0, (.t 42))])) (.one 13 true [12, 10, 6] (xo 44 (.append 3 64 [(.string ⟨#[]⟩), (.slice none 0 0), (.slice none 0 0)] (.t 32) (.t 43))) (.one 14 false [] (fa 45 2 6) (.one 15 true [13, 12, 10, 6] (xs 1 45 44) (.done))))) (.done)) (.done)) (.or 8 true [6] (ld 39 1 38) (.one 1 true [] (ld 32 1 31) (.or 11 false [10, 6] (xo 42 (.build [(.string ⟨#[]⟩), (.slice none 0 0), (.slice none 0 0)] [(0, 1, (.t 39)), (1, 2, (.t 41))])) (.one 12 false [10, 6] (xo 43 (.obslice 1 3 true [(.string ⟨#[]⟩), (.slice none 0 0), (.slice none 0 0)] [(0, (.t 42))])) (.one 13 true [12, 10, 6] (xo 44 (.append 3 64 [(.string ⟨#[]⟩), (.slice none 0 0), (.slice none 0 0)] (.t 32) (.t 43))) (.one 14 false [] (fa 45 2 6) (.one 15 true [13, 12, 10, 6] (xs 1 45 44) (.done))))) (.done))) (.done))) (.done)))) (.or 10 true [] (cl 41 QV [40]) (.or 1 true [] (ld 32 1 31) (.or 7 true [6] (ia 38 1 33 37) (.or 8 true [6] (ld 39 1 38) (.or 11 false [10, 6] (xo 42 (.build [(.string ⟨#[]⟩), (.slice none 0 0), (.slice none 0 0)] [(0, 1, (.t 39)), (1, 2, (.t 41))])) (.one 12 false [10, 6] (xo 43 (.obslice 1 3 true [(.string ⟨#[]⟩), (.slice none 0 0), (.slice none 0 0)] [(0, (.t 42))])) (.one 13 true [12, 10, 6] (xo 44 (.append 3 64 [(.string ⟨#[]⟩), (.slice none 0 0), (.slice none 0 0)] (.t 32) (.t 43))) (.one 14 false [] (fa 45 2 6) (.one 15 true [13, 12, 10, 6] (xs 1 45 44) (.done))))) (.done)) (.done)) (.done)) (.or 7 true [6] (ia 38 1 33 37) (.or 1 true [] (ld 32 1 31) (.or 8 true [6] (ld 39 1 38) (.or 11 false [10, 6] (xo 42 (.build [(.string ⟨#[]⟩), (.slice none 0 0), (.slice none 0 0)] [(0, 1, (.t 39)), (1, 2, (.t 41))])) (.one 12 false [10, 6] (xo 43 (.obslice 1 3 true [(.string ⟨#[]⟩), (.slice none 0 0), (.slice none 0 0)] [(0, (.t 42))])) (.one 13 true [12, 10, 6] (xo 44 (.append 3 64 [(.string ⟨#[]⟩), (.slice none 0 0), (.slice none 0 0)] (.t 32) (.t 43))) (.one 14 false [] (fa 45 2 6) (.one 15 true [13, 12, 10, 6] (xs 1 45 44) (.done))))) (.done)) (.done)) (.or 8 true [6] (ld 39 1 38) (.one 1 true [] (ld 32 1 31) (.or 11 false [10, 6] (xo 42 (.build [(.string ⟨#[]⟩), (.slice none 0 0), (.slice none 0 0)] [(0, 1, (.t 39)), (1, 2, (.t 41))])) (.one 12 false [10, 6] (xo 43 (.obslice 1 3 true [(.string ⟨#[]⟩), (.slice none 0 0), (.slice none 0 0)] [(0, (.t 42))])) (.one 13 true [12, 10, 6] (xo 44 (.append 3 64 [(.string ⟨#[]⟩), (.slice none 0 0), (.slice none 0 0)] (.t 32) (.t 43))) (.one 14 false [] (fa 45 2 6) (.one 15 true [13, 12, 10, 6] (xs 1 45 44) (.done))))) (.done))) (.done))) (.done))) (.done)))) (.done))))))))
theorem QH (Qm QV : Nat) : okR (Vz Qm QV) VG [1, 6, 7, 8, 10] Vw = true := by kernel_rfl
theorem QE (Qm QV : Nat) : Y6 (ris (Vz Qm QV) VG [1, 6, 7, 8, 10]) Vw = Jc Qm QV := by kernel_rfl
def Vy (QC Qw : Nat) : List AO := [mv 85 8, mv 86 8, nk 87 86, fa 88 2 87, ld 89 1 88, mv 90 0, xo 91 (.bslice 3 1 false [(.string ⟨#[]⟩)] [(0, (.c (V.str []))), (1, (.c (V.str [110, 111, 110, 101]))), (2, (.c (V.str [120, 32, 121])))]), cl 92 QC [90, 91], mv 93 0, xo 94 (.bslice 2 1 false [(.int .i64 0)] [(0, (.c (V.int (-1)))), (1, (.c (V.int 3)))]), cl 95 Qw [93, 94], xo 96 (.bslice 1 1 false [(.int .i64 0)] [(0, (.t 95))]), xo 97 (.build [(.slice none 0 0), (.slice none 0 0)] [(0, 1, (.t 96))]), xo 98 (.build [(.string ⟨#[]⟩), (.slice none 0 0), (.slice none 0 0)] [(0, 1, (.t 92)), (1, 2, (.t 97))]), xo 99 (.obslice 1 3 true [(.string ⟨#[]⟩), (.slice none 0 0), (.slice none 0 0)] [(0, (.t 98))]), xo 100 (.append 3 64 [(.string ⟨#[]⟩), (.slice none 0 0), (.slice none 0 0)] (.t 89) (.t 99)), nk 101 85, fa 102 2 101, xs 1 102 100]
def VF : List (List Nat) := [[], [], [1], [2], [3], [], [], [5, 6], [], [], [8, 9, 7], [10], [11], [7, 12], [13], [4, 14, 10], [0, 0, 1, 2, 3, 4, 5, 6, 7, 8, 9, 10, 11, 12, 13, 14, 15], [16, 0, 1, 2, 3, 4, 5, 6, 7, 8, 9, 10, 11, 12, 13, 14, 15], [17, 15, 15, 0, 1, 2, 3, 4, 5, 6, 7, 8, 9, 10, 11, 12, 13, 14, 15]]
def Vv : OT := .one 0 (.one 1 (.one 2 (.one 3 (.one 5 (.one 8 (.or 4 (.or 6 (.or 7 (.or 9 (.or 10 (.or 11 (.or 12 (.or 13 (.one 14 (.one 15 (.one 16 (.one 17 (.one 18 (.done)))))) (.done)) (.done)) (.done)) (.done)) (.done)) (.or 9 (.or 7 (.or 10 (.or 11 (.or 12 (.or 13 (.one 14 (.one 15 (.one 16 (.one 17 (.one 18 (.done)))))) (.done)) (.done)) (.done)) (.done)) (.done)) (.done))) (.or 9 (.or 6 (.or 7 (.or 10 (.or 11 (.or 12 (.or 13 (.one 14 (.one 15 (.one 16 (.one 17 (.one 18 (.done)))))) (.done)) (.done)) (.done)) (.done)) (.done)) (.done)) (.done))) (.or 6 (.or 4 (.or 7 (.or 9 (.or 10 (.or 11 (.or 12 (.or 13 (.one 14 (.one 15 (.one 16 (.one 17 (.one 18 (.done)))))) (.done)) (.done)) (.done)) (.done)) (.done)) (.or 9 (.or 7 (.or 10 (.or 11 (.or 12 (.or 13 (.one 14 (.one 15 (.one 16 (.one 17 (.one 18 (.done)))))) (.done)) (.done)) (.done)) (.done)) (.done)) (.done))) (.or 7 (.or 4 (.or 9 (.or 10 (.or 11 (.or 12 (.or 13 (.one 14 (.one 15 (.one 16 (.one 17 (.one 18 (.done)))))) (.done)) (.done)) (.done)) (.done)) (.done)) (.or 9 (.or 4 (.or 10 (.or 11 (.or 12 (.or 13 (.one 14 (.one 15 (.one 16 (.one 17 (.one 18 (.done)))))) (.done)) (.done)) (.done)) (.done)) (.or 10 (.one 4 (.or 11 (.or 12 (.or 13 (.one 14 (.one 15 (.one 16 (.one 17 (.one 18 (.done)))))) (.done)) (.done)) (.done))) (.done))) (.done))) (.or 9 (.or 4 (.or 7 (.or 10 (.or 11 (.or 12 (.or 13 (.one 14 (.one 15 (.one 16 (.one 17 (.one 18 (.done)))))) (.done)) (.done)) (.done)) (.done)) (.done)) (.or 7 (.or 4 (.or 10 (.or 11 (.or 12 (.or 13 (.one 14 (.one 15 (.one 16 (.one 17 (.one 18 (.done)))))) (.done)) (.done)) (.done)) (.done)) (.or 10 (.one 4 (.or 11 (.or 12 (.or 13 (.one 14 (.one 15 (.one 16 (.one 17 (.one 18 (.done)))))) (.done)) (.done)) (.done))) (.done))) (.done))) (.done)))) (.or 9 (.or 4 (.or 6 (.or 7 (.or 10 (.or 11 (.or 12 (.or 13 (.one 14 (.one 15 (.one 16 (.one 17 (.one 18 (.done)))))) (.done)) (.done)) (.done)) (.done)) (.done)) (.done)) (.or 6 (.or 4 (.or 7 (.or 10 (.or 11 (.or 12 (.or 13 (.one 14 (.one 15 (.one 16 (.one 17 (.one 18 (.done)))))) (.done)) (.done)) (.done)) (.done)) (.done)) (.or 7 (.or 4 (.or 10 (.or 11 (.or 12 (.or 13 (.one 14 (.one 15 (.one 16 (.one 17 (.one 18 (.done)))))) (.done)) (.done)) (.done)) (.done)) (.or 10 (.one 4 (.or 11 (.or 12 (.or 13 (.one 14 (.one 15 (.one 16 (.one 17 (.one 18 (.done)))))) (.done)) (.done)) (.done))) (.done))) (.done))) (.done))) (.done)))))))))
def Jb (QC Qw : Nat) : OP := .one 0 false [] (mv 85 8) (.one 1 false [] (mv 86 8) (.one 2 false [] (nk 87 86) (.one 3 false [] (fa 88 2 87) (.one 5 false [] (mv 90 0) (.one 8 false [] (mv 93 0) (.or 4 true [] (ld 89 1 88) (.or 6 false [] (xo 91 (.bslice 3 1 false [(.string ⟨#[]⟩)] [(0, (.c (V.str []))), (1, (.c (V.str [110, 111, 110, 101]))), (2, (.c (V.str [120, 32, 121])))])) (.or 7 true [6] (cl 92 QC [90, 91]) (.or 9 false [] (xo 94 (.bslice 2 1 false [(.int .i64 0)] [(0, (.c (V.int (-1)))), (1, (.c (V.int 3)))])) (.or 10 true [9] (cl 95 Qw [93, 94]) (.or 11 false [10, 9] (xo 96 (.bslice 1 1 false [(.int .i64 0)] [(0, (.t 95))])) (.or 12 false [11, 10, 9] (xo 97 (.build [(.slice none 0 0), (.slice none 0 0)] [(0, 1, (.t 96))])) (.or 13 false [11, 10, 9, 7, 6] (xo 98 (.build [(.string ⟨#[]⟩), (.slice none 0 0), (.slice none 0 0)] [(0, 1, (.t 92)), (1, 2, (.t 97))])) (.one 14 false [11, 10, 9, 7, 6] (xo 99 (.obslice 1 3 true [(.string ⟨#[]⟩), (.slice none 0 0), (.slice none 0 0)] [(0, (.t 98))])) (.one 15 true [14, 11, 10, 9, 7, 6] (xo 100 (.append 3 64 [(.string ⟨#[]⟩), (.slice none 0 0), (.slice none 0 0)] (.t 89) (.t 99))) (.one 16 false [] (nk 101 85) (.one 17 false [] (fa 102 2 101) (.one 18 true [15, 14, 11, 10, 9, 7, 6] (xs 1 102 100) (.done)))))) (.done)) (.done)) (.done)) (.done)) (.done)) (.or 9 false [] (xo 94 (.bslice 2 1 false [(.int .i64 0)] [(0, (.c (V.int (-1)))), (1, (.c (V.int 3)))])) (.or 7 true [6] (cl 92 QC [90, 91]) (.or 10 true [9] (cl 95 Qw [93, 94]) (.or 11 false [10, 9] (xo 96 (.bslice 1 1 false [(.int .i64 0)] [(0, (.t 95))])) (.or 12 false [11, 10, 9] (xo 97 (.build [(.slice none 0 0), (.slice none 0 0)] [(0, 1, (.t 96))])) (.or 13 false [11, 10, 9, 7, 6] (xo 98 (.build [(.string ⟨#[]⟩), (.slice none 0 0), (.slice none 0 0)] [(0, 1, (.t 92)), (1, 2, (.t 97))])) (.one 14 false [11, 10, 9, 7, 6] (xo 99 (.obslice 1 3 true [(.string ⟨#[]⟩), (.slice none 0 0), (.slice none 0 0)] [(0, (.t 98))])) (.one 15 true [14, 11, 10, 9, 7, 6] (xo 100 (.append 3 64 [(.string ⟨#[]⟩), (.slice none 0 0), (.slice none 0 0)] (.t 89) (.t 99))) (.one 16 false [] (nk 101 85) (.one 17 false [] (fa 102 2 101) (.one 18 true [15, 14, 11, 10, 9, 7, 6] (xs 1 102 100) (.done)))))) (.done)) (.done)) (.done)) (.done)) (.done)) (.done))) (.or 9 false [] (xo 94 (.bslice 2 1 false [(.int .i64 0)] [(0, (.c (V.int (-1)))), (1, (.c (V.int 3)))])) (.or 6 false [] (xo 91 (.bslice 3 1 false [(.string ⟨#[]⟩)] [(0, (.c (V.str []))), (1, (.c (V.str [110, 111, 110, 101]))), (2, (.c (V.str [120, 32, 121])))])) (.or 7 true [6] (cl 92 QC [90, 91]) (.or 10 true [9] (cl 95 Qw [93, 94]) (.or 11 false [10, 9] (xo 96 (.bslice 1 1 false [(.int .i64 0)] [(0, (.t 95))])) (.or 12 false [11, 10, 9] (xo 97 (.build [(.slice none 0 0), (.slice none 0 0)] [(0, 1, (.t 96))])) (.or 13 false [11, 10, 9, 7, 6] (xo 98 (.build [(.string ⟨#[]⟩), (.slice none 0 0), (.slice none 0 0)] [(0, 1, (.t 92)), (1, 2, (.t 97))])) (.one 14 false [11, 10, 9, 7, 6] (xo 99 (.obslice 1 3 true [(.string ⟨#[]⟩), (.slice none 0 0), (.slice none 0 0)] [(0, (.t 98))])) (.one 15 true [14, 11, 10, 9, 7, 6] (xo 100 (.append 3 64 [(.string ⟨#[]⟩), (.slice none 0 0), (.slice none 0 0)] (.t 89) (.t 99))) (.one 16 false [] (nk 101 85) (.one 17 false [] (fa 102 2 101) (.one 18 true [15, 14, 11, 10, 9, 7, 6] (xs 1 102 100) (.done)))))) (.done)) (.done)) (.done)) (.done)) (.done)) (.done)) (.done))) (.or 6 false [] (xo 91 (.bslice 3 1 false [(.string ⟨#[]⟩)] [(0, (.c (V.str []))), (1, (.c (V.str [110, 111, 110, 101]))), (2, (.c (V.str [120, 32, 121])))])) (.or 4 true [] (ld 89 1 88) (.or 7 true [6] (cl 92 QC [90, 91]) (.or 9 false [] (xo 94 (.bslice 2 1 false [(.int .i64 0)] [(0, (.c (V.int (-1)))), (1, (.c (V.int 3)))])) (.or 10 true [9] (cl 95 Qw [93, 94]) (.or 11 false [10, 9] (xo 96 (.bslice 1 1 false [(.int .i64 0)] [(0, (.t 95))])) (.or 12 false [11, 10, 9] (xo 97 (.build [(.slice none 0 0), (.slice none 0 0)] [(0, 1, (.t 96))])) (.or 13 false [11, 10, 9, 7, 6] (xo 98 (.build [(.string ⟨#[]⟩), (.slice none 0 0), (.slice none 0 0)] [(0, 1, (.t 92)), (1, 2, (.t 97))])) (.one 14 false [11, 10, 9, 7, 6] (xo 99 (.obslice 1 3 true [(.string ⟨#[]⟩), (.slice none 0 0), (.slice none 0 0)] [(0, (.t 98))])) (.one 15 true [14, 11, 10, 9, 7, 6] (xo 100 (.append 3 64 [(.string ⟨#[]⟩), (.slice none 0 0), (.slice none 0 0)] (.t 89) (.t 99))) (.one 16 false [] (nk 101 85) (.one 17 false [] (fa 102 2 101) (.one 18 true [15, 14, 11, 10, 9, 7, 6] (xs 1 102 100) (.done)))))) (.done)) (.done)) (.done)) (.done)) (.done)) (.or 9 false [] (xo 94 (.bslice 2 1 false [(.int .i64 0)] [(0, (.c (V.int (-1)))), (1, (.c (V.int 3)))])) (.or 7 true [6] (cl 92 QC [90, 91]) (.or 10 true [9] (cl 95 Qw [93, 94]) (.or 11 false [10, 9] (xo 96 (.bslice 1 1 false [(.int .i64 0)] [(0, (.t 95))])) (.or 12 false [11, 10, 9] (xo 97 (.build [(.slice none 0 0), (.slice none 0 0)] [(0, 1, (.t 96))])) (.or 13 false [11, 10, 9, 7, 6] (xo 98 (.build [(.string ⟨#[]⟩), (.slice none 0 0), (.slice none 0 0)] [(0, 1, (.t 92)), (1, 2, (.t 97))])) (.one 14 false [11, 10, 9, 7, 6] (xo 99 (.obslice 1 3 true [(.string ⟨#[]⟩), (.slice none 0 0), (.slice none 0 0)] [(0, (.t 98))])) (.one 15 true [14, 11, 10, 9, 7, 6] (xo 100 (.append 3 64 [(.string ⟨#[]⟩), (.slice none 0 0), (.slice none 0 0)] (.t 89) (.t 99))) (.one 16 false [] (nk 101 85) (.one 17 false [] (fa 102 2 101) (.one 18 true [15, 14, 11, 10, 9, 7, 6] (xs 1 102 100) (.done)))))) (.done)) (.done)) (.done)) (.done)) (.done)) (.done))) (.or 7 true [6] (cl 92 QC [90, 91]) (.or 4 true [] (ld 89 1 88) (.or 9 false [] (xo 94 (.bslice 2 1 false [(.int .i64 0)] [(0, (.c (V.int (-1)))), (1, (.c (V.int 3)))])) (.or 10 true [9] (cl 95 Qw [93, 94]) (.or 11 false [10, 9] (xo 96 (.bslice 1 1 false [(.int .i64 0)] [(0, (.t 95))])) (.or 12 false [11, 10, 9] (xo 97 (.build [(.slice none 0 0), (.slice none 0 0)] [(0, 1, (.t 96))])) (.or 13 false [11, 10, 9, 7, 6] (xo 98 (.build [(.string ⟨#[]⟩), (.slice none 0 0), (.slice none 0 0)] [(0, 1, (.t 92)), (1, 2, (.t 97))])) (.one 14 false [11, 10, 9, 7, 6] (xo 99 (.obslice 1 3 true [(.string ⟨#[]⟩), (.slice none 0 0), (.slice none 0 0)] [(0, (.t 98))])) (.one 15 true [14, 11, 10, 9, 7, 6] (xo 100 (.append 3 64 [(.string ⟨#[]⟩), (.slice none 0 0), (.slice none 0 0)] (.t 89) (.t 99))) (.one 16 false [] (nk 101 85) (.one 17 false [] (fa 102 2 101) (.one 18 true [15, 14, 11, 10, 9, 7, 6] (xs 1 102 100) (.done)))))) (.done)) (.done)) (.done)) (.done)) (.done)) (.or 9 false [] (xo 94 (.bslice 2 1 false [(.int .i64 0)] [(0, (.c (V.int (-1)))), (1, (.c (V.int 3)))])) (.or 4 true [] (ld 89 1 88) (.or 10 true [9] (cl 95 Qw [93, 94]) (.or 11 false [10, 9] (xo 96 (.bslice 1 1 false [(.int .i64 0)] [(0, (.t 95))])) (.or 12 false [11, 10, 9] (xo 97 (.build [(.slice none 0 0), (.slice none 0 0)] [(0, 1, (.t 96))])) (.or 13 false [11, 10, 9, 7, 6] (xo 98 (.build [(.string ⟨#[]⟩), (.slice none 0 0), (.slice none 0 0)] [(0, 1, (.t 92)), (1, 2, (.t 97))])) (.one 14 false [11, 10, 9, 7, 6] (xo 99 (.obslice 1 3 true [(.string ⟨#[]⟩), (.slice none 0 0), (.slice none 0 0)] [(0, (.t 98))])) (.one 15 true [14, 11, 10, 9, 7, 6] (xo 100 (.append 3 64 [(.string ⟨#[]⟩), (.slice none 0 0), (.slice none 0 0)] (.t 89) (.t 99))) (.one 16 false [] (nk 101 85) (.one 17 false [] (fa 102 2 101) (.one 18 true [15, 14, 11, 10, 9, 7, 6] (xs 1 102 100) (.done)))))) (.done)) (.done)) (.done)) (.done)) (.or 10 true [9] (cl 95 Qw [93, 94]) (.one 4 true [] (ld 89 1 88) (.or 11 false [10, 9] (xo 96 (.bslice 1 1 false [(.int .i64 0)] [(0, (.t 95))])) (.or 12 false [11, 10, 9] (xo 97 (.build [(.slice none 0 0), (.slice none 0 0)] [(0, 1, (.t 96))])) (.or 13 false [11, 10, 9, 7, 6] (xo 98 (.build [(.string ⟨#[]⟩), (.slice none 0 0), (.slice none 0 0)] [(0, 1, (.t 92)), (1, 2, (.t 97))])) (.one 14 false [11, 10, 9, 7, 6] (xo 99 (.obslice 1 3 true [(.string ⟨#[]⟩), (.slice none 0 0), (.slice none 0 0)] [(0, (.t 98))])) (.one 15 true [14, 11, 10, 9, 7, 6] (xo 100 (.append 3 64 [(.string ⟨#[]⟩), (.slice none 0 0), (.slice none 0 0)] (.t 89) (.t 99))) (.one 16 false [] (nk 101 85) (.one 17 false [] (fa 102 2 101) (.one 18 true [15, 14, 11, 10, 9, 7, 6] (xs 1 102 100) (.done)))))) (.done)) (.done)) (.done))) (.done))) (.done))) (.or 9 false [] (xo 94 (.bslice 2 1 false [(.int .i64 0)] [(0, (.c (V.int (-1)))), (1, (.c (V.int 3)))])) (.or 4 true [] (ld 89 1 88) (.or 7 true [6] (cl 92 QC [90, 91]) (.or 10 true [9] (cl 95 Qw [93, 94]) (.or 11 false [10, 9] (xo 96 (.bslice 1 1 false [(.int .i64 0)] [(0, (.t 95))])) (.or 12 false [11, 10, 9] (xo 97 (.build [(.slice none 0 0), (.slice none 0 0)] [(0, 1, (.t 96))])) (.or 13 false [11, 10, 9, 7, 6] (xo 98 (.build [(.string ⟨#[]⟩), (.slice none 0 0), (.slice none 0 0)] [(0, 1, (.t 92)), (1, 2, (.t 97))])) (.one 14 false [11, 10, 9, 7, 6] (xo 99 (.obslice 1 3 true [(.string ⟨#[]⟩), (.slice none 0 0), (.slice none 0 0)] [(0, (.t 98))])) (.one 15 true [14, 11, 10, 9, 7, 6] (xo 100 (.append 3 64 [(.string ⟨#[]⟩), (.slice none 0 0), (.slice none 0 0)] (.t 89) (.t 99))) (.one 16 false [] (nk 101 85) (.one 17 false [] (fa 102 2 101) (.one 18 true [15, 14, 11, 10, 9, 7, 6] (xs 1 102 100) (.done)))))) (.done)) (.done)) (.done)) (.done)) (.done)) (.or 7 true [6] (cl 92 QC [90, 91]) (.or 4 true [] (ld 89 1 88) (.or 10 true [9] (cl 95 Qw [93, 94]) (.or 11 false [10, 9] (xo 96 (.bslice 1 1 false [(.int .i64 0)] [(0, (.t 95))])) (.or 12 false [11, 10, 9] (xo 97 (.build [(.slice none 0 0), (.slice none 0 0)] [(0, 1, (.t 96))])) (.or 13 false [11, 10, 9, 7, 6] (xo 98 (.build [(.string ⟨#[]⟩), (.slice none 0 0), (.slice none 0 0)] [(0, 1, (.t 92)), (1, 2, (.t 97))])) (.one 14 false [11, 10, 9, 7, 6] (xo 99 (.obslice 1 3 true [(.string ⟨#[]⟩), (.slice none 0 0), (.slice none 0 0)] [(0, (.t 98))])) (.one 15 true [14, 11, 10, 9, 7, 6] (xo 100 (.append 3 64 [(.string ⟨#[]⟩), (.slice none 0 0), (.slice none 0 0)] (.t 89) (.t 99))) (.one 16 false [] (nk 101 85) (.one 17 false [] (fa 102 2 101) (.one 18 true [15, 14, 11, 10, 9, 7, 6] (xs 1 102 100) (.done)))))) (.done)) (.done)) (.done)) (.done)) (.or 10 true [9] (cl 95 Qw [93, 94]) (.one 4 true [] (ld 89 1 88) (.or 11 false [10, 9] (xo 96 (.bslice 1 1 false [(.int .i64 0)] [(0, (.t 95))])) (.or 12 false [11, 10, 9] (xo 97 (.build [(.slice none 0 0), (.slice none 0 0)] [(0, 1, (.t 96))])) (.or 13 false [11, 10, 9, 7, 6] (xo 98 (.build [(.string ⟨#[]⟩), (.slice none 0 0), (.slice none 0 0)] [(0, 1, (.t 92)), (1, 2, (.t 97))])) (.one 14 false [11, 10, 9, 7, 6] (xo 99 (.obslice 1 3 true [(.string ⟨#[]⟩), (.slice none 0 0), (.slice none 0 0)] [(0, (.t 98))])) (.one 15 true [14, 11, 10, 9, 7, 6] (xo 100 (.append 3 64 [(.string ⟨#[]⟩), (.slice none 0 0), (.slice none 0 0)] (.t 89) (.t 99))) (.one 16 false [] (nk 101 85) (.one 17 false [] (fa 102 2 101) (.one 18 true [15, 14, 11, 10, 9, 7, 6] (xs 1 102 100) (.done)))))) (.done)) (.done)) (.done))) (.done))) (.done))) (.done)))) (.or 9 false [] (xo 94 (.bslice 2 1 false [(.int .i64 0)] [(0, (.c (V.int (-1)))), (1, (.c (V.int 3)))])) (.or 4 true [] (ld 89 1 88) (.or 6 false [] (xo 91 (.bslice 3 1 false [(.string ⟨#[]⟩)] [(0, (.c (V.str []))), (1, (.c (V.str [110, 111, 110, 101]))), (2, (.c (V.str [120, 32, 121])))])) (.or 7 true [6] (cl 92 QC [90, 91]) (.or 10 true [9] (cl 95 Qw [93, 94]) (.or 11 false [10, 9] (xo 96 (.bslice 1 1 false [(.int .i64 0)] [(0, (.t 95))])) (.or 12 false [11, 10, 9] (xo 97 (.build [(.slice none 0 0), (.slice none 0 0)] [(0, 1, (.t 96))])) (.or 13 false [11, 10, 9, 7, 6] (xo 98 (.build [(.string ⟨#[]⟩), (.slice none 0 0), (.slice none 0 0)] [(0, 1, (.t 92)), (1, 2, (.t 97))])) (.one 14 false [11, 10, 9, 7, 6] (xo 99 (.obslice 1 3 true [(.string ⟨#[]⟩), (.slice none 0 0), (.slice none 0 0)] [(0, (.t 98))])) (.one 15 true [14, 11, 10, 9, 7, 6] (xo 100 (.append 3 64 [(.string ⟨#[]⟩), (.slice none 0 0), (.slice none 0 0)] (.t 89) (.t 99))) (.one 16 false [] (nk 101 85) (.one 17 false [] (fa 102 2 101) (.one 18 true [15, 14, 11, 10, 9, 7, 6] (xs 1 102 100) (.done)))))) (.done)) (.done)) (.done)) (.done)) (.done)) (.done)) (.or 6 false [] (xo 91 (.bslice 3 1 false [(.string ⟨#[]⟩)] [(0, (.c (V.str []))), (1, (.c (V.str [110, 111, 110, 101]))), (2, (.c (V.str [120, 32, 121])))])) (.or 4 true [] (ld 89 1 88) (.or 7 true [6] (cl 92 QC [90, 91]) (.or 10 true [9] (cl 95 Qw [93, 94]) (.or 11 false [10, 9] (xo 96 (.bslice 1 1 false [(.int .i64 0)] [(0, (.t 95))])) (.or 12 false [11, 10, 9] (xo 97 (.build [(.slice none 0 0), (.slice none 0 0)] [(0, 1, (.t 96))])) (.or 13 false [11, 10, 9, 7, 6] (xo 98 (.build [(.string ⟨#[]⟩), (.slice none 0 0), (.slice none 0 0)] [(0, 1, (.t 92)), (1, 2, (.t 97))])) (.one 14 false [11, 10, 9, 7, 6] (xo 99 (.obslice 1 3 true [(.string ⟨#[]⟩), (.slice none 0 0), (.slice none 0 0)] [(0, (.t 98))])) (.one 15 true [14, 11, 10, 9, 7, 6] (xo 100 (.append 3 64 [(.string ⟨#[]⟩), (.slice none 0 0), (.slice none 0 0)] (.t 89) (.t 99))) (.one 16 false [] (nk 101 85) (.one 17 false [] (fa 102 2 101) (.one 18 true [15, 14, 11, 10, 9, 7, 6] (xs 1 102 100) (.done)))))) (.done)) (.done)) (.done)) (.done)) (.done)) (.or 7 true [6] (cl 92 QC [90, 91]) (.or 4 true [] (ld 89 1 88) (.or 10 true [9] (cl 95 Qw [93, 94]) (.or 11 false [10, 9] (xo 96 (.bslice 1 1 false [(.int .i64 0)] [(0, (.t 95))])) (.or 12 false [11, 10, 9] (xo 97 (.build [(.slice none 0 0), (.slice none 0 0)] [(0, 1, (.t 96))])) (.or 13 false [11, 10, 9, 7, 6] (xo 98 (.build [(.string ⟨#[]⟩), (.slice none 0 0), (.slice none 0 0)] [(0, 1, (.t 92)), (1, 2, (.t 97))])) (.one 14 false [11, 10, 9, 7, 6] (xo 99 (.obslice 1 3 true [(.string ⟨#[]⟩), (.slice none 0 0), (.slice none 0 0)] [(0, (.t 98))])) (.one 15 true [14, 11, 10, 9, 7, 6] (xo 100 (.append 3 64 [(.string ⟨#[]⟩), (.slice none 0 0), (.slice none 0 0)] (.t 89) (.t 99))) (.one 16 false [] (nk 101 85) (.one 17 false [] (fa 102 2 101) (.one 18 true [15, 14, 11, 10, 9, 7, 6] (xs 1 102 100) (.done)))))) (.done)) (.done)) (.done)) (.done)) (.or 10 true [9] (cl 95 Qw [93, 94]) (.one 4 true [] (ld 89 1 88) (.or 11 false [10, 9] (xo 96 (.bslice 1 1 false [(.int .i64 0)] [(0, (.t 95))])) (.or 12 false [11, 10, 9] (xo 97 (.build [(.slice none 0 0), (.slice none 0 0)] [(0, 1, (.t 96))])) (.or 13 false [11, 10, 9, 7, 6] (xo 98 (.build [(.string ⟨#[]⟩), (.slice none 0 0), (.slice none 0 0)] [(0, 1, (.t 92)), (1, 2, (.t 97))])) (.one 14 false [11, 10, 9, 7, 6] (xo 99 (.obslice 1 3 true [(.string ⟨#[]⟩), (.slice none 0 0), (.slice none 0 0)] [(0, (.t 98))])) (.one 15 true [14, 11, 10, 9, 7, 6] (xo 100 (.append 3 64 [(.string ⟨#[]⟩), (.slice none 0 0), (.slice none 0 0)] (.t 89) (.t 99))) (.one 16 false [] (nk 101 85) (.one 17 false [] (fa 102 2 101) (.one 18 true [15, 14, 11, 10, 9, 7, 6] (xs 1 102 100) (.done)))))) (.done)) (.done)) (.done))) (.done))) (.done))) (.done))) (.done)))))))))
theorem QG (QC Qw : Nat) : okR (Vy QC Qw) VF [4, 7, 10] Vv = true := by kernel_rfl
theorem QD (QC Qw : Nat) : Y6 (ris (Vy QC Qw) VF [4, 7, 10]) Vv = Jb QC Qw := by kernel_rfl def c_law12_list (JB Q0 Qm QV QC Qw : Nat) : AC := QP [0] (.reg [xo 2 (.mknil 3)]) (QP [0, 3] (.reg [xo 9 (.bslice 5 1 false [(.string ⟨#[]⟩)] [(0, (.c (V.str [97, 112, 112]))), (1, (.c (V.str [99, 114, 121, 112, 116]))), (2, (.c (V.str [108, 105, 98]))), (3, (.c (V.str [115, 115, 108]))), (4, (.c (V.str [122, 105, 112])))]), mv 3 9]) (QP [0, 3, 4] (.reg [xo 4 (.mknil 3)]) (QP [0, 4] (QP [0, 3, 4, 5] (.reg [mc 5 (V.int 0)]) (.block 0 (VC [0, 3, 4, 5] (QP [0, 3, 4, 5] (QP [0, 3, 4, 5, 13] (.reg [mv 10 5, mv 11 3, ln 12 11, bn 13 .lss 10 12]) (.cond (.t 13) (.skip) (.exit 0))) (QP [0, 3, 4, 5] (.block 1 (QP [0, 3, 4, 5] (QP [0, 3, 4, 5, 17] (.reg [mv 16 0, xo 17 (.call JB [(.t 16), (.c (V.int 4))])]) (.cond (.t 17) (.exit 1) (.skip))) (QP [0, 3, 4, 5, 6] (aaM [5] Vx (Jd Q0) (VA Q0) VH) (QP [0, 3, 4, 5, 6] (QP [0, 3, 4, 5, 6, 7] (.reg [mv 25 0, xo 26 (.call Qm [(.t 25), (.c (V.int 3))]), mv 7 26]) (.block 2 (VC [0, 3, 4, 5, 6, 7] (QP [0, 3, 4, 5, 6, 7] (QP [0, 3, 4, 5, 6, 7, 28] (.reg [mv 27 7, bc 28 .gtr 27 (V.int 0)]) (.cond (.t 28) (.skip) (.exit 2))) (QP [0, 3, 4, 5, 6, 7] (.block 3 (aaM [1, 6, 7, 8, 10] Vw (Jc Qm QV) (Vz Qm QV) VG)) (.reg [mv 29 7, bc 30 .sub 29 (V.int 1), mv 7 30])))))) (.reg [mv 46 4, xo 47 (.load true 3 (.t 6)), xo 48 (.obslice 1 3 true [(.string ⟨#[]⟩), (.slice none 0 0), (.slice none 0 0)] [(0, (.t 47))]), xo 49 (.append 3 64 [(.string ⟨#[]⟩), (.slice none 0 0), (.slice none 0 0)] (.t 46) (.t 48)), mv 4 49]))))) (.reg [mv 14 5, bc 15 .add 14 (V.int 1), mv 5 15])))))) (QP [0, 4] (QP [0, 4, 52] (.reg [mv 50 4, ln 51 50, bc 52 .eql 51 (V.int 0)]) (.cond (.t 52) (QP [2] (.reg [mv 53 4, mv 2 53]) (.ret)) (.skip))) (QP [0, 4, 8] (.reg [mv 54 4, mv 55 0, mv 56 4, ln 57 56, cl 58 Qm [55, 57], ia 59 3 54 58, mv 8 59]) (QP [4] (QP [0, 4, 8, 61] (.reg [mv 60 0, xo 61 (.call Qm [(.t 60), (.c (V.int 16))])]) (.block 4 (QP [0, 4, 8, 61, 62] (.reg [bc 63 .eql 61 (V.int 0), mv 62 63]) (.cond (.t 62) (.reg [mv 64 8, mv 65 0, xo 66 (.bslice 3 1 false [(.string ⟨#[]⟩)] [(0, (.c (V.str []))), (1, (.c (V.str [97, 32, 98]))), (2, (.c (V.str [97, 112, 112])))]), cl 67 QC [65, 66], nk 68 64, fa 69 0 68, xs 1 69 67]) (QP [0, 4, 8, 61, 70] (.reg [bc 71 .eql 61 (V.int 1), mv 70 71]) (.cond (.t 70) (.reg [mv 72 8, xo 73 (.bslice 1 1 false [(.int .i64 0)] [(0, (.c (V.int (-1))))]), xo 74 (.bslice 5 1 false [(.int .i64 0)] [(0, (.c (V.int 1))), (1, (.c (V.int 2))), (2, (.c (V.int 3))), (3, (.c (V.int 4))), (4, (.c (V.int 5)))]), xo 75 (.bslice 1 1 false [(.int .i64 0)] [(0, (.c (V.int 100000)))]), xo 76 (.obslice 4 1 false [(.slice none 0 0)] [(0, (.c (.sc (.slice none 0 0)))), (1, (.t 73)), (2, (.t 74)), (3, (.t 75))]), mv 77 0, xo 78 (.call Qm [(.t 77), (.c (V.int 4))]), ia 79 1 76 78, ld 80 1 79, nk 81 72, fa 82 1 81, xs 1 82 80]) (QP [0, 4, 8, 61, 83] (.reg [bc 84 .eql 61 (V.int 2), mv 83 84]) (.cond (.t 83) (aaM [4, 7, 10] Vv (Jb QC Qw) (Vy QC Qw) VF) (QP [4, 8, 103] (.reg [bc 104 .eql 61 (V.int 3), mv 103 104]) (.cond (.t 103) (.reg [mv 105 8, xo 106 (.mkslice 3 64 true [(.string ⟨#[]⟩), (.slice none 0 0), (.slice none 0 0)] (.c (V.int 9)) (.c (V.int 9))), nk 107 105, fa 108 2 107, xs 1 108 106]) (.skip))))))))))) (QP [2] (.reg [mv 109 4, mv 2 109]) (.ret)))))))) def r_law12_list : List Xq := [.tmp 2]
def Uf (Γ : Env) (f : Nat) : Prop := ∀ (l : List Int) (k : Nat) (hl : l.length ≤ 400) (hk : k ≤ l.length), EvP Γ f [.ptr 0 0] [.box true (Jy l k)] (ab9 l)
theorem xn {Γ : Env} {f JB Q0 Qm QV QC Qw : Nat} (h : Has Γ.P f 110 (c_law12_list JB Q0 Qm QV QC Qw) r_law12_list) (Qo : Xn Γ JB) (Qp : Xz Γ Q0) (Qb : JQ Γ Qm) (QL : VI Γ QV) (Qq : Wk Γ QC) (Qs : Xy Γ Qw) : Uf Γ f := by
  intro l k hl hk
  refine jW h (by simp) fun C hC hm => ?_
  subst hC
  have hm : C.m = 1 := by simpa using hm
  unfold c_law12_list
  refine abz ?_
  refine Qe fun K' hK => ?_
  simp (maxSteps := 1000000) only [go_sem, Nat.reduceAdd, Nat.reduceMul, Nat.reduceEqDiff, Nat.reduceLeDiff, Nat.reduceLT, Nat.reduceSub, Int.reduceEq, Int.reduceBEq, Int.reduceLT, Int.reduceLE, Int.reduceAdd, Int.reduceToNat, reduceIte, reduceCtorEq]
  refine hK _ ?_
  clear hK
  clear K'
  (try simp only [go_sem, Nat.reduceAdd, Nat.reduceMul, Nat.reduceEqDiff, Nat.reduceLeDiff, Nat.reduceLT, Nat.reduceSub, Int.reduceEq, Int.reduceBEq, Int.reduceLT, Int.reduceLE, Int.reduceAdd, Int.reduceToNat, reduceIte, reduceCtorEq])
  refine Qe fun K' hK => ?_
  simp (maxSteps := 1000000) only [go_sem, Nat.reduceAdd, Nat.reduceMul, Nat.reduceEqDiff, Nat.reduceLeDiff, Nat.reduceLT, Nat.reduceSub, Int.reduceEq, Int.reduceBEq, Int.reduceLT, Int.reduceLE, Int.reduceAdd, Int.reduceToNat, reduceIte, reduceCtorEq]
  refine hK _ ?_
  clear hK
  clear K'
  (try simp only [go_sem, Nat.reduceAdd, Nat.reduceMul, Nat.reduceEqDiff, Nat.reduceLeDiff, Nat.reduceLT, Nat.reduceSub, Int.reduceEq, Int.reduceBEq, Int.reduceLT, Int.reduceLE, Int.reduceAdd, Int.reduceToNat, reduceIte, reduceCtorEq])
  refine Qe fun K' hK => ?_
  simp (maxSteps := 1000000) only [go_sem, Nat.reduceAdd, Nat.reduceMul, Nat.reduceEqDiff, Nat.reduceLeDiff, Nat.reduceLT, Nat.reduceSub, Int.reduceEq, Int.reduceBEq, Int.reduceLT, Int.reduceLE, Int.reduceAdd, Int.reduceToNat, reduceIte, reduceCtorEq]
  refine hK _ ?_
  clear hK
  clear K'
  (try simp only [go_sem, Nat.reduceAdd, Nat.reduceMul, Nat.reduceEqDiff, Nat.reduceLeDiff, Nat.reduceLT, Nat.reduceSub, Int.reduceEq, Int.reduceBEq, Int.reduceLT, Int.reduceLE, Int.reduceAdd, Int.reduceToNat, reduceIte, reduceCtorEq])
  refine acr (ι := List QB × Nat) (fun q => ab8 q.1 ∧ q.2 ≤ l.length) (fun q => Kg l q.1 q.2) (fun K' hK' => ?_) (fun q hq => ?_)
  · repeat' (first | refine Qe fun K' hK => ?_ | refine Qk fun K' hK => ?_ | refine Qy 9 (fun y => !decide (y = 0)) rfl (QI _) (QF _) fun K' hK => ?_ | refine Qz 9 (fun y => !decide (y = 0)) rfl (QI _) (QF _) fun K' hK => ?_ | refine Qy 16 (fun y => !decide (y = 0) && !decide (y = 3) && !decide (y = 4)) rfl (QH _ _) (QE _ _) fun K' hK => ?_ | refine Qz 16 (fun y => !decide (y = 0) && !decide (y = 3) && !decide (y = 4)) rfl (QH _ _) (QE _ _) fun K' hK => ?_ | refine Qy 19 (fun _ => false) rfl (QG _ _) (QD _ _) fun K' hK => ?_ | refine Qz 19 (fun _ => false) rfl (QG _ _) (QD _ _) fun K' hK => ?_ | refine Qf ?_ | refine Qj ?_ | refine Qa ?_ | ((first | refine Qi ⟨_, rfl, fun hc => ?_, fun hc => ?_⟩ | refine QY (fun hc => ?_) (fun hc => ?_) | refine QZ (fun hc => ?_) (fun hc => ?_)) <;> first | exact Bool.noConfusion hc | ((try simp only [znz] at hc); first | exact znf | skip)) | refine Qn ?_ | refine Qh ?_ | simp (maxSteps := 1000000) only [go_sem, Nat.reduceAdd, Nat.reduceMul, Nat.reduceEqDiff, Nat.reduceLeDiff, Nat.reduceLT, Nat.reduceSub, Int.reduceEq, Int.reduceBEq, Int.reduceLT, Int.reduceLE, Int.reduceAdd, Int.reduceToNat, reduceIte, reduceCtorEq, Jd, Jc, Jb] | (refine hK _ ?_; clear hK; clear K') | refine And.intro ?_ ?_ | (apply YX; (focus exact rfl); (focus first | exact (Qo _ _ _ zsd zsd zsd zsd) | exact (Qp _ _ zsd zsd) | exact (Qb _ _ _ zsd zsd) | exact (QL _ _ zsd zsd) | exact (Qq _ _ _ zsd zsd zsd zsd) | exact (Qs _ _ _ zsd zsd zsd zsd)); (focus exact rfl); (focus exact rfl)) | (apply XI; (focus exact rfl); (focus first | exact rfl | decide); (focus first | exact rfl | decide); (focus first | exact (Qo _ _ _ zsd zsd zsd zsd) | exact (Qp _ _ zsd zsd) | exact (Qb _ _ _ zsd zsd) | exact (QL _ _ zsd zsd) | exact (Qq _ _ _ zsd zsd zsd zsd) | exact (Qs _ _ _ zsd zsd zsd zsd)); (focus exact rfl); (focus exact rfl); (focus first | exact rfl | decide)) | exact zlo | omega | exact zms)
    refine Wf (ι := List QB × Nat × Nat) (fun q => ab8 q.1 ∧ q.1.length ≤ q.2.2 ∧ q.2.1 ≤ l.length ∧ q.2.2 ≤ 5) (fun q => vp l q.1 q.2.1 q.2.2) (fun q => 6 - q.2.2) ([], k, 0) ⟨⟨by simp, by simp⟩, by simp, hk, by simp⟩ (Ja [(1, 1001), (2, 3001)])
      (XW [(1, 1001), (2, 3001)] (by simp only [go_sem, Nat.reduceAdd, Nat.reduceMul, Nat.reduceEqDiff, Nat.reduceLT, Int.reduceToNat, reduceIte, reduceCtorEq, and_true, true_and, implies_true, Option.some.injEq, exists_eq_left', QJ, QU]; (repeat' (first | rfl | refine And.intro ?_ ?_ | omega | exact fun h => h | exact Exists.intro _ rfl))) (by simp only [go_sem, Nat.reduceAdd, Nat.reduceMul, Nat.reduceEqDiff, Nat.reduceLT, Int.reduceToNat, reduceIte, reduceCtorEq, and_true, true_and, implies_true, Option.some.injEq, exists_eq_left', QJ, QU]; (repeat' (first | rfl | refine And.intro ?_ ?_ | omega | exact fun h => h | exact Exists.intro _ rfl)); all_goals first | exact trivial | (refine UF _ _ ?_; simp only [V.closed])) (by simp [Yj]) (by omega) (by simp [Yj]) (fun a b _ _ => by simp only [Ja]; (repeat' split) <;> omega) (by simp; omega) (by omega)) fun q hq K2 hK2 => ?_
    obtain ⟨ps, k1, i⟩ := q
    obtain ⟨hok, hlen, hk1, hi5⟩ := hq
    dsimp only at hok hlen hk1 hi5
    by_cases hi : i = 5
    · subst hi
      repeat' (first | refine Qe fun K' hK => ?_ | refine Qk fun K' hK => ?_ | refine Qy 9 (fun y => !decide (y = 0)) rfl (QI _) (QF _) fun K' hK => ?_ | refine Qz 9 (fun y => !decide (y = 0)) rfl (QI _) (QF _) fun K' hK => ?_ | refine Qy 16 (fun y => !decide (y = 0) && !decide (y = 3) && !decide (y = 4)) rfl (QH _ _) (QE _ _) fun K' hK => ?_ | refine Qz 16 (fun y => !decide (y = 0) && !decide (y = 3) && !decide (y = 4)) rfl (QH _ _) (QE _ _) fun K' hK => ?_ | refine Qy 19 (fun _ => false) rfl (QG _ _) (QD _ _) fun K' hK => ?_ | refine Qz 19 (fun _ => false) rfl (QG _ _) (QD _ _) fun K' hK => ?_ | refine Qf ?_ | refine Qj ?_ | refine Qa ?_ | ((first | refine Qi ⟨_, rfl, fun hc => ?_, fun hc => ?_⟩ | refine QY (fun hc => ?_) (fun hc => ?_) | refine QZ (fun hc => ?_) (fun hc => ?_)) <;> first | exact Bool.noConfusion hc | ((try simp only [znz] at hc); first | exact znf | skip)) | refine Qn ?_ | refine Qh ?_ | simp (maxSteps := 1000000) only [go_sem, Nat.reduceAdd, Nat.reduceMul, Nat.reduceEqDiff, Nat.reduceLeDiff, Nat.reduceLT, Nat.reduceSub, Int.reduceEq, Int.reduceBEq, Int.reduceLT, Int.reduceLE, Int.reduceAdd, Int.reduceToNat, reduceIte, reduceCtorEq, vp, XZ, Yy, Jd, Jc, Jb] | (refine hK _ ?_; clear hK; clear K') | refine And.intro ?_ ?_ | (apply YX; (focus exact rfl); (focus first | exact (Qo _ _ _ zsd zsd zsd zsd) | exact (Qp _ _ zsd zsd) | exact (Qb _ _ _ zsd zsd) | exact (QL _ _ zsd zsd) | exact (Qq _ _ _ zsd zsd zsd zsd) | exact (Qs _ _ _ zsd zsd zsd zsd)); (focus exact rfl); (focus exact rfl)) | (apply XI; (focus exact rfl); (focus first | exact rfl | decide); (focus first | exact rfl | decide); (focus first | exact (Qo _ _ _ zsd zsd zsd zsd) | exact (Qp _ _ zsd zsd) | exact (Qb _ _ _ zsd zsd) | exact (QL _ _ zsd zsd) | exact (Qq _ _ _ zsd zsd zsd zsd) | exact (Qs _ _ _ zsd zsd zsd zsd)); (focus exact rfl); (focus exact rfl); (focus first | exact rfl | decide)) | exact zlo | omega | exact zms)
      refine hK' _ (ps, k1) (Ja []) ⟨hok, hk1⟩ (XW [] (by simp only [go_sem, Nat.reduceAdd, Nat.reduceMul, Nat.reduceEqDiff, Nat.reduceLT, Int.reduceToNat, reduceIte, reduceCtorEq, and_true, true_and, implies_true, Option.some.injEq, exists_eq_left', QJ, QU]; (repeat' (first | rfl | refine And.intro ?_ ?_ | omega | exact fun h => h | exact Exists.intro _ rfl))) (fun p hp => ?_) (WW fun i _ => by simp only [Ja, St.keep, JK]) (by omega) (by rw [J9]; show 100 + ps.length ≤ 200; omega) (fun a b _ _ h => h) (by simp) (by omega))
      simp only [List.mem_cons, List.not_mem_nil, or_false] at hp
      rcases hp with rfl | rfl
      · exact ⟨_, rfl, j0⟩
      · exact ⟨_, rfl, KS (fun _ _ => rfl) (by omega)⟩
    · have e1 : decide ((i : Int) < 5) = true := decide_eq_true (by omega)
      have n1 := Qo l k1 4 hl hk1 (by omega) (by omega)
      have hk2 := Yx (l := l) (k := k1) (n := 4) hk1
      generalize JE l k1 4 = w at *
      obtain ⟨x, k2⟩ := w
      simp only [Jy] at n1 hk2 ⊢
      cases hx : (x == 4 - 1)
      · obtain ⟨nm, hnm, hnl⟩ := yK (show i < 5 by omega)
        have hnv : aa8[i]? = some (V.str nm) := by show (vj.map V.str)[i]? = _; rw [List.getElem?_map, hnm]; rfl
        have n2 := Qp l k2 hl hk2
        have hk3 := aaB (l := l) hk2
        have hv4 := (KM (aaA l k2)).2.1
        generalize wt l k2 = u at *
        obtain ⟨ver, k3⟩ := u
        have n3 := Qb l k3 3 hl hk3
        have hk4 := Yx (l := l) (k := k3) (n := 3) hk3
        have hr3 := J2 (l := l) (k := k3) (n := 3) (by omega) (by omega)
        generalize JE l k3 3 = w at *
        obtain ⟨c0, k4⟩ := w
        simp only [Jy] at n2 n3 hk3 hk4 hv4 hr3 ⊢
        obtain ⟨c0, rfl⟩ : ∃ j : Nat, c0 = (j : Int) := ⟨c0.toNat, by omega⟩
        repeat' (first | refine Qe fun K' hK => ?_ | refine Qk fun K' hK => ?_ | refine Qy 9 (fun y => !decide (y = 0)) rfl (QI _) (QF _) fun K' hK => ?_ | refine Qz 9 (fun y => !decide (y = 0)) rfl (QI _) (QF _) fun K' hK => ?_ | refine Qy 16 (fun y => !decide (y = 0) && !decide (y = 3) && !decide (y = 4)) rfl (QH _ _) (QE _ _) fun K' hK => ?_ | refine Qz 16 (fun y => !decide (y = 0) && !decide (y = 3) && !decide (y = 4)) rfl (QH _ _) (QE _ _) fun K' hK => ?_ | refine Qy 19 (fun _ => false) rfl (QG _ _) (QD _ _) fun K' hK => ?_ | refine Qz 19 (fun _ => false) rfl (QG _ _) (QD _ _) fun K' hK => ?_ | refine Qf ?_ | refine Qj ?_ | refine Qa ?_ | ((first | refine Qi ⟨_, rfl, fun hc => ?_, fun hc => ?_⟩ | refine QY (fun hc => ?_) (fun hc => ?_) | refine QZ (fun hc => ?_) (fun hc => ?_)) <;> first | exact Bool.noConfusion hc | ((try simp only [znz] at hc); first | exact znf | skip)) | refine Qn ?_ | refine Qh ?_ | simp (maxSteps := 1000000) only [go_sem, Nat.reduceAdd, Nat.reduceMul, Nat.reduceEqDiff, Nat.reduceLeDiff, Nat.reduceLT, Nat.reduceSub, Int.reduceEq, Int.reduceBEq, Int.reduceLT, Int.reduceLE, Int.reduceAdd, Int.reduceToNat, reduceIte, reduceCtorEq, vp, XZ, Yy, e1, hx, hnv, Jy, Jd, Jc, Jb] | (refine hK _ ?_; clear hK; clear K') | refine And.intro ?_ ?_ | (apply YX; (focus exact rfl); (focus first | exact n1 | exact n2 | exact n3 | exact (Qo _ _ _ zsd zsd zsd zsd) | exact (Qp _ _ zsd zsd) | exact (Qb _ _ _ zsd zsd) | exact (QL _ _ zsd zsd) | exact (Qq _ _ _ zsd zsd zsd zsd) | exact (Qs _ _ _ zsd zsd zsd zsd)); (focus exact rfl); (focus exact rfl)) | (apply XI; (focus exact rfl); (focus first | exact rfl | decide); (focus first | exact rfl | decide); (focus first | exact n1 | exact n2 | exact n3 | exact (Qo _ _ _ zsd zsd zsd zsd) | exact (Qp _ _ zsd zsd) | exact (Qb _ _ _ zsd zsd) | exact (QL _ _ zsd zsd) | exact (Qq _ _ _ zsd zsd zsd zsd) | exact (Qs _ _ _ zsd zsd zsd zsd)); (focus exact rfl); (focus exact rfl); (focus first | exact rfl | decide)) | exact zlo | omega | exact zms)
        refine abC 13200 2 3 rfl rfl ?_
        refine Wf (ι := List Js × Nat × Nat) (fun q => (∀ x ∈ q.1, aa6 x) ∧ q.1.length + q.2.2 ≤ 3 ∧ q.2.1 ≤ l.length) (fun q => aa5 l ps nm ver q.1 q.2.1 i q.2.2) (fun q => q.2.2) ([], k4, c0) ⟨by simp, by simp; omega, hk4⟩ (Ja [(3, 13200), (4, 18200)])
          (XW [(3, 13200), (4, 18200)] (fun p hp => ?_) (fun p hp => ?_) (WW fun j hj => ?_) (by omega) (by rw [J9]; omega) (fun a b _ _ => by simp only [Ja]; (repeat' split) <;> omega) (by simp; omega) (by omega)) fun q hq K3 hK3 => ?_
        · simp only [List.mem_cons, List.not_mem_nil, or_false] at hp
          rcases hp with rfl | rfl | rfl | rfl | rfl | rfl
          · exact ⟨rfl, by show 0 < 200; omega⟩
          · exact ⟨rfl, by show 1 < 200; omega⟩
          · exact ⟨rfl, by show 2 < 200; omega⟩
          · exact ⟨rfl, trivial⟩
          · exact ⟨rfl, by show 3 < 200; omega⟩
          · exact ⟨rfl, trivial⟩
        · simp only [List.mem_cons, List.not_mem_nil, or_false] at hp
          rcases hp with rfl | rfl | rfl | rfl | rfl
          · exact ⟨_, rfl, j0⟩
          · exact ⟨_, rfl, id, rfl, rfl⟩
          · exact ⟨_, rfl, KS (fun j hj => by simp only [Ja]; rw [if_neg (by omega), if_neg (by omega)]) (by omega)⟩
          · exact ⟨_, rfl, id, rfl, trivial, UF _ _ (by simp only [V.closed]), (by show 4 < 200; omega), trivial⟩
          · exact ⟨_, rfl, id, rfl, rfl⟩
        · have e5 : Ja [(3, 13200), (4, 18200)] (100 + j) = 100 + j := by simp only [Ja]; rw [if_neg (by omega), if_neg (by omega)]
          rw [e5]
          iterate 9 refine (QT _ _ (by first | omega | (show _ ≠ 18200; omega))).trans ?_
          exact JK
        obtain ⟨ns, k5, c⟩ := q
        obtain ⟨hns, hnc, hk5⟩ := hq
        dsimp only at hns hnc hk5
        rcases c with _ | c
        · repeat' (first | refine Qe fun K' hK => ?_ | refine Qk fun K' hK => ?_ | refine Qy 9 (fun y => !decide (y = 0)) rfl (QI _) (QF _) fun K' hK => ?_ | refine Qz 9 (fun y => !decide (y = 0)) rfl (QI _) (QF _) fun K' hK => ?_ | refine Qy 16 (fun y => !decide (y = 0) && !decide (y = 3) && !decide (y = 4)) rfl (QH _ _) (QE _ _) fun K' hK => ?_ | refine Qz 16 (fun y => !decide (y = 0) && !decide (y = 3) && !decide (y = 4)) rfl (QH _ _) (QE _ _) fun K' hK => ?_ | refine Qy 19 (fun _ => false) rfl (QG _ _) (QD _ _) fun K' hK => ?_ | refine Qz 19 (fun _ => false) rfl (QG _ _) (QD _ _) fun K' hK => ?_ | refine Qf ?_ | refine Qj ?_ | refine Qa ?_ | ((first | refine Qi ⟨_, rfl, fun hc => ?_, fun hc => ?_⟩ | refine QY (fun hc => ?_) (fun hc => ?_) | refine QZ (fun hc => ?_) (fun hc => ?_)) <;> first | exact Bool.noConfusion hc | ((try simp only [znz] at hc); first | exact znf | skip)) | refine Qn ?_ | refine Qh ?_ | simp (maxSteps := 1000000) only [go_sem, Nat.reduceAdd, Nat.reduceMul, Nat.reduceEqDiff, Nat.reduceLeDiff, Nat.reduceLT, Nat.reduceSub, Int.reduceEq, Int.reduceBEq, Int.reduceLT, Int.reduceLE, Int.reduceAdd, Int.reduceToNat, reduceIte, reduceCtorEq, aa5, XZ, Yy, Jd, Jc, Jb] | (refine hK _ ?_; clear hK; clear K') | refine And.intro ?_ ?_ | (apply YX; (focus exact rfl); (focus first | exact (Qo _ _ _ zsd zsd zsd zsd) | exact (Qp _ _ zsd zsd) | exact (Qb _ _ _ zsd zsd) | exact (QL _ _ zsd zsd) | exact (Qq _ _ _ zsd zsd zsd zsd) | exact (Qs _ _ _ zsd zsd zsd zsd)); (focus exact rfl); (focus exact rfl)) | (apply XI; (focus exact rfl); (focus first | exact rfl | decide); (focus first | exact rfl | decide); (focus first | exact (Qo _ _ _ zsd zsd zsd zsd) | exact (Qp _ _ zsd zsd) | exact (Qb _ _ _ zsd zsd) | exact (QL _ _ zsd zsd) | exact (Qq _ _ _ zsd zsd zsd zsd) | exact (Qs _ _ _ zsd zsd zsd zsd)); (focus exact rfl); (focus exact rfl); (focus first | exact rfl | decide)) | exact zlo | omega | exact zms)
          have ew : IntKind.i64.wrap ((i : Int) + 1) = ((i + 1 : Nat) : Int) := by rw [Wq (by omega) (by omega)]; omega
          rw [ew]
          have hp : adK ⟨nm, ver, ns⟩ := ⟨hnl, (by show ver.length ≤ 5; omega), (by show ns.length ≤ 3; omega), hns⟩
          have tz : ∀ a, a ≠ 2 → a ≠ 100 + ps.length → a ≠ 4 → Ja [(2, 5200), (100 + ps.length, 4), (4, 9999)] a = a := fun a h1 h2 h3 => by
            simp only [Ja]; rw [if_neg (by omega), if_neg (by omega), if_neg (by omega)]
          have tn : Ja [(2, 5200), (100 + ps.length, 4), (4, 9999)] (100 + ps.length) = 4 := by
            simp only [Ja]; rw [if_neg (by omega)]; simp
          refine hK2 _ (ps ++ [⟨nm, ver, ns⟩], k5, i + 1) (Ja [(2, 5200), (100 + ps.length, 4), (4, 9999)]) ⟨⟨(by simp; omega), fun p hpm => (by
              rcases List.mem_append.1 hpm with h1 | h1
              · exact hok.2 p h1
              · rw [List.mem_singleton.1 h1]; exact hp)⟩, (by simp; omega), hk5, (by show i + 1 ≤ 5; omega)⟩ (by show 6 - (i + 1) < 6 - i; omega)
            (XW [(2, 5200), (100 + ps.length, 4), (4, 9999)] (fun p hpm => ?_) (fun p hpm => ?_) (WW fun j hj => ?_) (by omega) (by rw [J9]; simp; omega) (fun a b _ _ => by simp only [Ja]; (repeat' split) <;> omega) (by simp; omega) (by omega))
          · simp only [List.mem_cons, List.not_mem_nil, or_false] at hpm
            rcases hpm with rfl | rfl | rfl | rfl
            · refine ⟨?_, ?_⟩
              · show V.ptr 0 0 = V.ptr (Ja _ 0) 0; rw [tz 0 (by omega) (by omega) (by omega)]
              · show 0 < 200; omega
            · refine ⟨?_, ?_⟩
              · show V.hd 1 0 5 = V.hd (Ja _ 1) 0 5; rw [tz 1 (by omega) (by omega) (by omega)]
              · show 1 < 200; omega
            · refine ⟨?_, ?_⟩
              · show V.hd 5200 0 (ps.length + 1) = V.hd 5200 0 (ps ++ [_]).length; simp
              · show 2 < 200; omega
            · exact ⟨rfl, trivial⟩
          · simp only [List.mem_cons, List.not_mem_nil, or_false] at hpm
            rcases hpm with rfl | rfl | rfl
            · refine ⟨_, ?_, j0 (l := l) (k := k5)⟩
              simp only [tz 0 (by omega) (by omega) (by omega)]; rfl
            · refine ⟨.buf true 1 aa8, ?_, id, rfl, rfl⟩
              simp only [tz 1 (by omega) (by omega) (by omega)]; rfl
            · refine ⟨_, rfl, id, rfl, ?_, y6 _ _ _ (by simp; omega)⟩
              rw [vf, List.take_of_length_le (by rw [YK]; omega)]
              rw [show ∀ (τ : Nat → Nat) (xs ys : List V), W3 τ (xs ++ ys) = W3 τ xs ++ W3 τ ys from fun τ xs ys => by induction xs with | nil => rfl | cons x xs ih => simp only [List.cons_append, W3, ih]]
              rw [y5 ps 100 (fun j hj => tz (100 + j) (by omega) (by omega) (by omega))]
              simp only [W3, QB.own, V.ren, tn]
          · by_cases hj2 : j = ps.length
            · subst hj2
              rw [tn]
              have e6 : (Yj (ps ++ [⟨nm, ver, ns⟩]))[ps.length]? = some (.buf true 3 (ns.map Js.v)) := by simp [Yj]
              rw [e6]; rfl
            · have hj3 : j < ps.length := by simp at hj; omega
              rw [tz (100 + j) (by omega) (by omega) (by omega)]
              iterate 3 refine (QT _ _ (by omega)).trans ?_
              refine JK.trans ?_
              simp only [Yj, List.map_append]
              rw [List.getElem?_append_left (by simpa using hj3)]
        · have e2 : decide (((c + 1 : Nat) : Int) > 0) = true := decide_eq_true (by omega)
          have ew : IntKind.i64.wrap (((c + 1 : Nat) : Int) - 1) = (c : Int) := by rw [Wq (by omega) (by omega)]; omega
          have n4 := Qb l k5 5 hl hk5
          have hk6 := Yx (l := l) (k := k5) (n := 5) hk5
          have hr6 := J2 (l := l) (k := k5) (n := 5) (by omega) (by omega)
          generalize JE l k5 5 = w2 at *
          obtain ⟨x6, k6⟩ := w2
          obtain ⟨x6, rfl⟩ : ∃ j : Nat, x6 = (j : Int) := ⟨x6.toNat, by simp only at hr6; omega⟩
          simp only at hk6 hr6
          obtain ⟨mn, hmn, hml⟩ := yK (show x6 < 5 by omega)
          have hmv : aa8[x6]? = some (V.str mn) := by show (vj.map V.str)[x6]? = _; rw [List.getElem?_map, hmn]; rfl
          have n5 := QL l k6 hl hk6
          have hk7 := xi (l := l) (xi (l := l) hk6)
          have hb1 := xV l k6
          have hb2 := xV l (WZ l k6).2
          simp only [wj, yA] at n5
          generalize (WZ l (WZ l k6).2) = w3 at *
          generalize (WZ l k6) = w4 at *
          obtain ⟨up, k7⟩ := w3
          obtain ⟨lo, k8⟩ := w4
          simp only [Jy] at n4 n5 hk7 hb1 hb2 ⊢
          have hbk : List.take ns.length (ns.map Js.v) ++ [V.agg [V.str mn, V.sl 1 (lo.map V.int), V.sl 1 (up.map V.int)]] = (ns ++ [(⟨mn, lo, up⟩ : Js)]).map Js.v := by
            rw [List.take_of_length_le (by simp), List.map_append]; rfl
          repeat' (first | refine Qe fun K' hK => ?_ | refine Qk fun K' hK => ?_ | refine Qy 9 (fun y => !decide (y = 0)) rfl (QI _) (QF _) fun K' hK => ?_ | refine Qz 9 (fun y => !decide (y = 0)) rfl (QI _) (QF _) fun K' hK => ?_ | refine Qy 16 (fun y => !decide (y = 0) && !decide (y = 3) && !decide (y = 4)) rfl (QH _ _) (QE _ _) fun K' hK => ?_ | refine Qz 16 (fun y => !decide (y = 0) && !decide (y = 3) && !decide (y = 4)) rfl (QH _ _) (QE _ _) fun K' hK => ?_ | refine Qy 19 (fun _ => false) rfl (QG _ _) (QD _ _) fun K' hK => ?_ | refine Qz 19 (fun _ => false) rfl (QG _ _) (QD _ _) fun K' hK => ?_ | refine Qf ?_ | refine Qj ?_ | refine Qa ?_ | ((first | refine Qi ⟨_, rfl, fun hc => ?_, fun hc => ?_⟩ | refine QY (fun hc => ?_) (fun hc => ?_) | refine QZ (fun hc => ?_) (fun hc => ?_)) <;> first | exact Bool.noConfusion hc | ((try simp only [znz] at hc); first | exact znf | skip)) | refine Qn ?_ | refine Qh ?_ | simp (maxSteps := 1000000) only [go_sem, Nat.reduceAdd, Nat.reduceMul, Nat.reduceEqDiff, Nat.reduceLeDiff, Nat.reduceLT, Nat.reduceSub, Int.reduceEq, Int.reduceBEq, Int.reduceLT, Int.reduceLE, Int.reduceAdd, Int.reduceToNat, reduceIte, reduceCtorEq, aa5, XZ, Yy, e2, ew, hmv, Jy, Jd, Jc, Jb] | (refine hK _ ?_; clear hK; clear K') | refine And.intro ?_ ?_ | (apply YX; (focus exact rfl); (focus first | exact n4 | exact n5 | exact (Qo _ _ _ zsd zsd zsd zsd) | exact (Qp _ _ zsd zsd) | exact (Qb _ _ _ zsd zsd) | exact (QL _ _ zsd zsd) | exact (Qq _ _ _ zsd zsd zsd zsd) | exact (Qs _ _ _ zsd zsd zsd zsd)); (focus exact rfl); (focus exact rfl)) | (apply XI; (focus exact rfl); (focus first | exact rfl | decide); (focus first | exact rfl | decide); (focus first | exact n4 | exact n5 | exact (Qo _ _ _ zsd zsd zsd zsd) | exact (Qp _ _ zsd zsd) | exact (Qb _ _ _ zsd zsd) | exact (QL _ _ zsd zsd) | exact (Qq _ _ _ zsd zsd zsd zsd) | exact (Qs _ _ _ zsd zsd zsd zsd)); (focus exact rfl); (focus exact rfl); (focus first | exact rfl | decide)) | exact zlo | omega | exact zms)
          all_goals
            refine hK3 _ (ns ++ [⟨mn, lo, up⟩], k7, c) (Ja [(4, 15200)]) ⟨fun x hxm => (by
                rcases List.mem_append.1 hxm with h1 | h1
                · exact hns x h1
                · rw [List.mem_singleton.1 h1]; exact ⟨hml, hb1, hb2⟩), (by simp; omega), hk7⟩ (by show c < c + 1; omega)
              (XW [(4, 15200)] (fun p hp => ?_) (fun p hp => ?_) (WW fun j hj => ?_) (by omega) (by rw [J9]; omega) (fun a b _ _ => by simp only [Ja]; (repeat' split) <;> omega) (by simp; omega) (by omega))
            · simp only [List.mem_cons, List.not_mem_nil, or_false] at hp
              rcases hp with rfl | rfl | rfl | rfl | rfl | rfl
              · exact ⟨rfl, by show 0 < 200; omega⟩
              · exact ⟨rfl, by show 1 < 200; omega⟩
              · exact ⟨rfl, by show 2 < 200; omega⟩
              · exact ⟨rfl, trivial⟩
              · exact ⟨rfl, by show 3 < 200; omega⟩
              · exact ⟨rfl, trivial⟩
            · simp only [List.mem_cons, List.not_mem_nil, or_false] at hp
              rcases hp with rfl | rfl | rfl | rfl | rfl
              · exact ⟨_, rfl, j0⟩
              · exact ⟨_, rfl, id, rfl, rfl⟩
              · exact ⟨_, rfl, KS (fun j hj => by simp only [Ja]; rw [if_neg (by omega)]) (by omega)⟩
              · exact ⟨_, rfl, id, (by show [_, _, V.hd 15200 0 (ns.length + 1)] = [_, _, V.hd 15200 0 (ns ++ [_]).length]; rw [List.length_append]; rfl), trivial, UF _ _ (by simp only [V.closed]), (by show 4 < 200; omega), trivial⟩
              · exact ⟨_, rfl, id, rfl, hbk, Kp _⟩
            · have e5 : Ja [(4, 15200)] (100 + j) = 100 + j := by simp only [Ja]; rw [if_neg (by omega)]
              rw [e5]
              iterate 6 refine (QT _ _ (by omega)).trans ?_
              exact JK
      · repeat' (first | refine Qe fun K' hK => ?_ | refine Qk fun K' hK => ?_ | refine Qy 9 (fun y => !decide (y = 0)) rfl (QI _) (QF _) fun K' hK => ?_ | refine Qz 9 (fun y => !decide (y = 0)) rfl (QI _) (QF _) fun K' hK => ?_ | refine Qy 16 (fun y => !decide (y = 0) && !decide (y = 3) && !decide (y = 4)) rfl (QH _ _) (QE _ _) fun K' hK => ?_ | refine Qz 16 (fun y => !decide (y = 0) && !decide (y = 3) && !decide (y = 4)) rfl (QH _ _) (QE _ _) fun K' hK => ?_ | refine Qy 19 (fun _ => false) rfl (QG _ _) (QD _ _) fun K' hK => ?_ | refine Qz 19 (fun _ => false) rfl (QG _ _) (QD _ _) fun K' hK => ?_ | refine Qf ?_ | refine Qj ?_ | refine Qa ?_ | ((first | refine Qi ⟨_, rfl, fun hc => ?_, fun hc => ?_⟩ | refine QY (fun hc => ?_) (fun hc => ?_) | refine QZ (fun hc => ?_) (fun hc => ?_)) <;> first | exact Bool.noConfusion hc | ((try simp only [znz] at hc); first | exact znf | skip)) | refine Qn ?_ | refine Qh ?_ | simp (maxSteps := 1000000) only [go_sem, Nat.reduceAdd, Nat.reduceMul, Nat.reduceEqDiff, Nat.reduceLeDiff, Nat.reduceLT, Nat.reduceSub, Int.reduceEq, Int.reduceBEq, Int.reduceLT, Int.reduceLE, Int.reduceAdd, Int.reduceToNat, reduceIte, reduceCtorEq, vp, XZ, Yy, e1, hx, Jy, Jd, Jc, Jb] | (refine hK _ ?_; clear hK; clear K') | refine And.intro ?_ ?_ | (apply YX; (focus exact rfl); (focus first | exact n1 | exact (Qo _ _ _ zsd zsd zsd zsd) | exact (Qp _ _ zsd zsd) | exact (Qb _ _ _ zsd zsd) | exact (QL _ _ zsd zsd) | exact (Qq _ _ _ zsd zsd zsd zsd) | exact (Qs _ _ _ zsd zsd zsd zsd)); (focus exact rfl); (focus exact rfl)) | (apply XI; (focus exact rfl); (focus first | exact rfl | decide); (focus first | exact rfl | decide); (focus first | exact n1 | exact (Qo _ _ _ zsd zsd zsd zsd) | exact (Qp _ _ zsd zsd) | exact (Qb _ _ _ zsd zsd) | exact (QL _ _ zsd zsd) | exact (Qq _ _ _ zsd zsd zsd zsd) | exact (Qs _ _ _ zsd zsd zsd zsd)); (focus exact rfl); (focus exact rfl); (focus first | exact rfl | decide)) | exact zlo | omega | exact zms)
        have ew : IntKind.i64.wrap ((i : Int) + 1) = ((i + 1 : Nat) : Int) := by rw [Wq (by omega) (by omega)]; omega
        rw [ew]
        refine hK2 _ (ps, k2, i + 1) (Ja []) ⟨hok, (by show ps.length ≤ i + 1; omega), hk2, (by show i + 1 ≤ 5; omega)⟩ (by show 6 - (i + 1) < 6 - i; omega) (XW [] (by simp only [go_sem, Nat.reduceAdd, Nat.reduceMul, Nat.reduceEqDiff, Nat.reduceLT, Int.reduceToNat, reduceIte, reduceCtorEq, and_true, true_and, implies_true, Option.some.injEq, exists_eq_left', QJ, QU]; (repeat' (first | rfl | refine And.intro ?_ ?_ | omega | exact fun h => h | exact Exists.intro _ rfl))) (fun p hp => ?_) (WW fun j _ => by show upd (abI _ _ _) 0 _ (100 + j) = _; unfold upd; rw [if_neg (by omega), JK]) (by omega) (by rw [J9]; show 100 + ps.length ≤ 200; omega) (fun a b _ _ h => h) (by simp) (by omega))
        simp only [List.mem_cons, List.not_mem_nil, or_false] at hp
        rcases hp with rfl | rfl | rfl
        · exact ⟨_, rfl, j0⟩
        · exact ⟨_, rfl, id, rfl, rfl⟩
        · exact ⟨_, rfl, KS (fun _ _ => rfl) (by omega)⟩
  · obtain ⟨ps, k1⟩ := q
    obtain ⟨hokS, hk1⟩ := hq
    dsimp only at hokS hk1
    have hok := hokS.ok
    have fin0 : ∀ (k' n : Nat), k' ≤ l.length → aav 1 r_law12_list (ab9 l) { t := Vm [(2, V.hd 2 0 ps.length)], o := abI [(0, Ob.box true (Jy l k')), (2, Ob.obuf true 3 (Wn 100 ps))] 100 (Yj ps), n := n } := fun k' n hk' => by
      unfold r_law12_list
      refine jZ (k := k') (X := 2) (xs := Wn 100 ps) (fun i => 100 + i) hok hk' rfl rfl rfl (YK _ _) (fun i p hp => ⟨.buf true 3 (p.needs.map Js.v), JK.trans (by rw [Yj, List.getElem?_map, hp]; rfl), fun h => h, rfl, ?_⟩) (fun i p hp => ⟨.sl 1 (p.ver.map V.int), by rw [VU, hp]; rfl, by simp [conv]⟩) (by omega) (fun i _ => ⟨by omega, by omega⟩) (fun i j _ _ h => by omega)
      rfl
    by_cases h0 : ps.length = 0
    · repeat' (first | refine Qe fun K' hK => ?_ | refine Qk fun K' hK => ?_ | refine Qy 9 (fun y => !decide (y = 0)) rfl (QI _) (QF _) fun K' hK => ?_ | refine Qz 9 (fun y => !decide (y = 0)) rfl (QI _) (QF _) fun K' hK => ?_ | refine Qy 16 (fun y => !decide (y = 0) && !decide (y = 3) && !decide (y = 4)) rfl (QH _ _) (QE _ _) fun K' hK => ?_ | refine Qz 16 (fun y => !decide (y = 0) && !decide (y = 3) && !decide (y = 4)) rfl (QH _ _) (QE _ _) fun K' hK => ?_ | refine Qy 19 (fun _ => false) rfl (QG _ _) (QD _ _) fun K' hK => ?_ | refine Qz 19 (fun _ => false) rfl (QG _ _) (QD _ _) fun K' hK => ?_ | refine Qf ?_ | refine Qj ?_ | refine Qa ?_ | ((first | refine Qi ⟨_, rfl, fun hc => ?_, fun hc => ?_⟩ | refine QY (fun hc => ?_) (fun hc => ?_) | refine QZ (fun hc => ?_) (fun hc => ?_)) <;> first | exact Bool.noConfusion hc | ((try simp only [znz] at hc); first | exact znf | skip)) | refine Qn ?_ | refine Qh ?_ | simp (maxSteps := 1000000) only [go_sem, Nat.reduceAdd, Nat.reduceMul, Nat.reduceEqDiff, Nat.reduceLeDiff, Nat.reduceLT, Nat.reduceSub, Int.reduceEq, Int.reduceBEq, Int.reduceLT, Int.reduceLE, Int.reduceAdd, Int.reduceToNat, reduceIte, reduceCtorEq, Kg, XZ, Yy, h0, Jd, Jc, Jb] | (refine hK _ ?_; clear hK; clear K') | refine And.intro ?_ ?_ | (apply YX; (focus exact rfl); (focus first | exact (Qo _ _ _ zsd zsd zsd zsd) | exact (Qp _ _ zsd zsd) | exact (Qb _ _ _ zsd zsd) | exact (QL _ _ zsd zsd) | exact (Qq _ _ _ zsd zsd zsd zsd) | exact (Qs _ _ _ zsd zsd zsd zsd)); (focus exact rfl); (focus exact rfl)) | (apply XI; (focus exact rfl); (focus first | exact rfl | decide); (focus first | exact rfl | decide); (focus first | exact (Qo _ _ _ zsd zsd zsd zsd) | exact (Qp _ _ zsd zsd) | exact (Qb _ _ _ zsd zsd) | exact (QL _ _ zsd zsd) | exact (Qq _ _ _ zsd zsd zsd zsd) | exact (Qs _ _ _ zsd zsd zsd zsd)); (focus exact rfl); (focus exact rfl); (focus first | exact rfl | decide)) | exact zlo | omega | exact zms)
      have := fin0 k1 5200 hk1
      rw [h0] at this
      exact ⟨_, Le.refl _, this⟩
    · have h1 : ¬ ((ps.length : Int) = 0) := by omega
      have hps := hok.1
      have n1 := Qb l k1 ps.length hl hk1
      have hk2 := Yx (l := l) (k := k1) (n := ps.length) hk1
      have hr2 := J2 (l := l) (k := k1) (n := ps.length) (by omega) (by omega)
      generalize JE l k1 ps.length = w at *
      obtain ⟨j, k2⟩ := w
      obtain ⟨j, rfl⟩ : ∃ i : Nat, j = (i : Int) := ⟨j.toNat, by simp only at hr2; omega⟩
      simp only at hk2 hr2
      have n2 := Qb l k2 16 hl hk2
      have hk3 := Yx (l := l) (k := k2) (n := 16) hk2
      have hr3 := J2 (l := l) (k := k2) (n := 16) (by omega) (by omega)
      generalize JE l k2 16 = w at *
      obtain ⟨x, k3⟩ := w
      simp only at hk3 hr3
      simp only [Jy] at n1 n2 ⊢
      obtain ⟨p, hp⟩ : ∃ p, ps[j]? = some p := ⟨ps[j]'(by omega), List.getElem?_eq_getElem (by omega)⟩
      have hpS := hokS.2 p (List.mem_of_getElem? hp)
      have hpo := hok.2 p (List.mem_of_getElem? hp)
      have hp3 : p.needs.length ≤ 3 := hpS.2.2.1
      have he : (Wn 100 ps)[j]? = some (.agg [V.str p.name, .sl 1 (p.ver.map V.int), .hd (100 + j) 0 p.needs.length]) := by rw [VU, hp]; rfl
      have hset : ∀ q : QB, xI q → KU (ps.set j q) := fun q hq => ⟨by simp; omega, fun y hy => by
        rcases List.mem_or_eq_of_mem_set hy with h2 | h2
        · exact hok.2 y h2
        · rw [h2]; exact hq⟩
      by_cases x0 : x = 0
      · subst x0
        have n3 := Qq l k3 [[], [97, 32, 98], [97, 112, 112]] hl hk3 (by simp) (by simp)
        have hk4 := w5 (l := l) (k := k3) (xs := [[], [97, 32, 98], [97, 112, 112]]) hk3
        have hwm := xw (l := l) (k := k3) (xs := [[], [97, 32, 98], [97, 112, 112]]) (by simp) (by simp)
        generalize hw : ye l k3 [[], [97, 32, 98], [97, 112, 112]] = u at *
        obtain ⟨wd, k4⟩ := u
        simp only [Jy, List.map_cons, List.map_nil] at n3 hk4 ⊢
        repeat' (first | refine Qe fun K' hK => ?_ | refine Qk fun K' hK => ?_ | refine Qy 9 (fun y => !decide (y = 0)) rfl (QI _) (QF _) fun K' hK => ?_ | refine Qz 9 (fun y => !decide (y = 0)) rfl (QI _) (QF _) fun K' hK => ?_ | refine Qy 16 (fun y => !decide (y = 0) && !decide (y = 3) && !decide (y = 4)) rfl (QH _ _) (QE _ _) fun K' hK => ?_ | refine Qz 16 (fun y => !decide (y = 0) && !decide (y = 3) && !decide (y = 4)) rfl (QH _ _) (QE _ _) fun K' hK => ?_ | refine Qy 19 (fun _ => false) rfl (QG _ _) (QD _ _) fun K' hK => ?_ | refine Qz 19 (fun _ => false) rfl (QG _ _) (QD _ _) fun K' hK => ?_ | refine Qf ?_ | refine Qj ?_ | refine Qa ?_ | ((first | refine Qi ⟨_, rfl, fun hc => ?_, fun hc => ?_⟩ | refine QY (fun hc => ?_) (fun hc => ?_) | refine QZ (fun hc => ?_) (fun hc => ?_)) <;> first | exact Bool.noConfusion hc | ((try simp only [znz] at hc); first | exact znf | skip)) | refine Qn ?_ | refine Qh ?_ | simp (maxSteps := 1000000) only [go_sem, Nat.reduceAdd, Nat.reduceMul, Nat.reduceEqDiff, Nat.reduceLeDiff, Nat.reduceLT, Nat.reduceSub, Int.reduceEq, Int.reduceBEq, Int.reduceLT, Int.reduceLE, Int.reduceAdd, Int.reduceToNat, reduceIte, reduceCtorEq, Kg, XZ, Yy, h1, he, Jy, Jd, Jc, Jb] | (refine hK _ ?_; clear hK; clear K') | refine And.intro ?_ ?_ | (apply YX; (focus exact rfl); (focus first | exact n1 | exact n2 | exact n3 | exact (Qo _ _ _ zsd zsd zsd zsd) | exact (Qp _ _ zsd zsd) | exact (Qb _ _ _ zsd zsd) | exact (QL _ _ zsd zsd) | exact (Qq _ _ _ zsd zsd zsd zsd) | exact (Qs _ _ _ zsd zsd zsd zsd)); (focus exact rfl); (focus exact rfl)) | (apply XI; (focus exact rfl); (focus first | exact rfl | decide); (focus first | exact rfl | decide); (focus first | exact n1 | exact n2 | exact n3 | exact (Qo _ _ _ zsd zsd zsd zsd) | exact (Qp _ _ zsd zsd) | exact (Qb _ _ _ zsd zsd) | exact (QL _ _ zsd zsd) | exact (Qq _ _ _ zsd zsd zsd zsd) | exact (Qs _ _ _ zsd zsd zsd zsd)); (focus exact rfl); (focus exact rfl); (focus first | exact rfl | decide)) | exact zlo | omega | exact zms)
        have hwl : wd.length ≤ 5 := by
          simp only at hwm
          rcases List.mem_cons.1 hwm with h2 | h2
          · rw [h2]; decide
          · rcases List.mem_cons.1 h2 with h2 | h2
            · rw [h2]; decide
            · rw [List.mem_singleton.1 h2]; decide
        refine ⟨_, Le.refl _, ?_⟩
        refine V5 (z := .sl 1 (p.ver.map V.int)) (q := { p with name := wd }) (nj := 100 + j) hok ⟨hwl, hpo.2⟩ (by omega) hk4 rfl rfl rfl (fun br hbr => by simp [conv]) (.inl rfl) (fun i hi hij => ?_) (fun br hbr => ⟨.buf true 3 (p.needs.map Js.v), ?_, id, rfl, rfl⟩)
        · iterate 2 refine (QT _ _ (by omega)).trans ?_
          refine (xZ (by simp; omega)).trans ?_
          iterate 3 refine (QT _ _ (by omega)).trans ?_
          exact JK
        · iterate 2 refine (QT _ _ (by omega)).trans ?_
          refine (xZ (by simp; omega)).trans ?_
          iterate 3 refine (QT _ _ (by omega)).trans ?_
          exact JK.trans (by rw [Yj, List.getElem?_map, hp]; rfl)
      by_cases x1 : x = 1
      · subst x1
        have n3 := Qb l k3 4 hl hk3
        have hk4 := Yx (l := l) (k := k3) (n := 4) hk3
        have hr4 := J2 (l := l) (k := k3) (n := 4) (by omega) (by omega)
        generalize JE l k3 4 = w at *
        obtain ⟨z, k4⟩ := w
        simp only [Jy] at n3 hk4 hr4 ⊢
        have hz : z = 0 ∨ z = 1 ∨ z = 2 ∨ z = 3 := by omega
        rcases hz with rfl | rfl | rfl | rfl
        · repeat' (first | refine Qe fun K' hK => ?_ | refine Qk fun K' hK => ?_ | refine Qy 9 (fun y => !decide (y = 0)) rfl (QI _) (QF _) fun K' hK => ?_ | refine Qz 9 (fun y => !decide (y = 0)) rfl (QI _) (QF _) fun K' hK => ?_ | refine Qy 16 (fun y => !decide (y = 0) && !decide (y = 3) && !decide (y = 4)) rfl (QH _ _) (QE _ _) fun K' hK => ?_ | refine Qz 16 (fun y => !decide (y = 0) && !decide (y = 3) && !decide (y = 4)) rfl (QH _ _) (QE _ _) fun K' hK => ?_ | refine Qy 19 (fun _ => false) rfl (QG _ _) (QD _ _) fun K' hK => ?_ | refine Qz 19 (fun _ => false) rfl (QG _ _) (QD _ _) fun K' hK => ?_ | refine Qf ?_ | refine Qj ?_ | refine Qa ?_ | ((first | refine Qi ⟨_, rfl, fun hc => ?_, fun hc => ?_⟩ | refine QY (fun hc => ?_) (fun hc => ?_) | refine QZ (fun hc => ?_) (fun hc => ?_)) <;> first | exact Bool.noConfusion hc | ((try simp only [znz] at hc); first | exact znf | skip)) | refine Qn ?_ | refine Qh ?_ | simp (maxSteps := 1000000) only [go_sem, Nat.reduceAdd, Nat.reduceMul, Nat.reduceEqDiff, Nat.reduceLeDiff, Nat.reduceLT, Nat.reduceSub, Int.reduceEq, Int.reduceBEq, Int.reduceLT, Int.reduceLE, Int.reduceAdd, Int.reduceToNat, reduceIte, reduceCtorEq, Kg, XZ, Yy, h1, he, Jy, Jd, Jc, Jb] | (refine hK _ ?_; clear hK; clear K') | refine And.intro ?_ ?_ | (apply YX; (focus exact rfl); (focus first | exact n1 | exact n2 | exact n3 | exact (Qo _ _ _ zsd zsd zsd zsd) | exact (Qp _ _ zsd zsd) | exact (Qb _ _ _ zsd zsd) | exact (QL _ _ zsd zsd) | exact (Qq _ _ _ zsd zsd zsd zsd) | exact (Qs _ _ _ zsd zsd zsd zsd)); (focus exact rfl); (focus exact rfl)) | (apply XI; (focus exact rfl); (focus first | exact rfl | decide); (focus first | exact rfl | decide); (focus first | exact n1 | exact n2 | exact n3 | exact (Qo _ _ _ zsd zsd zsd zsd) | exact (Qp _ _ zsd zsd) | exact (Qb _ _ _ zsd zsd) | exact (QL _ _ zsd zsd) | exact (Qq _ _ _ zsd zsd zsd zsd) | exact (Qs _ _ _ zsd zsd zsd zsd)); (focus exact rfl); (focus exact rfl); (focus first | exact rfl | decide)) | exact zlo | omega | exact zms)
          all_goals
            refine ⟨_, Le.refl _, ?_⟩
            refine V5 (q := { p with ver := [] }) (nj := 100 + j) hok ⟨hpo.1, by simp, hpo.2.2⟩ (by omega) hk4 rfl rfl rfl (fun br hbr => ?_) (.inl rfl) (fun i hi _ => ?_) ?_
            · simp [conv]
            · iterate 8 refine (QT _ _ (by omega)).trans ?_
              exact JK
            · intro br _
              refine ⟨.buf true 3 (p.needs.map Js.v), ?_, fun h => h, rfl, rfl⟩
              iterate 8 refine (QT _ _ (by omega)).trans ?_
              exact JK.trans (by rw [Yj, List.getElem?_map, hp]; rfl)
        · repeat' (first | refine Qe fun K' hK => ?_ | refine Qk fun K' hK => ?_ | refine Qy 9 (fun y => !decide (y = 0)) rfl (QI _) (QF _) fun K' hK => ?_ | refine Qz 9 (fun y => !decide (y = 0)) rfl (QI _) (QF _) fun K' hK => ?_ | refine Qy 16 (fun y => !decide (y = 0) && !decide (y = 3) && !decide (y = 4)) rfl (QH _ _) (QE _ _) fun K' hK => ?_ | refine Qz 16 (fun y => !decide (y = 0) && !decide (y = 3) && !decide (y = 4)) rfl (QH _ _) (QE _ _) fun K' hK => ?_ | refine Qy 19 (fun _ => false) rfl (QG _ _) (QD _ _) fun K' hK => ?_ | refine Qz 19 (fun _ => false) rfl (QG _ _) (QD _ _) fun K' hK => ?_ | refine Qf ?_ | refine Qj ?_ | refine Qa ?_ | ((first | refine Qi ⟨_, rfl, fun hc => ?_, fun hc => ?_⟩ | refine QY (fun hc => ?_) (fun hc => ?_) | refine QZ (fun hc => ?_) (fun hc => ?_)) <;> first | exact Bool.noConfusion hc | ((try simp only [znz] at hc); first | exact znf | skip)) | refine Qn ?_ | refine Qh ?_ | simp (maxSteps := 1000000) only [go_sem, Nat.reduceAdd, Nat.reduceMul, Nat.reduceEqDiff, Nat.reduceLeDiff, Nat.reduceLT, Nat.reduceSub, Int.reduceEq, Int.reduceBEq, Int.reduceLT, Int.reduceLE, Int.reduceAdd, Int.reduceToNat, reduceIte, reduceCtorEq, Kg, XZ, Yy, h1, he, Jy, Jd, Jc, Jb] | (refine hK _ ?_; clear hK; clear K') | refine And.intro ?_ ?_ | (apply YX; (focus exact rfl); (focus first | exact n1 | exact n2 | exact n3 | exact (Qo _ _ _ zsd zsd zsd zsd) | exact (Qp _ _ zsd zsd) | exact (Qb _ _ _ zsd zsd) | exact (QL _ _ zsd zsd) | exact (Qq _ _ _ zsd zsd zsd zsd) | exact (Qs _ _ _ zsd zsd zsd zsd)); (focus exact rfl); (focus exact rfl)) | (apply XI; (focus exact rfl); (focus first | exact rfl | decide); (focus first | exact rfl | decide); (focus first | exact n1 | exact n2 | exact n3 | exact (Qo _ _ _ zsd zsd zsd zsd) | exact (Qp _ _ zsd zsd) | exact (Qb _ _ _ zsd zsd) | exact (QL _ _ zsd zsd) | exact (Qq _ _ _ zsd zsd zsd zsd) | exact (Qs _ _ _ zsd zsd zsd zsd)); (focus exact rfl); (focus exact rfl); (focus first | exact rfl | decide)) | exact zlo | omega | exact zms)
          all_goals
            refine ⟨_, Le.refl _, ?_⟩
            refine V5 (q := { p with ver := [-1] }) (nj := 100 + j) hok ⟨hpo.1, by simp, hpo.2.2⟩ (by omega) hk4 rfl rfl rfl (fun br hbr => ?_) (.inl rfl) (fun i hi _ => ?_) ?_
            · have hnot : 17200 ∉ br := fun h => (by have := hbr _ h; omega)
              simp only [conv]
              exact ⟨trivial, hnot, .inl ⟨true, _, rfl, rfl⟩⟩
            · iterate 8 refine (QT _ _ (by omega)).trans ?_
              exact JK
            · intro br _
              refine ⟨.buf true 3 (p.needs.map Js.v), ?_, fun h => h, rfl, rfl⟩
              iterate 8 refine (QT _ _ (by omega)).trans ?_
              exact JK.trans (by rw [Yj, List.getElem?_map, hp]; rfl)
        · repeat' (first | refine Qe fun K' hK => ?_ | refine Qk fun K' hK => ?_ | refine Qy 9 (fun y => !decide (y = 0)) rfl (QI _) (QF _) fun K' hK => ?_ | refine Qz 9 (fun y => !decide (y = 0)) rfl (QI _) (QF _) fun K' hK => ?_ | refine Qy 16 (fun y => !decide (y = 0) && !decide (y = 3) && !decide (y = 4)) rfl (QH _ _) (QE _ _) fun K' hK => ?_ | refine Qz 16 (fun y => !decide (y = 0) && !decide (y = 3) && !decide (y = 4)) rfl (QH _ _) (QE _ _) fun K' hK => ?_ | refine Qy 19 (fun _ => false) rfl (QG _ _) (QD _ _) fun K' hK => ?_ | refine Qz 19 (fun _ => false) rfl (QG _ _) (QD _ _) fun K' hK => ?_ | refine Qf ?_ | refine Qj ?_ | refine Qa ?_ | ((first | refine Qi ⟨_, rfl, fun hc => ?_, fun hc => ?_⟩ | refine QY (fun hc => ?_) (fun hc => ?_) | refine QZ (fun hc => ?_) (fun hc => ?_)) <;> first | exact Bool.noConfusion hc | ((try simp only [znz] at hc); first | exact znf | skip)) | refine Qn ?_ | refine Qh ?_ | simp (maxSteps := 1000000) only [go_sem, Nat.reduceAdd, Nat.reduceMul, Nat.reduceEqDiff, Nat.reduceLeDiff, Nat.reduceLT, Nat.reduceSub, Int.reduceEq, Int.reduceBEq, Int.reduceLT, Int.reduceLE, Int.reduceAdd, Int.reduceToNat, reduceIte, reduceCtorEq, Kg, XZ, Yy, h1, he, Jy, Jd, Jc, Jb] | (refine hK _ ?_; clear hK; clear K') | refine And.intro ?_ ?_ | (apply YX; (focus exact rfl); (focus first | exact n1 | exact n2 | exact n3 | exact (Qo _ _ _ zsd zsd zsd zsd) | exact (Qp _ _ zsd zsd) | exact (Qb _ _ _ zsd zsd) | exact (QL _ _ zsd zsd) | exact (Qq _ _ _ zsd zsd zsd zsd) | exact (Qs _ _ _ zsd zsd zsd zsd)); (focus exact rfl); (focus exact rfl)) | (apply XI; (focus exact rfl); (focus first | exact rfl | decide); (focus first | exact rfl | decide); (focus first | exact n1 | exact n2 | exact n3 | exact (Qo _ _ _ zsd zsd zsd zsd) | exact (Qp _ _ zsd zsd) | exact (Qb _ _ _ zsd zsd) | exact (QL _ _ zsd zsd) | exact (Qq _ _ _ zsd zsd zsd zsd) | exact (Qs _ _ _ zsd zsd zsd zsd)); (focus exact rfl); (focus exact rfl); (focus first | exact rfl | decide)) | exact zlo | omega | exact zms)
          all_goals
            refine ⟨_, Le.refl _, ?_⟩
            refine V5 (q := { p with ver := [1, 2, 3, 4, 5] }) (nj := 100 + j) hok ⟨hpo.1, by simp, hpo.2.2⟩ (by omega) hk4 rfl rfl rfl (fun br hbr => ?_) (.inl rfl) (fun i hi _ => ?_) ?_
            · have hnot : 18200 ∉ br := fun h => (by have := hbr _ h; omega)
              simp only [conv]
              exact ⟨trivial, hnot, .inl ⟨true, _, rfl, rfl⟩⟩
            · iterate 8 refine (QT _ _ (by omega)).trans ?_
              exact JK
            · intro br _
              refine ⟨.buf true 3 (p.needs.map Js.v), ?_, fun h => h, rfl, rfl⟩
              iterate 8 refine (QT _ _ (by omega)).trans ?_
              exact JK.trans (by rw [Yj, List.getElem?_map, hp]; rfl)
        · repeat' (first | refine Qe fun K' hK => ?_ | refine Qk fun K' hK => ?_ | refine Qy 9 (fun y => !decide (y = 0)) rfl (QI _) (QF _) fun K' hK => ?_ | refine Qz 9 (fun y => !decide (y = 0)) rfl (QI _) (QF _) fun K' hK => ?_ | refine Qy 16 (fun y => !decide (y = 0) && !decide (y = 3) && !decide (y = 4)) rfl (QH _ _) (QE _ _) fun K' hK => ?_ | refine Qz 16 (fun y => !decide (y = 0) && !decide (y = 3) && !decide (y = 4)) rfl (QH _ _) (QE _ _) fun K' hK => ?_ | refine Qy 19 (fun _ => false) rfl (QG _ _) (QD _ _) fun K' hK => ?_ | refine Qz 19 (fun _ => false) rfl (QG _ _) (QD _ _) fun K' hK => ?_ | refine Qf ?_ | refine Qj ?_ | refine Qa ?_ | ((first | refine Qi ⟨_, rfl, fun hc => ?_, fun hc => ?_⟩ | refine QY (fun hc => ?_) (fun hc => ?_) | refine QZ (fun hc => ?_) (fun hc => ?_)) <;> first | exact Bool.noConfusion hc | ((try simp only [znz] at hc); first | exact znf | skip)) | refine Qn ?_ | refine Qh ?_ | simp (maxSteps := 1000000) only [go_sem, Nat.reduceAdd, Nat.reduceMul, Nat.reduceEqDiff, Nat.reduceLeDiff, Nat.reduceLT, Nat.reduceSub, Int.reduceEq, Int.reduceBEq, Int.reduceLT, Int.reduceLE, Int.reduceAdd, Int.reduceToNat, reduceIte, reduceCtorEq, Kg, XZ, Yy, h1, he, Jy, Jd, Jc, Jb] | (refine hK _ ?_; clear hK; clear K') | refine And.intro ?_ ?_ | (apply YX; (focus exact rfl); (focus first | exact n1 | exact n2 | exact n3 | exact (Qo _ _ _ zsd zsd zsd zsd) | exact (Qp _ _ zsd zsd) | exact (Qb _ _ _ zsd zsd) | exact (QL _ _ zsd zsd) | exact (Qq _ _ _ zsd zsd zsd zsd) | exact (Qs _ _ _ zsd zsd zsd zsd)); (focus exact rfl); (focus exact rfl)) | (apply XI; (focus exact rfl); (focus first | exact rfl | decide); (focus first | exact rfl | decide); (focus first | exact n1 | exact n2 | exact n3 | exact (Qo _ _ _ zsd zsd zsd zsd) | exact (Qp _ _ zsd zsd) | exact (Qb _ _ _ zsd zsd) | exact (QL _ _ zsd zsd) | exact (Qq _ _ _ zsd zsd zsd zsd) | exact (Qs _ _ _ zsd zsd zsd zsd)); (focus exact rfl); (focus exact rfl); (focus first | exact rfl | decide)) | exact zlo | omega | exact zms)
          all_goals
            refine ⟨_, Le.refl _, ?_⟩
            refine V5 (q := { p with ver := [100000] }) (nj := 100 + j) hok ⟨hpo.1, by simp, hpo.2.2⟩ (by omega) hk4 rfl rfl rfl (fun br hbr => ?_) (.inl rfl) (fun i hi _ => ?_) ?_
            · have hnot : 19200 ∉ br := fun h => (by have := hbr _ h; omega)
              simp only [conv]
              exact ⟨trivial, hnot, .inl ⟨true, _, rfl, rfl⟩⟩
            · iterate 8 refine (QT _ _ (by omega)).trans ?_
              exact JK
            · intro br _
              refine ⟨.buf true 3 (p.needs.map Js.v), ?_, fun h => h, rfl, rfl⟩
              iterate 8 refine (QT _ _ (by omega)).trans ?_
              exact JK.trans (by rw [Yj, List.getElem?_map, hp]; rfl)
      by_cases x2 : x = 2
      · subst x2
        have n3 := Qq l k3 [[], [110, 111, 110, 101], [120, 32, 121]] hl hk3 (by simp) (by simp)
        have hk4 := w5 (l := l) (k := k3) (xs := [[], [110, 111, 110, 101], [120, 32, 121]]) hk3
        have hwm := xw (l := l) (k := k3) (xs := [[], [110, 111, 110, 101], [120, 32, 121]]) (by simp) (by simp)
        generalize hw : ye l k3 [[], [110, 111, 110, 101], [120, 32, 121]] = u at *
        obtain ⟨wd, k4⟩ := u
        have n4 := Qs l k4 [-1, 3] hl hk4 (by simp) (by simp)
        have hk5 := aa0 (l := l) (k := k4) (xs := [-1, 3]) hk4
        generalize ofD l k4 [-1, 3] = u at *
        obtain ⟨lo, k5⟩ := u
        simp only [Jy, List.map_cons, List.map_nil] at n3 n4 hk4 hk5 ⊢
        have hnb : (Yj ps)[j]? = some (.buf true 3 (p.needs.map Js.v)) := by rw [Yj, List.getElem?_map, hp]; rfl
        have ne : ∀ c, c < 100 ∨ 200 ≤ c → (100 + j = c) = False := fun c hc => eq_false (by omega)
        have d1 : decide (100 + j < 18200) = true := decide_eq_true (by omega)
        have m1 := ne 0 (by omega)
        have m2 := ne 2 (by omega)
        have m3 := ne 24200 (by omega)
        have m4 := ne 27200 (by omega)
        have m5 := ne 29200 (by omega)
        have m6 := ne 32200 (by omega)
        have m7 := ne 33200 (by omega)
        have m8 : (0 = 100 + j) = False := eq_false (by omega)
        have m9 : (2 = 100 + j) = False := eq_false (by omega)
        repeat' (first | refine Qe fun K' hK => ?_ | refine Qk fun K' hK => ?_ | refine Qy 9 (fun y => !decide (y = 0)) rfl (QI _) (QF _) fun K' hK => ?_ | refine Qz 9 (fun y => !decide (y = 0)) rfl (QI _) (QF _) fun K' hK => ?_ | refine Qy 16 (fun y => !decide (y = 0) && !decide (y = 3) && !decide (y = 4)) rfl (QH _ _) (QE _ _) fun K' hK => ?_ | refine Qz 16 (fun y => !decide (y = 0) && !decide (y = 3) && !decide (y = 4)) rfl (QH _ _) (QE _ _) fun K' hK => ?_ | refine Qy 19 (fun _ => false) rfl (QG _ _) (QD _ _) fun K' hK => ?_ | refine Qz 19 (fun _ => false) rfl (QG _ _) (QD _ _) fun K' hK => ?_ | refine Qf ?_ | refine Qj ?_ | refine Qa ?_ | ((first | refine Qi ⟨_, rfl, fun hc => ?_, fun hc => ?_⟩ | refine QY (fun hc => ?_) (fun hc => ?_) | refine QZ (fun hc => ?_) (fun hc => ?_)) <;> first | exact Bool.noConfusion hc | ((try simp only [znz] at hc); first | exact znf | skip)) | refine Qn ?_ | refine Qh ?_ | simp (maxSteps := 1000000) only [go_sem, Nat.reduceAdd, Nat.reduceMul, Nat.reduceEqDiff, Nat.reduceLeDiff, Nat.reduceLT, Nat.reduceSub, Int.reduceEq, Int.reduceBEq, Int.reduceLT, Int.reduceLE, Int.reduceAdd, Int.reduceToNat, reduceIte, reduceCtorEq, Kg, XZ, Yy, h1, he, Jy, hnb, JK, d1, m1, m2, m3, m4, m5, m6, m7, m8, m9, Jd, Jc, Jb] | (refine hK _ ?_; clear hK; clear K') | refine And.intro ?_ ?_ | (apply YX; (focus exact rfl); (focus first | exact n1 | exact n2 | exact n3 | exact n4 | exact (Qo _ _ _ zsd zsd zsd zsd) | exact (Qp _ _ zsd zsd) | exact (Qb _ _ _ zsd zsd) | exact (QL _ _ zsd zsd) | exact (Qq _ _ _ zsd zsd zsd zsd) | exact (Qs _ _ _ zsd zsd zsd zsd)); (focus exact rfl); (focus exact rfl)) | (apply XI; (focus exact rfl); (focus first | exact rfl | decide); (focus first | exact rfl | decide); (focus first | exact n1 | exact n2 | exact n3 | exact n4 | exact (Qo _ _ _ zsd zsd zsd zsd) | exact (Qp _ _ zsd zsd) | exact (Qb _ _ _ zsd zsd) | exact (QL _ _ zsd zsd) | exact (Qq _ _ _ zsd zsd zsd zsd) | exact (Qs _ _ _ zsd zsd zsd zsd)); (focus exact rfl); (focus exact rfl); (focus first | exact rfl | decide)) | exact zlo | omega | exact zms)
        all_goals
          have hwl : wd.length ≤ 5 := by
            simp only at hwm
            rcases List.mem_cons.1 hwm with h2 | h2
            · rw [h2]; decide
            · rcases List.mem_cons.1 h2 with h2 | h2
              · rw [h2]; decide
              · rw [List.mem_singleton.1 h2]; decide
          refine ⟨_, Le.refl _, ?_⟩
          refine V5 (z := .sl 1 (p.ver.map V.int)) (j := j) (q := { p with needs := p.needs ++ [⟨wd, [lo], []⟩] }) (nj := 33200) hok ⟨hpo.1, hpo.2.1, (by show (p.needs ++ [_]).length ≤ 9; rw [List.length_append]; simp only [List.length_singleton]; exact Nat.le_trans (Nat.succ_le_succ hp3) (by decide)), fun y hy => ?_⟩ (by omega) hk5 rfl ?_ ?_ (fun br hbr => by simp [conv]) (.inr (by omega)) (fun i hi hij => ?_) (fun br hbr => ⟨_, rfl, id, rfl, ?_, Kp _⟩)
          · rcases List.mem_append.1 hy with h2 | h2
            · exact hpo.2.2.2 y h2
            · rw [List.mem_singleton.1 h2]; exact ⟨hwl, by simp, by simp⟩
          · (try dsimp only); repeat' (with_reducible first | exact JK | exact Qr _ _ _ | refine (QT _ _ (by omega)).trans ?_ | refine (xZ (by simp; omega)).trans ?_)
            all_goals exact Qr _ _ _
          · show _ = some (Ob.obuf true 3 ((Wn 100 ps).set j (.agg [V.str p.name, .sl 1 (p.ver.map V.int), .hd 33200 0 (p.needs ++ [_]).length])))
            rw [List.length_append]; rfl
          · (try dsimp only); repeat' (with_reducible first | exact JK | exact Qr _ _ _ | refine (QT _ _ (by omega)).trans ?_ | refine (xZ (by simp; omega)).trans ?_)
          · have hnot : 29200 ∉ br := fun h => (by have := hbr _ h; omega)
            rw [List.take_of_length_le (by simp)]
            refine j1 _ _ (by simp) fun i x y hx hy => ?_
            simp only [List.map_append, List.getElem?_append, List.length_map] at hx hy
            split at hx
            · rename_i hlt
              rw [if_pos hlt] at hy
              rw [hx] at hy; cases hy
              rw [List.getElem?_map] at hx
              obtain ⟨n, _, rfl⟩ := Option.map_eq_some_iff.1 hx
              exact Ju _ _ _ _ (qe n)
            · rename_i hlt
              rw [if_neg hlt] at hy
              generalize i - p.needs.length = i' at hx hy
              cases i' with
              | succ i' => simp at hx
              | zero =>
                simp only [List.getElem?_cons_zero, Option.some.injEq, List.map_cons, List.map_nil] at hx hy
                subst hx; subst hy
                refine ⟨by simp [conv], ?_, by simp [conv, Js.v], trivial⟩
                simp only [conv]
                refine ⟨trivial, hnot, .inl ⟨true, [V.int lo], ?_, rfl⟩⟩
                (try dsimp only); repeat' (with_reducible first | exact JK | exact Qr _ _ _ | refine (QT _ _ (by omega)).trans ?_ | refine (xZ (by simp; omega)).trans ?_)
      by_cases x3 : x = 3
      · subst x3
        repeat' (first | refine Qe fun K' hK => ?_ | refine Qk fun K' hK => ?_ | refine Qy 9 (fun y => !decide (y = 0)) rfl (QI _) (QF _) fun K' hK => ?_ | refine Qz 9 (fun y => !decide (y = 0)) rfl (QI _) (QF _) fun K' hK => ?_ | refine Qy 16 (fun y => !decide (y = 0) && !decide (y = 3) && !decide (y = 4)) rfl (QH _ _) (QE _ _) fun K' hK => ?_ | refine Qz 16 (fun y => !decide (y = 0) && !decide (y = 3) && !decide (y = 4)) rfl (QH _ _) (QE _ _) fun K' hK => ?_ | refine Qy 19 (fun _ => false) rfl (QG _ _) (QD _ _) fun K' hK => ?_ | refine Qz 19 (fun _ => false) rfl (QG _ _) (QD _ _) fun K' hK => ?_ | refine Qf ?_ | refine Qj ?_ | refine Qa ?_ | ((first | refine Qi ⟨_, rfl, fun hc => ?_, fun hc => ?_⟩ | refine QY (fun hc => ?_) (fun hc => ?_) | refine QZ (fun hc => ?_) (fun hc => ?_)) <;> first | exact Bool.noConfusion hc | ((try simp only [znz] at hc); first | exact znf | skip)) | refine Qn ?_ | refine Qh ?_ | simp (maxSteps := 1000000) only [go_sem, Nat.reduceAdd, Nat.reduceMul, Nat.reduceEqDiff, Nat.reduceLeDiff, Nat.reduceLT, Nat.reduceSub, Int.reduceEq, Int.reduceBEq, Int.reduceLT, Int.reduceLE, Int.reduceAdd, Int.reduceToNat, reduceIte, reduceCtorEq, Kg, XZ, Yy, h1, he, Jy, Jd, Jc, Jb] | (refine hK _ ?_; clear hK; clear K') | refine And.intro ?_ ?_ | (apply YX; (focus exact rfl); (focus first | exact n1 | exact n2 | exact (Qo _ _ _ zsd zsd zsd zsd) | exact (Qp _ _ zsd zsd) | exact (Qb _ _ _ zsd zsd) | exact (QL _ _ zsd zsd) | exact (Qq _ _ _ zsd zsd zsd zsd) | exact (Qs _ _ _ zsd zsd zsd zsd)); (focus exact rfl); (focus exact rfl)) | (apply XI; (focus exact rfl); (focus first | exact rfl | decide); (focus first | exact rfl | decide); (focus first | exact n1 | exact n2 | exact (Qo _ _ _ zsd zsd zsd zsd) | exact (Qp _ _ zsd zsd) | exact (Qb _ _ _ zsd zsd) | exact (QL _ _ zsd zsd) | exact (Qq _ _ _ zsd zsd zsd zsd) | exact (Qs _ _ _ zsd zsd zsd zsd)); (focus exact rfl); (focus exact rfl); (focus first | exact rfl | decide)) | exact zlo | omega | exact zms)
        all_goals
          refine ⟨_, Le.upd (a := 21200) (y := .buf true 3 ((List.replicate 9 (⟨[], [], []⟩ : Js)).map Js.v)) rfl ⟨rfl, rfl, ?_⟩, ?_⟩
          · simp only [List.replicate, List.map_cons, List.map_nil, leC, leL, V.cells, Js.v, and_true]
            refine ⟨?_, ?_, ?_, ?_, ?_, ?_, ?_, ?_, ?_⟩ <;> exact ⟨LeV.refl _, LeV.nil _, LeV.nil _, trivial⟩
          · refine V5 (q := { p with needs := List.replicate 9 ⟨[], [], []⟩ }) (nj := 21200) hok ⟨hpo.1, hpo.2.1, by simp, fun y hy => ?_⟩ (by omega) hk3 rfl rfl rfl (fun br hbr => by simp [conv]) (.inr (by omega)) (fun i hi _ => ?_) ?_
            · rw [(List.mem_replicate.1 hy).2]; exact ⟨by simp, by simp, by simp⟩
            · iterate 5 refine (QT _ _ (by omega)).trans ?_
              exact JK
            · exact fun br _ => ⟨_, rfl, fun h => h, rfl, rfl⟩
      · have b0 : decide (x = 0) = false := decide_eq_false x0
        have b1 : decide (x = 1) = false := decide_eq_false x1
        have b2 : decide (x = 2) = false := decide_eq_false x2
        have b3 : decide (x = 3) = false := decide_eq_false x3
        repeat' (first | refine Qe fun K' hK => ?_ | refine Qk fun K' hK => ?_ | refine Qy 9 (fun y => !decide (y = 0)) rfl (QI _) (QF _) fun K' hK => ?_ | refine Qz 9 (fun y => !decide (y = 0)) rfl (QI _) (QF _) fun K' hK => ?_ | refine Qy 16 (fun y => !decide (y = 0) && !decide (y = 3) && !decide (y = 4)) rfl (QH _ _) (QE _ _) fun K' hK => ?_ | refine Qz 16 (fun y => !decide (y = 0) && !decide (y = 3) && !decide (y = 4)) rfl (QH _ _) (QE _ _) fun K' hK => ?_ | refine Qy 19 (fun _ => false) rfl (QG _ _) (QD _ _) fun K' hK => ?_ | refine Qz 19 (fun _ => false) rfl (QG _ _) (QD _ _) fun K' hK => ?_ | refine Qf ?_ | refine Qj ?_ | refine Qa ?_ | ((first | refine Qi ⟨_, rfl, fun hc => ?_, fun hc => ?_⟩ | refine QY (fun hc => ?_) (fun hc => ?_) | refine QZ (fun hc => ?_) (fun hc => ?_)) <;> first | exact Bool.noConfusion hc | ((try simp only [znz] at hc); first | exact znf | skip)) | refine Qn ?_ | refine Qh ?_ | simp (maxSteps := 1000000) only [go_sem, Nat.reduceAdd, Nat.reduceMul, Nat.reduceEqDiff, Nat.reduceLeDiff, Nat.reduceLT, Nat.reduceSub, Int.reduceEq, Int.reduceBEq, Int.reduceLT, Int.reduceLE, Int.reduceAdd, Int.reduceToNat, reduceIte, reduceCtorEq, Kg, XZ, Yy, h1, b0, b1, b2, b3, Jy, Jd, Jc, Jb] | (refine hK _ ?_; clear hK; clear K') | refine And.intro ?_ ?_ | (apply YX; (focus exact rfl); (focus first | exact n1 | exact n2 | exact (Qo _ _ _ zsd zsd zsd zsd) | exact (Qp _ _ zsd zsd) | exact (Qb _ _ _ zsd zsd) | exact (QL _ _ zsd zsd) | exact (Qq _ _ _ zsd zsd zsd zsd) | exact (Qs _ _ _ zsd zsd zsd zsd)); (focus exact rfl); (focus exact rfl)) | (apply XI; (focus exact rfl); (focus first | exact rfl | decide); (focus first | exact rfl | decide); (focus first | exact n1 | exact n2 | exact (Qo _ _ _ zsd zsd zsd zsd) | exact (Qp _ _ zsd zsd) | exact (Qb _ _ _ zsd zsd) | exact (QL _ _ zsd zsd) | exact (Qq _ _ _ zsd zsd zsd zsd) | exact (Qs _ _ _ zsd zsd zsd zsd)); (focus exact rfl); (focus exact rfl); (focus first | exact rfl | decide)) | exact zlo | omega | exact zms)
        refine ⟨_, Le.refl _, ?_⟩
        refine jZ (k := k3) (X := 2) (xs := Wn 100 ps) (fun i => 100 + i) hok hk3 rfl rfl rfl (YK _ _) (fun i p hp => ⟨.buf true 3 (p.needs.map Js.v), ?_, fun h => h, rfl, rfl⟩) (fun i p hp => ⟨.sl 1 (p.ver.map V.int), by rw [VU, hp]; rfl, by simp [conv]⟩) (by omega) (fun i _ => ⟨by omega, by omega⟩) (fun i j _ _ h => by omega)
        iterate 2 refine (QT _ _ (by omega)).trans ?_
        exact JK.trans (by rw [Yj, List.getElem?_map, hp]; rfl)
end Av
end

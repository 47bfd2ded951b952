/- Ra -/
import Derived.Test.YtmclfdgmbfdacaaGreatDoorSc
import Derived.Test.YtmclfdgmbfdacaaGreatDoorPars
import Derived.Test.YtmclfdgmbfdacaaGreatDoorAvM
set_option linter.unusedVariables false
set_option linter.unusedSimpArgs false
section
set_option linter.unusedSimpArgs false
set_option linter.unusedVariables false
set_option maxRecDepth 10000
set_option maxHeartbeats 4000000
namespace Av
open Go
attribute [local irreducible] AWp XV WG WJ awS awC VK awQ V4 Jq Xf VH awR Xk awB okR XT ris
abbrev WS := List (List UInt8)
def isL (w : List UInt8) : WS → Bool × WS
  | [] => (false, [])
  | x :: r => if x = w then (true, r) else (false, x :: r)
def Xo : WS → List UInt8 × WS
  | [] => ([], [])
  | x :: r => (x, r)
abbrev jg (ws : WS) : List V := [.sl 1 (ws.map V.str)]
def Kz : AC := QR [0, 1] (.reg [mc 4 (V.bool false)]) (QR [0] (QR [0, 20] (.reg [mv 5 0, nk 6 5, fa 7 0 6, ld 8 1 7, ln 9 8, bc 10 .eql 9 (V.int 0), mv 11 10, mg 12 0 11 false, xg 13 (.nilck (.t 12)) 11 false, xg 14 (.faddr 0 (.t 13)) 11 false, xg 15 (.load false 1 (.t 14)) 11 false, xg 16 (.iaddr 1 (.t 15) (.c (V.int 0))) 11 false, xg 17 (.load false 1 (.t 16)) 11 false, mg 18 1 11 false, xg 19 (.bin .neq (.t 17) (.t 18)) 11 false, xo 20 (.pick (.t 11) (.c (V.bool true)) (.t 19))]) (.cond (.t 20) (QR [4] (.reg [mc 4 (V.bool false)]) (.ret)) (.skip))) (QR [] (.reg [mv 21 0, mv 22 0, nk 23 22, fa 24 0 23, ld 25 1 24, xo 26 (.slsl 1 (.t 25) (some (.c (V.int 1))) none), nk 27 21, fa 28 0 27, xs 1 28 26]) (QR [4] (.reg [mc 4 (V.bool true)]) (.ret)))) def r_rule_line__is : List XY := [.tmp 4]
def Ww (Γ : Env) (f : Nat) : Prop := ∀ (ws : WS) (w : List UInt8) (hl : ws.length < 2 ^ 40), EvD Γ f [V.str w] (jg ws) (V.bool (isL w ws).1) (jg (isL w ws).2)
theorem wK {Γ : Env} {f : Nat} (h : Has Γ.P f 29 Kz r_rule_line__is)  : Ww Γ f := by
  intro ws w hl
  refine WO h (by simp) (by simp only [V.closed, Qq, V.noSl, Yq, and_self, and_true, true_and]) (by first | exact J0 _ _ | simp only [V.closed, Qq, and_self, and_true, true_and]) (by first | exact J0 _ _ | simp only [V.closed, Qq, and_self, and_true, true_and]) fun C hC hm => ?_
  subst hC
  unfold Kz
  rcases ws with _ | ⟨x, r⟩
  · rw [show isL w [] = (false, []) from rfl]
    repeat' (first | refine Qf fun K' hK => ?_ | refine Qi fun K' hK => ?_ | refine Qg ?_ | refine Qh ?_ | refine Qa ?_ | ((first | refine Qk ⟨_, rfl, fun hc => ?_, fun hc => ?_⟩ | refine QM (fun hc => ?_) (fun hc => ?_) | refine QN (fun hc => ?_) (fun hc => ?_)) <;> first | exact Bool.noConfusion hc | ((try simp only [znz] at hc); first | exact znf | skip)) | refine Qo ?_ | refine Qj ?_ | simp (maxSteps := 1000000) only [go_sem, Nat.reduceAdd, Nat.reduceMul, Nat.reduceEqDiff, Nat.reduceLeDiff, Nat.reduceLT, Nat.reduceSub, Int.reduceEq, Int.reduceBEq, Int.reduceLT, Int.reduceLE, Int.reduceAdd, Int.reduceToNat, reduceIte, reduceCtorEq] | (refine hK _ ?_; clear hK; clear K') | refine And.intro ?_ ?_ | exact zlo | omega | exact zms)
    all_goals first | (refine WP _ rfl rfl (by simp only [V.closed, Qq, and_self, and_true, true_and]) ?_; simp only [go_sem, Nat.reduceEqDiff, Nat.reduceAdd, reduceIte, reduceCtorEq]; done) | trace_state
  · have hT : List.take (r.length + 1 - 1) (List.map V.str r) = List.map V.str r := List.take_of_length_le (by simp)
    have e1 : (((List.map V.str (x :: r)).length : Int) == 0) = false := by simp; omega
    have e3 : ((r.length : Int) + 1 == 0) = false := by simp; omega
    by_cases hx : x = w
    · subst hx
      have e2 : isL x (x :: r) = (true, r) := by simp [isL]
      have e4 : (x != x) = false := by simp
      rw [e2]
      repeat' (first | refine Qf fun K' hK => ?_ | refine Qi fun K' hK => ?_ | refine Qg ?_ | refine Qh ?_ | refine Qa ?_ | ((first | refine Qk ⟨_, rfl, fun hc => ?_, fun hc => ?_⟩ | refine QM (fun hc => ?_) (fun hc => ?_) | refine QN (fun hc => ?_) (fun hc => ?_)) <;> first | exact Bool.noConfusion hc | ((try simp only [znz] at hc); first | exact znf | skip)) | refine Qo ?_ | refine Qj ?_ | simp (maxSteps := 1000000) only [go_sem, Nat.reduceAdd, Nat.reduceMul, Nat.reduceEqDiff, Nat.reduceLeDiff, Nat.reduceLT, Nat.reduceSub, Int.reduceEq, Int.reduceBEq, Int.reduceLT, Int.reduceLE, Int.reduceAdd, Int.reduceToNat, reduceIte, reduceCtorEq, e1, e3, e4, hT, List.map_cons, List.length_map] | (refine hK _ ?_; clear hK; clear K') | refine And.intro ?_ ?_ | exact zlo | omega | exact zms)
      all_goals first | (refine WP _ rfl rfl (by simp only [V.closed, Qq, and_self, and_true, true_and]) ?_; simp only [go_sem, Nat.reduceEqDiff, Nat.reduceAdd, reduceIte, reduceCtorEq]; done) | trace_state
    · have e2 : isL w (x :: r) = (false, x :: r) := by simp [isL, hx]
      have e4 : (x != w) = true := by simpa using hx
      have e5 : (x == w) = false := by simpa using hx
      rw [e2]
      repeat' (first | refine Qf fun K' hK => ?_ | refine Qi fun K' hK => ?_ | refine Qg ?_ | refine Qh ?_ | refine Qa ?_ | ((first | refine Qk ⟨_, rfl, fun hc => ?_, fun hc => ?_⟩ | refine QM (fun hc => ?_) (fun hc => ?_) | refine QN (fun hc => ?_) (fun hc => ?_)) <;> first | exact Bool.noConfusion hc | ((try simp only [znz] at hc); first | exact znf | skip)) | refine Qo ?_ | refine Qj ?_ | simp (maxSteps := 1000000) only [go_sem, Nat.reduceAdd, Nat.reduceMul, Nat.reduceEqDiff, Nat.reduceLeDiff, Nat.reduceLT, Nat.reduceSub, Int.reduceEq, Int.reduceBEq, Int.reduceLT, Int.reduceLE, Int.reduceAdd, Int.reduceToNat, reduceIte, reduceCtorEq, e1, e3, e4, e5, List.map_cons, List.length_map] | (refine hK _ ?_; clear hK; clear K') | refine And.intro ?_ ?_ | exact zlo | omega | exact zms)
      all_goals first | (refine WP _ rfl rfl (by simp only [V.closed, Qq, and_self, and_true, true_and]) ?_; simp only [go_sem, Nat.reduceEqDiff, Nat.reduceAdd, reduceIte, reduceCtorEq]; done) | trace_state
def Um : AC := QR [0] (.reg [mc 2 (V.str [])]) (QR [0] (QR [0, 9] (.reg [mv 4 0, nk 5 4, fa 6 0 5, ld 7 1 6, ln 8 7, bc 9 .eql 8 (V.int 0)]) (.cond (.t 9) (QR [2] (.reg [mc 2 (V.str [])]) (.ret)) (.skip))) (QR [0, 3] (.reg [mv 10 0, nk 11 10, fa 12 0 11, ld 13 1 12, xo 14 (.iaddr 1 (.t 13) (.c (V.int 0))), ld 15 1 14, mv 3 15]) (QR [3] (.reg [mv 16 0, mv 17 0, nk 18 17, fa 19 0 18, ld 20 1 19, xo 21 (.slsl 1 (.t 20) (some (.c (V.int 1))) none), nk 22 16, fa 23 0 22, xs 1 23 21]) (QR [2] (.reg [mv 24 3, mv 2 24]) (.ret))))) def r_rule_line__next : List XY := [.tmp 2]
def YX (Γ : Env) (f : Nat) : Prop := ∀ (ws : WS) (hl : ws.length < 2 ^ 40), EvD Γ f [] (jg ws) (V.str (Xo ws).1) (jg (Xo ws).2)
theorem xn {Γ : Env} {f : Nat} (h : Has Γ.P f 25 Um r_rule_line__next)  : YX Γ f := by
  intro ws hl
  refine WO h (by simp) (by simp only [V.closed, Qq, V.noSl, Yq, and_self, and_true, true_and]) (by first | exact J0 _ _ | simp only [V.closed, Qq, and_self, and_true, true_and]) (by first | exact J0 _ _ | simp only [V.closed, Qq, and_self, and_true, true_and]) fun C hC hm => ?_
  subst hC
  unfold Um
  rcases ws with _ | ⟨x, r⟩
  · rw [show Xo [] = ([], []) from rfl]
    repeat' (first | refine Qf fun K' hK => ?_ | refine Qi fun K' hK => ?_ | refine Qg ?_ | refine Qh ?_ | refine Qa ?_ | ((first | refine Qk ⟨_, rfl, fun hc => ?_, fun hc => ?_⟩ | refine QM (fun hc => ?_) (fun hc => ?_) | refine QN (fun hc => ?_) (fun hc => ?_)) <;> first | exact Bool.noConfusion hc | ((try simp only [znz] at hc); first | exact znf | skip)) | refine Qo ?_ | refine Qj ?_ | simp (maxSteps := 1000000) only [go_sem, Nat.reduceAdd, Nat.reduceMul, Nat.reduceEqDiff, Nat.reduceLeDiff, Nat.reduceLT, Nat.reduceSub, Int.reduceEq, Int.reduceBEq, Int.reduceLT, Int.reduceLE, Int.reduceAdd, Int.reduceToNat, reduceIte, reduceCtorEq] | (refine hK _ ?_; clear hK; clear K') | refine And.intro ?_ ?_ | exact zlo | omega | exact zms)
    all_goals first | (refine WP _ rfl rfl (by simp only [V.closed, Qq, and_self, and_true, true_and]) ?_; simp only [go_sem, Nat.reduceEqDiff, Nat.reduceAdd, reduceIte, reduceCtorEq]; done) | trace_state
  · have hT : List.take (r.length + 1 - 1) (List.map V.str r) = List.map V.str r := List.take_of_length_le (by simp)
    have e3 : ((r.length : Int) + 1 == 0) = false := by simp; omega
    have e2 : Xo (x :: r) = (x, r) := rfl
    rw [e2]
    repeat' (first | refine Qf fun K' hK => ?_ | refine Qi fun K' hK => ?_ | refine Qg ?_ | refine Qh ?_ | refine Qa ?_ | ((first | refine Qk ⟨_, rfl, fun hc => ?_, fun hc => ?_⟩ | refine QM (fun hc => ?_) (fun hc => ?_) | refine QN (fun hc => ?_) (fun hc => ?_)) <;> first | exact Bool.noConfusion hc | ((try simp only [znz] at hc); first | exact znf | skip)) | refine Qo ?_ | refine Qj ?_ | simp (maxSteps := 1000000) only [go_sem, Nat.reduceAdd, Nat.reduceMul, Nat.reduceEqDiff, Nat.reduceLeDiff, Nat.reduceLT, Nat.reduceSub, Int.reduceEq, Int.reduceBEq, Int.reduceLT, Int.reduceLE, Int.reduceAdd, Int.reduceToNat, reduceIte, reduceCtorEq, e3, hT, List.map_cons, List.length_map] | (refine hK _ ?_; clear hK; clear K') | refine And.intro ?_ ?_ | exact zlo | omega | exact zms)
    all_goals first | (refine WP _ rfl rfl (by simp only [V.closed, Qq, and_self, and_true, true_and]) ?_; simp only [go_sem, Nat.reduceEqDiff, Nat.reduceAdd, reduceIte, reduceCtorEq]; done) | trace_state
abbrev jU : WS := [[], [116, 114, 97, 110, 115, 112, 111, 114, 116], [115, 105, 103, 110], [98, 97, 99, 107, 117, 112], [99, 111, 100, 101]]
def UW (x : List UInt8) : Nat → WS → Int
  | _, [] => -1
  | k, y :: r => if x = y then k else UW x (k + 1) r
def jZ (w : List UInt8) : Int := if w = [] then 0 else max 0 (UW w 0 jU)
def Ky : AC := QR [] (.reg [xo 0 (.mknil 1)]) (QR [0] (.reg [xo 1 (.bslice 5 1 false [(.string ⟨#[]⟩)] [(0, (.c (V.str []))), (1, (.c (V.str [116, 114, 97, 110, 115, 112, 111, 114, 116]))), (2, (.c (V.str [115, 105, 103, 110]))), (3, (.c (V.str [98, 97, 99, 107, 117, 112]))), (4, (.c (V.str [99, 111, 100, 101])))]), mv 0 1]) (.ret)) def r_rule_purposes : List XY := [.tmp 0]
def Wv (Γ : Env) (f : Nat) : Prop := EvW Γ f [] 1 (jU.map V.str)
theorem wJ {Γ : Env} {f : Nat} (h : Has Γ.P f 2 Ky r_rule_purposes)  : Wv Γ f := by
  refine vL h (by simp) (by first | exact acf _ | exact abO _) fun C hC hm => ?_
  subst hC
  unfold Ky
  repeat' (first | refine Qf fun K' hK => ?_ | refine Qi fun K' hK => ?_ | refine Qg ?_ | refine Qh ?_ | refine Qa ?_ | ((first | refine Qk ⟨_, rfl, fun hc => ?_, fun hc => ?_⟩ | refine QM (fun hc => ?_) (fun hc => ?_) | refine QN (fun hc => ?_) (fun hc => ?_)) <;> first | exact Bool.noConfusion hc | ((try simp only [znz] at hc); first | exact znf | skip)) | refine Qo ?_ | refine Qj ?_ | simp (maxSteps := 1000000) only [go_sem, Nat.reduceAdd, Nat.reduceMul, Nat.reduceEqDiff, Nat.reduceLeDiff, Nat.reduceLT, Nat.reduceSub, Int.reduceEq, Int.reduceBEq, Int.reduceLT, Int.reduceLE, Int.reduceAdd, Int.reduceToNat, reduceIte, reduceCtorEq] | (refine hK _ ?_; clear hK; clear K') | refine And.intro ?_ ?_ | exact zlo | omega | exact zms)
  all_goals (refine ahm (xs := jU.map V.str) _ _ rfl ?_ ?_ <;> first | rfl | (simp; done))
def XD : AC := QR [0, 1] (.reg [mc 4 (V.int 0)]) (QR [] (QR [0, 1, 7, 8] (.reg [mv 6 0, ln 7 6, mc 8 (V.int 0)]) (.block 0 (Kv [0, 1, 7, 8] (QR [0, 1, 7, 8, 9] (.reg [bn 9 .lss 8 7]) (QR [0, 1, 7, 8] (.cond (.t 9) (.skip) (.exit 0)) (QR [0, 1, 7, 8] (.block 1 (QR [0, 1, 5, 7, 8] (.reg [mv 10 8, mv 5 10]) (QR [0, 1, 5, 7, 8, 16] (.reg [mv 11 1, mv 12 0, mv 13 5, ia 14 1 12 13, ld 15 1 14, bn 16 .eql 11 15]) (.cond (.t 16) (QR [4] (.reg [mv 17 5, mv 4 17]) (.ret)) (.skip))))) (.reg [bc 18 .add 8 (V.int 1), mv 8 18]))))))) (QR [4] (.reg [mc 4 (V.int (-1))]) (.ret))) def r_slices_Index___string_string : List XY := [.tmp 4]
def Xt (Γ : Env) (f : Nat) : Prop := ∀ (l : WS) (x : List UInt8) (hl : l.length < 2 ^ 62), EvN Γ f [.sl 1 (l.map V.str), V.str x] (V.int (UW x 0 l))
theorem Uk {Γ : Env} {f : Nat} (h : Has Γ.P f 19 XD r_slices_Index___string_string)  : Xt Γ f := by
  intro l x hl
  refine JD h (by simp) (by simp only [V.closed, Qq, V.noSl, Yq, and_self, and_true, true_and]) (by simp only [V.closed, Qq, V.noSl, Yq, and_self, and_true, true_and]) fun C hC hm => ?_
  subst hC
  unfold XD
  repeat' (first | refine Qf fun K' hK => ?_ | refine Qi fun K' hK => ?_ | refine Qg ?_ | refine Qh ?_ | refine Qa ?_ | ((first | refine Qk ⟨_, rfl, fun hc => ?_, fun hc => ?_⟩ | refine QM (fun hc => ?_) (fun hc => ?_) | refine QN (fun hc => ?_) (fun hc => ?_)) <;> first | exact Bool.noConfusion hc | ((try simp only [znz] at hc); first | exact znf | skip)) | refine Qo ?_ | refine Qj ?_ | simp (maxSteps := 1000000) only [go_sem, Nat.reduceAdd, Nat.reduceMul, Nat.reduceEqDiff, Nat.reduceLeDiff, Nat.reduceLT, Nat.reduceSub, Int.reduceEq, Int.reduceBEq, Int.reduceLT, Int.reduceLE, Int.reduceAdd, Int.reduceToNat, reduceIte, reduceCtorEq] | (refine hK _ ?_; clear hK; clear K') | refine And.intro ?_ ?_ | exact zlo | omega | exact zms)
  refine Vk (ι := Nat) (fun k => k ≤ l.length ∧ UW x k (l.drop k) = UW x 0 l) (fun k => [(8, V.int k)]) (fun k => l.length - k) 0 (by omega) ⟨by simp, by simp⟩ (by repeat' first | exact Uu | refine qm (by omega) (by simp only [Ob.lt, ltL, V.lt, and_self, and_true]; try omega) ?_) (fun i hi => by simp only [ovT, XS, Nat.reduceEqDiff, reduceIte]; (repeat' first | exact ql | refine Ut ?_ ?_ | simp only [V.lt, ltL, and_self, and_true] | omega)) (by simp only [Nat.reduceAdd, ovT, XS, Nat.reduceEqDiff, reduceIte, YW, XB, xJ, u32, u33, u34, u35, u36, u37, u38, u39, and_self, and_true, true_and]; rfl) fun k hk K' hL => ?_
  obtain ⟨hk, hinv⟩ := hk
  simp only [ovT, XS, Nat.reduceEqDiff, reduceIte]
  rcases hd : l.drop k with _ | ⟨y, r⟩
  · have := XU hd
    rw [hd] at hinv
    repeat' (first | refine Qf fun K' hK => ?_ | refine Qi fun K' hK => ?_ | refine Qg ?_ | refine Qh ?_ | refine Qa ?_ | ((first | refine Qk ⟨_, rfl, fun hc => ?_, fun hc => ?_⟩ | refine QM (fun hc => ?_) (fun hc => ?_) | refine QN (fun hc => ?_) (fun hc => ?_)) <;> first | exact Bool.noConfusion hc | ((try simp only [znz] at hc); first | exact znf | skip)) | refine Qo ?_ | refine Qj ?_ | simp (maxSteps := 1000000) only [go_sem, Nat.reduceAdd, Nat.reduceMul, Nat.reduceEqDiff, Nat.reduceLeDiff, Nat.reduceLT, Nat.reduceSub, Int.reduceEq, Int.reduceBEq, Int.reduceLT, Int.reduceLE, Int.reduceAdd, Int.reduceToNat, reduceIte, reduceCtorEq] | (refine hK _ ?_; clear hK; clear K') | refine And.intro ?_ ?_ | exact zlo | omega | exact zms)
    refine QQ _ rfl ?_
    simp only [go_sem, Nat.reduceEqDiff, Nat.reduceAdd, reduceIte, reduceCtorEq]
    rw [← hinv]; rfl
  · obtain ⟨hk, hget, hr⟩ := Xq hd
    rw [hd] at hinv
    have hw := Xh (k := k) (by omega)
    repeat' (first | refine Qf fun K' hK => ?_ | refine Qi fun K' hK => ?_ | refine Qg ?_ | refine Qh ?_ | refine Qa ?_ | ((first | refine Qk ⟨_, rfl, fun hc => ?_, fun hc => ?_⟩ | refine QM (fun hc => ?_) (fun hc => ?_) | refine QN (fun hc => ?_) (fun hc => ?_)) <;> first | exact Bool.noConfusion hc | ((try simp only [znz] at hc); first | exact znf | skip)) | refine Qo ?_ | refine Qj ?_ | simp (maxSteps := 1000000) only [go_sem, Nat.reduceAdd, Nat.reduceMul, Nat.reduceEqDiff, Nat.reduceLeDiff, Nat.reduceLT, Nat.reduceSub, Int.reduceEq, Int.reduceBEq, Int.reduceLT, Int.reduceLE, Int.reduceAdd, Int.reduceToNat, reduceIte, reduceCtorEq, Int.toNat_natCast, List.getElem?_map, hget, hw] | (refine hK _ ?_; clear hK; clear K') | refine And.intro ?_ ?_ | exact zlo | omega | exact zms)
    · refine QQ _ rfl ?_
      simp only [go_sem, Nat.reduceEqDiff, Nat.reduceAdd, reduceIte, reduceCtorEq]
      rw [← hinv]; simp [UW, hc]
    · refine hL _ (k + 1) (by simp only [Nat.reduceAdd, ovT, XS, Nat.reduceEqDiff, reduceIte, YW, XB, xJ, u32, u33, u34, u35, u36, u37, u38, u39, and_self, and_true, true_and]) ⟨by omega, ?_⟩ (by omega) (fun a ha => rfl)
      rw [hr, ← hinv]; simp [UW, hc]
def qp (QP YU : Nat) : AC := QR [0] (.reg [mc 2 (V.int 0)]) (QR [0] (QR [0, 4] (.reg [mv 3 0, bc 4 .eql 3 (V.str [])]) (.cond (.t 4) (QR [2] (.reg [mc 2 (V.int 0)]) (.ret)) (.skip))) (QR [2] (.reg [cl 5 QP [], mv 6 0, cl 7 YU [5, 6], xo 8 (.mm true [(.c (V.int 0)), (.t 7)]), mv 2 8]) (.ret))) def r_rule_Purpose : List XY := [.tmp 2]
def Ua (Γ : Env) (f : Nat) : Prop := ∀ (w : List UInt8), EvN Γ f [V.str w] (V.int (jZ w))
theorem vF {Γ : Env} {f QP YU : Nat} (h : Has Γ.P f 9 (qp QP YU) r_rule_Purpose) (Jr : Wv Γ QP) (XA : Xt Γ YU) : Ua Γ f := by
  intro w
  refine JD h (by simp) (by simp only [V.closed, Qq, V.noSl, Yq, and_self, and_true, true_and]) (by simp only [V.closed, Qq, V.noSl, Yq, and_self, and_true, true_and]) fun C hC hm => ?_
  subst hC
  unfold qp
  have hix := (XA jU w (by decide)).b
  simp only [List.map_cons, List.map_nil] at hix
  by_cases hw : w = []
  · subst hw
    repeat' (first | refine Qf fun K' hK => ?_ | refine Qi fun K' hK => ?_ | refine Qg ?_ | refine Qh ?_ | refine Qa ?_ | ((first | refine Qk ⟨_, rfl, fun hc => ?_, fun hc => ?_⟩ | refine QM (fun hc => ?_) (fun hc => ?_) | refine QN (fun hc => ?_) (fun hc => ?_)) <;> first | exact Bool.noConfusion hc | ((try simp only [znz] at hc); first | exact znf | skip)) | refine Qo ?_ | refine Qj ?_ | simp (maxSteps := 1000000) only [go_sem, Nat.reduceAdd, Nat.reduceMul, Nat.reduceEqDiff, Nat.reduceLeDiff, Nat.reduceLT, Nat.reduceSub, Int.reduceEq, Int.reduceBEq, Int.reduceLT, Int.reduceLE, Int.reduceAdd, Int.reduceToNat, reduceIte, reduceCtorEq] | (refine hK _ ?_; clear hK; clear K') | refine And.intro ?_ ?_ | (apply YR; (focus first | exact Jr)) | (apply QS; (focus first | exact (XA _ _ zsd).b)) | exact zlo | omega | exact zms)
    all_goals first | (refine QQ _ rfl ?_; simp only [go_sem, Nat.reduceEqDiff, Nat.reduceAdd, reduceIte, reduceCtorEq]; done) | (refine QQ _ rfl ?_; simp only [go_sem, Nat.reduceEqDiff, Nat.reduceAdd, reduceIte, reduceCtorEq]; rfl) | trace_state
  · have e1 : (w == []) = false := by simpa using hw
    have e2 : jZ w = max 0 (UW w 0 jU) := by rw [jZ, if_neg hw]
    have e3 : ([V.int (UW w 0 jU)].all (qU IntKind.i64)) = true := rfl
    have e4 : (if 0 < UW w 0 jU then UW w 0 jU else 0) = jZ w := by rw [e2]; split <;> omega
    repeat' (first | refine Qf fun K' hK => ?_ | refine Qi fun K' hK => ?_ | refine Qg ?_ | refine Qh ?_ | refine Qa ?_ | ((first | refine Qk ⟨_, rfl, fun hc => ?_, fun hc => ?_⟩ | refine QM (fun hc => ?_) (fun hc => ?_) | refine QN (fun hc => ?_) (fun hc => ?_)) <;> first | exact Bool.noConfusion hc | ((try simp only [znz] at hc); first | exact znf | skip)) | refine Qo ?_ | refine Qj ?_ | simp (maxSteps := 1000000) only [go_sem, Nat.reduceAdd, Nat.reduceMul, Nat.reduceEqDiff, Nat.reduceLeDiff, Nat.reduceLT, Nat.reduceSub, Int.reduceEq, Int.reduceBEq, Int.reduceLT, Int.reduceLE, Int.reduceAdd, Int.reduceToNat, reduceIte, reduceCtorEq, e1, e3, e4] | (refine hK _ ?_; clear hK; clear K') | refine And.intro ?_ ?_ | (apply YR; (focus first | exact Jr)) | (apply QS; (focus first | exact hix | exact (XA _ _ zsd).b)) | exact zlo | omega | exact zms)
    all_goals first | (refine QQ _ rfl ?_; simp only [go_sem, Nat.reduceEqDiff, Nat.reduceAdd, reduceIte, reduceCtorEq]; done) | trace_state
theorem agy {w : List UInt8} {n : Int} (h : jV w = (n, true)) : Lib.atoiAll w = .ok n ∧ acH w = n := by
  obtain ⟨h1, h2, h3⟩ := afJ h
  have e1 := wt h2 (by omega : n < 1000000000000000000)
  have e2 := aeU h2 (by omega : n < 1000000000000000000)
  rw [h1] at e1 e2
  exact ⟨e1, e2⟩
def adr (c : UInt8) : Bool := !(decide (c.toNat < 48 ∨ 57 < c.toNat))
theorem abd : ∀ (s : List UInt8) (a : Int), (aac a s).isSome = s.all adr
  | [], a => rfl
  | c :: r, a => by
    rw [aac]
    split
    · rename_i h; simp [adr, h]
    · rename_i h; rw [abd r, List.all_cons]; simp [adr, h]
theorem agz {s : List UInt8} (h : s.all adr = false) : jV s = (0, false) := by
  rw [jV]; split
  · rfl
  · have := abd s 0
    rw [h] at this
    cases hn : aac 0 s with
    | none => rfl
    | some n => rw [hn] at this; cases this
theorem ahH {s : List UInt8} (h : s.all adr = true) (hb : ¬ (s = [] ∨ 15 < s.length ∨ (1 < s.length ∧ s[0]? = some 48))) : ∃ n, jV s = (n, true) := by
  rw [jV, if_neg hb]
  have := abd s 0
  rw [h] at this
  cases hn : aac 0 s with
  | none => rw [hn] at this; cases this
  | some n => exact ⟨n, rfl⟩
theorem adF (c : UInt8) (k : Nat) (hk : k < 256) : ((c.toNat : Int) == (k : Int)) = (c == UInt8.ofNat k) := by
  rw [Bool.eq_iff_iff]; simp only [beq_iff_eq]
  constructor
  · intro h; apply UInt8.toNat_inj.1; rw [UInt8.toNat_ofNat', Nat.mod_eq_of_lt hk]; omega
  · intro h; rw [h, UInt8.toNat_ofNat', Nat.mod_eq_of_lt hk]
def UV : List AO := [mv 44 6, mv 45 7, xo 46 (.isnilI false (.t 45)), mv 2 44, mv 3 46]
def Kb : List (List Nat) := [[], [], [1], [0, 0], [2, 3, 0, 1, 2, 3]]
def UP : OT := .one 0 (.one 1 (.one 2 (.one 3 (.one 4 (.done)))))
def Yt : OP := .one 0 false [] (mv 44 6) (.one 1 false [] (mv 45 7) (.one 2 false [] (xo 46 (.isnilI false (.t 45))) (.one 3 false [] (mv 2 44) (.one 4 false [] (mv 3 46) (.done)))))
theorem JH : okR (UV) Kb [] UP = true := by kernel_rfl
theorem JG : XT (ris (UV) Kb []) UP = Yt := by kernel_rfl def c_rule_decimal (Vh : Nat) : AC := QR [0] (.reg [mc 2 (V.int 0), mc 3 (V.bool false)]) (QR [0] (QR [0, 9, 10, 11] (.reg [mv 8 0, xo 9 (.convSB (.t 8)), ln 10 9, mc 11 (V.int 0)]) (.block 0 (Kv [0, 9, 10, 11] (QR [0, 9, 10, 11, 12] (.reg [bn 12 .lss 11 10]) (QR [0, 9, 10, 11] (.cond (.t 12) (.skip) (.exit 0)) (QR [0, 9, 10, 11] (.block 1 (QR [0, 5, 9, 10, 11] (.reg [ia 13 1 9 11, ld 14 1 13, mv 5 14]) (QR [0, 9, 10, 11, 20] (.reg [mv 15 5, bc 16 .lss 15 (.sc (.int .u8 48)), mv 17 16, mg 18 5 17 false, xg 19 (.bin .gtr (.t 18) (.c (.sc (.int .u8 57)))) 17 false, xo 20 (.pick (.t 17) (.c (V.bool true)) (.t 19))]) (.cond (.t 20) (QR [2, 3] (.reg [mc 2 (V.int 0), mc 3 (V.bool false)]) (.ret)) (.skip))))) (.reg [bc 21 .add 11 (V.int 1), mv 11 21]))))))) (QR [0] (QR [0, 38] (.reg [mv 22 0, bc 23 .eql 22 (V.str []), mv 24 23, mg 25 0 24 false, xg 26 (.idxS (.t 25) (.c (V.int 0))) 24 false, xg 27 (.bin .eql (.t 26) (.c (.sc (.int .u8 48)))) 24 false, mg 28 27 24 false, mg 29 0 28 true, xg 30 (.lenS (.t 29)) 28 true, xg 31 (.bin .gtr (.t 30) (.c (V.int 1))) 28 true, xg 32 (.pick (.t 28) (.t 31) (.c (V.bool false))) 24 false, xo 33 (.pick (.t 24) (.c (V.bool true)) (.t 32)), mv 34 33, mg 35 0 34 false, xg 36 (.lenS (.t 35)) 34 false, xg 37 (.bin .gtr (.t 36) (.c (V.int 15))) 34 false, xo 38 (.pick (.t 34) (.c (V.bool true)) (.t 37))]) (.cond (.t 38) (QR [2, 3] (.reg [mc 2 (V.int 0), mc 3 (V.bool false)]) (.ret)) (.skip))) (QR [6, 7] (.reg [mv 40 0, cl 41 Vh [40], mv 39 41, ex 42 39 0, ex 43 39 1, mv 6 42, mv 7 43]) (QR [2, 3] (yO [] UP (Yt) (UV) Kb) (.ret))))) def r_rule_decimal : List XY := [.tmp 2, .tmp 3]
def KM (Γ : Env) (f : Nat) : Prop := ∀ (s : List UInt8) (hs : s.length < 2 ^ 30), EvN Γ f [V.str s] (acS (jV s))
theorem vE {Γ : Env} {f Vh : Nat} (h : Has Γ.P f 47 (c_rule_decimal Vh) r_rule_decimal) (Xg : yl Γ Vh) : KM Γ f := by
  intro s hs
  refine JD h (by simp) (by simp only [acS, V.closed, Qq, V.noSl, Yq, and_self]) (by simp only [acS, V.closed, Qq, V.noSl, Yq, and_self]) fun C hC hm => ?_
  subst hC
  unfold c_rule_decimal
  have hat := (Xg s (by omega)).b
  repeat' (first | refine Qf fun K' hK => ?_ | refine Qi fun K' hK => ?_ | refine Qb 5 (fun _ => true) rfl (JH) (JG) fun K' hK => ?_ | refine Qc 5 (fun _ => true) rfl (JH) (JG) fun K' hK => ?_ | refine Qg ?_ | refine Qh ?_ | refine Qa ?_ | ((first | refine Qk ⟨_, rfl, fun hc => ?_, fun hc => ?_⟩ | refine QM (fun hc => ?_) (fun hc => ?_) | refine QN (fun hc => ?_) (fun hc => ?_)) <;> first | exact Bool.noConfusion hc | ((try simp only [znz] at hc); first | exact znf | skip)) | refine Qo ?_ | refine Qj ?_ | simp (maxSteps := 1000000) only [go_sem, Nat.reduceAdd, Nat.reduceMul, Nat.reduceEqDiff, Nat.reduceLeDiff, Nat.reduceLT, Nat.reduceSub, Int.reduceEq, Int.reduceBEq, Int.reduceLT, Int.reduceLE, Int.reduceAdd, Int.reduceToNat, reduceIte, reduceCtorEq, Yt] | (refine hK _ ?_; clear hK; clear K') | refine And.intro ?_ ?_ | ((first | apply QS | apply QT); (focus first | exact (Xg _ zsd).b)) | exact zlo | omega | exact zms)
  refine Wa (ι := Nat) (fun k => k ≤ s.length ∧ (s.drop k).all adr = s.all adr) (fun k => JJ [(0, V.str s), (9, .hd 0 0 s.length), (10, V.int s.length), (11, V.int k)] [(0, .buf true 1 (s.map fun c => V.sc (.int .u8 c.toNat)))] 1) (fun k => s.length - k) 0 ⟨by omega, by simp⟩ (QZ [(0, 3000)]) (JK [(0, 3000)] (by simp only [go_sem, Nat.reduceAdd, Nat.reduceMul, Nat.reduceEqDiff, Nat.reduceLT, Int.reduceToNat, reduceIte, reduceCtorEq, and_true, true_and, implies_true, Option.some.injEq, exists_eq_left', Qd, Qm]; (repeat' (first | rfl | refine And.intro ?_ ?_ | omega | exact fun h => h | exact Exists.intro _ rfl))) (by simp only [go_sem, Nat.reduceAdd, Nat.reduceMul, Nat.reduceEqDiff, Nat.reduceLT, Int.reduceToNat, reduceIte, reduceCtorEq, and_true, true_and, implies_true, Option.some.injEq, exists_eq_left', Qd, Qm]; (repeat' (first | rfl | refine And.intro ?_ ?_ | omega | exact fun h => h | exact Exists.intro _ rfl))) (by simp [QZ]) (by simp; omega) (by omega)) fun k hk K' hL => ?_
  obtain ⟨hk, hinv⟩ := hk
  rcases hd : s.drop k with _ | ⟨c, r⟩
  · have hkl := XU hd
    rw [hd] at hinv
    have hall : s.all adr = true := hinv.symm
    have e1 : decide ((k : Int) < ((s.length : Nat) : Int)) = false := by simp; omega
    by_cases hbad : s = [] ∨ 15 < s.length ∨ (1 < s.length ∧ s[0]? = some 48)
    · have hr : jV s = (0, false) := by rw [jV, if_pos hbad]
      rw [hr]
      rcases s with _ | ⟨c, r⟩
      · repeat' (first | refine Qf fun K' hK => ?_ | refine Qi fun K' hK => ?_ | refine Qb 5 (fun _ => true) rfl (JH) (JG) fun K' hK => ?_ | refine Qc 5 (fun _ => true) rfl (JH) (JG) fun K' hK => ?_ | refine Qg ?_ | refine Qh ?_ | refine Qa ?_ | ((first | refine Qk ⟨_, rfl, fun hc => ?_, fun hc => ?_⟩ | refine QM (fun hc => ?_) (fun hc => ?_) | refine QN (fun hc => ?_) (fun hc => ?_)) <;> first | exact Bool.noConfusion hc | ((try simp only [znz] at hc); first | exact znf | skip)) | refine Qo ?_ | refine Qj ?_ | simp (maxSteps := 1000000) only [go_sem, Nat.reduceAdd, Nat.reduceMul, Nat.reduceEqDiff, Nat.reduceLeDiff, Nat.reduceLT, Nat.reduceSub, Int.reduceEq, Int.reduceBEq, Int.reduceLT, Int.reduceLE, Int.reduceAdd, Int.reduceToNat, reduceIte, reduceCtorEq, JJ, e1, Yt] | (refine hK _ ?_; clear hK; clear K') | refine And.intro ?_ ?_ | ((first | apply QS | apply QT); (focus first | exact (Xg _ zsd).b)) | exact zlo | omega | exact zms)
        all_goals first | (simp only [acS]; refine QQ _ rfl ?_; simp only [go_sem, Nat.reduceEqDiff, Nat.reduceAdd, reduceIte, reduceCtorEq]; done) | trace_state
      · have e2 : (c :: r == []) = false := rfl
        simp only [List.length_cons] at e1
        have e3 := adF c 48 (by decide)
        have e3' : ((c.toNat : Int) == 48) = (c == 48) := e3
        have e5 : decide (((r.length + 1 : Nat) : Int) > 1) = decide (1 < (c :: r).length) := by apply decide_eq_decide.2; simp only [List.length_cons]; omega
        have e6 : decide (((r.length + 1 : Nat) : Int) > 15) = decide (15 < (c :: r).length) := by apply decide_eq_decide.2; simp only [List.length_cons]; omega
        by_cases h48 : c = 48 ∧ 1 < (c :: r).length
        · have e4 : (c == 48) = true := by simpa using h48.1
          rw [e4] at e3'
          rw [decide_eq_true h48.2] at e5
          repeat' (first | refine Qf fun K' hK => ?_ | refine Qi fun K' hK => ?_ | refine Qb 5 (fun _ => true) rfl (JH) (JG) fun K' hK => ?_ | refine Qc 5 (fun _ => true) rfl (JH) (JG) fun K' hK => ?_ | refine Qg ?_ | refine Qh ?_ | refine Qa ?_ | ((first | refine Qk ⟨_, rfl, fun hc => ?_, fun hc => ?_⟩ | refine QM (fun hc => ?_) (fun hc => ?_) | refine QN (fun hc => ?_) (fun hc => ?_)) <;> first | exact Bool.noConfusion hc | ((try simp only [znz] at hc); first | exact znf | skip)) | refine Qo ?_ | refine Qj ?_ | simp (maxSteps := 1000000) only [go_sem, Nat.reduceAdd, Nat.reduceMul, Nat.reduceEqDiff, Nat.reduceLeDiff, Nat.reduceLT, Nat.reduceSub, Int.reduceEq, Int.reduceBEq, Int.reduceLT, Int.reduceLE, Int.reduceAdd, Int.reduceToNat, reduceIte, reduceCtorEq, JJ, e1, e2, e3', e5, List.length_cons, Yt] | (refine hK _ ?_; clear hK; clear K') | refine And.intro ?_ ?_ | ((first | apply QS | apply QT); (focus first | exact (Xg _ zsd).b)) | exact zlo | omega | exact zms)
          all_goals first | (simp only [acS]; refine QQ _ rfl ?_; simp only [go_sem, Nat.reduceEqDiff, Nat.reduceAdd, reduceIte, reduceCtorEq]; done) | trace_state
        · have h15 : 15 < (c :: r).length := by
            rcases hbad with h | h | ⟨h, h2⟩
            · cases h
            · exact h
            · exact absurd ⟨by simpa using h2, h⟩ h48
          rw [decide_eq_true h15] at e6
          have e7 : decide (1 < (c :: r).length) = true := decide_eq_true (by omega)
          have e4 : (c == 48) = false := by
            simp only [beq_eq_false_iff_ne, ne_eq]; intro h; exact h48 ⟨h, by omega⟩
          rw [e4] at e3'
          repeat' (first | refine Qf fun K' hK => ?_ | refine Qi fun K' hK => ?_ | refine Qb 5 (fun _ => true) rfl (JH) (JG) fun K' hK => ?_ | refine Qc 5 (fun _ => true) rfl (JH) (JG) fun K' hK => ?_ | refine Qg ?_ | refine Qh ?_ | refine Qa ?_ | ((first | refine Qk ⟨_, rfl, fun hc => ?_, fun hc => ?_⟩ | refine QM (fun hc => ?_) (fun hc => ?_) | refine QN (fun hc => ?_) (fun hc => ?_)) <;> first | exact Bool.noConfusion hc | ((try simp only [znz] at hc); first | exact znf | skip)) | refine Qo ?_ | refine Qj ?_ | simp (maxSteps := 1000000) only [go_sem, Nat.reduceAdd, Nat.reduceMul, Nat.reduceEqDiff, Nat.reduceLeDiff, Nat.reduceLT, Nat.reduceSub, Int.reduceEq, Int.reduceBEq, Int.reduceLT, Int.reduceLE, Int.reduceAdd, Int.reduceToNat, reduceIte, reduceCtorEq, JJ, e1, e2, e3', e6, List.length_cons, Yt] | (refine hK _ ?_; clear hK; clear K') | refine And.intro ?_ ?_ | ((first | apply QS | apply QT); (focus first | exact (Xg _ zsd).b)) | exact zlo | omega | exact zms)
          all_goals first | (simp only [acS]; refine QQ _ rfl ?_; simp only [go_sem, Nat.reduceEqDiff, Nat.reduceAdd, reduceIte, reduceCtorEq]; done) | trace_state
    · obtain ⟨n, hn⟩ := ahH hall hbad
      obtain ⟨v1, v2⟩ := agy hn
      have hat2 : EvB C.env Vh [V.str s] (.tup [V.int n, .sc .nilIface]) none := by
        have := hat
        rw [v2] at this
        simpa only [ahl, v1] using this
      rw [hn]
      rcases s with _ | ⟨c, r⟩
      · exact absurd (.inl rfl) hbad
      · have e2 : (c :: r == []) = false := rfl
        simp only [List.length_cons] at e1
        have e3' : ((c.toNat : Int) == 48) = (c == 48) := adF c 48 (by decide)
        have e5 : decide (((r.length + 1 : Nat) : Int) > 1) = decide (1 < (c :: r).length) := by apply decide_eq_decide.2; simp only [List.length_cons]; omega
        have e6 : decide (((r.length + 1 : Nat) : Int) > 15) = false := by apply decide_eq_false; intro h; exact hbad (.inr (.inl (by simp only [List.length_cons]; omega)))
        by_cases h48 : c = 48
        · have e4 : (c == 48) = true := by simpa using h48
          rw [e4] at e3'
          have e7 : decide (1 < (c :: r).length) = false := by
            apply decide_eq_false; intro h; exact hbad (.inr (.inr ⟨h, by simp [h48]⟩))
          rw [e7] at e5
          repeat' (first | refine Qf fun K' hK => ?_ | refine Qi fun K' hK => ?_ | refine Qb 5 (fun _ => true) rfl (JH) (JG) fun K' hK => ?_ | refine Qc 5 (fun _ => true) rfl (JH) (JG) fun K' hK => ?_ | refine Qg ?_ | refine Qh ?_ | refine Qa ?_ | ((first | refine Qk ⟨_, rfl, fun hc => ?_, fun hc => ?_⟩ | refine QM (fun hc => ?_) (fun hc => ?_) | refine QN (fun hc => ?_) (fun hc => ?_)) <;> first | exact Bool.noConfusion hc | ((try simp only [znz] at hc); first | exact znf | skip)) | refine Qo ?_ | refine Qj ?_ | simp (maxSteps := 1000000) only [go_sem, Nat.reduceAdd, Nat.reduceMul, Nat.reduceEqDiff, Nat.reduceLeDiff, Nat.reduceLT, Nat.reduceSub, Int.reduceEq, Int.reduceBEq, Int.reduceLT, Int.reduceLE, Int.reduceAdd, Int.reduceToNat, reduceIte, reduceCtorEq, JJ, e1, e2, e3', e5, e6, List.length_cons, Yt] | (refine hK _ ?_; clear hK; clear K') | refine And.intro ?_ ?_ | ((first | apply QS | apply QT); (focus first | exact hat2 | exact (Xg _ zsd).b)) | exact zlo | omega | exact zms)
          all_goals first | (simp only [acS]; refine QQ _ rfl ?_; simp only [go_sem, Nat.reduceEqDiff, Nat.reduceAdd, reduceIte, reduceCtorEq]; done) | trace_state
        · have e4 : (c == 48) = false := by simpa using h48
          rw [e4] at e3'
          repeat' (first | refine Qf fun K' hK => ?_ | refine Qi fun K' hK => ?_ | refine Qb 5 (fun _ => true) rfl (JH) (JG) fun K' hK => ?_ | refine Qc 5 (fun _ => true) rfl (JH) (JG) fun K' hK => ?_ | refine Qg ?_ | refine Qh ?_ | refine Qa ?_ | ((first | refine Qk ⟨_, rfl, fun hc => ?_, fun hc => ?_⟩ | refine QM (fun hc => ?_) (fun hc => ?_) | refine QN (fun hc => ?_) (fun hc => ?_)) <;> first | exact Bool.noConfusion hc | ((try simp only [znz] at hc); first | exact znf | skip)) | refine Qo ?_ | refine Qj ?_ | simp (maxSteps := 1000000) only [go_sem, Nat.reduceAdd, Nat.reduceMul, Nat.reduceEqDiff, Nat.reduceLeDiff, Nat.reduceLT, Nat.reduceSub, Int.reduceEq, Int.reduceBEq, Int.reduceLT, Int.reduceLE, Int.reduceAdd, Int.reduceToNat, reduceIte, reduceCtorEq, JJ, e1, e2, e3', e6, List.length_cons, Yt] | (refine hK _ ?_; clear hK; clear K') | refine And.intro ?_ ?_ | ((first | apply QS | apply QT); (focus first | exact hat2 | exact (Xg _ zsd).b)) | exact zlo | omega | exact zms)
          all_goals first | (simp only [acS]; refine QQ _ rfl ?_; simp only [go_sem, Nat.reduceEqDiff, Nat.reduceAdd, reduceIte, reduceCtorEq]; done) | trace_state
  · obtain ⟨hk', hget, hr⟩ := Xq hd
    rw [hd] at hinv
    have hw := Xh (k := k) (by omega)
    have e1 : decide ((k : Int) < ((s.length : Nat) : Int)) = true := by simp; omega
    have hno : adr c = false → jV s = (0, false) := fun h => agz (by rw [← hinv, List.all_cons, h]; rfl)
    rcases h1 : decide ((c.toNat : Int) < 48) with _ | _
    · rcases h2 : decide ((c.toNat : Int) > 57) with _ | _
      · have hdg : adr c = true := by
          simp only [decide_eq_false_iff_not] at h1 h2
          simp only [adr, Bool.not_eq_true', decide_eq_false_iff_not]; omega
        repeat' (first | refine Qf fun K' hK => ?_ | refine Qi fun K' hK => ?_ | refine Qb 5 (fun _ => true) rfl (JH) (JG) fun K' hK => ?_ | refine Qc 5 (fun _ => true) rfl (JH) (JG) fun K' hK => ?_ | refine Qg ?_ | refine Qh ?_ | refine Qa ?_ | ((first | refine Qk ⟨_, rfl, fun hc => ?_, fun hc => ?_⟩ | refine QM (fun hc => ?_) (fun hc => ?_) | refine QN (fun hc => ?_) (fun hc => ?_)) <;> first | exact Bool.noConfusion hc | ((try simp only [znz] at hc); first | exact znf | skip)) | refine Qo ?_ | refine Qj ?_ | simp (maxSteps := 1000000) only [go_sem, Nat.reduceAdd, Nat.reduceMul, Nat.reduceEqDiff, Nat.reduceLeDiff, Nat.reduceLT, Nat.reduceSub, Int.reduceEq, Int.reduceBEq, Int.reduceLT, Int.reduceLE, Int.reduceAdd, Int.reduceToNat, reduceIte, reduceCtorEq, JJ, e1, hw, Int.toNat_natCast, List.getElem?_map, hget, h1, h2, Yt] | (refine hK _ ?_; clear hK; clear K') | refine And.intro ?_ ?_ | ((first | apply QS | apply QT); (focus first | exact (Xg _ zsd).b)) | exact zlo | omega | exact zms)
        all_goals first
          | exact hL _ (k + 1) (QZ [(0, 0)]) ⟨by omega, by rw [hr, ← hinv, List.all_cons, hdg]; rfl⟩ (by omega) (JK [(0, 0)] (by simp only [go_sem, Nat.reduceAdd, Nat.reduceMul, Nat.reduceEqDiff, Nat.reduceLT, Int.reduceToNat, reduceIte, reduceCtorEq, and_true, true_and, implies_true, Option.some.injEq, exists_eq_left', Qd, Qm]; (repeat' (first | rfl | refine And.intro ?_ ?_ | omega | exact fun h => h | exact Exists.intro _ rfl))) (by simp only [go_sem, Nat.reduceAdd, Nat.reduceMul, Nat.reduceEqDiff, Nat.reduceLT, Int.reduceToNat, reduceIte, reduceCtorEq, and_true, true_and, implies_true, Option.some.injEq, exists_eq_left', Qd, Qm]; (repeat' (first | rfl | refine And.intro ?_ ?_ | omega | exact fun h => h | exact Exists.intro _ rfl))) (by simp [QZ]) (by simp; omega) (by omega))
          | trace_state
      · have hdg : adr c = false := by
          simp only [decide_eq_true_eq] at h2
          simp only [adr, Bool.not_eq_false', decide_eq_true_eq]; omega
        rw [hno hdg]
        repeat' (first | refine Qf fun K' hK => ?_ | refine Qi fun K' hK => ?_ | refine Qb 5 (fun _ => true) rfl (JH) (JG) fun K' hK => ?_ | refine Qc 5 (fun _ => true) rfl (JH) (JG) fun K' hK => ?_ | refine Qg ?_ | refine Qh ?_ | refine Qa ?_ | ((first | refine Qk ⟨_, rfl, fun hc => ?_, fun hc => ?_⟩ | refine QM (fun hc => ?_) (fun hc => ?_) | refine QN (fun hc => ?_) (fun hc => ?_)) <;> first | exact Bool.noConfusion hc | ((try simp only [znz] at hc); first | exact znf | skip)) | refine Qo ?_ | refine Qj ?_ | simp (maxSteps := 1000000) only [go_sem, Nat.reduceAdd, Nat.reduceMul, Nat.reduceEqDiff, Nat.reduceLeDiff, Nat.reduceLT, Nat.reduceSub, Int.reduceEq, Int.reduceBEq, Int.reduceLT, Int.reduceLE, Int.reduceAdd, Int.reduceToNat, reduceIte, reduceCtorEq, JJ, e1, hw, Int.toNat_natCast, List.getElem?_map, hget, h1, h2, Yt] | (refine hK _ ?_; clear hK; clear K') | refine And.intro ?_ ?_ | ((first | apply QS | apply QT); (focus first | exact (Xg _ zsd).b)) | exact zlo | omega | exact zms)
        all_goals first | (simp only [acS]; refine QQ _ rfl ?_; simp only [go_sem, Nat.reduceEqDiff, Nat.reduceAdd, reduceIte, reduceCtorEq]; done) | trace_state
    · have hdg : adr c = false := by
        simp only [decide_eq_true_eq] at h1
        simp only [adr, Bool.not_eq_false', decide_eq_true_eq]; omega
      rw [hno hdg]
      repeat' (first | refine Qf fun K' hK => ?_ | refine Qi fun K' hK => ?_ | refine Qb 5 (fun _ => true) rfl (JH) (JG) fun K' hK => ?_ | refine Qc 5 (fun _ => true) rfl (JH) (JG) fun K' hK => ?_ | refine Qg ?_ | refine Qh ?_ | refine Qa ?_ | ((first | refine Qk ⟨_, rfl, fun hc => ?_, fun hc => ?_⟩ | refine QM (fun hc => ?_) (fun hc => ?_) | refine QN (fun hc => ?_) (fun hc => ?_)) <;> first | exact Bool.noConfusion hc | ((try simp only [znz] at hc); first | exact znf | skip)) | refine Qo ?_ | refine Qj ?_ | simp (maxSteps := 1000000) only [go_sem, Nat.reduceAdd, Nat.reduceMul, Nat.reduceEqDiff, Nat.reduceLeDiff, Nat.reduceLT, Nat.reduceSub, Int.reduceEq, Int.reduceBEq, Int.reduceLT, Int.reduceLE, Int.reduceAdd, Int.reduceToNat, reduceIte, reduceCtorEq, JJ, e1, hw, Int.toNat_natCast, List.getElem?_map, hget, h1, Yt] | (refine hK _ ?_; clear hK; clear K') | refine And.intro ?_ ?_ | ((first | apply QS | apply QT); (focus first | exact (Xg _ zsd).b)) | exact zlo | omega | exact zms)
      all_goals first | (simp only [acS]; refine QQ _ rfl ?_; simp only [go_sem, Nat.reduceEqDiff, Nat.reduceAdd, reduceIte, reduceCtorEq]; done) | trace_state
def jr (Ux : Nat) : AC := QR [0] (.reg [mc 2 (V.int 0), mc 3 (V.bool false)]) (QR [2, 3] (.reg [mv 4 0, xo 5 (.callv (.t 4) []), cl 6 Ux [5], ex 7 6 0, ex 8 6 1, mv 2 7, mv 3 8]) (.ret)) def r_rule_number : List XY := [.tmp 2, .tmp 3]
def UC (Γ : Env) (f : Nat) : Prop := ∀ (ws : WS) (nx : Nat) (hnx : YX Γ nx) (hl : ws.length < 2 ^ 40) (hs : ∀ x ∈ ws, x.length < 2 ^ 30), EvM Γ f nx (jg ws) (acS (jV (Xo ws).1)) (jg (Xo ws).2)
theorem aao {Γ : Env} {f Ux : Nat} (h : Has Γ.P f 9 (jr Ux) r_rule_number) (yH : KM Γ Ux) : UC Γ f := by
  intro ws nx hnx hl hs
  refine vM h (by simp) (by simp only [acS, V.closed, Qq, and_self]) (by first | exact J0 _ _ | simp only [V.closed, Qq, and_self, and_true, true_and]) (by first | exact J0 _ _ | simp only [V.closed, Qq, and_self, and_true, true_and]) fun C hC hm => ?_
  subst hC
  unfold jr
  have n1 := hnx ws hl
  have hb : (Xo ws).1.length < 2 ^ 30 := by
    rcases ws with _ | ⟨x, r⟩
    · simp [Xo]
    · exact hs x (by simp)
  have n2 := (yH (Xo ws).1 hb).b
  generalize Xo ws = p at *
  obtain ⟨w, r⟩ := p
  simp only at n1 n2 ⊢
  generalize jV w = q at *
  obtain ⟨v, ok⟩ := q
  simp only [acS] at n2 ⊢
  repeat' (first | refine Qf fun K' hK => ?_ | refine Qi fun K' hK => ?_ | refine Qg ?_ | refine Qh ?_ | refine Qa ?_ | ((first | refine Qk ⟨_, rfl, fun hc => ?_, fun hc => ?_⟩ | refine QM (fun hc => ?_) (fun hc => ?_) | refine QN (fun hc => ?_) (fun hc => ?_)) <;> first | exact Bool.noConfusion hc | ((try simp only [znz] at hc); first | exact znf | skip)) | refine Qo ?_ | refine Qj ?_ | simp (maxSteps := 1000000) only [go_sem, Nat.reduceAdd, Nat.reduceMul, Nat.reduceEqDiff, Nat.reduceLeDiff, Nat.reduceLT, Nat.reduceSub, Int.reduceEq, Int.reduceBEq, Int.reduceLT, Int.reduceLE, Int.reduceAdd, Int.reduceToNat, reduceIte, reduceCtorEq] | (refine hK _ ?_; clear hK; clear K') | refine And.intro ?_ ?_ | (apply Yd; (focus exact rfl); (focus first | exact n1); (focus exact rfl); (focus exact rfl)) | (apply QS; (focus first | exact n2 | exact (yH _ zsd).b)) | exact zlo | omega | exact zms)
  all_goals first | (refine WP _ rfl rfl (by simp only [V.closed, Qq, and_self, and_true, true_and]) ?_; simp only [go_sem, Nat.reduceEqDiff, Nat.reduceAdd, reduceIte, reduceCtorEq]; done) | trace_state
def qo (Xy : Nat) : AC := QR [0] (.reg [mc 2 (V.int 0), mc 3 (V.bool false)]) (QR [4] (.reg [mv 5 0, xo 6 (.callv (.t 5) []), cl 7 Xy [6], mv 4 7]) (QR [2, 3] (.reg [mv 8 4, mv 9 4, bc 10 .gtr 9 (V.int 0), mv 2 8, mv 3 10]) (.ret))) def r_rule_purpose : List XY := [.tmp 2, .tmp 3]
def V9 (Γ : Env) (f : Nat) : Prop := ∀ (ws : WS) (nx : Nat) (hnx : YX Γ nx) (hl : ws.length < 2 ^ 40), EvM Γ f nx (jg ws) (.tup [V.int (jZ (Xo ws).1), V.bool (decide (jZ (Xo ws).1 > 0))]) (jg (Xo ws).2)
theorem vC {Γ : Env} {f Xy : Nat} (h : Has Γ.P f 11 (qo Xy) r_rule_purpose) (Jv : Ua Γ Xy) : V9 Γ f := by
  intro ws nx hnx hl
  refine vM h (by simp) (by simp only [V.closed, Qq, V.noSl, Yq, and_self, and_true, true_and]) (by first | exact J0 _ _ | simp only [V.closed, Qq, and_self, and_true, true_and]) (by first | exact J0 _ _ | simp only [V.closed, Qq, and_self, and_true, true_and]) fun C hC hm => ?_
  subst hC
  unfold qo
  have n1 := hnx ws hl
  generalize Xo ws = p at *
  obtain ⟨w, r⟩ := p
  simp only at n1 ⊢
  have n2 := (Jv w).b
  generalize jZ w = q at *
  repeat' (first | refine Qf fun K' hK => ?_ | refine Qi fun K' hK => ?_ | refine Qg ?_ | refine Qh ?_ | refine Qa ?_ | ((first | refine Qk ⟨_, rfl, fun hc => ?_, fun hc => ?_⟩ | refine QM (fun hc => ?_) (fun hc => ?_) | refine QN (fun hc => ?_) (fun hc => ?_)) <;> first | exact Bool.noConfusion hc | ((try simp only [znz] at hc); first | exact znf | skip)) | refine Qo ?_ | refine Qj ?_ | simp (maxSteps := 1000000) only [go_sem, Nat.reduceAdd, Nat.reduceMul, Nat.reduceEqDiff, Nat.reduceLeDiff, Nat.reduceLT, Nat.reduceSub, Int.reduceEq, Int.reduceBEq, Int.reduceLT, Int.reduceLE, Int.reduceAdd, Int.reduceToNat, reduceIte, reduceCtorEq] | (refine hK _ ?_; clear hK; clear K') | refine And.intro ?_ ?_ | (apply Yd; (focus exact rfl); (focus first | exact n1); (focus exact rfl); (focus exact rfl)) | (apply QS; (focus first | exact n2 | exact (Jv _).b)) | exact zlo | omega | exact zms)
  all_goals first | (refine WP _ rfl rfl (by simp only [V.closed, Qq, and_self, and_true, true_and]) ?_; simp only [go_sem, Nat.reduceEqDiff, Nat.reduceAdd, reduceIte, reduceCtorEq]; done) | trace_state
end Av
end
section
set_option linter.unusedSimpArgs false
set_option linter.unusedVariables false
set_option maxRecDepth 10000
set_option maxHeartbeats 4000000
namespace Av
open Go
attribute [local irreducible] AWp XV WG WJ awS awC VK awQ V4 Jq Xf VH awR Xk awB okR XT ris
structure Qp where
  allow : Bool
  alg : Int
  below : Int
  purp : Int
  frm : Int
  til : Int
def Qp.cells (r : Qp) : List V := [V.bool r.allow, V.int r.alg, V.int r.below, V.int r.purp, V.int r.frm, V.int r.til]
abbrev Qp.v (r : Qp) : V := .agg r.cells
def Qp.setF (r : Qp) : Nat → Int → Qp
  | 2, v => { r with below := v }
  | 3, v => { r with purp := v }
  | 4, v => { r with frm := v }
  | 5, v => { r with til := v }
  | _, _ => r
theorem Qp.cells_closed (r : Qp) : Qq r.cells := by simp only [Qp.cells, V.closed, Qq, and_self]
def UF (w : List UInt8) (rd : List UInt8 → Int × Bool) (k : Nat) (r : Qp) (ws : WS) : Bool × Qp × WS :=
  if (isL w ws).1 = true then ((rd (Xo (isL w ws).2).1).2, r.setF k (rd (Xo (isL w ws).2).1).1, (Xo (isL w ws).2).2) else (true, r, ws)
def LSz (ws : WS) : Prop := ws.length < 2 ^ 40 ∧ ∀ x ∈ ws, x.length < 2 ^ 30
theorem vt (w : List UInt8) (ws : WS) : (isL w ws).2 <:+ ws := by
  cases ws with
  | nil => exact List.suffix_refl _
  | cons x r =>
    rw [isL]; split
    · exact List.suffix_cons _ _
    · exact List.suffix_refl _
theorem vn (ws : WS) : (Xo ws).2 <:+ ws := by
  cases ws with
  | nil => exact List.suffix_refl _
  | cons x r => exact List.suffix_cons _ _
theorem vl (w : List UInt8) (rd : List UInt8 → Int × Bool) (k : Nat) (r : Qp) (ws : WS) : (UF w rd k r ws).2.2 <:+ ws := by
  rw [UF]; split
  · exact (vn _).trans (vt _ _)
  · exact List.suffix_refl _
theorem LSz.suf {a b : WS} (h : LSz b) (hs : a <:+ b) : LSz a := ⟨Nat.lt_of_le_of_lt hs.length_le h.1, fun x hx => h.2 x (hs.mem hx)⟩
theorem acd {w : List UInt8} {ws : WS} (h : (isL w ws).1 = false) : (isL w ws).2 = ws := by
  cases ws with
  | nil => rfl
  | cons x r =>
    rw [isL] at h ⊢; split
    · rename_i hx; rw [if_pos hx] at h; cases h
    · rfl
def af6 (Γ : Env) (g : Nat) (rd : List UInt8 → Int × Bool) : Prop := ∀ (ws : WS) (nx : Nat), YX Γ nx → LSz ws → EvM Γ g nx (jg ws) (acS (rd (Xo ws).1)) (jg (Xo ws).2)
def yX (J7 Jz : Nat) : AC := QR [0, 1, 2, 3] (.reg [mc 8 (V.bool false)]) (QR [0, 2, 3] (QR [0, 2, 3, 14] (.reg [mv 11 0, mv 12 1, cl 13 J7 [11, 12], xo 14 (.un .not (.t 13))]) (.cond (.t 14) (QR [8] (.reg [mc 8 (V.bool true)]) (.ret)) (.skip))) (QR [2, 9, 10] (.reg [mv 16 3, mv 17 0, xo 18 (.mkfn (.m Jz) [(.t 17)]), xo 19 (.callv (.t 16) [(.t 18)]), mv 15 19, ex 20 15 0, ex 21 15 1, mv 9 20, mv 10 21]) (QR [10] (.reg [mv 22 2, mv 23 9, nk 24 22, xs 1 24 23]) (QR [8] (.reg [mv 25 10, mv 8 25]) (.ret))))) def r_rule_part : List XY := [.tmp 8]
def yo (Γ : Env) (f : Nat) : Prop := ∀ (ws : WS) (w : List UInt8) (k : Nat) (g : Nat) (r : Qp) (rd : List UInt8 → Int × Bool) (hk : k = 2 ∨ k = 3 ∨ k = 4 ∨ k = 5) (hs : LSz ws) (hg : af6 Γ g rd), EvQ Γ f (V.str w) k g (jg ws) r.cells (V.bool (UF w rd k r ws).1) (jg (UF w rd k r ws).2.2) ((UF w rd k r ws).2.1.cells)
theorem acr {Γ : Env} {f J7 Jz : Nat} (h : Has Γ.P f 26 (yX J7 Jz) r_rule_part) (QK : Ww Γ J7) (QD : YX Γ Jz) : yo Γ f := by
  intro ws w k g r rd hk hs hg
  refine adm h (by simp) (by simp only [V.closed, Qq, V.noSl, Yq, and_self, and_true, true_and]) (by first | assumption | exact Qp.cells_closed _ | simp only [V.closed, Qq, and_self, and_true, true_and]) (by first | assumption | exact Qp.cells_closed _ | simp only [V.closed, Qq, and_self, and_true, true_and]) (by first | assumption | exact Qp.cells_closed _ | simp only [V.closed, Qq, and_self, and_true, true_and]) (by first | assumption | exact Qp.cells_closed _ | simp only [V.closed, Qq, and_self, and_true, true_and]) (by first | assumption | exact Qp.cells_closed _ | simp only [V.closed, Qq, and_self, and_true, true_and]) fun C hC hm => ?_
  subst hC
  unfold yX
  have n1 := QK ws w hs.1
  have hfa := acd (w := w) (ws := ws)
  rw [UF]
  rcases hq : isL w ws with ⟨t, v⟩
  have hv : LSz v := by have := hs.suf (vt w ws); rw [hq] at this; exact this
  rw [hq] at n1 hfa
  simp only at n1 hfa ⊢
  rcases t with _ | _
  · have e := hfa rfl
    subst e
    simp only [Bool.false_eq_true, if_false, Qp.cells]
    repeat' (first | refine Qf fun K' hK => ?_ | refine Qi fun K' hK => ?_ | refine Qg ?_ | refine Qh ?_ | refine Qa ?_ | ((first | refine Qk ⟨_, rfl, fun hc => ?_, fun hc => ?_⟩ | refine QM (fun hc => ?_) (fun hc => ?_) | refine QN (fun hc => ?_) (fun hc => ?_)) <;> first | exact Bool.noConfusion hc | ((try simp only [znz] at hc); first | exact znf | skip)) | refine Qo ?_ | refine Qj ?_ | simp (maxSteps := 1000000) only [go_sem, Nat.reduceAdd, Nat.reduceMul, Nat.reduceEqDiff, Nat.reduceLeDiff, Nat.reduceLT, Nat.reduceSub, Int.reduceEq, Int.reduceBEq, Int.reduceLT, Int.reduceLE, Int.reduceAdd, Int.reduceToNat, reduceIte, reduceCtorEq] | (refine hK _ ?_; clear hK; clear K') | refine And.intro ?_ ?_ | (apply Yd; (focus exact rfl); (focus first | exact n1 | exact (QK _ _ zsd) | exact (QD _ zsd)); (focus exact rfl); (focus exact rfl)) | exact zlo | omega | exact zms)
    all_goals first | (refine ahn _ rfl rfl rfl (by first | assumption | simp only [V.closed, Qq, and_self, and_true, true_and]) (by first | assumption | simp only [V.closed, Qq, and_self, and_true, true_and]) ?_; simp only [go_sem, Nat.reduceEqDiff, Nat.reduceAdd, reduceIte, reduceCtorEq]; done) | trace_state
  · have n2 := hg v Jz QD hv
    generalize Xo v = p at *
    obtain ⟨x, u⟩ := p
    simp only [if_true] at n2 ⊢
    generalize rd x = y at *
    obtain ⟨n, ok⟩ := y
    simp only [acS] at n2 ⊢
    rcases hk with rfl | rfl | rfl | rfl
    all_goals
      simp only [Qp.cells, Qp.setF]
      repeat' (first | refine Qf fun K' hK => ?_ | refine Qi fun K' hK => ?_ | refine Qg ?_ | refine Qh ?_ | refine Qa ?_ | ((first | refine Qk ⟨_, rfl, fun hc => ?_, fun hc => ?_⟩ | refine QM (fun hc => ?_) (fun hc => ?_) | refine QN (fun hc => ?_) (fun hc => ?_)) <;> first | exact Bool.noConfusion hc | ((try simp only [znz] at hc); first | exact znf | skip)) | refine Qo ?_ | refine Qj ?_ | simp (maxSteps := 1000000) only [go_sem, Nat.reduceAdd, Nat.reduceMul, Nat.reduceEqDiff, Nat.reduceLeDiff, Nat.reduceLT, Nat.reduceSub, Int.reduceEq, Int.reduceBEq, Int.reduceLT, Int.reduceLE, Int.reduceAdd, Int.reduceToNat, reduceIte, reduceCtorEq] | (refine hK _ ?_; clear hK; clear K') | refine And.intro ?_ ?_ | (apply Yd; (focus exact rfl); (focus first | exact n1 | exact (QK _ _ zsd) | exact (QD _ zsd)); (focus exact rfl); (focus exact rfl)) | (apply UH; (focus exact rfl); (focus first | exact n2); (focus exact rfl)) | exact zlo | omega | exact zms)
    all_goals first | (refine ahn _ rfl rfl rfl (by first | assumption | simp only [V.closed, Qq, and_self, and_true, true_and]) (by first | assumption | simp only [V.closed, Qq, and_self, and_true, true_and]) ?_; simp only [go_sem, Nat.reduceEqDiff, Nat.reduceAdd, reduceIte, reduceCtorEq]; done) | trace_state
def ae2 (p : Bool × Qp × WS) (f : Qp → WS → Bool × Qp × WS) : Bool × Qp × WS := if p.1 = true then f p.2.1 p.2.2 else p
abbrev rdP (w : List UInt8) : Int × Bool := (jZ w, decide (jZ w > 0))
def aa3 (r : Qp) (ws : WS) : Bool × Qp × WS := ae2 (ae2 (ae2 (UF [98, 101, 108, 111, 119] jV 2 r ws) (UF [102, 111, 114] rdP 3)) (UF [102, 114, 111, 109] jV 4)) (UF [117, 110, 116, 105, 108] jV 5)
def XW (ws : WS) : Bool × Bool × WS := if (isL [97, 108, 108, 111, 119] ws).1 = true then (true, true, (isL [97, 108, 108, 111, 119] ws).2) else (false, (isL [102, 111, 114, 98, 105, 100] ws).1, (isL [102, 111, 114, 98, 105, 100] ws).2)
def abM (x : List UInt8) : Int := if x = [97, 110, 121] then 0 else xl x 0 Vq
def aaa (ws : WS) : Qp × Bool × WS :=
  if (XW ws).2.1 = true then
    if (Xo (XW ws).2.2).1 ≠ [97, 110, 121] ∧ abM (Xo (XW ws).2.2).1 = 0 then (⟨(XW ws).1, 0, 0, 0, 0, 40001⟩, false, (Xo (XW ws).2.2).2)
    else ((aa3 ⟨(XW ws).1, abM (Xo (XW ws).2.2).1, 0, 0, 0, 40001⟩ (Xo (XW ws).2.2).2).2.1, (aa3 ⟨(XW ws).1, abM (Xo (XW ws).2.2).1, 0, 0, 0, 40001⟩ (Xo (XW ws).2.2).2).1 && (aa3 ⟨(XW ws).1, abM (Xo (XW ws).2.2).1, 0, 0, 0, 40001⟩ (Xo (XW ws).2.2).2).2.2.isEmpty, (aa3 ⟨(XW ws).1, abM (Xo (XW ws).2.2).1, 0, 0, 0, 40001⟩ (Xo (XW ws).2.2).2).2.2)
  else (⟨(XW ws).1, 0, 0, 0, 0, 40001⟩, false, (XW ws).2.2)
end Av
end
section
set_option linter.unusedSimpArgs false
set_option linter.unusedVariables false
set_option maxRecDepth 10000
set_option maxHeartbeats 4000000
namespace Av
open Go
attribute [local irreducible] AWp XV WG WJ awS awC VK awQ V4 Jq Xf VH awR Xk awB okR XT ris
theorem afL (ws : WS) : (XW ws).2.2 <:+ ws := by
  rw [XW]; split
  · exact vt _ _
  · exact vt _ _
theorem aca (u : WS) : ((((u.map V.str).length : Nat) : Int) == 0) = u.isEmpty := by
  cases u with
  | nil => rfl
  | cons x r => simp only [List.map_cons, List.length_cons, List.isEmpty_cons, beq_eq_false_iff_ne, ne_eq]; omega
def qW : List AO := [xo 48 (.load true 6 (.t 4)), mv 49 6, mv 50 49, mg 51 0 50 true, xg 52 (.nilck (.t 51)) 50 true, xg 53 (.faddr 0 (.t 52)) 50 true, xg 54 (.load false 1 (.t 53)) 50 true, xg 55 (.lenL (.t 54)) 50 true, xg 56 (.bin .eql (.t 55) (.c (V.int 0))) 50 true, xo 57 (.pick (.t 50) (.t 56) (.c (V.bool false))), xs 6 2 48, mv 3 57]
def jw : List (List Nat) := [[], [], [1], [2], [3, 2], [4, 2], [5, 2], [6, 2], [7, 2], [2, 8], [0, 2, 0], [9, 10, 0, 1, 2, 3, 4, 5, 6, 7, 8, 9, 10]]
def qQ : OT := .one 1 (.one 2 (.one 3 (.one 4 (.one 5 (.or 0 (.or 6 (.one 7 (.one 8 (.one 9 (.one 10 (.one 11 (.done)))))) (.or 10 (.one 6 (.one 7 (.one 8 (.one 9 (.one 11 (.done)))))) (.done))) (.or 6 (.one 0 (.one 7 (.one 8 (.one 9 (.one 10 (.one 11 (.done))))))) (.done)))))))
def YB : OP := .one 1 false [] (mv 49 6) (.one 2 false [] (mv 50 49) (.one 3 false [] (mg 51 0 50 true) (.one 4 false [] (xg 52 (.nilck (.t 51)) 50 true) (.one 5 false [] (xg 53 (.faddr 0 (.t 52)) 50 true) (.or 0 true [] (xo 48 (.load true 6 (.t 4))) (.or 6 true [] (xg 54 (.load false 1 (.t 53)) 50 true) (.one 7 false [] (xg 55 (.lenL (.t 54)) 50 true) (.one 8 false [] (xg 56 (.bin .eql (.t 55) (.c (V.int 0))) 50 true) (.one 9 false [] (xo 57 (.pick (.t 50) (.t 56) (.c (V.bool false)))) (.one 10 true [] (xs 6 2 48) (.one 11 false [] (mv 3 57) (.done)))))) (.or 10 true [] (xs 6 2 48) (.one 6 true [] (xg 54 (.load false 1 (.t 53)) 50 true) (.one 7 false [] (xg 55 (.lenL (.t 54)) 50 true) (.one 8 false [] (xg 56 (.bin .eql (.t 55) (.c (V.int 0))) 50 true) (.one 9 false [] (xo 57 (.pick (.t 50) (.t 56) (.c (V.bool false)))) (.one 11 false [] (mv 3 57) (.done)))))) (.done))) (.or 6 true [] (xg 54 (.load false 1 (.t 53)) 50 true) (.one 0 true [] (xo 48 (.load true 6 (.t 4))) (.one 7 false [] (xg 55 (.lenL (.t 54)) 50 true) (.one 8 false [] (xg 56 (.bin .eql (.t 55) (.c (V.int 0))) 50 true) (.one 9 false [] (xo 57 (.pick (.t 50) (.t 56) (.c (V.bool false)))) (.one 10 true [] (xs 6 2 48) (.one 11 false [] (mv 3 57) (.done))))))) (.done)))))))
theorem JF : okR (qW) jw [0, 6] qQ = true := by kernel_rfl
theorem JE : XT (ris (qW) jw [0, 6]) qQ = YB := by kernel_rfl def c_rule_rule (J7 Jz Uy Vx Yr Y4 : Nat) : AC := QR [0, 2] (.reg [xo 2 (.alloc [.val (.bool false), .val (.int .i64 0), .val (.int .i64 0), .val (.int .i64 0), .val (.int .i64 0), .val (.int .i64 0)]), mc 3 (V.bool false)]) (QR [0, 2, 4] (.reg [mv 7 0, xo 8 (.call J7 [(.t 7), (.c (V.str [97, 108, 108, 111, 119]))]), xo 9 (.build [(.bool false), (.int .i64 0), (.int .i64 0), (.int .i64 0), (.int .i64 0), (.int .i64 0)] [(0, 1, (.t 8)), (5, 1, (.c (V.int 40001)))]), xo 4 (.alloc [.val (.bool false), .val (.int .i64 0), .val (.int .i64 0), .val (.int .i64 0), .val (.int .i64 0), .val (.int .i64 0)]), xs 6 4 9]) (QR [0, 2, 4] (QR [0, 2, 4, 17] (.reg [fa 10 0 4, ld 11 1 10, xo 12 (.un .not (.t 11)), mv 13 12, mg 14 0 13 true, xg 15 (.call J7 [(.t 14), (.c (V.str [102, 111, 114, 98, 105, 100]))]) 13 true, xg 16 (.un .not (.t 15)) 13 true, xo 17 (.pick (.t 13) (.t 16) (.c (V.bool false)))]) (.cond (.t 17) (QR [2, 3] (.reg [xo 18 (.load true 6 (.t 4)), xs 6 2 18, mc 3 (V.bool false)]) (.ret)) (.skip))) (QR [0, 2, 4] (QR [0, 2, 4, 5] (.reg [mv 19 0, cl 20 Jz [19], mv 5 20]) (QR [0, 2, 4, 5, 22] (.reg [mv 21 5, bc 22 .neq 21 (V.str [97, 110, 121])]) (.cond (.t 22) (QR [0, 2, 4] (.reg [mv 23 5, cl 24 Uy [23], fa 25 1 4, xs 1 25 24]) (QR [0, 2, 4, 28] (.reg [fa 26 1 4, ld 27 1 26, bc 28 .eql 27 (V.int 0)]) (.cond (.t 28) (QR [2, 3] (.reg [xo 29 (.load true 6 (.t 4)), xs 6 2 29, mc 3 (V.bool false)]) (.ret)) (.skip)))) (.skip)))) (QR [0, 2, 4, 6] (.reg [mv 30 0, fa 31 2 4, xo 32 (.call Vx [(.t 30), (.c (V.str [98, 101, 108, 111, 119])), (.t 31), (.c (.clo Yr []))]), mv 33 32, mg 34 0 33 true, xg 35 (.faddr 3 (.t 4)) 33 true, xg 36 (.call Vx [(.t 34), (.c (V.str [102, 111, 114])), (.t 35), (.c (.clo Y4 []))]) 33 true, xo 37 (.pick (.t 33) (.t 36) (.c (V.bool false))), mv 38 37, mg 39 0 38 true, xg 40 (.faddr 4 (.t 4)) 38 true, xg 41 (.call Vx [(.t 39), (.c (V.str [102, 114, 111, 109])), (.t 40), (.c (.clo Yr []))]) 38 true, xo 42 (.pick (.t 38) (.t 41) (.c (V.bool false))), mv 43 42, mg 44 0 43 true, xg 45 (.faddr 5 (.t 4)) 43 true, xg 46 (.call Vx [(.t 44), (.c (V.str [117, 110, 116, 105, 108])), (.t 45), (.c (.clo Yr []))]) 43 true, xo 47 (.pick (.t 43) (.t 46) (.c (V.bool false))), mv 6 47]) (QR [2, 3] (yO [0, 6] qQ (YB) (qW) jw) (.ret)))))) def r_rule_rule : List XY := [.cell 2 true 6, .tmp 3]
def ym (Γ : Env) (f : Nat) : Prop := ∀ (ws : WS) (hs : LSz ws), EvD Γ f [] (jg ws) (.tup [(aaa ws).1.v, V.bool (aaa ws).2.1]) (jg (aaa ws).2.2)
theorem acp {Γ : Env} {f J7 Jz Uy Vx Yr Y4 : Nat} (h : Has Γ.P f 58 (c_rule_rule J7 Jz Uy Vx Yr Y4) r_rule_rule) (QK : Ww Γ J7) (QD : YX Γ Jz) (Yy : KQ Γ Uy) (YS : yo Γ Vx) (J2 : UC Γ Yr) (JQ : V9 Γ Y4) : ym Γ f := by
  intro ws hs
  refine WO h (by simp) (⟨Qp.cells_closed _, trivial, trivial⟩) (by first | exact J0 _ _ | simp only [V.closed, Qq, and_self, and_true, true_and]) (by first | exact J0 _ _ | simp only [V.closed, Qq, and_self, and_true, true_and]) fun C hC hm => ?_
  subst hC
  unfold c_rule_rule
  have hh : LSz (XW ws).2.2 := hs.suf (afL ws)
  have n1 := QK ws [97, 108, 108, 111, 119] hs.1
  have n0 := QK ws [102, 111, 114, 98, 105, 100] hs.1
  have hfa := acd (w := [97, 108, 108, 111, 119]) (ws := ws)
  have hN : af6 C.env Yr jV := fun ws nx hnx hs => J2 ws nx hnx hs.1 hs.2
  have hP : af6 C.env Y4 rdP := fun ws nx hnx hs => JQ ws nx hnx hs.1
  refine Qf fun K' hK => ?_
  simp (maxSteps := 1000000) only [go_sem, Nat.reduceAdd, Nat.reduceMul, Nat.reduceEqDiff, Nat.reduceLeDiff, Nat.reduceLT, Nat.reduceSub, Int.reduceEq, Int.reduceBEq, Int.reduceLT, Int.reduceLE, Int.reduceAdd, Int.reduceToNat, reduceIte, reduceCtorEq]
  refine hK _ ?_
  clear hK
  clear K'
  (try simp only [go_sem, Nat.reduceAdd, Nat.reduceMul, Nat.reduceEqDiff, Nat.reduceLeDiff, Nat.reduceLT, Nat.reduceSub, Int.reduceEq, Int.reduceBEq, Int.reduceLT, Int.reduceLE, Int.reduceAdd, Int.reduceToNat, reduceIte, reduceCtorEq])
  refine Y7 (ι := Unit) (fun _ => True) (fun _ => JJ [(0, .ptr 0 0), (2, .ptr 1 0), (4, .ptr 2 0)] [(0, .box true (jg (isL [97, 108, 108, 111, 119] ws).2)), (1, .box true [V.bool false, V.int 0, V.int 0, V.int 0, V.int 0, V.int 0]), (2, .box true [V.bool (isL [97, 108, 108, 111, 119] ws).1, V.int 0, V.int 0, V.int 0, V.int 0, V.int 40001])] 3) (fun K' hK' => ?_) (fun _ _ => ?_)
  · generalize isL [97, 108, 108, 111, 119] ws = p at *
    obtain ⟨a, v⟩ := p
    repeat' (first | refine Qf fun K' hK => ?_ | refine Qi fun K' hK => ?_ | refine Qb 12 (fun _ => false) rfl (JF) (JE) fun K' hK => ?_ | refine Qc 12 (fun _ => false) rfl (JF) (JE) fun K' hK => ?_ | refine Qg ?_ | refine Qh ?_ | refine Qa ?_ | ((first | refine Qk ⟨_, rfl, fun hc => ?_, fun hc => ?_⟩ | refine QM (fun hc => ?_) (fun hc => ?_) | refine QN (fun hc => ?_) (fun hc => ?_)) <;> first | exact Bool.noConfusion hc | ((try simp only [znz] at hc); first | exact znf | skip)) | refine Qo ?_ | refine Qj ?_ | simp (maxSteps := 1000000) only [go_sem, Nat.reduceAdd, Nat.reduceMul, Nat.reduceEqDiff, Nat.reduceLeDiff, Nat.reduceLT, Nat.reduceSub, Int.reduceEq, Int.reduceBEq, Int.reduceLT, Int.reduceLE, Int.reduceAdd, Int.reduceToNat, reduceIte, reduceCtorEq, YB] | (refine hK _ ?_; clear hK; clear K') | refine And.intro ?_ ?_ | (apply Yd; (focus exact rfl); (focus first | exact n1 | exact (QK _ _ zsd) | exact (QD _ zsd)); (focus exact rfl); (focus exact rfl)) | (apply JP; (focus exact rfl); (focus first | exact rfl | decide); (focus first | exact rfl | decide); (focus first | exact n1 | exact (QK _ _ zsd) | exact (QD _ zsd)); (focus exact rfl); (focus exact rfl); (focus first | exact rfl | decide)) | (apply UH; (focus exact rfl); (focus first | exact (J2 _ _ zsd zsd zsd) | exact (JQ _ _ zsd zsd)); (focus exact rfl)) | (apply jP; (focus exact rfl); (focus exact rfl); (focus first | exact (YS _ _ _ _ _ _ zsd zsd zsd)); (focus exact rfl)) | ((first | apply QS | apply QT); (focus first | exact (Yy _).b)) | exact zlo | omega | exact zms)
    all_goals first | exact hK' _ () (QZ [(2, 5001)]) trivial (JK [(2, 5001)] (by simp only [go_sem, Nat.reduceAdd, Nat.reduceMul, Nat.reduceEqDiff, Nat.reduceLT, Int.reduceToNat, reduceIte, reduceCtorEq, and_true, true_and, implies_true, Option.some.injEq, exists_eq_left', Qd, Qm]; (repeat' (first | rfl | refine And.intro ?_ ?_ | omega | exact fun h => h | exact Exists.intro _ rfl))) (by simp only [go_sem, Nat.reduceAdd, Nat.reduceMul, Nat.reduceEqDiff, Nat.reduceLT, Int.reduceToNat, reduceIte, reduceCtorEq, and_true, true_and, implies_true, Option.some.injEq, exists_eq_left', Qd, Qm]; (repeat' (first | rfl | refine And.intro ?_ ?_ | omega | exact fun h => h | exact Exists.intro _ rfl))) (by simp [QZ]) (by simp; omega) (by omega)) | trace_state
  refine Y7 (ι := Unit) (fun _ => (XW ws).2.1 = true) (fun _ => JJ [(0, .ptr 0 0), (2, .ptr 1 0), (4, .ptr 2 0)] [(0, .box true (jg (XW ws).2.2)), (1, .box true [V.bool false, V.int 0, V.int 0, V.int 0, V.int 0, V.int 0]), (2, .box true [V.bool (XW ws).1, V.int 0, V.int 0, V.int 0, V.int 0, V.int 40001])] 3) (fun K' hK' => ?_) (fun _ hg => ?_)
  · rcases hq : isL [97, 108, 108, 111, 119] ws with ⟨a, v⟩
    rw [hq] at hfa
    simp only at hfa ⊢
    rcases a with _ | _
    · have := hfa rfl
      subst this
      rcases hq2 : isL [102, 111, 114, 98, 105, 100] v with ⟨f, u⟩
      have hd : XW v = (false, f, u) := by rw [XW, hq, hq2]; rfl
      rw [hq2] at n0
      simp only at n0
      rw [hd] at hK'
      rcases f with _ | _
      · have hr : aaa v = (⟨false, 0, 0, 0, 0, 40001⟩, false, u) := by rw [aaa, hd]; rfl
        rw [hr]
        simp only [Qp.v, Qp.cells]
        repeat' (first | refine Qf fun K' hK => ?_ | refine Qi fun K' hK => ?_ | refine Qb 12 (fun _ => false) rfl (JF) (JE) fun K' hK => ?_ | refine Qc 12 (fun _ => false) rfl (JF) (JE) fun K' hK => ?_ | refine Qg ?_ | refine Qh ?_ | refine Qa ?_ | ((first | refine Qk ⟨_, rfl, fun hc => ?_, fun hc => ?_⟩ | refine QM (fun hc => ?_) (fun hc => ?_) | refine QN (fun hc => ?_) (fun hc => ?_)) <;> first | exact Bool.noConfusion hc | ((try simp only [znz] at hc); first | exact znf | skip)) | refine Qo ?_ | refine Qj ?_ | simp (maxSteps := 1000000) only [go_sem, Nat.reduceAdd, Nat.reduceMul, Nat.reduceEqDiff, Nat.reduceLeDiff, Nat.reduceLT, Nat.reduceSub, Int.reduceEq, Int.reduceBEq, Int.reduceLT, Int.reduceLE, Int.reduceAdd, Int.reduceToNat, reduceIte, reduceCtorEq, JJ, YB] | (refine hK _ ?_; clear hK; clear K') | refine And.intro ?_ ?_ | (apply Yd; (focus exact rfl); (focus first | exact n0 | exact (QK _ _ zsd) | exact (QD _ zsd)); (focus exact rfl); (focus exact rfl)) | (apply JP; (focus exact rfl); (focus first | exact rfl | decide); (focus first | exact rfl | decide); (focus first | exact n0 | exact (QK _ _ zsd) | exact (QD _ zsd)); (focus exact rfl); (focus exact rfl); (focus first | exact rfl | decide)) | (apply UH; (focus exact rfl); (focus first | exact (J2 _ _ zsd zsd zsd) | exact (JQ _ _ zsd zsd)); (focus exact rfl)) | (apply jP; (focus exact rfl); (focus exact rfl); (focus first | exact (YS _ _ _ _ _ _ zsd zsd zsd)); (focus exact rfl)) | ((first | apply QS | apply QT); (focus first | exact (Yy _).b)) | exact zlo | omega | exact zms)
        all_goals first | (refine WP _ rfl rfl (by simp only [V.closed, Qq, and_self, and_true, true_and]) ?_; simp only [go_sem, Nat.reduceEqDiff, Nat.reduceAdd, reduceIte, reduceCtorEq]; done) | trace_state
      · repeat' (first | refine Qf fun K' hK => ?_ | refine Qi fun K' hK => ?_ | refine Qb 12 (fun _ => false) rfl (JF) (JE) fun K' hK => ?_ | refine Qc 12 (fun _ => false) rfl (JF) (JE) fun K' hK => ?_ | refine Qg ?_ | refine Qh ?_ | refine Qa ?_ | ((first | refine Qk ⟨_, rfl, fun hc => ?_, fun hc => ?_⟩ | refine QM (fun hc => ?_) (fun hc => ?_) | refine QN (fun hc => ?_) (fun hc => ?_)) <;> first | exact Bool.noConfusion hc | ((try simp only [znz] at hc); first | exact znf | skip)) | refine Qo ?_ | refine Qj ?_ | simp (maxSteps := 1000000) only [go_sem, Nat.reduceAdd, Nat.reduceMul, Nat.reduceEqDiff, Nat.reduceLeDiff, Nat.reduceLT, Nat.reduceSub, Int.reduceEq, Int.reduceBEq, Int.reduceLT, Int.reduceLE, Int.reduceAdd, Int.reduceToNat, reduceIte, reduceCtorEq, JJ, YB] | (refine hK _ ?_; clear hK; clear K') | refine And.intro ?_ ?_ | (apply Yd; (focus exact rfl); (focus first | exact n0 | exact (QK _ _ zsd) | exact (QD _ zsd)); (focus exact rfl); (focus exact rfl)) | (apply JP; (focus exact rfl); (focus first | exact rfl | decide); (focus first | exact rfl | decide); (focus first | exact n0 | exact (QK _ _ zsd) | exact (QD _ zsd)); (focus exact rfl); (focus exact rfl); (focus first | exact rfl | decide)) | (apply UH; (focus exact rfl); (focus first | exact (J2 _ _ zsd zsd zsd) | exact (JQ _ _ zsd zsd)); (focus exact rfl)) | (apply jP; (focus exact rfl); (focus exact rfl); (focus first | exact (YS _ _ _ _ _ _ zsd zsd zsd)); (focus exact rfl)) | ((first | apply QS | apply QT); (focus first | exact (Yy _).b)) | exact zlo | omega | exact zms)
        all_goals first | exact hK' _ () (QZ []) rfl (JK [] (by simp only [go_sem, Nat.reduceAdd, Nat.reduceMul, Nat.reduceEqDiff, Nat.reduceLT, Int.reduceToNat, reduceIte, reduceCtorEq, and_true, true_and, implies_true, Option.some.injEq, exists_eq_left', Qd, Qm]; (repeat' (first | rfl | refine And.intro ?_ ?_ | omega | exact fun h => h | exact Exists.intro _ rfl))) (by simp only [go_sem, Nat.reduceAdd, Nat.reduceMul, Nat.reduceEqDiff, Nat.reduceLT, Int.reduceToNat, reduceIte, reduceCtorEq, and_true, true_and, implies_true, Option.some.injEq, exists_eq_left', Qd, Qm]; (repeat' (first | rfl | refine And.intro ?_ ?_ | omega | exact fun h => h | exact Exists.intro _ rfl))) (by simp [QZ]) (by simp) (by omega)) | trace_state
    · have hd : XW ws = (true, true, v) := by rw [XW, hq]; rfl
      rw [hd] at hK'
      repeat' (first | refine Qf fun K' hK => ?_ | refine Qi fun K' hK => ?_ | refine Qb 12 (fun _ => false) rfl (JF) (JE) fun K' hK => ?_ | refine Qc 12 (fun _ => false) rfl (JF) (JE) fun K' hK => ?_ | refine Qg ?_ | refine Qh ?_ | refine Qa ?_ | ((first | refine Qk ⟨_, rfl, fun hc => ?_, fun hc => ?_⟩ | refine QM (fun hc => ?_) (fun hc => ?_) | refine QN (fun hc => ?_) (fun hc => ?_)) <;> first | exact Bool.noConfusion hc | ((try simp only [znz] at hc); first | exact znf | skip)) | refine Qo ?_ | refine Qj ?_ | simp (maxSteps := 1000000) only [go_sem, Nat.reduceAdd, Nat.reduceMul, Nat.reduceEqDiff, Nat.reduceLeDiff, Nat.reduceLT, Nat.reduceSub, Int.reduceEq, Int.reduceBEq, Int.reduceLT, Int.reduceLE, Int.reduceAdd, Int.reduceToNat, reduceIte, reduceCtorEq, JJ, YB] | (refine hK _ ?_; clear hK; clear K') | refine And.intro ?_ ?_ | (apply Yd; (focus exact rfl); (focus first | exact (QK _ _ zsd) | exact (QD _ zsd)); (focus exact rfl); (focus exact rfl)) | (apply JP; (focus exact rfl); (focus first | exact rfl | decide); (focus first | exact rfl | decide); (focus first | exact (QK _ _ zsd) | exact (QD _ zsd)); (focus exact rfl); (focus exact rfl); (focus first | exact rfl | decide)) | (apply UH; (focus exact rfl); (focus first | exact (J2 _ _ zsd zsd zsd) | exact (JQ _ _ zsd zsd)); (focus exact rfl)) | (apply jP; (focus exact rfl); (focus exact rfl); (focus first | exact (YS _ _ _ _ _ _ zsd zsd zsd)); (focus exact rfl)) | ((first | apply QS | apply QT); (focus first | exact (Yy _).b)) | exact zlo | omega | exact zms)
      all_goals first | exact hK' _ () (QZ []) rfl (JK [] (by simp only [go_sem, Nat.reduceAdd, Nat.reduceMul, Nat.reduceEqDiff, Nat.reduceLT, Int.reduceToNat, reduceIte, reduceCtorEq, and_true, true_and, implies_true, Option.some.injEq, exists_eq_left', Qd, Qm]; (repeat' (first | rfl | refine And.intro ?_ ?_ | omega | exact fun h => h | exact Exists.intro _ rfl))) (by simp only [go_sem, Nat.reduceAdd, Nat.reduceMul, Nat.reduceEqDiff, Nat.reduceLT, Int.reduceToNat, reduceIte, reduceCtorEq, and_true, true_and, implies_true, Option.some.injEq, exists_eq_left', Qd, Qm]; (repeat' (first | rfl | refine And.intro ?_ ?_ | omega | exact fun h => h | exact Exists.intro _ rfl))) (by simp [QZ]) (by simp) (by omega)) | trace_state
  have hr0 : aaa ws = if (Xo (XW ws).2.2).1 ≠ [97, 110, 121] ∧ abM (Xo (XW ws).2.2).1 = 0 then (⟨(XW ws).1, 0, 0, 0, 0, 40001⟩, false, (Xo (XW ws).2.2).2)
    else ((aa3 ⟨(XW ws).1, abM (Xo (XW ws).2.2).1, 0, 0, 0, 40001⟩ (Xo (XW ws).2.2).2).2.1, (aa3 ⟨(XW ws).1, abM (Xo (XW ws).2.2).1, 0, 0, 0, 40001⟩ (Xo (XW ws).2.2).2).1 && (aa3 ⟨(XW ws).1, abM (Xo (XW ws).2.2).1, 0, 0, 0, 40001⟩ (Xo (XW ws).2.2).2).2.2.isEmpty, (aa3 ⟨(XW ws).1, abM (Xo (XW ws).2.2).1, 0, 0, 0, 40001⟩ (Xo (XW ws).2.2).2).2.2) := by rw [aaa, if_pos hg]
  rw [hr0]
  generalize XW ws = H at *
  obtain ⟨A, B, v⟩ := H
  simp only at hh hg ⊢
  have n2 := QD v hh.1
  have hu : LSz (Xo v).2 := hh.suf (vn v)
  generalize Xo v = N at *
  obtain ⟨x, u⟩ := N
  simp only at n2 hu ⊢
  have n3 := (Yy x).b
  refine Y7 (ι := Unit) (fun _ => ¬ (x ≠ [97, 110, 121] ∧ abM x = 0)) (fun _ => JJ [(0, .ptr 0 0), (2, .ptr 1 0), (4, .ptr 2 0)] [(0, .box true (jg u)), (1, .box true [V.bool false, V.int 0, V.int 0, V.int 0, V.int 0, V.int 0]), (2, .box true [V.bool A, V.int (abM x), V.int 0, V.int 0, V.int 0, V.int 40001])] 3) (fun K' hK' => ?_) (fun _ hn => ?_)
  · by_cases hx : x = [97, 110, 121]
    · have e1 : (x == [97, 110, 121]) = true := by simpa using hx
      have e2 : abM x = 0 := by rw [abM, if_pos hx]
      rw [e2] at hK'
      repeat' (first | refine Qf fun K' hK => ?_ | refine Qi fun K' hK => ?_ | refine Qb 12 (fun _ => false) rfl (JF) (JE) fun K' hK => ?_ | refine Qc 12 (fun _ => false) rfl (JF) (JE) fun K' hK => ?_ | refine Qg ?_ | refine Qh ?_ | refine Qa ?_ | ((first | refine Qk ⟨_, rfl, fun hc => ?_, fun hc => ?_⟩ | refine QM (fun hc => ?_) (fun hc => ?_) | refine QN (fun hc => ?_) (fun hc => ?_)) <;> first | exact Bool.noConfusion hc | ((try simp only [znz] at hc); first | exact znf | skip)) | refine Qo ?_ | refine Qj ?_ | simp (maxSteps := 1000000) only [go_sem, Nat.reduceAdd, Nat.reduceMul, Nat.reduceEqDiff, Nat.reduceLeDiff, Nat.reduceLT, Nat.reduceSub, Int.reduceEq, Int.reduceBEq, Int.reduceLT, Int.reduceLE, Int.reduceAdd, Int.reduceToNat, reduceIte, reduceCtorEq, JJ, e1, YB] | (refine hK _ ?_; clear hK; clear K') | refine And.intro ?_ ?_ | (apply Yd; (focus exact rfl); (focus first | exact n2 | exact (QK _ _ zsd) | exact (QD _ zsd)); (focus exact rfl); (focus exact rfl)) | (apply JP; (focus exact rfl); (focus first | exact rfl | decide); (focus first | exact rfl | decide); (focus first | exact n2 | exact (QK _ _ zsd) | exact (QD _ zsd)); (focus exact rfl); (focus exact rfl); (focus first | exact rfl | decide)) | (apply UH; (focus exact rfl); (focus first | exact (J2 _ _ zsd zsd zsd) | exact (JQ _ _ zsd zsd)); (focus exact rfl)) | (apply jP; (focus exact rfl); (focus exact rfl); (focus first | exact (YS _ _ _ _ _ _ zsd zsd zsd)); (focus exact rfl)) | ((first | apply QS | apply QT); (focus first | exact (Yy _).b)) | exact zlo | omega | exact zms)
      all_goals first | exact hK' _ () (QZ []) (fun h => h.1 hx) (JK [] (by simp only [go_sem, Nat.reduceAdd, Nat.reduceMul, Nat.reduceEqDiff, Nat.reduceLT, Int.reduceToNat, reduceIte, reduceCtorEq, and_true, true_and, implies_true, Option.some.injEq, exists_eq_left', Qd, Qm]; (repeat' (first | rfl | refine And.intro ?_ ?_ | omega | exact fun h => h | exact Exists.intro _ rfl))) (by simp only [go_sem, Nat.reduceAdd, Nat.reduceMul, Nat.reduceEqDiff, Nat.reduceLT, Int.reduceToNat, reduceIte, reduceCtorEq, and_true, true_and, implies_true, Option.some.injEq, exists_eq_left', Qd, Qm]; (repeat' (first | rfl | refine And.intro ?_ ?_ | omega | exact fun h => h | exact Exists.intro _ rfl))) (by simp [QZ]) (by simp) (by omega)) | trace_state
    · have e1 : (x == [97, 110, 121]) = false := by simpa using hx
      have e2 : abM x = xl x 0 Vq := by rw [abM, if_neg hx]
      rw [← e2] at n3
      generalize abM x = g at *
      by_cases hg0 : g = 0
      · have e3 : (g == 0) = true := by simpa using hg0
        have hg1 : (x ≠ [97, 110, 121] ∧ g = 0) := ⟨hx, hg0⟩
        rw [if_pos hg1]
        subst hg0
        simp only [Qp.v, Qp.cells]
        repeat' (first | refine Qf fun K' hK => ?_ | refine Qi fun K' hK => ?_ | refine Qb 12 (fun _ => false) rfl (JF) (JE) fun K' hK => ?_ | refine Qc 12 (fun _ => false) rfl (JF) (JE) fun K' hK => ?_ | refine Qg ?_ | refine Qh ?_ | refine Qa ?_ | ((first | refine Qk ⟨_, rfl, fun hc => ?_, fun hc => ?_⟩ | refine QM (fun hc => ?_) (fun hc => ?_) | refine QN (fun hc => ?_) (fun hc => ?_)) <;> first | exact Bool.noConfusion hc | ((try simp only [znz] at hc); first | exact znf | skip)) | refine Qo ?_ | refine Qj ?_ | simp (maxSteps := 1000000) only [go_sem, Nat.reduceAdd, Nat.reduceMul, Nat.reduceEqDiff, Nat.reduceLeDiff, Nat.reduceLT, Nat.reduceSub, Int.reduceEq, Int.reduceBEq, Int.reduceLT, Int.reduceLE, Int.reduceAdd, Int.reduceToNat, reduceIte, reduceCtorEq, JJ, e1, e3, YB] | (refine hK _ ?_; clear hK; clear K') | refine And.intro ?_ ?_ | (apply Yd; (focus exact rfl); (focus first | exact n2 | exact (QK _ _ zsd) | exact (QD _ zsd)); (focus exact rfl); (focus exact rfl)) | (apply JP; (focus exact rfl); (focus first | exact rfl | decide); (focus first | exact rfl | decide); (focus first | exact n2 | exact (QK _ _ zsd) | exact (QD _ zsd)); (focus exact rfl); (focus exact rfl); (focus first | exact rfl | decide)) | (apply UH; (focus exact rfl); (focus first | exact (J2 _ _ zsd zsd zsd) | exact (JQ _ _ zsd zsd)); (focus exact rfl)) | (apply jP; (focus exact rfl); (focus exact rfl); (focus first | exact (YS _ _ _ _ _ _ zsd zsd zsd)); (focus exact rfl)) | ((first | apply QS | apply QT); (focus first | exact n3 | exact (Yy _).b)) | exact zlo | omega | exact zms)
        all_goals first | (refine WP _ rfl rfl (by simp only [V.closed, Qq, and_self, and_true, true_and]) ?_; simp only [go_sem, Nat.reduceEqDiff, Nat.reduceAdd, reduceIte, reduceCtorEq]; done) | trace_state
      · have e3 : (g == 0) = false := by simpa using hg0
        repeat' (first | refine Qf fun K' hK => ?_ | refine Qi fun K' hK => ?_ | refine Qb 12 (fun _ => false) rfl (JF) (JE) fun K' hK => ?_ | refine Qc 12 (fun _ => false) rfl (JF) (JE) fun K' hK => ?_ | refine Qg ?_ | refine Qh ?_ | refine Qa ?_ | ((first | refine Qk ⟨_, rfl, fun hc => ?_, fun hc => ?_⟩ | refine QM (fun hc => ?_) (fun hc => ?_) | refine QN (fun hc => ?_) (fun hc => ?_)) <;> first | exact Bool.noConfusion hc | ((try simp only [znz] at hc); first | exact znf | skip)) | refine Qo ?_ | refine Qj ?_ | simp (maxSteps := 1000000) only [go_sem, Nat.reduceAdd, Nat.reduceMul, Nat.reduceEqDiff, Nat.reduceLeDiff, Nat.reduceLT, Nat.reduceSub, Int.reduceEq, Int.reduceBEq, Int.reduceLT, Int.reduceLE, Int.reduceAdd, Int.reduceToNat, reduceIte, reduceCtorEq, JJ, e1, e3, YB] | (refine hK _ ?_; clear hK; clear K') | refine And.intro ?_ ?_ | (apply Yd; (focus exact rfl); (focus first | exact n2 | exact (QK _ _ zsd) | exact (QD _ zsd)); (focus exact rfl); (focus exact rfl)) | (apply JP; (focus exact rfl); (focus first | exact rfl | decide); (focus first | exact rfl | decide); (focus first | exact n2 | exact (QK _ _ zsd) | exact (QD _ zsd)); (focus exact rfl); (focus exact rfl); (focus first | exact rfl | decide)) | (apply UH; (focus exact rfl); (focus first | exact (J2 _ _ zsd zsd zsd) | exact (JQ _ _ zsd zsd)); (focus exact rfl)) | (apply jP; (focus exact rfl); (focus exact rfl); (focus first | exact (YS _ _ _ _ _ _ zsd zsd zsd)); (focus exact rfl)) | ((first | apply QS | apply QT); (focus first | exact n3 | exact (Yy _).b)) | exact zlo | omega | exact zms)
        all_goals first | exact hK' _ () (QZ []) (fun h => hg0 h.2) (JK [] (by simp only [go_sem, Nat.reduceAdd, Nat.reduceMul, Nat.reduceEqDiff, Nat.reduceLT, Int.reduceToNat, reduceIte, reduceCtorEq, and_true, true_and, implies_true, Option.some.injEq, exists_eq_left', Qd, Qm]; (repeat' (first | rfl | refine And.intro ?_ ?_ | omega | exact fun h => h | exact Exists.intro _ rfl))) (by simp only [go_sem, Nat.reduceAdd, Nat.reduceMul, Nat.reduceEqDiff, Nat.reduceLT, Int.reduceToNat, reduceIte, reduceCtorEq, and_true, true_and, implies_true, Option.some.injEq, exists_eq_left', Qd, Qm]; (repeat' (first | rfl | refine And.intro ?_ ?_ | omega | exact fun h => h | exact Exists.intro _ rfl))) (by simp [QZ]) (by simp) (by omega)) | trace_state
  rw [if_neg hn]
  generalize abM x = g at *
  have q1 := YS u [98, 101, 108, 111, 119] 2 Yr ⟨A, g, 0, 0, 0, 40001⟩ jV (by simp) hu hN
  have u1 := hu.suf (vl [98, 101, 108, 111, 119] jV 2 ⟨A, g, 0, 0, 0, 40001⟩ u)
  simp only [aa3]
  generalize UF [98, 101, 108, 111, 119] jV 2 ⟨A, g, 0, 0, 0, 40001⟩ u = p1 at *
  obtain ⟨b1, r1, w1⟩ := p1
  simp only [Qp.cells] at q1 u1
  rcases b1 with _ | _
  · have hT : ae2 (ae2 (ae2 (false, r1, w1) (UF [102, 111, 114] rdP 3)) (UF [102, 114, 111, 109] jV 4)) (UF [117, 110, 116, 105, 108] jV 5) = (false, r1, w1) := rfl
    rw [hT]
    simp only [Qp.v, Qp.cells, Bool.false_and]
    repeat' (first | refine Qf fun K' hK => ?_ | refine Qi fun K' hK => ?_ | refine Qb 12 (fun _ => false) rfl (JF) (JE) fun K' hK => ?_ | refine Qc 12 (fun _ => false) rfl (JF) (JE) fun K' hK => ?_ | refine Qg ?_ | refine Qh ?_ | refine Qa ?_ | ((first | refine Qk ⟨_, rfl, fun hc => ?_, fun hc => ?_⟩ | refine QM (fun hc => ?_) (fun hc => ?_) | refine QN (fun hc => ?_) (fun hc => ?_)) <;> first | exact Bool.noConfusion hc | ((try simp only [znz] at hc); first | exact znf | skip)) | refine Qo ?_ | refine Qj ?_ | simp (maxSteps := 1000000) only [go_sem, Nat.reduceAdd, Nat.reduceMul, Nat.reduceEqDiff, Nat.reduceLeDiff, Nat.reduceLT, Nat.reduceSub, Int.reduceEq, Int.reduceBEq, Int.reduceLT, Int.reduceLE, Int.reduceAdd, Int.reduceToNat, reduceIte, reduceCtorEq, JJ, YB] | (refine hK _ ?_; clear hK; clear K') | refine And.intro ?_ ?_ | (apply Yd; (focus exact rfl); (focus first | exact (QK _ _ zsd) | exact (QD _ zsd)); (focus exact rfl); (focus exact rfl)) | (apply JP; (focus exact rfl); (focus first | exact rfl | decide); (focus first | exact rfl | decide); (focus first | exact (QK _ _ zsd) | exact (QD _ zsd)); (focus exact rfl); (focus exact rfl); (focus first | exact rfl | decide)) | (apply UH; (focus exact rfl); (focus first | exact (J2 _ _ zsd zsd zsd) | exact (JQ _ _ zsd zsd)); (focus exact rfl)) | (apply jP; (focus exact rfl); (focus exact rfl); (focus first | exact q1 | exact (YS _ _ _ _ _ _ zsd zsd zsd)); (focus exact rfl)) | ((first | apply QS | apply QT); (focus first | exact (Yy _).b)) | exact zlo | omega | exact zms)
    all_goals first | (refine WP _ rfl rfl (by simp only [V.closed, Qq, and_self, and_true, true_and]) ?_; simp only [go_sem, Nat.reduceEqDiff, Nat.reduceAdd, reduceIte, reduceCtorEq]; done) | trace_state
  have q2 := YS w1 [102, 111, 114] 3 Y4 r1 rdP (by simp) u1 hP
  have u2 := u1.suf (vl [102, 111, 114] rdP 3 r1 w1)
  have hT : ae2 (true, r1, w1) (UF [102, 111, 114] rdP 3) = UF [102, 111, 114] rdP 3 r1 w1 := rfl
  rw [hT]
  generalize UF [102, 111, 114] rdP 3 r1 w1 = p2 at *
  obtain ⟨b2, r2, w2⟩ := p2
  simp only [Qp.cells] at q2 u2
  rcases b2 with _ | _
  · have hT : ae2 (ae2 (false, r2, w2) (UF [102, 114, 111, 109] jV 4)) (UF [117, 110, 116, 105, 108] jV 5) = (false, r2, w2) := rfl
    rw [hT]
    simp only [Qp.v, Qp.cells, Bool.false_and]
    repeat' (first | refine Qf fun K' hK => ?_ | refine Qi fun K' hK => ?_ | refine Qb 12 (fun _ => false) rfl (JF) (JE) fun K' hK => ?_ | refine Qc 12 (fun _ => false) rfl (JF) (JE) fun K' hK => ?_ | refine Qg ?_ | refine Qh ?_ | refine Qa ?_ | ((first | refine Qk ⟨_, rfl, fun hc => ?_, fun hc => ?_⟩ | refine QM (fun hc => ?_) (fun hc => ?_) | refine QN (fun hc => ?_) (fun hc => ?_)) <;> first | exact Bool.noConfusion hc | ((try simp only [znz] at hc); first | exact znf | skip)) | refine Qo ?_ | refine Qj ?_ | simp (maxSteps := 1000000) only [go_sem, Nat.reduceAdd, Nat.reduceMul, Nat.reduceEqDiff, Nat.reduceLeDiff, Nat.reduceLT, Nat.reduceSub, Int.reduceEq, Int.reduceBEq, Int.reduceLT, Int.reduceLE, Int.reduceAdd, Int.reduceToNat, reduceIte, reduceCtorEq, JJ, YB] | (refine hK _ ?_; clear hK; clear K') | refine And.intro ?_ ?_ | (apply Yd; (focus exact rfl); (focus first | exact (QK _ _ zsd) | exact (QD _ zsd)); (focus exact rfl); (focus exact rfl)) | (apply JP; (focus exact rfl); (focus first | exact rfl | decide); (focus first | exact rfl | decide); (focus first | exact (QK _ _ zsd) | exact (QD _ zsd)); (focus exact rfl); (focus exact rfl); (focus first | exact rfl | decide)) | (apply UH; (focus exact rfl); (focus first | exact (J2 _ _ zsd zsd zsd) | exact (JQ _ _ zsd zsd)); (focus exact rfl)) | (apply jP; (focus exact rfl); (focus exact rfl); (focus first | exact q1 | exact q2 | exact (YS _ _ _ _ _ _ zsd zsd zsd)); (focus exact rfl)) | ((first | apply QS | apply QT); (focus first | exact (Yy _).b)) | exact zlo | omega | exact zms)
    all_goals first | (refine WP _ rfl rfl (by simp only [V.closed, Qq, and_self, and_true, true_and]) ?_; simp only [go_sem, Nat.reduceEqDiff, Nat.reduceAdd, reduceIte, reduceCtorEq]; done) | trace_state
  have q3 := YS w2 [102, 114, 111, 109] 4 Yr r2 jV (by simp) u2 hN
  have u3 := u2.suf (vl [102, 114, 111, 109] jV 4 r2 w2)
  have hT : ae2 (true, r2, w2) (UF [102, 114, 111, 109] jV 4) = UF [102, 114, 111, 109] jV 4 r2 w2 := rfl
  rw [hT]
  generalize UF [102, 114, 111, 109] jV 4 r2 w2 = p3 at *
  obtain ⟨b3, r3, w3⟩ := p3
  simp only [Qp.cells] at q3 u3
  rcases b3 with _ | _
  · have hT : ae2 (false, r3, w3) (UF [117, 110, 116, 105, 108] jV 5) = (false, r3, w3) := rfl
    rw [hT]
    simp only [Qp.v, Qp.cells, Bool.false_and]
    repeat' (first | refine Qf fun K' hK => ?_ | refine Qi fun K' hK => ?_ | refine Qb 12 (fun _ => false) rfl (JF) (JE) fun K' hK => ?_ | refine Qc 12 (fun _ => false) rfl (JF) (JE) fun K' hK => ?_ | refine Qg ?_ | refine Qh ?_ | refine Qa ?_ | ((first | refine Qk ⟨_, rfl, fun hc => ?_, fun hc => ?_⟩ | refine QM (fun hc => ?_) (fun hc => ?_) | refine QN (fun hc => ?_) (fun hc => ?_)) <;> first | exact Bool.noConfusion hc | ((try simp only [znz] at hc); first | exact znf | skip)) | refine Qo ?_ | refine Qj ?_ | simp (maxSteps := 1000000) only [go_sem, Nat.reduceAdd, Nat.reduceMul, Nat.reduceEqDiff, Nat.reduceLeDiff, Nat.reduceLT, Nat.reduceSub, Int.reduceEq, Int.reduceBEq, Int.reduceLT, Int.reduceLE, Int.reduceAdd, Int.reduceToNat, reduceIte, reduceCtorEq, JJ, YB] | (refine hK _ ?_; clear hK; clear K') | refine And.intro ?_ ?_ | (apply Yd; (focus exact rfl); (focus first | exact (QK _ _ zsd) | exact (QD _ zsd)); (focus exact rfl); (focus exact rfl)) | (apply JP; (focus exact rfl); (focus first | exact rfl | decide); (focus first | exact rfl | decide); (focus first | exact (QK _ _ zsd) | exact (QD _ zsd)); (focus exact rfl); (focus exact rfl); (focus first | exact rfl | decide)) | (apply UH; (focus exact rfl); (focus first | exact (J2 _ _ zsd zsd zsd) | exact (JQ _ _ zsd zsd)); (focus exact rfl)) | (apply jP; (focus exact rfl); (focus exact rfl); (focus first | exact q1 | exact q2 | exact q3 | exact (YS _ _ _ _ _ _ zsd zsd zsd)); (focus exact rfl)) | ((first | apply QS | apply QT); (focus first | exact (Yy _).b)) | exact zlo | omega | exact zms)
    all_goals first | (refine WP _ rfl rfl (by simp only [V.closed, Qq, and_self, and_true, true_and]) ?_; simp only [go_sem, Nat.reduceEqDiff, Nat.reduceAdd, reduceIte, reduceCtorEq]; done) | trace_state
  have q4 := YS w3 [117, 110, 116, 105, 108] 5 Yr r3 jV (by simp) u3 hN
  have hT : ae2 (true, r3, w3) (UF [117, 110, 116, 105, 108] jV 5) = UF [117, 110, 116, 105, 108] jV 5 r3 w3 := rfl
  rw [hT]
  generalize UF [117, 110, 116, 105, 108] jV 5 r3 w3 = p4 at *
  obtain ⟨b4, r4, w4⟩ := p4
  simp only [Qp.cells] at q4
  have hem := aca w4
  rcases b4 with _ | _
  · simp only [Qp.v, Qp.cells, Bool.false_and]
    repeat' (first | refine Qf fun K' hK => ?_ | refine Qi fun K' hK => ?_ | refine Qb 12 (fun _ => false) rfl (JF) (JE) fun K' hK => ?_ | refine Qc 12 (fun _ => false) rfl (JF) (JE) fun K' hK => ?_ | refine Qg ?_ | refine Qh ?_ | refine Qa ?_ | ((first | refine Qk ⟨_, rfl, fun hc => ?_, fun hc => ?_⟩ | refine QM (fun hc => ?_) (fun hc => ?_) | refine QN (fun hc => ?_) (fun hc => ?_)) <;> first | exact Bool.noConfusion hc | ((try simp only [znz] at hc); first | exact znf | skip)) | refine Qo ?_ | refine Qj ?_ | simp (maxSteps := 1000000) only [go_sem, Nat.reduceAdd, Nat.reduceMul, Nat.reduceEqDiff, Nat.reduceLeDiff, Nat.reduceLT, Nat.reduceSub, Int.reduceEq, Int.reduceBEq, Int.reduceLT, Int.reduceLE, Int.reduceAdd, Int.reduceToNat, reduceIte, reduceCtorEq, JJ, YB] | (refine hK _ ?_; clear hK; clear K') | refine And.intro ?_ ?_ | (apply Yd; (focus exact rfl); (focus first | exact (QK _ _ zsd) | exact (QD _ zsd)); (focus exact rfl); (focus exact rfl)) | (apply JP; (focus exact rfl); (focus first | exact rfl | decide); (focus first | exact rfl | decide); (focus first | exact (QK _ _ zsd) | exact (QD _ zsd)); (focus exact rfl); (focus exact rfl); (focus first | exact rfl | decide)) | (apply UH; (focus exact rfl); (focus first | exact (J2 _ _ zsd zsd zsd) | exact (JQ _ _ zsd zsd)); (focus exact rfl)) | (apply jP; (focus exact rfl); (focus exact rfl); (focus first | exact q1 | exact q2 | exact q3 | exact q4 | exact (YS _ _ _ _ _ _ zsd zsd zsd)); (focus exact rfl)) | ((first | apply QS | apply QT); (focus first | exact (Yy _).b)) | exact zlo | omega | exact zms)
    all_goals first | (refine WP _ rfl rfl (by simp only [V.closed, Qq, and_self, and_true, true_and]) ?_; simp only [go_sem, Nat.reduceEqDiff, Nat.reduceAdd, reduceIte, reduceCtorEq]; done) | trace_state
  · simp only [Qp.v, Qp.cells, Bool.true_and]
    repeat' (first | refine Qf fun K' hK => ?_ | refine Qi fun K' hK => ?_ | refine Qb 12 (fun _ => false) rfl (JF) (JE) fun K' hK => ?_ | refine Qc 12 (fun _ => false) rfl (JF) (JE) fun K' hK => ?_ | refine Qg ?_ | refine Qh ?_ | refine Qa ?_ | ((first | refine Qk ⟨_, rfl, fun hc => ?_, fun hc => ?_⟩ | refine QM (fun hc => ?_) (fun hc => ?_) | refine QN (fun hc => ?_) (fun hc => ?_)) <;> first | exact Bool.noConfusion hc | ((try simp only [znz] at hc); first | exact znf | skip)) | refine Qo ?_ | refine Qj ?_ | simp (maxSteps := 1000000) only [go_sem, Nat.reduceAdd, Nat.reduceMul, Nat.reduceEqDiff, Nat.reduceLeDiff, Nat.reduceLT, Nat.reduceSub, Int.reduceEq, Int.reduceBEq, Int.reduceLT, Int.reduceLE, Int.reduceAdd, Int.reduceToNat, reduceIte, reduceCtorEq, JJ, hem, YB] | (refine hK _ ?_; clear hK; clear K') | refine And.intro ?_ ?_ | (apply Yd; (focus exact rfl); (focus first | exact (QK _ _ zsd) | exact (QD _ zsd)); (focus exact rfl); (focus exact rfl)) | (apply JP; (focus exact rfl); (focus first | exact rfl | decide); (focus first | exact rfl | decide); (focus first | exact (QK _ _ zsd) | exact (QD _ zsd)); (focus exact rfl); (focus exact rfl); (focus first | exact rfl | decide)) | (apply UH; (focus exact rfl); (focus first | exact (J2 _ _ zsd zsd zsd) | exact (JQ _ _ zsd zsd)); (focus exact rfl)) | (apply jP; (focus exact rfl); (focus exact rfl); (focus first | exact q1 | exact q2 | exact q3 | exact q4 | exact (YS _ _ _ _ _ _ zsd zsd zsd)); (focus exact rfl)) | ((first | apply QS | apply QT); (focus first | exact (Yy _).b)) | exact zlo | omega | exact zms)
    all_goals first | (refine WP _ rfl rfl (by simp only [V.closed, Qq, and_self, and_true, true_and]) ?_; simp only [go_sem, Nat.reduceEqDiff, Nat.reduceAdd, reduceIte, reduceCtorEq]; done) | trace_state
end Av
end
section
set_option linter.unusedSimpArgs false
set_option linter.unusedVariables false
set_option maxRecDepth 10000
set_option maxHeartbeats 4000000
namespace Av
open Go
attribute [local irreducible] AWp XV WG WJ awS awC VK awQ V4 Jq Xf VH awR Xk awB okR XT ris
structure Qs where
  purp : Int
  days : Int
def Qs.cells (k : Qs) : List V := [V.int k.purp, V.int k.days]
abbrev Qs.v (k : Qs) : V := .agg k.cells
theorem Qs.cells_closed (k : Qs) : Qq k.cells := by simp only [Qs.cells, V.closed, Qq, and_self]
def J5 (r : Qp) : Bool := decide (r.alg ≥ 0) && decide (r.alg ≤ 22) && decide (r.below ≥ 0) && decide (r.below ≤ 16384) && decide (r.purp ≥ 0) && decide (r.purp ≤ 4) && decide (r.frm ≥ 0) && decide (r.frm < r.til) && decide (r.til ≤ 40001)
def XZ (k : Qs) : Bool := decide (k.purp ≥ 1) && decide (k.purp ≤ 4) && decide (k.days ≥ 0) && decide (k.days ≤ 40000)
abbrev ae0 (rs : List Qp) (ks : List Qs) : V := .agg [.sl 6 (rs.map Qp.v), .sl 2 (ks.map Qs.v)]
def WQ (rs : List Qp) (ks : List Qs) : Int := if (rs.all J5 && ks.all XZ && decide (rs.length ≤ 60) && decide (ks.length ≤ 60)) = true then 0 else 25
theorem xQ {α : Type} (p : α → Bool) : ∀ (xs : List α) (k : Nat), decide (ada p k xs ≥ 0) = xs.any p
  | [], k => by simp [ada]
  | x :: r, k => by
    have ih := xQ p r (k + 1)
    rw [ada, List.any_cons]
    by_cases h : p x = true
    · rw [if_pos h, h]; simp
    · have h2 : p x = false := by simpa using h
      rw [if_neg h, h2, ih]; rfl
theorem aeX {α : Type} (p : α → Bool) (xs : List α) : xs.any (fun x => !p x) = !xs.all p := by
  induction xs with
  | nil => rfl
  | cons x r ih => rw [List.any_cons, List.all_cons, ih, Bool.not_and]
def j8 : AC := QR [1] (.reg [xo 1 (.box true 6 (.t 0)), mc 2 (V.bool false)]) (QR [2] (.reg [fa 3 1 1, ld 4 1 3, bc 5 .geq 4 (V.int 0), mv 6 5, xg 7 (.faddr 1 (.t 1)) 6 true, xg 8 (.load false 1 (.t 7)) 6 true, xg 9 (.bin .leq (.t 8) (.c (V.int 22))) 6 true, xo 10 (.pick (.t 6) (.t 9) (.c (V.bool false))), mv 11 10, xg 12 (.faddr 2 (.t 1)) 11 true, xg 13 (.load false 1 (.t 12)) 11 true, xg 14 (.bin .geq (.t 13) (.c (V.int 0))) 11 true, xo 15 (.pick (.t 11) (.t 14) (.c (V.bool false))), mv 16 15, xg 17 (.faddr 2 (.t 1)) 16 true, xg 18 (.load false 1 (.t 17)) 16 true, xg 19 (.bin .leq (.t 18) (.c (V.int 16384))) 16 true, xo 20 (.pick (.t 16) (.t 19) (.c (V.bool false))), mv 21 20, xg 22 (.faddr 3 (.t 1)) 21 true, xg 23 (.load false 1 (.t 22)) 21 true, xg 24 (.bin .geq (.t 23) (.c (V.int 0))) 21 true, xo 25 (.pick (.t 21) (.t 24) (.c (V.bool false))), mv 26 25, xg 27 (.faddr 3 (.t 1)) 26 true, xg 28 (.load false 1 (.t 27)) 26 true, xg 29 (.bin .leq (.t 28) (.c (V.int 4))) 26 true, xo 30 (.pick (.t 26) (.t 29) (.c (V.bool false))), mv 31 30, xg 32 (.faddr 4 (.t 1)) 31 true, xg 33 (.load false 1 (.t 32)) 31 true, xg 34 (.bin .geq (.t 33) (.c (V.int 0))) 31 true, xo 35 (.pick (.t 31) (.t 34) (.c (V.bool false))), mv 36 35, xg 37 (.faddr 4 (.t 1)) 36 true, xg 38 (.load false 1 (.t 37)) 36 true, xg 39 (.faddr 5 (.t 1)) 36 true, xg 40 (.load false 1 (.t 39)) 36 true, xg 41 (.bin .lss (.t 38) (.t 40)) 36 true, xo 42 (.pick (.t 36) (.t 41) (.c (V.bool false))), mv 43 42, xg 44 (.faddr 5 (.t 1)) 43 true, xg 45 (.load false 1 (.t 44)) 43 true, xg 46 (.bin .leq (.t 45) (.c (V.int 40001))) 43 true, xo 47 (.pick (.t 43) (.t 46) (.c (V.bool false))), mv 2 47]) (.ret)) def r_rule_ruled : List XY := [.tmp 2]
def jB (Γ : Env) (f : Nat) : Prop := ∀ (r : Qp), EvN Γ f [r.v] (V.bool (J5 r))
theorem abq {Γ : Env} {f : Nat} (h : Has Γ.P f 48 j8 r_rule_ruled)  : jB Γ f := by
  intro r
  refine JD h (by simp) (by simp only [V.closed, Qq, V.noSl, Yq, and_self, and_true, true_and]) (by simp only [V.closed, Qq, V.noSl, Yq, and_self, and_true, true_and]) fun C hC hm => ?_
  subst hC
  unfold j8
  rcases h1 : decide (r.alg ≥ 0) with _ | _
  · have hr : J5 r = false := by simp only [J5, h1, Bool.and_false, Bool.false_and, Bool.and_true, Bool.true_and]
    rw [hr]
    repeat' (first | refine Qf fun K' hK => ?_ | refine Qi fun K' hK => ?_ | refine Qg ?_ | refine Qh ?_ | refine Qa ?_ | ((first | refine Qk ⟨_, rfl, fun hc => ?_, fun hc => ?_⟩ | refine QM (fun hc => ?_) (fun hc => ?_) | refine QN (fun hc => ?_) (fun hc => ?_)) <;> first | exact Bool.noConfusion hc | ((try simp only [znz] at hc); first | exact znf | skip)) | refine Qo ?_ | refine Qj ?_ | simp (maxSteps := 1000000) only [go_sem, Nat.reduceAdd, Nat.reduceMul, Nat.reduceEqDiff, Nat.reduceLeDiff, Nat.reduceLT, Nat.reduceSub, Int.reduceEq, Int.reduceBEq, Int.reduceLT, Int.reduceLE, Int.reduceAdd, Int.reduceToNat, reduceIte, reduceCtorEq, Qp.cells, h1] | (refine hK _ ?_; clear hK; clear K') | refine And.intro ?_ ?_ | exact zlo | omega | exact zms)
    all_goals first | (refine QQ _ rfl ?_; simp only [go_sem, Nat.reduceEqDiff, Nat.reduceAdd, reduceIte, reduceCtorEq]; done) | trace_state
  rcases h2 : decide (r.alg ≤ 22) with _ | _
  · have hr : J5 r = false := by simp only [J5, h1, h2, Bool.and_false, Bool.false_and, Bool.and_true, Bool.true_and]
    rw [hr]
    repeat' (first | refine Qf fun K' hK => ?_ | refine Qi fun K' hK => ?_ | refine Qg ?_ | refine Qh ?_ | refine Qa ?_ | ((first | refine Qk ⟨_, rfl, fun hc => ?_, fun hc => ?_⟩ | refine QM (fun hc => ?_) (fun hc => ?_) | refine QN (fun hc => ?_) (fun hc => ?_)) <;> first | exact Bool.noConfusion hc | ((try simp only [znz] at hc); first | exact znf | skip)) | refine Qo ?_ | refine Qj ?_ | simp (maxSteps := 1000000) only [go_sem, Nat.reduceAdd, Nat.reduceMul, Nat.reduceEqDiff, Nat.reduceLeDiff, Nat.reduceLT, Nat.reduceSub, Int.reduceEq, Int.reduceBEq, Int.reduceLT, Int.reduceLE, Int.reduceAdd, Int.reduceToNat, reduceIte, reduceCtorEq, Qp.cells, h1, h2] | (refine hK _ ?_; clear hK; clear K') | refine And.intro ?_ ?_ | exact zlo | omega | exact zms)
    all_goals first | (refine QQ _ rfl ?_; simp only [go_sem, Nat.reduceEqDiff, Nat.reduceAdd, reduceIte, reduceCtorEq]; done) | trace_state
  rcases h3 : decide (r.below ≥ 0) with _ | _
  · have hr : J5 r = false := by simp only [J5, h1, h2, h3, Bool.and_false, Bool.false_and, Bool.and_true, Bool.true_and]
    rw [hr]
    repeat' (first | refine Qf fun K' hK => ?_ | refine Qi fun K' hK => ?_ | refine Qg ?_ | refine Qh ?_ | refine Qa ?_ | ((first | refine Qk ⟨_, rfl, fun hc => ?_, fun hc => ?_⟩ | refine QM (fun hc => ?_) (fun hc => ?_) | refine QN (fun hc => ?_) (fun hc => ?_)) <;> first | exact Bool.noConfusion hc | ((try simp only [znz] at hc); first | exact znf | skip)) | refine Qo ?_ | refine Qj ?_ | simp (maxSteps := 1000000) only [go_sem, Nat.reduceAdd, Nat.reduceMul, Nat.reduceEqDiff, Nat.reduceLeDiff, Nat.reduceLT, Nat.reduceSub, Int.reduceEq, Int.reduceBEq, Int.reduceLT, Int.reduceLE, Int.reduceAdd, Int.reduceToNat, reduceIte, reduceCtorEq, Qp.cells, h1, h2, h3] | (refine hK _ ?_; clear hK; clear K') | refine And.intro ?_ ?_ | exact zlo | omega | exact zms)
    all_goals first | (refine QQ _ rfl ?_; simp only [go_sem, Nat.reduceEqDiff, Nat.reduceAdd, reduceIte, reduceCtorEq]; done) | trace_state
  rcases h4 : decide (r.below ≤ 16384) with _ | _
  · have hr : J5 r = false := by simp only [J5, h1, h2, h3, h4, Bool.and_false, Bool.false_and, Bool.and_true, Bool.true_and]
    rw [hr]
    repeat' (first | refine Qf fun K' hK => ?_ | refine Qi fun K' hK => ?_ | refine Qg ?_ | refine Qh ?_ | refine Qa ?_ | ((first | refine Qk ⟨_, rfl, fun hc => ?_, fun hc => ?_⟩ | refine QM (fun hc => ?_) (fun hc => ?_) | refine QN (fun hc => ?_) (fun hc => ?_)) <;> first | exact Bool.noConfusion hc | ((try simp only [znz] at hc); first | exact znf | skip)) | refine Qo ?_ | refine Qj ?_ | simp (maxSteps := 1000000) only [go_sem, Nat.reduceAdd, Nat.reduceMul, Nat.reduceEqDiff, Nat.reduceLeDiff, Nat.reduceLT, Nat.reduceSub, Int.reduceEq, Int.reduceBEq, Int.reduceLT, Int.reduceLE, Int.reduceAdd, Int.reduceToNat, reduceIte, reduceCtorEq, Qp.cells, h1, h2, h3, h4] | (refine hK _ ?_; clear hK; clear K') | refine And.intro ?_ ?_ | exact zlo | omega | exact zms)
    all_goals first | (refine QQ _ rfl ?_; simp only [go_sem, Nat.reduceEqDiff, Nat.reduceAdd, reduceIte, reduceCtorEq]; done) | trace_state
  rcases h5 : decide (r.purp ≥ 0) with _ | _
  · have hr : J5 r = false := by simp only [J5, h1, h2, h3, h4, h5, Bool.and_false, Bool.false_and, Bool.and_true, Bool.true_and]
    rw [hr]
    repeat' (first | refine Qf fun K' hK => ?_ | refine Qi fun K' hK => ?_ | refine Qg ?_ | refine Qh ?_ | refine Qa ?_ | ((first | refine Qk ⟨_, rfl, fun hc => ?_, fun hc => ?_⟩ | refine QM (fun hc => ?_) (fun hc => ?_) | refine QN (fun hc => ?_) (fun hc => ?_)) <;> first | exact Bool.noConfusion hc | ((try simp only [znz] at hc); first | exact znf | skip)) | refine Qo ?_ | refine Qj ?_ | simp (maxSteps := 1000000) only [go_sem, Nat.reduceAdd, Nat.reduceMul, Nat.reduceEqDiff, Nat.reduceLeDiff, Nat.reduceLT, Nat.reduceSub, Int.reduceEq, Int.reduceBEq, Int.reduceLT, Int.reduceLE, Int.reduceAdd, Int.reduceToNat, reduceIte, reduceCtorEq, Qp.cells, h1, h2, h3, h4, h5] | (refine hK _ ?_; clear hK; clear K') | refine And.intro ?_ ?_ | exact zlo | omega | exact zms)
    all_goals first | (refine QQ _ rfl ?_; simp only [go_sem, Nat.reduceEqDiff, Nat.reduceAdd, reduceIte, reduceCtorEq]; done) | trace_state
  rcases h6 : decide (r.purp ≤ 4) with _ | _
  · have hr : J5 r = false := by simp only [J5, h1, h2, h3, h4, h5, h6, Bool.and_false, Bool.false_and, Bool.and_true, Bool.true_and]
    rw [hr]
    repeat' (first | refine Qf fun K' hK => ?_ | refine Qi fun K' hK => ?_ | refine Qg ?_ | refine Qh ?_ | refine Qa ?_ | ((first | refine Qk ⟨_, rfl, fun hc => ?_, fun hc => ?_⟩ | refine QM (fun hc => ?_) (fun hc => ?_) | refine QN (fun hc => ?_) (fun hc => ?_)) <;> first | exact Bool.noConfusion hc | ((try simp only [znz] at hc); first | exact znf | skip)) | refine Qo ?_ | refine Qj ?_ | simp (maxSteps := 1000000) only [go_sem, Nat.reduceAdd, Nat.reduceMul, Nat.reduceEqDiff, Nat.reduceLeDiff, Nat.reduceLT, Nat.reduceSub, Int.reduceEq, Int.reduceBEq, Int.reduceLT, Int.reduceLE, Int.reduceAdd, Int.reduceToNat, reduceIte, reduceCtorEq, Qp.cells, h1, h2, h3, h4, h5, h6] | (refine hK _ ?_; clear hK; clear K') | refine And.intro ?_ ?_ | exact zlo | omega | exact zms)
    all_goals first | (refine QQ _ rfl ?_; simp only [go_sem, Nat.reduceEqDiff, Nat.reduceAdd, reduceIte, reduceCtorEq]; done) | trace_state
  rcases h7 : decide (r.frm ≥ 0) with _ | _
  · have hr : J5 r = false := by simp only [J5, h1, h2, h3, h4, h5, h6, h7, Bool.and_false, Bool.false_and, Bool.and_true, Bool.true_and]
    rw [hr]
    repeat' (first | refine Qf fun K' hK => ?_ | refine Qi fun K' hK => ?_ | refine Qg ?_ | refine Qh ?_ | refine Qa ?_ | ((first | refine Qk ⟨_, rfl, fun hc => ?_, fun hc => ?_⟩ | refine QM (fun hc => ?_) (fun hc => ?_) | refine QN (fun hc => ?_) (fun hc => ?_)) <;> first | exact Bool.noConfusion hc | ((try simp only [znz] at hc); first | exact znf | skip)) | refine Qo ?_ | refine Qj ?_ | simp (maxSteps := 1000000) only [go_sem, Nat.reduceAdd, Nat.reduceMul, Nat.reduceEqDiff, Nat.reduceLeDiff, Nat.reduceLT, Nat.reduceSub, Int.reduceEq, Int.reduceBEq, Int.reduceLT, Int.reduceLE, Int.reduceAdd, Int.reduceToNat, reduceIte, reduceCtorEq, Qp.cells, h1, h2, h3, h4, h5, h6, h7] | (refine hK _ ?_; clear hK; clear K') | refine And.intro ?_ ?_ | exact zlo | omega | exact zms)
    all_goals first | (refine QQ _ rfl ?_; simp only [go_sem, Nat.reduceEqDiff, Nat.reduceAdd, reduceIte, reduceCtorEq]; done) | trace_state
  rcases h8 : decide (r.frm < r.til) with _ | _
  · have hr : J5 r = false := by simp only [J5, h1, h2, h3, h4, h5, h6, h7, h8, Bool.and_false, Bool.false_and, Bool.and_true, Bool.true_and]
    rw [hr]
    repeat' (first | refine Qf fun K' hK => ?_ | refine Qi fun K' hK => ?_ | refine Qg ?_ | refine Qh ?_ | refine Qa ?_ | ((first | refine Qk ⟨_, rfl, fun hc => ?_, fun hc => ?_⟩ | refine QM (fun hc => ?_) (fun hc => ?_) | refine QN (fun hc => ?_) (fun hc => ?_)) <;> first | exact Bool.noConfusion hc | ((try simp only [znz] at hc); first | exact znf | skip)) | refine Qo ?_ | refine Qj ?_ | simp (maxSteps := 1000000) only [go_sem, Nat.reduceAdd, Nat.reduceMul, Nat.reduceEqDiff, Nat.reduceLeDiff, Nat.reduceLT, Nat.reduceSub, Int.reduceEq, Int.reduceBEq, Int.reduceLT, Int.reduceLE, Int.reduceAdd, Int.reduceToNat, reduceIte, reduceCtorEq, Qp.cells, h1, h2, h3, h4, h5, h6, h7, h8] | (refine hK _ ?_; clear hK; clear K') | refine And.intro ?_ ?_ | exact zlo | omega | exact zms)
    all_goals first | (refine QQ _ rfl ?_; simp only [go_sem, Nat.reduceEqDiff, Nat.reduceAdd, reduceIte, reduceCtorEq]; done) | trace_state
  rcases h9 : decide (r.til ≤ 40001) with _ | _
  · have hr : J5 r = false := by simp only [J5, h1, h2, h3, h4, h5, h6, h7, h8, h9, Bool.and_false, Bool.false_and, Bool.and_true, Bool.true_and]
    rw [hr]
    repeat' (first | refine Qf fun K' hK => ?_ | refine Qi fun K' hK => ?_ | refine Qg ?_ | refine Qh ?_ | refine Qa ?_ | ((first | refine Qk ⟨_, rfl, fun hc => ?_, fun hc => ?_⟩ | refine QM (fun hc => ?_) (fun hc => ?_) | refine QN (fun hc => ?_) (fun hc => ?_)) <;> first | exact Bool.noConfusion hc | ((try simp only [znz] at hc); first | exact znf | skip)) | refine Qo ?_ | refine Qj ?_ | simp (maxSteps := 1000000) only [go_sem, Nat.reduceAdd, Nat.reduceMul, Nat.reduceEqDiff, Nat.reduceLeDiff, Nat.reduceLT, Nat.reduceSub, Int.reduceEq, Int.reduceBEq, Int.reduceLT, Int.reduceLE, Int.reduceAdd, Int.reduceToNat, reduceIte, reduceCtorEq, Qp.cells, h1, h2, h3, h4, h5, h6, h7, h8, h9] | (refine hK _ ?_; clear hK; clear K') | refine And.intro ?_ ?_ | exact zlo | omega | exact zms)
    all_goals first | (refine QQ _ rfl ?_; simp only [go_sem, Nat.reduceEqDiff, Nat.reduceAdd, reduceIte, reduceCtorEq]; done) | trace_state
  have hr : J5 r = true := by simp only [J5, h1, h2, h3, h4, h5, h6, h7, h8, h9, Bool.and_self]
  rw [hr]
  repeat' (first | refine Qf fun K' hK => ?_ | refine Qi fun K' hK => ?_ | refine Qg ?_ | refine Qh ?_ | refine Qa ?_ | ((first | refine Qk ⟨_, rfl, fun hc => ?_, fun hc => ?_⟩ | refine QM (fun hc => ?_) (fun hc => ?_) | refine QN (fun hc => ?_) (fun hc => ?_)) <;> first | exact Bool.noConfusion hc | ((try simp only [znz] at hc); first | exact znf | skip)) | refine Qo ?_ | refine Qj ?_ | simp (maxSteps := 1000000) only [go_sem, Nat.reduceAdd, Nat.reduceMul, Nat.reduceEqDiff, Nat.reduceLeDiff, Nat.reduceLT, Nat.reduceSub, Int.reduceEq, Int.reduceBEq, Int.reduceLT, Int.reduceLE, Int.reduceAdd, Int.reduceToNat, reduceIte, reduceCtorEq, Qp.cells, h1, h2, h3, h4, h5, h6, h7, h8, h9] | (refine hK _ ?_; clear hK; clear K') | refine And.intro ?_ ?_ | exact zlo | omega | exact zms)
  all_goals first | (refine QQ _ rfl ?_; simp only [go_sem, Nat.reduceEqDiff, Nat.reduceAdd, reduceIte, reduceCtorEq]; done) | trace_state
def js : AC := QR [1] (.reg [xo 1 (.box true 6 (.t 0)), mc 2 (V.bool false)]) (QR [2] (.reg [fa 3 1 1, ld 4 1 3, bc 5 .geq 4 (V.int 0), mv 6 5, xg 7 (.faddr 1 (.t 1)) 6 true, xg 8 (.load false 1 (.t 7)) 6 true, xg 9 (.bin .leq (.t 8) (.c (V.int 22))) 6 true, xo 10 (.pick (.t 6) (.t 9) (.c (V.bool false))), mv 11 10, xg 12 (.faddr 2 (.t 1)) 11 true, xg 13 (.load false 1 (.t 12)) 11 true, xg 14 (.bin .geq (.t 13) (.c (V.int 0))) 11 true, xo 15 (.pick (.t 11) (.t 14) (.c (V.bool false))), mv 16 15, xg 17 (.faddr 2 (.t 1)) 16 true, xg 18 (.load false 1 (.t 17)) 16 true, xg 19 (.bin .leq (.t 18) (.c (V.int 16384))) 16 true, xo 20 (.pick (.t 16) (.t 19) (.c (V.bool false))), mv 21 20, xg 22 (.faddr 3 (.t 1)) 21 true, xg 23 (.load false 1 (.t 22)) 21 true, xg 24 (.bin .geq (.t 23) (.c (V.int 0))) 21 true, xo 25 (.pick (.t 21) (.t 24) (.c (V.bool false))), mv 26 25, xg 27 (.faddr 3 (.t 1)) 26 true, xg 28 (.load false 1 (.t 27)) 26 true, xg 29 (.bin .leq (.t 28) (.c (V.int 4))) 26 true, xo 30 (.pick (.t 26) (.t 29) (.c (V.bool false))), mv 31 30, xg 32 (.faddr 4 (.t 1)) 31 true, xg 33 (.load false 1 (.t 32)) 31 true, xg 34 (.bin .geq (.t 33) (.c (V.int 0))) 31 true, xo 35 (.pick (.t 31) (.t 34) (.c (V.bool false))), mv 36 35, xg 37 (.faddr 4 (.t 1)) 36 true, xg 38 (.load false 1 (.t 37)) 36 true, xg 39 (.faddr 5 (.t 1)) 36 true, xg 40 (.load false 1 (.t 39)) 36 true, xg 41 (.bin .lss (.t 38) (.t 40)) 36 true, xo 42 (.pick (.t 36) (.t 41) (.c (V.bool false))), mv 43 42, xg 44 (.faddr 5 (.t 1)) 43 true, xg 45 (.load false 1 (.t 44)) 43 true, xg 46 (.bin .leq (.t 45) (.c (V.int 40001))) 43 true, xo 47 (.pick (.t 43) (.t 46) (.c (V.bool false))), mv 2 47]) (.ret)) def r_ref17_Ruled : List XY := [.tmp 2]
def qD (Γ : Env) (f : Nat) : Prop := ∀ (r : Qp), EvN Γ f [r.v] (V.bool (J5 r))
theorem aap {Γ : Env} {f : Nat} (h : Has Γ.P f 48 js r_ref17_Ruled)  : qD Γ f := by
  intro r
  refine JD h (by simp) (by simp only [V.closed, Qq, V.noSl, Yq, and_self, and_true, true_and]) (by simp only [V.closed, Qq, V.noSl, Yq, and_self, and_true, true_and]) fun C hC hm => ?_
  subst hC
  unfold js
  rcases h1 : decide (r.alg ≥ 0) with _ | _
  · have hr : J5 r = false := by simp only [J5, h1, Bool.and_false, Bool.false_and, Bool.and_true, Bool.true_and]
    rw [hr]
    repeat' (first | refine Qf fun K' hK => ?_ | refine Qi fun K' hK => ?_ | refine Qg ?_ | refine Qh ?_ | refine Qa ?_ | ((first | refine Qk ⟨_, rfl, fun hc => ?_, fun hc => ?_⟩ | refine QM (fun hc => ?_) (fun hc => ?_) | refine QN (fun hc => ?_) (fun hc => ?_)) <;> first | exact Bool.noConfusion hc | ((try simp only [znz] at hc); first | exact znf | skip)) | refine Qo ?_ | refine Qj ?_ | simp (maxSteps := 1000000) only [go_sem, Nat.reduceAdd, Nat.reduceMul, Nat.reduceEqDiff, Nat.reduceLeDiff, Nat.reduceLT, Nat.reduceSub, Int.reduceEq, Int.reduceBEq, Int.reduceLT, Int.reduceLE, Int.reduceAdd, Int.reduceToNat, reduceIte, reduceCtorEq, Qp.cells, h1] | (refine hK _ ?_; clear hK; clear K') | refine And.intro ?_ ?_ | exact zlo | omega | exact zms)
    all_goals first | (refine QQ _ rfl ?_; simp only [go_sem, Nat.reduceEqDiff, Nat.reduceAdd, reduceIte, reduceCtorEq]; done) | trace_state
  rcases h2 : decide (r.alg ≤ 22) with _ | _
  · have hr : J5 r = false := by simp only [J5, h1, h2, Bool.and_false, Bool.false_and, Bool.and_true, Bool.true_and]
    rw [hr]
    repeat' (first | refine Qf fun K' hK => ?_ | refine Qi fun K' hK => ?_ | refine Qg ?_ | refine Qh ?_ | refine Qa ?_ | ((first | refine Qk ⟨_, rfl, fun hc => ?_, fun hc => ?_⟩ | refine QM (fun hc => ?_) (fun hc => ?_) | refine QN (fun hc => ?_) (fun hc => ?_)) <;> first | exact Bool.noConfusion hc | ((try simp only [znz] at hc); first | exact znf | skip)) | refine Qo ?_ | refine Qj ?_ | simp (maxSteps := 1000000) only [go_sem, Nat.reduceAdd, Nat.reduceMul, Nat.reduceEqDiff, Nat.reduceLeDiff, Nat.reduceLT, Nat.reduceSub, Int.reduceEq, Int.reduceBEq, Int.reduceLT, Int.reduceLE, Int.reduceAdd, Int.reduceToNat, reduceIte, reduceCtorEq, Qp.cells, h1, h2] | (refine hK _ ?_; clear hK; clear K') | refine And.intro ?_ ?_ | exact zlo | omega | exact zms)
    all_goals first | (refine QQ _ rfl ?_; simp only [go_sem, Nat.reduceEqDiff, Nat.reduceAdd, reduceIte, reduceCtorEq]; done) | trace_state
  rcases h3 : decide (r.below ≥ 0) with _ | _
  · have hr : J5 r = false := by simp only [J5, h1, h2, h3, Bool.and_false, Bool.false_and, Bool.and_true, Bool.true_and]
    rw [hr]
    repeat' (first | refine Qf fun K' hK => ?_ | refine Qi fun K' hK => ?_ | refine Qg ?_ | refine Qh ?_ | refine Qa ?_ | ((first | refine Qk ⟨_, rfl, fun hc => ?_, fun hc => ?_⟩ | refine QM (fun hc => ?_) (fun hc => ?_) | refine QN (fun hc => ?_) (fun hc => ?_)) <;> first | exact Bool.noConfusion hc | ((try simp only [znz] at hc); first | exact znf | skip)) | refine Qo ?_ | refine Qj ?_ | simp (maxSteps := 1000000) only [go_sem, Nat.reduceAdd, Nat.reduceMul, Nat.reduceEqDiff, Nat.reduceLeDiff, Nat.reduceLT, Nat.reduceSub, Int.reduceEq, Int.reduceBEq, Int.reduceLT, Int.reduceLE, Int.reduceAdd, Int.reduceToNat, reduceIte, reduceCtorEq, Qp.cells, h1, h2, h3] | (refine hK _ ?_; clear hK; clear K') | refine And.intro ?_ ?_ | exact zlo | omega | exact zms)
    all_goals first | (refine QQ _ rfl ?_; simp only [go_sem, Nat.reduceEqDiff, Nat.reduceAdd, reduceIte, reduceCtorEq]; done) | trace_state
  rcases h4 : decide (r.below ≤ 16384) with _ | _
  · have hr : J5 r = false := by simp only [J5, h1, h2, h3, h4, Bool.and_false, Bool.false_and, Bool.and_true, Bool.true_and]
    rw [hr]
    repeat' (first | refine Qf fun K' hK => ?_ | refine Qi fun K' hK => ?_ | refine Qg ?_ | refine Qh ?_ | refine Qa ?_ | ((first | refine Qk ⟨_, rfl, fun hc => ?_, fun hc => ?_⟩ | refine QM (fun hc => ?_) (fun hc => ?_) | refine QN (fun hc => ?_) (fun hc => ?_)) <;> first | exact Bool.noConfusion hc | ((try simp only [znz] at hc); first | exact znf | skip)) | refine Qo ?_ | refine Qj ?_ | simp (maxSteps := 1000000) only [go_sem, Nat.reduceAdd, Nat.reduceMul, Nat.reduceEqDiff, Nat.reduceLeDiff, Nat.reduceLT, Nat.reduceSub, Int.reduceEq, Int.reduceBEq, Int.reduceLT, Int.reduceLE, Int.reduceAdd, Int.reduceToNat, reduceIte, reduceCtorEq, Qp.cells, h1, h2, h3, h4] | (refine hK _ ?_; clear hK; clear K') | refine And.intro ?_ ?_ | exact zlo | omega | exact zms)
    all_goals first | (refine QQ _ rfl ?_; simp only [go_sem, Nat.reduceEqDiff, Nat.reduceAdd, reduceIte, reduceCtorEq]; done) | trace_state
  rcases h5 : decide (r.purp ≥ 0) with _ | _
  · have hr : J5 r = false := by simp only [J5, h1, h2, h3, h4, h5, Bool.and_false, Bool.false_and, Bool.and_true, Bool.true_and]
    rw [hr]
    repeat' (first | refine Qf fun K' hK => ?_ | refine Qi fun K' hK => ?_ | refine Qg ?_ | refine Qh ?_ | refine Qa ?_ | ((first | refine Qk ⟨_, rfl, fun hc => ?_, fun hc => ?_⟩ | refine QM (fun hc => ?_) (fun hc => ?_) | refine QN (fun hc => ?_) (fun hc => ?_)) <;> first | exact Bool.noConfusion hc | ((try simp only [znz] at hc); first | exact znf | skip)) | refine Qo ?_ | refine Qj ?_ | simp (maxSteps := 1000000) only [go_sem, Nat.reduceAdd, Nat.reduceMul, Nat.reduceEqDiff, Nat.reduceLeDiff, Nat.reduceLT, Nat.reduceSub, Int.reduceEq, Int.reduceBEq, Int.reduceLT, Int.reduceLE, Int.reduceAdd, Int.reduceToNat, reduceIte, reduceCtorEq, Qp.cells, h1, h2, h3, h4, h5] | (refine hK _ ?_; clear hK; clear K') | refine And.intro ?_ ?_ | exact zlo | omega | exact zms)
    all_goals first | (refine QQ _ rfl ?_; simp only [go_sem, Nat.reduceEqDiff, Nat.reduceAdd, reduceIte, reduceCtorEq]; done) | trace_state
  rcases h6 : decide (r.purp ≤ 4) with _ | _
  · have hr : J5 r = false := by simp only [J5, h1, h2, h3, h4, h5, h6, Bool.and_false, Bool.false_and, Bool.and_true, Bool.true_and]
    rw [hr]
    repeat' (first | refine Qf fun K' hK => ?_ | refine Qi fun K' hK => ?_ | refine Qg ?_ | refine Qh ?_ | refine Qa ?_ | ((first | refine Qk ⟨_, rfl, fun hc => ?_, fun hc => ?_⟩ | refine QM (fun hc => ?_) (fun hc => ?_) | refine QN (fun hc => ?_) (fun hc => ?_)) <;> first | exact Bool.noConfusion hc | ((try simp only [znz] at hc); first | exact znf | skip)) | refine Qo ?_ | refine Qj ?_ | simp (maxSteps := 1000000) only [go_sem, Nat.reduceAdd, Nat.reduceMul, Nat.reduceEqDiff, Nat.reduceLeDiff, Nat.reduceLT, Nat.reduceSub, Int.reduceEq, Int.reduceBEq, Int.reduceLT, Int.reduceLE, Int.reduceAdd, Int.reduceToNat, reduceIte, reduceCtorEq, Qp.cells, h1, h2, h3, h4, h5, h6] | (refine hK _ ?_; clear hK; clear K') | refine And.intro ?_ ?_ | exact zlo | omega | exact zms)
    all_goals first | (refine QQ _ rfl ?_; simp only [go_sem, Nat.reduceEqDiff, Nat.reduceAdd, reduceIte, reduceCtorEq]; done) | trace_state
  rcases h7 : decide (r.frm ≥ 0) with _ | _
  · have hr : J5 r = false := by simp only [J5, h1, h2, h3, h4, h5, h6, h7, Bool.and_false, Bool.false_and, Bool.and_true, Bool.true_and]
    rw [hr]
    repeat' (first | refine Qf fun K' hK => ?_ | refine Qi fun K' hK => ?_ | refine Qg ?_ | refine Qh ?_ | refine Qa ?_ | ((first | refine Qk ⟨_, rfl, fun hc => ?_, fun hc => ?_⟩ | refine QM (fun hc => ?_) (fun hc => ?_) | refine QN (fun hc => ?_) (fun hc => ?_)) <;> first | exact Bool.noConfusion hc | ((try simp only [znz] at hc); first | exact znf | skip)) | refine Qo ?_ | refine Qj ?_ | simp (maxSteps := 1000000) only [go_sem, Nat.reduceAdd, Nat.reduceMul, Nat.reduceEqDiff, Nat.reduceLeDiff, Nat.reduceLT, Nat.reduceSub, Int.reduceEq, Int.reduceBEq, Int.reduceLT, Int.reduceLE, Int.reduceAdd, Int.reduceToNat, reduceIte, reduceCtorEq, Qp.cells, h1, h2, h3, h4, h5, h6, h7] | (refine hK _ ?_; clear hK; clear K') | refine And.intro ?_ ?_ | exact zlo | omega | exact zms)
    all_goals first | (refine QQ _ rfl ?_; simp only [go_sem, Nat.reduceEqDiff, Nat.reduceAdd, reduceIte, reduceCtorEq]; done) | trace_state
  rcases h8 : decide (r.frm < r.til) with _ | _
  · have hr : J5 r = false := by simp only [J5, h1, h2, h3, h4, h5, h6, h7, h8, Bool.and_false, Bool.false_and, Bool.and_true, Bool.true_and]
    rw [hr]
    repeat' (first | refine Qf fun K' hK => ?_ | refine Qi fun K' hK => ?_ | refine Qg ?_ | refine Qh ?_ | refine Qa ?_ | ((first | refine Qk ⟨_, rfl, fun hc => ?_, fun hc => ?_⟩ | refine QM (fun hc => ?_) (fun hc => ?_) | refine QN (fun hc => ?_) (fun hc => ?_)) <;> first | exact Bool.noConfusion hc | ((try simp only [znz] at hc); first | exact znf | skip)) | refine Qo ?_ | refine Qj ?_ | simp (maxSteps := 1000000) only [go_sem, Nat.reduceAdd, Nat.reduceMul, Nat.reduceEqDiff, Nat.reduceLeDiff, Nat.reduceLT, Nat.reduceSub, Int.reduceEq, Int.reduceBEq, Int.reduceLT, Int.reduceLE, Int.reduceAdd, Int.reduceToNat, reduceIte, reduceCtorEq, Qp.cells, h1, h2, h3, h4, h5, h6, h7, h8] | (refine hK _ ?_; clear hK; clear K') | refine And.intro ?_ ?_ | exact zlo | omega | exact zms)
    all_goals first | (refine QQ _ rfl ?_; simp only [go_sem, Nat.reduceEqDiff, Nat.reduceAdd, reduceIte, reduceCtorEq]; done) | trace_state
  rcases h9 : decide (r.til ≤ 40001) with _ | _
  · have hr : J5 r = false := by simp only [J5, h1, h2, h3, h4, h5, h6, h7, h8, h9, Bool.and_false, Bool.false_and, Bool.and_true, Bool.true_and]
    rw [hr]
    repeat' (first | refine Qf fun K' hK => ?_ | refine Qi fun K' hK => ?_ | refine Qg ?_ | refine Qh ?_ | refine Qa ?_ | ((first | refine Qk ⟨_, rfl, fun hc => ?_, fun hc => ?_⟩ | refine QM (fun hc => ?_) (fun hc => ?_) | refine QN (fun hc => ?_) (fun hc => ?_)) <;> first | exact Bool.noConfusion hc | ((try simp only [znz] at hc); first | exact znf | skip)) | refine Qo ?_ | refine Qj ?_ | simp (maxSteps := 1000000) only [go_sem, Nat.reduceAdd, Nat.reduceMul, Nat.reduceEqDiff, Nat.reduceLeDiff, Nat.reduceLT, Nat.reduceSub, Int.reduceEq, Int.reduceBEq, Int.reduceLT, Int.reduceLE, Int.reduceAdd, Int.reduceToNat, reduceIte, reduceCtorEq, Qp.cells, h1, h2, h3, h4, h5, h6, h7, h8, h9] | (refine hK _ ?_; clear hK; clear K') | refine And.intro ?_ ?_ | exact zlo | omega | exact zms)
    all_goals first | (refine QQ _ rfl ?_; simp only [go_sem, Nat.reduceEqDiff, Nat.reduceAdd, reduceIte, reduceCtorEq]; done) | trace_state
  have hr : J5 r = true := by simp only [J5, h1, h2, h3, h4, h5, h6, h7, h8, h9, Bool.and_self]
  rw [hr]
  repeat' (first | refine Qf fun K' hK => ?_ | refine Qi fun K' hK => ?_ | refine Qg ?_ | refine Qh ?_ | refine Qa ?_ | ((first | refine Qk ⟨_, rfl, fun hc => ?_, fun hc => ?_⟩ | refine QM (fun hc => ?_) (fun hc => ?_) | refine QN (fun hc => ?_) (fun hc => ?_)) <;> first | exact Bool.noConfusion hc | ((try simp only [znz] at hc); first | exact znf | skip)) | refine Qo ?_ | refine Qj ?_ | simp (maxSteps := 1000000) only [go_sem, Nat.reduceAdd, Nat.reduceMul, Nat.reduceEqDiff, Nat.reduceLeDiff, Nat.reduceLT, Nat.reduceSub, Int.reduceEq, Int.reduceBEq, Int.reduceLT, Int.reduceLE, Int.reduceAdd, Int.reduceToNat, reduceIte, reduceCtorEq, Qp.cells, h1, h2, h3, h4, h5, h6, h7, h8, h9] | (refine hK _ ?_; clear hK; clear K') | refine And.intro ?_ ?_ | exact zlo | omega | exact zms)
  all_goals first | (refine QQ _ rfl ?_; simp only [go_sem, Nat.reduceEqDiff, Nat.reduceAdd, reduceIte, reduceCtorEq]; done) | trace_state
def yY : AC := QR [1] (.reg [xo 1 (.box true 2 (.t 0)), mc 2 (V.bool false)]) (QR [2] (.reg [fa 3 0 1, ld 4 1 3, bc 5 .geq 4 (V.int 1), mv 6 5, xg 7 (.faddr 0 (.t 1)) 6 true, xg 8 (.load false 1 (.t 7)) 6 true, xg 9 (.bin .leq (.t 8) (.c (V.int 4))) 6 true, xo 10 (.pick (.t 6) (.t 9) (.c (V.bool false))), mv 11 10, xg 12 (.faddr 1 (.t 1)) 11 true, xg 13 (.load false 1 (.t 12)) 11 true, xg 14 (.bin .geq (.t 13) (.c (V.int 0))) 11 true, xo 15 (.pick (.t 11) (.t 14) (.c (V.bool false))), mv 16 15, xg 17 (.faddr 1 (.t 1)) 16 true, xg 18 (.load false 1 (.t 17)) 16 true, xg 19 (.bin .leq (.t 18) (.c (V.int 40000))) 16 true, xo 20 (.pick (.t 16) (.t 19) (.c (V.bool false))), mv 2 20]) (.ret)) def r_rule_kept : List XY := [.tmp 2]
def yq (Γ : Env) (f : Nat) : Prop := ∀ (k : Qs), EvN Γ f [k.v] (V.bool (XZ k))
theorem acs {Γ : Env} {f : Nat} (h : Has Γ.P f 21 yY r_rule_kept)  : yq Γ f := by
  intro k
  refine JD h (by simp) (by simp only [V.closed, Qq, V.noSl, Yq, and_self, and_true, true_and]) (by simp only [V.closed, Qq, V.noSl, Yq, and_self, and_true, true_and]) fun C hC hm => ?_
  subst hC
  unfold yY
  rcases h1 : decide (k.purp ≥ 1) with _ | _
  · have hr : XZ k = false := by simp only [XZ, h1, Bool.and_false, Bool.false_and, Bool.and_true, Bool.true_and]
    rw [hr]
    repeat' (first | refine Qf fun K' hK => ?_ | refine Qi fun K' hK => ?_ | refine Qg ?_ | refine Qh ?_ | refine Qa ?_ | ((first | refine Qk ⟨_, rfl, fun hc => ?_, fun hc => ?_⟩ | refine QM (fun hc => ?_) (fun hc => ?_) | refine QN (fun hc => ?_) (fun hc => ?_)) <;> first | exact Bool.noConfusion hc | ((try simp only [znz] at hc); first | exact znf | skip)) | refine Qo ?_ | refine Qj ?_ | simp (maxSteps := 1000000) only [go_sem, Nat.reduceAdd, Nat.reduceMul, Nat.reduceEqDiff, Nat.reduceLeDiff, Nat.reduceLT, Nat.reduceSub, Int.reduceEq, Int.reduceBEq, Int.reduceLT, Int.reduceLE, Int.reduceAdd, Int.reduceToNat, reduceIte, reduceCtorEq, Qs.cells, h1] | (refine hK _ ?_; clear hK; clear K') | refine And.intro ?_ ?_ | exact zlo | omega | exact zms)
    all_goals first | (refine QQ _ rfl ?_; simp only [go_sem, Nat.reduceEqDiff, Nat.reduceAdd, reduceIte, reduceCtorEq]; done) | trace_state
  rcases h2 : decide (k.purp ≤ 4) with _ | _
  · have hr : XZ k = false := by simp only [XZ, h1, h2, Bool.and_false, Bool.false_and, Bool.and_true, Bool.true_and]
    rw [hr]
    repeat' (first | refine Qf fun K' hK => ?_ | refine Qi fun K' hK => ?_ | refine Qg ?_ | refine Qh ?_ | refine Qa ?_ | ((first | refine Qk ⟨_, rfl, fun hc => ?_, fun hc => ?_⟩ | refine QM (fun hc => ?_) (fun hc => ?_) | refine QN (fun hc => ?_) (fun hc => ?_)) <;> first | exact Bool.noConfusion hc | ((try simp only [znz] at hc); first | exact znf | skip)) | refine Qo ?_ | refine Qj ?_ | simp (maxSteps := 1000000) only [go_sem, Nat.reduceAdd, Nat.reduceMul, Nat.reduceEqDiff, Nat.reduceLeDiff, Nat.reduceLT, Nat.reduceSub, Int.reduceEq, Int.reduceBEq, Int.reduceLT, Int.reduceLE, Int.reduceAdd, Int.reduceToNat, reduceIte, reduceCtorEq, Qs.cells, h1, h2] | (refine hK _ ?_; clear hK; clear K') | refine And.intro ?_ ?_ | exact zlo | omega | exact zms)
    all_goals first | (refine QQ _ rfl ?_; simp only [go_sem, Nat.reduceEqDiff, Nat.reduceAdd, reduceIte, reduceCtorEq]; done) | trace_state
  rcases h3 : decide (k.days ≥ 0) with _ | _
  · have hr : XZ k = false := by simp only [XZ, h1, h2, h3, Bool.and_false, Bool.false_and, Bool.and_true, Bool.true_and]
    rw [hr]
    repeat' (first | refine Qf fun K' hK => ?_ | refine Qi fun K' hK => ?_ | refine Qg ?_ | refine Qh ?_ | refine Qa ?_ | ((first | refine Qk ⟨_, rfl, fun hc => ?_, fun hc => ?_⟩ | refine QM (fun hc => ?_) (fun hc => ?_) | refine QN (fun hc => ?_) (fun hc => ?_)) <;> first | exact Bool.noConfusion hc | ((try simp only [znz] at hc); first | exact znf | skip)) | refine Qo ?_ | refine Qj ?_ | simp (maxSteps := 1000000) only [go_sem, Nat.reduceAdd, Nat.reduceMul, Nat.reduceEqDiff, Nat.reduceLeDiff, Nat.reduceLT, Nat.reduceSub, Int.reduceEq, Int.reduceBEq, Int.reduceLT, Int.reduceLE, Int.reduceAdd, Int.reduceToNat, reduceIte, reduceCtorEq, Qs.cells, h1, h2, h3] | (refine hK _ ?_; clear hK; clear K') | refine And.intro ?_ ?_ | exact zlo | omega | exact zms)
    all_goals first | (refine QQ _ rfl ?_; simp only [go_sem, Nat.reduceEqDiff, Nat.reduceAdd, reduceIte, reduceCtorEq]; done) | trace_state
  rcases h4 : decide (k.days ≤ 40000) with _ | _
  · have hr : XZ k = false := by simp only [XZ, h1, h2, h3, h4, Bool.and_false, Bool.false_and, Bool.and_true, Bool.true_and]
    rw [hr]
    repeat' (first | refine Qf fun K' hK => ?_ | refine Qi fun K' hK => ?_ | refine Qg ?_ | refine Qh ?_ | refine Qa ?_ | ((first | refine Qk ⟨_, rfl, fun hc => ?_, fun hc => ?_⟩ | refine QM (fun hc => ?_) (fun hc => ?_) | refine QN (fun hc => ?_) (fun hc => ?_)) <;> first | exact Bool.noConfusion hc | ((try simp only [znz] at hc); first | exact znf | skip)) | refine Qo ?_ | refine Qj ?_ | simp (maxSteps := 1000000) only [go_sem, Nat.reduceAdd, Nat.reduceMul, Nat.reduceEqDiff, Nat.reduceLeDiff, Nat.reduceLT, Nat.reduceSub, Int.reduceEq, Int.reduceBEq, Int.reduceLT, Int.reduceLE, Int.reduceAdd, Int.reduceToNat, reduceIte, reduceCtorEq, Qs.cells, h1, h2, h3, h4] | (refine hK _ ?_; clear hK; clear K') | refine And.intro ?_ ?_ | exact zlo | omega | exact zms)
    all_goals first | (refine QQ _ rfl ?_; simp only [go_sem, Nat.reduceEqDiff, Nat.reduceAdd, reduceIte, reduceCtorEq]; done) | trace_state
  have hr : XZ k = true := by simp only [XZ, h1, h2, h3, h4, Bool.and_self]
  rw [hr]
  repeat' (first | refine Qf fun K' hK => ?_ | refine Qi fun K' hK => ?_ | refine Qg ?_ | refine Qh ?_ | refine Qa ?_ | ((first | refine Qk ⟨_, rfl, fun hc => ?_, fun hc => ?_⟩ | refine QM (fun hc => ?_) (fun hc => ?_) | refine QN (fun hc => ?_) (fun hc => ?_)) <;> first | exact Bool.noConfusion hc | ((try simp only [znz] at hc); first | exact znf | skip)) | refine Qo ?_ | refine Qj ?_ | simp (maxSteps := 1000000) only [go_sem, Nat.reduceAdd, Nat.reduceMul, Nat.reduceEqDiff, Nat.reduceLeDiff, Nat.reduceLT, Nat.reduceSub, Int.reduceEq, Int.reduceBEq, Int.reduceLT, Int.reduceLE, Int.reduceAdd, Int.reduceToNat, reduceIte, reduceCtorEq, Qs.cells, h1, h2, h3, h4] | (refine hK _ ?_; clear hK; clear K') | refine And.intro ?_ ?_ | exact zlo | omega | exact zms)
  all_goals first | (refine QQ _ rfl ?_; simp only [go_sem, Nat.reduceEqDiff, Nat.reduceAdd, reduceIte, reduceCtorEq]; done) | trace_state
def yb : AC := QR [1] (.reg [xo 1 (.box true 2 (.t 0)), mc 2 (V.bool false)]) (QR [2] (.reg [fa 3 0 1, ld 4 1 3, bc 5 .geq 4 (V.int 1), mv 6 5, xg 7 (.faddr 0 (.t 1)) 6 true, xg 8 (.load false 1 (.t 7)) 6 true, xg 9 (.bin .leq (.t 8) (.c (V.int 4))) 6 true, xo 10 (.pick (.t 6) (.t 9) (.c (V.bool false))), mv 11 10, xg 12 (.faddr 1 (.t 1)) 11 true, xg 13 (.load false 1 (.t 12)) 11 true, xg 14 (.bin .geq (.t 13) (.c (V.int 0))) 11 true, xo 15 (.pick (.t 11) (.t 14) (.c (V.bool false))), mv 16 15, xg 17 (.faddr 1 (.t 1)) 16 true, xg 18 (.load false 1 (.t 17)) 16 true, xg 19 (.bin .leq (.t 18) (.c (V.int 40000))) 16 true, xo 20 (.pick (.t 16) (.t 19) (.c (V.bool false))), mv 2 20]) (.ret)) def r_ref17_kept : List XY := [.tmp 2]
def jE (Γ : Env) (f : Nat) : Prop := ∀ (k : Qs), EvN Γ f [k.v] (V.bool (XZ k))
theorem abu {Γ : Env} {f : Nat} (h : Has Γ.P f 21 yb r_ref17_kept)  : jE Γ f := by
  intro k
  refine JD h (by simp) (by simp only [V.closed, Qq, V.noSl, Yq, and_self, and_true, true_and]) (by simp only [V.closed, Qq, V.noSl, Yq, and_self, and_true, true_and]) fun C hC hm => ?_
  subst hC
  unfold yb
  rcases h1 : decide (k.purp ≥ 1) with _ | _
  · have hr : XZ k = false := by simp only [XZ, h1, Bool.and_false, Bool.false_and, Bool.and_true, Bool.true_and]
    rw [hr]
    repeat' (first | refine Qf fun K' hK => ?_ | refine Qi fun K' hK => ?_ | refine Qg ?_ | refine Qh ?_ | refine Qa ?_ | ((first | refine Qk ⟨_, rfl, fun hc => ?_, fun hc => ?_⟩ | refine QM (fun hc => ?_) (fun hc => ?_) | refine QN (fun hc => ?_) (fun hc => ?_)) <;> first | exact Bool.noConfusion hc | ((try simp only [znz] at hc); first | exact znf | skip)) | refine Qo ?_ | refine Qj ?_ | simp (maxSteps := 1000000) only [go_sem, Nat.reduceAdd, Nat.reduceMul, Nat.reduceEqDiff, Nat.reduceLeDiff, Nat.reduceLT, Nat.reduceSub, Int.reduceEq, Int.reduceBEq, Int.reduceLT, Int.reduceLE, Int.reduceAdd, Int.reduceToNat, reduceIte, reduceCtorEq, Qs.cells, h1] | (refine hK _ ?_; clear hK; clear K') | refine And.intro ?_ ?_ | exact zlo | omega | exact zms)
    all_goals first | (refine QQ _ rfl ?_; simp only [go_sem, Nat.reduceEqDiff, Nat.reduceAdd, reduceIte, reduceCtorEq]; done) | trace_state
  rcases h2 : decide (k.purp ≤ 4) with _ | _
  · have hr : XZ k = false := by simp only [XZ, h1, h2, Bool.and_false, Bool.false_and, Bool.and_true, Bool.true_and]
    rw [hr]
    repeat' (first | refine Qf fun K' hK => ?_ | refine Qi fun K' hK => ?_ | refine Qg ?_ | refine Qh ?_ | refine Qa ?_ | ((first | refine Qk ⟨_, rfl, fun hc => ?_, fun hc => ?_⟩ | refine QM (fun hc => ?_) (fun hc => ?_) | refine QN (fun hc => ?_) (fun hc => ?_)) <;> first | exact Bool.noConfusion hc | ((try simp only [znz] at hc); first | exact znf | skip)) | refine Qo ?_ | refine Qj ?_ | simp (maxSteps := 1000000) only [go_sem, Nat.reduceAdd, Nat.reduceMul, Nat.reduceEqDiff, Nat.reduceLeDiff, Nat.reduceLT, Nat.reduceSub, Int.reduceEq, Int.reduceBEq, Int.reduceLT, Int.reduceLE, Int.reduceAdd, Int.reduceToNat, reduceIte, reduceCtorEq, Qs.cells, h1, h2] | (refine hK _ ?_; clear hK; clear K') | refine And.intro ?_ ?_ | exact zlo | omega | exact zms)
    all_goals first | (refine QQ _ rfl ?_; simp only [go_sem, Nat.reduceEqDiff, Nat.reduceAdd, reduceIte, reduceCtorEq]; done) | trace_state
  rcases h3 : decide (k.days ≥ 0) with _ | _
  · have hr : XZ k = false := by simp only [XZ, h1, h2, h3, Bool.and_false, Bool.false_and, Bool.and_true, Bool.true_and]
    rw [hr]
    repeat' (first | refine Qf fun K' hK => ?_ | refine Qi fun K' hK => ?_ | refine Qg ?_ | refine Qh ?_ | refine Qa ?_ | ((first | refine Qk ⟨_, rfl, fun hc => ?_, fun hc => ?_⟩ | refine QM (fun hc => ?_) (fun hc => ?_) | refine QN (fun hc => ?_) (fun hc => ?_)) <;> first | exact Bool.noConfusion hc | ((try simp only [znz] at hc); first | exact znf | skip)) | refine Qo ?_ | refine Qj ?_ | simp (maxSteps := 1000000) only [go_sem, Nat.reduceAdd, Nat.reduceMul, Nat.reduceEqDiff, Nat.reduceLeDiff, Nat.reduceLT, Nat.reduceSub, Int.reduceEq, Int.reduceBEq, Int.reduceLT, Int.reduceLE, Int.reduceAdd, Int.reduceToNat, reduceIte, reduceCtorEq, Qs.cells, h1, h2, h3] | (refine hK _ ?_; clear hK; clear K') | refine And.intro ?_ ?_ | exact zlo | omega | exact zms)
    all_goals first | (refine QQ _ rfl ?_; simp only [go_sem, Nat.reduceEqDiff, Nat.reduceAdd, reduceIte, reduceCtorEq]; done) | trace_state
  rcases h4 : decide (k.days ≤ 40000) with _ | _
  · have hr : XZ k = false := by simp only [XZ, h1, h2, h3, h4, Bool.and_false, Bool.false_and, Bool.and_true, Bool.true_and]
    rw [hr]
    repeat' (first | refine Qf fun K' hK => ?_ | refine Qi fun K' hK => ?_ | refine Qg ?_ | refine Qh ?_ | refine Qa ?_ | ((first | refine Qk ⟨_, rfl, fun hc => ?_, fun hc => ?_⟩ | refine QM (fun hc => ?_) (fun hc => ?_) | refine QN (fun hc => ?_) (fun hc => ?_)) <;> first | exact Bool.noConfusion hc | ((try simp only [znz] at hc); first | exact znf | skip)) | refine Qo ?_ | refine Qj ?_ | simp (maxSteps := 1000000) only [go_sem, Nat.reduceAdd, Nat.reduceMul, Nat.reduceEqDiff, Nat.reduceLeDiff, Nat.reduceLT, Nat.reduceSub, Int.reduceEq, Int.reduceBEq, Int.reduceLT, Int.reduceLE, Int.reduceAdd, Int.reduceToNat, reduceIte, reduceCtorEq, Qs.cells, h1, h2, h3, h4] | (refine hK _ ?_; clear hK; clear K') | refine And.intro ?_ ?_ | exact zlo | omega | exact zms)
    all_goals first | (refine QQ _ rfl ?_; simp only [go_sem, Nat.reduceEqDiff, Nat.reduceAdd, reduceIte, reduceCtorEq]; done) | trace_state
  have hr : XZ k = true := by simp only [XZ, h1, h2, h3, h4, Bool.and_self]
  rw [hr]
  repeat' (first | refine Qf fun K' hK => ?_ | refine Qi fun K' hK => ?_ | refine Qg ?_ | refine Qh ?_ | refine Qa ?_ | ((first | refine Qk ⟨_, rfl, fun hc => ?_, fun hc => ?_⟩ | refine QM (fun hc => ?_) (fun hc => ?_) | refine QN (fun hc => ?_) (fun hc => ?_)) <;> first | exact Bool.noConfusion hc | ((try simp only [znz] at hc); first | exact znf | skip)) | refine Qo ?_ | refine Qj ?_ | simp (maxSteps := 1000000) only [go_sem, Nat.reduceAdd, Nat.reduceMul, Nat.reduceEqDiff, Nat.reduceLeDiff, Nat.reduceLT, Nat.reduceSub, Int.reduceEq, Int.reduceBEq, Int.reduceLT, Int.reduceLE, Int.reduceAdd, Int.reduceToNat, reduceIte, reduceCtorEq, Qs.cells, h1, h2, h3, h4] | (refine hK _ ?_; clear hK; clear K') | refine And.intro ?_ ?_ | exact zlo | omega | exact zms)
  all_goals first | (refine QQ _ rfl ?_; simp only [go_sem, Nat.reduceEqDiff, Nat.reduceAdd, reduceIte, reduceCtorEq]; done) | trace_state
def qr (KY : Nat) : AC := QR [1] (.reg [xo 1 (.box true 6 (.t 0)), mc 2 (V.bool false)]) (QR [2] (.reg [xo 3 (.load true 6 (.t 1)), cl 4 KY [3], xo 5 (.un .not (.t 4)), mv 2 5]) (.ret)) def r_rule_Check_1 : List XY := [.tmp 2]
def KO (Γ : Env) (f : Nat) : Prop := ∀ (r : Qp), EvN Γ f [r.v] (V.bool (!J5 r))
theorem vH {Γ : Env} {f KY : Nat} (h : Has Γ.P f 6 (qr KY) r_rule_Check_1) (wh : jB Γ KY) : KO Γ f := by
  intro r
  refine JD h (by simp) (by simp only [V.closed, Qq, V.noSl, Yq, and_self, and_true, true_and]) (by simp only [V.closed, Qq, V.noSl, Yq, and_self, and_true, true_and]) fun C hC hm => ?_
  subst hC
  unfold qr
  have h := (wh r).b
  simp only [Qp.v, Qp.cells] at h ⊢
  repeat' (first | refine Qf fun K' hK => ?_ | refine Qi fun K' hK => ?_ | refine Qg ?_ | refine Qh ?_ | refine Qa ?_ | ((first | refine Qk ⟨_, rfl, fun hc => ?_, fun hc => ?_⟩ | refine QM (fun hc => ?_) (fun hc => ?_) | refine QN (fun hc => ?_) (fun hc => ?_)) <;> first | exact Bool.noConfusion hc | ((try simp only [znz] at hc); first | exact znf | skip)) | refine Qo ?_ | refine Qj ?_ | simp (maxSteps := 1000000) only [go_sem, Nat.reduceAdd, Nat.reduceMul, Nat.reduceEqDiff, Nat.reduceLeDiff, Nat.reduceLT, Nat.reduceSub, Int.reduceEq, Int.reduceBEq, Int.reduceLT, Int.reduceLE, Int.reduceAdd, Int.reduceToNat, reduceIte, reduceCtorEq] | (refine hK _ ?_; clear hK; clear K') | refine And.intro ?_ ?_ | (apply QS; (focus first | exact h | exact (wh _).b)) | exact zlo | omega | exact zms)
  all_goals first | (refine QQ _ rfl ?_; simp only [go_sem, Nat.reduceEqDiff, Nat.reduceAdd, reduceIte, reduceCtorEq]; done) | trace_state
def qq (jl : Nat) : AC := QR [1] (.reg [xo 1 (.box true 2 (.t 0)), mc 2 (V.bool false)]) (QR [2] (.reg [xo 3 (.load true 2 (.t 1)), cl 4 jl [3], xo 5 (.un .not (.t 4)), mv 2 5]) (.ret)) def r_rule_Check_2 : List XY := [.tmp 2]
def KN (Γ : Env) (f : Nat) : Prop := ∀ (k : Qs), EvN Γ f [k.v] (V.bool (!XZ k))
theorem vG {Γ : Env} {f jl : Nat} (h : Has Γ.P f 6 (qq jl) r_rule_Check_2) (vA : yq Γ jl) : KN Γ f := by
  intro k
  refine JD h (by simp) (by simp only [V.closed, Qq, V.noSl, Yq, and_self, and_true, true_and]) (by simp only [V.closed, Qq, V.noSl, Yq, and_self, and_true, true_and]) fun C hC hm => ?_
  subst hC
  unfold qq
  have h := (vA k).b
  simp only [Qs.v, Qs.cells] at h ⊢
  repeat' (first | refine Qf fun K' hK => ?_ | refine Qi fun K' hK => ?_ | refine Qg ?_ | refine Qh ?_ | refine Qa ?_ | ((first | refine Qk ⟨_, rfl, fun hc => ?_, fun hc => ?_⟩ | refine QM (fun hc => ?_) (fun hc => ?_) | refine QN (fun hc => ?_) (fun hc => ?_)) <;> first | exact Bool.noConfusion hc | ((try simp only [znz] at hc); first | exact znf | skip)) | refine Qo ?_ | refine Qj ?_ | simp (maxSteps := 1000000) only [go_sem, Nat.reduceAdd, Nat.reduceMul, Nat.reduceEqDiff, Nat.reduceLeDiff, Nat.reduceLT, Nat.reduceSub, Int.reduceEq, Int.reduceBEq, Int.reduceLT, Int.reduceLE, Int.reduceAdd, Int.reduceToNat, reduceIte, reduceCtorEq] | (refine hK _ ?_; clear hK; clear K') | refine And.intro ?_ ?_ | (apply QS; (focus first | exact h | exact (vA _).b)) | exact zlo | omega | exact zms)
  all_goals first | (refine QQ _ rfl ?_; simp only [go_sem, Nat.reduceEqDiff, Nat.reduceAdd, reduceIte, reduceCtorEq]; done) | trace_state
def YP : AC := QR [0, 1] (.reg [mc 4 (V.int 0)]) (QR [] (QR [0, 1, 7, 8] (.reg [mv 6 0, ln 7 6, mc 8 (V.int 0)]) (.block 0 (Kv [0, 1, 7, 8] (QR [0, 1, 7, 8, 9] (.reg [bn 9 .lss 8 7]) (QR [0, 1, 7, 8] (.cond (.t 9) (.skip) (.exit 0)) (QR [0, 1, 7, 8] (.block 1 (QR [0, 1, 5, 7, 8] (.reg [mv 10 8, mv 5 10]) (QR [0, 1, 5, 7, 8, 16] (.reg [mv 11 1, mv 12 0, mv 13 5, ia 14 6 12 13, xo 15 (.load true 6 (.t 14)), xo 16 (.callv (.t 11) [(.t 15)])]) (.cond (.t 16) (QR [4] (.reg [mv 17 5, mv 4 17]) (.ret)) (.skip))))) (.reg [bc 18 .add 8 (V.int 1), mv 8 18]))))))) (QR [4] (.reg [mc 4 (V.int (-1))]) (.ret))) def r_slices_IndexFunc___api_Rule_api_Rule : List XY := [.tmp 4]
def YD (Γ : Env) (f : Nat) : Prop := ∀ (xs : List Qp) (g : Nat) (p : Qp → Bool) (hp : ∀ x, EvN Γ g [Qp.v x] (V.bool (p x))) (hl : xs.length < 2 ^ 62), EvN Γ f [.sl 6 (xs.map Qp.v), .clo g []] (V.int (ada p 0 xs))
theorem WM {Γ : Env} {f : Nat} (h : Has Γ.P f 19 YP r_slices_IndexFunc___api_Rule_api_Rule)  : YD Γ f := by
  intro xs g p hp hl
  refine JD h (by simp) (by simp only [V.closed, Qq, V.noSl, Yq, and_self, and_true, true_and]) (by simp only [V.closed, Qq, V.noSl, Yq, and_self, and_true, true_and]) fun C hC hm => ?_
  subst hC
  unfold YP
  repeat' (first | refine Qf fun K' hK => ?_ | refine Qi fun K' hK => ?_ | refine Qg ?_ | refine Qh ?_ | refine Qa ?_ | ((first | refine Qk ⟨_, rfl, fun hc => ?_, fun hc => ?_⟩ | refine QM (fun hc => ?_) (fun hc => ?_) | refine QN (fun hc => ?_) (fun hc => ?_)) <;> first | exact Bool.noConfusion hc | ((try simp only [znz] at hc); first | exact znf | skip)) | refine Qo ?_ | refine Qj ?_ | simp (maxSteps := 1000000) only [go_sem, Nat.reduceAdd, Nat.reduceMul, Nat.reduceEqDiff, Nat.reduceLeDiff, Nat.reduceLT, Nat.reduceSub, Int.reduceEq, Int.reduceBEq, Int.reduceLT, Int.reduceLE, Int.reduceAdd, Int.reduceToNat, reduceIte, reduceCtorEq] | (refine hK _ ?_; clear hK; clear K') | refine And.intro ?_ ?_ | exact zlo | omega | exact zms)
  refine Vk (ι := Nat) (fun k => k ≤ xs.length ∧ ada p k (xs.drop k) = ada p 0 xs) (fun k => [(8, V.int k)]) (fun k => xs.length - k) 0 (by omega) ⟨by simp, by simp⟩ (by repeat' first | exact Uu | refine qm (by omega) (by simp only [Ob.lt, ltL, V.lt, and_self, and_true]; try omega) ?_) (fun i hi => by simp only [ovT, XS, Nat.reduceEqDiff, reduceIte]; (repeat' first | exact ql | refine Ut ?_ ?_ | simp only [V.lt, ltL, and_self, and_true] | omega)) (by simp only [Nat.reduceAdd, ovT, XS, Nat.reduceEqDiff, reduceIte, YW, XB, xJ, u32, u33, u34, u35, u36, u37, u38, u39, and_self, and_true, true_and]; rfl) fun k hk K' hL => ?_
  obtain ⟨hk, hinv⟩ := hk
  simp only [ovT, XS, Nat.reduceEqDiff, reduceIte]
  rcases hd : xs.drop k with _ | ⟨y, r⟩
  · have := XU hd
    rw [hd] at hinv
    have e1 : decide ((k : Int) < (((xs.map Qp.v).length : Nat) : Int)) = false := by simp; omega
    repeat' (first | refine Qf fun K' hK => ?_ | refine Qi fun K' hK => ?_ | refine Qg ?_ | refine Qh ?_ | refine Qa ?_ | ((first | refine Qk ⟨_, rfl, fun hc => ?_, fun hc => ?_⟩ | refine QM (fun hc => ?_) (fun hc => ?_) | refine QN (fun hc => ?_) (fun hc => ?_)) <;> first | exact Bool.noConfusion hc | ((try simp only [znz] at hc); first | exact znf | skip)) | refine Qo ?_ | refine Qj ?_ | simp (maxSteps := 1000000) only [go_sem, Nat.reduceAdd, Nat.reduceMul, Nat.reduceEqDiff, Nat.reduceLeDiff, Nat.reduceLT, Nat.reduceSub, Int.reduceEq, Int.reduceBEq, Int.reduceLT, Int.reduceLE, Int.reduceAdd, Int.reduceToNat, reduceIte, reduceCtorEq, e1] | (refine hK _ ?_; clear hK; clear K') | refine And.intro ?_ ?_ | exact zlo | omega | exact zms)
    refine QQ _ rfl ?_
    simp only [go_sem, Nat.reduceEqDiff, Nat.reduceAdd, reduceIte, reduceCtorEq]
    rw [← hinv]; rfl
  · obtain ⟨hk, hget, hr⟩ := Xq hd
    rw [hd] at hinv
    have hw := Xh (k := k) (by omega)
    have e1 : decide ((k : Int) < (((xs.map Qp.v).length : Nat) : Int)) = true := by simp; omega
    have hpy := hp y
    by_cases hy : p y = true
    · rw [hy] at hpy
      repeat' (first | refine Qf fun K' hK => ?_ | refine Qi fun K' hK => ?_ | refine Qg ?_ | refine Qh ?_ | refine Qa ?_ | ((first | refine Qk ⟨_, rfl, fun hc => ?_, fun hc => ?_⟩ | refine QM (fun hc => ?_) (fun hc => ?_) | refine QN (fun hc => ?_) (fun hc => ?_)) <;> first | exact Bool.noConfusion hc | ((try simp only [znz] at hc); first | exact znf | skip)) | refine Qo ?_ | refine Qj ?_ | simp (maxSteps := 1000000) only [go_sem, Nat.reduceAdd, Nat.reduceMul, Nat.reduceEqDiff, Nat.reduceLeDiff, Nat.reduceLT, Nat.reduceSub, Int.reduceEq, Int.reduceBEq, Int.reduceLT, Int.reduceLE, Int.reduceAdd, Int.reduceToNat, reduceIte, reduceCtorEq, Int.toNat_natCast, List.getElem?_map, hget, hw, e1, Qp.v, Qp.cells] | (refine hK _ ?_; clear hK; clear K') | refine And.intro ?_ ?_ | (apply QS; (focus first | exact hpy.b)) | exact zlo | omega | exact zms)
      refine QQ _ rfl ?_; simp only [go_sem, Nat.reduceEqDiff, Nat.reduceAdd, reduceIte, reduceCtorEq]
      rw [← hinv]; simp [ada, hy]
    · have hy' : p y = false := by simpa using hy
      rw [hy'] at hpy
      repeat' (first | refine Qf fun K' hK => ?_ | refine Qi fun K' hK => ?_ | refine Qg ?_ | refine Qh ?_ | refine Qa ?_ | ((first | refine Qk ⟨_, rfl, fun hc => ?_, fun hc => ?_⟩ | refine QM (fun hc => ?_) (fun hc => ?_) | refine QN (fun hc => ?_) (fun hc => ?_)) <;> first | exact Bool.noConfusion hc | ((try simp only [znz] at hc); first | exact znf | skip)) | refine Qo ?_ | refine Qj ?_ | simp (maxSteps := 1000000) only [go_sem, Nat.reduceAdd, Nat.reduceMul, Nat.reduceEqDiff, Nat.reduceLeDiff, Nat.reduceLT, Nat.reduceSub, Int.reduceEq, Int.reduceBEq, Int.reduceLT, Int.reduceLE, Int.reduceAdd, Int.reduceToNat, reduceIte, reduceCtorEq, Int.toNat_natCast, List.getElem?_map, hget, hw, e1, Qp.v, Qp.cells] | (refine hK _ ?_; clear hK; clear K') | refine And.intro ?_ ?_ | (apply QS; (focus first | exact hpy.b)) | exact zlo | omega | exact zms)
      refine hL _ (k + 1) (by simp only [Nat.reduceAdd, ovT, XS, Nat.reduceEqDiff, reduceIte, YW, XB, xJ, u32, u33, u34, u35, u36, u37, u38, u39, and_self, and_true, true_and]) ⟨by omega, ?_⟩ (by omega) (fun a ha => by simp only [u32, u33, u34, u35, u36, u37, u38, u39]; repeat rw [if_neg (by omega)])
      rw [hr, ← hinv, ada, if_neg hy]
def Yz (Yl : Nat) : AC := QR [0, 1] (.reg [mc 4 (V.bool false)]) (QR [4] (.reg [mv 5 0, mv 6 1, cl 7 Yl [5, 6], bc 8 .geq 7 (V.int 0), mv 4 8]) (.ret)) def r_slices_ContainsFunc___api_Rule_api_Rule : List XY := [.tmp 4]
def Yu (Γ : Env) (f : Nat) : Prop := ∀ (xs : List Qp) (g : Nat) (p : Qp → Bool) (hp : ∀ x, EvN Γ g [Qp.v x] (V.bool (p x))) (hl : xs.length < 2 ^ 62), EvN Γ f [.sl 6 (xs.map Qp.v), .clo g []] (V.bool (xs.any p))
theorem Wr {Γ : Env} {f Yl : Nat} (h : Has Γ.P f 9 (Yz Yl) r_slices_ContainsFunc___api_Rule_api_Rule) (XG : YD Γ Yl) : Yu Γ f := by
  intro xs g p hp hl
  refine JD h (by simp) (by simp only [V.closed, Qq, V.noSl, Yq, and_self, and_true, true_and]) (by simp only [V.closed, Qq, V.noSl, Yq, and_self, and_true, true_and]) fun C hC hm => ?_
  subst hC
  unfold Yz
  have hi := (XG xs g p hp hl).b
  have e1 := xQ p xs 0
  repeat' (first | refine Qf fun K' hK => ?_ | refine Qi fun K' hK => ?_ | refine Qg ?_ | refine Qh ?_ | refine Qa ?_ | ((first | refine Qk ⟨_, rfl, fun hc => ?_, fun hc => ?_⟩ | refine QM (fun hc => ?_) (fun hc => ?_) | refine QN (fun hc => ?_) (fun hc => ?_)) <;> first | exact Bool.noConfusion hc | ((try simp only [znz] at hc); first | exact znf | skip)) | refine Qo ?_ | refine Qj ?_ | simp (maxSteps := 1000000) only [go_sem, Nat.reduceAdd, Nat.reduceMul, Nat.reduceEqDiff, Nat.reduceLeDiff, Nat.reduceLT, Nat.reduceSub, Int.reduceEq, Int.reduceBEq, Int.reduceLT, Int.reduceLE, Int.reduceAdd, Int.reduceToNat, reduceIte, reduceCtorEq, e1] | (refine hK _ ?_; clear hK; clear K') | refine And.intro ?_ ?_ | (apply QS; (focus first | exact hi | exact (XG _ _ _ zsd zsd).b)) | exact zlo | omega | exact zms)
  all_goals first | (refine QQ _ rfl ?_; simp only [go_sem, Nat.reduceEqDiff, Nat.reduceAdd, reduceIte, reduceCtorEq]; done) | trace_state
def YQ : AC := QR [0, 1] (.reg [mc 4 (V.int 0)]) (QR [] (QR [0, 1, 7, 8] (.reg [mv 6 0, ln 7 6, mc 8 (V.int 0)]) (.block 0 (Kv [0, 1, 7, 8] (QR [0, 1, 7, 8, 9] (.reg [bn 9 .lss 8 7]) (QR [0, 1, 7, 8] (.cond (.t 9) (.skip) (.exit 0)) (QR [0, 1, 7, 8] (.block 1 (QR [0, 1, 5, 7, 8] (.reg [mv 10 8, mv 5 10]) (QR [0, 1, 5, 7, 8, 16] (.reg [mv 11 1, mv 12 0, mv 13 5, ia 14 2 12 13, xo 15 (.load true 2 (.t 14)), xo 16 (.callv (.t 11) [(.t 15)])]) (.cond (.t 16) (QR [4] (.reg [mv 17 5, mv 4 17]) (.ret)) (.skip))))) (.reg [bc 18 .add 8 (V.int 1), mv 8 18]))))))) (QR [4] (.reg [mc 4 (V.int (-1))]) (.ret))) def r_slices_IndexFunc___api_Keep_api_Keep : List XY := [.tmp 4]
def YE (Γ : Env) (f : Nat) : Prop := ∀ (xs : List Qs) (g : Nat) (p : Qs → Bool) (hp : ∀ x, EvN Γ g [Qs.v x] (V.bool (p x))) (hl : xs.length < 2 ^ 62), EvN Γ f [.sl 2 (xs.map Qs.v), .clo g []] (V.int (ada p 0 xs))
theorem WN {Γ : Env} {f : Nat} (h : Has Γ.P f 19 YQ r_slices_IndexFunc___api_Keep_api_Keep)  : YE Γ f := by
  intro xs g p hp hl
  refine JD h (by simp) (by simp only [V.closed, Qq, V.noSl, Yq, and_self, and_true, true_and]) (by simp only [V.closed, Qq, V.noSl, Yq, and_self, and_true, true_and]) fun C hC hm => ?_
  subst hC
  unfold YQ
  repeat' (first | refine Qf fun K' hK => ?_ | refine Qi fun K' hK => ?_ | refine Qg ?_ | refine Qh ?_ | refine Qa ?_ | ((first | refine Qk ⟨_, rfl, fun hc => ?_, fun hc => ?_⟩ | refine QM (fun hc => ?_) (fun hc => ?_) | refine QN (fun hc => ?_) (fun hc => ?_)) <;> first | exact Bool.noConfusion hc | ((try simp only [znz] at hc); first | exact znf | skip)) | refine Qo ?_ | refine Qj ?_ | simp (maxSteps := 1000000) only [go_sem, Nat.reduceAdd, Nat.reduceMul, Nat.reduceEqDiff, Nat.reduceLeDiff, Nat.reduceLT, Nat.reduceSub, Int.reduceEq, Int.reduceBEq, Int.reduceLT, Int.reduceLE, Int.reduceAdd, Int.reduceToNat, reduceIte, reduceCtorEq] | (refine hK _ ?_; clear hK; clear K') | refine And.intro ?_ ?_ | exact zlo | omega | exact zms)
  refine Vk (ι := Nat) (fun k => k ≤ xs.length ∧ ada p k (xs.drop k) = ada p 0 xs) (fun k => [(8, V.int k)]) (fun k => xs.length - k) 0 (by omega) ⟨by simp, by simp⟩ (by repeat' first | exact Uu | refine qm (by omega) (by simp only [Ob.lt, ltL, V.lt, and_self, and_true]; try omega) ?_) (fun i hi => by simp only [ovT, XS, Nat.reduceEqDiff, reduceIte]; (repeat' first | exact ql | refine Ut ?_ ?_ | simp only [V.lt, ltL, and_self, and_true] | omega)) (by simp only [Nat.reduceAdd, ovT, XS, Nat.reduceEqDiff, reduceIte, YW, XB, xJ, u32, u33, u34, u35, u36, u37, u38, u39, and_self, and_true, true_and]; rfl) fun k hk K' hL => ?_
  obtain ⟨hk, hinv⟩ := hk
  simp only [ovT, XS, Nat.reduceEqDiff, reduceIte]
  rcases hd : xs.drop k with _ | ⟨y, r⟩
  · have := XU hd
    rw [hd] at hinv
    have e1 : decide ((k : Int) < (((xs.map Qs.v).length : Nat) : Int)) = false := by simp; omega
    repeat' (first | refine Qf fun K' hK => ?_ | refine Qi fun K' hK => ?_ | refine Qg ?_ | refine Qh ?_ | refine Qa ?_ | ((first | refine Qk ⟨_, rfl, fun hc => ?_, fun hc => ?_⟩ | refine QM (fun hc => ?_) (fun hc => ?_) | refine QN (fun hc => ?_) (fun hc => ?_)) <;> first | exact Bool.noConfusion hc | ((try simp only [znz] at hc); first | exact znf | skip)) | refine Qo ?_ | refine Qj ?_ | simp (maxSteps := 1000000) only [go_sem, Nat.reduceAdd, Nat.reduceMul, Nat.reduceEqDiff, Nat.reduceLeDiff, Nat.reduceLT, Nat.reduceSub, Int.reduceEq, Int.reduceBEq, Int.reduceLT, Int.reduceLE, Int.reduceAdd, Int.reduceToNat, reduceIte, reduceCtorEq, e1] | (refine hK _ ?_; clear hK; clear K') | refine And.intro ?_ ?_ | exact zlo | omega | exact zms)
    refine QQ _ rfl ?_
    simp only [go_sem, Nat.reduceEqDiff, Nat.reduceAdd, reduceIte, reduceCtorEq]
    rw [← hinv]; rfl
  · obtain ⟨hk, hget, hr⟩ := Xq hd
    rw [hd] at hinv
    have hw := Xh (k := k) (by omega)
    have e1 : decide ((k : Int) < (((xs.map Qs.v).length : Nat) : Int)) = true := by simp; omega
    have hpy := hp y
    by_cases hy : p y = true
    · rw [hy] at hpy
      repeat' (first | refine Qf fun K' hK => ?_ | refine Qi fun K' hK => ?_ | refine Qg ?_ | refine Qh ?_ | refine Qa ?_ | ((first | refine Qk ⟨_, rfl, fun hc => ?_, fun hc => ?_⟩ | refine QM (fun hc => ?_) (fun hc => ?_) | refine QN (fun hc => ?_) (fun hc => ?_)) <;> first | exact Bool.noConfusion hc | ((try simp only [znz] at hc); first | exact znf | skip)) | refine Qo ?_ | refine Qj ?_ | simp (maxSteps := 1000000) only [go_sem, Nat.reduceAdd, Nat.reduceMul, Nat.reduceEqDiff, Nat.reduceLeDiff, Nat.reduceLT, Nat.reduceSub, Int.reduceEq, Int.reduceBEq, Int.reduceLT, Int.reduceLE, Int.reduceAdd, Int.reduceToNat, reduceIte, reduceCtorEq, Int.toNat_natCast, List.getElem?_map, hget, hw, e1, Qs.v, Qs.cells] | (refine hK _ ?_; clear hK; clear K') | refine And.intro ?_ ?_ | (apply QS; (focus first | exact hpy.b)) | exact zlo | omega | exact zms)
      refine QQ _ rfl ?_; simp only [go_sem, Nat.reduceEqDiff, Nat.reduceAdd, reduceIte, reduceCtorEq]
      rw [← hinv]; simp [ada, hy]
    · have hy' : p y = false := by simpa using hy
      rw [hy'] at hpy
      repeat' (first | refine Qf fun K' hK => ?_ | refine Qi fun K' hK => ?_ | refine Qg ?_ | refine Qh ?_ | refine Qa ?_ | ((first | refine Qk ⟨_, rfl, fun hc => ?_, fun hc => ?_⟩ | refine QM (fun hc => ?_) (fun hc => ?_) | refine QN (fun hc => ?_) (fun hc => ?_)) <;> first | exact Bool.noConfusion hc | ((try simp only [znz] at hc); first | exact znf | skip)) | refine Qo ?_ | refine Qj ?_ | simp (maxSteps := 1000000) only [go_sem, Nat.reduceAdd, Nat.reduceMul, Nat.reduceEqDiff, Nat.reduceLeDiff, Nat.reduceLT, Nat.reduceSub, Int.reduceEq, Int.reduceBEq, Int.reduceLT, Int.reduceLE, Int.reduceAdd, Int.reduceToNat, reduceIte, reduceCtorEq, Int.toNat_natCast, List.getElem?_map, hget, hw, e1, Qs.v, Qs.cells] | (refine hK _ ?_; clear hK; clear K') | refine And.intro ?_ ?_ | (apply QS; (focus first | exact hpy.b)) | exact zlo | omega | exact zms)
      refine hL _ (k + 1) (by simp only [Nat.reduceAdd, ovT, XS, Nat.reduceEqDiff, reduceIte, YW, XB, xJ, u32, u33, u34, u35, u36, u37, u38, u39, and_self, and_true, true_and]) ⟨by omega, ?_⟩ (by omega) (fun a ha => by simp only [u32, u33, u34, u35, u36, u37, u38, u39]; repeat rw [if_neg (by omega)])
      rw [hr, ← hinv, ada, if_neg hy]
def YA (Ym : Nat) : AC := QR [0, 1] (.reg [mc 4 (V.bool false)]) (QR [4] (.reg [mv 5 0, mv 6 1, cl 7 Ym [5, 6], bc 8 .geq 7 (V.int 0), mv 4 8]) (.ret)) def r_slices_ContainsFunc___api_Keep_api_Keep : List XY := [.tmp 4]
def Yv (Γ : Env) (f : Nat) : Prop := ∀ (xs : List Qs) (g : Nat) (p : Qs → Bool) (hp : ∀ x, EvN Γ g [Qs.v x] (V.bool (p x))) (hl : xs.length < 2 ^ 62), EvN Γ f [.sl 2 (xs.map Qs.v), .clo g []] (V.bool (xs.any p))
theorem Ws {Γ : Env} {f Ym : Nat} (h : Has Γ.P f 9 (YA Ym) r_slices_ContainsFunc___api_Keep_api_Keep) (XH : YE Γ Ym) : Yv Γ f := by
  intro xs g p hp hl
  refine JD h (by simp) (by simp only [V.closed, Qq, V.noSl, Yq, and_self, and_true, true_and]) (by simp only [V.closed, Qq, V.noSl, Yq, and_self, and_true, true_and]) fun C hC hm => ?_
  subst hC
  unfold YA
  have hi := (XH xs g p hp hl).b
  have e1 := xQ p xs 0
  repeat' (first | refine Qf fun K' hK => ?_ | refine Qi fun K' hK => ?_ | refine Qg ?_ | refine Qh ?_ | refine Qa ?_ | ((first | refine Qk ⟨_, rfl, fun hc => ?_, fun hc => ?_⟩ | refine QM (fun hc => ?_) (fun hc => ?_) | refine QN (fun hc => ?_) (fun hc => ?_)) <;> first | exact Bool.noConfusion hc | ((try simp only [znz] at hc); first | exact znf | skip)) | refine Qo ?_ | refine Qj ?_ | simp (maxSteps := 1000000) only [go_sem, Nat.reduceAdd, Nat.reduceMul, Nat.reduceEqDiff, Nat.reduceLeDiff, Nat.reduceLT, Nat.reduceSub, Int.reduceEq, Int.reduceBEq, Int.reduceLT, Int.reduceLE, Int.reduceAdd, Int.reduceToNat, reduceIte, reduceCtorEq, e1] | (refine hK _ ?_; clear hK; clear K') | refine And.intro ?_ ?_ | (apply QS; (focus first | exact hi | exact (XH _ _ _ zsd zsd).b)) | exact zlo | omega | exact zms)
  all_goals first | (refine QQ _ rfl ?_; simp only [go_sem, Nat.reduceEqDiff, Nat.reduceAdd, reduceIte, reduceCtorEq]; done) | trace_state
def j9 (J8 Vj J9 Vi : Nat) : AC := QR [1] (.reg [xo 1 (.box true 2 (.t 0)), mc 2 (V.int 0)]) (QR [1, 3] (.reg [fa 4 0 1, ld 5 1 4, xo 6 (.call J8 [(.t 5), (.c (.clo Vj []))]), mv 7 6, xg 8 (.faddr 1 (.t 1)) 7 false, xg 9 (.load false 1 (.t 8)) 7 false, xg 10 (.call J9 [(.t 9), (.c (.clo Vi []))]) 7 false, xo 11 (.pick (.t 7) (.c (V.bool true)) (.t 10)), mv 3 11]) (QR [] (QR [24] (.reg [mv 12 3, mv 13 12, xg 14 (.faddr 0 (.t 1)) 13 false, xg 15 (.load false 1 (.t 14)) 13 false, xg 16 (.lenL (.t 15)) 13 false, xg 17 (.bin .gtr (.t 16) (.c (V.int 60))) 13 false, xo 18 (.pick (.t 13) (.c (V.bool true)) (.t 17)), mv 19 18, xg 20 (.faddr 1 (.t 1)) 19 false, xg 21 (.load false 1 (.t 20)) 19 false, xg 22 (.lenL (.t 21)) 19 false, xg 23 (.bin .gtr (.t 22) (.c (V.int 60))) 19 false, xo 24 (.pick (.t 19) (.c (V.bool true)) (.t 23))]) (.cond (.t 24) (QR [2] (.reg [mc 2 (V.int 25)]) (.ret)) (.skip))) (QR [2] (.reg [mc 2 (V.int 0)]) (.ret)))) def r_rule_Check : List XY := [.tmp 2]
def Ub (Γ : Env) (f : Nat) : Prop := ∀ (rs : List Qp) (ks : List Qs) (hr : rs.length < 2 ^ 40) (hk : ks.length < 2 ^ 40), EvN Γ f [ae0 rs ks] (V.int (WQ rs ks))
theorem abt {Γ : Env} {f J8 Vj J9 Vi : Nat} (h : Has Γ.P f 25 (j9 J8 Vj J9 Vi) r_rule_Check) (Jx : Yu Γ J8) (Wz : KO Γ Vj) (Jy : Yv Γ J9) (Wy : KN Γ Vi) : Ub Γ f := by
  intro rs ks hr hk
  refine JD h (by simp) (by simp only [V.closed, Qq, V.noSl, Yq, and_self, and_true, true_and]) (by simp only [V.closed, Qq, V.noSl, Yq, and_self, and_true, true_and]) fun C hC hm => ?_
  subst hC
  unfold j9
  have c1 := (Jx rs Vj (fun r => !J5 r) (fun r => Wz r) (by omega)).b
  have c2 := (Jy ks Vi (fun r => !XZ r) (fun r => Wy r) (by omega)).b
  rw [aeX] at c1 c2
  have e3 : decide ((((rs.map Qp.v).length : Nat) : Int) > 60) = !decide (rs.length ≤ 60) := by
    rw [List.length_map, ← decide_not]; apply decide_eq_decide.2; omega
  have e4 : decide ((((ks.map Qs.v).length : Nat) : Int) > 60) = !decide (ks.length ≤ 60) := by
    rw [List.length_map, ← decide_not]; apply decide_eq_decide.2; omega
  rw [WQ]
  generalize rs.all J5 = b1 at *
  generalize ks.all XZ = b2 at *
  generalize decide (rs.length ≤ 60) = b3 at *
  generalize decide (ks.length ≤ 60) = b4 at *
  rcases b1 with _ | _
  · repeat' (first | refine Qf fun K' hK => ?_ | refine Qi fun K' hK => ?_ | refine Qg ?_ | refine Qh ?_ | refine Qa ?_ | ((first | refine Qk ⟨_, rfl, fun hc => ?_, fun hc => ?_⟩ | refine QM (fun hc => ?_) (fun hc => ?_) | refine QN (fun hc => ?_) (fun hc => ?_)) <;> first | exact Bool.noConfusion hc | ((try simp only [znz] at hc); first | exact znf | skip)) | refine Qo ?_ | refine Qj ?_ | simp (maxSteps := 1000000) only [go_sem, Nat.reduceAdd, Nat.reduceMul, Nat.reduceEqDiff, Nat.reduceLeDiff, Nat.reduceLT, Nat.reduceSub, Int.reduceEq, Int.reduceBEq, Int.reduceLT, Int.reduceLE, Int.reduceAdd, Int.reduceToNat, reduceIte, reduceCtorEq] | (refine hK _ ?_; clear hK; clear K') | refine And.intro ?_ ?_ | (apply QS; (focus first | exact c1 | exact (Jx _ _ _ zsd zsd).b | exact (Wz _).b | exact (Jy _ _ _ zsd zsd).b | exact (Wy _).b)) | exact zlo | omega | exact zms)
    all_goals first | (refine QQ _ rfl ?_; simp only [go_sem, Nat.reduceEqDiff, Nat.reduceAdd, reduceIte, reduceCtorEq]; done) | (refine QQ _ rfl ?_; simp only [go_sem, Nat.reduceEqDiff, Nat.reduceAdd, reduceIte, reduceCtorEq]; simp; done) | trace_state
  rcases b2 with _ | _
  · repeat' (first | refine Qf fun K' hK => ?_ | refine Qi fun K' hK => ?_ | refine Qg ?_ | refine Qh ?_ | refine Qa ?_ | ((first | refine Qk ⟨_, rfl, fun hc => ?_, fun hc => ?_⟩ | refine QM (fun hc => ?_) (fun hc => ?_) | refine QN (fun hc => ?_) (fun hc => ?_)) <;> first | exact Bool.noConfusion hc | ((try simp only [znz] at hc); first | exact znf | skip)) | refine Qo ?_ | refine Qj ?_ | simp (maxSteps := 1000000) only [go_sem, Nat.reduceAdd, Nat.reduceMul, Nat.reduceEqDiff, Nat.reduceLeDiff, Nat.reduceLT, Nat.reduceSub, Int.reduceEq, Int.reduceBEq, Int.reduceLT, Int.reduceLE, Int.reduceAdd, Int.reduceToNat, reduceIte, reduceCtorEq] | (refine hK _ ?_; clear hK; clear K') | refine And.intro ?_ ?_ | (apply QS; (focus first | exact c1 | exact c2 | exact (Jx _ _ _ zsd zsd).b | exact (Wz _).b | exact (Jy _ _ _ zsd zsd).b | exact (Wy _).b)) | exact zlo | omega | exact zms)
    all_goals first | (refine QQ _ rfl ?_; simp only [go_sem, Nat.reduceEqDiff, Nat.reduceAdd, reduceIte, reduceCtorEq]; done) | (refine QQ _ rfl ?_; simp only [go_sem, Nat.reduceEqDiff, Nat.reduceAdd, reduceIte, reduceCtorEq]; simp; done) | trace_state
  rcases b3 with _ | _
  · repeat' (first | refine Qf fun K' hK => ?_ | refine Qi fun K' hK => ?_ | refine Qg ?_ | refine Qh ?_ | refine Qa ?_ | ((first | refine Qk ⟨_, rfl, fun hc => ?_, fun hc => ?_⟩ | refine QM (fun hc => ?_) (fun hc => ?_) | refine QN (fun hc => ?_) (fun hc => ?_)) <;> first | exact Bool.noConfusion hc | ((try simp only [znz] at hc); first | exact znf | skip)) | refine Qo ?_ | refine Qj ?_ | simp (maxSteps := 1000000) only [go_sem, Nat.reduceAdd, Nat.reduceMul, Nat.reduceEqDiff, Nat.reduceLeDiff, Nat.reduceLT, Nat.reduceSub, Int.reduceEq, Int.reduceBEq, Int.reduceLT, Int.reduceLE, Int.reduceAdd, Int.reduceToNat, reduceIte, reduceCtorEq, e3] | (refine hK _ ?_; clear hK; clear K') | refine And.intro ?_ ?_ | (apply QS; (focus first | exact c1 | exact c2 | exact (Jx _ _ _ zsd zsd).b | exact (Wz _).b | exact (Jy _ _ _ zsd zsd).b | exact (Wy _).b)) | exact zlo | omega | exact zms)
    all_goals first | (refine QQ _ rfl ?_; simp only [go_sem, Nat.reduceEqDiff, Nat.reduceAdd, reduceIte, reduceCtorEq]; done) | (refine QQ _ rfl ?_; simp only [go_sem, Nat.reduceEqDiff, Nat.reduceAdd, reduceIte, reduceCtorEq]; simp; done) | trace_state
  rcases b4 with _ | _
  · repeat' (first | refine Qf fun K' hK => ?_ | refine Qi fun K' hK => ?_ | refine Qg ?_ | refine Qh ?_ | refine Qa ?_ | ((first | refine Qk ⟨_, rfl, fun hc => ?_, fun hc => ?_⟩ | refine QM (fun hc => ?_) (fun hc => ?_) | refine QN (fun hc => ?_) (fun hc => ?_)) <;> first | exact Bool.noConfusion hc | ((try simp only [znz] at hc); first | exact znf | skip)) | refine Qo ?_ | refine Qj ?_ | simp (maxSteps := 1000000) only [go_sem, Nat.reduceAdd, Nat.reduceMul, Nat.reduceEqDiff, Nat.reduceLeDiff, Nat.reduceLT, Nat.reduceSub, Int.reduceEq, Int.reduceBEq, Int.reduceLT, Int.reduceLE, Int.reduceAdd, Int.reduceToNat, reduceIte, reduceCtorEq, e3, e4] | (refine hK _ ?_; clear hK; clear K') | refine And.intro ?_ ?_ | (apply QS; (focus first | exact c1 | exact c2 | exact (Jx _ _ _ zsd zsd).b | exact (Wz _).b | exact (Jy _ _ _ zsd zsd).b | exact (Wy _).b)) | exact zlo | omega | exact zms)
    all_goals first | (refine QQ _ rfl ?_; simp only [go_sem, Nat.reduceEqDiff, Nat.reduceAdd, reduceIte, reduceCtorEq]; done) | (refine QQ _ rfl ?_; simp only [go_sem, Nat.reduceEqDiff, Nat.reduceAdd, reduceIte, reduceCtorEq]; simp; done) | trace_state
  · repeat' (first | refine Qf fun K' hK => ?_ | refine Qi fun K' hK => ?_ | refine Qg ?_ | refine Qh ?_ | refine Qa ?_ | ((first | refine Qk ⟨_, rfl, fun hc => ?_, fun hc => ?_⟩ | refine QM (fun hc => ?_) (fun hc => ?_) | refine QN (fun hc => ?_) (fun hc => ?_)) <;> first | exact Bool.noConfusion hc | ((try simp only [znz] at hc); first | exact znf | skip)) | refine Qo ?_ | refine Qj ?_ | simp (maxSteps := 1000000) only [go_sem, Nat.reduceAdd, Nat.reduceMul, Nat.reduceEqDiff, Nat.reduceLeDiff, Nat.reduceLT, Nat.reduceSub, Int.reduceEq, Int.reduceBEq, Int.reduceLT, Int.reduceLE, Int.reduceAdd, Int.reduceToNat, reduceIte, reduceCtorEq, e3, e4] | (refine hK _ ?_; clear hK; clear K') | refine And.intro ?_ ?_ | (apply QS; (focus first | exact c1 | exact c2 | exact (Jx _ _ _ zsd zsd).b | exact (Wz _).b | exact (Jy _ _ _ zsd zsd).b | exact (Wy _).b)) | exact zlo | omega | exact zms)
    all_goals first | (refine QQ _ rfl ?_; simp only [go_sem, Nat.reduceEqDiff, Nat.reduceAdd, reduceIte, reduceCtorEq]; done) | (refine QQ _ rfl ?_; simp only [go_sem, Nat.reduceEqDiff, Nat.reduceAdd, reduceIte, reduceCtorEq]; simp; done) | trace_state
end Av
end
section
set_option linter.unusedSimpArgs false
set_option linter.unusedVariables false
set_option maxRecDepth 10000
set_option maxHeartbeats 4000000
namespace Av
open Go
attribute [local irreducible] AWp XV WG WJ awS awC VK awQ V4 Jq Xf VH awR Xk awB okR XT ris
def ac9 (ws : WS) : Qs × Bool × WS :=
  (⟨jZ (Xo (isL [107, 101, 101, 112] ws).2).1, (jV (Xo (Xo (isL [107, 101, 101, 112] ws).2).2).1).1⟩,
    (isL [107, 101, 101, 112] ws).1 && decide (jZ (Xo (isL [107, 101, 101, 112] ws).2).1 > 0) && (jV (Xo (Xo (isL [107, 101, 101, 112] ws).2).2).1).2 && (Xo (Xo (isL [107, 101, 101, 112] ws).2).2).2.isEmpty,
    (Xo (Xo (isL [107, 101, 101, 112] ws).2).2).2)
def qZ : List AO := [xo 24 (.load true 2 (.t 4)), mv 25 7, mv 26 25, mg 27 5 26 true, xo 28 (.pick (.t 26) (.t 27) (.c (V.bool false))), mv 29 28, mg 30 6 29 true, xo 31 (.pick (.t 29) (.t 30) (.c (V.bool false))), mv 32 31, mg 33 0 32 true, xg 34 (.nilck (.t 33)) 32 true, xg 35 (.faddr 0 (.t 34)) 32 true, xg 36 (.load false 1 (.t 35)) 32 true, xg 37 (.lenL (.t 36)) 32 true, xg 38 (.bin .eql (.t 37) (.c (V.int 0))) 32 true, xo 39 (.pick (.t 32) (.t 38) (.c (V.bool false))), xs 2 2 24, mv 3 39]
def jz : List (List Nat) := [[], [], [1], [2], [2, 3], [4, 2], [5], [5, 6], [7, 5], [8], [9, 8], [10, 8], [11, 8], [12, 8], [13, 8], [8, 14], [0, 8, 0], [15, 16, 0, 1, 2, 3, 4, 5, 6, 7, 8, 9, 10, 11, 12, 13, 14, 15, 16]]
def qT : OT := .one 1 (.one 2 (.one 3 (.one 4 (.one 5 (.one 6 (.one 7 (.one 8 (.one 9 (.one 10 (.one 11 (.or 0 (.or 12 (.one 13 (.one 14 (.one 15 (.one 16 (.one 17 (.done)))))) (.or 16 (.one 12 (.one 13 (.one 14 (.one 15 (.one 17 (.done)))))) (.done))) (.or 12 (.one 0 (.one 13 (.one 14 (.one 15 (.one 16 (.one 17 (.done))))))) (.done)))))))))))))
def WV : OP := .one 1 false [] (mv 25 7) (.one 2 false [] (mv 26 25) (.one 3 false [] (mg 27 5 26 true) (.one 4 false [] (xo 28 (.pick (.t 26) (.t 27) (.c (V.bool false)))) (.one 5 false [] (mv 29 28) (.one 6 false [] (mg 30 6 29 true) (.one 7 false [] (xo 31 (.pick (.t 29) (.t 30) (.c (V.bool false)))) (.one 8 false [] (mv 32 31) (.one 9 false [] (mg 33 0 32 true) (.one 10 false [] (xg 34 (.nilck (.t 33)) 32 true) (.one 11 false [] (xg 35 (.faddr 0 (.t 34)) 32 true) (.or 0 true [] (xo 24 (.load true 2 (.t 4))) (.or 12 true [] (xg 36 (.load false 1 (.t 35)) 32 true) (.one 13 false [] (xg 37 (.lenL (.t 36)) 32 true) (.one 14 false [] (xg 38 (.bin .eql (.t 37) (.c (V.int 0))) 32 true) (.one 15 false [] (xo 39 (.pick (.t 32) (.t 38) (.c (V.bool false)))) (.one 16 true [] (xs 2 2 24) (.one 17 false [] (mv 3 39) (.done)))))) (.or 16 true [] (xs 2 2 24) (.one 12 true [] (xg 36 (.load false 1 (.t 35)) 32 true) (.one 13 false [] (xg 37 (.lenL (.t 36)) 32 true) (.one 14 false [] (xg 38 (.bin .eql (.t 37) (.c (V.int 0))) 32 true) (.one 15 false [] (xo 39 (.pick (.t 32) (.t 38) (.c (V.bool false)))) (.one 17 false [] (mv 3 39) (.done)))))) (.done))) (.or 12 true [] (xg 36 (.load false 1 (.t 35)) 32 true) (.one 0 true [] (xo 24 (.load true 2 (.t 4))) (.one 13 false [] (xg 37 (.lenL (.t 36)) 32 true) (.one 14 false [] (xg 38 (.bin .eql (.t 37) (.c (V.int 0))) 32 true) (.one 15 false [] (xo 39 (.pick (.t 32) (.t 38) (.c (V.bool false)))) (.one 16 true [] (xs 2 2 24) (.one 17 false [] (mv 3 39) (.done))))))) (.done)))))))))))))
theorem X6 : okR (qZ) jz [0, 12] qT = true := by kernel_rfl
theorem X3 : XT (ris (qZ) jz [0, 12]) qT = WV := by kernel_rfl def c_rule_keep (J7 Jz Y4 Yr : Nat) : AC := QR [0, 2] (.reg [xo 2 (.alloc [.val (.int .i64 0), .val (.int .i64 0)]), mc 3 (V.bool false)]) (QR [0, 2, 4] (.reg [xo 4 (.alloc [.val (.int .i64 0), .val (.int .i64 0)])]) (QR [0, 2, 4] (.reg [mc 5 (V.bool false), mc 6 (V.bool false)]) (QR [0, 2, 4, 7] (.reg [mv 8 0, xo 9 (.call J7 [(.t 8), (.c (V.str [107, 101, 101, 112]))]), mv 7 9]) (QR [0, 2, 4, 5, 7] (.reg [mv 11 0, xo 12 (.mkfn (.m Jz) [(.t 11)]), cl 13 Y4 [12], mv 10 13, ex 14 10 0, ex 15 10 1, fa 16 0 4, xs 1 16 14, mv 5 15]) (QR [0, 2, 4, 5, 6, 7] (.reg [mv 18 0, xo 19 (.mkfn (.m Jz) [(.t 18)]), cl 20 Yr [19], mv 17 20, ex 21 17 0, ex 22 17 1, fa 23 1 4, xs 1 23 21, mv 6 22]) (QR [2, 3] (yO [0, 12] qT (WV) (qZ) jz) (.ret))))))) def r_rule_keep : List XY := [.cell 2 true 2, .tmp 3]
def yr (Γ : Env) (f : Nat) : Prop := ∀ (ws : WS) (hs : LSz ws), EvD Γ f [] (jg ws) (.tup [(ac9 ws).1.v, V.bool (ac9 ws).2.1]) (jg (ac9 ws).2.2)
theorem acu {Γ : Env} {f J7 Jz Y4 Yr : Nat} (h : Has Γ.P f 40 (c_rule_keep J7 Jz Y4 Yr) r_rule_keep) (QK : Ww Γ J7) (QD : YX Γ Jz) (JQ : V9 Γ Y4) (J2 : UC Γ Yr) : yr Γ f := by
  intro ws hs
  refine WO h (by simp) (⟨Qs.cells_closed _, trivial, trivial⟩) (by first | exact J0 _ _ | simp only [V.closed, Qq, and_self, and_true, true_and]) (by first | exact J0 _ _ | simp only [V.closed, Qq, and_self, and_true, true_and]) fun C hC hm => ?_
  subst hC
  unfold c_rule_keep
  have n1 := QK ws [107, 101, 101, 112] hs.1
  have u1 := hs.suf (vt [107, 101, 101, 112] ws)
  simp only [ac9]
  generalize isL [107, 101, 101, 112] ws = p1 at *
  obtain ⟨a, v⟩ := p1
  simp only at n1 u1 ⊢
  have n2 := JQ v Jz QD u1.1
  have u2 := u1.suf (vn v)
  generalize Xo v = p2 at *
  obtain ⟨x, u⟩ := p2
  simp only at n2 u2 ⊢
  have n3 := J2 u Jz QD u2.1 u2.2
  generalize Xo u = p3 at *
  obtain ⟨y, z⟩ := p3
  simp only at n3 ⊢
  generalize jV y = q at *
  obtain ⟨n, ok⟩ := q
  have hem := aca z
  simp only [acS, Qs.v, Qs.cells] at n3 ⊢
  generalize jZ x = g at *
  generalize decide (g > 0) = gb at *
  rcases a with _ | _
  · simp only [Bool.false_and]
    repeat' (first | refine Qf fun K' hK => ?_ | refine Qi fun K' hK => ?_ | refine Qb 18 (fun _ => false) rfl (X6) (X3) fun K' hK => ?_ | refine Qc 18 (fun _ => false) rfl (X6) (X3) fun K' hK => ?_ | refine Qg ?_ | refine Qh ?_ | refine Qa ?_ | ((first | refine Qk ⟨_, rfl, fun hc => ?_, fun hc => ?_⟩ | refine QM (fun hc => ?_) (fun hc => ?_) | refine QN (fun hc => ?_) (fun hc => ?_)) <;> first | exact Bool.noConfusion hc | ((try simp only [znz] at hc); first | exact znf | skip)) | refine Qo ?_ | refine Qj ?_ | simp (maxSteps := 1000000) only [go_sem, Nat.reduceAdd, Nat.reduceMul, Nat.reduceEqDiff, Nat.reduceLeDiff, Nat.reduceLT, Nat.reduceSub, Int.reduceEq, Int.reduceBEq, Int.reduceLT, Int.reduceLE, Int.reduceAdd, Int.reduceToNat, reduceIte, reduceCtorEq, WV] | (refine hK _ ?_; clear hK; clear K') | refine And.intro ?_ ?_ | (apply Yd; (focus exact rfl); (focus first | exact n1 | exact (QK _ _ zsd) | exact (QD _ zsd)); (focus exact rfl); (focus exact rfl)) | (apply JP; (focus exact rfl); (focus first | exact rfl | decide); (focus first | exact rfl | decide); (focus first | exact n1 | exact (QK _ _ zsd) | exact (QD _ zsd)); (focus exact rfl); (focus exact rfl); (focus first | exact rfl | decide)) | (apply UH; (focus exact rfl); (focus first | exact n2 | exact n3 | exact (JQ _ _ zsd zsd) | exact (J2 _ _ zsd zsd zsd)); (focus exact rfl)) | exact zlo | omega | exact zms)
    all_goals first | (refine WP _ rfl rfl (by simp only [V.closed, Qq, and_self, and_true, true_and]) ?_; simp only [go_sem, Nat.reduceEqDiff, Nat.reduceAdd, reduceIte, reduceCtorEq]; done) | trace_state
  rcases gb with _ | _
  · simp only [Bool.false_and, Bool.and_false]
    repeat' (first | refine Qf fun K' hK => ?_ | refine Qi fun K' hK => ?_ | refine Qb 18 (fun _ => false) rfl (X6) (X3) fun K' hK => ?_ | refine Qc 18 (fun _ => false) rfl (X6) (X3) fun K' hK => ?_ | refine Qg ?_ | refine Qh ?_ | refine Qa ?_ | ((first | refine Qk ⟨_, rfl, fun hc => ?_, fun hc => ?_⟩ | refine QM (fun hc => ?_) (fun hc => ?_) | refine QN (fun hc => ?_) (fun hc => ?_)) <;> first | exact Bool.noConfusion hc | ((try simp only [znz] at hc); first | exact znf | skip)) | refine Qo ?_ | refine Qj ?_ | simp (maxSteps := 1000000) only [go_sem, Nat.reduceAdd, Nat.reduceMul, Nat.reduceEqDiff, Nat.reduceLeDiff, Nat.reduceLT, Nat.reduceSub, Int.reduceEq, Int.reduceBEq, Int.reduceLT, Int.reduceLE, Int.reduceAdd, Int.reduceToNat, reduceIte, reduceCtorEq, WV] | (refine hK _ ?_; clear hK; clear K') | refine And.intro ?_ ?_ | (apply Yd; (focus exact rfl); (focus first | exact n1 | exact (QK _ _ zsd) | exact (QD _ zsd)); (focus exact rfl); (focus exact rfl)) | (apply JP; (focus exact rfl); (focus first | exact rfl | decide); (focus first | exact rfl | decide); (focus first | exact n1 | exact (QK _ _ zsd) | exact (QD _ zsd)); (focus exact rfl); (focus exact rfl); (focus first | exact rfl | decide)) | (apply UH; (focus exact rfl); (focus first | exact n2 | exact n3 | exact (JQ _ _ zsd zsd) | exact (J2 _ _ zsd zsd zsd)); (focus exact rfl)) | exact zlo | omega | exact zms)
    all_goals first | (refine WP _ rfl rfl (by simp only [V.closed, Qq, and_self, and_true, true_and]) ?_; simp only [go_sem, Nat.reduceEqDiff, Nat.reduceAdd, reduceIte, reduceCtorEq]; done) | trace_state
  rcases ok with _ | _
  · simp only [Bool.false_and, Bool.and_false]
    repeat' (first | refine Qf fun K' hK => ?_ | refine Qi fun K' hK => ?_ | refine Qb 18 (fun _ => false) rfl (X6) (X3) fun K' hK => ?_ | refine Qc 18 (fun _ => false) rfl (X6) (X3) fun K' hK => ?_ | refine Qg ?_ | refine Qh ?_ | refine Qa ?_ | ((first | refine Qk ⟨_, rfl, fun hc => ?_, fun hc => ?_⟩ | refine QM (fun hc => ?_) (fun hc => ?_) | refine QN (fun hc => ?_) (fun hc => ?_)) <;> first | exact Bool.noConfusion hc | ((try simp only [znz] at hc); first | exact znf | skip)) | refine Qo ?_ | refine Qj ?_ | simp (maxSteps := 1000000) only [go_sem, Nat.reduceAdd, Nat.reduceMul, Nat.reduceEqDiff, Nat.reduceLeDiff, Nat.reduceLT, Nat.reduceSub, Int.reduceEq, Int.reduceBEq, Int.reduceLT, Int.reduceLE, Int.reduceAdd, Int.reduceToNat, reduceIte, reduceCtorEq, WV] | (refine hK _ ?_; clear hK; clear K') | refine And.intro ?_ ?_ | (apply Yd; (focus exact rfl); (focus first | exact n1 | exact (QK _ _ zsd) | exact (QD _ zsd)); (focus exact rfl); (focus exact rfl)) | (apply JP; (focus exact rfl); (focus first | exact rfl | decide); (focus first | exact rfl | decide); (focus first | exact n1 | exact (QK _ _ zsd) | exact (QD _ zsd)); (focus exact rfl); (focus exact rfl); (focus first | exact rfl | decide)) | (apply UH; (focus exact rfl); (focus first | exact n2 | exact n3 | exact (JQ _ _ zsd zsd) | exact (J2 _ _ zsd zsd zsd)); (focus exact rfl)) | exact zlo | omega | exact zms)
    all_goals first | (refine WP _ rfl rfl (by simp only [V.closed, Qq, and_self, and_true, true_and]) ?_; simp only [go_sem, Nat.reduceEqDiff, Nat.reduceAdd, reduceIte, reduceCtorEq]; done) | trace_state
  · simp only [Bool.true_and]
    repeat' (first | refine Qf fun K' hK => ?_ | refine Qi fun K' hK => ?_ | refine Qb 18 (fun _ => false) rfl (X6) (X3) fun K' hK => ?_ | refine Qc 18 (fun _ => false) rfl (X6) (X3) fun K' hK => ?_ | refine Qg ?_ | refine Qh ?_ | refine Qa ?_ | ((first | refine Qk ⟨_, rfl, fun hc => ?_, fun hc => ?_⟩ | refine QM (fun hc => ?_) (fun hc => ?_) | refine QN (fun hc => ?_) (fun hc => ?_)) <;> first | exact Bool.noConfusion hc | ((try simp only [znz] at hc); first | exact znf | skip)) | refine Qo ?_ | refine Qj ?_ | simp (maxSteps := 1000000) only [go_sem, Nat.reduceAdd, Nat.reduceMul, Nat.reduceEqDiff, Nat.reduceLeDiff, Nat.reduceLT, Nat.reduceSub, Int.reduceEq, Int.reduceBEq, Int.reduceLT, Int.reduceLE, Int.reduceAdd, Int.reduceToNat, reduceIte, reduceCtorEq, hem, WV] | (refine hK _ ?_; clear hK; clear K') | refine And.intro ?_ ?_ | (apply Yd; (focus exact rfl); (focus first | exact n1 | exact (QK _ _ zsd) | exact (QD _ zsd)); (focus exact rfl); (focus exact rfl)) | (apply JP; (focus exact rfl); (focus first | exact rfl | decide); (focus first | exact rfl | decide); (focus first | exact n1 | exact (QK _ _ zsd) | exact (QD _ zsd)); (focus exact rfl); (focus exact rfl); (focus first | exact rfl | decide)) | (apply UH; (focus exact rfl); (focus first | exact n2 | exact n3 | exact (JQ _ _ zsd zsd) | exact (J2 _ _ zsd zsd zsd)); (focus exact rfl)) | exact zlo | omega | exact zms)
    all_goals first | (refine WP _ rfl rfl (by simp only [V.closed, Qq, and_self, and_true, true_and]) ?_; simp only [go_sem, Nat.reduceEqDiff, Nat.reduceAdd, reduceIte, reduceCtorEq]; done) | trace_state
def yP (s : List UInt8) (rs : List Qp) (ks : List Qs) : Bool × List Qp × List Qs :=
  if (aaa (Y8 32 s)).2.1 = true then (true, rs ++ [(aaa (Y8 32 s)).1], ks)
  else if (ac9 (Y8 32 s)).2.1 = true then (true, rs, ks ++ [(ac9 (Y8 32 s)).1]) else (false, rs, ks)
def qY : List AO := [mv 20 0, mv 21 0, nk 22 21, fa 23 0 22, ld 24 1 23, xo 25 (.load true 6 (.t 6)), xo 26 (.bslice 1 6 true [(.bool false), (.int .i64 0), (.int .i64 0), (.int .i64 0), (.int .i64 0), (.int .i64 0)] [(0, (.t 25))]), xo 27 (.append 6 48 [(.bool false), (.int .i64 0), (.int .i64 0), (.int .i64 0), (.int .i64 0), (.int .i64 0)] (.t 24) (.t 26)), nk 28 20, fa 29 0 28, xs 1 29 27]
def jy : List (List Nat) := [[], [], [1], [2], [3], [], [5], [4, 6], [0, 0, 1, 2, 3, 4, 5, 6, 7], [8, 0, 1, 2, 3, 4, 5, 6, 7], [9, 7, 7, 0, 1, 2, 3, 4, 5, 6, 7]]
def qS : OT := .one 0 (.one 1 (.one 2 (.one 3 (.or 4 (.or 5 (.one 6 (.one 7 (.one 8 (.one 9 (.one 10 (.done)))))) (.done)) (.or 5 (.one 4 (.one 6 (.one 7 (.one 8 (.one 9 (.one 10 (.done))))))) (.done))))))
def VT : OP := .one 0 false [] (mv 20 0) (.one 1 false [] (mv 21 0) (.one 2 false [] (nk 22 21) (.one 3 false [] (fa 23 0 22) (.or 4 true [] (ld 24 1 23) (.or 5 true [] (xo 25 (.load true 6 (.t 6))) (.one 6 false [] (xo 26 (.bslice 1 6 true [(.bool false), (.int .i64 0), (.int .i64 0), (.int .i64 0), (.int .i64 0), (.int .i64 0)] [(0, (.t 25))])) (.one 7 true [6] (xo 27 (.append 6 48 [(.bool false), (.int .i64 0), (.int .i64 0), (.int .i64 0), (.int .i64 0), (.int .i64 0)] (.t 24) (.t 26))) (.one 8 false [] (nk 28 20) (.one 9 false [] (fa 29 0 28) (.one 10 true [7, 6] (xs 1 29 27) (.done)))))) (.done)) (.or 5 true [] (xo 25 (.load true 6 (.t 6))) (.one 4 true [] (ld 24 1 23) (.one 6 false [] (xo 26 (.bslice 1 6 true [(.bool false), (.int .i64 0), (.int .i64 0), (.int .i64 0), (.int .i64 0), (.int .i64 0)] [(0, (.t 25))])) (.one 7 true [6] (xo 27 (.append 6 48 [(.bool false), (.int .i64 0), (.int .i64 0), (.int .i64 0), (.int .i64 0), (.int .i64 0)] (.t 24) (.t 26))) (.one 8 false [] (nk 28 20) (.one 9 false [] (fa 29 0 28) (.one 10 true [7, 6] (xs 1 29 27) (.done))))))) (.done))))))
theorem WY : okR (qY) jy [4, 5] qS = true := by kernel_rfl
theorem WT : XT (ris (qY) jy [4, 5]) qS = VT := by kernel_rfl
def qX : List AO := [mv 38 0, mv 39 0, nk 40 39, fa 41 1 40, ld 42 1 41, xo 43 (.load true 2 (.t 8)), xo 44 (.bslice 1 2 true [(.int .i64 0), (.int .i64 0)] [(0, (.t 43))]), xo 45 (.append 2 16 [(.int .i64 0), (.int .i64 0)] (.t 42) (.t 44)), nk 46 38, fa 47 1 46, xs 1 47 45]
def jx : List (List Nat) := [[], [], [1], [2], [3], [], [5], [4, 6], [0, 0, 1, 2, 3, 4, 5, 6, 7], [8, 0, 1, 2, 3, 4, 5, 6, 7], [9, 7, 7, 0, 1, 2, 3, 4, 5, 6, 7]]
def qR : OT := .one 0 (.one 1 (.one 2 (.one 3 (.or 4 (.or 5 (.one 6 (.one 7 (.one 8 (.one 9 (.one 10 (.done)))))) (.done)) (.or 5 (.one 4 (.one 6 (.one 7 (.one 8 (.one 9 (.one 10 (.done))))))) (.done))))))
def VS : OP := .one 0 false [] (mv 38 0) (.one 1 false [] (mv 39 0) (.one 2 false [] (nk 40 39) (.one 3 false [] (fa 41 1 40) (.or 4 true [] (ld 42 1 41) (.or 5 true [] (xo 43 (.load true 2 (.t 8))) (.one 6 false [] (xo 44 (.bslice 1 2 true [(.int .i64 0), (.int .i64 0)] [(0, (.t 43))])) (.one 7 true [6] (xo 45 (.append 2 16 [(.int .i64 0), (.int .i64 0)] (.t 42) (.t 44))) (.one 8 false [] (nk 46 38) (.one 9 false [] (fa 47 1 46) (.one 10 true [7, 6] (xs 1 47 45) (.done)))))) (.done)) (.or 5 true [] (xo 43 (.load true 2 (.t 8))) (.one 4 true [] (ld 42 1 41) (.one 6 false [] (xo 44 (.bslice 1 2 true [(.int .i64 0), (.int .i64 0)] [(0, (.t 43))])) (.one 7 true [6] (xo 45 (.append 2 16 [(.int .i64 0), (.int .i64 0)] (.t 42) (.t 44))) (.one 8 false [] (nk 46 38) (.one 9 false [] (fa 47 1 46) (.one 10 true [7, 6] (xs 1 47 45) (.done))))))) (.done))))))
theorem WX : okR (qX) jx [4, 5] qR = true := by kernel_rfl
theorem WR : XT (ris (qX) jx [4, 5]) qR = VS := by kernel_rfl def c_rule_read (Xj jj jm : Nat) : AC := QR [0, 1] (.reg [mc 4 (V.bool false)]) (QR [0, 5] (.reg [mv 10 1, xo 11 (.call Xj [(.t 10), (.c (V.str [32]))]), mv 5 11]) (QR [0, 5] (QR [0, 5, 6, 7] (.reg [mv 13 5, xo 14 (.build [(.slice none 0 0)] [(0, 1, (.t 13))]), xo 15 (.box true 1 (.t 14)), cl 16 jj [15], mv 12 16, ex 17 12 0, ex 18 12 1, xo 6 (.alloc [.val (.bool false), .val (.int .i64 0), .val (.int .i64 0), .val (.int .i64 0), .val (.int .i64 0), .val (.int .i64 0)]), xs 6 6 17, mv 7 18]) (QR [0, 5, 6, 19] (.reg [mv 19 7]) (.cond (.t 19) (QR [] (yO [4, 5] qS (VT) (qY) jy) (QR [4] (.reg [mc 4 (V.bool true)]) (.ret))) (.skip)))) (QR [0, 8, 9] (.reg [mv 31 5, xo 32 (.build [(.slice none 0 0)] [(0, 1, (.t 31))]), xo 33 (.box true 1 (.t 32)), cl 34 jm [33], mv 30 34, ex 35 30 0, ex 36 30 1, xo 8 (.alloc [.val (.int .i64 0), .val (.int .i64 0)]), xs 2 8 35, mv 9 36]) (QR [9] (QR [0, 8, 9, 37] (.reg [mv 37 9]) (.cond (.t 37) (yO [4, 5] qR (VS) (qX) jx) (.skip))) (QR [4] (.reg [mv 48 9, mv 4 48]) (.ret)))))) def r_rule_read : List XY := [.tmp 4]
def yn (Γ : Env) (f : Nat) : Prop := ∀ (s : List UInt8) (rs : List Qp) (ks : List Qs) (hs : s.length < 2 ^ 30) (hr : rs.length < 2 ^ 30) (hk : ks.length < 2 ^ 30), EvT Γ f [V.str s] 6 2 (rs.map Qp.v) (ks.map Qs.v) (V.bool (yP s rs ks).1) ((yP s rs ks).2.1.map Qp.v) ((yP s rs ks).2.2.map Qs.v)
theorem acq {Γ : Env} {f Xj jj jm : Nat} (h : Has Γ.P f 49 (c_rule_read Xj jj jm) r_rule_read) (JI : Kc Γ Xj) (Vv : ym Γ jj) (Vw : yr Γ jm) : yn Γ f := by
  intro s rs ks hs hr hk
  refine adk h (by simp) (by simp only [V.closed, Qq, V.noSl, Yq, and_self, and_true, true_and]) fun C hC hm => ?_
  subst hC
  unfold c_rule_read
  have hsp := (JI s 32 (by omega)).b
  have hlen := aeh 32 s
  have hsz : LSz (Y8 32 s) := ⟨by omega, fun w hw => by have := aaD hw; omega⟩
  simp only [yP]
  generalize Y8 32 s = ws at *
  have n1 := Vv ws hsz
  have n2 := Vw ws hsz
  generalize aaa ws = p1 at *
  obtain ⟨r, ok, u⟩ := p1
  generalize ac9 ws = p2 at *
  obtain ⟨k, ok2, u2⟩ := p2
  simp only [Qp.v, Qs.v, Qp.cells, Qs.cells] at n1 n2
  rcases ok with _ | _
  · rcases ok2 with _ | _
    · simp only [Bool.false_eq_true, if_false]
      repeat' (first | refine Qf fun K' hK => ?_ | refine Qi fun K' hK => ?_ | refine Qb 11 (fun _ => false) rfl (WY) (WT) fun K' hK => ?_ | refine Qc 11 (fun _ => false) rfl (WY) (WT) fun K' hK => ?_ | refine Qb 11 (fun _ => false) rfl (WX) (WR) fun K' hK => ?_ | refine Qc 11 (fun _ => false) rfl (WX) (WR) fun K' hK => ?_ | refine Qg ?_ | refine Qh ?_ | refine Qa ?_ | ((first | refine Qk ⟨_, rfl, fun hc => ?_, fun hc => ?_⟩ | refine QM (fun hc => ?_) (fun hc => ?_) | refine QN (fun hc => ?_) (fun hc => ?_)) <;> first | exact Bool.noConfusion hc | ((try simp only [znz] at hc); first | exact znf | skip)) | refine Qo ?_ | refine Qj ?_ | simp (maxSteps := 1000000) only [go_sem, Nat.reduceAdd, Nat.reduceMul, Nat.reduceEqDiff, Nat.reduceLeDiff, Nat.reduceLT, Nat.reduceSub, Int.reduceEq, Int.reduceBEq, Int.reduceLT, Int.reduceLE, Int.reduceAdd, Int.reduceToNat, reduceIte, reduceCtorEq, VT, VS] | (refine hK _ ?_; clear hK; clear K') | refine And.intro ?_ ?_ | (apply Yd; (focus exact rfl); (focus first | exact n1 | exact n2 | exact (Vv _ zsd) | exact (Vw _ zsd)); (focus exact rfl); (focus exact rfl)) | (apply JP; (focus exact rfl); (focus first | exact rfl | decide); (focus first | exact rfl | decide); (focus first | exact n1 | exact n2 | exact (Vv _ zsd) | exact (Vw _ zsd)); (focus exact rfl); (focus exact rfl); (focus first | exact rfl | decide)) | ((first | apply QS | apply QT); (focus first | exact hsp | exact (JI _ _ zsd).b)) | exact zlo | omega | exact zms)
      all_goals first | (refine afQ _ _ _ _ _ rfl (by simp only [go_sem, Nat.reduceEqDiff, Nat.reduceAdd, reduceIte, reduceCtorEq]) rfl rfl rfl (by decide) (by decide) (by decide) ⟨_, rfl⟩ ⟨_, rfl⟩ ?_ ?_ ?_ ?_ <;> first | rfl | (simp; done)) | trace_state
    · simp only [Bool.false_eq_true, if_false, if_true]
      repeat' (first | refine Qf fun K' hK => ?_ | refine Qi fun K' hK => ?_ | refine Qb 11 (fun _ => false) rfl (WY) (WT) fun K' hK => ?_ | refine Qc 11 (fun _ => false) rfl (WY) (WT) fun K' hK => ?_ | refine Qb 11 (fun _ => false) rfl (WX) (WR) fun K' hK => ?_ | refine Qc 11 (fun _ => false) rfl (WX) (WR) fun K' hK => ?_ | refine Qg ?_ | refine Qh ?_ | refine Qa ?_ | ((first | refine Qk ⟨_, rfl, fun hc => ?_, fun hc => ?_⟩ | refine QM (fun hc => ?_) (fun hc => ?_) | refine QN (fun hc => ?_) (fun hc => ?_)) <;> first | exact Bool.noConfusion hc | ((try simp only [znz] at hc); first | exact znf | skip)) | refine Qo ?_ | refine Qj ?_ | simp (maxSteps := 1000000) only [go_sem, Nat.reduceAdd, Nat.reduceMul, Nat.reduceEqDiff, Nat.reduceLeDiff, Nat.reduceLT, Nat.reduceSub, Int.reduceEq, Int.reduceBEq, Int.reduceLT, Int.reduceLE, Int.reduceAdd, Int.reduceToNat, reduceIte, reduceCtorEq, List.take_length, VT, VS] | (refine hK _ ?_; clear hK; clear K') | refine And.intro ?_ ?_ | (apply Yd; (focus exact rfl); (focus first | exact n1 | exact n2 | exact (Vv _ zsd) | exact (Vw _ zsd)); (focus exact rfl); (focus exact rfl)) | (apply JP; (focus exact rfl); (focus first | exact rfl | decide); (focus first | exact rfl | decide); (focus first | exact n1 | exact n2 | exact (Vv _ zsd) | exact (Vw _ zsd)); (focus exact rfl); (focus exact rfl); (focus first | exact rfl | decide)) | ((first | apply QS | apply QT); (focus first | exact hsp | exact (JI _ _ zsd).b)) | exact zlo | omega | exact zms)
      all_goals first | (refine afQ _ _ _ _ _ rfl (by simp only [go_sem, Nat.reduceEqDiff, Nat.reduceAdd, reduceIte, reduceCtorEq]) rfl rfl rfl (by decide) (by decide) (by decide) ⟨_, rfl⟩ ⟨_, rfl⟩ ?_ ?_ ?_ ?_ <;> first | rfl | (simp [Qs.v, Qs.cells]; done)) | trace_state
  · simp only [if_true]
    repeat' (first | refine Qf fun K' hK => ?_ | refine Qi fun K' hK => ?_ | refine Qb 11 (fun _ => false) rfl (WY) (WT) fun K' hK => ?_ | refine Qc 11 (fun _ => false) rfl (WY) (WT) fun K' hK => ?_ | refine Qb 11 (fun _ => false) rfl (WX) (WR) fun K' hK => ?_ | refine Qc 11 (fun _ => false) rfl (WX) (WR) fun K' hK => ?_ | refine Qg ?_ | refine Qh ?_ | refine Qa ?_ | ((first | refine Qk ⟨_, rfl, fun hc => ?_, fun hc => ?_⟩ | refine QM (fun hc => ?_) (fun hc => ?_) | refine QN (fun hc => ?_) (fun hc => ?_)) <;> first | exact Bool.noConfusion hc | ((try simp only [znz] at hc); first | exact znf | skip)) | refine Qo ?_ | refine Qj ?_ | simp (maxSteps := 1000000) only [go_sem, Nat.reduceAdd, Nat.reduceMul, Nat.reduceEqDiff, Nat.reduceLeDiff, Nat.reduceLT, Nat.reduceSub, Int.reduceEq, Int.reduceBEq, Int.reduceLT, Int.reduceLE, Int.reduceAdd, Int.reduceToNat, reduceIte, reduceCtorEq, List.take_length, VT, VS] | (refine hK _ ?_; clear hK; clear K') | refine And.intro ?_ ?_ | (apply Yd; (focus exact rfl); (focus first | exact n1 | exact n2 | exact (Vv _ zsd) | exact (Vw _ zsd)); (focus exact rfl); (focus exact rfl)) | (apply JP; (focus exact rfl); (focus first | exact rfl | decide); (focus first | exact rfl | decide); (focus first | exact n1 | exact n2 | exact (Vv _ zsd) | exact (Vw _ zsd)); (focus exact rfl); (focus exact rfl); (focus first | exact rfl | decide)) | ((first | apply QS | apply QT); (focus first | exact hsp | exact (JI _ _ zsd).b)) | exact zlo | omega | exact zms)
    all_goals first | (refine afQ _ _ _ _ _ rfl (by simp only [go_sem, Nat.reduceEqDiff, Nat.reduceAdd, reduceIte, reduceCtorEq]) rfl rfl rfl (by decide) (by decide) (by decide) ⟨_, rfl⟩ ⟨_, rfl⟩ ?_ ?_ ?_ ?_ <;> first | rfl | (simp [Qp.v, Qp.cells]; done)) | trace_state
end Av
end

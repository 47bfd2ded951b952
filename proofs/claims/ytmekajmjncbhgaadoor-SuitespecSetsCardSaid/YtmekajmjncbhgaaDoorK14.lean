/- A nil slice in a variable may be seen as a header of an empty buffer of one's own. -/
import Derived.Test.YtmekajmjncbhgaaDoorK13
set_option linter.unusedVariables false
set_option linter.unusedSimpArgs false
section
set_option linter.unusedSimpArgs false
set_option linter.unusedVariables false
set_option maxRecDepth 10000
set_option maxHeartbeats 4000000
namespace Av
open Go
attribute [local irreducible] AWp W8 V7 V8 awS awC KI awQ KY Ji XK KE awR XZ awB okR WO ris
def UH (c : Int) : List UInt8 := (YA c).name ++ if (YA c).name = [99, 104, 97, 99, 104, 97] then [43, 118, 52] else []
def Kn : List Int → List Int → List UInt8 → Option (List UInt8)
  | _, [], s => some s
  | p, x :: r, s => if p.contains x = true then none else Kn (p ++ [x]) r ((if p = [] then s else s ++ [58]) ++ UH x)
def abY (c : Int) : Bool := decide (c < 1) || decide (c > 16)
def VA (l : List Int) : V := if l.any abY = true then .tup [V.str [], V.int 8] else match Kn [] l [] with
  | none => .tup [V.str [], V.int 5]
  | some s => .tup [V.str s, V.int 0]
theorem y9 (c : Int) : (UH c).length ≤ 40 := by
  have h : ∀ s ∈ Jg, s.name.length ≤ 30 := by decide
  have h2 : (YA c).name.length ≤ 30 := by
    unfold YA; split
    · rename_i hc
      have hk : (c - 1).toNat < Jg.length := by rw [XL]; omega
      rw [List.getD_eq_getElem?_getD, List.getElem?_eq_getElem hk, Option.getD_some]
      exact h _ (List.getElem_mem hk)
    · simp [wv]
  unfold UH
  rw [List.length_append]
  split <;> simp <;> omega
theorem U5 (l : List Int) : (VA l).closed := by
  unfold VA; split
  · simp only [V.closed, QK, and_self]
  · split <;> simp only [V.closed, QK, and_self]
theorem qI (l : List Int) : (VA l).noSl := by
  unfold VA; split
  · simp only [V.noSl, JM, and_self]
  · split <;> simp only [V.noSl, JM, and_self]
def Ko (JS : Nat) : List AO := [mv 33 0, mv 34 6, xo 35 (.slsl 1 (.t 33) none (some (.t 34))), mv 36 0, mv 37 6, ia 38 1 36 37, ld 39 1 38, cl 40 JS [35, 39]]
def KB : List (List Nat) := [[], [], [0, 1], [], [], [3, 4], [5], [2, 6]]
def Kk : OT := .one 0 (.one 1 (.one 2 (.one 3 (.one 4 (.one 5 (.one 6 (.one 7 (.done))))))))
def Yj (JS : Nat) : OP := .one 0 false [] (mv 33 0) (.one 1 false [] (mv 34 6) (.one 2 false [] (xo 35 (.slsl 1 (.t 33) none (some (.t 34)))) (.one 3 false [] (mv 36 0) (.one 4 false [] (mv 37 6) (.one 5 false [] (ia 38 1 36 37) (.one 6 false [] (ld 39 1 38) (.one 7 false [] (cl 40 JS [35, 39]) (.done))))))))
theorem Jt (JS : Nat) : okR (Ko JS) KB [] Kk = true := by kernel_rfl
theorem Js (JS : Nat) : WO (ris (Ko JS) KB []) Kk = Yj JS := by kernel_rfl def c_ref08_Print (JS Xt : Nat) : AC := QI [0] (.reg [mc 2 (V.str []), mc 3 (V.int 0)]) (QI [0] (QI [0, 4] (.reg [mc 4 (V.int 0)]) (.block 0 (X2 [0, 4] (QI [0, 4] (QI [0, 4, 12] (.reg [mv 9 4, mv 10 0, ln 11 10, bn 12 .lss 9 11]) (.cond (.t 12) (.skip) (.exit 0))) (QI [0, 4] (.block 1 (QI [0, 4, 26] (.reg [mv 15 0, mv 16 4, ia 17 1 15 16, ld 18 1 17, bc 19 .lss 18 (V.int 1), mv 20 19, mg 21 0 20 false, mg 22 4 20 false, xg 23 (.iaddr 1 (.t 21) (.t 22)) 20 false, xg 24 (.load false 1 (.t 23)) 20 false, xg 25 (.bin .gtr (.t 24) (.c (V.int 16))) 20 false, xo 26 (.pick (.t 20) (.c (V.bool true)) (.t 25))]) (.cond (.t 26) (QI [2, 3] (.reg [mc 2 (V.str []), mc 3 (V.int 8)]) (.ret)) (.skip)))) (.reg [mv 13 4, bc 14 .add 13 (V.int 1), mv 4 14])))))) (QI [0, 5] (.reg [mc 5 (V.str [])]) (QI [5] (QI [0, 5, 6] (.reg [mc 6 (V.int 0)]) (.block 2 (X2 [0, 5, 6] (QI [0, 5, 6] (QI [0, 5, 6, 30] (.reg [mv 27 6, mv 28 0, ln 29 28, bn 30 .lss 27 29]) (.cond (.t 30) (.skip) (.exit 2))) (QI [0, 5, 6] (.block 3 (QI [0, 5, 6] (QI [0, 5, 6, 40] (aaf [] Kk (Yj JS) (Ko JS) KB) (.cond (.t 40) (QI [2, 3] (.reg [mc 2 (V.str []), mc 3 (V.int 5)]) (.ret)) (.skip))) (QI [0, 5, 6, 7] (.reg [mv 42 0, mv 43 6, ia 44 1 42 43, ld 45 1 44, cl 46 Xt [45], mv 41 46, ex 47 41 0, ex 48 41 1, xo 7 (.alloc [.val (.int .i64 0), .val (.string ⟨#[]⟩), .val (.int .i64 0), .val (.int .i64 0), .val (.int .i64 0), .val (.int .i64 0), .val (.int .i64 0), .val (.int .i64 0), .val (.int .i64 0), .val (.int .i64 0), .val (.int .i64 0), .val (.int .i64 0)]), xs 12 7 47, mv 8 48]) (QI [0, 5, 6, 7] (QI [0, 5, 6, 7, 50] (.reg [mv 49 6, bc 50 .gtr 49 (V.int 0)]) (.cond (.t 50) (.reg [mv 51 5, bc 52 .add 51 (V.str [58]), mv 5 52]) (.skip))) (QI [0, 5, 6, 7] (.reg [mv 53 5, fa 54 1 7, ld 55 1 54, bn 56 .add 53 55, mv 5 56]) (QI [0, 5, 6, 59] (.reg [fa 57 1 7, ld 58 1 57, bc 59 .eql 58 (V.str [99, 104, 97, 99, 104, 97])]) (.cond (.t 59) (.reg [mv 60 5, bc 61 .add 60 (V.str [43, 118, 52]), mv 5 61]) (.skip)))))))) (.reg [mv 31 6, bc 32 .add 31 (V.int 1), mv 6 32])))))) (QI [2, 3] (.reg [mv 62 5, mv 2 62, mc 3 (V.int 0)]) (.ret))))) def r_ref08_Print : List XG := [.tmp 2, .tmp 3]
def qm (Γ : Env) (f : Nat) : Prop := ∀ (l : List Int) (hl : l.length < 2 ^ 30), EvN Γ f [.sl 1 (l.map V.int)] (VA l)
theorem aaw {Γ : Env} {f JS Xt : Nat} (h : Has Γ.P f 63 (c_ref08_Print JS Xt) r_ref08_Print) (Yh : K0 Γ JS) (YD : Uw Γ Xt) : qm Γ f := by
  intro l hl
  refine Jc h (by simp) (by first | exact U5 _ | exact qI _) (by first | exact U5 _ | exact qI _) fun C hC hm => ?_
  subst hC
  unfold c_ref08_Print
  repeat' (first | refine Qp fun K' hK => ?_ | refine Qt fun K' hK => ?_ | refine Qn 8 (fun _ => true) rfl (Jt _) (Js _) fun K' hK => ?_ | refine Qo 8 (fun _ => true) rfl (Jt _) (Js _) fun K' hK => ?_ | refine Qq ?_ | refine Qr ?_ | refine Ql ?_ | ((first | refine Qs ⟨_, rfl, fun hc => ?_, fun hc => ?_⟩ | refine QQ (fun hc => ?_) (fun hc => ?_) | refine QR (fun hc => ?_) (fun hc => ?_)) <;> first | exact Bool.noConfusion hc | ((try simp only [znz] at hc); first | exact znf | skip)) | refine Qv ?_ | refine Qu ?_ | simp (maxSteps := 1000000) only [go_sem, Nat.reduceAdd, Nat.reduceMul, Nat.reduceEqDiff, Nat.reduceLeDiff, Nat.reduceLT, Nat.reduceSub, Int.reduceEq, Int.reduceBEq, Int.reduceLT, Int.reduceLE, Int.reduceAdd, Int.reduceToNat, reduceIte, reduceCtorEq, Yj] | (refine hK _ ?_; clear hK; clear K') | refine And.intro ?_ ?_ | ((first | apply QT | apply Jl); (focus first | exact (Yh _ _ zsd).b | exact (YD _).b)) | exact zlo | omega | exact zms)
  refine Xb (ι := Nat) (fun k => k ≤ l.length ∧ (l.drop k).any abY = l.any abY) (fun k => [(4, V.int k)]) (fun k => l.length - k) 0 (by omega) ⟨by simp, by simp⟩ (by repeat' first | exact XR | refine WR (by omega) (by simp only [Ob.lt, ltL, V.lt, and_self, and_true]; try omega) ?_) (fun i hi => by simp only [ovT, JV, Nat.reduceEqDiff, reduceIte]; (repeat' first | exact WQ | refine XQ ?_ ?_ | simp only [V.lt, ltL, and_self, and_true] | omega)) (by simp only [Nat.reduceAdd, ovT, JV, Nat.reduceEqDiff, reduceIte, Jr, JQ, qv, u32, u33, u34, u35, u36, u37, u38, u39, and_self, and_true, true_and]; rfl) fun k hk K' hL => ?_
  obtain ⟨hk, hinv⟩ := hk
  simp only [ovT, JV, Nat.reduceEqDiff, reduceIte]
  rcases hd : l.drop k with _ | ⟨x, r⟩
  · have hkl := YL hd
    rw [hd] at hinv
    have e1 : decide ((k : Int) < (((l.map V.int).length : Nat) : Int)) = false := by simp; omega
    have hgood : l.any abY = false := by rw [← hinv]; rfl
    have hp : VA l = (match Kn [] l [] with
      | none => .tup [V.str [], V.int 5]
      | some s => .tup [V.str s, V.int 0]) := by rw [VA, if_neg (by rw [hgood]; simp)]
    rw [hp]
    repeat' (first | refine Qp fun K' hK => ?_ | refine Qt fun K' hK => ?_ | refine Qn 8 (fun _ => true) rfl (Jt _) (Js _) fun K' hK => ?_ | refine Qo 8 (fun _ => true) rfl (Jt _) (Js _) fun K' hK => ?_ | refine Qq ?_ | refine Qr ?_ | refine Ql ?_ | ((first | refine Qs ⟨_, rfl, fun hc => ?_, fun hc => ?_⟩ | refine QQ (fun hc => ?_) (fun hc => ?_) | refine QR (fun hc => ?_) (fun hc => ?_)) <;> first | exact Bool.noConfusion hc | ((try simp only [znz] at hc); first | exact znf | skip)) | refine Qv ?_ | refine Qu ?_ | simp (maxSteps := 1000000) only [go_sem, Nat.reduceAdd, Nat.reduceMul, Nat.reduceEqDiff, Nat.reduceLeDiff, Nat.reduceLT, Nat.reduceSub, Int.reduceEq, Int.reduceBEq, Int.reduceLT, Int.reduceLE, Int.reduceAdd, Int.reduceToNat, reduceIte, reduceCtorEq, e1, Yj] | (refine hK _ ?_; clear hK; clear K') | refine And.intro ?_ ?_ | ((first | apply QT | apply Jl); (focus first | exact (Yh _ _ zsd).b | exact (YD _).b)) | exact zlo | omega | exact zms)
    refine Xb (ι := Nat × List UInt8) (fun p => p.1 ≤ l.length ∧ p.2.length ≤ p.1 * 41 ∧ Kn (l.take p.1) (l.drop p.1) p.2 = Kn [] l []) (fun p => [(5, V.str p.2), (6, V.int p.1)]) (fun p => l.length - p.1) (0, []) (by omega) ⟨by simp, by simp, by simp⟩ (by repeat' first | exact XR | refine WR (by omega) (by simp only [Ob.lt, ltL, V.lt, and_self, and_true]; try omega) ?_) (fun i hi => by simp only [ovT, JV, Nat.reduceEqDiff, reduceIte]; (repeat' first | exact WQ | refine XQ ?_ ?_ | simp only [V.lt, ltL, and_self, and_true] | omega)) (by simp only [Nat.reduceAdd, ovT, JV, Nat.reduceEqDiff, reduceIte, Jr, JQ, qv, u32, u33, u34, u35, u36, u37, u38, u39, and_self, and_true, true_and]; first | done | rfl | exact ⟨rfl, rfl⟩) fun p hp K'' hL2 => ?_
    obtain ⟨j, s⟩ := p
    obtain ⟨hj, hs, hinv2⟩ := hp
    simp only at hj hs hinv2
    simp only [ovT, JV, Nat.reduceEqDiff, reduceIte]
    rcases hd2 : l.drop j with _ | ⟨x, r⟩
    · have hjl := YL hd2
      have e2 : decide ((j : Int) < (((l.map V.int).length : Nat) : Int)) = false := by simp; omega
      rw [hd2, Kn] at hinv2
      rw [← hinv2]
      repeat' (first | refine Qp fun K' hK => ?_ | refine Qt fun K' hK => ?_ | refine Qn 8 (fun _ => true) rfl (Jt _) (Js _) fun K' hK => ?_ | refine Qo 8 (fun _ => true) rfl (Jt _) (Js _) fun K' hK => ?_ | refine Qq ?_ | refine Qr ?_ | refine Ql ?_ | ((first | refine Qs ⟨_, rfl, fun hc => ?_, fun hc => ?_⟩ | refine QQ (fun hc => ?_) (fun hc => ?_) | refine QR (fun hc => ?_) (fun hc => ?_)) <;> first | exact Bool.noConfusion hc | ((try simp only [znz] at hc); first | exact znf | skip)) | refine Qv ?_ | refine Qu ?_ | simp (maxSteps := 1000000) only [go_sem, Nat.reduceAdd, Nat.reduceMul, Nat.reduceEqDiff, Nat.reduceLeDiff, Nat.reduceLT, Nat.reduceSub, Int.reduceEq, Int.reduceBEq, Int.reduceLT, Int.reduceLE, Int.reduceAdd, Int.reduceToNat, reduceIte, reduceCtorEq, e2, Yj] | (refine hK _ ?_; clear hK; clear K') | refine And.intro ?_ ?_ | ((first | apply QT | apply Jl); (focus first | exact (Yh _ _ zsd).b | exact (YD _).b)) | exact zlo | omega | exact zms)
      all_goals (refine Ja _ rfl ?_; simp only [go_sem, Nat.reduceEqDiff, Nat.reduceAdd, reduceIte, reduceCtorEq])
    · obtain ⟨hj', hget, hr⟩ := Yf hd2
      have hw := JD (k := j) (by omega)
      have e2 : decide ((j : Int) < (((l.map V.int).length : Nat) : Int)) = true := by simp; omega
      have hx : abY x = false := by
        have h9 : ∀ y ∈ l, abY y = false := by simpa using hgood
        exact h9 x (List.mem_of_getElem? hget)
      have hx2 : 1 ≤ x ∧ x ≤ 16 := by simp only [abY, Bool.or_eq_false_iff, decide_eq_false_iff_not] at hx; omega
      have hsv : Wi x = .tup [(YA x).v, V.int 0] := by rw [Wi, if_pos hx2]
      have hnl := y9 x
      rw [hd2, Kn] at hinv2
      have hA : List.take (j - 0) (l.map V.int) = (l.take j).map V.int := by rw [Nat.sub_zero, List.map_take]
      have hh := (Yh (l.take j) x (by rw [List.length_take]; omega)).b
      rcases hct : (l.take j).contains x with _ | _
      · rw [hct] at hinv2 hh
        simp only [Bool.false_eq_true, if_false] at hinv2
        have hnn : (YA x).name.length ≤ 40 := by unfold UH at hnl; simp at hnl; omega
        have hr2 : l.take (j + 1) = l.take j ++ [x] := by rw [List.take_add_one, hget]; rfl
        have hs2 : ((if l.take j = [] then s else s ++ [58]) ++ UH x).length ≤ (j + 1) * 41 := by
          have h3 : (if l.take j = [] then s else s ++ [58]).length ≤ s.length + 1 := by split <;> simp
          rw [List.length_append]; omega
        repeat' (first | refine Qp fun K' hK => ?_ | refine Qt fun K' hK => ?_ | refine Qn 8 (fun _ => true) rfl (Jt _) (Js _) fun K' hK => ?_ | refine Qo 8 (fun _ => true) rfl (Jt _) (Js _) fun K' hK => ?_ | refine Qq ?_ | refine Qr ?_ | refine Ql ?_ | ((first | refine Qs ⟨_, rfl, fun hc => ?_, fun hc => ?_⟩ | refine QQ (fun hc => ?_) (fun hc => ?_) | refine QR (fun hc => ?_) (fun hc => ?_)) <;> first | exact Bool.noConfusion hc | ((try simp only [znz] at hc); first | exact znf | skip)) | refine Qv ?_ | refine Qu ?_ | simp (maxSteps := 1000000) only [go_sem, Nat.reduceAdd, Nat.reduceMul, Nat.reduceEqDiff, Nat.reduceLeDiff, Nat.reduceLT, Nat.reduceSub, Int.reduceEq, Int.reduceBEq, Int.reduceLT, Int.reduceLE, Int.reduceAdd, Int.reduceToNat, reduceIte, reduceCtorEq, e2, hA, hsv, hw, Int.toNat_natCast, List.getElem?_map, hget, QV.v, QV.cells, Yj] | (refine hK _ ?_; clear hK; clear K') | refine And.intro ?_ ?_ | ((first | apply QT | apply Jl); (focus first | exact hh | exact (Yh _ _ zsd).b | exact (YD _).b)) | exact zlo | omega | exact zms)
        all_goals first
          | (simp; omega)
          | (refine hL2 _ (j + 1, (if l.take j = [] then s else s ++ [58]) ++ UH x) (by simp only [Nat.reduceAdd, ovT, JV, Nat.reduceEqDiff, reduceIte, Jr, JQ, qv, u32, u33, u34, u35, u36, u37, u38, u39, and_self, and_true, true_and]; have hln : ¬ l = [] := (fun h => by rw [h] at hj'; exact absurd hj' (Nat.not_lt_zero _)); by_cases hj0 : j = 0 <;> first | (simp_all [UH]; done) | (exfalso; omega)) ⟨by simp only; omega, hs2, by simp only; rw [hr2, hr]; exact hinv2⟩ (by simp only; omega) (fun a ha => by simp only [u32, u33, u34, u35, u36, u37, u38, u39]; repeat rw [if_neg (by omega)]))
          | trace_state
      · rw [hct, if_pos rfl] at hinv2
        rw [hct] at hh
        rw [← hinv2]
        repeat' (first | refine Qp fun K' hK => ?_ | refine Qt fun K' hK => ?_ | refine Qn 8 (fun _ => true) rfl (Jt _) (Js _) fun K' hK => ?_ | refine Qo 8 (fun _ => true) rfl (Jt _) (Js _) fun K' hK => ?_ | refine Qq ?_ | refine Qr ?_ | refine Ql ?_ | ((first | refine Qs ⟨_, rfl, fun hc => ?_, fun hc => ?_⟩ | refine QQ (fun hc => ?_) (fun hc => ?_) | refine QR (fun hc => ?_) (fun hc => ?_)) <;> first | exact Bool.noConfusion hc | ((try simp only [znz] at hc); first | exact znf | skip)) | refine Qv ?_ | refine Qu ?_ | simp (maxSteps := 1000000) only [go_sem, Nat.reduceAdd, Nat.reduceMul, Nat.reduceEqDiff, Nat.reduceLeDiff, Nat.reduceLT, Nat.reduceSub, Int.reduceEq, Int.reduceBEq, Int.reduceLT, Int.reduceLE, Int.reduceAdd, Int.reduceToNat, reduceIte, reduceCtorEq, e2, hA, Int.toNat_natCast, List.getElem?_map, hget, Yj] | (refine hK _ ?_; clear hK; clear K') | refine And.intro ?_ ?_ | ((first | apply QT | apply Jl); (focus first | exact hh | exact (Yh _ _ zsd).b | exact (YD _).b)) | exact zlo | omega | exact zms)
        all_goals first | (refine Ja _ rfl ?_; simp only [go_sem, Nat.reduceEqDiff, Nat.reduceAdd, reduceIte, reduceCtorEq]; done) | trace_state
  · obtain ⟨hk', hget, hr⟩ := Yf hd
    rw [hd] at hinv
    have hw := JD (k := k) (by omega)
    have e1 : decide ((k : Int) < (((l.map V.int).length : Nat) : Int)) = true := by simp; omega
    rcases h1 : decide (x < 1) with _ | _
    · rcases h2 : decide (x > 16) with _ | _
      · repeat' (first | refine Qp fun K' hK => ?_ | refine Qt fun K' hK => ?_ | refine Qn 8 (fun _ => true) rfl (Jt _) (Js _) fun K' hK => ?_ | refine Qo 8 (fun _ => true) rfl (Jt _) (Js _) fun K' hK => ?_ | refine Qq ?_ | refine Qr ?_ | refine Ql ?_ | ((first | refine Qs ⟨_, rfl, fun hc => ?_, fun hc => ?_⟩ | refine QQ (fun hc => ?_) (fun hc => ?_) | refine QR (fun hc => ?_) (fun hc => ?_)) <;> first | exact Bool.noConfusion hc | ((try simp only [znz] at hc); first | exact znf | skip)) | refine Qv ?_ | refine Qu ?_ | simp (maxSteps := 1000000) only [go_sem, Nat.reduceAdd, Nat.reduceMul, Nat.reduceEqDiff, Nat.reduceLeDiff, Nat.reduceLT, Nat.reduceSub, Int.reduceEq, Int.reduceBEq, Int.reduceLT, Int.reduceLE, Int.reduceAdd, Int.reduceToNat, reduceIte, reduceCtorEq, Int.toNat_natCast, List.getElem?_map, hget, hw, e1, h1, h2, Yj] | (refine hK _ ?_; clear hK; clear K') | refine And.intro ?_ ?_ | ((first | apply QT | apply Jl); (focus first | exact (Yh _ _ zsd).b | exact (YD _).b)) | exact zlo | omega | exact zms)
        all_goals
          refine hL _ (k + 1) (by simp only [Nat.reduceAdd, ovT, JV, Nat.reduceEqDiff, reduceIte, Jr, JQ, qv, u32, u33, u34, u35, u36, u37, u38, u39, and_self, and_true, true_and]) ⟨by omega, ?_⟩ (by omega) (fun a ha => by simp only [u32, u33, u34, u35, u36, u37, u38, u39]; repeat rw [if_neg (by omega)])
          rw [hr, ← hinv]; simp only [List.any_cons, abY, h1, h2, Bool.or_self, Bool.false_or]
      · have hbad : VA l = .tup [V.str [], V.int 8] := by
          rw [VA, if_pos]; rw [← hinv]; simp only [List.any_cons, abY, h1, h2, Bool.or_true, Bool.true_or]
        rw [hbad]
        repeat' (first | refine Qp fun K' hK => ?_ | refine Qt fun K' hK => ?_ | refine Qn 8 (fun _ => true) rfl (Jt _) (Js _) fun K' hK => ?_ | refine Qo 8 (fun _ => true) rfl (Jt _) (Js _) fun K' hK => ?_ | refine Qq ?_ | refine Qr ?_ | refine Ql ?_ | ((first | refine Qs ⟨_, rfl, fun hc => ?_, fun hc => ?_⟩ | refine QQ (fun hc => ?_) (fun hc => ?_) | refine QR (fun hc => ?_) (fun hc => ?_)) <;> first | exact Bool.noConfusion hc | ((try simp only [znz] at hc); first | exact znf | skip)) | refine Qv ?_ | refine Qu ?_ | simp (maxSteps := 1000000) only [go_sem, Nat.reduceAdd, Nat.reduceMul, Nat.reduceEqDiff, Nat.reduceLeDiff, Nat.reduceLT, Nat.reduceSub, Int.reduceEq, Int.reduceBEq, Int.reduceLT, Int.reduceLE, Int.reduceAdd, Int.reduceToNat, reduceIte, reduceCtorEq, Int.toNat_natCast, List.getElem?_map, hget, hw, e1, h1, h2, Yj] | (refine hK _ ?_; clear hK; clear K') | refine And.intro ?_ ?_ | ((first | apply QT | apply Jl); (focus first | exact (Yh _ _ zsd).b | exact (YD _).b)) | exact zlo | omega | exact zms)
        all_goals (refine Ja _ rfl ?_; simp only [go_sem, Nat.reduceEqDiff, Nat.reduceAdd, reduceIte, reduceCtorEq])
    · have hbad : VA l = .tup [V.str [], V.int 8] := by
        rw [VA, if_pos]; rw [← hinv]; simp only [List.any_cons, abY, h1, Bool.true_or]
      rw [hbad]
      repeat' (first | refine Qp fun K' hK => ?_ | refine Qt fun K' hK => ?_ | refine Qn 8 (fun _ => true) rfl (Jt _) (Js _) fun K' hK => ?_ | refine Qo 8 (fun _ => true) rfl (Jt _) (Js _) fun K' hK => ?_ | refine Qq ?_ | refine Qr ?_ | refine Ql ?_ | ((first | refine Qs ⟨_, rfl, fun hc => ?_, fun hc => ?_⟩ | refine QQ (fun hc => ?_) (fun hc => ?_) | refine QR (fun hc => ?_) (fun hc => ?_)) <;> first | exact Bool.noConfusion hc | ((try simp only [znz] at hc); first | exact znf | skip)) | refine Qv ?_ | refine Qu ?_ | simp (maxSteps := 1000000) only [go_sem, Nat.reduceAdd, Nat.reduceMul, Nat.reduceEqDiff, Nat.reduceLeDiff, Nat.reduceLT, Nat.reduceSub, Int.reduceEq, Int.reduceBEq, Int.reduceLT, Int.reduceLE, Int.reduceAdd, Int.reduceToNat, reduceIte, reduceCtorEq, Int.toNat_natCast, List.getElem?_map, hget, hw, e1, h1, Yj] | (refine hK _ ?_; clear hK; clear K') | refine And.intro ?_ ?_ | ((first | apply QT | apply Jl); (focus first | exact (Yh _ _ zsd).b | exact (YD _).b)) | exact zlo | omega | exact zms)
      all_goals (refine Ja _ rfl ?_; simp only [go_sem, Nat.reduceEqDiff, Nat.reduceAdd, reduceIte, reduceCtorEq])
end Av
end
section
namespace Av
open Go
theorem Good.adopt {C : Ctx} {w : World} {Z : Nat → Nat → Prop} {μ : Nat → Option Cn} {o : Nat → Option Ob} (h : Good C w Z μ o) {x i n sz : Nat} {wr : Bool} {cells : List V}
    (ho : o x = some (.box wr cells)) (hi : cells[i]? = some (.sc (.slice none 0 0))) (hn : μ n = none) (hm : C.m ≤ n) :
    Good C w Z (upd μ n (some { block := 0, void := true })) (upd (upd o x (some (.box wr (cells.set i (.hd n 0 0))))) n (some (.buf true sz []))) := by
  have hon := h.free hn
  have hxn : x ≠ n := by rintro rfl; rw [hon] at ho; cases ho
  have hmu := UV (c := { block := 0, void := true }) hn
  have old : ∀ a y, a ≠ n → upd (upd o x (some (.box wr (cells.set i (.hd n 0 0))))) n (some (.buf true sz [])) a = some y → ∃ z c, o a = some z ∧ μ a = some c ∧ (y.live c ↔ z.live c) ∧ jI w Z (upd μ n (some { block := 0, void := true })) c y ∧ (z.live c → c.block < w.heap.size ∧ (C.w0.heap.size ≤ c.block ∨ C.F c.block)) := by
    intro a y han hy
    rw [JG _ _ han] at hy
    by_cases hax : a = x
    · subst hax
      rw [QW] at hy; cases hy
      obtain ⟨c, hc, ⟨h1, ⟨cs, ty, h2, h3, h4⟩, h5⟩, hl⟩ := h.ob _ _ ho
      refine ⟨_, c, ho, hc, Iff.rfl, ⟨h1, ⟨cs, ty, h2, by simpa using h3, fun j hj hj' => ?_⟩, h5⟩, hl⟩
      have hj2 : j < cells.length := by simpa using hj
      have h6 := h4 j hj2 hj'
      refine ⟨?_, h6.2⟩
      by_cases hji : j = i
      · subst hji
        rw [List.getElem_set_self]
        have h7 : cells[j] = .sc (.slice none 0 0) := by rw [List.getElem?_eq_getElem hj2] at hi; exact Option.some.inj hi
        have h8 := h6.1
        rw [h7] at h8
        generalize cs[j] = v at h8
        cases h8
        exact .hd (QW _ _ _) (by simp [Hdr])
      · rw [List.getElem_set_ne (fun e => hji e.symm)]
        exact h6.1.mono (fun _ _ _ => rfl) (fun _ _ h => h) hmu
    · rw [JG _ _ hax] at hy
      obtain ⟨c, hc, hok, hl⟩ := h.ob a y hy
      exact ⟨y, c, hy, hc, Iff.rfl, hok.mono (fun _ _ _ => rfl) (fun _ _ h => h) hmu (fun _ => rfl) (fun _ _ h => h), hl⟩
  refine ⟨fun a y hy => ?_, fun a b y z c d hab hy hz hc hd lc ld => ?_, h.zlt, h.grow, h.frame, h.zsub, h.zsup, h.zkeep, fun k hk => ?_, h.oo⟩
  · by_cases han : a = n
    · subst han
      rw [QW] at hy; cases hy
      exact ⟨_, QW _ _ _, ⟨rfl, fun hv => by cases hv⟩, fun hl => by cases hl⟩
    · obtain ⟨z, c, h1, h2, h3, h4, h5⟩ := old a y han hy
      exact ⟨c, hmu a c h2, h4, fun hl => h5 (h3.1 hl)⟩
  · by_cases han : a = n
    · subst han
      rw [QW] at hy hc; cases hy; cases hc; cases lc
    by_cases hbn : b = n
    · subst hbn
      rw [QW] at hz hd; cases hz; cases hd; cases ld
    obtain ⟨y', c', h1, h2, h3, _⟩ := old a y han hy
    obtain ⟨z', d', g1, g2, g3, _⟩ := old b z hbn hz
    have e1 := hmu a c' h2; rw [hc] at e1; cases e1
    have e2 := hmu b d' g2; rw [hd] at e2; cases e2
    exact h.sep a b y' z' c d hab h1 g1 h2 g2 (h3.1 lc) (g3.1 ld)
  · rw [JG _ _ (by omega)]; exact h.fix k hk
section
variable {C : Ctx} {nt : Nat} {s : St} {K : St → Prop} {E : Nat → St → Prop} {R : St → Prop}
theorem acQ {c : AC} (x i sz : Nat) {wr : Bool} {cells : List V} (ho : s.o x = some (.box wr cells)) (hi : cells[i]? = some (.sc (.slice none 0 0)))
    (h : AWp C nt c { t := s.t, o := upd (upd s.o x (some (.box wr (cells.set i (.hd s.n 0 0))))) s.n (some (.buf true sz [])), n := s.n + 1 } K E R) : AWp C nt c s K E R := by
  intro code hc a w hs
  obtain ⟨Z, μ, hg, ht, hf, hm, hd, hn⟩ := hs
  refine h code hc a w ⟨Z, _, hg.adopt ho hi (hf _ (Nat.le_refl _)) hm, fun j => (ht j).mono (fun _ _ _ => rfl) (fun _ _ h => h) (UV (hf _ (Nat.le_refl _))), fun y hy => ?_, by show C.m ≤ s.n + 1; omega, hd, hn⟩
  have hy2 : s.n + 1 ≤ y := hy
  rw [JG _ _ (by omega)]
  exact hf y (by omega)
end
end Av
end
section
namespace Av
open Go
theorem Good.move {C : Ctx} {w : World} {Z : Nat → Nat → Prop} {μ : Nat → Option Cn} {o : Nat → Option Ob} (h : Good C w Z μ o) {x i a n off len sz : Nat} {wr wr2 : Bool} {cells xs : List V} {c : Cn}
    (ho : o x = some (.box wr cells)) (hi : cells[i]? = some (.hd a off len)) (ha : o a = some (.buf wr2 sz xs)) (hc : μ a = some c) (hn : μ n = none) (hm : C.m ≤ n) :
    Good C w Z (upd μ n (some c)) (upd (upd (upd o a (some .dead)) x (some (.box wr (cells.set i (.hd n off len))))) n (some (.buf wr2 sz xs))) := by
  have hon := h.free hn
  have hxn : x ≠ n := by rintro rfl; rw [hon] at ho; cases ho
  have han : a ≠ n := by rintro rfl; rw [hon] at ha; cases ha
  have hxa : x ≠ a := by rintro rfl; rw [ho] at ha; cases ha
  have hmu := UV (c := c) hn
  have old : ∀ b y, upd (upd (upd o a (some .dead)) x (some (.box wr (cells.set i (.hd n off len))))) n (some (.buf wr2 sz xs)) b = some y →
      (b = a ∧ y = .dead) ∨ ∃ z d, o (if b = n then a else b) = some z ∧ μ (if b = n then a else b) = some d ∧ upd μ n (some c) b = some d ∧ (y.live d ↔ z.live d) ∧ jI w Z (upd μ n (some c)) d y ∧ (z.live d → d.block < w.heap.size ∧ (C.w0.heap.size ≤ d.block ∨ C.F d.block)) ∧ (b ≠ a) := by
    intro b y hy
    by_cases hbn : b = n
    · subst hbn
      rw [QW] at hy; cases hy
      obtain ⟨d, hd, hok, hl⟩ := h.ob _ _ ha
      rw [hc] at hd; cases hd
      exact .inr ⟨_, c, by rw [if_pos rfl]; exact ha, by rw [if_pos rfl]; exact hc, QW _ _ _, Iff.rfl, hok.mono (fun _ _ _ => rfl) (fun _ _ h => h) hmu (fun _ => rfl) (fun _ _ h => h), hl, fun e => han e.symm⟩
    · rw [JG _ _ hbn] at hy
      rw [if_neg hbn, JG _ _ hbn]
      by_cases hbx : b = x
      · subst hbx
        rw [QW] at hy; cases hy
        obtain ⟨d, hd, ⟨h1, ⟨cs, ty, h2, h3, h4⟩, h5⟩, hl⟩ := h.ob _ _ ho
        refine .inr ⟨_, d, ho, hd, hd, Iff.rfl, ⟨h1, ⟨cs, ty, h2, by simpa using h3, fun j hj hj' => ?_⟩, h5⟩, hl, hxa⟩
        have hj2 : j < cells.length := by simpa using hj
        have h6 := h4 j hj2 hj'
        refine ⟨?_, h6.2⟩
        by_cases hji : j = i
        · subst hji
          rw [List.getElem_set_self]
          have h7 : cells[j] = .hd a off len := by rw [List.getElem?_eq_getElem hj2] at hi; exact Option.some.inj hi
          have h8 := h6.1
          rw [h7] at h8
          generalize cs[j] = v at h8
          cases h8
          rename_i c' hc' hv
          rw [hc] at hc'; cases hc'
          exact .hd (QW _ _ _) hv
        · rw [List.getElem_set_ne (fun e => hji e.symm)]
          exact h6.1.mono (fun _ _ _ => rfl) (fun _ _ h => h) hmu
      · rw [JG _ _ hbx] at hy
        by_cases hba : b = a
        · subst hba
          rw [QW] at hy; cases hy
          exact .inl ⟨rfl, rfl⟩
        · rw [JG _ _ hba] at hy
          obtain ⟨d, hd, hok, hl⟩ := h.ob b y hy
          exact .inr ⟨y, d, hy, hd, hd, Iff.rfl, hok.mono (fun _ _ _ => rfl) (fun _ _ h => h) hmu (fun _ => rfl) (fun _ _ h => h), hl, hba⟩
  refine ⟨fun b y hy => ?_, fun b d y z e f hbd hy hz he hf lb ld => ?_, h.zlt, h.grow, h.frame, h.zsub, h.zsup, h.zkeep, fun k hk => ?_, h.oo⟩
  · rcases old b y hy with ⟨rfl, rfl⟩ | ⟨z, d, h1, h2, h3, h4, h5, h6, _⟩
    · exact ⟨c, hmu _ _ hc, trivial, fun hl => hl.elim⟩
    · exact ⟨d, h3, h5, fun hl => h6 (h4.1 hl)⟩
  · rcases old b y hy with ⟨rfl, rfl⟩ | ⟨y', e', h1, h2, h3, h4, _, _, h7⟩
    · exact lb.elim
    · rcases old d z hz with ⟨rfl, rfl⟩ | ⟨z', f', g1, g2, g3, g4, _, _, g7⟩
      · exact ld.elim
      · rw [he] at h3; cases h3
        rw [hf] at g3; cases g3
        refine h.sep _ _ y' z' _ _ ?_ h1 g1 h2 g2 (h4.1 lb) (g4.1 ld)
        by_cases hbn : b = n
        · subst hbn
          rw [if_pos rfl, if_neg (fun e => hbd e.symm)]
          exact fun e => g7 e.symm
        · rw [if_neg hbn]
          by_cases hdn : d = n
          · subst hdn; rw [if_pos rfl]; exact h7
          · rw [if_neg hdn]; exact hbd
  · rw [JG _ _ (by omega)]; exact h.fix k hk
section
variable {C : Ctx} {nt : Nat} {s : St} {K : St → Prop} {E : Nat → St → Prop} {R : St → Prop}
theorem ad7 {c : AC} (x i a : Nat) {off len sz : Nat} {wr wr2 : Bool} {cells xs : List V} (ho : s.o x = some (.box wr cells)) (hi : cells[i]? = some (.hd a off len)) (ha : s.o a = some (.buf wr2 sz xs))
    (h : AWp C nt c { t := s.t, o := upd (upd (upd s.o a (some .dead)) x (some (.box wr (cells.set i (.hd s.n off len))))) s.n (some (.buf wr2 sz xs)), n := s.n + 1 } K E R) : AWp C nt c s K E R := by
  intro code hc u w hs
  obtain ⟨Z, μ, hg, ht, hf, hm, hd, hn⟩ := hs
  obtain ⟨d, hmu, _⟩ := hg.ob _ _ ha
  refine h code hc u w ⟨Z, _, hg.move ho hi ha hmu (hf _ (Nat.le_refl _)) hm, fun j => (ht j).mono (fun _ _ _ => rfl) (fun _ _ h => h) (UV (hf _ (Nat.le_refl _))), fun y hy => ?_, by show C.m ≤ s.n + 1; omega, hd, hn⟩
  have hy2 : s.n + 1 ≤ y := hy
  rw [JG _ _ (by omega)]
  exact hf y (by omega)
end
def aia (i j : Nat) (xs ys : List V) : Ob := .box true [.hd i 0 xs.length, .hd j 0 ys.length]
structure EvT (Γ : Env) (f : FuncId) (args : List V) (sx sy : Nat) (xs ys : List V) (res : V) (xs2 ys2 : List V) : Prop where
  ev : Ev Γ f (.ptr 0 0 :: args) [aia 1 2 xs ys, .buf true sx xs, .buf true sy ys] res [aia 3 4 xs2 ys2, .dead, .dead, .buf true sx xs2, .buf true sy ys2]
  cl : res.closed
theorem ai4 {Γ : Env} {b : Nat} {r : List AO} {s : St} {d : Option Nat} {f : FuncId} {acts : List V} {res : V} {K : St → Prop} {a p q sx sy n m : Nat} {xs ys xs2 ys2 : List V}
    (ha : s.o a = some (.box true [.hd p 0 n, .hd q 0 m])) (hp : s.o p = some (.buf true sx xs)) (hq : s.o q = some (.buf true sy ys))
    (h : EvT Γ f (X6 s.o acts) sx sy xs ys res xs2 ys2) (hn : n = xs.length) (hm : m = ys.length) (hc : JK s.o (some []) acts) (h1 : a ≠ p) (h2 : a ≠ q) (h3 : p ≠ q) (hab : a < b) (hpb : p < b) (hqb : q < b)
    (hk : W8 Γ (b + KK) r { t := (s.put d res).t, o := upd (upd (upd (upd (upd s.o (b + 1) (some (.buf true sy ys2))) b (some (.buf true sx xs2))) q (some .dead)) p (some .dead)) a (some (.box true [.hd b 0 xs2.length, .hd (b + 1) 0 ys2.length])), n := s.n } K) : awC Γ b r s d f (.ptr a 0 :: acts) K := by
  subst hn; subst hm
  refine UD ⟨_, _, _, _, [a, p, q], some [], h.ev, ⟨?_, Vv s.o [a, p, q] [] (fun x hx => by cases hx) acts hc⟩, ⟨⟨_, ha, ?_⟩, ⟨_, hp, rfl, rfl⟩, ⟨_, hq, rfl, rfl⟩, trivial⟩, by simp [h1, h2, h3], ?_, by simp, by simp [KK], fun h => by simp at h, ?_⟩
  · simp [conv]
  · show Yw _ _ _ _ _
    simp [Yw, conv]
  · intro x hx
    simp only [List.mem_cons, List.not_mem_nil, or_false] at hx
    rcases hx with rfl | rfl | rfl <;> assumption
  · rw [Qm _ _ h.cl]
    simp only [Vq, Uy, Ob.ren, aia, jt, V.ren, sig, aiX]
    exact hk
theorem v6 {Γ : Env} {b : Nat} {r : List AO} {s : St} {d : Option Nat} {f : FuncId} {x : V} {acts args : List V} {okf : Option (List Nat) → Prop} {res : V} {K : St → Prop} {a p q sx sy n m : Nat} {xs ys xs2 ys2 : List V}
    (ha : s.o a = some (.box true [.hd p 0 n, .hd q 0 m])) (hp : s.o p = some (.buf true sx xs)) (hq : s.o q = some (.buf true sy ys)) (h : EvT Γ f args sx sy xs ys res xs2 ys2)
    (hd : (decide (a ≠ p ∧ a ≠ q ∧ p ≠ q ∧ a < b ∧ p < b ∧ q < b)) = true) (hn : n = xs.length) (hm : m = ys.length) (hc : JK s.o (some []) acts)
    (hk : W8 Γ (b + KK) r { t := (s.put d res).t, o := upd (upd (upd (upd (upd s.o (b + 1) (some (.buf true sy ys2))) b (some (.buf true sx xs2))) q (some .dead)) p (some .dead)) a (some (.box true [.hd b 0 xs2.length, .hd (b + 1) 0 ys2.length])), n := s.n } K) : ah2 Γ b r s d f (.ptr a 0 :: acts) (x :: args) okf K := by
  intro h1 _
  simp only [X6, List.cons.injEq] at h1
  obtain ⟨_, rfl⟩ := h1
  obtain ⟨e1, e2, e3, e4, e5, e6⟩ := of_decide_eq_true hd
  exact ai4 ha hp hq h hn hm hc e1 e2 e3 e4 e5 e6 hk
theorem adt {Γ : Env} {f : FuncId} {nt : Nat} {ac : AC} {rs : List XG} (hb : Has Γ.P f nt ac rs) {args xs ys xs2 ys2 : List V} {sx sy : Nat} {res : V} (ha : args.length + 1 ≤ nt) (hr : res.closed)
    (h : ∀ C : Ctx, C.env = Γ → C.m = 3 → AWp C nt ac { t := (Va (.ptr 0 0 :: args) []).t, o := wL [(0, .box true [.hd 3 0 xs.length, .hd 4 0 ys.length]), (1, .dead), (2, .dead), (3, .buf true sx xs), (4, .buf true sy ys)], n := 5 }
      (w5 3 rs res [aia 3 4 xs2 ys2, .dead, .dead, .buf true sx xs2, .buf true sy ys2]) (fun _ _ => False) (w5 3 rs res [aia 3 4 xs2 ys2, .dead, .dead, .buf true sx xs2, .buf true sy ys2])) : EvT Γ f args sx sy xs ys res xs2 ys2 := by
  refine ⟨Uf hb (by simpa using ha) fun C hC hm => ?_, hr⟩
  refine ad7 0 0 1 (by rfl) (by rfl) (by rfl) ?_
  refine ad7 0 1 2 (by rfl) (by rfl) (by rfl) ?_
  have e := h C hC hm
  refine (congrArg (fun s => AWp C nt ac s _ _ _) ?_).mp e
  congr 1
  funext k
  match k with
  | 0 => rfl
  | 1 => rfl
  | 2 => rfl
  | 3 => rfl
  | 4 => rfl
  | k + 5 => simp [upd, wL, Va]
theorem aa9 {rs : List XG} {res : V} {s : St} {xs ys xs' ys' : List V} {sx sy : Nat} (i j n m : Nat) (vs : List V) (h : aas s rs = some vs) (hc : conv s.o [0, 1, 2, i, j] none (ae5 vs) res)
    (h0 : s.o 0 = some (.box true [.hd i 0 n, .hd j 0 m])) (hi : s.o i = some (.buf true sx xs')) (hj : s.o j = some (.buf true sy ys'))
    (hi3 : 3 ≤ i) (hj3 : 3 ≤ j) (hij : i ≠ j) (h1 : ∃ x, s.o 1 = some x) (h2 : ∃ x, s.o 2 = some x) (hx : xs' = xs) (hy : ys' = ys) (hn : n = xs.length) (hm : m = ys.length) : w5 3 rs res [aia 3 4 xs ys, .dead, .dead, .buf true sx xs, .buf true sy ys] s := by
  subst hn; subst hm; subst hx; subst hy
  obtain ⟨x1, e1⟩ := h1
  obtain ⟨x2, e2⟩ := h2
  refine qW rs vs _ h ⟨[0, 1, 2, i, j], none, hc, ⟨⟨_, h0, fun h => h, ?_⟩, ⟨_, e1, ?_⟩, ⟨_, e2, ?_⟩, ⟨_, hi, fun h => h, rfl, rfl⟩, ⟨_, hj, fun h => h, rfl, rfl⟩, trivial⟩, ?_, rfl⟩
  · simp [Yw, conv]
  · simp [ag7]
  · simp [ag7]
  · simp; omega
end Av
end
section
set_option linter.unusedSimpArgs false
set_option linter.unusedVariables false
set_option maxRecDepth 10000
set_option maxHeartbeats 4000000
namespace Av
open Go
attribute [local irreducible] AWp W8 V7 V8 awS awC KI awQ KY Ji XK KE awR XZ awB okR WO ris
def Vd : List UInt8 → UInt8 × List UInt8
  | [] => (0, [])
  | c :: r => if c = 45 ∨ c = 33 ∨ c = 43 then (c, r) else (0, c :: r)
abbrev agj := List Int × List Int
def doG (g : UInt8) (set : List Int) (p : agj) : agj :=
  if g = 45 then (QZ p.1 set, p.2)
  else if g = 33 then (QZ p.1 set, p.2 ++ set)
  else if g = 43 then (QZ p.1 set ++ QZ p.1 (QZ p.1 set), p.2)
  else (p.1 ++ QZ (QZ set p.1) p.2, p.2)
def ah8 : List UInt8 := [64, 115, 116, 114, 101, 110, 103, 116, 104]
def wordOk (w : List UInt8) : Bool := w == ah8 || (y5 (Vd w).2).2
def doR (w : List UInt8) (p : agj) : agj := if w == ah8 then (Kl p.1, p.2) else doG (Vd w).1 (y5 (Vd w).2).1 p
def goP : List (List UInt8) → Nat → agj → List Int × Int × Int
  | [], _, p => (p.1, 0, 0)
  | w :: r, i, p => if wordOk w = true then goP r (i + 1) (doR w p) else ([], ((i + 1 : Nat) : Int), 17)
def yu (s : List UInt8) : List Int × Int × Int :=
  if s.length > 8192 then ([], 0, 3) else if s = [] then ([], 0, 0) else if (JW 58 s).length > 200 then ([], 0, 3) else goP (JW 58 s) 0 ([], [])
theorem yQ (L : List (List UInt8)) : (Wz L Jg).Sublist (Jg.map QV.code) := (List.filter_sublist (l := Jg)).map _
theorem agW : (Jg.map QV.code).Nodup := by decide
theorem agV : ∀ x ∈ Jg.map QV.code, 1 ≤ x ∧ x ≤ 16 := by decide
theorem aff (s : List UInt8) : (y5 s).1.Nodup := by
  unfold y5; split
  · exact agW.sublist (yQ _)
  · exact List.nodup_nil
theorem aho (s : List UInt8) : ∀ x ∈ (y5 s).1, 1 ≤ x ∧ x ≤ 16 := by
  unfold y5; split
  · exact fun x hx => agV x ((yQ _).subset hx)
  · intro x hx; cases hx
theorem abl (s : List UInt8) : (y5 s).1.length ≤ 16 := by
  unfold y5; split
  · have := (yQ (JW 43 s)).length_le
    have e : (Jg.map QV.code).length = 16 := by decide
    show (Wz (JW 43 s) Jg).length ≤ 16
    omega
  · simp
theorem Y7 {x : Int} {l m : List Int} : x ∈ QZ l m ↔ x ∈ l ∧ x ∉ m := by simp [QZ]
theorem abc (p : agj) (m : List Int) : (QZ p.1 m ++ QZ p.1 (QZ p.1 m)).Perm p.1 := by
  have hp : QZ p.1 (QZ p.1 m) = p.1.filter fun x => m.contains x := by
    unfold QZ
    refine List.filter_congr fun x hx => ?_
    cases hm : m.contains x <;> simp_all
  rw [hp, QZ]
  have : ∀ l : List Int, ((l.filter fun x => !m.contains x) ++ (l.filter fun x => m.contains x)).Perm l := by
    intro l; induction l with
    | nil => exact .refl _
    | cons x r ih =>
      cases hx : m.contains x
      · simp only [List.filter_cons, hx, Bool.not_false, if_true, Bool.false_eq_true, if_false, List.cons_append]; exact ih.cons x
      · simp only [List.filter_cons, hx, Bool.not_true, if_true, Bool.false_eq_true, if_false]; exact List.perm_middle.trans (ih.cons x)
  exact this _
theorem ahL (w : List UInt8) (p : agj) : (doR w p).1.length ≤ p.1.length + 16 ∧ (doR w p).2.length ≤ p.2.length + 16 := by
  have h := abl (Vd w).2
  unfold doR; split
  · simp [y4]
  · unfold doG
    have a := WP p.1 (y5 (Vd w).2).1
    have b := WP (QZ (y5 (Vd w).2).1 p.1) p.2
    have c := WP (y5 (Vd w).2).1 p.1
    have part : (QZ p.1 (y5 (Vd w).2).1 ++ QZ p.1 (QZ p.1 (y5 (Vd w).2).1)).length ≤ p.1.length := Nat.le_of_eq (abc _ _).length_eq
    split
    · simp; omega
    · split
      · simp; omega
      · split
        · simp only; omega
        · simp; omega
theorem afU (out : List Int) (x : Int) : (ac0 out x).Perm (x :: out) := by
  unfold ac0
  rw [List.append_assoc, List.singleton_append]
  exact List.perm_middle.trans (by rw [List.take_append_drop])
theorem aa7 : ∀ (l out : List Int), (l.foldl ac0 out).Perm (out ++ l)
  | [], out => by simp
  | x :: r, out => by
    rw [List.foldl_cons]
    refine (aa7 r _).trans ?_
    refine ((afU out x).append_right r).trans ?_
    rw [List.cons_append]
    exact List.perm_middle.symm
theorem aaN (l : List Int) : (Kl l).Perm l := by
  have := aa7 l []
  simpa [Kl] using this
structure adD (p : agj) : Prop where
  nd : p.1.Nodup
  rg : ∀ x ∈ p.1, 1 ≤ x ∧ x ≤ 16
  dj : ∀ x ∈ p.1, x ∉ p.2
theorem aiq (w : List UInt8) (p : agj) (h : adD p) : adD (doR w p) := by
  have nd := aff (Vd w).2
  have rg := aho (Vd w).2
  unfold doR; split
  · have hp := aaN p.1
    exact ⟨hp.nodup_iff.2 h.nd, fun x hx => h.rg x (hp.mem_iff.1 hx), fun x hx => h.dj x (hp.mem_iff.1 hx)⟩
  · generalize (y5 (Vd w).2).1 = m at *
    unfold doG
    split
    · exact ⟨h.nd.sublist List.filter_sublist, fun x hx => h.rg x (Y7.1 hx).1, fun x hx => h.dj x (Y7.1 hx).1⟩
    · split
      · refine ⟨h.nd.sublist List.filter_sublist, fun x hx => h.rg x (Y7.1 hx).1, fun x hx hk => ?_⟩
        have hx := Y7.1 hx
        rcases List.mem_append.1 hk with hk | hk
        · exact h.dj x hx.1 hk
        · exact hx.2 hk
      · split
        · have hp := abc p m
          exact ⟨hp.nodup_iff.2 h.nd, fun x hx => h.rg x (hp.mem_iff.1 hx), fun x hx => h.dj x (hp.mem_iff.1 hx)⟩
        · refine ⟨?_, fun x hx => ?_, fun x hx => ?_⟩
          · refine List.nodup_append.2 ⟨h.nd, (nd.sublist List.filter_sublist).sublist List.filter_sublist, fun a ha b hb e => ?_⟩
            subst e
            exact (Y7.1 (Y7.1 hb).1).2 ha
          · rcases List.mem_append.1 hx with hx | hx
            · exact h.rg x hx
            · exact rg x (Y7.1 (Y7.1 hx).1).1
          · rcases List.mem_append.1 hx with hx | hx
            · exact h.dj x hx
            · exact (Y7.1 hx).2
theorem ahr : adD ([], []) := ⟨List.nodup_nil, fun x h => by simp at h, fun x h => by simp at h⟩
theorem afI {l : List Int} (hn : l.Nodup) (hr : ∀ x ∈ l, 1 ≤ x ∧ x ≤ 16) : l.length ≤ 16 := by
  have hs : l ⊆ Jg.map QV.code := by
    intro x hx
    have h := hr x hx
    have e : Jg.map QV.code = [1, 2, 3, 4, 5, 6, 7, 8, 9, 10, 11, 12, 13, 14, 15, 16] := by decide
    rw [e]; simp; omega
  have := hn.length_le_of_subset hs
  have e : (Jg.map QV.code).length = 16 := by decide
  omega
theorem adD.len {p : agj} (h : adD p) : p.1.length ≤ 16 := afI h.nd h.rg
end Av
end
section
set_option linter.unusedSimpArgs false
set_option linter.unusedVariables false
set_option maxRecDepth 10000
set_option maxHeartbeats 4000000
namespace Av
open Go
attribute [local irreducible] AWp W8 V7 V8 awS awC KI awQ KY Ji XK KE awR XZ awB okR WO ris
theorem xM (c : UInt8) : ∀ (s cur t : List UInt8), Xu c cur (s ++ c :: t) = Xu c cur s ++ Xu c [] t
  | [], cur, t => by simp [Xu]
  | x :: r, cur, t => by
    rw [List.cons_append, Xu, Xu]
    split
    · rw [xM c r [] t]; rfl
    · exact xM c r _ t
theorem xJ (c : UInt8) (s t : List UInt8) : JW c (s ++ [c] ++ t) = JW c s ++ JW c t := by
  rw [List.append_assoc, List.singleton_append]; exact xM c s [] t
theorem vg (c : UInt8) : ∀ (s cur : List UInt8), c ∉ s → Xu c cur s = [cur ++ s]
  | [], cur, _ => by simp [Xu]
  | x :: r, cur, h => by
    simp only [List.mem_cons, not_or] at h
    rw [Xu, if_neg (fun e => h.1 e.symm), vg c r _ h.2]; simp
end Av
end
section
namespace Av
open Go
structure EvL (Γ : Env) (f : FuncId) (args : List V) (sz : Nat) (xs : List V) (res : V) (ys : List V) : Prop where
  ev : Ev Γ f (.hd 0 0 xs.length :: args) [.buf true sz xs] res [.buf true sz ys]
  cl : res.closed
theorem ai7 {Γ : Env} {b : Nat} {r : List AO} {s : St} {d : Option Nat} {f : FuncId} {acts : List V} {res : V} {K : St → Prop} {a sz n : Nat} {xs ys : List V}
    (ha : s.o a = some (.buf true sz xs)) (h : EvL Γ f (X6 s.o acts) sz xs res ys) (hn : n = xs.length) (hc : JK s.o (some []) acts) (hab : a < b)
    (hk : W8 Γ (b + KK) r { t := (s.put d res).t, o := upd s.o a (some (.buf true sz ys)), n := s.n } K) : awC Γ b r s d f (.hd a 0 n :: acts) K := by
  subst hn
  refine UD ⟨_, _, _, _, [a], some [], h.ev, ⟨?_, Vv s.o [a] [] (fun x hx => by cases hx) acts hc⟩, ⟨⟨_, ha, rfl, rfl⟩, trivial⟩, by simp, ?_, by simp, by simp [KK], fun h => by simp at h, ?_⟩
  · simp [conv]
  · intro x hx
    simp only [List.mem_singleton] at hx
    subst hx; exact hab
  · rw [Qm _ _ h.cl]
    simp only [Vq, Uy, Ob.ren, aiX]
    exact hk
theorem JI {Γ : Env} {b : Nat} {r : List AO} {s : St} {d : Option Nat} {f : FuncId} {x : V} {acts args : List V} {okf : Option (List Nat) → Prop} {res : V} {K : St → Prop} {a sz n : Nat} {xs ys : List V}
    (ha : s.o a = some (.buf true sz xs)) (h : EvL Γ f args sz xs res ys) (hab : decide (a < b) = true) (hn : n = xs.length) (hc : JK s.o (some []) acts)
    (hk : W8 Γ (b + KK) r { t := (s.put d res).t, o := upd s.o a (some (.buf true sz ys)), n := s.n } K) : ah2 Γ b r s d f (.hd a 0 n :: acts) (x :: args) okf K := by
  intro h1 _
  simp only [X6, List.cons.injEq] at h1
  obtain ⟨_, rfl⟩ := h1
  exact ai7 ha h hn hc (of_decide_eq_true hab) hk
theorem Ug {Γ : Env} {f : FuncId} {nt : Nat} {ac : AC} {rs : List XG} (hb : Has Γ.P f nt ac rs) {args xs ys : List V} {sz : Nat} {res : V} (ha : args.length + 1 ≤ nt) (hr : res.closed)
    (h : ∀ C : Ctx, C.env = Γ → C.m = 1 → AWp C nt ac { t := (Va (.hd 0 0 xs.length :: args) []).t, o := wL [(0, .buf true sz xs)], n := 1 } (w5 1 rs res [.buf true sz ys]) (fun _ _ => False) (w5 1 rs res [.buf true sz ys])) : EvL Γ f args sz xs res ys := by
  refine ⟨Uf hb (by simpa using ha) fun C hC hm => ?_, hr⟩
  refine (congrArg (fun s => AWp C nt ac s _ _ _) ?_).mp (h C hC hm)
  simp only [Va]
  congr 1
  funext k
  match k with
  | 0 => rfl
  | k + 1 => simp [wL]
theorem VP {rs : List XG} {res : V} {s : St} {xs ys : List V} {sz : Nat} (vs : List V) (h : aas s rs = some vs) (ho : s.o 0 = some (.buf true sz xs)) (hc : conv s.o [0] none (ae5 vs) res) (hx : xs = ys) : w5 1 rs res [.buf true sz ys] s := by
  subst hx
  exact qW rs vs _ h ⟨[0], none, hc, ⟨⟨_, ho, fun h => h, rfl, rfl⟩, trivial⟩, by simp, rfl⟩
@[go_sem] theorem ahP (l : List Int) : (∀ y ∈ l.map V.int, y.cells.length = 1) = True := eq_true (by intro y hy; simp only [List.mem_map] at hy; obtain ⟨x, _, rfl⟩ := hy; rfl)
@[go_sem] theorem ahO (l : List (List UInt8)) : (∀ y ∈ l.map V.str, y.cells.length = 1) = True := eq_true (by intro y hy; simp only [List.mem_map] at hy; obtain ⟨x, _, rfl⟩ := hy; rfl)
end Av
end
section
set_option linter.unusedSimpArgs false
set_option linter.unusedVariables false
set_option maxRecDepth 10000
set_option maxHeartbeats 4000000
namespace Av
open Go
attribute [local irreducible] AWp W8 V7 V8 awS awC KI awQ KY Ji XK KE awR XZ awB okR WO ris
theorem Kj {α β : Type} (f : α → β) (l : List α) : (l.map f).take l.length = l.map f := by rw [List.take_of_length_le (by simp)]
theorem ye (c : UInt8) (r : List UInt8) : Vd (c :: r) = if c = 45 ∨ c = 33 ∨ c = 43 then (c, r) else (0, c :: r) := rfl
theorem afc {w : List UInt8} (h : w ≠ ah8) : (w == ah8) = false := by simpa using h
end Av
end
section
set_option linter.unusedSimpArgs false
set_option linter.unusedVariables false
set_option maxRecDepth 10000
set_option maxHeartbeats 4000000
namespace Av
open Go
attribute [local irreducible] AWp W8 V7 V8 awS awC KI awQ KY Ji XK KE awR XZ awB okR WO ris
def jN (r : List Int × Int × Int) : V := .tup [.sl 1 (r.1.map V.int), V.int r.2.1, V.int r.2.2]
theorem abr (r : List Int × Int × Int) : (jN r).closed := by simp only [jN, V.closed, QK, and_self]
theorem xK (c : UInt8) : ∀ (r cur w : List UInt8), w ∈ Xu c cur r → w.length ≤ cur.length + r.length
  | [], cur, w, h => by simp only [Xu, List.mem_singleton] at h; subst h; simp
  | x :: r, cur, w, h => by
    rw [Xu] at h
    split at h
    · rcases List.mem_cons.1 h with rfl | h
      · simp
      · have := xK c r [] w h; simp at this ⊢; omega
    · have := xK c r _ w h; simp at this ⊢; omega
theorem aef {c : UInt8} {s w : List UInt8} (h : w ∈ JW c s) : w.length ≤ s.length := by simpa using xK c s [] w h
end Av
end
section
set_option linter.unusedSimpArgs false
set_option linter.unusedVariables false
set_option maxRecDepth 10000
set_option maxHeartbeats 4000000
namespace Av
open Go
attribute [local irreducible] AWp W8 V7 V8 awS awC KI awQ KY Ji XK KE awR XZ awB okR WO ris
def UT (Γ : Env) (f : Nat) : Prop := ∀ (s : List UInt8) (c : UInt8) (hs : s.length < 4294967281), EvC Γ f [V.str s, V.str [c]] (.sl 1 ((JW c s).map V.str))
def jD (Γ : Env) (f : Nat) : Prop := ∀ (s : List UInt8) (c : UInt8) (hs : s.length < 4294967281), EvN Γ f [V.str s, V.str [c]] (V.int ((((JW c s).length - 1 : Nat)) : Int))
def U0 (Γ : Env) (f : Nat) : Prop := ∀ (s : List UInt8) (c : UInt8), EvN Γ f [V.str s, .sc (.int .u8 c.toNat)] (V.int (Lib.indexByte s c))
def Kx (JC YG WX : Nat) : AC := QI [0] (.reg [xo 2 (.mknil 1), mc 3 (V.bool false)]) (QI [0, 4] (.reg [xo 4 (.mknil 1)]) (QI [4] (QI [0, 4, 12, 13, 14] (.reg [cl 12 JC [], ln 13 12, mc 14 (V.int 0)]) (.block 0 (X2 [0, 4, 12, 13, 14] (QI [0, 4, 12, 13, 14, 15] (.reg [bn 15 .lss 14 13]) (QI [0, 4, 12, 13, 14] (.cond (.t 15) (.skip) (.exit 0)) (QI [0, 4, 12, 13, 14] (.block 1 (QI [0, 4, 6, 12, 13, 14] (.reg [ia 16 12 12 14, xo 17 (.load true 12 (.t 16)), xo 6 (.alloc [.val (.int .i64 0), .val (.string ⟨#[]⟩), .val (.int .i64 0), .val (.int .i64 0), .val (.int .i64 0), .val (.int .i64 0), .val (.int .i64 0), .val (.int .i64 0), .val (.int .i64 0), .val (.int .i64 0), .val (.int .i64 0), .val (.int .i64 0)]), xs 12 6 17]) (QI [0, 4, 6, 7, 12, 13, 14] (.reg [mc 7 (V.bool true)]) (QI [0, 4, 6, 7, 12, 13, 14] (QI [0, 4, 6, 7, 12, 13, 14, 19, 20, 21] (.reg [mv 18 0, xo 19 (.call YG [(.t 18), (.c (V.str [43]))]), ln 20 19, mc 21 (V.int 0)]) (.block 2 (X2 [0, 4, 6, 7, 12, 13, 14, 19, 20, 21] (QI [0, 4, 6, 7, 12, 13, 14, 19, 20, 21, 22] (.reg [bn 22 .lss 21 20]) (QI [0, 4, 6, 7, 12, 13, 14, 19, 20, 21] (.cond (.t 22) (.skip) (.exit 2)) (QI [0, 4, 6, 7, 12, 13, 14, 19, 20, 21] (.block 3 (QI [0, 4, 6, 7, 9, 12, 13, 14, 19, 20, 21] (.reg [ia 23 1 19 21, ld 24 1 23, mv 9 24]) (QI [0, 4, 6, 7, 10, 11, 12, 13, 14, 19, 20, 21] (.reg [xo 26 (.load true 12 (.t 6)), mv 27 9, cl 28 WX [26, 27], mv 25 28, ex 29 25 0, ex 30 25 1, mv 10 29, mv 11 30]) (QI [0, 4, 6, 7, 10, 12, 13, 14, 19, 20, 21] (QI [0, 4, 6, 7, 10, 12, 13, 14, 19, 20, 21, 32] (.reg [mv 31 11, xo 32 (.un .not (.t 31))]) (.cond (.t 32) (QI [2, 3] (.reg [xo 2 (.mknil 1), mc 3 (V.bool false)]) (.ret)) (.skip))) (.reg [mv 33 7, mv 34 33, mg 35 10 34 true, xo 36 (.pick (.t 34) (.t 35) (.c (V.bool false))), mv 7 36]))))) (.reg [bc 37 .add 21 (V.int 1), mv 21 37]))))))) (QI [0, 4, 6, 12, 13, 14, 38] (.reg [mv 38 7]) (.cond (.t 38) (.reg [mv 39 4, fa 40 0 6, ld 41 1 40, xo 42 (.bslice 1 1 false [(.int .i64 0)] [(0, (.t 41))]), xo 43 (.append 1 8 [(.int .i64 0)] (.t 39) (.t 42)), mv 4 43]) (.skip))))))) (.reg [bc 44 .add 14 (V.int 1), mv 14 44]))))))) (QI [2, 3] (.reg [mv 45 4, mv 2 45, mc 3 (V.bool true)]) (.ret)))) def r_suitespec_Set : List XG := [.tmp 2, .tmp 3]
def Vl (Γ : Env) (f : Nat) : Prop := ∀ (s : List UInt8) (hs : s.length < 2 ^ 30), EvC Γ f [V.str s] (.tup [.sl 1 ((y5 s).1.map V.int), V.bool (y5 s).2])
theorem wS {Γ : Env} {f JC YG WX : Nat} (h : Has Γ.P f 46 (Kx JC YG WX) r_suitespec_Set) (JA : Wg Γ JC) (Jj : UT Γ YG) (Yc : VX Γ WX) : Vl Γ f := by
  intro s hs
  refine Wy h (by simp) (by simp only [V.closed, QK, and_self]) fun C hC hm => ?_
  subst hC
  unfold Kx
  have hlen := xI 43 s
  have hsp := (Jj s 43 (by omega)).b
  have hset : y5 s = if (JW 43 s).all WL then (Wz (JW 43 s) Jg, true) else ([], false) := rfl
  rw [hset]
  generalize JW 43 s = L at *
  repeat' (first | refine Qp fun K' hK => ?_ | refine Qt fun K' hK => ?_ | refine Qq ?_ | refine Qr ?_ | refine Ql ?_ | ((first | refine Qs ⟨_, rfl, fun hc => ?_, fun hc => ?_⟩ | refine QQ (fun hc => ?_) (fun hc => ?_) | refine QR (fun hc => ?_) (fun hc => ?_)) <;> first | exact Bool.noConfusion hc | ((try simp only [znz] at hc); first | exact znf | skip)) | refine Qv ?_ | refine Qu ?_ | simp (maxSteps := 1000000) only [go_sem, Nat.reduceAdd, Nat.reduceMul, Nat.reduceEqDiff, Nat.reduceLeDiff, Nat.reduceLT, Nat.reduceSub, Int.reduceEq, Int.reduceBEq, Int.reduceLT, Int.reduceLE, Int.reduceAdd, Int.reduceToNat, reduceIte, reduceCtorEq] | (refine hK _ ?_; clear hK; clear K') | refine And.intro ?_ ?_ | (apply QT; (focus first | exact EvC.b JA | exact (Jj _ _ zsd).b | exact (Yc _ _).b)) | exact zlo | omega | exact zms)
  refine Ju (ι := Nat) (fun k => k ≤ 16 ∧ (0 < k → L.all WL = true)) (fun k => J0 [(0, V.str s), (4, .hd 0 0 (Wz L (Jg.take k)).length), (12, .sl 12 (Jg.map QV.v)), (13, V.int 16), (14, V.int k)] [(0, .buf true 1 ((Wz L (Jg.take k)).map V.int))] 1) (fun k => 17 - k) 0 ⟨by omega, fun h => absurd h (by omega)⟩ (Jb [(0, 2000)]) (Jd [(0, 2000)] (by simp only [go_sem, Nat.reduceAdd, Nat.reduceMul, Nat.reduceEqDiff, Nat.reduceLT, Int.reduceToNat, reduceIte, reduceCtorEq, and_true, true_and, implies_true, Option.some.injEq, exists_eq_left', Qk, Qm]; (repeat' (first | rfl | refine And.intro ?_ ?_ | omega | exact fun h => h | exact Exists.intro _ rfl))) (by simp only [go_sem, Nat.reduceAdd, Nat.reduceMul, Nat.reduceEqDiff, Nat.reduceLT, Int.reduceToNat, reduceIte, reduceCtorEq, and_true, true_and, implies_true, Option.some.injEq, exists_eq_left', Qk, Qm]; (repeat' (first | rfl | refine And.intro ?_ ?_ | omega | exact fun h => h | exact Exists.intro _ rfl))) (by simp) (by simp; omega) (by omega)) fun k hk K' hL => ?_
  obtain ⟨hk, hkn⟩ := hk
  rcases hd : Jg.drop k with _ | ⟨x, r⟩
  · have hk16 := YL hd
    rw [XL] at hk16
    have hk16 : k = 16 := by omega
    subst hk16
    have e3 : Jg.take 16 = Jg := List.take_of_length_le (by rw [XL]; omega)
    have hall := hkn (by omega)
    rw [e3, hall]
    repeat' (first | refine Qp fun K' hK => ?_ | refine Qt fun K' hK => ?_ | refine Qq ?_ | refine Qr ?_ | refine Ql ?_ | ((first | refine Qs ⟨_, rfl, fun hc => ?_, fun hc => ?_⟩ | refine QQ (fun hc => ?_) (fun hc => ?_) | refine QR (fun hc => ?_) (fun hc => ?_)) <;> first | exact Bool.noConfusion hc | ((try simp only [znz] at hc); first | exact znf | skip)) | refine Qv ?_ | refine Qu ?_ | simp (maxSteps := 1000000) only [go_sem, Nat.reduceAdd, Nat.reduceMul, Nat.reduceEqDiff, Nat.reduceLeDiff, Nat.reduceLT, Nat.reduceSub, Int.reduceEq, Int.reduceBEq, Int.reduceLT, Int.reduceLE, Int.reduceAdd, Int.reduceToNat, reduceIte, reduceCtorEq, J0] | (refine hK _ ?_; clear hK; clear K') | refine And.intro ?_ ?_ | (apply QT; (focus first | exact EvC.b JA | exact (Jj _ _ zsd).b | exact (Yc _ _).b)) | exact zlo | omega | exact zms)
    all_goals (refine Ja _ rfl ?_; simp only [go_sem, Nat.reduceEqDiff, Nat.reduceAdd, reduceIte, reduceCtorEq]; rw [List.take_of_length_le (by simp)])
  · obtain ⟨hk', hget, hr⟩ := Yf hd
    rw [XL] at hk'
    have hx := List.mem_of_getElem? hget
    have hw := JD (k := k) (by omega)
    have e1 : decide ((k : Int) < 16) = true := by simp; omega
    have hcs := wB L k x hget
    have hol : (Wz L (Jg.take k)).length ≤ 16 := by
      rw [Wz, List.length_map]
      refine Nat.le_trans (List.length_filter_le _ _) ?_
      rw [List.length_take]; omega
    generalize Wz L (Jg.take k) = out at *
    repeat' (first | refine Qp fun K' hK => ?_ | refine Qt fun K' hK => ?_ | refine Qq ?_ | refine Qr ?_ | refine Ql ?_ | ((first | refine Qs ⟨_, rfl, fun hc => ?_, fun hc => ?_⟩ | refine QQ (fun hc => ?_) (fun hc => ?_) | refine QR (fun hc => ?_) (fun hc => ?_)) <;> first | exact Bool.noConfusion hc | ((try simp only [znz] at hc); first | exact znf | skip)) | refine Qv ?_ | refine Qu ?_ | simp (maxSteps := 1000000) only [go_sem, Nat.reduceAdd, Nat.reduceMul, Nat.reduceEqDiff, Nat.reduceLeDiff, Nat.reduceLT, Nat.reduceSub, Int.reduceEq, Int.reduceBEq, Int.reduceLT, Int.reduceLE, Int.reduceAdd, Int.reduceToNat, reduceIte, reduceCtorEq, J0, e1, Int.toNat_natCast, List.getElem?_map, hget, QV.v, QV.cells] | (refine hK _ ?_; clear hK; clear K') | refine And.intro ?_ ?_ | (apply QT; (focus first | exact hsp | exact EvC.b JA | exact (Jj _ _ zsd).b | exact (Yc _ _).b)) | exact zlo | omega | exact zms)
    refine Xb (ι := Nat) (fun j => j ≤ L.length ∧ (L.take j).all WL = true) (fun j => [(7, V.bool ((L.take j).all fun n => X5 n x)), (21, V.int j)]) (fun j => L.length - j) 0 (by omega) ⟨by omega, by simp⟩ (by repeat' first | exact XR | refine WR (by omega) (by simp only [Ob.lt, ltL, V.lt, and_self, and_true]; try omega) ?_) (fun i hi => by simp only [ovT, JV, Nat.reduceEqDiff, reduceIte]; (repeat' first | exact WQ | refine XQ ?_ ?_ | simp only [V.lt, ltL, and_self, and_true] | omega)) (by simp only [Nat.reduceAdd, ovT, JV, Nat.reduceEqDiff, reduceIte, Jr, JQ, qv, u32, u33, u34, u35, u36, u37, u38, u39, and_self, and_true, true_and]; exact ⟨rfl, rfl⟩) fun j hj K'' hL2 => ?_
    obtain ⟨hj, hjk⟩ := hj
    simp only [ovT, JV, Nat.reduceEqDiff, reduceIte]
    rcases hdj : L.drop j with _ | ⟨y, r2⟩
    · have hjl := YL hdj
      have e2 : decide ((j : Int) < (((L.map V.str).length : Nat) : Int)) = false := by simp; omega
      have e3 : L.take j = L := List.take_of_length_le hjl
      rw [e3] at hjk ⊢
      rcases hin : afZ L x with _ | _
      · have hin2 : (L.all fun n => X5 n x) = false := hin
        rw [hin2]
        rw [hin] at hcs
        repeat' (first | refine Qp fun K' hK => ?_ | refine Qt fun K' hK => ?_ | refine Qq ?_ | refine Qr ?_ | refine Ql ?_ | ((first | refine Qs ⟨_, rfl, fun hc => ?_, fun hc => ?_⟩ | refine QQ (fun hc => ?_) (fun hc => ?_) | refine QR (fun hc => ?_) (fun hc => ?_)) <;> first | exact Bool.noConfusion hc | ((try simp only [znz] at hc); first | exact znf | skip)) | refine Qv ?_ | refine Qu ?_ | simp (maxSteps := 1000000) only [go_sem, Nat.reduceAdd, Nat.reduceMul, Nat.reduceEqDiff, Nat.reduceLeDiff, Nat.reduceLT, Nat.reduceSub, Int.reduceEq, Int.reduceBEq, Int.reduceLT, Int.reduceLE, Int.reduceAdd, Int.reduceToNat, reduceIte, reduceCtorEq, e2, hw] | (refine hK _ ?_; clear hK; clear K') | refine And.intro ?_ ?_ | (apply QT; (focus first | exact EvC.b JA | exact (Jj _ _ zsd).b | exact (Yc _ _).b)) | exact zlo | omega | exact zms)
        simp only [Bool.false_eq_true, if_false, List.append_nil] at hcs
        refine hL _ (k + 1) (Jb []) ⟨by omega, fun _ => hjk⟩ (by omega) ?_
        rw [hcs]
        exact Jd [] (by simp only [go_sem, Nat.reduceAdd, Nat.reduceMul, Nat.reduceEqDiff, Nat.reduceLT, Int.reduceToNat, reduceIte, reduceCtorEq, and_true, true_and, implies_true, Option.some.injEq, exists_eq_left', Qk, Qm]; (repeat' (first | rfl | refine And.intro ?_ ?_ | omega | exact fun h => h | exact Exists.intro _ rfl))) (by simp only [go_sem, Nat.reduceAdd, Nat.reduceMul, Nat.reduceEqDiff, Nat.reduceLT, Int.reduceToNat, reduceIte, reduceCtorEq, and_true, true_and, implies_true, Option.some.injEq, exists_eq_left', Qk, Qm]; (repeat' (first | rfl | refine And.intro ?_ ?_ | omega | exact fun h => h | exact Exists.intro _ rfl))) (by simp) (by simp) (by omega)
      · have hin2 : (L.all fun n => X5 n x) = true := hin
        rw [hin2]
        rw [hin] at hcs
        repeat' (first | refine Qp fun K' hK => ?_ | refine Qt fun K' hK => ?_ | refine Qq ?_ | refine Qr ?_ | refine Ql ?_ | ((first | refine Qs ⟨_, rfl, fun hc => ?_, fun hc => ?_⟩ | refine QQ (fun hc => ?_) (fun hc => ?_) | refine QR (fun hc => ?_) (fun hc => ?_)) <;> first | exact Bool.noConfusion hc | ((try simp only [znz] at hc); first | exact znf | skip)) | refine Qv ?_ | refine Qu ?_ | simp (maxSteps := 1000000) only [go_sem, Nat.reduceAdd, Nat.reduceMul, Nat.reduceEqDiff, Nat.reduceLeDiff, Nat.reduceLT, Nat.reduceSub, Int.reduceEq, Int.reduceBEq, Int.reduceLT, Int.reduceLE, Int.reduceAdd, Int.reduceToNat, reduceIte, reduceCtorEq, e2, hw] | (refine hK _ ?_; clear hK; clear K') | refine And.intro ?_ ?_ | (apply QT; (focus first | exact EvC.b JA | exact (Jj _ _ zsd).b | exact (Yc _ _).b)) | exact zlo | omega | exact zms)
        rw [if_pos rfl] at hcs
        have hb : List.take out.length (List.map V.int out) ++ [V.int x.code] = (out ++ [x.code]).map V.int := by
          rw [List.take_of_length_le (by simp), List.map_append]; rfl
        have hln : out.length + 1 = (out ++ [x.code]).length := by simp
        rw [hb, hln]
        refine hL _ (k + 1) (Jb [(0, 16001)]) ⟨by omega, fun _ => hjk⟩ (by omega) ?_
        rw [hcs]
        exact Jd [(0, 16001)] (by simp only [go_sem, Nat.reduceAdd, Nat.reduceMul, Nat.reduceEqDiff, Nat.reduceLT, Int.reduceToNat, reduceIte, reduceCtorEq, and_true, true_and, implies_true, Option.some.injEq, exists_eq_left', Qk, Qm]; (repeat' (first | rfl | refine And.intro ?_ ?_ | omega | exact fun h => h | exact Exists.intro _ rfl))) (by simp only [go_sem, Nat.reduceAdd, Nat.reduceMul, Nat.reduceEqDiff, Nat.reduceLT, Int.reduceToNat, reduceIte, reduceCtorEq, and_true, true_and, implies_true, Option.some.injEq, exists_eq_left', Qk, Qm]; (repeat' (first | rfl | refine And.intro ?_ ?_ | omega | exact fun h => h | exact Exists.intro _ rfl))) (by simp) (by simp; omega) (by omega)
    · obtain ⟨hj', hgj, hrj⟩ := Yf hdj
      have hwj := JD (k := j) (by omega)
      have e2 : decide ((j : Int) < (((L.map V.str).length : Nat) : Int)) = true := by simp; omega
      have hall : ((L.take (j + 1)).all fun n => X5 n x) = (((L.take j).all fun n => X5 n x) && X5 y x) := by
        rw [List.take_add_one, hgj]; simp
      have hnm := (Yc x y).b
      have h1 := aeB hx y
      have h2 := adj (n := y) (s := x)
      simp only [aeo, ← h1, h2, QV.v, QV.cells] at hnm
      rcases hy : WL y with _ | _
      · rw [hy] at hnm
        have e3 : L.all WL = false := by
          rw [List.all_eq_false]; exact ⟨y, List.mem_of_getElem? hgj, by simp [hy]⟩
        rw [e3]
        repeat' (first | refine Qp fun K' hK => ?_ | refine Qt fun K' hK => ?_ | refine Qq ?_ | refine Qr ?_ | refine Ql ?_ | ((first | refine Qs ⟨_, rfl, fun hc => ?_, fun hc => ?_⟩ | refine QQ (fun hc => ?_) (fun hc => ?_) | refine QR (fun hc => ?_) (fun hc => ?_)) <;> first | exact Bool.noConfusion hc | ((try simp only [znz] at hc); first | exact znf | skip)) | refine Qv ?_ | refine Qu ?_ | simp (maxSteps := 1000000) only [go_sem, Nat.reduceAdd, Nat.reduceMul, Nat.reduceEqDiff, Nat.reduceLeDiff, Nat.reduceLT, Nat.reduceSub, Int.reduceEq, Int.reduceBEq, Int.reduceLT, Int.reduceLE, Int.reduceAdd, Int.reduceToNat, reduceIte, reduceCtorEq, e2, hwj, Int.toNat_natCast, List.getElem?_map, hgj] | (refine hK _ ?_; clear hK; clear K') | refine And.intro ?_ ?_ | (apply QT; (focus first | exact hnm | exact EvC.b JA | exact (Jj _ _ zsd).b | exact (Yc _ _).b)) | exact zlo | omega | exact zms)
        all_goals (refine Ja _ rfl ?_; simp only [go_sem, Nat.reduceEqDiff, Nat.reduceAdd, reduceIte, reduceCtorEq]; first | done | rfl | exact ⟨_, _, rfl⟩ | trace_state)
      · rw [hy] at hnm
        have hjk2 : (L.take (j + 1)).all WL = true := by rw [List.take_add_one, hgj]; simp [hy]; simpa using hjk
        rcases hb : ((L.take j).all fun n => X5 n x) with _ | _
        · rw [hb, Bool.false_and] at hall
          repeat' (first | refine Qp fun K' hK => ?_ | refine Qt fun K' hK => ?_ | refine Qq ?_ | refine Qr ?_ | refine Ql ?_ | ((first | refine Qs ⟨_, rfl, fun hc => ?_, fun hc => ?_⟩ | refine QQ (fun hc => ?_) (fun hc => ?_) | refine QR (fun hc => ?_) (fun hc => ?_)) <;> first | exact Bool.noConfusion hc | ((try simp only [znz] at hc); first | exact znf | skip)) | refine Qv ?_ | refine Qu ?_ | simp (maxSteps := 1000000) only [go_sem, Nat.reduceAdd, Nat.reduceMul, Nat.reduceEqDiff, Nat.reduceLeDiff, Nat.reduceLT, Nat.reduceSub, Int.reduceEq, Int.reduceBEq, Int.reduceLT, Int.reduceLE, Int.reduceAdd, Int.reduceToNat, reduceIte, reduceCtorEq, e2, hwj, Int.toNat_natCast, List.getElem?_map, hgj] | (refine hK _ ?_; clear hK; clear K') | refine And.intro ?_ ?_ | (apply QT; (focus first | exact hnm | exact EvC.b JA | exact (Jj _ _ zsd).b | exact (Yc _ _).b)) | exact zlo | omega | exact zms)
          all_goals exact hL2 _ (j + 1) (by rw [hall]; simp only [Nat.reduceAdd, ovT, JV, Nat.reduceEqDiff, reduceIte, Jr, JQ, qv, u32, u33, u34, u35, u36, u37, u38, u39, and_self, and_true, true_and]) ⟨by omega, hjk2⟩ (by omega) (fun a ha => by simp only [u32, u33, u34, u35, u36, u37, u38, u39]; repeat rw [if_neg (by omega)])
        · rw [hb, Bool.true_and] at hall
          repeat' (first | refine Qp fun K' hK => ?_ | refine Qt fun K' hK => ?_ | refine Qq ?_ | refine Qr ?_ | refine Ql ?_ | ((first | refine Qs ⟨_, rfl, fun hc => ?_, fun hc => ?_⟩ | refine QQ (fun hc => ?_) (fun hc => ?_) | refine QR (fun hc => ?_) (fun hc => ?_)) <;> first | exact Bool.noConfusion hc | ((try simp only [znz] at hc); first | exact znf | skip)) | refine Qv ?_ | refine Qu ?_ | simp (maxSteps := 1000000) only [go_sem, Nat.reduceAdd, Nat.reduceMul, Nat.reduceEqDiff, Nat.reduceLeDiff, Nat.reduceLT, Nat.reduceSub, Int.reduceEq, Int.reduceBEq, Int.reduceLT, Int.reduceLE, Int.reduceAdd, Int.reduceToNat, reduceIte, reduceCtorEq, e2, hwj, Int.toNat_natCast, List.getElem?_map, hgj] | (refine hK _ ?_; clear hK; clear K') | refine And.intro ?_ ?_ | (apply QT; (focus first | exact hnm | exact EvC.b JA | exact (Jj _ _ zsd).b | exact (Yc _ _).b)) | exact zlo | omega | exact zms)
          all_goals exact hL2 _ (j + 1) (by rw [hall]; simp only [Nat.reduceAdd, ovT, JV, Nat.reduceEqDiff, reduceIte, Jr, JQ, qv, u32, u33, u34, u35, u36, u37, u38, u39, and_self, and_true, true_and]) ⟨by omega, hjk2⟩ (by omega) (fun a ha => by simp only [u32, u33, u34, u35, u36, u37, u38, u39]; repeat rw [if_neg (by omega)])
end Av
end

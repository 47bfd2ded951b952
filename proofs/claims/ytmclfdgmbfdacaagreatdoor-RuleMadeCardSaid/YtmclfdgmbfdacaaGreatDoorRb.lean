/- Rb -/
import Derived.Test.YtmclfdgmbfdacaaGreatDoorRa
set_option linter.unusedVariables false
set_option linter.unusedSimpArgs false
section
set_option linter.unusedSimpArgs false
set_option linter.unusedVariables false
set_option maxRecDepth 10000
set_option maxHeartbeats 4000000
namespace Av
open Go
attribute [local irreducible] AWp XV WG WJ awS awC VK awQ V4 Jq Xf VH awR Xk awB okR XT ris
abbrev Pol := List Qp × List Qs × Int × Int
def ahz (p : Pol) : V := .tup [ae0 p.1 p.2.1, V.int p.2.2.1, V.int p.2.2.2]
theorem acY (p : Pol) : (ahz p).closed := by simp only [ahz, V.closed, Qq, and_self]
def ahI (s : List UInt8) : Bool := match s with | [] => true | c :: _ => c == 35
def ag2 (s : List UInt8) (i w : Int) (rs : List Qp) (ks : List Qs) : Int := if w = 0 ∧ WQ ((yP s rs ks).2.1.drop rs.length) ((yP s rs ks).2.2.drop ks.length) ≠ 0 then i + 1 else w
def goL : List (List UInt8) → Nat → Int → List Qp → List Qs → Pol
  | [], _, w, rs, ks => if w > 0 then ([], [], w, 25) else if rs.length > 60 ∨ ks.length > 60 then ([], [], 0, 3) else (rs, ks, 0, 0)
  | s :: r, i, w, rs, ks =>
    if ahI s = true then goL r (i + 1) w rs ks
    else if (yP s rs ks).1 = true then goL r (i + 1) (ag2 s i w rs ks) (yP s rs ks).2.1 (yP s rs ks).2.2
    else ([], [], (i : Int) + 1, 1)
def wg (s : List UInt8) : Pol := if s.length > 8192 ∨ (Y8 10 s).length - 1 > 200 then ([], [], 0, 3) else goL (Y8 10 s) 0 0 [] []
theorem afl (s : List UInt8) (rs : List Qp) (ks : List Qs) : rs.length ≤ (yP s rs ks).2.1.length ∧ (yP s rs ks).2.1.length ≤ rs.length + 1 ∧ ks.length ≤ (yP s rs ks).2.2.length ∧ (yP s rs ks).2.2.length ≤ ks.length + 1 := by
  rw [yP]; split
  · simp
  · split <;> simp
def qi : List AO := [fa 35 0 5, ld 36 1 35, ln 37 36, fa 38 1 5, ld 39 1 38, ln 40 39, mv 9 37, mv 10 40]
def qz : List (List Nat) := [[], [0], [1], [], [3], [4], [2, 0, 1, 2], [5, 6, 0, 1, 2, 3, 4, 5, 6]]
def qd : OT := .one 0 (.one 1 (.one 2 (.one 3 (.one 4 (.one 5 (.one 6 (.one 7 (.done))))))))
def Yh : OP := .one 0 false [] (fa 35 0 5) (.one 1 false [] (ld 36 1 35) (.one 2 false [] (ln 37 36) (.one 3 false [] (fa 38 1 5) (.one 4 false [] (ld 39 1 38) (.one 5 false [] (ln 40 39) (.one 6 false [] (mv 9 37) (.one 7 false [] (mv 10 40) (.done))))))))
theorem Jp : okR (qi) qz [] qd = true := by kernel_rfl
theorem Jn : XT (ris (qi) qz []) qd = Yh := by kernel_rfl
def qh (Jj : Nat) : List AO := [mv 47 6, bc 48 .eql 47 (V.int 0), mv 49 48, xg 50 (.faddr 0 (.t 5)) 49 true, xg 51 (.load false 1 (.t 50)) 49 true, mg 52 9 49 true, xg 53 (.slsl 6 (.t 51) (some (.t 52)) none) 49 true, xg 54 (.faddr 1 (.t 5)) 49 true, xg 55 (.load false 1 (.t 54)) 49 true, mg 56 10 49 true, xg 57 (.slsl 2 (.t 55) (some (.t 56)) none) 49 true, xg 58 (.build [(.slice none 0 0), (.slice none 0 0)] [(0, 1, (.t 53)), (1, 1, (.t 57))]) 49 true, xg 59 (.call Jj [(.t 58)]) 49 true, xg 60 (.bin .neq (.t 59) (.c (V.int 0))) 49 true, xo 61 (.pick (.t 49) (.t 60) (.c (V.bool false)))]
def qy : List (List Nat) := [[], [0], [1], [2], [3, 2], [2], [4, 5, 2], [2], [7, 2], [2], [8, 9, 2], [6, 10, 2], [11, 2, 2], [12, 2], [2, 13]]
def qc : OT := .one 0 (.one 1 (.one 2 (.one 3 (.one 4 (.one 5 (.one 6 (.one 7 (.one 8 (.one 9 (.one 10 (.one 11 (.or 12 (.one 13 (.one 14 (.done))) (.done)))))))))))))
def Yg (Jj : Nat) : OP := .one 0 false [] (mv 47 6) (.one 1 false [] (bc 48 .eql 47 (V.int 0)) (.one 2 false [] (mv 49 48) (.one 3 false [] (xg 50 (.faddr 0 (.t 5)) 49 true) (.one 4 false [] (xg 51 (.load false 1 (.t 50)) 49 true) (.one 5 false [] (mg 52 9 49 true) (.one 6 false [] (xg 53 (.slsl 6 (.t 51) (some (.t 52)) none) 49 true) (.one 7 false [] (xg 54 (.faddr 1 (.t 5)) 49 true) (.one 8 false [] (xg 55 (.load false 1 (.t 54)) 49 true) (.one 9 false [] (mg 56 10 49 true) (.one 10 false [] (xg 57 (.slsl 2 (.t 55) (some (.t 56)) none) 49 true) (.one 11 false [] (xg 58 (.build [(.slice none 0 0), (.slice none 0 0)] [(0, 1, (.t 53)), (1, 1, (.t 57))]) 49 true) (.or 12 false [] (xg 59 (.call Jj [(.t 58)]) 49 true) (.one 13 false [12] (xg 60 (.bin .neq (.t 59) (.c (V.int 0))) 49 true) (.one 14 false [12] (xo 61 (.pick (.t 49) (.t 60) (.c (V.bool false)))) (.done))) (.done)))))))))))))
theorem Jo (Jj : Nat) : okR (qh Jj) qy [] qc = true := by kernel_rfl
theorem Jm (Jj : Nat) : XT (ris (qh Jj) qy []) qc = Yg Jj := by kernel_rfl def c_rule_Parse (VZ Xj jk Jj : Nat) : AC := QR [0, 2] (.reg [xo 2 (.alloc [.nil 6, .nil 2]), mc 3 (V.int 0), mc 4 (V.int 0)]) (QR [0, 2] (QR [0, 2, 18] (.reg [mv 11 0, xo 12 (.lenS (.t 11)), bc 13 .gtr 12 (V.int 8192), mv 14 13, mg 15 0 14 false, xg 16 (.call VZ [(.t 15), (.c (V.str [10]))]) 14 false, xg 17 (.bin .gtr (.t 16) (.c (V.int 200))) 14 false, xo 18 (.pick (.t 14) (.c (V.bool true)) (.t 17))]) (.cond (.t 18) (QR [2, 3, 4] (.reg [xo 19 (.build [(.slice none 0 0), (.slice none 0 0)] []), xs 2 2 19, mc 3 (V.int 0), mc 4 (V.int 3)]) (.ret)) (.skip))) (QR [0, 2, 5] (.reg [xo 5 (.alloc [.nil 6, .nil 2])]) (QR [0, 2, 5, 6] (.reg [mc 6 (V.int 0)]) (QR [2, 5, 6] (QR [2, 5, 6, 21, 22, 23] (.reg [mv 20 0, xo 21 (.call Xj [(.t 20), (.c (V.str [10]))]), ln 22 21, mc 23 (V.int 0)]) (.block 0 (Kv [2, 5, 6, 21, 22, 23] (QR [2, 5, 6, 21, 22, 23, 24] (.reg [bn 24 .lss 23 22]) (QR [2, 5, 6, 21, 22, 23] (.cond (.t 24) (.skip) (.exit 0)) (QR [2, 5, 6, 21, 22, 23] (.block 1 (QR [2, 5, 6, 7, 8, 21, 22, 23] (.reg [mv 25 23, ia 26 1 21 23, ld 27 1 26, mv 7 25, mv 8 27]) (QR [2, 5, 6, 7, 8, 21, 22, 23] (QR [2, 5, 6, 7, 8, 21, 22, 23, 34] (.reg [mv 28 8, bc 29 .eql 28 (V.str []), mv 30 29, mg 31 8 30 false, xg 32 (.idxS (.t 31) (.c (V.int 0))) 30 false, xg 33 (.bin .eql (.t 32) (.c (.sc (.int .u8 35)))) 30 false, xo 34 (.pick (.t 30) (.c (V.bool true)) (.t 33))]) (.cond (.t 34) (.exit 1) (.skip))) (QR [2, 5, 6, 7, 8, 9, 10, 21, 22, 23] (yO [] qd (Yh) (qi) qz) (QR [2, 5, 6, 7, 9, 10, 21, 22, 23] (QR [2, 5, 6, 7, 9, 10, 21, 22, 23, 43] (.reg [mv 41 8, cl 42 jk [5, 41], xo 43 (.un .not (.t 42))]) (.cond (.t 43) (QR [2, 3, 4] (.reg [xo 44 (.build [(.slice none 0 0), (.slice none 0 0)] []), mv 45 7, bc 46 .add 45 (V.int 1), xs 2 2 44, mv 3 46, mc 4 (V.int 1)]) (.ret)) (.skip))) (QR [2, 5, 6, 7, 21, 22, 23, 61] (yO [] qc (Yg Jj) (qh Jj) qy) (.cond (.t 61) (.reg [mv 62 7, bc 63 .add 62 (V.int 1), mv 6 63]) (.skip)))))))) (.reg [bc 64 .add 23 (V.int 1), mv 23 64]))))))) (QR [2, 5] (.block 2 (QR [2, 5, 6, 65] (.reg [mv 66 6, bc 67 .gtr 66 (V.int 0), mv 65 67]) (.cond (.t 65) (QR [2, 3, 4] (.reg [xo 68 (.build [(.slice none 0 0), (.slice none 0 0)] []), mv 69 6, xs 2 2 68, mv 3 69, mc 4 (V.int 25)]) (.ret)) (QR [2, 5, 70] (.reg [fa 71 0 5, ld 72 1 71, ln 73 72, bc 74 .gtr 73 (V.int 60), mv 75 74, xg 76 (.faddr 1 (.t 5)) 75 false, xg 77 (.load false 1 (.t 76)) 75 false, xg 78 (.lenL (.t 77)) 75 false, xg 79 (.bin .gtr (.t 78) (.c (V.int 60))) 75 false, xo 80 (.pick (.t 75) (.c (V.bool true)) (.t 79)), mv 70 80]) (.cond (.t 70) (QR [2, 3, 4] (.reg [xo 81 (.build [(.slice none 0 0), (.slice none 0 0)] []), xs 2 2 81, mc 3 (V.int 0), mc 4 (V.int 3)]) (.ret)) (.skip)))))) (QR [2, 3, 4] (.reg [xo 82 (.load true 2 (.t 5)), xs 2 2 82, mc 3 (V.int 0), mc 4 (V.int 0)]) (.ret))))))) def r_rule_Parse : List XY := [.cell 2 true 2, .tmp 3, .tmp 4]
def jD (Γ : Env) (f : Nat) : Prop := ∀ (s : List UInt8) (hs : s.length < 2 ^ 30), EvC Γ f [V.str s] (ahz (wg s))
theorem abs {Γ : Env} {f VZ Xj jk Jj : Nat} (h : Has Γ.P f 83 (c_rule_Parse VZ Xj jk Jj) r_rule_Parse) (Yf : jR Γ VZ) (JI : Kc Γ Xj) (Xi : yn Γ jk) (QL : Ub Γ Jj) : jD Γ f := by
  intro s hs
  refine jo h (by simp) (acY _) fun C hC hm => ?_
  subst hC
  unfold c_rule_Parse
  have hct := (Yf s 10 (by omega)).b
  have hsp := (JI s 10 (by omega)).b
  have hpos : 1 ≤ (Y8 10 s).length := by
    have : Y8 10 s ≠ [] := abQ _ _ _
    rcases h : Y8 10 s with _ | ⟨a, b⟩
    · exact absurd h this
    · simp
  by_cases h1 : s.length > 8192
  · have e1 : decide ((s.length : Int) > 8192) = true := by simp; omega
    have e2 : wg s = ([], [], 0, 3) := by rw [wg, if_pos (.inl h1)]
    rw [e2, ahz]
    repeat' (first | refine Qf fun K' hK => ?_ | refine Qi fun K' hK => ?_ | refine Qb 8 (fun _ => true) rfl (Jp) (Jn) fun K' hK => ?_ | refine Qc 8 (fun _ => true) rfl (Jp) (Jn) fun K' hK => ?_ | refine Qb 15 (fun _ => true) rfl (Jo _) (Jm _) fun K' hK => ?_ | refine Qc 15 (fun _ => true) rfl (Jo _) (Jm _) fun K' hK => ?_ | refine Qg ?_ | refine Qh ?_ | refine Qa ?_ | ((first | refine Qk ⟨_, rfl, fun hc => ?_, fun hc => ?_⟩ | refine QM (fun hc => ?_) (fun hc => ?_) | refine QN (fun hc => ?_) (fun hc => ?_)) <;> first | exact Bool.noConfusion hc | ((try simp only [znz] at hc); first | exact znf | skip)) | refine Qo ?_ | refine Qj ?_ | simp (maxSteps := 1000000) only [go_sem, Nat.reduceAdd, Nat.reduceMul, Nat.reduceEqDiff, Nat.reduceLeDiff, Nat.reduceLT, Nat.reduceSub, Int.reduceEq, Int.reduceBEq, Int.reduceLT, Int.reduceLE, Int.reduceAdd, Int.reduceToNat, reduceIte, reduceCtorEq, e1, Yh, Yg] | (refine hK _ ?_; clear hK; clear K') | refine And.intro ?_ ?_ | (apply qN; (focus exact rfl); (focus exact rfl); (focus exact rfl); (focus first | exact (Xi _ _ _ zsd zsd zsd)); (focus exact rfl); (focus (simp; done)); (focus (simp; done))) | ((first | apply QS | apply QT); (focus first | exact (Yf _ _ zsd).b | exact (JI _ _ zsd).b | exact (QL _ _ zsd zsd).b)) | exact zlo | omega | exact zms)
    all_goals (refine QQ _ rfl ?_; simp only [go_sem, Nat.reduceEqDiff, Nat.reduceAdd, reduceIte, reduceCtorEq]; first | rfl | (simp; done) | trace_state)
  have e1 : decide ((s.length : Int) > 8192) = false := by simp; omega
  by_cases h3 : (Y8 10 s).length - 1 > 200
  · have e2 : wg s = ([], [], 0, 3) := by rw [wg, if_pos (.inr h3)]
    have e4 : decide (((((Y8 10 s).length - 1 : Nat)) : Int) > 200) = true := by simp; omega
    rw [e2, ahz]
    repeat' (first | refine Qf fun K' hK => ?_ | refine Qi fun K' hK => ?_ | refine Qb 8 (fun _ => true) rfl (Jp) (Jn) fun K' hK => ?_ | refine Qc 8 (fun _ => true) rfl (Jp) (Jn) fun K' hK => ?_ | refine Qb 15 (fun _ => true) rfl (Jo _) (Jm _) fun K' hK => ?_ | refine Qc 15 (fun _ => true) rfl (Jo _) (Jm _) fun K' hK => ?_ | refine Qg ?_ | refine Qh ?_ | refine Qa ?_ | ((first | refine Qk ⟨_, rfl, fun hc => ?_, fun hc => ?_⟩ | refine QM (fun hc => ?_) (fun hc => ?_) | refine QN (fun hc => ?_) (fun hc => ?_)) <;> first | exact Bool.noConfusion hc | ((try simp only [znz] at hc); first | exact znf | skip)) | refine Qo ?_ | refine Qj ?_ | simp (maxSteps := 1000000) only [go_sem, Nat.reduceAdd, Nat.reduceMul, Nat.reduceEqDiff, Nat.reduceLeDiff, Nat.reduceLT, Nat.reduceSub, Int.reduceEq, Int.reduceBEq, Int.reduceLT, Int.reduceLE, Int.reduceAdd, Int.reduceToNat, reduceIte, reduceCtorEq, e1, e4, Yh, Yg] | (refine hK _ ?_; clear hK; clear K') | refine And.intro ?_ ?_ | (apply qN; (focus exact rfl); (focus exact rfl); (focus exact rfl); (focus first | exact (Xi _ _ _ zsd zsd zsd)); (focus exact rfl); (focus (simp; done)); (focus (simp; done))) | ((first | apply QS | apply QT); (focus first | exact hct | exact (Yf _ _ zsd).b | exact (JI _ _ zsd).b | exact (QL _ _ zsd zsd).b)) | exact zlo | omega | exact zms)
    all_goals (refine QQ _ rfl ?_; simp only [go_sem, Nat.reduceEqDiff, Nat.reduceAdd, reduceIte, reduceCtorEq]; first | rfl | (simp; done) | trace_state)
  have e2 : wg s = goL (Y8 10 s) 0 0 [] [] := by rw [wg, if_neg (by omega)]
  have e4 : decide (((((Y8 10 s).length - 1 : Nat)) : Int) > 200) = false := by simp; omega
  rw [e2, ahz]
  have hmem : ∀ w ∈ Y8 10 s, w.length < 2 ^ 30 := fun w hw => by have := aaD hw; omega
  generalize Y8 10 s = ws at *
  repeat' (first | refine Qf fun K' hK => ?_ | refine Qi fun K' hK => ?_ | refine Qb 8 (fun _ => true) rfl (Jp) (Jn) fun K' hK => ?_ | refine Qc 8 (fun _ => true) rfl (Jp) (Jn) fun K' hK => ?_ | refine Qb 15 (fun _ => true) rfl (Jo _) (Jm _) fun K' hK => ?_ | refine Qc 15 (fun _ => true) rfl (Jo _) (Jm _) fun K' hK => ?_ | refine Qg ?_ | refine Qh ?_ | refine Qa ?_ | ((first | refine Qk ⟨_, rfl, fun hc => ?_, fun hc => ?_⟩ | refine QM (fun hc => ?_) (fun hc => ?_) | refine QN (fun hc => ?_) (fun hc => ?_)) <;> first | exact Bool.noConfusion hc | ((try simp only [znz] at hc); first | exact znf | skip)) | refine Qo ?_ | refine Qj ?_ | simp (maxSteps := 1000000) only [go_sem, Nat.reduceAdd, Nat.reduceMul, Nat.reduceEqDiff, Nat.reduceLeDiff, Nat.reduceLT, Nat.reduceSub, Int.reduceEq, Int.reduceBEq, Int.reduceLT, Int.reduceLE, Int.reduceAdd, Int.reduceToNat, reduceIte, reduceCtorEq, e1, e4, Yh, Yg] | (refine hK _ ?_; clear hK; clear K') | refine And.intro ?_ ?_ | (apply qN; (focus exact rfl); (focus exact rfl); (focus exact rfl); (focus first | exact (Xi _ _ _ zsd zsd zsd)); (focus exact rfl); (focus (simp; done)); (focus (simp; done))) | ((first | apply QS | apply QT); (focus first | exact hct | exact hsp | exact (Yf _ _ zsd).b | exact (JI _ _ zsd).b | exact (QL _ _ zsd zsd).b)) | exact zlo | omega | exact zms)
  refine Wa (ι := Nat × Int × List Qp × List Qs) (fun q => q.1 ≤ ws.length ∧ (0 ≤ q.2.1 ∧ q.2.1 ≤ q.1) ∧ q.2.2.1.length ≤ q.1 ∧ q.2.2.2.length ≤ q.1 ∧ goL (ws.drop q.1) q.1 q.2.1 q.2.2.1 q.2.2.2 = goL ws 0 0 [] [])
    (fun q => JJ [(2, .ptr 0 0), (5, .ptr 3 0), (6, V.int q.2.1), (21, .sl 1 (ws.map V.str)), (22, V.int (ws.map V.str).length), (23, V.int q.1)] [(0, .box true [.hd 1 0 0, .hd 2 0 0]), (1, .buf true 6 []), (2, .buf true 2 []), (3, .box true [.hd 4 0 (q.2.2.1.map Qp.v).length, .hd 5 0 (q.2.2.2.map Qs.v).length]), (4, .buf true 6 (q.2.2.1.map Qp.v)), (5, .buf true 2 (q.2.2.2.map Qs.v))] 6)
    (fun q => ws.length - q.1) (0, 0, [], []) ⟨by simp, by simp, by simp, by simp, by simp⟩ (QZ [(3, 11000), (4, 11001), (5, 11002)]) (JK [(3, 11000), (4, 11001), (5, 11002)] (by simp only [go_sem, Nat.reduceAdd, Nat.reduceMul, Nat.reduceEqDiff, Nat.reduceLT, Int.reduceToNat, reduceIte, reduceCtorEq, and_true, true_and, implies_true, Option.some.injEq, exists_eq_left', Qd, Qm]; (repeat' (first | rfl | refine And.intro ?_ ?_ | omega | exact fun h => h | exact Exists.intro _ rfl))) (by simp only [List.map_nil, List.length_nil]; simp only [go_sem, Nat.reduceAdd, Nat.reduceMul, Nat.reduceEqDiff, Nat.reduceLT, Int.reduceToNat, reduceIte, reduceCtorEq, and_true, true_and, implies_true, Option.some.injEq, exists_eq_left', Qd, Qm]; (repeat' (first | rfl | refine And.intro ?_ ?_ | omega | exact fun h => h | exact Exists.intro _ rfl))) (by simp [QZ]) (by simp; omega) (by omega)) fun q hq K' hL => ?_
  obtain ⟨k, w, rs, ks⟩ := q
  obtain ⟨q1, ⟨q2, q3⟩, q4, q5, hinv⟩ := hq
  simp only at q1 q2 q3 q4 q5 hinv
  simp only
  rcases hd : ws.drop k with _ | ⟨x, r⟩
  · have hk := XU hd
    rw [hd, goL] at hinv
    rw [← hinv]
    have e5 : decide ((k : Int) < (((ws.map V.str).length : Nat) : Int)) = false := by simp; omega
    by_cases hw : w > 0
    · have e6 : decide (w > 0) = true := decide_eq_true hw
      rw [if_pos hw]
      repeat' (first | refine Qf fun K' hK => ?_ | refine Qi fun K' hK => ?_ | refine Qb 8 (fun _ => true) rfl (Jp) (Jn) fun K' hK => ?_ | refine Qc 8 (fun _ => true) rfl (Jp) (Jn) fun K' hK => ?_ | refine Qb 15 (fun _ => true) rfl (Jo _) (Jm _) fun K' hK => ?_ | refine Qc 15 (fun _ => true) rfl (Jo _) (Jm _) fun K' hK => ?_ | refine Qg ?_ | refine Qh ?_ | refine Qa ?_ | ((first | refine Qk ⟨_, rfl, fun hc => ?_, fun hc => ?_⟩ | refine QM (fun hc => ?_) (fun hc => ?_) | refine QN (fun hc => ?_) (fun hc => ?_)) <;> first | exact Bool.noConfusion hc | ((try simp only [znz] at hc); first | exact znf | skip)) | refine Qo ?_ | refine Qj ?_ | simp (maxSteps := 1000000) only [go_sem, Nat.reduceAdd, Nat.reduceMul, Nat.reduceEqDiff, Nat.reduceLeDiff, Nat.reduceLT, Nat.reduceSub, Int.reduceEq, Int.reduceBEq, Int.reduceLT, Int.reduceLE, Int.reduceAdd, Int.reduceToNat, reduceIte, reduceCtorEq, JJ, e5, e6, Yh, Yg] | (refine hK _ ?_; clear hK; clear K') | refine And.intro ?_ ?_ | (apply qN; (focus exact rfl); (focus exact rfl); (focus exact rfl); (focus first | exact (Xi _ _ _ zsd zsd zsd)); (focus exact rfl); (focus (simp; done)); (focus (simp; done))) | ((first | apply QS | apply QT); (focus first | exact (Yf _ _ zsd).b | exact (JI _ _ zsd).b | exact (QL _ _ zsd zsd).b)) | exact zlo | omega | exact zms)
      all_goals (refine QQ _ rfl ?_; simp only [go_sem, Nat.reduceEqDiff, Nat.reduceAdd, reduceIte, reduceCtorEq]; first | rfl | (simp; done) | trace_state)
    · have e6 : decide (w > 0) = false := decide_eq_false hw
      rw [if_neg hw]
      have e7 : decide ((((rs.map Qp.v).length : Nat) : Int) > 60) = decide (rs.length > 60) := by rw [List.length_map]; apply decide_eq_decide.2; omega
      have e8 : decide ((((ks.map Qs.v).length : Nat) : Int) > 60) = decide (ks.length > 60) := by rw [List.length_map]; apply decide_eq_decide.2; omega
      by_cases h7 : rs.length > 60
      · rw [if_pos (.inl h7)]
        rw [decide_eq_true h7] at e7
        repeat' (first | refine Qf fun K' hK => ?_ | refine Qi fun K' hK => ?_ | refine Qb 8 (fun _ => true) rfl (Jp) (Jn) fun K' hK => ?_ | refine Qc 8 (fun _ => true) rfl (Jp) (Jn) fun K' hK => ?_ | refine Qb 15 (fun _ => true) rfl (Jo _) (Jm _) fun K' hK => ?_ | refine Qc 15 (fun _ => true) rfl (Jo _) (Jm _) fun K' hK => ?_ | refine Qg ?_ | refine Qh ?_ | refine Qa ?_ | ((first | refine Qk ⟨_, rfl, fun hc => ?_, fun hc => ?_⟩ | refine QM (fun hc => ?_) (fun hc => ?_) | refine QN (fun hc => ?_) (fun hc => ?_)) <;> first | exact Bool.noConfusion hc | ((try simp only [znz] at hc); first | exact znf | skip)) | refine Qo ?_ | refine Qj ?_ | simp (maxSteps := 1000000) only [go_sem, Nat.reduceAdd, Nat.reduceMul, Nat.reduceEqDiff, Nat.reduceLeDiff, Nat.reduceLT, Nat.reduceSub, Int.reduceEq, Int.reduceBEq, Int.reduceLT, Int.reduceLE, Int.reduceAdd, Int.reduceToNat, reduceIte, reduceCtorEq, JJ, e5, e6, e7, Yh, Yg] | (refine hK _ ?_; clear hK; clear K') | refine And.intro ?_ ?_ | (apply qN; (focus exact rfl); (focus exact rfl); (focus exact rfl); (focus first | exact (Xi _ _ _ zsd zsd zsd)); (focus exact rfl); (focus (simp; done)); (focus (simp; done))) | ((first | apply QS | apply QT); (focus first | exact (Yf _ _ zsd).b | exact (JI _ _ zsd).b | exact (QL _ _ zsd zsd).b)) | exact zlo | omega | exact zms)
        all_goals (refine QQ _ rfl ?_; simp only [go_sem, Nat.reduceEqDiff, Nat.reduceAdd, reduceIte, reduceCtorEq]; first | rfl | (simp; done) | trace_state)
      · rw [decide_eq_false h7] at e7
        by_cases h8 : ks.length > 60
        · rw [if_pos (.inr h8)]
          rw [decide_eq_true h8] at e8
          repeat' (first | refine Qf fun K' hK => ?_ | refine Qi fun K' hK => ?_ | refine Qb 8 (fun _ => true) rfl (Jp) (Jn) fun K' hK => ?_ | refine Qc 8 (fun _ => true) rfl (Jp) (Jn) fun K' hK => ?_ | refine Qb 15 (fun _ => true) rfl (Jo _) (Jm _) fun K' hK => ?_ | refine Qc 15 (fun _ => true) rfl (Jo _) (Jm _) fun K' hK => ?_ | refine Qg ?_ | refine Qh ?_ | refine Qa ?_ | ((first | refine Qk ⟨_, rfl, fun hc => ?_, fun hc => ?_⟩ | refine QM (fun hc => ?_) (fun hc => ?_) | refine QN (fun hc => ?_) (fun hc => ?_)) <;> first | exact Bool.noConfusion hc | ((try simp only [znz] at hc); first | exact znf | skip)) | refine Qo ?_ | refine Qj ?_ | simp (maxSteps := 1000000) only [go_sem, Nat.reduceAdd, Nat.reduceMul, Nat.reduceEqDiff, Nat.reduceLeDiff, Nat.reduceLT, Nat.reduceSub, Int.reduceEq, Int.reduceBEq, Int.reduceLT, Int.reduceLE, Int.reduceAdd, Int.reduceToNat, reduceIte, reduceCtorEq, JJ, e5, e6, e7, e8, Yh, Yg] | (refine hK _ ?_; clear hK; clear K') | refine And.intro ?_ ?_ | (apply qN; (focus exact rfl); (focus exact rfl); (focus exact rfl); (focus first | exact (Xi _ _ _ zsd zsd zsd)); (focus exact rfl); (focus (simp; done)); (focus (simp; done))) | ((first | apply QS | apply QT); (focus first | exact (Yf _ _ zsd).b | exact (JI _ _ zsd).b | exact (QL _ _ zsd zsd).b)) | exact zlo | omega | exact zms)
          all_goals (refine QQ _ rfl ?_; simp only [go_sem, Nat.reduceEqDiff, Nat.reduceAdd, reduceIte, reduceCtorEq]; first | rfl | (simp; done) | trace_state)
        · rw [if_neg (by omega)]
          rw [decide_eq_false h8] at e8
          repeat' (first | refine Qf fun K' hK => ?_ | refine Qi fun K' hK => ?_ | refine Qb 8 (fun _ => true) rfl (Jp) (Jn) fun K' hK => ?_ | refine Qc 8 (fun _ => true) rfl (Jp) (Jn) fun K' hK => ?_ | refine Qb 15 (fun _ => true) rfl (Jo _) (Jm _) fun K' hK => ?_ | refine Qc 15 (fun _ => true) rfl (Jo _) (Jm _) fun K' hK => ?_ | refine Qg ?_ | refine Qh ?_ | refine Qa ?_ | ((first | refine Qk ⟨_, rfl, fun hc => ?_, fun hc => ?_⟩ | refine QM (fun hc => ?_) (fun hc => ?_) | refine QN (fun hc => ?_) (fun hc => ?_)) <;> first | exact Bool.noConfusion hc | ((try simp only [znz] at hc); first | exact znf | skip)) | refine Qo ?_ | refine Qj ?_ | simp (maxSteps := 1000000) only [go_sem, Nat.reduceAdd, Nat.reduceMul, Nat.reduceEqDiff, Nat.reduceLeDiff, Nat.reduceLT, Nat.reduceSub, Int.reduceEq, Int.reduceBEq, Int.reduceLT, Int.reduceLE, Int.reduceAdd, Int.reduceToNat, reduceIte, reduceCtorEq, JJ, e5, e6, e7, e8, Yh, Yg] | (refine hK _ ?_; clear hK; clear K') | refine And.intro ?_ ?_ | (apply qN; (focus exact rfl); (focus exact rfl); (focus exact rfl); (focus first | exact (Xi _ _ _ zsd zsd zsd)); (focus exact rfl); (focus (simp; done)); (focus (simp; done))) | ((first | apply QS | apply QT); (focus first | exact (Yf _ _ zsd).b | exact (JI _ _ zsd).b | exact (QL _ _ zsd zsd).b)) | exact zlo | omega | exact zms)
          all_goals (refine QQ _ rfl ?_; simp only [go_sem, Nat.reduceEqDiff, Nat.reduceAdd, reduceIte, reduceCtorEq]; first | exact ⟨List.take_length.symm, List.take_length.symm⟩ | trace_state)
  · obtain ⟨hk', hget, hr⟩ := Xq hd
    have hwm := hmem x (List.mem_of_getElem? hget)
    have hw := Xh (k := k) (by omega)
    have e5 : decide ((k : Int) < (((ws.map V.str).length : Nat) : Int)) = true := by simp; omega
    rw [hd, goL] at hinv
    by_cases hn : ahI x = true
    · rw [if_pos hn] at hinv
      rcases x with _ | ⟨c, x2⟩
      · repeat' (first | refine Qf fun K' hK => ?_ | refine Qi fun K' hK => ?_ | refine Qb 8 (fun _ => true) rfl (Jp) (Jn) fun K' hK => ?_ | refine Qc 8 (fun _ => true) rfl (Jp) (Jn) fun K' hK => ?_ | refine Qb 15 (fun _ => true) rfl (Jo _) (Jm _) fun K' hK => ?_ | refine Qc 15 (fun _ => true) rfl (Jo _) (Jm _) fun K' hK => ?_ | refine Qg ?_ | refine Qh ?_ | refine Qa ?_ | ((first | refine Qk ⟨_, rfl, fun hc => ?_, fun hc => ?_⟩ | refine QM (fun hc => ?_) (fun hc => ?_) | refine QN (fun hc => ?_) (fun hc => ?_)) <;> first | exact Bool.noConfusion hc | ((try simp only [znz] at hc); first | exact znf | skip)) | refine Qo ?_ | refine Qj ?_ | simp (maxSteps := 1000000) only [go_sem, Nat.reduceAdd, Nat.reduceMul, Nat.reduceEqDiff, Nat.reduceLeDiff, Nat.reduceLT, Nat.reduceSub, Int.reduceEq, Int.reduceBEq, Int.reduceLT, Int.reduceLE, Int.reduceAdd, Int.reduceToNat, reduceIte, reduceCtorEq, JJ, e5, hw, Int.toNat_natCast, List.getElem?_map, hget, Yh, Yg] | (refine hK _ ?_; clear hK; clear K') | refine And.intro ?_ ?_ | (apply qN; (focus exact rfl); (focus exact rfl); (focus exact rfl); (focus first | exact (Xi _ _ _ zsd zsd zsd)); (focus exact rfl); (focus (simp; done)); (focus (simp; done))) | ((first | apply QS | apply QT); (focus first | exact (Yf _ _ zsd).b | exact (JI _ _ zsd).b | exact (QL _ _ zsd zsd).b)) | exact zlo | omega | exact zms)
        all_goals first
          | exact hL _ (k + 1, w, rs, ks) (QZ []) ⟨by simp only; omega, ⟨q2, by simp only; omega⟩, by simp only; omega, by simp only; omega, by simp only; rw [hr]; exact hinv⟩ (by simp only; omega) (JK [] (by simp only [go_sem, Nat.reduceAdd, Nat.reduceMul, Nat.reduceEqDiff, Nat.reduceLT, Int.reduceToNat, reduceIte, reduceCtorEq, and_true, true_and, implies_true, Option.some.injEq, exists_eq_left', Qd, Qm]; (repeat' (first | rfl | refine And.intro ?_ ?_ | omega | exact fun h => h | exact Exists.intro _ rfl))) (by simp only [go_sem, Nat.reduceAdd, Nat.reduceMul, Nat.reduceEqDiff, Nat.reduceLT, Int.reduceToNat, reduceIte, reduceCtorEq, and_true, true_and, implies_true, Option.some.injEq, exists_eq_left', Qd, Qm]; (repeat' (first | rfl | refine And.intro ?_ ?_ | omega | exact fun h => h | exact Exists.intro _ rfl))) (by simp [QZ]) (by simp) (by omega))
          | trace_state
      · have e9 : (c :: x2 == []) = false := rfl
        have e10 : ((c.toNat : Int) == 35) = true := (adF c 35 (by decide)).trans hn
        repeat' (first | refine Qf fun K' hK => ?_ | refine Qi fun K' hK => ?_ | refine Qb 8 (fun _ => true) rfl (Jp) (Jn) fun K' hK => ?_ | refine Qc 8 (fun _ => true) rfl (Jp) (Jn) fun K' hK => ?_ | refine Qb 15 (fun _ => true) rfl (Jo _) (Jm _) fun K' hK => ?_ | refine Qc 15 (fun _ => true) rfl (Jo _) (Jm _) fun K' hK => ?_ | refine Qg ?_ | refine Qh ?_ | refine Qa ?_ | ((first | refine Qk ⟨_, rfl, fun hc => ?_, fun hc => ?_⟩ | refine QM (fun hc => ?_) (fun hc => ?_) | refine QN (fun hc => ?_) (fun hc => ?_)) <;> first | exact Bool.noConfusion hc | ((try simp only [znz] at hc); first | exact znf | skip)) | refine Qo ?_ | refine Qj ?_ | simp (maxSteps := 1000000) only [go_sem, Nat.reduceAdd, Nat.reduceMul, Nat.reduceEqDiff, Nat.reduceLeDiff, Nat.reduceLT, Nat.reduceSub, Int.reduceEq, Int.reduceBEq, Int.reduceLT, Int.reduceLE, Int.reduceAdd, Int.reduceToNat, reduceIte, reduceCtorEq, JJ, e5, e9, e10, hw, Int.toNat_natCast, List.getElem?_map, hget, Yh, Yg] | (refine hK _ ?_; clear hK; clear K') | refine And.intro ?_ ?_ | (apply qN; (focus exact rfl); (focus exact rfl); (focus exact rfl); (focus first | exact (Xi _ _ _ zsd zsd zsd)); (focus exact rfl); (focus (simp; done)); (focus (simp; done))) | ((first | apply QS | apply QT); (focus first | exact (Yf _ _ zsd).b | exact (JI _ _ zsd).b | exact (QL _ _ zsd zsd).b)) | exact zlo | omega | exact zms)
        all_goals first
          | exact hL _ (k + 1, w, rs, ks) (QZ []) ⟨by simp only; omega, ⟨q2, by simp only; omega⟩, by simp only; omega, by simp only; omega, by simp only; rw [hr]; exact hinv⟩ (by simp only; omega) (JK [] (by simp only [go_sem, Nat.reduceAdd, Nat.reduceMul, Nat.reduceEqDiff, Nat.reduceLT, Int.reduceToNat, reduceIte, reduceCtorEq, and_true, true_and, implies_true, Option.some.injEq, exists_eq_left', Qd, Qm]; (repeat' (first | rfl | refine And.intro ?_ ?_ | omega | exact fun h => h | exact Exists.intro _ rfl))) (by simp only [go_sem, Nat.reduceAdd, Nat.reduceMul, Nat.reduceEqDiff, Nat.reduceLT, Int.reduceToNat, reduceIte, reduceCtorEq, and_true, true_and, implies_true, Option.some.injEq, exists_eq_left', Qd, Qm]; (repeat' (first | rfl | refine And.intro ?_ ?_ | omega | exact fun h => h | exact Exists.intro _ rfl))) (by simp [QZ]) (by simp) (by omega))
          | trace_state
    · rw [if_neg hn] at hinv
      rcases x with _ | ⟨c, x2⟩
      · exact absurd rfl hn
      have e9 : (c :: x2 == []) = false := rfl
      have e10 : ((c.toNat : Int) == 35) = false := (adF c 35 (by decide)).trans (by simpa [ahI] using hn)
      have hdo := Xi (c :: x2) rs ks hwm (by omega) (by omega)
      have hln := afl (c :: x2) rs ks
      unfold ag2 at hinv
      generalize yP (c :: x2) rs ks = p at *
      obtain ⟨ok, rs2, ks2⟩ := p
      simp only at hdo hln hinv
      rcases ok with _ | _
      · simp only [Bool.false_eq_true, if_false] at hinv
        rw [← hinv]
        repeat' (first | refine Qf fun K' hK => ?_ | refine Qi fun K' hK => ?_ | refine Qb 8 (fun _ => true) rfl (Jp) (Jn) fun K' hK => ?_ | refine Qc 8 (fun _ => true) rfl (Jp) (Jn) fun K' hK => ?_ | refine Qb 15 (fun _ => true) rfl (Jo _) (Jm _) fun K' hK => ?_ | refine Qc 15 (fun _ => true) rfl (Jo _) (Jm _) fun K' hK => ?_ | refine Qg ?_ | refine Qh ?_ | refine Qa ?_ | ((first | refine Qk ⟨_, rfl, fun hc => ?_, fun hc => ?_⟩ | refine QM (fun hc => ?_) (fun hc => ?_) | refine QN (fun hc => ?_) (fun hc => ?_)) <;> first | exact Bool.noConfusion hc | ((try simp only [znz] at hc); first | exact znf | skip)) | refine Qo ?_ | refine Qj ?_ | simp (maxSteps := 1000000) only [go_sem, Nat.reduceAdd, Nat.reduceMul, Nat.reduceEqDiff, Nat.reduceLeDiff, Nat.reduceLT, Nat.reduceSub, Int.reduceEq, Int.reduceBEq, Int.reduceLT, Int.reduceLE, Int.reduceAdd, Int.reduceToNat, reduceIte, reduceCtorEq, JJ, e5, e9, e10, hw, Int.toNat_natCast, List.getElem?_map, hget, Yh, Yg] | (refine hK _ ?_; clear hK; clear K') | refine And.intro ?_ ?_ | (apply qN; (focus exact rfl); (focus exact rfl); (focus exact rfl); (focus first | exact hdo | exact (Xi _ _ _ zsd zsd zsd)); (focus exact rfl); (focus (simp; done)); (focus (simp; done))) | ((first | apply QS | apply QT); (focus first | exact (Yf _ _ zsd).b | exact (JI _ _ zsd).b | exact (QL _ _ zsd zsd).b)) | exact zlo | omega | exact zms)
        all_goals (refine QQ _ rfl ?_; simp only [go_sem, Nat.reduceEqDiff, Nat.reduceAdd, reduceIte, reduceCtorEq]; first | rfl | (simp; done) | trace_state)
      · simp only [if_true] at hinv
        have hck := (QL (rs2.drop rs.length) (ks2.drop ks.length) (by rw [List.length_drop]; omega) (by rw [List.length_drop]; omega)).b
        have hd1 : List.take ((List.map Qp.v rs2).length - (List.map Qp.v rs).length) (List.drop (List.map Qp.v rs).length (List.map Qp.v rs2)) = (rs2.drop rs.length).map Qp.v := by
          rw [List.take_of_length_le (by simp), List.length_map, List.map_drop]
        have hd2 : List.take ((List.map Qs.v ks2).length - (List.map Qs.v ks).length) (List.drop (List.map Qs.v ks).length (List.map Qs.v ks2)) = (ks2.drop ks.length).map Qs.v := by
          rw [List.take_of_length_le (by simp), List.length_map, List.map_drop]
        generalize hcv : WQ (rs2.drop rs.length) (ks2.drop ks.length) = cv at *
        by_cases hw0 : w = 0
        · subst hw0
          by_cases hc0 : cv = 0
          · subst hc0
            simp only [ne_eq, not_true_eq_false, and_false, if_false] at hinv
            repeat' (first | refine Qf fun K' hK => ?_ | refine Qi fun K' hK => ?_ | refine Qb 8 (fun _ => true) rfl (Jp) (Jn) fun K' hK => ?_ | refine Qc 8 (fun _ => true) rfl (Jp) (Jn) fun K' hK => ?_ | refine Qb 15 (fun _ => true) rfl (Jo _) (Jm _) fun K' hK => ?_ | refine Qc 15 (fun _ => true) rfl (Jo _) (Jm _) fun K' hK => ?_ | refine Qg ?_ | refine Qh ?_ | refine Qa ?_ | ((first | refine Qk ⟨_, rfl, fun hc => ?_, fun hc => ?_⟩ | refine QM (fun hc => ?_) (fun hc => ?_) | refine QN (fun hc => ?_) (fun hc => ?_)) <;> first | exact Bool.noConfusion hc | ((try simp only [znz] at hc); first | exact znf | skip)) | refine Qo ?_ | refine Qj ?_ | simp (maxSteps := 1000000) only [go_sem, Nat.reduceAdd, Nat.reduceMul, Nat.reduceEqDiff, Nat.reduceLeDiff, Nat.reduceLT, Nat.reduceSub, Int.reduceEq, Int.reduceBEq, Int.reduceLT, Int.reduceLE, Int.reduceAdd, Int.reduceToNat, reduceIte, reduceCtorEq, JJ, e5, e9, e10, hw, Int.toNat_natCast, List.getElem?_map, hget, hd1, hd2, Yh, Yg] | (refine hK _ ?_; clear hK; clear K') | refine And.intro ?_ ?_ | (apply qN; (focus exact rfl); (focus exact rfl); (focus exact rfl); (focus first | exact hdo | exact (Xi _ _ _ zsd zsd zsd)); (focus exact rfl); (focus (simp; done)); (focus (simp; done))) | ((first | apply QS | apply QT); (focus first | exact hck | exact (Yf _ _ zsd).b | exact (JI _ _ zsd).b | exact (QL _ _ zsd zsd).b)) | exact zlo | omega | exact zms)
            all_goals first
              | exact hL _ (k + 1, 0, rs2, ks2) (QZ [(4, 22006), (5, 22007)]) ⟨by simp only; omega, ⟨by simp only; omega, by simp only; omega⟩, by simp only; omega, by simp only; omega, by simp only; rw [hr]; exact hinv⟩ (by simp only; omega) (JK [(4, 22006), (5, 22007)] (by simp only [go_sem, Nat.reduceAdd, Nat.reduceMul, Nat.reduceEqDiff, Nat.reduceLT, Int.reduceToNat, reduceIte, reduceCtorEq, and_true, true_and, implies_true, Option.some.injEq, exists_eq_left', Qd, Qm]; (repeat' (first | rfl | refine And.intro ?_ ?_ | omega | exact fun h => h | exact Exists.intro _ rfl))) (by simp only [go_sem, Nat.reduceAdd, Nat.reduceMul, Nat.reduceEqDiff, Nat.reduceLT, Int.reduceToNat, reduceIte, reduceCtorEq, and_true, true_and, implies_true, Option.some.injEq, exists_eq_left', Qd, Qm]; (repeat' (first | rfl | refine And.intro ?_ ?_ | omega | exact fun h => h | exact Exists.intro _ rfl))) (by simp [QZ]) (by simp; omega) (by omega))
              | trace_state
          · have e12 : (cv != 0) = true := by simpa using hc0
            simp only [ne_eq, hc0, not_false_eq_true, and_true, if_true] at hinv
            repeat' (first | refine Qf fun K' hK => ?_ | refine Qi fun K' hK => ?_ | refine Qb 8 (fun _ => true) rfl (Jp) (Jn) fun K' hK => ?_ | refine Qc 8 (fun _ => true) rfl (Jp) (Jn) fun K' hK => ?_ | refine Qb 15 (fun _ => true) rfl (Jo _) (Jm _) fun K' hK => ?_ | refine Qc 15 (fun _ => true) rfl (Jo _) (Jm _) fun K' hK => ?_ | refine Qg ?_ | refine Qh ?_ | refine Qa ?_ | ((first | refine Qk ⟨_, rfl, fun hc => ?_, fun hc => ?_⟩ | refine QM (fun hc => ?_) (fun hc => ?_) | refine QN (fun hc => ?_) (fun hc => ?_)) <;> first | exact Bool.noConfusion hc | ((try simp only [znz] at hc); first | exact znf | skip)) | refine Qo ?_ | refine Qj ?_ | simp (maxSteps := 1000000) only [go_sem, Nat.reduceAdd, Nat.reduceMul, Nat.reduceEqDiff, Nat.reduceLeDiff, Nat.reduceLT, Nat.reduceSub, Int.reduceEq, Int.reduceBEq, Int.reduceLT, Int.reduceLE, Int.reduceAdd, Int.reduceToNat, reduceIte, reduceCtorEq, JJ, e5, e9, e10, e12, hw, Int.toNat_natCast, List.getElem?_map, hget, hd1, hd2, Yh, Yg] | (refine hK _ ?_; clear hK; clear K') | refine And.intro ?_ ?_ | (apply qN; (focus exact rfl); (focus exact rfl); (focus exact rfl); (focus first | exact hdo | exact (Xi _ _ _ zsd zsd zsd)); (focus exact rfl); (focus (simp; done)); (focus (simp; done))) | ((first | apply QS | apply QT); (focus first | exact hck | exact (Yf _ _ zsd).b | exact (JI _ _ zsd).b | exact (QL _ _ zsd zsd).b)) | exact zlo | omega | exact zms)
            all_goals first
              | exact hL _ (k + 1, (k : Int) + 1, rs2, ks2) (QZ [(4, 22006), (5, 22007)]) ⟨by simp only; omega, ⟨by simp only; omega, by simp only; omega⟩, by simp only; omega, by simp only; omega, by simp only; rw [hr]; exact hinv⟩ (by simp only; omega) (JK [(4, 22006), (5, 22007)] (by simp only [go_sem, Nat.reduceAdd, Nat.reduceMul, Nat.reduceEqDiff, Nat.reduceLT, Int.reduceToNat, reduceIte, reduceCtorEq, and_true, true_and, implies_true, Option.some.injEq, exists_eq_left', Qd, Qm]; (repeat' (first | rfl | refine And.intro ?_ ?_ | omega | exact fun h => h | exact Exists.intro _ rfl))) (by simp only [go_sem, Nat.reduceAdd, Nat.reduceMul, Nat.reduceEqDiff, Nat.reduceLT, Int.reduceToNat, reduceIte, reduceCtorEq, and_true, true_and, implies_true, Option.some.injEq, exists_eq_left', Qd, Qm]; (repeat' (first | rfl | refine And.intro ?_ ?_ | omega | exact fun h => h | exact Exists.intro _ rfl))) (by simp [QZ]) (by simp; omega) (by omega))
              | trace_state
        · have e11 : (w == 0) = false := by simpa using hw0
          simp only [hw0, false_and, if_false] at hinv
          repeat' (first | refine Qf fun K' hK => ?_ | refine Qi fun K' hK => ?_ | refine Qb 8 (fun _ => true) rfl (Jp) (Jn) fun K' hK => ?_ | refine Qc 8 (fun _ => true) rfl (Jp) (Jn) fun K' hK => ?_ | refine Qb 15 (fun _ => true) rfl (Jo _) (Jm _) fun K' hK => ?_ | refine Qc 15 (fun _ => true) rfl (Jo _) (Jm _) fun K' hK => ?_ | refine Qg ?_ | refine Qh ?_ | refine Qa ?_ | ((first | refine Qk ⟨_, rfl, fun hc => ?_, fun hc => ?_⟩ | refine QM (fun hc => ?_) (fun hc => ?_) | refine QN (fun hc => ?_) (fun hc => ?_)) <;> first | exact Bool.noConfusion hc | ((try simp only [znz] at hc); first | exact znf | skip)) | refine Qo ?_ | refine Qj ?_ | simp (maxSteps := 1000000) only [go_sem, Nat.reduceAdd, Nat.reduceMul, Nat.reduceEqDiff, Nat.reduceLeDiff, Nat.reduceLT, Nat.reduceSub, Int.reduceEq, Int.reduceBEq, Int.reduceLT, Int.reduceLE, Int.reduceAdd, Int.reduceToNat, reduceIte, reduceCtorEq, JJ, e5, e9, e10, e11, hw, Int.toNat_natCast, List.getElem?_map, hget, Yh, Yg] | (refine hK _ ?_; clear hK; clear K') | refine And.intro ?_ ?_ | (apply qN; (focus exact rfl); (focus exact rfl); (focus exact rfl); (focus first | exact hdo | exact (Xi _ _ _ zsd zsd zsd)); (focus exact rfl); (focus (simp; done)); (focus (simp; done))) | ((first | apply QS | apply QT); (focus first | exact (Yf _ _ zsd).b | exact (JI _ _ zsd).b | exact (QL _ _ zsd zsd).b)) | exact zlo | omega | exact zms)
          all_goals first
            | exact hL _ (k + 1, w, rs2, ks2) (QZ [(4, 22006), (5, 22007)]) ⟨by simp only; omega, ⟨by simp only; omega, by simp only; omega⟩, by simp only; omega, by simp only; omega, by simp only; rw [hr]; exact hinv⟩ (by simp only; omega) (JK [(4, 22006), (5, 22007)] (by simp only [go_sem, Nat.reduceAdd, Nat.reduceMul, Nat.reduceEqDiff, Nat.reduceLT, Int.reduceToNat, reduceIte, reduceCtorEq, and_true, true_and, implies_true, Option.some.injEq, exists_eq_left', Qd, Qm]; (repeat' (first | rfl | refine And.intro ?_ ?_ | omega | exact fun h => h | exact Exists.intro _ rfl))) (by simp only [go_sem, Nat.reduceAdd, Nat.reduceMul, Nat.reduceEqDiff, Nat.reduceLT, Int.reduceToNat, reduceIte, reduceCtorEq, and_true, true_and, implies_true, Option.some.injEq, exists_eq_left', Qd, Qm]; (repeat' (first | rfl | refine And.intro ?_ ?_ | omega | exact fun h => h | exact Exists.intro _ rfl))) (by simp [QZ]) (by simp; omega) (by omega))
            | trace_state
end Av
end
section
set_option linter.unusedSimpArgs false
set_option linter.unusedVariables false
set_option maxRecDepth 10000
set_option maxHeartbeats 4000000
namespace Av
open Go
attribute [local irreducible] AWp XV WG WJ awS awC VK awQ V4 Jq Xf VH awR Xk awB okR XT ris
end Av
end
section
set_option linter.unusedSimpArgs false
set_option linter.unusedVariables false
set_option maxRecDepth 10000
set_option maxHeartbeats 4000000
namespace Av
open Go
attribute [local irreducible] AWp XV WG WJ awS awC VK awQ V4 Jq Xf VH awR Xk awB okR XT ris
def UY : AC := QR [] (.reg [xo 0 (.mknil 1)]) (QR [0] (.reg [xo 1 (.bslice 5 1 false [(.string ⟨#[]⟩)] [(0, (.c (V.str []))), (1, (.c (V.str [116, 114, 97, 110, 115, 112, 111, 114, 116]))), (2, (.c (V.str [115, 105, 103, 110]))), (3, (.c (V.str [98, 97, 99, 107, 117, 112]))), (4, (.c (V.str [99, 111, 100, 101])))]), mv 0 1]) (.ret)) def r_ref17_purposes : List XY := [.tmp 0]
def W7 (Γ : Env) (f : Nat) : Prop := EvW Γ f [] 1 (jU.map V.str)
theorem x6 {Γ : Env} {f : Nat} (h : Has Γ.P f 2 UY r_ref17_purposes)  : W7 Γ f := by
  refine vL h (by simp) (by first | exact acf _ | exact abO _) fun C hC hm => ?_
  subst hC
  unfold UY
  repeat' (first | refine Qf fun K' hK => ?_ | refine Qi fun K' hK => ?_ | refine Qg ?_ | refine Qh ?_ | refine Qa ?_ | ((first | refine Qk ⟨_, rfl, fun hc => ?_, fun hc => ?_⟩ | refine QM (fun hc => ?_) (fun hc => ?_) | refine QN (fun hc => ?_) (fun hc => ?_)) <;> first | exact Bool.noConfusion hc | ((try simp only [znz] at hc); first | exact znf | skip)) | refine Qo ?_ | refine Qj ?_ | simp (maxSteps := 1000000) only [go_sem, Nat.reduceAdd, Nat.reduceMul, Nat.reduceEqDiff, Nat.reduceLeDiff, Nat.reduceLT, Nat.reduceSub, Int.reduceEq, Int.reduceBEq, Int.reduceLT, Int.reduceLE, Int.reduceAdd, Int.reduceToNat, reduceIte, reduceCtorEq] | (refine hK _ ?_; clear hK; clear K') | refine And.intro ?_ ?_ | exact zlo | omega | exact zms)
  all_goals (refine ahm (xs := jU.map V.str) _ _ rfl ?_ ?_ <;> first | rfl | (simp; done))
def xX (w : List UInt8) : Nat → WS → Int
  | _, [] => 0
  | k, y :: r => if y = w then k else xX w (k + 1) r
theorem aco (w : List UInt8) : xX w 1 (jU.drop 1) = jZ w := by
  unfold jZ
  by_cases h0 : w = []
  · subst h0; rw [if_pos rfl]; decide
  · rw [if_neg h0]
    simp only [UW, if_neg h0, List.drop_succ_cons, List.drop_zero, xX]
    by_cases h1 : w = [116, 114, 97, 110, 115, 112, 111, 114, 116]
    · subst h1; decide
    by_cases h2 : w = [115, 105, 103, 110]
    · subst h2; decide
    by_cases h3 : w = [98, 97, 99, 107, 117, 112]
    · subst h3; decide
    by_cases h4 : w = [99, 111, 100, 101]
    · subst h4; decide
    · rw [if_neg h1, if_neg h2, if_neg h3, if_neg h4, if_neg (fun h => h1 h.symm), if_neg (fun h => h2 h.symm), if_neg (fun h => h3 h.symm), if_neg (fun h => h4 h.symm)]; rfl
def KA (QU : Nat) : AC := QR [0] (.reg [mc 2 (V.int 0)]) (QR [0, 3] (.reg [cl 5 QU [], mv 3 5]) (QR [] (QR [0, 3, 4] (.reg [mc 4 (V.int 1)]) (.block 0 (Kv [0, 3, 4] (QR [0, 3, 4] (QR [0, 3, 4, 9] (.reg [mv 6 4, mv 7 3, ln 8 7, bn 9 .lss 6 8]) (.cond (.t 9) (.skip) (.exit 0))) (QR [0, 3, 4] (.block 1 (QR [0, 3, 4, 17] (.reg [mv 12 3, mv 13 4, ia 14 1 12 13, ld 15 1 14, mv 16 0, bn 17 .eql 15 16]) (.cond (.t 17) (QR [2] (.reg [mv 18 4, mv 2 18]) (.ret)) (.skip)))) (.reg [mv 10 4, bc 11 .add 10 (V.int 1), mv 4 11])))))) (QR [2] (.reg [mc 2 (V.int 0)]) (.ret)))) def r_ref17_Purpose : List XY := [.tmp 2]
def Kd (Γ : Env) (f : Nat) : Prop := ∀ (w : List UInt8), EvN Γ f [V.str w] (V.int (jZ w))
theorem wL {Γ : Env} {f QU : Nat} (h : Has Γ.P f 19 (KA QU) r_ref17_Purpose) (Jg : W7 Γ QU) : Kd Γ f := by
  intro w
  refine JD h (by simp) (by simp only [V.closed, Qq, V.noSl, Yq, and_self, and_true, true_and]) (by simp only [V.closed, Qq, V.noSl, Yq, and_self, and_true, true_and]) fun C hC hm => ?_
  subst hC
  unfold KA
  have hR := aco w
  generalize jZ w = R at *
  repeat' (first | refine Qf fun K' hK => ?_ | refine Qi fun K' hK => ?_ | refine Qg ?_ | refine Qh ?_ | refine Qa ?_ | ((first | refine Qk ⟨_, rfl, fun hc => ?_, fun hc => ?_⟩ | refine QM (fun hc => ?_) (fun hc => ?_) | refine QN (fun hc => ?_) (fun hc => ?_)) <;> first | exact Bool.noConfusion hc | ((try simp only [znz] at hc); first | exact znf | skip)) | refine Qo ?_ | refine Qj ?_ | simp (maxSteps := 1000000) only [go_sem, Nat.reduceAdd, Nat.reduceMul, Nat.reduceEqDiff, Nat.reduceLeDiff, Nat.reduceLT, Nat.reduceSub, Int.reduceEq, Int.reduceBEq, Int.reduceLT, Int.reduceLE, Int.reduceAdd, Int.reduceToNat, reduceIte, reduceCtorEq] | (refine hK _ ?_; clear hK; clear K') | refine And.intro ?_ ?_ | (apply YR; (focus first | exact Jg)) | exact zlo | omega | exact zms)
  refine Wa (ι := Nat) (fun k => 1 ≤ k ∧ k ≤ 5 ∧ xX w k (jU.drop k) = R) (fun k => JJ [(0, V.str w), (3, .hd 0 0 5), (4, V.int k)] [(0, .buf true 1 (jU.map V.str))] 1) (fun k => 5 - k) 1 ⟨by omega, by omega, hR⟩ (QZ [(0, 1000)]) (JK [(0, 1000)] (by simp only [go_sem, Nat.reduceAdd, Nat.reduceMul, Nat.reduceEqDiff, Nat.reduceLT, Int.reduceToNat, reduceIte, reduceCtorEq, and_true, true_and, implies_true, Option.some.injEq, exists_eq_left', Qd, Qm]; (repeat' (first | rfl | refine And.intro ?_ ?_ | omega | exact fun h => h | exact Exists.intro _ rfl))) (by simp only [go_sem, Nat.reduceAdd, Nat.reduceMul, Nat.reduceEqDiff, Nat.reduceLT, Int.reduceToNat, reduceIte, reduceCtorEq, and_true, true_and, implies_true, Option.some.injEq, exists_eq_left', Qd, Qm]; (repeat' (first | rfl | refine And.intro ?_ ?_ | omega | exact fun h => h | exact Exists.intro _ rfl))) (by simp [QZ]) (by simp; omega) (by omega)) fun k hk K' hL => ?_
  obtain ⟨k1, k5, hinv⟩ := hk
  rcases hd : jU.drop k with _ | ⟨y, r⟩
  · have hkl := XU hd
    have hk5 : k = 5 := by simp at hkl; omega
    subst hk5
    rw [hd] at hinv
    rw [← hinv]
    repeat' (first | refine Qf fun K' hK => ?_ | refine Qi fun K' hK => ?_ | refine Qg ?_ | refine Qh ?_ | refine Qa ?_ | ((first | refine Qk ⟨_, rfl, fun hc => ?_, fun hc => ?_⟩ | refine QM (fun hc => ?_) (fun hc => ?_) | refine QN (fun hc => ?_) (fun hc => ?_)) <;> first | exact Bool.noConfusion hc | ((try simp only [znz] at hc); first | exact znf | skip)) | refine Qo ?_ | refine Qj ?_ | simp (maxSteps := 1000000) only [go_sem, Nat.reduceAdd, Nat.reduceMul, Nat.reduceEqDiff, Nat.reduceLeDiff, Nat.reduceLT, Nat.reduceSub, Int.reduceEq, Int.reduceBEq, Int.reduceLT, Int.reduceLE, Int.reduceAdd, Int.reduceToNat, reduceIte, reduceCtorEq, JJ] | (refine hK _ ?_; clear hK; clear K') | refine And.intro ?_ ?_ | (apply YR; (focus first | exact Jg)) | exact zlo | omega | exact zms)
    all_goals first | (refine QQ _ rfl ?_; simp only [go_sem, Nat.reduceEqDiff, Nat.reduceAdd, reduceIte, reduceCtorEq]; done) | (refine QQ _ rfl ?_; simp only [go_sem, Nat.reduceEqDiff, Nat.reduceAdd, reduceIte, reduceCtorEq]; rfl) | trace_state
  · obtain ⟨hk', hget, hr⟩ := Xq hd
    rw [hd] at hinv
    have hw := Xh (k := k) (by omega)
    have hk6 : k < 5 := by simpa using hk'
    have e1 : decide ((k : Int) < 5) = true := decide_eq_true (by omega)
    have e2 : decide ((k : Int) < ((5 : Nat) : Int)) = true := decide_eq_true (by omega)
    have hg2 : ([V.str [], V.str [116, 114, 97, 110, 115, 112, 111, 114, 116], V.str [115, 105, 103, 110], V.str [98, 97, 99, 107, 117, 112], V.str [99, 111, 100, 101]] : List V)[k]? = some (V.str y) := by
      have : (jU.map V.str)[k]? = some (V.str y) := by rw [List.getElem?_map, hget]; rfl
      exact this
    by_cases hy : y = w
    · have e3 : (y == w) = true := by simpa using hy
      rw [xX, if_pos hy] at hinv
      rw [← hinv]
      repeat' (first | refine Qf fun K' hK => ?_ | refine Qi fun K' hK => ?_ | refine Qg ?_ | refine Qh ?_ | refine Qa ?_ | ((first | refine Qk ⟨_, rfl, fun hc => ?_, fun hc => ?_⟩ | refine QM (fun hc => ?_) (fun hc => ?_) | refine QN (fun hc => ?_) (fun hc => ?_)) <;> first | exact Bool.noConfusion hc | ((try simp only [znz] at hc); first | exact znf | skip)) | refine Qo ?_ | refine Qj ?_ | simp (maxSteps := 1000000) only [go_sem, Nat.reduceAdd, Nat.reduceMul, Nat.reduceEqDiff, Nat.reduceLeDiff, Nat.reduceLT, Nat.reduceSub, Int.reduceEq, Int.reduceBEq, Int.reduceLT, Int.reduceLE, Int.reduceAdd, Int.reduceToNat, reduceIte, reduceCtorEq, JJ, e1, e2, e3, hw, Int.toNat_natCast, hg2] | (refine hK _ ?_; clear hK; clear K') | refine And.intro ?_ ?_ | (apply YR; (focus first | exact Jg)) | exact zlo | omega | exact zms)
      all_goals first | (refine QQ _ rfl ?_; simp only [go_sem, Nat.reduceEqDiff, Nat.reduceAdd, reduceIte, reduceCtorEq]; done) | trace_state
    · have e3 : (y == w) = false := by simpa using hy
      rw [xX, if_neg hy] at hinv
      repeat' (first | refine Qf fun K' hK => ?_ | refine Qi fun K' hK => ?_ | refine Qg ?_ | refine Qh ?_ | refine Qa ?_ | ((first | refine Qk ⟨_, rfl, fun hc => ?_, fun hc => ?_⟩ | refine QM (fun hc => ?_) (fun hc => ?_) | refine QN (fun hc => ?_) (fun hc => ?_)) <;> first | exact Bool.noConfusion hc | ((try simp only [znz] at hc); first | exact znf | skip)) | refine Qo ?_ | refine Qj ?_ | simp (maxSteps := 1000000) only [go_sem, Nat.reduceAdd, Nat.reduceMul, Nat.reduceEqDiff, Nat.reduceLeDiff, Nat.reduceLT, Nat.reduceSub, Int.reduceEq, Int.reduceBEq, Int.reduceLT, Int.reduceLE, Int.reduceAdd, Int.reduceToNat, reduceIte, reduceCtorEq, JJ, e1, e2, e3, hw, Int.toNat_natCast, hg2] | (refine hK _ ?_; clear hK; clear K') | refine And.intro ?_ ?_ | (apply YR; (focus first | exact Jg)) | exact zlo | omega | exact zms)
      all_goals first
        | exact hL _ (k + 1) (QZ []) ⟨by omega, by omega, by rw [hr]; exact hinv⟩ (by omega) (JK [] (by simp only [go_sem, Nat.reduceAdd, Nat.reduceMul, Nat.reduceEqDiff, Nat.reduceLT, Int.reduceToNat, reduceIte, reduceCtorEq, and_true, true_and, implies_true, Option.some.injEq, exists_eq_left', Qd, Qm]; (repeat' (first | rfl | refine And.intro ?_ ?_ | omega | exact fun h => h | exact Exists.intro _ rfl))) (by simp only [go_sem, Nat.reduceAdd, Nat.reduceMul, Nat.reduceEqDiff, Nat.reduceLT, Int.reduceToNat, reduceIte, reduceCtorEq, and_true, true_and, implies_true, Option.some.injEq, exists_eq_left', Qd, Qm]; (repeat' (first | rfl | refine And.intro ?_ ?_ | omega | exact fun h => h | exact Exists.intro _ rfl))) (by simp [QZ]) (by simp) (by omega))
        | trace_state
def jt (Ki K1 : Nat) : AC := QR [1] (.reg [xo 1 (.box true 2 (.t 0)), mc 2 (V.int 0)]) (QR [1] (QR [1, 14] (.reg [fa 5 0 1, ld 6 1 5, ln 7 6, bc 8 .gtr 7 (V.int 60), mv 9 8, xg 10 (.faddr 1 (.t 1)) 9 false, xg 11 (.load false 1 (.t 10)) 9 false, xg 12 (.lenL (.t 11)) 9 false, xg 13 (.bin .gtr (.t 12) (.c (V.int 60))) 9 false, xo 14 (.pick (.t 9) (.c (V.bool true)) (.t 13))]) (.cond (.t 14) (QR [2] (.reg [mc 2 (V.int 25)]) (.ret)) (.skip))) (QR [1] (QR [1, 3] (.reg [mc 3 (V.int 0)]) (.block 0 (Kv [1, 3] (QR [1, 3] (QR [1, 3, 19] (.reg [mv 15 3, fa 16 0 1, ld 17 1 16, ln 18 17, bn 19 .lss 15 18]) (.cond (.t 19) (.skip) (.exit 0))) (QR [1, 3] (.block 1 (QR [1, 3, 28] (.reg [fa 22 0 1, ld 23 1 22, mv 24 3, ia 25 6 23 24, xo 26 (.load true 6 (.t 25)), cl 27 Ki [26], xo 28 (.un .not (.t 27))]) (.cond (.t 28) (QR [2] (.reg [mc 2 (V.int 25)]) (.ret)) (.skip)))) (.reg [mv 20 3, bc 21 .add 20 (V.int 1), mv 3 21])))))) (QR [] (QR [1, 4] (.reg [mc 4 (V.int 0)]) (.block 2 (Kv [1, 4] (QR [1, 4] (QR [1, 4, 33] (.reg [mv 29 4, fa 30 1 1, ld 31 1 30, ln 32 31, bn 33 .lss 29 32]) (.cond (.t 33) (.skip) (.exit 2))) (QR [1, 4] (.block 3 (QR [1, 4, 42] (.reg [fa 36 1 1, ld 37 1 36, mv 38 4, ia 39 2 37 38, xo 40 (.load true 2 (.t 39)), cl 41 K1 [40], xo 42 (.un .not (.t 41))]) (.cond (.t 42) (QR [2] (.reg [mc 2 (V.int 25)]) (.ret)) (.skip)))) (.reg [mv 34 4, bc 35 .add 34 (V.int 1), mv 4 35])))))) (QR [2] (.reg [mc 2 (V.int 0)]) (.ret))))) def r_ref17_Check : List XY := [.tmp 2]
def UD (Γ : Env) (f : Nat) : Prop := ∀ (rs : List Qp) (ks : List Qs) (hr : rs.length < 2 ^ 40) (hk : ks.length < 2 ^ 40), EvN Γ f [ae0 rs ks] (V.int (WQ rs ks))
theorem aar {Γ : Env} {f Ki K1 : Nat} (h : Has Γ.P f 43 (jt Ki K1) r_ref17_Check) (Xw : qD Γ Ki) (XQ : jE Γ K1) : UD Γ f := by
  intro rs ks hr hk
  refine JD h (by simp) (by simp only [V.closed, Qq, V.noSl, Yq, and_self, and_true, true_and]) (by simp only [V.closed, Qq, V.noSl, Yq, and_self, and_true, true_and]) fun C hC hm => ?_
  subst hC
  unfold jt
  have e3 : decide ((((rs.map Qp.v).length : Nat) : Int) > 60) = !decide (rs.length ≤ 60) := by
    rw [List.length_map, ← decide_not]; apply decide_eq_decide.2; omega
  have e4 : decide ((((ks.map Qs.v).length : Nat) : Int) > 60) = !decide (ks.length ≤ 60) := by
    rw [List.length_map, ← decide_not]; apply decide_eq_decide.2; omega
  by_cases h3 : rs.length ≤ 60
  · by_cases h4 : ks.length ≤ 60
    · have e0 : WQ rs ks = if (rs.all J5 && ks.all XZ) = true then 0 else 25 := by rw [WQ, decide_eq_true h3, decide_eq_true h4, Bool.and_true, Bool.and_true]
      rw [decide_eq_true h3] at e3
      rw [decide_eq_true h4] at e4
      rw [e0]
      repeat' (first | refine Qf fun K' hK => ?_ | refine Qi fun K' hK => ?_ | refine Qg ?_ | refine Qh ?_ | refine Qa ?_ | ((first | refine Qk ⟨_, rfl, fun hc => ?_, fun hc => ?_⟩ | refine QM (fun hc => ?_) (fun hc => ?_) | refine QN (fun hc => ?_) (fun hc => ?_)) <;> first | exact Bool.noConfusion hc | ((try simp only [znz] at hc); first | exact znf | skip)) | refine Qo ?_ | refine Qj ?_ | simp (maxSteps := 1000000) only [go_sem, Nat.reduceAdd, Nat.reduceMul, Nat.reduceEqDiff, Nat.reduceLeDiff, Nat.reduceLT, Nat.reduceSub, Int.reduceEq, Int.reduceBEq, Int.reduceLT, Int.reduceLE, Int.reduceAdd, Int.reduceToNat, reduceIte, reduceCtorEq, e3, e4] | (refine hK _ ?_; clear hK; clear K') | refine And.intro ?_ ?_ | (apply QS; (focus first | exact (Xw _).b | exact (XQ _).b)) | exact zlo | omega | exact zms)
      refine Vk (ι := Nat) (fun k => k ≤ rs.length ∧ (rs.drop k).all J5 = rs.all J5) (fun k => [(3, V.int k)]) (fun k => rs.length - k) 0 (by omega) ⟨by simp, by simp⟩ (by repeat' first | exact Uu | refine qm (by omega) (by simp only [Ob.lt, ltL, V.lt, and_self, and_true]; try omega) ?_) (fun i hi => by simp only [ovT, XS, Nat.reduceEqDiff, reduceIte]; (repeat' first | exact ql | refine Ut ?_ ?_ | simp only [V.lt, ltL, and_self, and_true] | omega)) (by simp only [Nat.reduceAdd, ovT, XS, Nat.reduceEqDiff, reduceIte, YW, XB, xJ, u32, u33, u34, u35, u36, u37, u38, u39, and_self, and_true, true_and]; rfl) fun k hk K' hL => ?_
      obtain ⟨hk1, hinv⟩ := hk
      simp only [ovT, XS, Nat.reduceEqDiff, reduceIte]
      rcases hd : rs.drop k with _ | ⟨y, r⟩
      · have hkl := XU hd
        have e5 : decide ((k : Int) < (((rs.map Qp.v).length : Nat) : Int)) = false := by simp; omega
        rw [hd] at hinv
        rw [← hinv]
        simp only [List.all_nil, Bool.true_and]
        repeat' (first | refine Qf fun K' hK => ?_ | refine Qi fun K' hK => ?_ | refine Qg ?_ | refine Qh ?_ | refine Qa ?_ | ((first | refine Qk ⟨_, rfl, fun hc => ?_, fun hc => ?_⟩ | refine QM (fun hc => ?_) (fun hc => ?_) | refine QN (fun hc => ?_) (fun hc => ?_)) <;> first | exact Bool.noConfusion hc | ((try simp only [znz] at hc); first | exact znf | skip)) | refine Qo ?_ | refine Qj ?_ | simp (maxSteps := 1000000) only [go_sem, Nat.reduceAdd, Nat.reduceMul, Nat.reduceEqDiff, Nat.reduceLeDiff, Nat.reduceLT, Nat.reduceSub, Int.reduceEq, Int.reduceBEq, Int.reduceLT, Int.reduceLE, Int.reduceAdd, Int.reduceToNat, reduceIte, reduceCtorEq, e5] | (refine hK _ ?_; clear hK; clear K') | refine And.intro ?_ ?_ | (apply QS; (focus first | exact (Xw _).b | exact (XQ _).b)) | exact zlo | omega | exact zms)
        refine Vk (ι := Nat) (fun j => j ≤ ks.length ∧ (ks.drop j).all XZ = ks.all XZ) (fun j => [(4, V.int j)]) (fun j => ks.length - j) 0 (by omega) ⟨by simp, by simp⟩ (by repeat' first | exact Uu | refine qm (by omega) (by simp only [Ob.lt, ltL, V.lt, and_self, and_true]; try omega) ?_) (fun i hi => by simp only [ovT, XS, Nat.reduceEqDiff, reduceIte]; (repeat' first | exact ql | refine Ut ?_ ?_ | simp only [V.lt, ltL, and_self, and_true] | omega)) (by simp only [Nat.reduceAdd, ovT, XS, Nat.reduceEqDiff, reduceIte, YW, XB, xJ, u32, u33, u34, u35, u36, u37, u38, u39, and_self, and_true, true_and]; rfl) fun j hj K' hL => ?_
        obtain ⟨hj1, hinv2⟩ := hj
        simp only [ovT, XS, Nat.reduceEqDiff, reduceIte]
        rcases hd2 : ks.drop j with _ | ⟨z, r2⟩
        · have hjl := XU hd2
          have e6 : decide ((j : Int) < (((ks.map Qs.v).length : Nat) : Int)) = false := by simp; omega
          rw [hd2] at hinv2
          rw [← hinv2]
          repeat' (first | refine Qf fun K' hK => ?_ | refine Qi fun K' hK => ?_ | refine Qg ?_ | refine Qh ?_ | refine Qa ?_ | ((first | refine Qk ⟨_, rfl, fun hc => ?_, fun hc => ?_⟩ | refine QM (fun hc => ?_) (fun hc => ?_) | refine QN (fun hc => ?_) (fun hc => ?_)) <;> first | exact Bool.noConfusion hc | ((try simp only [znz] at hc); first | exact znf | skip)) | refine Qo ?_ | refine Qj ?_ | simp (maxSteps := 1000000) only [go_sem, Nat.reduceAdd, Nat.reduceMul, Nat.reduceEqDiff, Nat.reduceLeDiff, Nat.reduceLT, Nat.reduceSub, Int.reduceEq, Int.reduceBEq, Int.reduceLT, Int.reduceLE, Int.reduceAdd, Int.reduceToNat, reduceIte, reduceCtorEq, e6] | (refine hK _ ?_; clear hK; clear K') | refine And.intro ?_ ?_ | (apply QS; (focus first | exact (Xw _).b | exact (XQ _).b)) | exact zlo | omega | exact zms)
          all_goals first | (refine QQ _ rfl ?_; simp only [go_sem, Nat.reduceEqDiff, Nat.reduceAdd, reduceIte, reduceCtorEq]; done) | (refine QQ _ rfl ?_; simp only [go_sem, Nat.reduceEqDiff, Nat.reduceAdd, reduceIte, reduceCtorEq]; rfl) | trace_state
        · obtain ⟨hj', hget, hr2⟩ := Xq hd2
          have hw := Xh (k := j) (by omega)
          have e6 : decide ((j : Int) < (((ks.map Qs.v).length : Nat) : Int)) = true := by simp; omega
          rw [hd2, List.all_cons] at hinv2
          have hct := (XQ z).b
          rcases hz : XZ z with _ | _
          · rw [hz] at hct hinv2
            rw [← hinv2]
            repeat' (first | refine Qf fun K' hK => ?_ | refine Qi fun K' hK => ?_ | refine Qg ?_ | refine Qh ?_ | refine Qa ?_ | ((first | refine Qk ⟨_, rfl, fun hc => ?_, fun hc => ?_⟩ | refine QM (fun hc => ?_) (fun hc => ?_) | refine QN (fun hc => ?_) (fun hc => ?_)) <;> first | exact Bool.noConfusion hc | ((try simp only [znz] at hc); first | exact znf | skip)) | refine Qo ?_ | refine Qj ?_ | simp (maxSteps := 1000000) only [go_sem, Nat.reduceAdd, Nat.reduceMul, Nat.reduceEqDiff, Nat.reduceLeDiff, Nat.reduceLT, Nat.reduceSub, Int.reduceEq, Int.reduceBEq, Int.reduceLT, Int.reduceLE, Int.reduceAdd, Int.reduceToNat, reduceIte, reduceCtorEq, e6, hw, Int.toNat_natCast, List.getElem?_map, hget, Qs.v, Qs.cells] | (refine hK _ ?_; clear hK; clear K') | refine And.intro ?_ ?_ | (apply QS; (focus first | exact hct | exact (Xw _).b | exact (XQ _).b)) | exact zlo | omega | exact zms)
            all_goals first | (refine QQ _ rfl ?_; simp only [go_sem, Nat.reduceEqDiff, Nat.reduceAdd, reduceIte, reduceCtorEq]; done) | (refine QQ _ rfl ?_; simp only [go_sem, Nat.reduceEqDiff, Nat.reduceAdd, reduceIte, reduceCtorEq]; rfl) | trace_state
          · rw [hz] at hct hinv2
            repeat' (first | refine Qf fun K' hK => ?_ | refine Qi fun K' hK => ?_ | refine Qg ?_ | refine Qh ?_ | refine Qa ?_ | ((first | refine Qk ⟨_, rfl, fun hc => ?_, fun hc => ?_⟩ | refine QM (fun hc => ?_) (fun hc => ?_) | refine QN (fun hc => ?_) (fun hc => ?_)) <;> first | exact Bool.noConfusion hc | ((try simp only [znz] at hc); first | exact znf | skip)) | refine Qo ?_ | refine Qj ?_ | simp (maxSteps := 1000000) only [go_sem, Nat.reduceAdd, Nat.reduceMul, Nat.reduceEqDiff, Nat.reduceLeDiff, Nat.reduceLT, Nat.reduceSub, Int.reduceEq, Int.reduceBEq, Int.reduceLT, Int.reduceLE, Int.reduceAdd, Int.reduceToNat, reduceIte, reduceCtorEq, e6, hw, Int.toNat_natCast, List.getElem?_map, hget, Qs.v, Qs.cells] | (refine hK _ ?_; clear hK; clear K') | refine And.intro ?_ ?_ | (apply QS; (focus first | exact hct | exact (Xw _).b | exact (XQ _).b)) | exact zlo | omega | exact zms)
            all_goals first
              | exact hL _ (j + 1) (by simp only [Nat.reduceAdd, ovT, XS, Nat.reduceEqDiff, reduceIte, YW, XB, xJ, u32, u33, u34, u35, u36, u37, u38, u39, and_self, and_true, true_and]) ⟨by omega, by rw [hr2]; simpa using hinv2⟩ (by omega) (fun a ha => by simp only [u32, u33, u34, u35, u36, u37, u38, u39]; repeat rw [if_neg (by omega)])
              | exact hL _ (j + 1) (by simp only [Nat.reduceAdd, ovT, XS, Nat.reduceEqDiff, reduceIte, YW, XB, xJ, u32, u33, u34, u35, u36, u37, u38, u39, and_self, and_true, true_and]) ⟨by omega, by rw [hr2]; simpa using hinv2⟩ (by omega) (fun a ha => rfl)
              | trace_state
      · obtain ⟨hk', hget, hr2⟩ := Xq hd
        have hw := Xh (k := k) (by omega)
        have e5 : decide ((k : Int) < (((rs.map Qp.v).length : Nat) : Int)) = true := by simp; omega
        rw [hd, List.all_cons] at hinv
        have hct := (Xw y).b
        rcases hz : J5 y with _ | _
        · rw [hz] at hct hinv
          rw [← hinv]
          simp only [Bool.false_and]
          repeat' (first | refine Qf fun K' hK => ?_ | refine Qi fun K' hK => ?_ | refine Qg ?_ | refine Qh ?_ | refine Qa ?_ | ((first | refine Qk ⟨_, rfl, fun hc => ?_, fun hc => ?_⟩ | refine QM (fun hc => ?_) (fun hc => ?_) | refine QN (fun hc => ?_) (fun hc => ?_)) <;> first | exact Bool.noConfusion hc | ((try simp only [znz] at hc); first | exact znf | skip)) | refine Qo ?_ | refine Qj ?_ | simp (maxSteps := 1000000) only [go_sem, Nat.reduceAdd, Nat.reduceMul, Nat.reduceEqDiff, Nat.reduceLeDiff, Nat.reduceLT, Nat.reduceSub, Int.reduceEq, Int.reduceBEq, Int.reduceLT, Int.reduceLE, Int.reduceAdd, Int.reduceToNat, reduceIte, reduceCtorEq, e5, hw, Int.toNat_natCast, List.getElem?_map, hget, Qp.v, Qp.cells] | (refine hK _ ?_; clear hK; clear K') | refine And.intro ?_ ?_ | (apply QS; (focus first | exact hct | exact (Xw _).b | exact (XQ _).b)) | exact zlo | omega | exact zms)
          all_goals first | (refine QQ _ rfl ?_; simp only [go_sem, Nat.reduceEqDiff, Nat.reduceAdd, reduceIte, reduceCtorEq]; done) | (refine QQ _ rfl ?_; simp only [go_sem, Nat.reduceEqDiff, Nat.reduceAdd, reduceIte, reduceCtorEq]; rfl) | trace_state
        · rw [hz] at hct hinv
          repeat' (first | refine Qf fun K' hK => ?_ | refine Qi fun K' hK => ?_ | refine Qg ?_ | refine Qh ?_ | refine Qa ?_ | ((first | refine Qk ⟨_, rfl, fun hc => ?_, fun hc => ?_⟩ | refine QM (fun hc => ?_) (fun hc => ?_) | refine QN (fun hc => ?_) (fun hc => ?_)) <;> first | exact Bool.noConfusion hc | ((try simp only [znz] at hc); first | exact znf | skip)) | refine Qo ?_ | refine Qj ?_ | simp (maxSteps := 1000000) only [go_sem, Nat.reduceAdd, Nat.reduceMul, Nat.reduceEqDiff, Nat.reduceLeDiff, Nat.reduceLT, Nat.reduceSub, Int.reduceEq, Int.reduceBEq, Int.reduceLT, Int.reduceLE, Int.reduceAdd, Int.reduceToNat, reduceIte, reduceCtorEq, e5, hw, Int.toNat_natCast, List.getElem?_map, hget, Qp.v, Qp.cells] | (refine hK _ ?_; clear hK; clear K') | refine And.intro ?_ ?_ | (apply QS; (focus first | exact hct | exact (Xw _).b | exact (XQ _).b)) | exact zlo | omega | exact zms)
          all_goals first
            | exact hL _ (k + 1) (by simp only [Nat.reduceAdd, ovT, XS, Nat.reduceEqDiff, reduceIte, YW, XB, xJ, u32, u33, u34, u35, u36, u37, u38, u39, and_self, and_true, true_and]) ⟨by omega, by rw [hr2]; simpa using hinv⟩ (by omega) (fun a ha => by simp only [u32, u33, u34, u35, u36, u37, u38, u39]; repeat rw [if_neg (by omega)])
            | exact hL _ (k + 1) (by simp only [Nat.reduceAdd, ovT, XS, Nat.reduceEqDiff, reduceIte, YW, XB, xJ, u32, u33, u34, u35, u36, u37, u38, u39, and_self, and_true, true_and]) ⟨by omega, by rw [hr2]; simpa using hinv⟩ (by omega) (fun a ha => rfl)
            | trace_state
    · have e0 : WQ rs ks = 25 := by rw [WQ, decide_eq_false h4, Bool.and_false]; rfl
      rw [decide_eq_true h3] at e3
      rw [decide_eq_false h4] at e4
      rw [e0]
      repeat' (first | refine Qf fun K' hK => ?_ | refine Qi fun K' hK => ?_ | refine Qg ?_ | refine Qh ?_ | refine Qa ?_ | ((first | refine Qk ⟨_, rfl, fun hc => ?_, fun hc => ?_⟩ | refine QM (fun hc => ?_) (fun hc => ?_) | refine QN (fun hc => ?_) (fun hc => ?_)) <;> first | exact Bool.noConfusion hc | ((try simp only [znz] at hc); first | exact znf | skip)) | refine Qo ?_ | refine Qj ?_ | simp (maxSteps := 1000000) only [go_sem, Nat.reduceAdd, Nat.reduceMul, Nat.reduceEqDiff, Nat.reduceLeDiff, Nat.reduceLT, Nat.reduceSub, Int.reduceEq, Int.reduceBEq, Int.reduceLT, Int.reduceLE, Int.reduceAdd, Int.reduceToNat, reduceIte, reduceCtorEq, e3, e4] | (refine hK _ ?_; clear hK; clear K') | refine And.intro ?_ ?_ | (apply QS; (focus first | exact (Xw _).b | exact (XQ _).b)) | exact zlo | omega | exact zms)
      all_goals first | (refine QQ _ rfl ?_; simp only [go_sem, Nat.reduceEqDiff, Nat.reduceAdd, reduceIte, reduceCtorEq]; done) | trace_state
  · have e0 : WQ rs ks = 25 := by rw [WQ, decide_eq_false h3, Bool.and_false, Bool.false_and]; rfl
    rw [decide_eq_false h3] at e3
    rw [e0]
    repeat' (first | refine Qf fun K' hK => ?_ | refine Qi fun K' hK => ?_ | refine Qg ?_ | refine Qh ?_ | refine Qa ?_ | ((first | refine Qk ⟨_, rfl, fun hc => ?_, fun hc => ?_⟩ | refine QM (fun hc => ?_) (fun hc => ?_) | refine QN (fun hc => ?_) (fun hc => ?_)) <;> first | exact Bool.noConfusion hc | ((try simp only [znz] at hc); first | exact znf | skip)) | refine Qo ?_ | refine Qj ?_ | simp (maxSteps := 1000000) only [go_sem, Nat.reduceAdd, Nat.reduceMul, Nat.reduceEqDiff, Nat.reduceLeDiff, Nat.reduceLT, Nat.reduceSub, Int.reduceEq, Int.reduceBEq, Int.reduceLT, Int.reduceLE, Int.reduceAdd, Int.reduceToNat, reduceIte, reduceCtorEq, e3] | (refine hK _ ?_; clear hK; clear K') | refine And.intro ?_ ?_ | (apply QS; (focus first | exact (Xw _).b | exact (XQ _).b)) | exact zlo | omega | exact zms)
    all_goals first | (refine QQ _ rfl ?_; simp only [go_sem, Nat.reduceEqDiff, Nat.reduceAdd, reduceIte, reduceCtorEq]; done) | trace_state
end Av
end

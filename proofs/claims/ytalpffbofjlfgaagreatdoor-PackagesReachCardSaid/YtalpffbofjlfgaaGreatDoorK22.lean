/- K22 -/
import Derived.Test.YtalpffbofjlfgaaGreatDoorK21
import Derived.Test.YtalpffbofjlfgaaGreatDoorK20
set_option linter.unusedVariables false
set_option linter.unusedSimpArgs false
section
set_option linter.unusedSimpArgs false
set_option linter.unusedVariables false
set_option maxRecDepth 10000
set_option maxHeartbeats 4000000
namespace Av
open Go
attribute [local irreducible] AWp Wz WQ W4 awS awC V1 awQ Ue Jc YR VY awR YY awB okR Wt ris
def Wd : List QK → Bool
  | a :: b :: r => !(Op.bytesLess a.name b.name) || Wd (b :: r)
  | _ => false
def agT (p : QK) : Bool := decide ((p.needs.length : Int) > 8)
def akU (x : QK) : Bool := !UP x.name || x.needs.any fun n => !UP n.name
def ajR (x : QK) : Bool := !qN x.ver || x.needs.any fun n => !Kd n.lo n.up
def Uk (l : List QK) : Int :=
  if (decide ((l.length : Int) > 64) || l.any agT) = true then 3 else if l.any akU = true then 14 else if l.any ajR = true then 22 else if Wd l = true then 6 else 0
theorem aco {l : List QK} (h : l.length ≤ 1) : Wd l = false := by
  match l, h with
  | [], _ => rfl
  | [_], _ => rfl
def Ke : List AO := [mv 25 4, bc 26 .gtr 25 (V.int 0), mv 27 26, mg 28 0 27 true, mg 29 4 27 true, xg 30 (.bin .sub (.t 29) (.c (V.int 1))) 27 true, xg 31 (.iaddr 3 (.t 28) (.t 30)) 27 true, xg 32 (.faddr 0 (.t 31)) 27 true, xg 33 (.load false 1 (.t 32)) 27 true, mg 34 0 27 true, mg 35 4 27 true, xg 36 (.iaddr 3 (.t 34) (.t 35)) 27 true, xg 37 (.faddr 0 (.t 36)) 27 true, xg 38 (.load false 1 (.t 37)) 27 true, xg 39 (.bin .geq (.t 33) (.t 38)) 27 true, xo 40 (.pick (.t 27) (.t 39) (.c (V.bool false)))]
def Kt : List (List Nat) := [[], [0], [1], [2], [2], [4, 2], [3, 5, 2], [6, 2], [7, 2], [2], [2], [9, 10, 2], [11, 2], [12, 2], [8, 13, 2], [2, 14]]
def U9 : OT := .one 0 (.one 1 (.one 2 (.one 3 (.one 4 (.one 5 (.one 6 (.one 7 (.one 8 (.one 9 (.one 10 (.one 11 (.one 12 (.one 13 (.one 14 (.one 15 (.done))))))))))))))))
def JW : OP := .one 0 false [] (mv 25 4) (.one 1 false [] (bc 26 .gtr 25 (V.int 0)) (.one 2 false [] (mv 27 26) (.one 3 false [] (mg 28 0 27 true) (.one 4 false [] (mg 29 4 27 true) (.one 5 false [] (xg 30 (.bin .sub (.t 29) (.c (V.int 1))) 27 true) (.one 6 false [] (xg 31 (.iaddr 3 (.t 28) (.t 30)) 27 true) (.one 7 false [] (xg 32 (.faddr 0 (.t 31)) 27 true) (.one 8 false [] (xg 33 (.load false 1 (.t 32)) 27 true) (.one 9 false [] (mg 34 0 27 true) (.one 10 false [] (mg 35 4 27 true) (.one 11 false [] (xg 36 (.iaddr 3 (.t 34) (.t 35)) 27 true) (.one 12 false [] (xg 37 (.faddr 0 (.t 36)) 27 true) (.one 13 false [] (xg 38 (.load false 1 (.t 37)) 27 true) (.one 14 false [] (xg 39 (.bin .geq (.t 33) (.t 38)) 27 true) (.one 15 false [] (xo 40 (.pick (.t 27) (.t 39) (.c (V.bool false)))) (.done))))))))))))))))
theorem Jn : okR (Ke) Kt [] U9 = true := by kernel_rfl
theorem Jm : Wt (ris (Ke) Kt []) U9 = JW := by kernel_rfl def c_packages_Check (WL QN Uw WK WJ WI WH : Nat) : AC := Qr [0] (.reg [mc 2 (V.int 0)]) (Qr [0, 3] (.reg [mc 3 (.clo WL [])]) (Qr [0] (.block 0 (Qr [0, 5] (.reg [mv 6 0, ln 7 6, bc 8 .gtr 7 (V.int 64), mv 9 8, mg 10 0 9 false, mg 11 3 9 false, xg 12 (.call QN [(.t 10), (.t 11)]) 9 false, xo 13 (.pick (.t 9) (.c (V.bool true)) (.t 12)), mv 5 13]) (.cond (.t 5) (Qr [2] (.reg [mc 2 (V.int 3)]) (.ret)) (Qr [0, 14] (.reg [mv 15 0, xo 16 (.call Uw [(.t 15), (.c (.clo WK [])), (.c (.clo WJ []))]), mv 14 16]) (.cond (.t 14) (Qr [2] (.reg [mc 2 (V.int 14)]) (.ret)) (Qr [0, 17] (.reg [mv 18 0, xo 19 (.call Uw [(.t 18), (.c (.clo WI [])), (.c (.clo WH []))]), mv 17 19]) (.cond (.t 17) (Qr [2] (.reg [mc 2 (V.int 22)]) (.ret)) (.skip)))))))) (Qr [] (Qr [0, 21, 22] (.reg [mv 20 0, ln 21 20, mc 22 (V.int 0)]) (.block 1 (W5 [0, 21, 22] (Qr [0, 21, 22, 23] (.reg [bn 23 .lss 22 21]) (Qr [0, 21, 22] (.cond (.t 23) (.skip) (.exit 1)) (Qr [0, 21, 22] (.block 2 (Qr [0, 4, 21, 22] (.reg [mv 24 22, mv 4 24]) (Qr [0, 21, 22, 40] (acq [] U9 (JW) (Ke) Kt) (.cond (.t 40) (Qr [2] (.reg [mc 2 (V.int 6)]) (.ret)) (.skip))))) (.reg [bc 41 .add 22 (V.int 1), mv 22 41]))))))) (Qr [2] (.reg [mc 2 (V.int 0)]) (.ret))))) def r_packages_Check : List Wc := [.tmp 2]
def Ui (Γ : Env) (f : Nat) : Prop := ∀ (l : List QK) (hl : PSz l), EvN Γ f [.sl 3 (l.map QK.v)] (V.int (Uk l))
theorem aaE {Γ : Env} {f WL QN Uw WK WJ WI WH : Nat} (h : Has Γ.P f 42 (c_packages_Check WL QN Uw WK WJ WI WH) r_packages_Check) (Yc : U1 Γ WL) (Qs : JA Γ QN) (Xa : jj Γ Uw) (Yb : U0 Γ WK) (Ya : UZ Γ WJ) (J9 : UY Γ WI) (J8 : UX Γ WH) : Ui Γ f := by
  intro l hl
  refine QV h (by simp) (by simp only [V.closed, Qj, V.noSl, Jy, and_self, and_true, true_and]) (by simp only [V.closed, Qj, V.noSl, Jy, and_self, and_true, true_and]) fun C hC hm => ?_
  subst hC
  unfold c_packages_Check
  have g1 := (Qs l WL [] agT (fun x _ => Yc x) trivial hl.1).b
  have g2 := (Xa l WK [] WJ [] (fun p => !UP p.name) (fun n => !UP n.name) (fun x hx => Yb x (hl.2 x hx).1) (fun x hx y hy => Ya y ((hl.2 x hx).2.2.2 y hy).1) trivial trivial hl).b
  have g3 := (Xa l WI [] WH [] (fun p => !qN p.ver) (fun n => !Kd n.lo n.up) (fun x hx => J9 x (hl.2 x hx).2.1) (fun x hx y hy => J8 y ((hl.2 x hx).2.2.2 y hy).2.1 ((hl.2 x hx).2.2.2 y hy).2.2) trivial trivial hl).b
  have d2 : (l.any fun x => !UP x.name || x.needs.any fun n => !UP n.name) = l.any akU := rfl
  have d3 : (l.any fun x => !qN x.ver || x.needs.any fun n => !Kd n.lo n.up) = l.any ajR := rfl
  rw [d2] at g2
  rw [d3] at g3
  have hlen := hl.1
  unfold Uk
  rcases e0 : decide ((l.length : Int) > 64) with _ | _
  · have e0' : decide ((((l.map QK.v).length : Nat) : Int) > 64) = false := by rw [List.length_map]; exact e0
    rcases e1 : l.any agT with _ | _
    · rw [e1] at g1
      rcases e2 : l.any akU with _ | _
      · rw [e2] at g2
        rcases e3 : l.any ajR with _ | _
        · rw [e3] at g3
          simp only [Bool.or_self, Bool.false_eq_true, if_false]
          repeat' (first | refine Qb fun K' hK => ?_ | refine Qe fun K' hK => ?_ | refine Qp 16 (fun _ => true) rfl (Jn) (Jm) fun K' hK => ?_ | refine Qq 16 (fun _ => true) rfl (Jn) (Jm) fun K' hK => ?_ | refine Qc ?_ | refine Qd ?_ | refine Qa ?_ | ((first | refine Qg ⟨_, rfl, fun hc => ?_, fun hc => ?_⟩ | refine QL (fun hc => ?_) (fun hc => ?_) | refine QM (fun hc => ?_) (fun hc => ?_)) <;> first | exact Bool.noConfusion hc | ((try simp only [znz] at hc); first | exact znf | skip)) | refine Qi ?_ | refine Qf ?_ | simp (maxSteps := 1000000) only [go_sem, Nat.reduceAdd, Nat.reduceMul, Nat.reduceEqDiff, Nat.reduceLeDiff, Nat.reduceLT, Nat.reduceSub, Int.reduceEq, Int.reduceBEq, Int.reduceLT, Int.reduceLE, Int.reduceAdd, Int.reduceToNat, reduceIte, reduceCtorEq, e0', JW] | (refine hK _ ?_; clear hK; clear K') | refine And.intro ?_ ?_ | ((first | apply QX | apply YB); (focus first | exact g1 | exact g2 | exact g3 | exact (Yc _).b | exact (Qs _ _ _ _ zsd zsd zsd).b | exact (Xa _ _ _ _ _ _ _ zsd zsd zsd zsd zsd).b | exact (Yb _ zsd).b | exact (Ya _ zsd).b | exact (J9 _ zsd).b | exact (J8 _ zsd zsd).b)) | exact zlo | omega | exact zms)
          refine Vv (ι := Nat) (fun k => k ≤ l.length ∧ Wd (l.drop (k - 1)) = Wd l) (fun k => [(22, V.int k)]) (fun k => l.length - k) 0 (by omega) ⟨by simp, by simp⟩ (by repeat' first | exact UE | refine qu (by omega) (by simp only [Ob.lt, ltL, V.lt, and_self, and_true]; try omega) ?_) (fun i hi => by simp only [ovT, XZ, Nat.reduceEqDiff, reduceIte]; (repeat' first | exact qt | refine UD ?_ ?_ | simp only [V.lt, ltL, and_self, and_true] | omega)) (by simp only [Nat.reduceAdd, ovT, XZ, Nat.reduceEqDiff, reduceIte, Yx, XO, wL, u32, u33, u34, u35, u36, u37, u38, u39, and_self, and_true, true_and]; first | done | rfl) fun k hk K' hL => ?_
          obtain ⟨hk, hinv⟩ := hk
          simp only [ovT, XZ, Nat.reduceEqDiff, reduceIte]
          by_cases hkl : k < l.length
          · have c1 : decide ((k : Int) < (((l.map QK.v).length : Nat) : Int)) = true := by simp; omega
            have hw := JS (k := k) (by omega)
            rcases k with _ | j
            · repeat' (first | refine Qb fun K' hK => ?_ | refine Qe fun K' hK => ?_ | refine Qp 16 (fun _ => true) rfl (Jn) (Jm) fun K' hK => ?_ | refine Qq 16 (fun _ => true) rfl (Jn) (Jm) fun K' hK => ?_ | refine Qc ?_ | refine Qd ?_ | refine Qa ?_ | ((first | refine Qg ⟨_, rfl, fun hc => ?_, fun hc => ?_⟩ | refine QL (fun hc => ?_) (fun hc => ?_) | refine QM (fun hc => ?_) (fun hc => ?_)) <;> first | exact Bool.noConfusion hc | ((try simp only [znz] at hc); first | exact znf | skip)) | refine Qi ?_ | refine Qf ?_ | simp (maxSteps := 1000000) only [go_sem, Nat.reduceAdd, Nat.reduceMul, Nat.reduceEqDiff, Nat.reduceLeDiff, Nat.reduceLT, Nat.reduceSub, Int.reduceEq, Int.reduceBEq, Int.reduceLT, Int.reduceLE, Int.reduceAdd, Int.reduceToNat, reduceIte, reduceCtorEq, c1, hw, JW] | (refine hK _ ?_; clear hK; clear K') | refine And.intro ?_ ?_ | ((first | apply QX | apply YB); (focus first | exact (Yc _).b | exact (Qs _ _ _ _ zsd zsd zsd).b | exact (Xa _ _ _ _ _ _ _ zsd zsd zsd zsd zsd).b | exact (Yb _ zsd).b | exact (Ya _ zsd).b | exact (J9 _ zsd).b | exact (J8 _ zsd zsd).b)) | exact zlo | omega | exact zms)
              all_goals first | exact hL _ 1 (by simp only [Nat.reduceAdd, ovT, XZ, Nat.reduceEqDiff, reduceIte, Yx, XO, wL, u32, u33, u34, u35, u36, u37, u38, u39, and_self, and_true, true_and]; first | done | rfl) ⟨by omega, by simp⟩ (by omega) (fun a ha => by simp only [u32, u33, u34, u35, u36, u37, u38, u39]; repeat rw [if_neg (by omega)]) | trace_state
            · have hj : (l.drop j) = l[j] :: l[j + 1] :: l.drop (j + 2) := by rw [List.drop_eq_getElem_cons (by omega), List.drop_eq_getElem_cons (by omega)]
              have hga : l[j]? = some l[j] := List.getElem?_eq_getElem (by omega)
              have hgb : l[j + 1]? = some l[j + 1] := List.getElem?_eq_getElem (by omega)
              have hdd : l.drop (j + 1) = l[j + 1] :: l.drop (j + 2) := by rw [List.drop_eq_getElem_cons (by omega)]
              rw [Nat.add_sub_cancel, hj, Wd, ← hdd] at hinv
              have c2 : decide (((j + 1 : Nat) : Int) > 0) = true := decide_eq_true (by omega)
              have hw2 : IntKind.i64.wrap (((j + 1 : Nat) : Int) - 1) = (j : Int) := by rw [Wl (by omega) (by omega)]; omega
              generalize l[j] = a at *
              generalize l[j + 1] = b at *
              rcases hb : Op.bytesLess a.name b.name with _ | _
              · rw [hb] at hinv
                have : Wd l = true := by rw [← hinv]; rfl
                rw [this]
                repeat' (first | refine Qb fun K' hK => ?_ | refine Qe fun K' hK => ?_ | refine Qp 16 (fun _ => true) rfl (Jn) (Jm) fun K' hK => ?_ | refine Qq 16 (fun _ => true) rfl (Jn) (Jm) fun K' hK => ?_ | refine Qc ?_ | refine Qd ?_ | refine Qa ?_ | ((first | refine Qg ⟨_, rfl, fun hc => ?_, fun hc => ?_⟩ | refine QL (fun hc => ?_) (fun hc => ?_) | refine QM (fun hc => ?_) (fun hc => ?_)) <;> first | exact Bool.noConfusion hc | ((try simp only [znz] at hc); first | exact znf | skip)) | refine Qi ?_ | refine Qf ?_ | simp (maxSteps := 1000000) only [go_sem, Nat.reduceAdd, Nat.reduceMul, Nat.reduceEqDiff, Nat.reduceLeDiff, Nat.reduceLT, Nat.reduceSub, Int.reduceEq, Int.reduceBEq, Int.reduceLT, Int.reduceLE, Int.reduceAdd, Int.reduceToNat, reduceIte, reduceCtorEq, c1, c2, hw, hw2, hga, hgb, hb, Int.toNat_natCast, List.getElem?_map, QK.v, QK.cells, JW] | (refine hK _ ?_; clear hK; clear K') | refine And.intro ?_ ?_ | ((first | apply QX | apply YB); (focus first | exact (Yc _).b | exact (Qs _ _ _ _ zsd zsd zsd).b | exact (Xa _ _ _ _ _ _ _ zsd zsd zsd zsd zsd).b | exact (Yb _ zsd).b | exact (Ya _ zsd).b | exact (J9 _ zsd).b | exact (J8 _ zsd zsd).b)) | exact zlo | omega | exact zms)
                all_goals first | (refine Jb _ rfl ?_; simp only [go_sem, Nat.reduceEqDiff, Nat.reduceAdd, reduceIte, reduceCtorEq]; done) | trace_state
              · rw [hb] at hinv
                repeat' (first | refine Qb fun K' hK => ?_ | refine Qe fun K' hK => ?_ | refine Qp 16 (fun _ => true) rfl (Jn) (Jm) fun K' hK => ?_ | refine Qq 16 (fun _ => true) rfl (Jn) (Jm) fun K' hK => ?_ | refine Qc ?_ | refine Qd ?_ | refine Qa ?_ | ((first | refine Qg ⟨_, rfl, fun hc => ?_, fun hc => ?_⟩ | refine QL (fun hc => ?_) (fun hc => ?_) | refine QM (fun hc => ?_) (fun hc => ?_)) <;> first | exact Bool.noConfusion hc | ((try simp only [znz] at hc); first | exact znf | skip)) | refine Qi ?_ | refine Qf ?_ | simp (maxSteps := 1000000) only [go_sem, Nat.reduceAdd, Nat.reduceMul, Nat.reduceEqDiff, Nat.reduceLeDiff, Nat.reduceLT, Nat.reduceSub, Int.reduceEq, Int.reduceBEq, Int.reduceLT, Int.reduceLE, Int.reduceAdd, Int.reduceToNat, reduceIte, reduceCtorEq, c1, c2, hw, hw2, hga, hgb, hb, Int.toNat_natCast, List.getElem?_map, QK.v, QK.cells, JW] | (refine hK _ ?_; clear hK; clear K') | refine And.intro ?_ ?_ | ((first | apply QX | apply YB); (focus first | exact (Yc _).b | exact (Qs _ _ _ _ zsd zsd zsd).b | exact (Xa _ _ _ _ _ _ _ zsd zsd zsd zsd zsd).b | exact (Yb _ zsd).b | exact (Ya _ zsd).b | exact (J9 _ zsd).b | exact (J8 _ zsd zsd).b)) | exact zlo | omega | exact zms)
                all_goals first | exact hL _ (j + 1 + 1) (by simp only [Nat.reduceAdd, ovT, XZ, Nat.reduceEqDiff, reduceIte, Yx, XO, wL, u32, u33, u34, u35, u36, u37, u38, u39, and_self, and_true, true_and]) ⟨by omega, by simpa using hinv⟩ (by omega) (fun a ha => by simp only [u32, u33, u34, u35, u36, u37, u38, u39]; repeat rw [if_neg (by omega)]) | trace_state
          · have c1 : decide ((k : Int) < (((l.map QK.v).length : Nat) : Int)) = false := by simp; omega
            rw [aco (by simp; omega)] at hinv
            rw [← hinv]
            repeat' (first | refine Qb fun K' hK => ?_ | refine Qe fun K' hK => ?_ | refine Qp 16 (fun _ => true) rfl (Jn) (Jm) fun K' hK => ?_ | refine Qq 16 (fun _ => true) rfl (Jn) (Jm) fun K' hK => ?_ | refine Qc ?_ | refine Qd ?_ | refine Qa ?_ | ((first | refine Qg ⟨_, rfl, fun hc => ?_, fun hc => ?_⟩ | refine QL (fun hc => ?_) (fun hc => ?_) | refine QM (fun hc => ?_) (fun hc => ?_)) <;> first | exact Bool.noConfusion hc | ((try simp only [znz] at hc); first | exact znf | skip)) | refine Qi ?_ | refine Qf ?_ | simp (maxSteps := 1000000) only [go_sem, Nat.reduceAdd, Nat.reduceMul, Nat.reduceEqDiff, Nat.reduceLeDiff, Nat.reduceLT, Nat.reduceSub, Int.reduceEq, Int.reduceBEq, Int.reduceLT, Int.reduceLE, Int.reduceAdd, Int.reduceToNat, reduceIte, reduceCtorEq, c1, JW] | (refine hK _ ?_; clear hK; clear K') | refine And.intro ?_ ?_ | ((first | apply QX | apply YB); (focus first | exact (Yc _).b | exact (Qs _ _ _ _ zsd zsd zsd).b | exact (Xa _ _ _ _ _ _ _ zsd zsd zsd zsd zsd).b | exact (Yb _ zsd).b | exact (Ya _ zsd).b | exact (J9 _ zsd).b | exact (J8 _ zsd zsd).b)) | exact zlo | omega | exact zms)
            all_goals first | (refine Jb _ rfl ?_; simp only [go_sem, Nat.reduceEqDiff, Nat.reduceAdd, reduceIte, reduceCtorEq]; done) | trace_state
        · rw [e3] at g3
          repeat' (first | refine Qb fun K' hK => ?_ | refine Qe fun K' hK => ?_ | refine Qp 16 (fun _ => true) rfl (Jn) (Jm) fun K' hK => ?_ | refine Qq 16 (fun _ => true) rfl (Jn) (Jm) fun K' hK => ?_ | refine Qc ?_ | refine Qd ?_ | refine Qa ?_ | ((first | refine Qg ⟨_, rfl, fun hc => ?_, fun hc => ?_⟩ | refine QL (fun hc => ?_) (fun hc => ?_) | refine QM (fun hc => ?_) (fun hc => ?_)) <;> first | exact Bool.noConfusion hc | ((try simp only [znz] at hc); first | exact znf | skip)) | refine Qi ?_ | refine Qf ?_ | simp (maxSteps := 1000000) only [go_sem, Nat.reduceAdd, Nat.reduceMul, Nat.reduceEqDiff, Nat.reduceLeDiff, Nat.reduceLT, Nat.reduceSub, Int.reduceEq, Int.reduceBEq, Int.reduceLT, Int.reduceLE, Int.reduceAdd, Int.reduceToNat, reduceIte, reduceCtorEq, e0', JW] | (refine hK _ ?_; clear hK; clear K') | refine And.intro ?_ ?_ | ((first | apply QX | apply YB); (focus first | exact g1 | exact g2 | exact g3 | exact (Yc _).b | exact (Qs _ _ _ _ zsd zsd zsd).b | exact (Xa _ _ _ _ _ _ _ zsd zsd zsd zsd zsd).b | exact (Yb _ zsd).b | exact (Ya _ zsd).b | exact (J9 _ zsd).b | exact (J8 _ zsd zsd).b)) | exact zlo | omega | exact zms)
          all_goals first | (refine Jb _ rfl ?_; simp only [go_sem, Nat.reduceEqDiff, Nat.reduceAdd, reduceIte, reduceCtorEq]; done) | trace_state
      · rw [e2] at g2
        repeat' (first | refine Qb fun K' hK => ?_ | refine Qe fun K' hK => ?_ | refine Qp 16 (fun _ => true) rfl (Jn) (Jm) fun K' hK => ?_ | refine Qq 16 (fun _ => true) rfl (Jn) (Jm) fun K' hK => ?_ | refine Qc ?_ | refine Qd ?_ | refine Qa ?_ | ((first | refine Qg ⟨_, rfl, fun hc => ?_, fun hc => ?_⟩ | refine QL (fun hc => ?_) (fun hc => ?_) | refine QM (fun hc => ?_) (fun hc => ?_)) <;> first | exact Bool.noConfusion hc | ((try simp only [znz] at hc); first | exact znf | skip)) | refine Qi ?_ | refine Qf ?_ | simp (maxSteps := 1000000) only [go_sem, Nat.reduceAdd, Nat.reduceMul, Nat.reduceEqDiff, Nat.reduceLeDiff, Nat.reduceLT, Nat.reduceSub, Int.reduceEq, Int.reduceBEq, Int.reduceLT, Int.reduceLE, Int.reduceAdd, Int.reduceToNat, reduceIte, reduceCtorEq, e0', JW] | (refine hK _ ?_; clear hK; clear K') | refine And.intro ?_ ?_ | ((first | apply QX | apply YB); (focus first | exact g1 | exact g2 | exact (Yc _).b | exact (Qs _ _ _ _ zsd zsd zsd).b | exact (Xa _ _ _ _ _ _ _ zsd zsd zsd zsd zsd).b | exact (Yb _ zsd).b | exact (Ya _ zsd).b | exact (J9 _ zsd).b | exact (J8 _ zsd zsd).b)) | exact zlo | omega | exact zms)
        all_goals first | (refine Jb _ rfl ?_; simp only [go_sem, Nat.reduceEqDiff, Nat.reduceAdd, reduceIte, reduceCtorEq]; done) | trace_state
    · rw [e1] at g1
      repeat' (first | refine Qb fun K' hK => ?_ | refine Qe fun K' hK => ?_ | refine Qp 16 (fun _ => true) rfl (Jn) (Jm) fun K' hK => ?_ | refine Qq 16 (fun _ => true) rfl (Jn) (Jm) fun K' hK => ?_ | refine Qc ?_ | refine Qd ?_ | refine Qa ?_ | ((first | refine Qg ⟨_, rfl, fun hc => ?_, fun hc => ?_⟩ | refine QL (fun hc => ?_) (fun hc => ?_) | refine QM (fun hc => ?_) (fun hc => ?_)) <;> first | exact Bool.noConfusion hc | ((try simp only [znz] at hc); first | exact znf | skip)) | refine Qi ?_ | refine Qf ?_ | simp (maxSteps := 1000000) only [go_sem, Nat.reduceAdd, Nat.reduceMul, Nat.reduceEqDiff, Nat.reduceLeDiff, Nat.reduceLT, Nat.reduceSub, Int.reduceEq, Int.reduceBEq, Int.reduceLT, Int.reduceLE, Int.reduceAdd, Int.reduceToNat, reduceIte, reduceCtorEq, e0', JW] | (refine hK _ ?_; clear hK; clear K') | refine And.intro ?_ ?_ | ((first | apply QX | apply YB); (focus first | exact g1 | exact (Yc _).b | exact (Qs _ _ _ _ zsd zsd zsd).b | exact (Xa _ _ _ _ _ _ _ zsd zsd zsd zsd zsd).b | exact (Yb _ zsd).b | exact (Ya _ zsd).b | exact (J9 _ zsd).b | exact (J8 _ zsd zsd).b)) | exact zlo | omega | exact zms)
      all_goals first | (refine Jb _ rfl ?_; simp only [go_sem, Nat.reduceEqDiff, Nat.reduceAdd, reduceIte, reduceCtorEq]; done) | trace_state
  · have e0' : decide ((((l.map QK.v).length : Nat) : Int) > 64) = true := by rw [List.length_map]; exact e0
    repeat' (first | refine Qb fun K' hK => ?_ | refine Qe fun K' hK => ?_ | refine Qp 16 (fun _ => true) rfl (Jn) (Jm) fun K' hK => ?_ | refine Qq 16 (fun _ => true) rfl (Jn) (Jm) fun K' hK => ?_ | refine Qc ?_ | refine Qd ?_ | refine Qa ?_ | ((first | refine Qg ⟨_, rfl, fun hc => ?_, fun hc => ?_⟩ | refine QL (fun hc => ?_) (fun hc => ?_) | refine QM (fun hc => ?_) (fun hc => ?_)) <;> first | exact Bool.noConfusion hc | ((try simp only [znz] at hc); first | exact znf | skip)) | refine Qi ?_ | refine Qf ?_ | simp (maxSteps := 1000000) only [go_sem, Nat.reduceAdd, Nat.reduceMul, Nat.reduceEqDiff, Nat.reduceLeDiff, Nat.reduceLT, Nat.reduceSub, Int.reduceEq, Int.reduceBEq, Int.reduceLT, Int.reduceLE, Int.reduceAdd, Int.reduceToNat, reduceIte, reduceCtorEq, e0', JW] | (refine hK _ ?_; clear hK; clear K') | refine And.intro ?_ ?_ | ((first | apply QX | apply YB); (focus first | exact (Yc _).b | exact (Qs _ _ _ _ zsd zsd zsd).b | exact (Xa _ _ _ _ _ _ _ zsd zsd zsd zsd zsd).b | exact (Yb _ zsd).b | exact (Ya _ zsd).b | exact (J9 _ zsd).b | exact (J8 _ zsd zsd).b)) | exact zlo | omega | exact zms)
    all_goals first | (refine Jb _ rfl ?_; simp only [go_sem, Nat.reduceEqDiff, Nat.reduceAdd, reduceIte, reduceCtorEq]; done) | trace_state
end Av
end
section
set_option linter.unusedSimpArgs false
set_option linter.unusedVariables false
set_option maxRecDepth 10000
set_option maxHeartbeats 4000000
namespace Av
open Go
attribute [local irreducible] AWp Wz WQ W4 awS awC V1 awQ Ue Jc YR VY awR YY awB okR Wt ris
end Av
end
section
set_option linter.unusedSimpArgs false
set_option linter.unusedVariables false
set_option maxRecDepth 10000
set_option maxHeartbeats 4000000
namespace Av
open Go
attribute [local irreducible] AWp Wz WQ W4 awS awC V1 awQ Ue Jc YR VY awR YY awB okR Wt ris
def y9 : AC := Qr [0, 1] (.reg [mc 4 (V.bool false)]) (Qr [] (Qr [0, 1, 5] (.reg [mc 5 (V.int 0)]) (.block 0 (W5 [0, 1, 5] (Qr [0, 1, 5] (Qr [0, 1, 5, 9] (.reg [mv 6 5, mv 7 0, ln 8 7, bn 9 .lss 6 8]) (.cond (.t 9) (.skip) (.exit 0))) (Qr [0, 1, 5] (.block 1 (Qr [0, 1, 5, 17] (.reg [mv 12 0, mv 13 5, ia 14 1 12 13, ld 15 1 14, mv 16 1, bn 17 .eql 15 16]) (.cond (.t 17) (Qr [4] (.reg [mc 4 (V.bool true)]) (.ret)) (.skip)))) (.reg [mv 10 5, bc 11 .add 10 (V.int 1), mv 5 11])))))) (Qr [4] (.reg [mc 4 (V.bool false)]) (.ret))) def r_law12_text : List Wc := [.tmp 4]
def yB (Γ : Env) (f : Nat) : Prop := ∀ (l : List (List UInt8)) (s : List UInt8) (hl : l.length < 2 ^ 62), EvN Γ f [.sl 1 (l.map V.str), V.str s] (V.bool (l.contains s))
theorem adI {Γ : Env} {f : Nat} (h : Has Γ.P f 18 y9 r_law12_text)  : yB Γ f := by
  intro l s hl
  refine QV h (by simp) (by simp only [V.closed, Qj, V.noSl, Jy, and_self, and_true, true_and]) (by simp only [V.closed, Qj, V.noSl, Jy, and_self, and_true, true_and]) fun C hC hm => ?_
  subst hC
  unfold y9
  repeat' (first | refine Qb fun K' hK => ?_ | refine Qe fun K' hK => ?_ | refine Qc ?_ | refine Qd ?_ | refine Qa ?_ | ((first | refine Qg ⟨_, rfl, fun hc => ?_, fun hc => ?_⟩ | refine QL (fun hc => ?_) (fun hc => ?_) | refine QM (fun hc => ?_) (fun hc => ?_)) <;> first | exact Bool.noConfusion hc | ((try simp only [znz] at hc); first | exact znf | skip)) | refine Qi ?_ | refine Qf ?_ | simp (maxSteps := 1000000) only [go_sem, Nat.reduceAdd, Nat.reduceMul, Nat.reduceEqDiff, Nat.reduceLeDiff, Nat.reduceLT, Nat.reduceSub, Int.reduceEq, Int.reduceBEq, Int.reduceLT, Int.reduceLE, Int.reduceAdd, Int.reduceToNat, reduceIte, reduceCtorEq] | (refine hK _ ?_; clear hK; clear K') | refine And.intro ?_ ?_ | exact zlo | omega | exact zms)
  refine Vv (ι := Nat) (fun k => k ≤ l.length ∧ (l.drop k).contains s = l.contains s) (fun k => [(5, V.int k)]) (fun k => l.length - k) 0 (by omega) ⟨by simp, by simp⟩ (by repeat' first | exact UE | refine qu (by omega) (by simp only [Ob.lt, ltL, V.lt, and_self, and_true]; try omega) ?_) (fun i hi => by simp only [ovT, XZ, Nat.reduceEqDiff, reduceIte]; (repeat' first | exact qt | refine UD ?_ ?_ | simp only [V.lt, ltL, and_self, and_true] | omega)) (by simp only [Nat.reduceAdd, ovT, XZ, Nat.reduceEqDiff, reduceIte, Yx, XO, wL, u32, u33, u34, u35, u36, u37, u38, u39, and_self, and_true, true_and]; first | done | rfl) fun k hk K' hL => ?_
  obtain ⟨hk, hinv⟩ := hk
  simp only [ovT, XZ, Nat.reduceEqDiff, reduceIte]
  rcases hd : l.drop k with _ | ⟨y, r⟩
  · have := Vg hd
    rw [hd] at hinv
    have e1 : decide ((k : Int) < (((l.map V.str).length : Nat) : Int)) = false := by simp; omega
    rw [← hinv]
    repeat' (first | refine Qb fun K' hK => ?_ | refine Qe fun K' hK => ?_ | refine Qc ?_ | refine Qd ?_ | refine Qa ?_ | ((first | refine Qg ⟨_, rfl, fun hc => ?_, fun hc => ?_⟩ | refine QL (fun hc => ?_) (fun hc => ?_) | refine QM (fun hc => ?_) (fun hc => ?_)) <;> first | exact Bool.noConfusion hc | ((try simp only [znz] at hc); first | exact znf | skip)) | refine Qi ?_ | refine Qf ?_ | simp (maxSteps := 1000000) only [go_sem, Nat.reduceAdd, Nat.reduceMul, Nat.reduceEqDiff, Nat.reduceLeDiff, Nat.reduceLT, Nat.reduceSub, Int.reduceEq, Int.reduceBEq, Int.reduceLT, Int.reduceLE, Int.reduceAdd, Int.reduceToNat, reduceIte, reduceCtorEq, e1] | (refine hK _ ?_; clear hK; clear K') | refine And.intro ?_ ?_ | exact zlo | omega | exact zms)
    all_goals first | (refine Jb _ rfl ?_; simp only [go_sem, Nat.reduceEqDiff, Nat.reduceAdd, reduceIte, reduceCtorEq]; done) | (refine Jb _ rfl ?_; simp only [go_sem, Nat.reduceEqDiff, Nat.reduceAdd, reduceIte, reduceCtorEq]; simp; done) | trace_state
  · obtain ⟨hk', hget, hr⟩ := Wx hd
    rw [hd] at hinv
    have hw := JS (k := k) (by omega)
    have e1 : decide ((k : Int) < (((l.map V.str).length : Nat) : Int)) = true := by simp; omega
    rcases hy : y == s with _ | _
    · have h2 : (s == y) = false := by rw [BEq.comm]; exact hy
      repeat' (first | refine Qb fun K' hK => ?_ | refine Qe fun K' hK => ?_ | refine Qc ?_ | refine Qd ?_ | refine Qa ?_ | ((first | refine Qg ⟨_, rfl, fun hc => ?_, fun hc => ?_⟩ | refine QL (fun hc => ?_) (fun hc => ?_) | refine QM (fun hc => ?_) (fun hc => ?_)) <;> first | exact Bool.noConfusion hc | ((try simp only [znz] at hc); first | exact znf | skip)) | refine Qi ?_ | refine Qf ?_ | simp (maxSteps := 1000000) only [go_sem, Nat.reduceAdd, Nat.reduceMul, Nat.reduceEqDiff, Nat.reduceLeDiff, Nat.reduceLT, Nat.reduceSub, Int.reduceEq, Int.reduceBEq, Int.reduceLT, Int.reduceLE, Int.reduceAdd, Int.reduceToNat, reduceIte, reduceCtorEq, e1, hw, hy, Int.toNat_natCast, List.getElem?_map, hget] | (refine hK _ ?_; clear hK; clear K') | refine And.intro ?_ ?_ | exact zlo | omega | exact zms)
      all_goals first
        | exact hL _ (k + 1) (by simp only [Nat.reduceAdd, ovT, XZ, Nat.reduceEqDiff, reduceIte, Yx, XO, wL, u32, u33, u34, u35, u36, u37, u38, u39, and_self, and_true, true_and]) ⟨by omega, by rw [hr, ← hinv, List.contains_cons, h2, Bool.false_or]⟩ (by omega) (fun a ha => by simp only [u32, u33, u34, u35, u36, u37, u38, u39]; repeat rw [if_neg (by omega)])
        | trace_state
    · have h2 : (s == y) = true := by rw [BEq.comm]; exact hy
      rw [← hinv, List.contains_cons, h2, Bool.true_or]
      repeat' (first | refine Qb fun K' hK => ?_ | refine Qe fun K' hK => ?_ | refine Qc ?_ | refine Qd ?_ | refine Qa ?_ | ((first | refine Qg ⟨_, rfl, fun hc => ?_, fun hc => ?_⟩ | refine QL (fun hc => ?_) (fun hc => ?_) | refine QM (fun hc => ?_) (fun hc => ?_)) <;> first | exact Bool.noConfusion hc | ((try simp only [znz] at hc); first | exact znf | skip)) | refine Qi ?_ | refine Qf ?_ | simp (maxSteps := 1000000) only [go_sem, Nat.reduceAdd, Nat.reduceMul, Nat.reduceEqDiff, Nat.reduceLeDiff, Nat.reduceLT, Nat.reduceSub, Int.reduceEq, Int.reduceBEq, Int.reduceLT, Int.reduceLE, Int.reduceAdd, Int.reduceToNat, reduceIte, reduceCtorEq, e1, hw, hy, Int.toNat_natCast, List.getElem?_map, hget] | (refine hK _ ?_; clear hK; clear K') | refine And.intro ?_ ?_ | exact zlo | omega | exact zms)
      all_goals first | (refine Jb _ rfl ?_; simp only [go_sem, Nat.reduceEqDiff, Nat.reduceAdd, reduceIte, reduceCtorEq]; done) | trace_state
def alp (n : Yk) : Yk := { n with lo := [], up := [] }
def aeN (p : QK) : QK := { p with needs := p.needs.map alp }
end Av
end
section
set_option linter.unusedSimpArgs false
set_option linter.unusedVariables false
set_option maxRecDepth 10000
set_option maxHeartbeats 4000000
namespace Av
open Go
attribute [local irreducible] AWp Wz WQ W4 awS awC V1 awQ Ue Jc YR VY awR YY awB okR Wt ris
theorem adv : ∀ a : List UInt8, Op.bytesLess a a = false
  | [] => rfl
  | c :: r => by
    rw [Op.bytesLess, adv r]
    simp
theorem ac3 : ∀ a b c : List UInt8, Op.bytesLess a b = true → Op.bytesLess b c = true → Op.bytesLess a c = true
  | _, [], _, h, _ => by simp [Op.bytesLess] at h
  | _, _ :: _, [], _, h => by simp [Op.bytesLess] at h
  | [], _ :: _, _ :: _, _, _ => rfl
  | x :: a, y :: b, z :: c, h1, h2 => by
    have ih := ac3 a b c
    simp only [Op.bytesLess, Bool.or_eq_true, Bool.and_eq_true, decide_eq_true_eq, beq_iff_eq] at h1 h2 ⊢
    rcases h1 with h1 | ⟨rfl, h1⟩
    · rcases h2 with h2 | ⟨rfl, h2⟩
      · exact .inl (UInt8.lt_trans h1 h2)
      · exact .inl h1
    · rcases h2 with h2 | ⟨rfl, h2⟩
      · exact .inl h2
      · exact .inr ⟨rfl, ih h1 h2⟩
theorem ad1 : ∀ (l : List QK) (a : QK), Wd (a :: l) = false → ∀ p ∈ l, Op.bytesLess a.name p.name = true
  | [], _, _, p, hp => by cases hp
  | b :: l, a, h, p, hp => by
    simp only [Wd, Bool.or_eq_false_iff, Bool.not_eq_false'] at h
    rcases List.mem_cons.1 hp with rfl | hp
    · exact h.1
    · exact ac3 _ _ _ h.1 (ad1 l b h.2 p hp)
theorem aeZ {a : QK} {l : List QK} (h : Wd (a :: l) = false) : Wd l = false := by
  cases l with
  | nil => rfl
  | cons b r => simp only [Wd, Bool.or_eq_false_iff] at h; exact h.2
theorem wS : ∀ l : List QK, Wd (l.map aeN) = Wd l
  | [] => rfl
  | [_] => rfl
  | a :: b :: r => by
    have ih := wS (b :: r)
    simp only [List.map_cons] at ih
    simp only [List.map_cons, Wd]
    rw [ih]; rfl
theorem ahd {l : List QK} (h : Uk l = 0) : Uk (l.map aeN) = 0 ∧ Wd l = false := by
  unfold Uk at h
  split at h
  · exact absurd h (by decide)
  · rename_i h1
    split at h
    · exact absurd h (by decide)
    · rename_i h2
      split at h
      · exact absurd h (by decide)
      · rename_i h3
        split at h
        · exact absurd h (by decide)
        · rename_i h4
          have h4 : Wd l = false := by simpa using h4
          refine ⟨?_, h4⟩
          have e1 : (l.map aeN).any agT = l.any agT := by
            rw [List.any_map]; congr 1; funext p; simp [agT, aeN]
          have e2 : (l.map aeN).any akU = l.any akU := by
            rw [List.any_map]; congr 1; funext p; simp only [Function.comp, akU, aeN, List.any_map]; rfl
          have e3 : (l.map aeN).any ajR = false := by
            rw [List.any_map, List.any_eq_false]
            intro p hp
            have hm : ajR p = false := by
              have h3 : l.any ajR = false := by simpa using h3
              exact Bool.eq_false_iff.2 (List.any_eq_false.1 h3 p hp)
            simp only [ajR, Bool.or_eq_false_iff] at hm
            simp only [Function.comp, ajR, aeN, List.any_map, hm.1, Bool.false_or]
            simp [alp, Kd, List.any_eq_true]
          unfold Uk
          rw [List.length_map, e1, e2, e3, wS, if_neg h1, if_neg h2, h4]
          rfl
end Av
end
section
set_option linter.unusedSimpArgs false
set_option linter.unusedVariables false
set_option maxRecDepth 10000
set_option maxHeartbeats 4000000
namespace Av
open Go
attribute [local irreducible] AWp Wz WQ W4 awS awC V1 awQ Ue Jc YR VY awR YY awB okR Wt ris
def QK.own (p : QK) (a : Nat) : V := .agg [V.str p.name, .sl 1 (p.ver.map V.int), .hd a 0 p.needs.length]
def w5 : Nat → List QK → List V
  | _, [] => []
  | n, p :: r => p.own n :: w5 (n + 1) r
theorem Vc : ∀ (ps : List QK) (n : Nat), (w5 n ps).length = ps.length
  | [], _ => rfl
  | p :: r, n => by simp only [w5, List.length_cons, Vc r]
theorem j8 : ∀ (ps : List QK) (n j : Nat), (w5 n ps)[j]? = (ps[j]?).map fun p => p.own (n + j)
  | [], n, j => by simp [w5]
  | p :: r, n, 0 => by simp [w5]
  | p :: r, n, j + 1 => by
    simp only [w5, List.getElem?_cons_succ]
    rw [j8 r (n + 1) j, show n + 1 + j = n + (j + 1) by omega]
theorem afS : ∀ (ps : List QK) (n : Nat) (p : QK), w5 n (ps ++ [p]) = w5 n ps ++ [p.own (n + ps.length)]
  | [], n, p => rfl
  | q :: r, n, p => by
    simp only [List.cons_append, w5, afS r, List.length_cons]
    rw [show n + 1 + r.length = n + (r.length + 1) by omega]
theorem adq {τ : Nat → Nat} : ∀ (ps : List QK) (n : Nat), (∀ i, i < ps.length → τ (n + i) = n + i) → KF τ (w5 n ps) = w5 n ps
  | [], _, _ => rfl
  | p :: r, n, h => by
    have h0 := h 0 (by simp)
    simp only [w5, KF, QK.own, V.ren]
    rw [adq r (n + 1) (fun i hi => by rw [show n + 1 + i = n + (i + 1) by omega]; exact h (i + 1) (by simp; omega))]
    rw [show τ n = n by simpa using h0]
theorem ae9 : ∀ (ps : List QK) (n m : Nat), n + ps.length ≤ m → ltL m (w5 n ps)
  | [], _, _, _ => trivial
  | p :: r, n, m, h => by
    simp only [List.length_cons] at h
    refine ⟨⟨trivial, trivial, ?_, trivial⟩, ae9 r (n + 1) m (by omega)⟩
    show n < m; omega
def Us (ps : List QK) : List Ob := ps.map fun p => .buf true 3 (p.needs.map Yk.v)
theorem qj (ps : List QK) : (Us ps).length = ps.length := by simp [Us]
def ah4 (n : Yk) : Prop := n.name.length ≤ 5 ∧ n.lo.length ≤ 4 ∧ n.up.length ≤ 4
def afR (p : QK) : Prop := p.name.length ≤ 5 ∧ p.ver.length ≤ 5 ∧ p.needs.length ≤ 9 ∧ ∀ n ∈ p.needs, ah4 n
def xR (ps : List QK) : Prop := ps.length ≤ 5 ∧ ∀ p ∈ ps, afR p
def ak2 (p : QK) : Prop := p.name.length ≤ 5 ∧ p.ver.length ≤ 5 ∧ p.needs.length ≤ 3 ∧ ∀ n ∈ p.needs, ah4 n
def ajj (ps : List QK) : Prop := ps.length ≤ 5 ∧ ∀ p ∈ ps, ak2 p
theorem ajj.ok {ps : List QK} (h : ajj ps) : xR ps := ⟨h.1, fun p hp => ⟨(h.2 p hp).1, (h.2 p hp).2.1, Nat.le_trans (h.2 p hp).2.2.1 (by omega), (h.2 p hp).2.2.2⟩⟩
def aid (l : List Int) (res : V) (outs : List Ob) : Prop := ∃ ps k, xR ps ∧ k ≤ l.length ∧ res = .hd 1 0 ps.length ∧ outs = .box true (JJ l k) :: .obuf true 3 (w5 2 ps) :: Us ps
theorem afM {o : Nat → Option Ob} {br : List Nat} {B : Option (List Nat)} : ∀ (names : List Nat) (obs : List Ob), names.length = obs.length →
    (∀ (i a : Nat) (y : Ob), names[i]? = some a → obs[i]? = some y → ∃ x, o a = some x ∧ ai0 o br B x y) → ajL o br B names obs
  | [], [], _, _ => trivial
  | [], _ :: _, h, _ => by simp at h
  | _ :: _, [], h, _ => by simp at h
  | a :: r, y :: r', h, hh => ⟨hh 0 a y rfl rfl, afM r r' (by simpa using h) fun i a' y' h1 h2 => hh (i + 1) a' y' h1 h2⟩
theorem ab8 {o : Nat → Option Ob} {br : List Nat} {B : Option (List Nat)} : ∀ (xs ys : List V), xs.length = ys.length → (∀ (i : Nat) (x y : V), xs[i]? = some x → ys[i]? = some y → Xx o br B x.cells y.cells) → abl o br B xs ys
  | [], [], _, _ => trivial
  | [], _ :: _, h, _ => by simp at h
  | _ :: _, [], h, _ => by simp at h
  | x :: r, y :: r', h, hh => ⟨hh 0 x y rfl rfl, ab8 r r' (by simpa using h) fun i x' y' h1 h2 => hh (i + 1) x' y' h1 h2⟩
theorem ab6 {l : List Int} {k X : Nat} {s : St} {xs : List V} {ps : List QK} (nm : Nat → Nat) (hok : xR ps) (hk : k ≤ l.length) (h2 : s.t 2 = .hd X 0 ps.length) (h0 : s.o 0 = some (.box true (JJ l k)))
    (hX : s.o X = some (.obuf true 3 xs)) (hl : xs.length = ps.length)
    (hn : ∀ (i : Nat) (p : QK), ps[i]? = some p → ∃ y, s.o (nm i) = some y ∧ ai0 s.o (0 :: X :: (List.range ps.length).map nm) none y (.buf true 3 (p.needs.map Yk.v)))
    (hx : ∀ (i : Nat) (p : QK), ps[i]? = some p → ∃ z, xs[i]? = some (.agg [V.str p.name, z, .hd (nm i) 0 p.needs.length]) ∧ conv s.o (0 :: X :: (List.range ps.length).map nm) none z (.sl 1 (p.ver.map V.int)))
    (hX0 : X ≠ 0) (hne : ∀ i, i < ps.length → nm i ≠ 0 ∧ nm i ≠ X) (hinj : ∀ i j, i < ps.length → j < ps.length → nm i = nm j → i = j) : acC 1 [.tmp 2] (aid l) s := by
  refine ⟨.hd 1 0 ps.length, .box true (JJ l k) :: .obuf true 3 (w5 2 ps) :: Us ps, ⟨ps, k, hok, hk, rfl, rfl⟩, ?_⟩
  show ∃ br B, _
  refine ⟨0 :: X :: (List.range ps.length).map nm, none, ?_, ⟨⟨_, h0, fun h => h, Yi _ _ _ _ (Jx _ _)⟩, ⟨_, hX, fun h => h, rfl, ?_⟩, afM _ _ (by simp [Us]) fun i a y h1 h2 => ?_⟩, ?_, rfl⟩
  · show conv s.o _ none (s.t 2) _
    rw [h2]; simp [conv]
  · refine ab8 _ _ (by rw [hl, Vc]) fun i x y h3 h4 => ?_
    rw [j8] at h4
    simp only [Option.map_eq_some_iff] at h4
    obtain ⟨p, hp, rfl⟩ := h4
    obtain ⟨z, e1, e2⟩ := hx i p hp
    rw [e1] at h3; cases h3
    have hi : i < ps.length := (List.getElem?_eq_some_iff.1 hp).1
    refine ⟨by simp [conv], e2, ?_, trivial⟩
    simp only [conv, and_true]
    rw [show 2 + i = i + 1 + 1 by omega, List.getElem?_cons_succ, List.getElem?_cons_succ, List.getElem?_map, List.getElem?_range hi]; rfl
  · simp only [List.getElem?_map, Option.map_eq_some_iff] at h1
    obtain ⟨j, hj, rfl⟩ := h1
    obtain ⟨hi, rfl⟩ := List.getElem?_eq_some_iff.1 hj
    simp only [List.length_range] at hi
    simp only [Us, List.getElem?_map, Option.map_eq_some_iff] at h2
    obtain ⟨p, hp, rfl⟩ := h2
    simpa using hn i p hp
  · simp only [List.nodup_cons, List.mem_cons, List.mem_map, List.mem_range, not_or, not_exists, not_and]
    refine ⟨⟨fun h => hX0 h.symm, fun i hi e => (hne i hi).1 e⟩, fun i hi e => (hne i hi).2 e, ?_⟩
    rw [List.Nodup, List.pairwise_map]
    exact List.Pairwise.imp_of_mem (fun {a b} ha hb hab e => hab (hinj a b (by simpa using ha) (by simpa using hb) e)) List.nodup_range
end Av
end
section
set_option linter.unusedSimpArgs false
set_option linter.unusedVariables false
set_option maxRecDepth 10000
set_option maxHeartbeats 4000000
namespace Av
open Go
attribute [local irreducible] AWp Wz WQ W4 awS awC V1 awQ Ue Jc YR VY awR YY awB okR Wt ris
def af0 : List (List UInt8) := [[97, 112, 112], [99, 114, 121, 112, 116], [108, 105, 98], [115, 115, 108], [122, 105, 112]]
theorem ac0 {j : Nat} (h : j < 5) : ∃ w, af0[j]? = some w ∧ w.length ≤ 5 := by
  match j, h with
  | 0, _ => exact ⟨_, rfl, by decide⟩
  | 1, _ => exact ⟨_, rfl, by decide⟩
  | 2, _ => exact ⟨_, rfl, by decide⟩
  | 3, _ => exact ⟨_, rfl, by decide⟩
  | 4, _ => exact ⟨_, rfl, by decide⟩
abbrev ah6 : List V := af0.map V.str
def af5 (l : List Int) (ps : List QK) (k i : Nat) : St := UL [(0, .ptr 0 0), (3, .hd 1 0 5), (4, .hd 2 0 ps.length), (5, V.int i)] [(0, .box true (JJ l k)), (1, .buf true 1 ah6), (2, .obuf true 3 (w5 100 ps))] 100 (Us ps) 200
def ah3 (l : List Int) (ps : List QK) (nm : List UInt8) (ver : List Int) (ns : List Yk) (k i : Nat) (c : Int) : St :=
  UL [(0, .ptr 0 0), (3, .hd 1 0 5), (4, .hd 2 0 ps.length), (5, V.int i), (6, .ptr 3 0), (7, V.int c)] [(0, .box true (JJ l k)), (1, .buf true 1 ah6), (2, .obuf true 3 (w5 100 ps)), (3, .box true [V.str nm, .sl 1 (ver.map V.int), .hd 4 0 ns.length]), (4, .buf true 3 (ns.map Yk.v))] 100 (Us ps) 200
def xS (l : List Int) (ps : List QK) (k : Nat) : St := UL [(0, .ptr 0 0), (4, .hd 2 0 ps.length)] [(0, .box true (JJ l k)), (2, .obuf true 3 (w5 100 ps))] 100 (Us ps) 200
theorem wa : ∀ (ns : List Yk), wG (ns.map Yk.v)
  | [] => trivial
  | n :: r => ⟨⟨trivial, (by simp only [V.closed]), (by simp only [V.closed]), trivial⟩, wa r⟩
theorem w7 {ps : List QK} {s : St} {tau : List (Nat × Nat)} {n : Nat} (h : ∀ i, i < ps.length → s.o (Q0 tau (100 + i)) = (Us ps)[i]?) :
    ∀ i (hi : i < (Us ps).length), ∃ x, s.o (Q0 tau (100 + i)) = some x ∧ x.weak (Q0 tau) n (Us ps)[i] := by
  intro i hi
  have h1 := h i (by simpa [Us] using hi)
  rw [List.getElem?_eq_getElem hi] at h1
  refine ⟨_, h1, ?_⟩
  simp only [Us, List.getElem_map]
  exact ⟨id, rfl, rfl⟩
theorem abq {ps : List QK} {τ : Nat → Nat} {n : Nat} (ht : ∀ i, i < ps.length → τ (100 + i) = 100 + i) (hn : 100 + ps.length ≤ n) : (Ob.obuf true 3 (w5 100 ps)).weak τ n (.obuf true 3 (w5 100 ps)) :=
  ⟨id, rfl, (adq ps 100 ht).symm, ae9 ps 100 n hn⟩
theorem qV {l : List Int} {k : Nat} {τ : Nat → Nat} {n : Nat} : (Ob.box true (JJ l k)).weak τ n (.box true (JJ l k)) :=
  ⟨id, rfl, UA _ _ (by simp only [V.closed]), trivial, trivial⟩
theorem agU {ps : List QK} {j : Nat} {q : QK} (h : xR ps) (hq : afR q) : xR (ps.set j q) := ⟨by simp; exact h.1, fun y hy => by
  rcases List.mem_or_eq_of_mem_set hy with h2 | h2
  · exact h.2 y h2
  · rw [h2]; exact hq⟩
theorem yo {l : List Int} {k j nj : Nat} {s : St} {ps : List QK} {q : QK} {z : V} (hok : xR ps) (hq : afR q) (hj : j < ps.length) (hk : k ≤ l.length) (h2 : s.t 2 = .hd 2 0 ps.length) (h0 : s.o 0 = some (.box true (JJ l k)))
    (hX : s.o 2 = some (.obuf true 3 ((w5 100 ps).set j (.agg [V.str q.name, z, .hd nj 0 q.needs.length]))))
    (hz : ∀ br : List Nat, (∀ a ∈ br, a < 200 ∨ a = nj) → conv s.o br none z (.sl 1 (q.ver.map V.int))) (hnj : nj = 100 + j ∨ 200 ≤ nj)
    (hn : ∀ i, i < ps.length → i ≠ j → s.o (100 + i) = (Us ps)[i]?) (hj2 : ∀ br : List Nat, (∀ a ∈ br, a < 200 ∨ a = nj) → ∃ y, s.o nj = some y ∧ ai0 s.o br none y (.buf true 3 (q.needs.map Yk.v))) : acC 1 [.tmp 2] (aid l) s := by
  have hps := hok.1
  have hbr : ∀ a ∈ (0 :: 2 :: (List.range (ps.set j q).length).map (fun i => if i = j then nj else 100 + i)), a < 200 ∨ a = nj := by
    intro a ha
    simp only [List.mem_cons, List.mem_map, List.mem_range, List.length_set] at ha
    rcases ha with rfl | rfl | ⟨i, hi, rfl⟩
    · omega
    · omega
    · split <;> omega
  refine ab6 (k := k) (X := 2) (xs := (w5 100 ps).set j (.agg [V.str q.name, z, .hd nj 0 q.needs.length])) (ps := ps.set j q) (fun i => if i = j then nj else 100 + i) (agU hok hq) hk
    (by rw [h2, List.length_set]) h0 hX (by rw [List.length_set, List.length_set, Vc]) (fun i y hy => ?_) (fun i y hy => ?_) (by omega) (fun i hi => ?_) (fun a b ha hb hab => ?_)
  · rw [List.getElem?_set] at hy
    by_cases hij : i = j
    · subst hij
      rw [if_pos rfl, if_pos hj] at hy; cases hy
      rw [if_pos rfl]
      exact hj2 _ hbr
    · rw [if_neg (fun e => hij e.symm)] at hy
      rw [if_neg hij]
      have hi := (List.getElem?_eq_some_iff.1 hy).1
      refine ⟨.buf true 3 (y.needs.map Yk.v), ?_, fun h => h, rfl, rfl⟩
      rw [hn i hi hij, Us, List.getElem?_map, hy]; rfl
  · rw [List.getElem?_set] at hy
    by_cases hij : i = j
    · subst hij
      rw [if_pos rfl, if_pos hj] at hy; cases hy
      refine ⟨z, ?_, hz _ hbr⟩
      rw [List.getElem?_set, if_pos rfl, if_pos (by rw [Vc]; exact hj)]
      simp
    · rw [if_neg (fun e => hij e.symm)] at hy
      refine ⟨.sl 1 (y.ver.map V.int), ?_, by simp [conv]⟩
      rw [List.getElem?_set, if_neg (fun e => hij e.symm), j8, hy, if_neg hij]; rfl
  · rw [List.length_set] at hi
    split <;> omega
  · rw [List.length_set] at ha hb
    split at hab <;> split at hab <;> omega
theorem ac6 {l br : List Nat} {o : Nat → Option Ob} {a : Nat} (h : a ∉ l) : wN (some l) br o a = o a := by unfold wN; simp [h]
theorem vK (n : Yk) : Qj n.v.cells := ⟨trivial, (by simp only [V.closed]), (by simp only [V.closed]), trivial⟩
def jH (Jp : Nat) : List AO := [mv 18 3, mv 19 5, ia 20 1 18 19, ld 21 1 20, mv 22 0, cl 23 Jp [22], xo 24 (.build [(.string ⟨#[]⟩), (.slice none 0 0), (.slice none 0 0)] [(0, 1, (.t 21)), (1, 1, (.t 23))]), xo 6 (.alloc [.val (.string ⟨#[]⟩), .nil 1, .nil 3]), xs 3 6 24]
def jT : List (List Nat) := [[], [], [0, 1], [2], [], [4], [3, 5], [], [7, 6, 5, 0, 1, 2, 3, 4, 5, 6, 7]]
def jE : OT := .one 0 (.one 1 (.one 2 (.one 3 (.one 4 (.one 5 (.one 6 (.one 7 (.one 8 (.done)))))))))
def JN (Jp : Nat) : OP := .one 0 false [] (mv 18 3) (.one 1 false [] (mv 19 5) (.one 2 false [] (ia 20 1 18 19) (.one 3 false [] (ld 21 1 20) (.one 4 false [] (mv 22 0) (.one 5 true [] (cl 23 Jp [22]) (.one 6 false [5] (xo 24 (.build [(.string ⟨#[]⟩), (.slice none 0 0), (.slice none 0 0)] [(0, 1, (.t 21)), (1, 1, (.t 23))])) (.one 7 false [] (xo 6 (.alloc [.val (.string ⟨#[]⟩), .nil 1, .nil 3])) (.one 8 true [7, 5] (xs 3 6 24) (.done)))))))))
theorem Ja (Jp : Nat) : okR (jH Jp) jT [5] jE = true := by kernel_rfl
theorem Q7 (Jp : Nat) : Wt (ris (jH Jp) jT [5]) jE = JN Jp := by kernel_rfl
def jG (Qn Jh : Nat) : List AO := [fa 31 2 6, ld 32 1 31, mv 33 3, mv 34 0, mv 35 3, ln 36 35, cl 37 Qn [34, 36], ia 38 1 33 37, ld 39 1 38, mv 40 0, cl 41 Jh [40], xo 42 (.build [(.string ⟨#[]⟩), (.slice none 0 0), (.slice none 0 0)] [(0, 1, (.t 39)), (1, 2, (.t 41))]), xo 43 (.obslice 1 3 true [(.string ⟨#[]⟩), (.slice none 0 0), (.slice none 0 0)] [(0, (.t 42))]), xo 44 (.append 3 64 [(.string ⟨#[]⟩), (.slice none 0 0), (.slice none 0 0)] (.t 32) (.t 43)), fa 45 2 6, xs 1 45 44]
def jS : List (List Nat) := [[], [0], [], [], [], [4], [3, 5], [2, 6], [7], [], [9, 6], [8, 10], [11], [1, 12, 10], [0, 1, 2, 3, 4, 5, 6, 7, 8, 9, 10, 11, 12, 13], [14, 13, 13, 0, 1, 2, 3, 4, 5, 6, 7, 8, 9, 10, 11, 12, 13]]
def jD : OT := .one 0 (.one 2 (.one 3 (.one 4 (.one 5 (.one 9 (.or 1 (.or 6 (.or 7 (.or 8 (.or 10 (.or 11 (.one 12 (.one 13 (.one 14 (.one 15 (.done))))) (.done)) (.done)) (.or 10 (.or 8 (.or 11 (.one 12 (.one 13 (.one 14 (.one 15 (.done))))) (.done)) (.done)) (.done))) (.or 10 (.or 7 (.or 8 (.or 11 (.one 12 (.one 13 (.one 14 (.one 15 (.done))))) (.done)) (.done)) (.done)) (.done))) (.done)) (.or 6 (.or 1 (.or 7 (.or 8 (.or 10 (.or 11 (.one 12 (.one 13 (.one 14 (.one 15 (.done))))) (.done)) (.done)) (.or 10 (.or 8 (.or 11 (.one 12 (.one 13 (.one 14 (.one 15 (.done))))) (.done)) (.done)) (.done))) (.or 10 (.or 7 (.or 8 (.or 11 (.one 12 (.one 13 (.one 14 (.one 15 (.done))))) (.done)) (.done)) (.done)) (.done))) (.or 7 (.or 1 (.or 8 (.or 10 (.or 11 (.one 12 (.one 13 (.one 14 (.one 15 (.done))))) (.done)) (.done)) (.or 10 (.or 8 (.or 11 (.one 12 (.one 13 (.one 14 (.one 15 (.done))))) (.done)) (.done)) (.done))) (.or 8 (.or 1 (.or 10 (.or 11 (.one 12 (.one 13 (.one 14 (.one 15 (.done))))) (.done)) (.done)) (.or 10 (.one 1 (.or 11 (.one 12 (.one 13 (.one 14 (.one 15 (.done))))) (.done))) (.done))) (.or 10 (.or 1 (.or 8 (.or 11 (.one 12 (.one 13 (.one 14 (.one 15 (.done))))) (.done)) (.done)) (.or 8 (.one 1 (.or 11 (.one 12 (.one 13 (.one 14 (.one 15 (.done))))) (.done))) (.done))) (.done)))) (.or 10 (.or 1 (.or 7 (.or 8 (.or 11 (.one 12 (.one 13 (.one 14 (.one 15 (.done))))) (.done)) (.done)) (.done)) (.or 7 (.or 1 (.or 8 (.or 11 (.one 12 (.one 13 (.one 14 (.one 15 (.done))))) (.done)) (.done)) (.or 8 (.one 1 (.or 11 (.one 12 (.one 13 (.one 14 (.one 15 (.done))))) (.done))) (.done))) (.done))) (.done)))) (.done))))))))
def JM (Qn Jh : Nat) : OP := .one 0 false [] (fa 31 2 6) (.one 2 false [] (mv 33 3) (.one 3 false [] (mv 34 0) (.one 4 false [] (mv 35 3) (.one 5 false [] (ln 36 35) (.one 9 false [] (mv 40 0) (.or 1 true [] (ld 32 1 31) (.or 6 true [] (cl 37 Qn [34, 36]) (.or 7 true [6] (ia 38 1 33 37) (.or 8 true [6] (ld 39 1 38) (.or 10 true [] (cl 41 Jh [40]) (.or 11 false [10, 6] (xo 42 (.build [(.string ⟨#[]⟩), (.slice none 0 0), (.slice none 0 0)] [(0, 1, (.t 39)), (1, 2, (.t 41))])) (.one 12 false [10, 6] (xo 43 (.obslice 1 3 true [(.string ⟨#[]⟩), (.slice none 0 0), (.slice none 0 0)] [(0, (.t 42))])) (.one 13 true [12, 10, 6] (xo 44 (.append 3 64 [(.string ⟨#[]⟩), (.slice none 0 0), (.slice none 0 0)] (.t 32) (.t 43))) (.one 14 false [] (fa 45 2 6) (.one 15 true [13, 12, 10, 6] (xs 1 45 44) (.done))))) (.done)) (.done)) (.or 10 true [] (cl 41 Jh [40]) (.or 8 true [6] (ld 39 1 38) (.or 11 false [10, 6] (xo 42 (.build [(.string ⟨#[]⟩), (.slice none 0 0), (.slice none 0 0)] [(0, 1, (.t 39)), (1, 2, (.t 41))])) (.one 12 false [10, 6] (xo 43 (.obslice 1 3 true [(.string ⟨#[]⟩), (.slice none 0 0), (.slice none 0 0)] [(0, (.t 42))])) (.one 13 true [12, 10, 6] (xo 44 (.append 3 64 [(.string ⟨#[]⟩), (.slice none 0 0), (.slice none 0 0)] (.t 32) (.t 43))) (.one 14 false [] (fa 45 2 6) (.one 15 true [13, 12, 10, 6] (xs 1 45 44) (.done))))) (.done)) (.done)) (.done))) (.or 10 true [] (cl 41 Jh [40]) (.or 7 true [6] (ia 38 1 33 37) (.or 8 true [6] (ld 39 1 38) (.or 11 false [10, 6] (xo 42 (.build [(.string ⟨#[]⟩), (.slice none 0 0), (.slice none 0 0)] [(0, 1, (.t 39)), (1, 2, (.t 41))])) (.one 12 false [10, 6] (xo 43 (.obslice 1 3 true [(.string ⟨#[]⟩), (.slice none 0 0), (.slice none 0 0)] [(0, (.t 42))])) (.one 13 true [12, 10, 6] (xo 44 (.append 3 64 [(.string ⟨#[]⟩), (.slice none 0 0), (.slice none 0 0)] (.t 32) (.t 43))) (.one 14 false [] (fa 45 2 6) (.one 15 true [13, 12, 10, 6] (xs 1 45 44) (.done))))) (.done)) (.done)) (.done)) (.done))) (.done)) (.or 6 true [] (cl 37 Qn [34, 36]) (.or 1 true [] (ld 32 1 31) (.or 7 true [6] (ia 38 1 33 37) (.or 8 true [6] (ld 39 1 38) (.or 10 true [] (cl 41 Jh [40]) (.or 11 false [10, 6] (xo 42 (.build [(.string ⟨#[]⟩), (.slice none 0 0), (.slice none 0 0)] [(0, 1, (.t 39)), (1, 2, (.t 41))])) (.one 12 false [10, 6] (xo 43 (.obslice 1 3 true [(.string ⟨#[]⟩), (.slice none 0 0), (.slice none 0 0)] [(0, (.t 42))])) (.one 13 true [12, 10, 6] (xo 44 (.append 3 64 [(.string ⟨#[]⟩), (.slice none 0 0), (.slice none 0 0)] (.t 32) (.t 43))) (.one 14 false [] (fa 45 2 6) (.one 15 true [13, 12, 10, 6] (xs 1 45 44) (.done))))) (.done)) (.done)) (.or 10 true [] (cl 41 Jh [40]) (.or 8 true [6] (ld 39 1 38) (.or 11 false [10, 6] (xo 42 (.build [(.string ⟨#[]⟩), (.slice none 0 0), (.slice none 0 0)] [(0, 1, (.t 39)), (1, 2, (.t 41))])) (.one 12 false [10, 6] (xo 43 (.obslice 1 3 true [(.string ⟨#[]⟩), (.slice none 0 0), (.slice none 0 0)] [(0, (.t 42))])) (.one 13 true [12, 10, 6] (xo 44 (.append 3 64 [(.string ⟨#[]⟩), (.slice none 0 0), (.slice none 0 0)] (.t 32) (.t 43))) (.one 14 false [] (fa 45 2 6) (.one 15 true [13, 12, 10, 6] (xs 1 45 44) (.done))))) (.done)) (.done)) (.done))) (.or 10 true [] (cl 41 Jh [40]) (.or 7 true [6] (ia 38 1 33 37) (.or 8 true [6] (ld 39 1 38) (.or 11 false [10, 6] (xo 42 (.build [(.string ⟨#[]⟩), (.slice none 0 0), (.slice none 0 0)] [(0, 1, (.t 39)), (1, 2, (.t 41))])) (.one 12 false [10, 6] (xo 43 (.obslice 1 3 true [(.string ⟨#[]⟩), (.slice none 0 0), (.slice none 0 0)] [(0, (.t 42))])) (.one 13 true [12, 10, 6] (xo 44 (.append 3 64 [(.string ⟨#[]⟩), (.slice none 0 0), (.slice none 0 0)] (.t 32) (.t 43))) (.one 14 false [] (fa 45 2 6) (.one 15 true [13, 12, 10, 6] (xs 1 45 44) (.done))))) (.done)) (.done)) (.done)) (.done))) (.or 7 true [6] (ia 38 1 33 37) (.or 1 true [] (ld 32 1 31) (.or 8 true [6] (ld 39 1 38) (.or 10 true [] (cl 41 Jh [40]) (.or 11 false [10, 6] (xo 42 (.build [(.string ⟨#[]⟩), (.slice none 0 0), (.slice none 0 0)] [(0, 1, (.t 39)), (1, 2, (.t 41))])) (.one 12 false [10, 6] (xo 43 (.obslice 1 3 true [(.string ⟨#[]⟩), (.slice none 0 0), (.slice none 0 0)] [(0, (.t 42))])) (.one 13 true [12, 10, 6] (xo 44 (.append 3 64 [(.string ⟨#[]⟩), (.slice none 0 0), (.slice none 0 0)] (.t 32) (.t 43))) (.one 14 false [] (fa 45 2 6) (.one 15 true [13, 12, 10, 6] (xs 1 45 44) (.done))))) (.done)) (.done)) (.or 10 true [] (cl 41 Jh [40]) (.or 8 true [6] (ld 39 1 38) (.or 11 false [10, 6] (xo 42 (.build [(.string ⟨#[]⟩), (.slice none 0 0), (.slice none 0 0)] [(0, 1, (.t 39)), (1, 2, (.t 41))])) (.one 12 false [10, 6] (xo 43 (.obslice 1 3 true [(.string ⟨#[]⟩), (.slice none 0 0), (.slice none 0 0)] [(0, (.t 42))])) (.one 13 true [12, 10, 6] (xo 44 (.append 3 64 [(.string ⟨#[]⟩), (.slice none 0 0), (.slice none 0 0)] (.t 32) (.t 43))) (.one 14 false [] (fa 45 2 6) (.one 15 true [13, 12, 10, 6] (xs 1 45 44) (.done))))) (.done)) (.done)) (.done))) (.or 8 true [6] (ld 39 1 38) (.or 1 true [] (ld 32 1 31) (.or 10 true [] (cl 41 Jh [40]) (.or 11 false [10, 6] (xo 42 (.build [(.string ⟨#[]⟩), (.slice none 0 0), (.slice none 0 0)] [(0, 1, (.t 39)), (1, 2, (.t 41))])) (.one 12 false [10, 6] (xo 43 (.obslice 1 3 true [(.string ⟨#[]⟩), (.slice none 0 0), (.slice none 0 0)] [(0, (.t 42))])) (.one 13 true [12, 10, 6] (xo 44 (.append 3 64 [(.string ⟨#[]⟩), (.slice none 0 0), (.slice none 0 0)] (.t 32) (.t 43))) (.one 14 false [] (fa 45 2 6) (.one 15 true [13, 12, 10, 6] (xs 1 45 44) (.done))))) (.done)) (.done)) (.or 10 true [] (cl 41 Jh [40]) (.one 1 true [] (ld 32 1 31) (.or 11 false [10, 6] (xo 42 (.build [(.string ⟨#[]⟩), (.slice none 0 0), (.slice none 0 0)] [(0, 1, (.t 39)), (1, 2, (.t 41))])) (.one 12 false [10, 6] (xo 43 (.obslice 1 3 true [(.string ⟨#[]⟩), (.slice none 0 0), (.slice none 0 0)] [(0, (.t 42))])) (.one 13 true [12, 10, 6] (xo 44 (.append 3 64 [(.string ⟨#[]⟩), (.slice none 0 0), (.slice none 0 0)] (.t 32) (.t 43))) (.one 14 false [] (fa 45 2 6) (.one 15 true [13, 12, 10, 6] (xs 1 45 44) (.done))))) (.done))) (.done))) (.or 10 true [] (cl 41 Jh [40]) (.or 1 true [] (ld 32 1 31) (.or 8 true [6] (ld 39 1 38) (.or 11 false [10, 6] (xo 42 (.build [(.string ⟨#[]⟩), (.slice none 0 0), (.slice none 0 0)] [(0, 1, (.t 39)), (1, 2, (.t 41))])) (.one 12 false [10, 6] (xo 43 (.obslice 1 3 true [(.string ⟨#[]⟩), (.slice none 0 0), (.slice none 0 0)] [(0, (.t 42))])) (.one 13 true [12, 10, 6] (xo 44 (.append 3 64 [(.string ⟨#[]⟩), (.slice none 0 0), (.slice none 0 0)] (.t 32) (.t 43))) (.one 14 false [] (fa 45 2 6) (.one 15 true [13, 12, 10, 6] (xs 1 45 44) (.done))))) (.done)) (.done)) (.or 8 true [6] (ld 39 1 38) (.one 1 true [] (ld 32 1 31) (.or 11 false [10, 6] (xo 42 (.build [(.string ⟨#[]⟩), (.slice none 0 0), (.slice none 0 0)] [(0, 1, (.t 39)), (1, 2, (.t 41))])) (.one 12 false [10, 6] (xo 43 (.obslice 1 3 true [(.string ⟨#[]⟩), (.slice none 0 0), (.slice none 0 0)] [(0, (.t 42))])) (.one 13 true [12, 10, 6] (xo 44 (.append 3 64 [(.string ⟨#[]⟩), (.slice none 0 0), (.slice none 0 0)] (.t 32) (.t 43))) (.one 14 false [] (fa 45 2 6) (.one 15 true [13, 12, 10, 6] (xs 1 45 44) (.done))))) (.done))) (.done))) (.done)))) (.or 10 true [] (cl 41 Jh [40]) (.or 1 true [] (ld 32 1 31) (.or 7 true [6] (ia 38 1 33 37) (.or 8 true [6] (ld 39 1 38) (.or 11 false [10, 6] (xo 42 (.build [(.string ⟨#[]⟩), (.slice none 0 0), (.slice none 0 0)] [(0, 1, (.t 39)), (1, 2, (.t 41))])) (.one 12 false [10, 6] (xo 43 (.obslice 1 3 true [(.string ⟨#[]⟩), (.slice none 0 0), (.slice none 0 0)] [(0, (.t 42))])) (.one 13 true [12, 10, 6] (xo 44 (.append 3 64 [(.string ⟨#[]⟩), (.slice none 0 0), (.slice none 0 0)] (.t 32) (.t 43))) (.one 14 false [] (fa 45 2 6) (.one 15 true [13, 12, 10, 6] (xs 1 45 44) (.done))))) (.done)) (.done)) (.done)) (.or 7 true [6] (ia 38 1 33 37) (.or 1 true [] (ld 32 1 31) (.or 8 true [6] (ld 39 1 38) (.or 11 false [10, 6] (xo 42 (.build [(.string ⟨#[]⟩), (.slice none 0 0), (.slice none 0 0)] [(0, 1, (.t 39)), (1, 2, (.t 41))])) (.one 12 false [10, 6] (xo 43 (.obslice 1 3 true [(.string ⟨#[]⟩), (.slice none 0 0), (.slice none 0 0)] [(0, (.t 42))])) (.one 13 true [12, 10, 6] (xo 44 (.append 3 64 [(.string ⟨#[]⟩), (.slice none 0 0), (.slice none 0 0)] (.t 32) (.t 43))) (.one 14 false [] (fa 45 2 6) (.one 15 true [13, 12, 10, 6] (xs 1 45 44) (.done))))) (.done)) (.done)) (.or 8 true [6] (ld 39 1 38) (.one 1 true [] (ld 32 1 31) (.or 11 false [10, 6] (xo 42 (.build [(.string ⟨#[]⟩), (.slice none 0 0), (.slice none 0 0)] [(0, 1, (.t 39)), (1, 2, (.t 41))])) (.one 12 false [10, 6] (xo 43 (.obslice 1 3 true [(.string ⟨#[]⟩), (.slice none 0 0), (.slice none 0 0)] [(0, (.t 42))])) (.one 13 true [12, 10, 6] (xo 44 (.append 3 64 [(.string ⟨#[]⟩), (.slice none 0 0), (.slice none 0 0)] (.t 32) (.t 43))) (.one 14 false [] (fa 45 2 6) (.one 15 true [13, 12, 10, 6] (xs 1 45 44) (.done))))) (.done))) (.done))) (.done))) (.done)))) (.done))))))))
theorem Q9 (Qn Jh : Nat) : okR (jG Qn Jh) jS [1, 6, 7, 8, 10] jD = true := by kernel_rfl
theorem Q6 (Qn Jh : Nat) : Wt (ris (jG Qn Jh) jS [1, 6, 7, 8, 10]) jD = JM Qn Jh := by kernel_rfl
def jF (QO QH : Nat) : List AO := [mv 85 8, mv 86 8, nk 87 86, fa 88 2 87, ld 89 1 88, mv 90 0, xo 91 (.bslice 3 1 false [(.string ⟨#[]⟩)] [(0, (.c (V.str []))), (1, (.c (V.str [110, 111, 110, 101]))), (2, (.c (V.str [120, 32, 121])))]), cl 92 QO [90, 91], mv 93 0, xo 94 (.bslice 2 1 false [(.int .i64 0)] [(0, (.c (V.int (-1)))), (1, (.c (V.int 3)))]), cl 95 QH [93, 94], xo 96 (.bslice 1 1 false [(.int .i64 0)] [(0, (.t 95))]), xo 97 (.build [(.slice none 0 0), (.slice none 0 0)] [(0, 1, (.t 96))]), xo 98 (.build [(.string ⟨#[]⟩), (.slice none 0 0), (.slice none 0 0)] [(0, 1, (.t 92)), (1, 2, (.t 97))]), xo 99 (.obslice 1 3 true [(.string ⟨#[]⟩), (.slice none 0 0), (.slice none 0 0)] [(0, (.t 98))]), xo 100 (.append 3 64 [(.string ⟨#[]⟩), (.slice none 0 0), (.slice none 0 0)] (.t 89) (.t 99)), nk 101 85, fa 102 2 101, xs 1 102 100]
def jR : List (List Nat) := [[], [], [1], [2], [3], [], [], [5, 6], [], [], [8, 9, 7], [10], [11], [7, 12], [13], [4, 14, 10], [0, 0, 1, 2, 3, 4, 5, 6, 7, 8, 9, 10, 11, 12, 13, 14, 15], [16, 0, 1, 2, 3, 4, 5, 6, 7, 8, 9, 10, 11, 12, 13, 14, 15], [17, 15, 15, 0, 1, 2, 3, 4, 5, 6, 7, 8, 9, 10, 11, 12, 13, 14, 15]]
def jC : OT := .one 0 (.one 1 (.one 2 (.one 3 (.one 5 (.one 8 (.or 4 (.or 6 (.or 7 (.or 9 (.or 10 (.or 11 (.or 12 (.or 13 (.one 14 (.one 15 (.one 16 (.one 17 (.one 18 (.done)))))) (.done)) (.done)) (.done)) (.done)) (.done)) (.or 9 (.or 7 (.or 10 (.or 11 (.or 12 (.or 13 (.one 14 (.one 15 (.one 16 (.one 17 (.one 18 (.done)))))) (.done)) (.done)) (.done)) (.done)) (.done)) (.done))) (.or 9 (.or 6 (.or 7 (.or 10 (.or 11 (.or 12 (.or 13 (.one 14 (.one 15 (.one 16 (.one 17 (.one 18 (.done)))))) (.done)) (.done)) (.done)) (.done)) (.done)) (.done)) (.done))) (.or 6 (.or 4 (.or 7 (.or 9 (.or 10 (.or 11 (.or 12 (.or 13 (.one 14 (.one 15 (.one 16 (.one 17 (.one 18 (.done)))))) (.done)) (.done)) (.done)) (.done)) (.done)) (.or 9 (.or 7 (.or 10 (.or 11 (.or 12 (.or 13 (.one 14 (.one 15 (.one 16 (.one 17 (.one 18 (.done)))))) (.done)) (.done)) (.done)) (.done)) (.done)) (.done))) (.or 7 (.or 4 (.or 9 (.or 10 (.or 11 (.or 12 (.or 13 (.one 14 (.one 15 (.one 16 (.one 17 (.one 18 (.done)))))) (.done)) (.done)) (.done)) (.done)) (.done)) (.or 9 (.or 4 (.or 10 (.or 11 (.or 12 (.or 13 (.one 14 (.one 15 (.one 16 (.one 17 (.one 18 (.done)))))) (.done)) (.done)) (.done)) (.done)) (.or 10 (.one 4 (.or 11 (.or 12 (.or 13 (.one 14 (.one 15 (.one 16 (.one 17 (.one 18 (.done)))))) (.done)) (.done)) (.done))) (.done))) (.done))) (.or 9 (.or 4 (.or 7 (.or 10 (.or 11 (.or 12 (.or 13 (.one 14 (.one 15 (.one 16 (.one 17 (.one 18 (.done)))))) (.done)) (.done)) (.done)) (.done)) (.done)) (.or 7 (.or 4 (.or 10 (.or 11 (.or 12 (.or 13 (.one 14 (.one 15 (.one 16 (.one 17 (.one 18 (.done)))))) (.done)) (.done)) (.done)) (.done)) (.or 10 (.one 4 (.or 11 (.or 12 (.or 13 (.one 14 (.one 15 (.one 16 (.one 17 (.one 18 (.done)))))) (.done)) (.done)) (.done))) (.done))) (.done))) (.done)))) (.or 9 (.or 4 (.or 6 (.or 7 (.or 10 (.or 11 (.or 12 (.or 13 (.one 14 (.one 15 (.one 16 (.one 17 (.one 18 (.done)))))) (.done)) (.done)) (.done)) (.done)) (.done)) (.done)) (.or 6 (.or 4 (.or 7 (.or 10 (.or 11 (.or 12 (.or 13 (.one 14 (.one 15 (.one 16 (.one 17 (.one 18 (.done)))))) (.done)) (.done)) (.done)) (.done)) (.done)) (.or 7 (.or 4 (.or 10 (.or 11 (.or 12 (.or 13 (.one 14 (.one 15 (.one 16 (.one 17 (.one 18 (.done)))))) (.done)) (.done)) (.done)) (.done)) (.or 10 (.one 4 (.or 11 (.or 12 (.or 13 (.one 14 (.one 15 (.one 16 (.one 17 (.one 18 (.done)))))) (.done)) (.done)) (.done))) (.done))) (.done))) (.done))) (.done)))))))))
def JL (QO QH : Nat) : OP := .one 0 false [] (mv 85 8) (.one 1 false [] (mv 86 8) (.one 2 false [] (nk 87 86) (.one 3 false [] (fa 88 2 87) (.one 5 false [] (mv 90 0) (.one 8 false [] (mv 93 0) (.or 4 true [] (ld 89 1 88) (.or 6 false [] (xo 91 (.bslice 3 1 false [(.string ⟨#[]⟩)] [(0, (.c (V.str []))), (1, (.c (V.str [110, 111, 110, 101]))), (2, (.c (V.str [120, 32, 121])))])) (.or 7 true [6] (cl 92 QO [90, 91]) (.or 9 false [] (xo 94 (.bslice 2 1 false [(.int .i64 0)] [(0, (.c (V.int (-1)))), (1, (.c (V.int 3)))])) (.or 10 true [9] (cl 95 QH [93, 94]) (.or 11 false [10, 9] (xo 96 (.bslice 1 1 false [(.int .i64 0)] [(0, (.t 95))])) (.or 12 false [11, 10, 9] (xo 97 (.build [(.slice none 0 0), (.slice none 0 0)] [(0, 1, (.t 96))])) (.or 13 false [11, 10, 9, 7, 6] (xo 98 (.build [(.string ⟨#[]⟩), (.slice none 0 0), (.slice none 0 0)] [(0, 1, (.t 92)), (1, 2, (.t 97))])) (.one 14 false [11, 10, 9, 7, 6] (xo 99 (.obslice 1 3 true [(.string ⟨#[]⟩), (.slice none 0 0), (.slice none 0 0)] [(0, (.t 98))])) (.one 15 true [14, 11, 10, 9, 7, 6] (xo 100 (.append 3 64 [(.string ⟨#[]⟩), (.slice none 0 0), (.slice none 0 0)] (.t 89) (.t 99))) (.one 16 false [] (nk 101 85) (.one 17 false [] (fa 102 2 101) (.one 18 true [15, 14, 11, 10, 9, 7, 6] (xs 1 102 100) (.done)))))) (.done)) (.done)) (.done)) (.done)) (.done)) (.or 9 false [] (xo 94 (.bslice 2 1 false [(.int .i64 0)] [(0, (.c (V.int (-1)))), (1, (.c (V.int 3)))])) (.or 7 true [6] (cl 92 QO [90, 91]) (.or 10 true [9] (cl 95 QH [93, 94]) (.or 11 false [10, 9] (xo 96 (.bslice 1 1 false [(.int .i64 0)] [(0, (.t 95))])) (.or 12 false [11, 10, 9] (xo 97 (.build [(.slice none 0 0), (.slice none 0 0)] [(0, 1, (.t 96))])) (.or 13 false [11, 10, 9, 7, 6] (xo 98 (.build [(.string ⟨#[]⟩), (.slice none 0 0), (.slice none 0 0)] [(0, 1, (.t 92)), (1, 2, (.t 97))])) (.one 14 false [11, 10, 9, 7, 6] (xo 99 (.obslice 1 3 true [(.string ⟨#[]⟩), (.slice none 0 0), (.slice none 0 0)] [(0, (.t 98))])) (.one 15 true [14, 11, 10, 9, 7, 6] (xo 100 (.append 3 64 [(.string ⟨#[]⟩), (.slice none 0 0), (.slice none 0 0)] (.t 89) (.t 99))) (.one 16 false [] (nk 101 85) (.one 17 false [] (fa 102 2 101) (.one 18 true [15, 14, 11, 10, 9, 7, 6] (xs 1 102 100) (.done)))))) (.done)) (.done)) (.done)) (.done)) (.done)) (.done))) (.or 9 false [] (xo 94 (.bslice 2 1 false [(.int .i64 0)] [(0, (.c (V.int (-1)))), (1, (.c (V.int 3)))])) (.or 6 false [] (xo 91 (.bslice 3 1 false [(.string ⟨#[]⟩)] [(0, (.c (V.str []))), (1, (.c (V.str [110, 111, 110, 101]))), (2, (.c (V.str [120, 32, 121])))])) (.or 7 true [6] (cl 92 QO [90, 91]) (.or 10 true [9] (cl 95 QH [93, 94]) (.or 11 false [10, 9] (xo 96 (.bslice 1 1 false [(.int .i64 0)] [(0, (.t 95))])) (.or 12 false [11, 10, 9] (xo 97 (.build [(.slice none 0 0), (.slice none 0 0)] [(0, 1, (.t 96))])) (.or 13 false [11, 10, 9, 7, 6] (xo 98 (.build [(.string ⟨#[]⟩), (.slice none 0 0), (.slice none 0 0)] [(0, 1, (.t 92)), (1, 2, (.t 97))])) (.one 14 false [11, 10, 9, 7, 6] (xo 99 (.obslice 1 3 true [(.string ⟨#[]⟩), (.slice none 0 0), (.slice none 0 0)] [(0, (.t 98))])) (.one 15 true [14, 11, 10, 9, 7, 6] (xo 100 (.append 3 64 [(.string ⟨#[]⟩), (.slice none 0 0), (.slice none 0 0)] (.t 89) (.t 99))) (.one 16 false [] (nk 101 85) (.one 17 false [] (fa 102 2 101) (.one 18 true [15, 14, 11, 10, 9, 7, 6] (xs 1 102 100) (.done)))))) (.done)) (.done)) (.done)) (.done)) (.done)) (.done)) (.done))) (.or 6 false [] (xo 91 (.bslice 3 1 false [(.string ⟨#[]⟩)] [(0, (.c (V.str []))), (1, (.c (V.str [110, 111, 110, 101]))), (2, (.c (V.str [120, 32, 121])))])) (.or 4 true [] (ld 89 1 88) (.or 7 true [6] (cl 92 QO [90, 91]) (.or 9 false [] (xo 94 (.bslice 2 1 false [(.int .i64 0)] [(0, (.c (V.int (-1)))), (1, (.c (V.int 3)))])) (.or 10 true [9] (cl 95 QH [93, 94]) (.or 11 false [10, 9] (xo 96 (.bslice 1 1 false [(.int .i64 0)] [(0, (.t 95))])) (.or 12 false [11, 10, 9] (xo 97 (.build [(.slice none 0 0), (.slice none 0 0)] [(0, 1, (.t 96))])) (.or 13 false [11, 10, 9, 7, 6] (xo 98 (.build [(.string ⟨#[]⟩), (.slice none 0 0), (.slice none 0 0)] [(0, 1, (.t 92)), (1, 2, (.t 97))])) (.one 14 false [11, 10, 9, 7, 6] (xo 99 (.obslice 1 3 true [(.string ⟨#[]⟩), (.slice none 0 0), (.slice none 0 0)] [(0, (.t 98))])) (.one 15 true [14, 11, 10, 9, 7, 6] (xo 100 (.append 3 64 [(.string ⟨#[]⟩), (.slice none 0 0), (.slice none 0 0)] (.t 89) (.t 99))) (.one 16 false [] (nk 101 85) (.one 17 false [] (fa 102 2 101) (.one 18 true [15, 14, 11, 10, 9, 7, 6] (xs 1 102 100) (.done)))))) (.done)) (.done)) (.done)) (.done)) (.done)) (.or 9 false [] (xo 94 (.bslice 2 1 false [(.int .i64 0)] [(0, (.c (V.int (-1)))), (1, (.c (V.int 3)))])) (.or 7 true [6] (cl 92 QO [90, 91]) (.or 10 true [9] (cl 95 QH [93, 94]) (.or 11 false [10, 9] (xo 96 (.bslice 1 1 false [(.int .i64 0)] [(0, (.t 95))])) (.or 12 false [11, 10, 9] (xo 97 (.build [(.slice none 0 0), (.slice none 0 0)] [(0, 1, (.t 96))])) (.or 13 false [11, 10, 9, 7, 6] (xo 98 (.build [(.string ⟨#[]⟩), (.slice none 0 0), (.slice none 0 0)] [(0, 1, (.t 92)), (1, 2, (.t 97))])) (.one 14 false [11, 10, 9, 7, 6] (xo 99 (.obslice 1 3 true [(.string ⟨#[]⟩), (.slice none 0 0), (.slice none 0 0)] [(0, (.t 98))])) (.one 15 true [14, 11, 10, 9, 7, 6] (xo 100 (.append 3 64 [(.string ⟨#[]⟩), (.slice none 0 0), (.slice none 0 0)] (.t 89) (.t 99))) (.one 16 false [] (nk 101 85) (.one 17 false [] (fa 102 2 101) (.one 18 true [15, 14, 11, 10, 9, 7, 6] (xs 1 102 100) (.done)))))) (.done)) (.done)) (.done)) (.done)) (.done)) (.done))) (.or 7 true [6] (cl 92 QO [90, 91]) (.or 4 true [] (ld 89 1 88) (.or 9 false [] (xo 94 (.bslice 2 1 false [(.int .i64 0)] [(0, (.c (V.int (-1)))), (1, (.c (V.int 3)))])) (.or 10 true [9] (cl 95 QH [93, 94]) (.or 11 false [10, 9] (xo 96 (.bslice 1 1 false [(.int .i64 0)] [(0, (.t 95))])) (.or 12 false [11, 10, 9] (xo 97 (.build [(.slice none 0 0), (.slice none 0 0)] [(0, 1, (.t 96))])) (.or 13 false [11, 10, 9, 7, 6] (xo 98 (.build [(.string ⟨#[]⟩), (.slice none 0 0), (.slice none 0 0)] [(0, 1, (.t 92)), (1, 2, (.t 97))])) (.one 14 false [11, 10, 9, 7, 6] (xo 99 (.obslice 1 3 true [(.string ⟨#[]⟩), (.slice none 0 0), (.slice none 0 0)] [(0, (.t 98))])) (.one 15 true [14, 11, 10, 9, 7, 6] (xo 100 (.append 3 64 [(.string ⟨#[]⟩), (.slice none 0 0), (.slice none 0 0)] (.t 89) (.t 99))) (.one 16 false [] (nk 101 85) (.one 17 false [] (fa 102 2 101) (.one 18 true [15, 14, 11, 10, 9, 7, 6] (xs 1 102 100) (.done)))))) (.done)) (.done)) (.done)) (.done)) (.done)) (.or 9 false [] (xo 94 (.bslice 2 1 false [(.int .i64 0)] [(0, (.c (V.int (-1)))), (1, (.c (V.int 3)))])) (.or 4 true [] (ld 89 1 88) (.or 10 true [9] (cl 95 QH [93, 94]) (.or 11 false [10, 9] (xo 96 (.bslice 1 1 false [(.int .i64 0)] [(0, (.t 95))])) (.or 12 false [11, 10, 9] (xo 97 (.build [(.slice none 0 0), (.slice none 0 0)] [(0, 1, (.t 96))])) (.or 13 false [11, 10, 9, 7, 6] (xo 98 (.build [(.string ⟨#[]⟩), (.slice none 0 0), (.slice none 0 0)] [(0, 1, (.t 92)), (1, 2, (.t 97))])) (.one 14 false [11, 10, 9, 7, 6] (xo 99 (.obslice 1 3 true [(.string ⟨#[]⟩), (.slice none 0 0), (.slice none 0 0)] [(0, (.t 98))])) (.one 15 true [14, 11, 10, 9, 7, 6] (xo 100 (.append 3 64 [(.string ⟨#[]⟩), (.slice none 0 0), (.slice none 0 0)] (.t 89) (.t 99))) (.one 16 false [] (nk 101 85) (.one 17 false [] (fa 102 2 101) (.one 18 true [15, 14, 11, 10, 9, 7, 6] (xs 1 102 100) (.done)))))) (.done)) (.done)) (.done)) (.done)) (.or 10 true [9] (cl 95 QH [93, 94]) (.one 4 true [] (ld 89 1 88) (.or 11 false [10, 9] (xo 96 (.bslice 1 1 false [(.int .i64 0)] [(0, (.t 95))])) (.or 12 false [11, 10, 9] (xo 97 (.build [(.slice none 0 0), (.slice none 0 0)] [(0, 1, (.t 96))])) (.or 13 false [11, 10, 9, 7, 6] (xo 98 (.build [(.string ⟨#[]⟩), (.slice none 0 0), (.slice none 0 0)] [(0, 1, (.t 92)), (1, 2, (.t 97))])) (.one 14 false [11, 10, 9, 7, 6] (xo 99 (.obslice 1 3 true [(.string ⟨#[]⟩), (.slice none 0 0), (.slice none 0 0)] [(0, (.t 98))])) (.one 15 true [14, 11, 10, 9, 7, 6] (xo 100 (.append 3 64 [(.string ⟨#[]⟩), (.slice none 0 0), (.slice none 0 0)] (.t 89) (.t 99))) (.one 16 false [] (nk 101 85) (.one 17 false [] (fa 102 2 101) (.one 18 true [15, 14, 11, 10, 9, 7, 6] (xs 1 102 100) (.done)))))) (.done)) (.done)) (.done))) (.done))) (.done))) (.or 9 false [] (xo 94 (.bslice 2 1 false [(.int .i64 0)] [(0, (.c (V.int (-1)))), (1, (.c (V.int 3)))])) (.or 4 true [] (ld 89 1 88) (.or 7 true [6] (cl 92 QO [90, 91]) (.or 10 true [9] (cl 95 QH [93, 94]) (.or 11 false [10, 9] (xo 96 (.bslice 1 1 false [(.int .i64 0)] [(0, (.t 95))])) (.or 12 false [11, 10, 9] (xo 97 (.build [(.slice none 0 0), (.slice none 0 0)] [(0, 1, (.t 96))])) (.or 13 false [11, 10, 9, 7, 6] (xo 98 (.build [(.string ⟨#[]⟩), (.slice none 0 0), (.slice none 0 0)] [(0, 1, (.t 92)), (1, 2, (.t 97))])) (.one 14 false [11, 10, 9, 7, 6] (xo 99 (.obslice 1 3 true [(.string ⟨#[]⟩), (.slice none 0 0), (.slice none 0 0)] [(0, (.t 98))])) (.one 15 true [14, 11, 10, 9, 7, 6] (xo 100 (.append 3 64 [(.string ⟨#[]⟩), (.slice none 0 0), (.slice none 0 0)] (.t 89) (.t 99))) (.one 16 false [] (nk 101 85) (.one 17 false [] (fa 102 2 101) (.one 18 true [15, 14, 11, 10, 9, 7, 6] (xs 1 102 100) (.done)))))) (.done)) (.done)) (.done)) (.done)) (.done)) (.or 7 true [6] (cl 92 QO [90, 91]) (.or 4 true [] (ld 89 1 88) (.or 10 true [9] (cl 95 QH [93, 94]) (.or 11 false [10, 9] (xo 96 (.bslice 1 1 false [(.int .i64 0)] [(0, (.t 95))])) (.or 12 false [11, 10, 9] (xo 97 (.build [(.slice none 0 0), (.slice none 0 0)] [(0, 1, (.t 96))])) (.or 13 false [11, 10, 9, 7, 6] (xo 98 (.build [(.string ⟨#[]⟩), (.slice none 0 0), (.slice none 0 0)] [(0, 1, (.t 92)), (1, 2, (.t 97))])) (.one 14 false [11, 10, 9, 7, 6] (xo 99 (.obslice 1 3 true [(.string ⟨#[]⟩), (.slice none 0 0), (.slice none 0 0)] [(0, (.t 98))])) (.one 15 true [14, 11, 10, 9, 7, 6] (xo 100 (.append 3 64 [(.string ⟨#[]⟩), (.slice none 0 0), (.slice none 0 0)] (.t 89) (.t 99))) (.one 16 false [] (nk 101 85) (.one 17 false [] (fa 102 2 101) (.one 18 true [15, 14, 11, 10, 9, 7, 6] (xs 1 102 100) (.done)))))) (.done)) (.done)) (.done)) (.done)) (.or 10 true [9] (cl 95 QH [93, 94]) (.one 4 true [] (ld 89 1 88) (.or 11 false [10, 9] (xo 96 (.bslice 1 1 false [(.int .i64 0)] [(0, (.t 95))])) (.or 12 false [11, 10, 9] (xo 97 (.build [(.slice none 0 0), (.slice none 0 0)] [(0, 1, (.t 96))])) (.or 13 false [11, 10, 9, 7, 6] (xo 98 (.build [(.string ⟨#[]⟩), (.slice none 0 0), (.slice none 0 0)] [(0, 1, (.t 92)), (1, 2, (.t 97))])) (.one 14 false [11, 10, 9, 7, 6] (xo 99 (.obslice 1 3 true [(.string ⟨#[]⟩), (.slice none 0 0), (.slice none 0 0)] [(0, (.t 98))])) (.one 15 true [14, 11, 10, 9, 7, 6] (xo 100 (.append 3 64 [(.string ⟨#[]⟩), (.slice none 0 0), (.slice none 0 0)] (.t 89) (.t 99))) (.one 16 false [] (nk 101 85) (.one 17 false [] (fa 102 2 101) (.one 18 true [15, 14, 11, 10, 9, 7, 6] (xs 1 102 100) (.done)))))) (.done)) (.done)) (.done))) (.done))) (.done))) (.done)))) (.or 9 false [] (xo 94 (.bslice 2 1 false [(.int .i64 0)] [(0, (.c (V.int (-1)))), (1, (.c (V.int 3)))])) (.or 4 true [] (ld 89 1 88) (.or 6 false [] (xo 91 (.bslice 3 1 false [(.string ⟨#[]⟩)] [(0, (.c (V.str []))), (1, (.c (V.str [110, 111, 110, 101]))), (2, (.c (V.str [120, 32, 121])))])) (.or 7 true [6] (cl 92 QO [90, 91]) (.or 10 true [9] (cl 95 QH [93, 94]) (.or 11 false [10, 9] (xo 96 (.bslice 1 1 false [(.int .i64 0)] [(0, (.t 95))])) (.or 12 false [11, 10, 9] (xo 97 (.build [(.slice none 0 0), (.slice none 0 0)] [(0, 1, (.t 96))])) (.or 13 false [11, 10, 9, 7, 6] (xo 98 (.build [(.string ⟨#[]⟩), (.slice none 0 0), (.slice none 0 0)] [(0, 1, (.t 92)), (1, 2, (.t 97))])) (.one 14 false [11, 10, 9, 7, 6] (xo 99 (.obslice 1 3 true [(.string ⟨#[]⟩), (.slice none 0 0), (.slice none 0 0)] [(0, (.t 98))])) (.one 15 true [14, 11, 10, 9, 7, 6] (xo 100 (.append 3 64 [(.string ⟨#[]⟩), (.slice none 0 0), (.slice none 0 0)] (.t 89) (.t 99))) (.one 16 false [] (nk 101 85) (.one 17 false [] (fa 102 2 101) (.one 18 true [15, 14, 11, 10, 9, 7, 6] (xs 1 102 100) (.done)))))) (.done)) (.done)) (.done)) (.done)) (.done)) (.done)) (.or 6 false [] (xo 91 (.bslice 3 1 false [(.string ⟨#[]⟩)] [(0, (.c (V.str []))), (1, (.c (V.str [110, 111, 110, 101]))), (2, (.c (V.str [120, 32, 121])))])) (.or 4 true [] (ld 89 1 88) (.or 7 true [6] (cl 92 QO [90, 91]) (.or 10 true [9] (cl 95 QH [93, 94]) (.or 11 false [10, 9] (xo 96 (.bslice 1 1 false [(.int .i64 0)] [(0, (.t 95))])) (.or 12 false [11, 10, 9] (xo 97 (.build [(.slice none 0 0), (.slice none 0 0)] [(0, 1, (.t 96))])) (.or 13 false [11, 10, 9, 7, 6] (xo 98 (.build [(.string ⟨#[]⟩), (.slice none 0 0), (.slice none 0 0)] [(0, 1, (.t 92)), (1, 2, (.t 97))])) (.one 14 false [11, 10, 9, 7, 6] (xo 99 (.obslice 1 3 true [(.string ⟨#[]⟩), (.slice none 0 0), (.slice none 0 0)] [(0, (.t 98))])) (.one 15 true [14, 11, 10, 9, 7, 6] (xo 100 (.append 3 64 [(.string ⟨#[]⟩), (.slice none 0 0), (.slice none 0 0)] (.t 89) (.t 99))) (.one 16 false [] (nk 101 85) (.one 17 false [] (fa 102 2 101) (.one 18 true [15, 14, 11, 10, 9, 7, 6] (xs 1 102 100) (.done)))))) (.done)) (.done)) (.done)) (.done)) (.done)) (.or 7 true [6] (cl 92 QO [90, 91]) (.or 4 true [] (ld 89 1 88) (.or 10 true [9] (cl 95 QH [93, 94]) (.or 11 false [10, 9] (xo 96 (.bslice 1 1 false [(.int .i64 0)] [(0, (.t 95))])) (.or 12 false [11, 10, 9] (xo 97 (.build [(.slice none 0 0), (.slice none 0 0)] [(0, 1, (.t 96))])) (.or 13 false [11, 10, 9, 7, 6] (xo 98 (.build [(.string ⟨#[]⟩), (.slice none 0 0), (.slice none 0 0)] [(0, 1, (.t 92)), (1, 2, (.t 97))])) (.one 14 false [11, 10, 9, 7, 6] (xo 99 (.obslice 1 3 true [(.string ⟨#[]⟩), (.slice none 0 0), (.slice none 0 0)] [(0, (.t 98))])) (.one 15 true [14, 11, 10, 9, 7, 6] (xo 100 (.append 3 64 [(.string ⟨#[]⟩), (.slice none 0 0), (.slice none 0 0)] (.t 89) (.t 99))) (.one 16 false [] (nk 101 85) (.one 17 false [] (fa 102 2 101) (.one 18 true [15, 14, 11, 10, 9, 7, 6] (xs 1 102 100) (.done)))))) (.done)) (.done)) (.done)) (.done)) (.or 10 true [9] (cl 95 QH [93, 94]) (.one 4 true [] (ld 89 1 88) (.or 11 false [10, 9] (xo 96 (.bslice 1 1 false [(.int .i64 0)] [(0, (.t 95))])) (.or 12 false [11, 10, 9] (xo 97 (.build [(.slice none 0 0), (.slice none 0 0)] [(0, 1, (.t 96))])) (.or 13 false [11, 10, 9, 7, 6] (xo 98 (.build [(.string ⟨#[]⟩), (.slice none 0 0), (.slice none 0 0)] [(0, 1, (.t 92)), (1, 2, (.t 97))])) (.one 14 false [11, 10, 9, 7, 6] (xo 99 (.obslice 1 3 true [(.string ⟨#[]⟩), (.slice none 0 0), (.slice none 0 0)] [(0, (.t 98))])) (.one 15 true [14, 11, 10, 9, 7, 6] (xo 100 (.append 3 64 [(.string ⟨#[]⟩), (.slice none 0 0), (.slice none 0 0)] (.t 89) (.t 99))) (.one 16 false [] (nk 101 85) (.one 17 false [] (fa 102 2 101) (.one 18 true [15, 14, 11, 10, 9, 7, 6] (xs 1 102 100) (.done)))))) (.done)) (.done)) (.done))) (.done))) (.done))) (.done))) (.done)))))))))
theorem Q8 (QO QH : Nat) : okR (jF QO QH) jR [4, 7, 10] jC = true := by kernel_rfl
theorem Q5 (QO QH : Nat) : Wt (ris (jF QO QH) jR [4, 7, 10]) jC = JL QO QH := by kernel_rfl def c_law12_list (JD Jp Qn Jh QO QH : Nat) : AC := Qr [0] (.reg [xo 2 (.mknil 3)]) (Qr [0, 3] (.reg [xo 9 (.bslice 5 1 false [(.string ⟨#[]⟩)] [(0, (.c (V.str [97, 112, 112]))), (1, (.c (V.str [99, 114, 121, 112, 116]))), (2, (.c (V.str [108, 105, 98]))), (3, (.c (V.str [115, 115, 108]))), (4, (.c (V.str [122, 105, 112])))]), mv 3 9]) (Qr [0, 3, 4] (.reg [xo 4 (.mknil 3)]) (Qr [0, 4] (Qr [0, 3, 4, 5] (.reg [mc 5 (V.int 0)]) (.block 0 (W5 [0, 3, 4, 5] (Qr [0, 3, 4, 5] (Qr [0, 3, 4, 5, 13] (.reg [mv 10 5, mv 11 3, ln 12 11, bn 13 .lss 10 12]) (.cond (.t 13) (.skip) (.exit 0))) (Qr [0, 3, 4, 5] (.block 1 (Qr [0, 3, 4, 5] (Qr [0, 3, 4, 5, 17] (.reg [mv 16 0, xo 17 (.call JD [(.t 16), (.c (V.int 4))])]) (.cond (.t 17) (.exit 1) (.skip))) (Qr [0, 3, 4, 5, 6] (acq [5] jE (JN Jp) (jH Jp) jT) (Qr [0, 3, 4, 5, 6] (Qr [0, 3, 4, 5, 6, 7] (.reg [mv 25 0, xo 26 (.call Qn [(.t 25), (.c (V.int 3))]), mv 7 26]) (.block 2 (W5 [0, 3, 4, 5, 6, 7] (Qr [0, 3, 4, 5, 6, 7] (Qr [0, 3, 4, 5, 6, 7, 28] (.reg [mv 27 7, bc 28 .gtr 27 (V.int 0)]) (.cond (.t 28) (.skip) (.exit 2))) (Qr [0, 3, 4, 5, 6, 7] (.block 3 (acq [1, 6, 7, 8, 10] jD (JM Qn Jh) (jG Qn Jh) jS)) (.reg [mv 29 7, bc 30 .sub 29 (V.int 1), mv 7 30])))))) (.reg [mv 46 4, xo 47 (.load true 3 (.t 6)), xo 48 (.obslice 1 3 true [(.string ⟨#[]⟩), (.slice none 0 0), (.slice none 0 0)] [(0, (.t 47))]), xo 49 (.append 3 64 [(.string ⟨#[]⟩), (.slice none 0 0), (.slice none 0 0)] (.t 46) (.t 48)), mv 4 49]))))) (.reg [mv 14 5, bc 15 .add 14 (V.int 1), mv 5 15])))))) (Qr [0, 4] (Qr [0, 4, 52] (.reg [mv 50 4, ln 51 50, bc 52 .eql 51 (V.int 0)]) (.cond (.t 52) (Qr [2] (.reg [mv 53 4, mv 2 53]) (.ret)) (.skip))) (Qr [0, 4, 8] (.reg [mv 54 4, mv 55 0, mv 56 4, ln 57 56, cl 58 Qn [55, 57], ia 59 3 54 58, mv 8 59]) (Qr [4] (Qr [0, 4, 8, 61] (.reg [mv 60 0, xo 61 (.call Qn [(.t 60), (.c (V.int 16))])]) (.block 4 (Qr [0, 4, 8, 61, 62] (.reg [bc 63 .eql 61 (V.int 0), mv 62 63]) (.cond (.t 62) (.reg [mv 64 8, mv 65 0, xo 66 (.bslice 3 1 false [(.string ⟨#[]⟩)] [(0, (.c (V.str []))), (1, (.c (V.str [97, 32, 98]))), (2, (.c (V.str [97, 112, 112])))]), cl 67 QO [65, 66], nk 68 64, fa 69 0 68, xs 1 69 67]) (Qr [0, 4, 8, 61, 70] (.reg [bc 71 .eql 61 (V.int 1), mv 70 71]) (.cond (.t 70) (.reg [mv 72 8, xo 73 (.bslice 1 1 false [(.int .i64 0)] [(0, (.c (V.int (-1))))]), xo 74 (.bslice 5 1 false [(.int .i64 0)] [(0, (.c (V.int 1))), (1, (.c (V.int 2))), (2, (.c (V.int 3))), (3, (.c (V.int 4))), (4, (.c (V.int 5)))]), xo 75 (.bslice 1 1 false [(.int .i64 0)] [(0, (.c (V.int 100000)))]), xo 76 (.obslice 4 1 false [(.slice none 0 0)] [(0, (.c (.sc (.slice none 0 0)))), (1, (.t 73)), (2, (.t 74)), (3, (.t 75))]), mv 77 0, xo 78 (.call Qn [(.t 77), (.c (V.int 4))]), ia 79 1 76 78, ld 80 1 79, nk 81 72, fa 82 1 81, xs 1 82 80]) (Qr [0, 4, 8, 61, 83] (.reg [bc 84 .eql 61 (V.int 2), mv 83 84]) (.cond (.t 83) (acq [4, 7, 10] jC (JL QO QH) (jF QO QH) jR) (Qr [4, 8, 103] (.reg [bc 104 .eql 61 (V.int 3), mv 103 104]) (.cond (.t 103) (.reg [mv 105 8, xo 106 (.mkslice 3 64 true [(.string ⟨#[]⟩), (.slice none 0 0), (.slice none 0 0)] (.c (V.int 9)) (.c (V.int 9))), nk 107 105, fa 108 2 107, xs 1 108 106]) (.skip))))))))))) (Qr [2] (.reg [mv 109 4, mv 2 109]) (.ret)))))))) def r_law12_list : List Wc := [.tmp 2]
def yC (Γ : Env) (f : Nat) : Prop := ∀ (l : List Int) (k : Nat) (hl : l.length ≤ 400) (hk : k ≤ l.length), EvP Γ f [.ptr 0 0] [.box true (JJ l k)] (aid l)
theorem adJ {Γ : Env} {f JD Jp Qn Jh QO QH : Nat} (h : Has Γ.P f 110 (c_law12_list JD Jp Qn Jh QO QH) r_law12_list) (Ql : W3 Γ JD) (QJ : UG Γ Jp) (Qh : Yy Γ Qn) (QB : qi Γ Jh) (Qm : VK Γ QO) (QC : Vy Γ QH) : yC Γ f := by
  intro l k hl hk
  refine wD h (by simp) fun C hC hm => ?_
  subst hC
  have hm : C.m = 1 := by simpa using hm
  unfold c_law12_list
  refine aeO ?_
  refine Qb fun K' hK => ?_
  simp (maxSteps := 1000000) only [go_sem, Nat.reduceAdd, Nat.reduceMul, Nat.reduceEqDiff, Nat.reduceLeDiff, Nat.reduceLT, Nat.reduceSub, Int.reduceEq, Int.reduceBEq, Int.reduceLT, Int.reduceLE, Int.reduceAdd, Int.reduceToNat, reduceIte, reduceCtorEq]
  refine hK _ ?_
  clear hK
  clear K'
  (try simp only [go_sem, Nat.reduceAdd, Nat.reduceMul, Nat.reduceEqDiff, Nat.reduceLeDiff, Nat.reduceLT, Nat.reduceSub, Int.reduceEq, Int.reduceBEq, Int.reduceLT, Int.reduceLE, Int.reduceAdd, Int.reduceToNat, reduceIte, reduceCtorEq])
  refine Qb fun K' hK => ?_
  simp (maxSteps := 1000000) only [go_sem, Nat.reduceAdd, Nat.reduceMul, Nat.reduceEqDiff, Nat.reduceLeDiff, Nat.reduceLT, Nat.reduceSub, Int.reduceEq, Int.reduceBEq, Int.reduceLT, Int.reduceLE, Int.reduceAdd, Int.reduceToNat, reduceIte, reduceCtorEq]
  refine hK _ ?_
  clear hK
  clear K'
  (try simp only [go_sem, Nat.reduceAdd, Nat.reduceMul, Nat.reduceEqDiff, Nat.reduceLeDiff, Nat.reduceLT, Nat.reduceSub, Int.reduceEq, Int.reduceBEq, Int.reduceLT, Int.reduceLE, Int.reduceAdd, Int.reduceToNat, reduceIte, reduceCtorEq])
  refine Qb fun K' hK => ?_
  simp (maxSteps := 1000000) only [go_sem, Nat.reduceAdd, Nat.reduceMul, Nat.reduceEqDiff, Nat.reduceLeDiff, Nat.reduceLT, Nat.reduceSub, Int.reduceEq, Int.reduceBEq, Int.reduceLT, Int.reduceLE, Int.reduceAdd, Int.reduceToNat, reduceIte, reduceCtorEq]
  refine hK _ ?_
  clear hK
  clear K'
  (try simp only [go_sem, Nat.reduceAdd, Nat.reduceMul, Nat.reduceEqDiff, Nat.reduceLeDiff, Nat.reduceLT, Nat.reduceSub, Int.reduceEq, Int.reduceBEq, Int.reduceLT, Int.reduceLE, Int.reduceAdd, Int.reduceToNat, reduceIte, reduceCtorEq])
  refine adO (ι := List QK × Nat) (fun q => ajj q.1 ∧ q.2 ≤ l.length) (fun q => xS l q.1 q.2) (fun K' hK' => ?_) (fun q hq => ?_)
  · repeat' (first | refine Qb fun K' hK => ?_ | refine Qe fun K' hK => ?_ | refine Qp 9 (fun y => !decide (y = 0)) rfl (Ja _) (Q7 _) fun K' hK => ?_ | refine Qq 9 (fun y => !decide (y = 0)) rfl (Ja _) (Q7 _) fun K' hK => ?_ | refine Qp 16 (fun y => !decide (y = 0) && !decide (y = 3) && !decide (y = 4)) rfl (Q9 _ _) (Q6 _ _) fun K' hK => ?_ | refine Qq 16 (fun y => !decide (y = 0) && !decide (y = 3) && !decide (y = 4)) rfl (Q9 _ _) (Q6 _ _) fun K' hK => ?_ | refine Qp 19 (fun _ => false) rfl (Q8 _ _) (Q5 _ _) fun K' hK => ?_ | refine Qq 19 (fun _ => false) rfl (Q8 _ _) (Q5 _ _) fun K' hK => ?_ | refine Qc ?_ | refine Qd ?_ | refine Qa ?_ | ((first | refine Qg ⟨_, rfl, fun hc => ?_, fun hc => ?_⟩ | refine QL (fun hc => ?_) (fun hc => ?_) | refine QM (fun hc => ?_) (fun hc => ?_)) <;> first | exact Bool.noConfusion hc | ((try simp only [znz] at hc); first | exact znf | skip)) | refine Qi ?_ | refine Qf ?_ | simp (maxSteps := 1000000) only [go_sem, Nat.reduceAdd, Nat.reduceMul, Nat.reduceEqDiff, Nat.reduceLeDiff, Nat.reduceLT, Nat.reduceSub, Int.reduceEq, Int.reduceBEq, Int.reduceLT, Int.reduceLE, Int.reduceAdd, Int.reduceToNat, reduceIte, reduceCtorEq, JN, JM, JL] | (refine hK _ ?_; clear hK; clear K') | refine And.intro ?_ ?_ | (apply XS; (focus exact rfl); (focus first | exact (Ql _ _ _ zsd zsd zsd zsd) | exact (QJ _ _ zsd zsd) | exact (Qh _ _ _ zsd zsd) | exact (QB _ _ zsd zsd) | exact (Qm _ _ _ zsd zsd zsd zsd) | exact (QC _ _ _ zsd zsd zsd zsd)); (focus exact rfl); (focus exact rfl)) | (apply Wb; (focus exact rfl); (focus first | exact rfl | decide); (focus first | exact rfl | decide); (focus first | exact (Ql _ _ _ zsd zsd zsd zsd) | exact (QJ _ _ zsd zsd) | exact (Qh _ _ _ zsd zsd) | exact (QB _ _ zsd zsd) | exact (Qm _ _ _ zsd zsd zsd zsd) | exact (QC _ _ _ zsd zsd zsd zsd)); (focus exact rfl); (focus exact rfl); (focus first | exact rfl | decide)) | exact zlo | omega | exact zms)
    refine Yj (ι := List QK × Nat × Nat) (fun q => ajj q.1 ∧ q.1.length ≤ q.2.2 ∧ q.2.1 ≤ l.length ∧ q.2.2 ≤ 5) (fun q => af5 l q.1 q.2.1 q.2.2) (fun q => 6 - q.2.2) ([], k, 0) ⟨⟨by simp, by simp⟩, by simp, hk, by simp⟩ (Q0 [(1, 1001), (2, 3001)])
      (V2 [(1, 1001), (2, 3001)] (by simp only [go_sem, Nat.reduceAdd, Nat.reduceMul, Nat.reduceEqDiff, Nat.reduceLT, Int.reduceToNat, reduceIte, reduceCtorEq, and_true, true_and, implies_true, Option.some.injEq, exists_eq_left', Qk, Qo]; (repeat' (first | rfl | refine And.intro ?_ ?_ | omega | exact fun h => h | exact Exists.intro _ rfl))) (by simp only [go_sem, Nat.reduceAdd, Nat.reduceMul, Nat.reduceEqDiff, Nat.reduceLT, Int.reduceToNat, reduceIte, reduceCtorEq, and_true, true_and, implies_true, Option.some.injEq, exists_eq_left', Qk, Qo]; (repeat' (first | rfl | refine And.intro ?_ ?_ | omega | exact fun h => h | exact Exists.intro _ rfl)); all_goals first | exact trivial | (refine UA _ _ ?_; simp only [V.closed])) (by simp [Us]) (by omega) (by simp [Us]) (fun a b _ _ => by simp only [Q0]; (repeat' split) <;> omega) (by simp; omega) (by omega)) fun q hq K2 hK2 => ?_
    obtain ⟨ps, k1, i⟩ := q
    obtain ⟨hok, hlen, hk1, hi5⟩ := hq
    dsimp only at hok hlen hk1 hi5
    by_cases hi : i = 5
    · subst hi
      repeat' (first | refine Qb fun K' hK => ?_ | refine Qe fun K' hK => ?_ | refine Qp 9 (fun y => !decide (y = 0)) rfl (Ja _) (Q7 _) fun K' hK => ?_ | refine Qq 9 (fun y => !decide (y = 0)) rfl (Ja _) (Q7 _) fun K' hK => ?_ | refine Qp 16 (fun y => !decide (y = 0) && !decide (y = 3) && !decide (y = 4)) rfl (Q9 _ _) (Q6 _ _) fun K' hK => ?_ | refine Qq 16 (fun y => !decide (y = 0) && !decide (y = 3) && !decide (y = 4)) rfl (Q9 _ _) (Q6 _ _) fun K' hK => ?_ | refine Qp 19 (fun _ => false) rfl (Q8 _ _) (Q5 _ _) fun K' hK => ?_ | refine Qq 19 (fun _ => false) rfl (Q8 _ _) (Q5 _ _) fun K' hK => ?_ | refine Qc ?_ | refine Qd ?_ | refine Qa ?_ | ((first | refine Qg ⟨_, rfl, fun hc => ?_, fun hc => ?_⟩ | refine QL (fun hc => ?_) (fun hc => ?_) | refine QM (fun hc => ?_) (fun hc => ?_)) <;> first | exact Bool.noConfusion hc | ((try simp only [znz] at hc); first | exact znf | skip)) | refine Qi ?_ | refine Qf ?_ | simp (maxSteps := 1000000) only [go_sem, Nat.reduceAdd, Nat.reduceMul, Nat.reduceEqDiff, Nat.reduceLeDiff, Nat.reduceLT, Nat.reduceSub, Int.reduceEq, Int.reduceBEq, Int.reduceLT, Int.reduceLE, Int.reduceAdd, Int.reduceToNat, reduceIte, reduceCtorEq, af5, UL, Wn, JN, JM, JL] | (refine hK _ ?_; clear hK; clear K') | refine And.intro ?_ ?_ | (apply XS; (focus exact rfl); (focus first | exact (Ql _ _ _ zsd zsd zsd zsd) | exact (QJ _ _ zsd zsd) | exact (Qh _ _ _ zsd zsd) | exact (QB _ _ zsd zsd) | exact (Qm _ _ _ zsd zsd zsd zsd) | exact (QC _ _ _ zsd zsd zsd zsd)); (focus exact rfl); (focus exact rfl)) | (apply Wb; (focus exact rfl); (focus first | exact rfl | decide); (focus first | exact rfl | decide); (focus first | exact (Ql _ _ _ zsd zsd zsd zsd) | exact (QJ _ _ zsd zsd) | exact (Qh _ _ _ zsd zsd) | exact (QB _ _ zsd zsd) | exact (Qm _ _ _ zsd zsd zsd zsd) | exact (QC _ _ _ zsd zsd zsd zsd)); (focus exact rfl); (focus exact rfl); (focus first | exact rfl | decide)) | exact zlo | omega | exact zms)
      refine hK' _ (ps, k1) (Q0 []) ⟨hok, hk1⟩ (V2 [] (by simp only [go_sem, Nat.reduceAdd, Nat.reduceMul, Nat.reduceEqDiff, Nat.reduceLT, Int.reduceToNat, reduceIte, reduceCtorEq, and_true, true_and, implies_true, Option.some.injEq, exists_eq_left', Qk, Qo]; (repeat' (first | rfl | refine And.intro ?_ ?_ | omega | exact fun h => h | exact Exists.intro _ rfl))) (fun p hp => ?_) (w7 fun i _ => by simp only [Q0, St.keep, YS]) (by omega) (by rw [qj]; show 100 + ps.length ≤ 200; omega) (fun a b _ _ h => h) (by simp) (by omega))
      simp only [List.mem_cons, List.not_mem_nil, or_false] at hp
      rcases hp with rfl | rfl
      · exact ⟨_, rfl, qV⟩
      · exact ⟨_, rfl, abq (fun _ _ => rfl) (by omega)⟩
    · have e1 : decide ((i : Int) < 5) = true := decide_eq_true (by omega)
      have n1 := Ql l k1 4 hl hk1 (by omega) (by omega)
      have hk2 := XW (l := l) (k := k1) (n := 4) hk1
      generalize J2 l k1 4 = w at *
      obtain ⟨x, k2⟩ := w
      simp only [JJ] at n1 hk2 ⊢
      cases hx : (x == 4 - 1)
      · obtain ⟨nm, hnm, hnl⟩ := ac0 (show i < 5 by omega)
        have hnv : ah6[i]? = some (V.str nm) := by show (af0.map V.str)[i]? = _; rw [List.getElem?_map, hnm]; rfl
        have n2 := QJ l k2 hl hk2
        have hk3 := ahs (l := l) hk2
        have hv4 := (wP (ahr l k2)).2.1
        generalize aeW l k2 = u at *
        obtain ⟨ver, k3⟩ := u
        have n3 := Qh l k3 3 hl hk3
        have hk4 := XW (l := l) (k := k3) (n := 3) hk3
        have hr3 := Y0 (l := l) (k := k3) (n := 3) (by omega) (by omega)
        generalize J2 l k3 3 = w at *
        obtain ⟨c0, k4⟩ := w
        simp only [JJ] at n2 n3 hk3 hk4 hv4 hr3 ⊢
        obtain ⟨c0, rfl⟩ : ∃ j : Nat, c0 = (j : Int) := ⟨c0.toNat, by omega⟩
        repeat' (first | refine Qb fun K' hK => ?_ | refine Qe fun K' hK => ?_ | refine Qp 9 (fun y => !decide (y = 0)) rfl (Ja _) (Q7 _) fun K' hK => ?_ | refine Qq 9 (fun y => !decide (y = 0)) rfl (Ja _) (Q7 _) fun K' hK => ?_ | refine Qp 16 (fun y => !decide (y = 0) && !decide (y = 3) && !decide (y = 4)) rfl (Q9 _ _) (Q6 _ _) fun K' hK => ?_ | refine Qq 16 (fun y => !decide (y = 0) && !decide (y = 3) && !decide (y = 4)) rfl (Q9 _ _) (Q6 _ _) fun K' hK => ?_ | refine Qp 19 (fun _ => false) rfl (Q8 _ _) (Q5 _ _) fun K' hK => ?_ | refine Qq 19 (fun _ => false) rfl (Q8 _ _) (Q5 _ _) fun K' hK => ?_ | refine Qc ?_ | refine Qd ?_ | refine Qa ?_ | ((first | refine Qg ⟨_, rfl, fun hc => ?_, fun hc => ?_⟩ | refine QL (fun hc => ?_) (fun hc => ?_) | refine QM (fun hc => ?_) (fun hc => ?_)) <;> first | exact Bool.noConfusion hc | ((try simp only [znz] at hc); first | exact znf | skip)) | refine Qi ?_ | refine Qf ?_ | simp (maxSteps := 1000000) only [go_sem, Nat.reduceAdd, Nat.reduceMul, Nat.reduceEqDiff, Nat.reduceLeDiff, Nat.reduceLT, Nat.reduceSub, Int.reduceEq, Int.reduceBEq, Int.reduceLT, Int.reduceLE, Int.reduceAdd, Int.reduceToNat, reduceIte, reduceCtorEq, af5, UL, Wn, e1, hx, hnv, JJ, JN, JM, JL] | (refine hK _ ?_; clear hK; clear K') | refine And.intro ?_ ?_ | (apply XS; (focus exact rfl); (focus first | exact n1 | exact n2 | exact n3 | exact (Ql _ _ _ zsd zsd zsd zsd) | exact (QJ _ _ zsd zsd) | exact (Qh _ _ _ zsd zsd) | exact (QB _ _ zsd zsd) | exact (Qm _ _ _ zsd zsd zsd zsd) | exact (QC _ _ _ zsd zsd zsd zsd)); (focus exact rfl); (focus exact rfl)) | (apply Wb; (focus exact rfl); (focus first | exact rfl | decide); (focus first | exact rfl | decide); (focus first | exact n1 | exact n2 | exact n3 | exact (Ql _ _ _ zsd zsd zsd zsd) | exact (QJ _ _ zsd zsd) | exact (Qh _ _ _ zsd zsd) | exact (QB _ _ zsd zsd) | exact (Qm _ _ _ zsd zsd zsd zsd) | exact (QC _ _ _ zsd zsd zsd zsd)); (focus exact rfl); (focus exact rfl); (focus first | exact rfl | decide)) | exact zlo | omega | exact zms)
        refine aeP 13200 2 3 rfl rfl ?_
        refine Yj (ι := List Yk × Nat × Nat) (fun q => (∀ x ∈ q.1, ah4 x) ∧ q.1.length + q.2.2 ≤ 3 ∧ q.2.1 ≤ l.length) (fun q => ah3 l ps nm ver q.1 q.2.1 i q.2.2) (fun q => q.2.2) ([], k4, c0) ⟨by simp, by simp; omega, hk4⟩ (Q0 [(3, 13200), (4, 18200)])
          (V2 [(3, 13200), (4, 18200)] (fun p hp => ?_) (fun p hp => ?_) (w7 fun j hj => ?_) (by omega) (by rw [qj]; omega) (fun a b _ _ => by simp only [Q0]; (repeat' split) <;> omega) (by simp; omega) (by omega)) fun q hq K3 hK3 => ?_
        · simp only [List.mem_cons, List.not_mem_nil, or_false] at hp
          rcases hp with rfl | rfl | rfl | rfl | rfl | rfl
          · exact ⟨rfl, by show 0 < 200; omega⟩
          · exact ⟨rfl, by show 1 < 200; omega⟩
          · exact ⟨rfl, by show 2 < 200; omega⟩
          · exact ⟨rfl, trivial⟩
          · exact ⟨rfl, by show 3 < 200; omega⟩
          · exact ⟨rfl, trivial⟩
        · simp only [List.mem_cons, List.not_mem_nil, or_false] at hp
          rcases hp with rfl | rfl | rfl | rfl | rfl
          · exact ⟨_, rfl, qV⟩
          · exact ⟨_, rfl, id, rfl, rfl⟩
          · exact ⟨_, rfl, abq (fun j hj => by simp only [Q0]; rw [if_neg (by omega), if_neg (by omega)]) (by omega)⟩
          · exact ⟨_, rfl, id, rfl, trivial, UA _ _ (by simp only [V.closed]), (by show 4 < 200; omega), trivial⟩
          · exact ⟨_, rfl, id, rfl, rfl⟩
        · have e5 : Q0 [(3, 13200), (4, 18200)] (100 + j) = 100 + j := by simp only [Q0]; rw [if_neg (by omega), if_neg (by omega)]
          rw [e5]
          iterate 9 refine (Jo _ _ (by first | omega | (show _ ≠ 18200; omega))).trans ?_
          exact YS
        obtain ⟨ns, k5, c⟩ := q
        obtain ⟨hns, hnc, hk5⟩ := hq
        dsimp only at hns hnc hk5
        rcases c with _ | c
        · repeat' (first | refine Qb fun K' hK => ?_ | refine Qe fun K' hK => ?_ | refine Qp 9 (fun y => !decide (y = 0)) rfl (Ja _) (Q7 _) fun K' hK => ?_ | refine Qq 9 (fun y => !decide (y = 0)) rfl (Ja _) (Q7 _) fun K' hK => ?_ | refine Qp 16 (fun y => !decide (y = 0) && !decide (y = 3) && !decide (y = 4)) rfl (Q9 _ _) (Q6 _ _) fun K' hK => ?_ | refine Qq 16 (fun y => !decide (y = 0) && !decide (y = 3) && !decide (y = 4)) rfl (Q9 _ _) (Q6 _ _) fun K' hK => ?_ | refine Qp 19 (fun _ => false) rfl (Q8 _ _) (Q5 _ _) fun K' hK => ?_ | refine Qq 19 (fun _ => false) rfl (Q8 _ _) (Q5 _ _) fun K' hK => ?_ | refine Qc ?_ | refine Qd ?_ | refine Qa ?_ | ((first | refine Qg ⟨_, rfl, fun hc => ?_, fun hc => ?_⟩ | refine QL (fun hc => ?_) (fun hc => ?_) | refine QM (fun hc => ?_) (fun hc => ?_)) <;> first | exact Bool.noConfusion hc | ((try simp only [znz] at hc); first | exact znf | skip)) | refine Qi ?_ | refine Qf ?_ | simp (maxSteps := 1000000) only [go_sem, Nat.reduceAdd, Nat.reduceMul, Nat.reduceEqDiff, Nat.reduceLeDiff, Nat.reduceLT, Nat.reduceSub, Int.reduceEq, Int.reduceBEq, Int.reduceLT, Int.reduceLE, Int.reduceAdd, Int.reduceToNat, reduceIte, reduceCtorEq, ah3, UL, Wn, JN, JM, JL] | (refine hK _ ?_; clear hK; clear K') | refine And.intro ?_ ?_ | (apply XS; (focus exact rfl); (focus first | exact (Ql _ _ _ zsd zsd zsd zsd) | exact (QJ _ _ zsd zsd) | exact (Qh _ _ _ zsd zsd) | exact (QB _ _ zsd zsd) | exact (Qm _ _ _ zsd zsd zsd zsd) | exact (QC _ _ _ zsd zsd zsd zsd)); (focus exact rfl); (focus exact rfl)) | (apply Wb; (focus exact rfl); (focus first | exact rfl | decide); (focus first | exact rfl | decide); (focus first | exact (Ql _ _ _ zsd zsd zsd zsd) | exact (QJ _ _ zsd zsd) | exact (Qh _ _ _ zsd zsd) | exact (QB _ _ zsd zsd) | exact (Qm _ _ _ zsd zsd zsd zsd) | exact (QC _ _ _ zsd zsd zsd zsd)); (focus exact rfl); (focus exact rfl); (focus first | exact rfl | decide)) | exact zlo | omega | exact zms)
          have ew : IntKind.i64.wrap ((i : Int) + 1) = ((i + 1 : Nat) : Int) := by rw [Wl (by omega) (by omega)]; omega
          rw [ew]
          have hp : ak2 ⟨nm, ver, ns⟩ := ⟨hnl, (by show ver.length ≤ 5; omega), (by show ns.length ≤ 3; omega), hns⟩
          have tz : ∀ a, a ≠ 2 → a ≠ 100 + ps.length → a ≠ 4 → Q0 [(2, 5200), (100 + ps.length, 4), (4, 9999)] a = a := fun a h1 h2 h3 => by
            simp only [Q0]; rw [if_neg (by omega), if_neg (by omega), if_neg (by omega)]
          have tn : Q0 [(2, 5200), (100 + ps.length, 4), (4, 9999)] (100 + ps.length) = 4 := by
            simp only [Q0]; rw [if_neg (by omega)]; simp
          refine hK2 _ (ps ++ [⟨nm, ver, ns⟩], k5, i + 1) (Q0 [(2, 5200), (100 + ps.length, 4), (4, 9999)]) ⟨⟨(by simp; omega), fun p hpm => (by
              rcases List.mem_append.1 hpm with h1 | h1
              · exact hok.2 p h1
              · rw [List.mem_singleton.1 h1]; exact hp)⟩, (by simp; omega), hk5, (by show i + 1 ≤ 5; omega)⟩ (by show 6 - (i + 1) < 6 - i; omega)
            (V2 [(2, 5200), (100 + ps.length, 4), (4, 9999)] (fun p hpm => ?_) (fun p hpm => ?_) (w7 fun j hj => ?_) (by omega) (by rw [qj]; simp; omega) (fun a b _ _ => by simp only [Q0]; (repeat' split) <;> omega) (by simp; omega) (by omega))
          · simp only [List.mem_cons, List.not_mem_nil, or_false] at hpm
            rcases hpm with rfl | rfl | rfl | rfl
            · refine ⟨?_, ?_⟩
              · show V.ptr 0 0 = V.ptr (Q0 _ 0) 0; rw [tz 0 (by omega) (by omega) (by omega)]
              · show 0 < 200; omega
            · refine ⟨?_, ?_⟩
              · show V.hd 1 0 5 = V.hd (Q0 _ 1) 0 5; rw [tz 1 (by omega) (by omega) (by omega)]
              · show 1 < 200; omega
            · refine ⟨?_, ?_⟩
              · show V.hd 5200 0 (ps.length + 1) = V.hd 5200 0 (ps ++ [_]).length; simp
              · show 2 < 200; omega
            · exact ⟨rfl, trivial⟩
          · simp only [List.mem_cons, List.not_mem_nil, or_false] at hpm
            rcases hpm with rfl | rfl | rfl
            · refine ⟨_, ?_, qV (l := l) (k := k5)⟩
              simp only [tz 0 (by omega) (by omega) (by omega)]; rfl
            · refine ⟨.buf true 1 ah6, ?_, id, rfl, rfl⟩
              simp only [tz 1 (by omega) (by omega) (by omega)]; rfl
            · refine ⟨_, rfl, id, rfl, ?_, ae9 _ _ _ (by simp; omega)⟩
              rw [afS, List.take_of_length_le (by rw [Vc]; omega)]
              rw [show ∀ (τ : Nat → Nat) (xs ys : List V), KF τ (xs ++ ys) = KF τ xs ++ KF τ ys from fun τ xs ys => by induction xs with | nil => rfl | cons x xs ih => simp only [List.cons_append, KF, ih]]
              rw [adq ps 100 (fun j hj => tz (100 + j) (by omega) (by omega) (by omega))]
              simp only [KF, QK.own, V.ren, tn]
          · by_cases hj2 : j = ps.length
            · subst hj2
              rw [tn]
              have e6 : (Us (ps ++ [⟨nm, ver, ns⟩]))[ps.length]? = some (.buf true 3 (ns.map Yk.v)) := by simp [Us]
              rw [e6]; rfl
            · have hj3 : j < ps.length := by simp at hj; omega
              rw [tz (100 + j) (by omega) (by omega) (by omega)]
              iterate 3 refine (Jo _ _ (by omega)).trans ?_
              refine YS.trans ?_
              simp only [Us, List.map_append]
              rw [List.getElem?_append_left (by simpa using hj3)]
        · have e2 : decide (((c + 1 : Nat) : Int) > 0) = true := decide_eq_true (by omega)
          have ew : IntKind.i64.wrap (((c + 1 : Nat) : Int) - 1) = (c : Int) := by rw [Wl (by omega) (by omega)]; omega
          have n4 := Qh l k5 5 hl hk5
          have hk6 := XW (l := l) (k := k5) (n := 5) hk5
          have hr6 := Y0 (l := l) (k := k5) (n := 5) (by omega) (by omega)
          generalize J2 l k5 5 = w2 at *
          obtain ⟨x6, k6⟩ := w2
          obtain ⟨x6, rfl⟩ : ∃ j : Nat, x6 = (j : Int) := ⟨x6.toNat, by simp only at hr6; omega⟩
          simp only at hk6 hr6
          obtain ⟨mn, hmn, hml⟩ := ac0 (show x6 < 5 by omega)
          have hmv : ah6[x6]? = some (V.str mn) := by show (af0.map V.str)[x6]? = _; rw [List.getElem?_map, hmn]; rfl
          have n5 := QB l k6 hl hk6
          have hk7 := vk (l := l) (vk (l := l) hk6)
          have hb1 := vj l k6
          have hb2 := vj l (KD l k6).2
          simp only [adf, wZ] at n5
          generalize (KD l (KD l k6).2) = w3 at *
          generalize (KD l k6) = w4 at *
          obtain ⟨up, k7⟩ := w3
          obtain ⟨lo, k8⟩ := w4
          simp only [JJ] at n4 n5 hk7 hb1 hb2 ⊢
          have hbk : List.take ns.length (ns.map Yk.v) ++ [V.agg [V.str mn, V.sl 1 (lo.map V.int), V.sl 1 (up.map V.int)]] = (ns ++ [(⟨mn, lo, up⟩ : Yk)]).map Yk.v := by
            rw [List.take_of_length_le (by simp), List.map_append]; rfl
          repeat' (first | refine Qb fun K' hK => ?_ | refine Qe fun K' hK => ?_ | refine Qp 9 (fun y => !decide (y = 0)) rfl (Ja _) (Q7 _) fun K' hK => ?_ | refine Qq 9 (fun y => !decide (y = 0)) rfl (Ja _) (Q7 _) fun K' hK => ?_ | refine Qp 16 (fun y => !decide (y = 0) && !decide (y = 3) && !decide (y = 4)) rfl (Q9 _ _) (Q6 _ _) fun K' hK => ?_ | refine Qq 16 (fun y => !decide (y = 0) && !decide (y = 3) && !decide (y = 4)) rfl (Q9 _ _) (Q6 _ _) fun K' hK => ?_ | refine Qp 19 (fun _ => false) rfl (Q8 _ _) (Q5 _ _) fun K' hK => ?_ | refine Qq 19 (fun _ => false) rfl (Q8 _ _) (Q5 _ _) fun K' hK => ?_ | refine Qc ?_ | refine Qd ?_ | refine Qa ?_ | ((first | refine Qg ⟨_, rfl, fun hc => ?_, fun hc => ?_⟩ | refine QL (fun hc => ?_) (fun hc => ?_) | refine QM (fun hc => ?_) (fun hc => ?_)) <;> first | exact Bool.noConfusion hc | ((try simp only [znz] at hc); first | exact znf | skip)) | refine Qi ?_ | refine Qf ?_ | simp (maxSteps := 1000000) only [go_sem, Nat.reduceAdd, Nat.reduceMul, Nat.reduceEqDiff, Nat.reduceLeDiff, Nat.reduceLT, Nat.reduceSub, Int.reduceEq, Int.reduceBEq, Int.reduceLT, Int.reduceLE, Int.reduceAdd, Int.reduceToNat, reduceIte, reduceCtorEq, ah3, UL, Wn, e2, ew, hmv, JJ, JN, JM, JL] | (refine hK _ ?_; clear hK; clear K') | refine And.intro ?_ ?_ | (apply XS; (focus exact rfl); (focus first | exact n4 | exact n5 | exact (Ql _ _ _ zsd zsd zsd zsd) | exact (QJ _ _ zsd zsd) | exact (Qh _ _ _ zsd zsd) | exact (QB _ _ zsd zsd) | exact (Qm _ _ _ zsd zsd zsd zsd) | exact (QC _ _ _ zsd zsd zsd zsd)); (focus exact rfl); (focus exact rfl)) | (apply Wb; (focus exact rfl); (focus first | exact rfl | decide); (focus first | exact rfl | decide); (focus first | exact n4 | exact n5 | exact (Ql _ _ _ zsd zsd zsd zsd) | exact (QJ _ _ zsd zsd) | exact (Qh _ _ _ zsd zsd) | exact (QB _ _ zsd zsd) | exact (Qm _ _ _ zsd zsd zsd zsd) | exact (QC _ _ _ zsd zsd zsd zsd)); (focus exact rfl); (focus exact rfl); (focus first | exact rfl | decide)) | exact zlo | omega | exact zms)
          all_goals
            refine hK3 _ (ns ++ [⟨mn, lo, up⟩], k7, c) (Q0 [(4, 15200)]) ⟨fun x hxm => (by
                rcases List.mem_append.1 hxm with h1 | h1
                · exact hns x h1
                · rw [List.mem_singleton.1 h1]; exact ⟨hml, hb1, hb2⟩), (by simp; omega), hk7⟩ (by show c < c + 1; omega)
              (V2 [(4, 15200)] (fun p hp => ?_) (fun p hp => ?_) (w7 fun j hj => ?_) (by omega) (by rw [qj]; omega) (fun a b _ _ => by simp only [Q0]; (repeat' split) <;> omega) (by simp; omega) (by omega))
            · simp only [List.mem_cons, List.not_mem_nil, or_false] at hp
              rcases hp with rfl | rfl | rfl | rfl | rfl | rfl
              · exact ⟨rfl, by show 0 < 200; omega⟩
              · exact ⟨rfl, by show 1 < 200; omega⟩
              · exact ⟨rfl, by show 2 < 200; omega⟩
              · exact ⟨rfl, trivial⟩
              · exact ⟨rfl, by show 3 < 200; omega⟩
              · exact ⟨rfl, trivial⟩
            · simp only [List.mem_cons, List.not_mem_nil, or_false] at hp
              rcases hp with rfl | rfl | rfl | rfl | rfl
              · exact ⟨_, rfl, qV⟩
              · exact ⟨_, rfl, id, rfl, rfl⟩
              · exact ⟨_, rfl, abq (fun j hj => by simp only [Q0]; rw [if_neg (by omega)]) (by omega)⟩
              · exact ⟨_, rfl, id, (by show [_, _, V.hd 15200 0 (ns.length + 1)] = [_, _, V.hd 15200 0 (ns ++ [_]).length]; rw [List.length_append]; rfl), trivial, UA _ _ (by simp only [V.closed]), (by show 4 < 200; omega), trivial⟩
              · exact ⟨_, rfl, id, rfl, hbk, wa _⟩
            · have e5 : Q0 [(4, 15200)] (100 + j) = 100 + j := by simp only [Q0]; rw [if_neg (by omega)]
              rw [e5]
              iterate 6 refine (Jo _ _ (by omega)).trans ?_
              exact YS
      · repeat' (first | refine Qb fun K' hK => ?_ | refine Qe fun K' hK => ?_ | refine Qp 9 (fun y => !decide (y = 0)) rfl (Ja _) (Q7 _) fun K' hK => ?_ | refine Qq 9 (fun y => !decide (y = 0)) rfl (Ja _) (Q7 _) fun K' hK => ?_ | refine Qp 16 (fun y => !decide (y = 0) && !decide (y = 3) && !decide (y = 4)) rfl (Q9 _ _) (Q6 _ _) fun K' hK => ?_ | refine Qq 16 (fun y => !decide (y = 0) && !decide (y = 3) && !decide (y = 4)) rfl (Q9 _ _) (Q6 _ _) fun K' hK => ?_ | refine Qp 19 (fun _ => false) rfl (Q8 _ _) (Q5 _ _) fun K' hK => ?_ | refine Qq 19 (fun _ => false) rfl (Q8 _ _) (Q5 _ _) fun K' hK => ?_ | refine Qc ?_ | refine Qd ?_ | refine Qa ?_ | ((first | refine Qg ⟨_, rfl, fun hc => ?_, fun hc => ?_⟩ | refine QL (fun hc => ?_) (fun hc => ?_) | refine QM (fun hc => ?_) (fun hc => ?_)) <;> first | exact Bool.noConfusion hc | ((try simp only [znz] at hc); first | exact znf | skip)) | refine Qi ?_ | refine Qf ?_ | simp (maxSteps := 1000000) only [go_sem, Nat.reduceAdd, Nat.reduceMul, Nat.reduceEqDiff, Nat.reduceLeDiff, Nat.reduceLT, Nat.reduceSub, Int.reduceEq, Int.reduceBEq, Int.reduceLT, Int.reduceLE, Int.reduceAdd, Int.reduceToNat, reduceIte, reduceCtorEq, af5, UL, Wn, e1, hx, JJ, JN, JM, JL] | (refine hK _ ?_; clear hK; clear K') | refine And.intro ?_ ?_ | (apply XS; (focus exact rfl); (focus first | exact n1 | exact (Ql _ _ _ zsd zsd zsd zsd) | exact (QJ _ _ zsd zsd) | exact (Qh _ _ _ zsd zsd) | exact (QB _ _ zsd zsd) | exact (Qm _ _ _ zsd zsd zsd zsd) | exact (QC _ _ _ zsd zsd zsd zsd)); (focus exact rfl); (focus exact rfl)) | (apply Wb; (focus exact rfl); (focus first | exact rfl | decide); (focus first | exact rfl | decide); (focus first | exact n1 | exact (Ql _ _ _ zsd zsd zsd zsd) | exact (QJ _ _ zsd zsd) | exact (Qh _ _ _ zsd zsd) | exact (QB _ _ zsd zsd) | exact (Qm _ _ _ zsd zsd zsd zsd) | exact (QC _ _ _ zsd zsd zsd zsd)); (focus exact rfl); (focus exact rfl); (focus first | exact rfl | decide)) | exact zlo | omega | exact zms)
        have ew : IntKind.i64.wrap ((i : Int) + 1) = ((i + 1 : Nat) : Int) := by rw [Wl (by omega) (by omega)]; omega
        rw [ew]
        refine hK2 _ (ps, k2, i + 1) (Q0 []) ⟨hok, (by show ps.length ≤ i + 1; omega), hk2, (by show i + 1 ≤ 5; omega)⟩ (by show 6 - (i + 1) < 6 - i; omega) (V2 [] (by simp only [go_sem, Nat.reduceAdd, Nat.reduceMul, Nat.reduceEqDiff, Nat.reduceLT, Int.reduceToNat, reduceIte, reduceCtorEq, and_true, true_and, implies_true, Option.some.injEq, exists_eq_left', Qk, Qo]; (repeat' (first | rfl | refine And.intro ?_ ?_ | omega | exact fun h => h | exact Exists.intro _ rfl))) (fun p hp => ?_) (w7 fun j _ => by show upd (ahG _ _ _) 0 _ (100 + j) = _; unfold upd; rw [if_neg (by omega), YS]) (by omega) (by rw [qj]; show 100 + ps.length ≤ 200; omega) (fun a b _ _ h => h) (by simp) (by omega))
        simp only [List.mem_cons, List.not_mem_nil, or_false] at hp
        rcases hp with rfl | rfl | rfl
        · exact ⟨_, rfl, qV⟩
        · exact ⟨_, rfl, id, rfl, rfl⟩
        · exact ⟨_, rfl, abq (fun _ _ => rfl) (by omega)⟩
  · obtain ⟨ps, k1⟩ := q
    obtain ⟨hokS, hk1⟩ := hq
    dsimp only at hokS hk1
    have hok := hokS.ok
    have fin0 : ∀ (k' n : Nat), k' ≤ l.length → acC 1 r_law12_list (aid l) { t := qR [(2, V.hd 2 0 ps.length)], o := ahG [(0, Ob.box true (JJ l k')), (2, Ob.obuf true 3 (w5 100 ps))] 100 (Us ps), n := n } := fun k' n hk' => by
      unfold r_law12_list
      refine ab6 (k := k') (X := 2) (xs := w5 100 ps) (fun i => 100 + i) hok hk' rfl rfl rfl (Vc _ _) (fun i p hp => ⟨.buf true 3 (p.needs.map Yk.v), YS.trans (by rw [Us, List.getElem?_map, hp]; rfl), fun h => h, rfl, ?_⟩) (fun i p hp => ⟨.sl 1 (p.ver.map V.int), by rw [j8, hp]; rfl, by simp [conv]⟩) (by omega) (fun i _ => ⟨by omega, by omega⟩) (fun i j _ _ h => by omega)
      rfl
    by_cases h0 : ps.length = 0
    · repeat' (first | refine Qb fun K' hK => ?_ | refine Qe fun K' hK => ?_ | refine Qp 9 (fun y => !decide (y = 0)) rfl (Ja _) (Q7 _) fun K' hK => ?_ | refine Qq 9 (fun y => !decide (y = 0)) rfl (Ja _) (Q7 _) fun K' hK => ?_ | refine Qp 16 (fun y => !decide (y = 0) && !decide (y = 3) && !decide (y = 4)) rfl (Q9 _ _) (Q6 _ _) fun K' hK => ?_ | refine Qq 16 (fun y => !decide (y = 0) && !decide (y = 3) && !decide (y = 4)) rfl (Q9 _ _) (Q6 _ _) fun K' hK => ?_ | refine Qp 19 (fun _ => false) rfl (Q8 _ _) (Q5 _ _) fun K' hK => ?_ | refine Qq 19 (fun _ => false) rfl (Q8 _ _) (Q5 _ _) fun K' hK => ?_ | refine Qc ?_ | refine Qd ?_ | refine Qa ?_ | ((first | refine Qg ⟨_, rfl, fun hc => ?_, fun hc => ?_⟩ | refine QL (fun hc => ?_) (fun hc => ?_) | refine QM (fun hc => ?_) (fun hc => ?_)) <;> first | exact Bool.noConfusion hc | ((try simp only [znz] at hc); first | exact znf | skip)) | refine Qi ?_ | refine Qf ?_ | simp (maxSteps := 1000000) only [go_sem, Nat.reduceAdd, Nat.reduceMul, Nat.reduceEqDiff, Nat.reduceLeDiff, Nat.reduceLT, Nat.reduceSub, Int.reduceEq, Int.reduceBEq, Int.reduceLT, Int.reduceLE, Int.reduceAdd, Int.reduceToNat, reduceIte, reduceCtorEq, xS, UL, Wn, h0, JN, JM, JL] | (refine hK _ ?_; clear hK; clear K') | refine And.intro ?_ ?_ | (apply XS; (focus exact rfl); (focus first | exact (Ql _ _ _ zsd zsd zsd zsd) | exact (QJ _ _ zsd zsd) | exact (Qh _ _ _ zsd zsd) | exact (QB _ _ zsd zsd) | exact (Qm _ _ _ zsd zsd zsd zsd) | exact (QC _ _ _ zsd zsd zsd zsd)); (focus exact rfl); (focus exact rfl)) | (apply Wb; (focus exact rfl); (focus first | exact rfl | decide); (focus first | exact rfl | decide); (focus first | exact (Ql _ _ _ zsd zsd zsd zsd) | exact (QJ _ _ zsd zsd) | exact (Qh _ _ _ zsd zsd) | exact (QB _ _ zsd zsd) | exact (Qm _ _ _ zsd zsd zsd zsd) | exact (QC _ _ _ zsd zsd zsd zsd)); (focus exact rfl); (focus exact rfl); (focus first | exact rfl | decide)) | exact zlo | omega | exact zms)
      have := fin0 k1 5200 hk1
      rw [h0] at this
      exact ⟨_, Le.refl _, this⟩
    · have h1 : ¬ ((ps.length : Int) = 0) := by omega
      have hps := hok.1
      have n1 := Qh l k1 ps.length hl hk1
      have hk2 := XW (l := l) (k := k1) (n := ps.length) hk1
      have hr2 := Y0 (l := l) (k := k1) (n := ps.length) (by omega) (by omega)
      generalize J2 l k1 ps.length = w at *
      obtain ⟨j, k2⟩ := w
      obtain ⟨j, rfl⟩ : ∃ i : Nat, j = (i : Int) := ⟨j.toNat, by simp only at hr2; omega⟩
      simp only at hk2 hr2
      have n2 := Qh l k2 16 hl hk2
      have hk3 := XW (l := l) (k := k2) (n := 16) hk2
      have hr3 := Y0 (l := l) (k := k2) (n := 16) (by omega) (by omega)
      generalize J2 l k2 16 = w at *
      obtain ⟨x, k3⟩ := w
      simp only at hk3 hr3
      simp only [JJ] at n1 n2 ⊢
      obtain ⟨p, hp⟩ : ∃ p, ps[j]? = some p := ⟨ps[j]'(by omega), List.getElem?_eq_getElem (by omega)⟩
      have hpS := hokS.2 p (List.mem_of_getElem? hp)
      have hpo := hok.2 p (List.mem_of_getElem? hp)
      have hp3 : p.needs.length ≤ 3 := hpS.2.2.1
      have he : (w5 100 ps)[j]? = some (.agg [V.str p.name, .sl 1 (p.ver.map V.int), .hd (100 + j) 0 p.needs.length]) := by rw [j8, hp]; rfl
      have hset : ∀ q : QK, afR q → xR (ps.set j q) := fun q hq => ⟨by simp; omega, fun y hy => by
        rcases List.mem_or_eq_of_mem_set hy with h2 | h2
        · exact hok.2 y h2
        · rw [h2]; exact hq⟩
      by_cases x0 : x = 0
      · subst x0
        have n3 := Qm l k3 [[], [97, 32, 98], [97, 112, 112]] hl hk3 (by simp) (by simp)
        have hk4 := adi (l := l) (k := k3) (xs := [[], [97, 32, 98], [97, 112, 112]]) hk3
        have hwm := aby (l := l) (k := k3) (xs := [[], [97, 32, 98], [97, 112, 112]]) (by simp) (by simp)
        generalize hw : aa1 l k3 [[], [97, 32, 98], [97, 112, 112]] = u at *
        obtain ⟨wd, k4⟩ := u
        simp only [JJ, List.map_cons, List.map_nil] at n3 hk4 ⊢
        repeat' (first | refine Qb fun K' hK => ?_ | refine Qe fun K' hK => ?_ | refine Qp 9 (fun y => !decide (y = 0)) rfl (Ja _) (Q7 _) fun K' hK => ?_ | refine Qq 9 (fun y => !decide (y = 0)) rfl (Ja _) (Q7 _) fun K' hK => ?_ | refine Qp 16 (fun y => !decide (y = 0) && !decide (y = 3) && !decide (y = 4)) rfl (Q9 _ _) (Q6 _ _) fun K' hK => ?_ | refine Qq 16 (fun y => !decide (y = 0) && !decide (y = 3) && !decide (y = 4)) rfl (Q9 _ _) (Q6 _ _) fun K' hK => ?_ | refine Qp 19 (fun _ => false) rfl (Q8 _ _) (Q5 _ _) fun K' hK => ?_ | refine Qq 19 (fun _ => false) rfl (Q8 _ _) (Q5 _ _) fun K' hK => ?_ | refine Qc ?_ | refine Qd ?_ | refine Qa ?_ | ((first | refine Qg ⟨_, rfl, fun hc => ?_, fun hc => ?_⟩ | refine QL (fun hc => ?_) (fun hc => ?_) | refine QM (fun hc => ?_) (fun hc => ?_)) <;> first | exact Bool.noConfusion hc | ((try simp only [znz] at hc); first | exact znf | skip)) | refine Qi ?_ | refine Qf ?_ | simp (maxSteps := 1000000) only [go_sem, Nat.reduceAdd, Nat.reduceMul, Nat.reduceEqDiff, Nat.reduceLeDiff, Nat.reduceLT, Nat.reduceSub, Int.reduceEq, Int.reduceBEq, Int.reduceLT, Int.reduceLE, Int.reduceAdd, Int.reduceToNat, reduceIte, reduceCtorEq, xS, UL, Wn, h1, he, JJ, JN, JM, JL] | (refine hK _ ?_; clear hK; clear K') | refine And.intro ?_ ?_ | (apply XS; (focus exact rfl); (focus first | exact n1 | exact n2 | exact n3 | exact (Ql _ _ _ zsd zsd zsd zsd) | exact (QJ _ _ zsd zsd) | exact (Qh _ _ _ zsd zsd) | exact (QB _ _ zsd zsd) | exact (Qm _ _ _ zsd zsd zsd zsd) | exact (QC _ _ _ zsd zsd zsd zsd)); (focus exact rfl); (focus exact rfl)) | (apply Wb; (focus exact rfl); (focus first | exact rfl | decide); (focus first | exact rfl | decide); (focus first | exact n1 | exact n2 | exact n3 | exact (Ql _ _ _ zsd zsd zsd zsd) | exact (QJ _ _ zsd zsd) | exact (Qh _ _ _ zsd zsd) | exact (QB _ _ zsd zsd) | exact (Qm _ _ _ zsd zsd zsd zsd) | exact (QC _ _ _ zsd zsd zsd zsd)); (focus exact rfl); (focus exact rfl); (focus first | exact rfl | decide)) | exact zlo | omega | exact zms)
        have hwl : wd.length ≤ 5 := by
          simp only at hwm
          rcases List.mem_cons.1 hwm with h2 | h2
          · rw [h2]; decide
          · rcases List.mem_cons.1 h2 with h2 | h2
            · rw [h2]; decide
            · rw [List.mem_singleton.1 h2]; decide
        refine ⟨_, Le.refl _, ?_⟩
        refine yo (z := .sl 1 (p.ver.map V.int)) (q := { p with name := wd }) (nj := 100 + j) hok ⟨hwl, hpo.2⟩ (by omega) hk4 rfl rfl rfl (fun br hbr => by simp [conv]) (.inl rfl) (fun i hi hij => ?_) (fun br hbr => ⟨.buf true 3 (p.needs.map Yk.v), ?_, id, rfl, rfl⟩)
        · iterate 2 refine (Jo _ _ (by omega)).trans ?_
          refine (ac6 (by simp; omega)).trans ?_
          iterate 3 refine (Jo _ _ (by omega)).trans ?_
          exact YS
        · iterate 2 refine (Jo _ _ (by omega)).trans ?_
          refine (ac6 (by simp; omega)).trans ?_
          iterate 3 refine (Jo _ _ (by omega)).trans ?_
          exact YS.trans (by rw [Us, List.getElem?_map, hp]; rfl)
      by_cases x1 : x = 1
      · subst x1
        have n3 := Qh l k3 4 hl hk3
        have hk4 := XW (l := l) (k := k3) (n := 4) hk3
        have hr4 := Y0 (l := l) (k := k3) (n := 4) (by omega) (by omega)
        generalize J2 l k3 4 = w at *
        obtain ⟨z, k4⟩ := w
        simp only [JJ] at n3 hk4 hr4 ⊢
        have hz : z = 0 ∨ z = 1 ∨ z = 2 ∨ z = 3 := by omega
        rcases hz with rfl | rfl | rfl | rfl
        · repeat' (first | refine Qb fun K' hK => ?_ | refine Qe fun K' hK => ?_ | refine Qp 9 (fun y => !decide (y = 0)) rfl (Ja _) (Q7 _) fun K' hK => ?_ | refine Qq 9 (fun y => !decide (y = 0)) rfl (Ja _) (Q7 _) fun K' hK => ?_ | refine Qp 16 (fun y => !decide (y = 0) && !decide (y = 3) && !decide (y = 4)) rfl (Q9 _ _) (Q6 _ _) fun K' hK => ?_ | refine Qq 16 (fun y => !decide (y = 0) && !decide (y = 3) && !decide (y = 4)) rfl (Q9 _ _) (Q6 _ _) fun K' hK => ?_ | refine Qp 19 (fun _ => false) rfl (Q8 _ _) (Q5 _ _) fun K' hK => ?_ | refine Qq 19 (fun _ => false) rfl (Q8 _ _) (Q5 _ _) fun K' hK => ?_ | refine Qc ?_ | refine Qd ?_ | refine Qa ?_ | ((first | refine Qg ⟨_, rfl, fun hc => ?_, fun hc => ?_⟩ | refine QL (fun hc => ?_) (fun hc => ?_) | refine QM (fun hc => ?_) (fun hc => ?_)) <;> first | exact Bool.noConfusion hc | ((try simp only [znz] at hc); first | exact znf | skip)) | refine Qi ?_ | refine Qf ?_ | simp (maxSteps := 1000000) only [go_sem, Nat.reduceAdd, Nat.reduceMul, Nat.reduceEqDiff, Nat.reduceLeDiff, Nat.reduceLT, Nat.reduceSub, Int.reduceEq, Int.reduceBEq, Int.reduceLT, Int.reduceLE, Int.reduceAdd, Int.reduceToNat, reduceIte, reduceCtorEq, xS, UL, Wn, h1, he, JJ, JN, JM, JL] | (refine hK _ ?_; clear hK; clear K') | refine And.intro ?_ ?_ | (apply XS; (focus exact rfl); (focus first | exact n1 | exact n2 | exact n3 | exact (Ql _ _ _ zsd zsd zsd zsd) | exact (QJ _ _ zsd zsd) | exact (Qh _ _ _ zsd zsd) | exact (QB _ _ zsd zsd) | exact (Qm _ _ _ zsd zsd zsd zsd) | exact (QC _ _ _ zsd zsd zsd zsd)); (focus exact rfl); (focus exact rfl)) | (apply Wb; (focus exact rfl); (focus first | exact rfl | decide); (focus first | exact rfl | decide); (focus first | exact n1 | exact n2 | exact n3 | exact (Ql _ _ _ zsd zsd zsd zsd) | exact (QJ _ _ zsd zsd) | exact (Qh _ _ _ zsd zsd) | exact (QB _ _ zsd zsd) | exact (Qm _ _ _ zsd zsd zsd zsd) | exact (QC _ _ _ zsd zsd zsd zsd)); (focus exact rfl); (focus exact rfl); (focus first | exact rfl | decide)) | exact zlo | omega | exact zms)
          all_goals
            refine ⟨_, Le.refl _, ?_⟩
            refine yo (q := { p with ver := [] }) (nj := 100 + j) hok ⟨hpo.1, by simp, hpo.2.2⟩ (by omega) hk4 rfl rfl rfl (fun br hbr => ?_) (.inl rfl) (fun i hi _ => ?_) ?_
            · simp [conv]
            · iterate 8 refine (Jo _ _ (by omega)).trans ?_
              exact YS
            · intro br _
              refine ⟨.buf true 3 (p.needs.map Yk.v), ?_, fun h => h, rfl, rfl⟩
              iterate 8 refine (Jo _ _ (by omega)).trans ?_
              exact YS.trans (by rw [Us, List.getElem?_map, hp]; rfl)
        · repeat' (first | refine Qb fun K' hK => ?_ | refine Qe fun K' hK => ?_ | refine Qp 9 (fun y => !decide (y = 0)) rfl (Ja _) (Q7 _) fun K' hK => ?_ | refine Qq 9 (fun y => !decide (y = 0)) rfl (Ja _) (Q7 _) fun K' hK => ?_ | refine Qp 16 (fun y => !decide (y = 0) && !decide (y = 3) && !decide (y = 4)) rfl (Q9 _ _) (Q6 _ _) fun K' hK => ?_ | refine Qq 16 (fun y => !decide (y = 0) && !decide (y = 3) && !decide (y = 4)) rfl (Q9 _ _) (Q6 _ _) fun K' hK => ?_ | refine Qp 19 (fun _ => false) rfl (Q8 _ _) (Q5 _ _) fun K' hK => ?_ | refine Qq 19 (fun _ => false) rfl (Q8 _ _) (Q5 _ _) fun K' hK => ?_ | refine Qc ?_ | refine Qd ?_ | refine Qa ?_ | ((first | refine Qg ⟨_, rfl, fun hc => ?_, fun hc => ?_⟩ | refine QL (fun hc => ?_) (fun hc => ?_) | refine QM (fun hc => ?_) (fun hc => ?_)) <;> first | exact Bool.noConfusion hc | ((try simp only [znz] at hc); first | exact znf | skip)) | refine Qi ?_ | refine Qf ?_ | simp (maxSteps := 1000000) only [go_sem, Nat.reduceAdd, Nat.reduceMul, Nat.reduceEqDiff, Nat.reduceLeDiff, Nat.reduceLT, Nat.reduceSub, Int.reduceEq, Int.reduceBEq, Int.reduceLT, Int.reduceLE, Int.reduceAdd, Int.reduceToNat, reduceIte, reduceCtorEq, xS, UL, Wn, h1, he, JJ, JN, JM, JL] | (refine hK _ ?_; clear hK; clear K') | refine And.intro ?_ ?_ | (apply XS; (focus exact rfl); (focus first | exact n1 | exact n2 | exact n3 | exact (Ql _ _ _ zsd zsd zsd zsd) | exact (QJ _ _ zsd zsd) | exact (Qh _ _ _ zsd zsd) | exact (QB _ _ zsd zsd) | exact (Qm _ _ _ zsd zsd zsd zsd) | exact (QC _ _ _ zsd zsd zsd zsd)); (focus exact rfl); (focus exact rfl)) | (apply Wb; (focus exact rfl); (focus first | exact rfl | decide); (focus first | exact rfl | decide); (focus first | exact n1 | exact n2 | exact n3 | exact (Ql _ _ _ zsd zsd zsd zsd) | exact (QJ _ _ zsd zsd) | exact (Qh _ _ _ zsd zsd) | exact (QB _ _ zsd zsd) | exact (Qm _ _ _ zsd zsd zsd zsd) | exact (QC _ _ _ zsd zsd zsd zsd)); (focus exact rfl); (focus exact rfl); (focus first | exact rfl | decide)) | exact zlo | omega | exact zms)
          all_goals
            refine ⟨_, Le.refl _, ?_⟩
            refine yo (q := { p with ver := [-1] }) (nj := 100 + j) hok ⟨hpo.1, by simp, hpo.2.2⟩ (by omega) hk4 rfl rfl rfl (fun br hbr => ?_) (.inl rfl) (fun i hi _ => ?_) ?_
            · have hnot : 17200 ∉ br := fun h => (by have := hbr _ h; omega)
              simp only [conv]
              exact ⟨trivial, hnot, .inl ⟨true, _, rfl, rfl⟩⟩
            · iterate 8 refine (Jo _ _ (by omega)).trans ?_
              exact YS
            · intro br _
              refine ⟨.buf true 3 (p.needs.map Yk.v), ?_, fun h => h, rfl, rfl⟩
              iterate 8 refine (Jo _ _ (by omega)).trans ?_
              exact YS.trans (by rw [Us, List.getElem?_map, hp]; rfl)
        · repeat' (first | refine Qb fun K' hK => ?_ | refine Qe fun K' hK => ?_ | refine Qp 9 (fun y => !decide (y = 0)) rfl (Ja _) (Q7 _) fun K' hK => ?_ | refine Qq 9 (fun y => !decide (y = 0)) rfl (Ja _) (Q7 _) fun K' hK => ?_ | refine Qp 16 (fun y => !decide (y = 0) && !decide (y = 3) && !decide (y = 4)) rfl (Q9 _ _) (Q6 _ _) fun K' hK => ?_ | refine Qq 16 (fun y => !decide (y = 0) && !decide (y = 3) && !decide (y = 4)) rfl (Q9 _ _) (Q6 _ _) fun K' hK => ?_ | refine Qp 19 (fun _ => false) rfl (Q8 _ _) (Q5 _ _) fun K' hK => ?_ | refine Qq 19 (fun _ => false) rfl (Q8 _ _) (Q5 _ _) fun K' hK => ?_ | refine Qc ?_ | refine Qd ?_ | refine Qa ?_ | ((first | refine Qg ⟨_, rfl, fun hc => ?_, fun hc => ?_⟩ | refine QL (fun hc => ?_) (fun hc => ?_) | refine QM (fun hc => ?_) (fun hc => ?_)) <;> first | exact Bool.noConfusion hc | ((try simp only [znz] at hc); first | exact znf | skip)) | refine Qi ?_ | refine Qf ?_ | simp (maxSteps := 1000000) only [go_sem, Nat.reduceAdd, Nat.reduceMul, Nat.reduceEqDiff, Nat.reduceLeDiff, Nat.reduceLT, Nat.reduceSub, Int.reduceEq, Int.reduceBEq, Int.reduceLT, Int.reduceLE, Int.reduceAdd, Int.reduceToNat, reduceIte, reduceCtorEq, xS, UL, Wn, h1, he, JJ, JN, JM, JL] | (refine hK _ ?_; clear hK; clear K') | refine And.intro ?_ ?_ | (apply XS; (focus exact rfl); (focus first | exact n1 | exact n2 | exact n3 | exact (Ql _ _ _ zsd zsd zsd zsd) | exact (QJ _ _ zsd zsd) | exact (Qh _ _ _ zsd zsd) | exact (QB _ _ zsd zsd) | exact (Qm _ _ _ zsd zsd zsd zsd) | exact (QC _ _ _ zsd zsd zsd zsd)); (focus exact rfl); (focus exact rfl)) | (apply Wb; (focus exact rfl); (focus first | exact rfl | decide); (focus first | exact rfl | decide); (focus first | exact n1 | exact n2 | exact n3 | exact (Ql _ _ _ zsd zsd zsd zsd) | exact (QJ _ _ zsd zsd) | exact (Qh _ _ _ zsd zsd) | exact (QB _ _ zsd zsd) | exact (Qm _ _ _ zsd zsd zsd zsd) | exact (QC _ _ _ zsd zsd zsd zsd)); (focus exact rfl); (focus exact rfl); (focus first | exact rfl | decide)) | exact zlo | omega | exact zms)
          all_goals
            refine ⟨_, Le.refl _, ?_⟩
            refine yo (q := { p with ver := [1, 2, 3, 4, 5] }) (nj := 100 + j) hok ⟨hpo.1, by simp, hpo.2.2⟩ (by omega) hk4 rfl rfl rfl (fun br hbr => ?_) (.inl rfl) (fun i hi _ => ?_) ?_
            · have hnot : 18200 ∉ br := fun h => (by have := hbr _ h; omega)
              simp only [conv]
              exact ⟨trivial, hnot, .inl ⟨true, _, rfl, rfl⟩⟩
            · iterate 8 refine (Jo _ _ (by omega)).trans ?_
              exact YS
            · intro br _
              refine ⟨.buf true 3 (p.needs.map Yk.v), ?_, fun h => h, rfl, rfl⟩
              iterate 8 refine (Jo _ _ (by omega)).trans ?_
              exact YS.trans (by rw [Us, List.getElem?_map, hp]; rfl)
        · repeat' (first | refine Qb fun K' hK => ?_ | refine Qe fun K' hK => ?_ | refine Qp 9 (fun y => !decide (y = 0)) rfl (Ja _) (Q7 _) fun K' hK => ?_ | refine Qq 9 (fun y => !decide (y = 0)) rfl (Ja _) (Q7 _) fun K' hK => ?_ | refine Qp 16 (fun y => !decide (y = 0) && !decide (y = 3) && !decide (y = 4)) rfl (Q9 _ _) (Q6 _ _) fun K' hK => ?_ | refine Qq 16 (fun y => !decide (y = 0) && !decide (y = 3) && !decide (y = 4)) rfl (Q9 _ _) (Q6 _ _) fun K' hK => ?_ | refine Qp 19 (fun _ => false) rfl (Q8 _ _) (Q5 _ _) fun K' hK => ?_ | refine Qq 19 (fun _ => false) rfl (Q8 _ _) (Q5 _ _) fun K' hK => ?_ | refine Qc ?_ | refine Qd ?_ | refine Qa ?_ | ((first | refine Qg ⟨_, rfl, fun hc => ?_, fun hc => ?_⟩ | refine QL (fun hc => ?_) (fun hc => ?_) | refine QM (fun hc => ?_) (fun hc => ?_)) <;> first | exact Bool.noConfusion hc | ((try simp only [znz] at hc); first | exact znf | skip)) | refine Qi ?_ | refine Qf ?_ | simp (maxSteps := 1000000) only [go_sem, Nat.reduceAdd, Nat.reduceMul, Nat.reduceEqDiff, Nat.reduceLeDiff, Nat.reduceLT, Nat.reduceSub, Int.reduceEq, Int.reduceBEq, Int.reduceLT, Int.reduceLE, Int.reduceAdd, Int.reduceToNat, reduceIte, reduceCtorEq, xS, UL, Wn, h1, he, JJ, JN, JM, JL] | (refine hK _ ?_; clear hK; clear K') | refine And.intro ?_ ?_ | (apply XS; (focus exact rfl); (focus first | exact n1 | exact n2 | exact n3 | exact (Ql _ _ _ zsd zsd zsd zsd) | exact (QJ _ _ zsd zsd) | exact (Qh _ _ _ zsd zsd) | exact (QB _ _ zsd zsd) | exact (Qm _ _ _ zsd zsd zsd zsd) | exact (QC _ _ _ zsd zsd zsd zsd)); (focus exact rfl); (focus exact rfl)) | (apply Wb; (focus exact rfl); (focus first | exact rfl | decide); (focus first | exact rfl | decide); (focus first | exact n1 | exact n2 | exact n3 | exact (Ql _ _ _ zsd zsd zsd zsd) | exact (QJ _ _ zsd zsd) | exact (Qh _ _ _ zsd zsd) | exact (QB _ _ zsd zsd) | exact (Qm _ _ _ zsd zsd zsd zsd) | exact (QC _ _ _ zsd zsd zsd zsd)); (focus exact rfl); (focus exact rfl); (focus first | exact rfl | decide)) | exact zlo | omega | exact zms)
          all_goals
            refine ⟨_, Le.refl _, ?_⟩
            refine yo (q := { p with ver := [100000] }) (nj := 100 + j) hok ⟨hpo.1, by simp, hpo.2.2⟩ (by omega) hk4 rfl rfl rfl (fun br hbr => ?_) (.inl rfl) (fun i hi _ => ?_) ?_
            · have hnot : 19200 ∉ br := fun h => (by have := hbr _ h; omega)
              simp only [conv]
              exact ⟨trivial, hnot, .inl ⟨true, _, rfl, rfl⟩⟩
            · iterate 8 refine (Jo _ _ (by omega)).trans ?_
              exact YS
            · intro br _
              refine ⟨.buf true 3 (p.needs.map Yk.v), ?_, fun h => h, rfl, rfl⟩
              iterate 8 refine (Jo _ _ (by omega)).trans ?_
              exact YS.trans (by rw [Us, List.getElem?_map, hp]; rfl)
      by_cases x2 : x = 2
      · subst x2
        have n3 := Qm l k3 [[], [110, 111, 110, 101], [120, 32, 121]] hl hk3 (by simp) (by simp)
        have hk4 := adi (l := l) (k := k3) (xs := [[], [110, 111, 110, 101], [120, 32, 121]]) hk3
        have hwm := aby (l := l) (k := k3) (xs := [[], [110, 111, 110, 101], [120, 32, 121]]) (by simp) (by simp)
        generalize hw : aa1 l k3 [[], [110, 111, 110, 101], [120, 32, 121]] = u at *
        obtain ⟨wd, k4⟩ := u
        have n4 := QC l k4 [-1, 3] hl hk4 (by simp) (by simp)
        have hk5 := afX (l := l) (k := k4) (xs := [-1, 3]) hk4
        generalize ofD l k4 [-1, 3] = u at *
        obtain ⟨lo, k5⟩ := u
        simp only [JJ, List.map_cons, List.map_nil] at n3 n4 hk4 hk5 ⊢
        have hnb : (Us ps)[j]? = some (.buf true 3 (p.needs.map Yk.v)) := by rw [Us, List.getElem?_map, hp]; rfl
        have ne : ∀ c, c < 100 ∨ 200 ≤ c → (100 + j = c) = False := fun c hc => eq_false (by omega)
        have d1 : decide (100 + j < 18200) = true := decide_eq_true (by omega)
        have m1 := ne 0 (by omega)
        have m2 := ne 2 (by omega)
        have m3 := ne 24200 (by omega)
        have m4 := ne 27200 (by omega)
        have m5 := ne 29200 (by omega)
        have m6 := ne 32200 (by omega)
        have m7 := ne 33200 (by omega)
        have m8 : (0 = 100 + j) = False := eq_false (by omega)
        have m9 : (2 = 100 + j) = False := eq_false (by omega)
        repeat' (first | refine Qb fun K' hK => ?_ | refine Qe fun K' hK => ?_ | refine Qp 9 (fun y => !decide (y = 0)) rfl (Ja _) (Q7 _) fun K' hK => ?_ | refine Qq 9 (fun y => !decide (y = 0)) rfl (Ja _) (Q7 _) fun K' hK => ?_ | refine Qp 16 (fun y => !decide (y = 0) && !decide (y = 3) && !decide (y = 4)) rfl (Q9 _ _) (Q6 _ _) fun K' hK => ?_ | refine Qq 16 (fun y => !decide (y = 0) && !decide (y = 3) && !decide (y = 4)) rfl (Q9 _ _) (Q6 _ _) fun K' hK => ?_ | refine Qp 19 (fun _ => false) rfl (Q8 _ _) (Q5 _ _) fun K' hK => ?_ | refine Qq 19 (fun _ => false) rfl (Q8 _ _) (Q5 _ _) fun K' hK => ?_ | refine Qc ?_ | refine Qd ?_ | refine Qa ?_ | ((first | refine Qg ⟨_, rfl, fun hc => ?_, fun hc => ?_⟩ | refine QL (fun hc => ?_) (fun hc => ?_) | refine QM (fun hc => ?_) (fun hc => ?_)) <;> first | exact Bool.noConfusion hc | ((try simp only [znz] at hc); first | exact znf | skip)) | refine Qi ?_ | refine Qf ?_ | simp (maxSteps := 1000000) only [go_sem, Nat.reduceAdd, Nat.reduceMul, Nat.reduceEqDiff, Nat.reduceLeDiff, Nat.reduceLT, Nat.reduceSub, Int.reduceEq, Int.reduceBEq, Int.reduceLT, Int.reduceLE, Int.reduceAdd, Int.reduceToNat, reduceIte, reduceCtorEq, xS, UL, Wn, h1, he, JJ, hnb, YS, d1, m1, m2, m3, m4, m5, m6, m7, m8, m9, JN, JM, JL] | (refine hK _ ?_; clear hK; clear K') | refine And.intro ?_ ?_ | (apply XS; (focus exact rfl); (focus first | exact n1 | exact n2 | exact n3 | exact n4 | exact (Ql _ _ _ zsd zsd zsd zsd) | exact (QJ _ _ zsd zsd) | exact (Qh _ _ _ zsd zsd) | exact (QB _ _ zsd zsd) | exact (Qm _ _ _ zsd zsd zsd zsd) | exact (QC _ _ _ zsd zsd zsd zsd)); (focus exact rfl); (focus exact rfl)) | (apply Wb; (focus exact rfl); (focus first | exact rfl | decide); (focus first | exact rfl | decide); (focus first | exact n1 | exact n2 | exact n3 | exact n4 | exact (Ql _ _ _ zsd zsd zsd zsd) | exact (QJ _ _ zsd zsd) | exact (Qh _ _ _ zsd zsd) | exact (QB _ _ zsd zsd) | exact (Qm _ _ _ zsd zsd zsd zsd) | exact (QC _ _ _ zsd zsd zsd zsd)); (focus exact rfl); (focus exact rfl); (focus first | exact rfl | decide)) | exact zlo | omega | exact zms)
        all_goals
          have hwl : wd.length ≤ 5 := by
            simp only at hwm
            rcases List.mem_cons.1 hwm with h2 | h2
            · rw [h2]; decide
            · rcases List.mem_cons.1 h2 with h2 | h2
              · rw [h2]; decide
              · rw [List.mem_singleton.1 h2]; decide
          refine ⟨_, Le.refl _, ?_⟩
          refine yo (z := .sl 1 (p.ver.map V.int)) (j := j) (q := { p with needs := p.needs ++ [⟨wd, [lo], []⟩] }) (nj := 33200) hok ⟨hpo.1, hpo.2.1, (by show (p.needs ++ [_]).length ≤ 9; rw [List.length_append]; simp only [List.length_singleton]; exact Nat.le_trans (Nat.succ_le_succ hp3) (by decide)), fun y hy => ?_⟩ (by omega) hk5 rfl ?_ ?_ (fun br hbr => by simp [conv]) (.inr (by omega)) (fun i hi hij => ?_) (fun br hbr => ⟨_, rfl, id, rfl, ?_, wa _⟩)
          · rcases List.mem_append.1 hy with h2 | h2
            · exact hpo.2.2.2 y h2
            · rw [List.mem_singleton.1 h2]; exact ⟨hwl, by simp, by simp⟩
          · (try dsimp only); repeat' (with_reducible first | exact YS | exact QP _ _ _ | refine (Jo _ _ (by omega)).trans ?_ | refine (ac6 (by simp; omega)).trans ?_)
            all_goals exact QP _ _ _
          · show _ = some (Ob.obuf true 3 ((w5 100 ps).set j (.agg [V.str p.name, .sl 1 (p.ver.map V.int), .hd 33200 0 (p.needs ++ [_]).length])))
            rw [List.length_append]; rfl
          · (try dsimp only); repeat' (with_reducible first | exact YS | exact QP _ _ _ | refine (Jo _ _ (by omega)).trans ?_ | refine (ac6 (by simp; omega)).trans ?_)
          · have hnot : 29200 ∉ br := fun h => (by have := hbr _ h; omega)
            rw [List.take_of_length_le (by simp)]
            refine ab8 _ _ (by simp) fun i x y hx hy => ?_
            simp only [List.map_append, List.getElem?_append, List.length_map] at hx hy
            split at hx
            · rename_i hlt
              rw [if_pos hlt] at hy
              rw [hx] at hy; cases hy
              rw [List.getElem?_map] at hx
              obtain ⟨n, _, rfl⟩ := Option.map_eq_some_iff.1 hx
              exact Yi _ _ _ _ (vK n)
            · rename_i hlt
              rw [if_neg hlt] at hy
              generalize i - p.needs.length = i' at hx hy
              cases i' with
              | succ i' => simp at hx
              | zero =>
                simp only [List.getElem?_cons_zero, Option.some.injEq, List.map_cons, List.map_nil] at hx hy
                subst hx; subst hy
                refine ⟨by simp [conv], ?_, by simp [conv, Yk.v], trivial⟩
                simp only [conv]
                refine ⟨trivial, hnot, .inl ⟨true, [V.int lo], ?_, rfl⟩⟩
                (try dsimp only); repeat' (with_reducible first | exact YS | exact QP _ _ _ | refine (Jo _ _ (by omega)).trans ?_ | refine (ac6 (by simp; omega)).trans ?_)
      by_cases x3 : x = 3
      · subst x3
        repeat' (first | refine Qb fun K' hK => ?_ | refine Qe fun K' hK => ?_ | refine Qp 9 (fun y => !decide (y = 0)) rfl (Ja _) (Q7 _) fun K' hK => ?_ | refine Qq 9 (fun y => !decide (y = 0)) rfl (Ja _) (Q7 _) fun K' hK => ?_ | refine Qp 16 (fun y => !decide (y = 0) && !decide (y = 3) && !decide (y = 4)) rfl (Q9 _ _) (Q6 _ _) fun K' hK => ?_ | refine Qq 16 (fun y => !decide (y = 0) && !decide (y = 3) && !decide (y = 4)) rfl (Q9 _ _) (Q6 _ _) fun K' hK => ?_ | refine Qp 19 (fun _ => false) rfl (Q8 _ _) (Q5 _ _) fun K' hK => ?_ | refine Qq 19 (fun _ => false) rfl (Q8 _ _) (Q5 _ _) fun K' hK => ?_ | refine Qc ?_ | refine Qd ?_ | refine Qa ?_ | ((first | refine Qg ⟨_, rfl, fun hc => ?_, fun hc => ?_⟩ | refine QL (fun hc => ?_) (fun hc => ?_) | refine QM (fun hc => ?_) (fun hc => ?_)) <;> first | exact Bool.noConfusion hc | ((try simp only [znz] at hc); first | exact znf | skip)) | refine Qi ?_ | refine Qf ?_ | simp (maxSteps := 1000000) only [go_sem, Nat.reduceAdd, Nat.reduceMul, Nat.reduceEqDiff, Nat.reduceLeDiff, Nat.reduceLT, Nat.reduceSub, Int.reduceEq, Int.reduceBEq, Int.reduceLT, Int.reduceLE, Int.reduceAdd, Int.reduceToNat, reduceIte, reduceCtorEq, xS, UL, Wn, h1, he, JJ, JN, JM, JL] | (refine hK _ ?_; clear hK; clear K') | refine And.intro ?_ ?_ | (apply XS; (focus exact rfl); (focus first | exact n1 | exact n2 | exact (Ql _ _ _ zsd zsd zsd zsd) | exact (QJ _ _ zsd zsd) | exact (Qh _ _ _ zsd zsd) | exact (QB _ _ zsd zsd) | exact (Qm _ _ _ zsd zsd zsd zsd) | exact (QC _ _ _ zsd zsd zsd zsd)); (focus exact rfl); (focus exact rfl)) | (apply Wb; (focus exact rfl); (focus first | exact rfl | decide); (focus first | exact rfl | decide); (focus first | exact n1 | exact n2 | exact (Ql _ _ _ zsd zsd zsd zsd) | exact (QJ _ _ zsd zsd) | exact (Qh _ _ _ zsd zsd) | exact (QB _ _ zsd zsd) | exact (Qm _ _ _ zsd zsd zsd zsd) | exact (QC _ _ _ zsd zsd zsd zsd)); (focus exact rfl); (focus exact rfl); (focus first | exact rfl | decide)) | exact zlo | omega | exact zms)
        all_goals
          refine ⟨_, Le.upd (a := 21200) (y := .buf true 3 ((List.replicate 9 (⟨[], [], []⟩ : Yk)).map Yk.v)) rfl ⟨rfl, rfl, ?_⟩, ?_⟩
          · simp only [List.replicate, List.map_cons, List.map_nil, leC, leL, V.cells, Yk.v, and_true]
            refine ⟨?_, ?_, ?_, ?_, ?_, ?_, ?_, ?_, ?_⟩ <;> exact ⟨LeV.refl _, LeV.nil _, LeV.nil _, trivial⟩
          · refine yo (q := { p with needs := List.replicate 9 ⟨[], [], []⟩ }) (nj := 21200) hok ⟨hpo.1, hpo.2.1, by simp, fun y hy => ?_⟩ (by omega) hk3 rfl rfl rfl (fun br hbr => by simp [conv]) (.inr (by omega)) (fun i hi _ => ?_) ?_
            · rw [(List.mem_replicate.1 hy).2]; exact ⟨by simp, by simp, by simp⟩
            · iterate 5 refine (Jo _ _ (by omega)).trans ?_
              exact YS
            · exact fun br _ => ⟨_, rfl, fun h => h, rfl, rfl⟩
      · have b0 : decide (x = 0) = false := decide_eq_false x0
        have b1 : decide (x = 1) = false := decide_eq_false x1
        have b2 : decide (x = 2) = false := decide_eq_false x2
        have b3 : decide (x = 3) = false := decide_eq_false x3
        repeat' (first | refine Qb fun K' hK => ?_ | refine Qe fun K' hK => ?_ | refine Qp 9 (fun y => !decide (y = 0)) rfl (Ja _) (Q7 _) fun K' hK => ?_ | refine Qq 9 (fun y => !decide (y = 0)) rfl (Ja _) (Q7 _) fun K' hK => ?_ | refine Qp 16 (fun y => !decide (y = 0) && !decide (y = 3) && !decide (y = 4)) rfl (Q9 _ _) (Q6 _ _) fun K' hK => ?_ | refine Qq 16 (fun y => !decide (y = 0) && !decide (y = 3) && !decide (y = 4)) rfl (Q9 _ _) (Q6 _ _) fun K' hK => ?_ | refine Qp 19 (fun _ => false) rfl (Q8 _ _) (Q5 _ _) fun K' hK => ?_ | refine Qq 19 (fun _ => false) rfl (Q8 _ _) (Q5 _ _) fun K' hK => ?_ | refine Qc ?_ | refine Qd ?_ | refine Qa ?_ | ((first | refine Qg ⟨_, rfl, fun hc => ?_, fun hc => ?_⟩ | refine QL (fun hc => ?_) (fun hc => ?_) | refine QM (fun hc => ?_) (fun hc => ?_)) <;> first | exact Bool.noConfusion hc | ((try simp only [znz] at hc); first | exact znf | skip)) | refine Qi ?_ | refine Qf ?_ | simp (maxSteps := 1000000) only [go_sem, Nat.reduceAdd, Nat.reduceMul, Nat.reduceEqDiff, Nat.reduceLeDiff, Nat.reduceLT, Nat.reduceSub, Int.reduceEq, Int.reduceBEq, Int.reduceLT, Int.reduceLE, Int.reduceAdd, Int.reduceToNat, reduceIte, reduceCtorEq, xS, UL, Wn, h1, b0, b1, b2, b3, JJ, JN, JM, JL] | (refine hK _ ?_; clear hK; clear K') | refine And.intro ?_ ?_ | (apply XS; (focus exact rfl); (focus first | exact n1 | exact n2 | exact (Ql _ _ _ zsd zsd zsd zsd) | exact (QJ _ _ zsd zsd) | exact (Qh _ _ _ zsd zsd) | exact (QB _ _ zsd zsd) | exact (Qm _ _ _ zsd zsd zsd zsd) | exact (QC _ _ _ zsd zsd zsd zsd)); (focus exact rfl); (focus exact rfl)) | (apply Wb; (focus exact rfl); (focus first | exact rfl | decide); (focus first | exact rfl | decide); (focus first | exact n1 | exact n2 | exact (Ql _ _ _ zsd zsd zsd zsd) | exact (QJ _ _ zsd zsd) | exact (Qh _ _ _ zsd zsd) | exact (QB _ _ zsd zsd) | exact (Qm _ _ _ zsd zsd zsd zsd) | exact (QC _ _ _ zsd zsd zsd zsd)); (focus exact rfl); (focus exact rfl); (focus first | exact rfl | decide)) | exact zlo | omega | exact zms)
        refine ⟨_, Le.refl _, ?_⟩
        refine ab6 (k := k3) (X := 2) (xs := w5 100 ps) (fun i => 100 + i) hok hk3 rfl rfl rfl (Vc _ _) (fun i p hp => ⟨.buf true 3 (p.needs.map Yk.v), ?_, fun h => h, rfl, rfl⟩) (fun i p hp => ⟨.sl 1 (p.ver.map V.int), by rw [j8, hp]; rfl, by simp [conv]⟩) (by omega) (fun i _ => ⟨by omega, by omega⟩) (fun i j _ _ h => by omega)
        iterate 2 refine (Jo _ _ (by omega)).trans ?_
        exact YS.trans (by rw [Us, List.getElem?_map, hp]; rfl)
end Av
end
section
set_option linter.unusedSimpArgs false
set_option linter.unusedVariables false
set_option maxRecDepth 10000
set_option maxHeartbeats 4000000
namespace Av
open Go
attribute [local irreducible] AWp Wz WQ W4 awS awC V1 awQ Ue Jc YR VY awR YY awB okR Wt ris
theorem aie {ps : List QK} (h : xR ps) : PSz ps := by
  refine ⟨by have := h.1; omega, fun p hp => ?_⟩
  obtain ⟨h1, h2, h3, h4⟩ := h.2 p hp
  refine ⟨by omega, by omega, by omega, fun n hn => ?_⟩
  obtain ⟨g1, g2, g3⟩ := h4 n hn
  exact ⟨by omega, by omega, by omega⟩
theorem afY : ∀ (ps : List QK), ntL (ps.map QK.v)
  | [] => trivial
  | p :: r => ⟨by simp [QK.v], afY r⟩
theorem vJ : ∀ (ps : List QK), Qj (ps.map QK.v)
  | [] => trivial
  | p :: r => ⟨(by simp only [QK.v, QK.cells, V.closed, Qj, and_self]), vJ r⟩
end Av
end

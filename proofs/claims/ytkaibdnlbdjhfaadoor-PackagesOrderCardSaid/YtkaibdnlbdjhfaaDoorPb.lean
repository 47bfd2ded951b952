/- Pb -/
import Derived.Test.YtkaibdnlbdjhfaaDoorPa
import Derived.KernelRfl
set_option linter.unusedVariables false
set_option linter.unusedSimpArgs false
section
-- ALL all2.txt
set_option linter.unusedSimpArgs false
set_option linter.unusedVariables false
set_option maxRecDepth 10000
set_option maxHeartbeats 4000000
namespace Av
open Go
attribute [local irreducible] AWp runO runP runG awS awC awCv awQ awRd awCallR awCvR awQR awR awRdR awB okR plan ris
theorem verS_bad {s w : List UInt8} (hm : w ∈ splitL 46 s) (h : (numR w).2 = false) : verS s = .tup [.sl 1 [], V.int 22] := by
  have : ((splitL 46 s).all partOk && verOk ((splitL 46 s).map atoiV)) = false := by
    rcases hp : partOk w with _ | _
    · have : (splitL 46 s).all partOk = false := by rw [List.all_eq_false]; exact ⟨w, hm, by simp [hp]⟩
      rw [this]; rfl
    · rcases hv : verOk ((splitL 46 s).map atoiV) with _ | _
      · rw [Bool.and_false]
      · have := (verOk_iff hv).2.2 (atoiV w) (List.mem_map.2 ⟨w, hm, rfl⟩)
        rw [part_small hp this.1 this.2] at h
        exact absurd h (by simp)
  rw [verS, verW, this]; rfl
theorem verS_long {s : List UInt8} (h : 4 < (splitL 46 s).length) : verS s = .tup [.sl 1 [], V.int 22] := by
  have hv : verOk ((splitL 46 s).map atoiV) = false := by
    rcases hv : verOk ((splitL 46 s).map atoiV) with _ | _
    · rfl
    · have := (verOk_iff hv).2.1
      rw [List.length_map] at this; omega
  rw [verS, verW, hv, Bool.and_false]; rfl
theorem verS_all {s : List UInt8} (h : ∀ w ∈ splitL 46 s, numR w = (atoiV w, true)) : verS s = if verOk ((splitL 46 s).map atoiV) = true then .tup [.sl 1 (((splitL 46 s).map atoiV).map V.int), V.int 0] else .tup [.sl 1 [], V.int 22] := by
  have : (splitL 46 s).all partOk = true := List.all_eq_true.2 fun w hw => (part_ref (h w hw)).1
  rw [verS, verW, this, Bool.true_and]
def c_ref12_Version (f_ref02_Number f_ref12_right : Nat) : AC := seqK [0] (.reg [xo 2 (.mknil 1), mc 3 (V.int 0)]) (seqK [0, 4] (.reg [xo 4 (.mknil 1)]) (seqK [0, 4, 5] (.reg [mc 5 (V.int 0)]) (seqK [4] (seqK [0, 4, 5, 6] (.reg [mc 6 (V.int 0)]) (.block 0 (loopK [0, 4, 5, 6] (seqK [0, 4, 5, 6] (seqK [0, 4, 5, 6, 12] (.reg [mv 9 6, mv 10 0, xo 11 (.lenS (.t 10)), bn 12 .leq 9 11]) (.cond (.t 12) (.skip) (.exit 0))) (seqK [0, 4, 5, 6] (.block 1 (seqK [0, 4, 5, 6] (seqK [0, 4, 5, 6, 24] (.reg [mv 15 6, mv 16 0, xo 17 (.lenS (.t 16)), bn 18 .lss 15 17, mv 19 18, mg 20 0 19 true, mg 21 6 19 true, xg 22 (.idxS (.t 20) (.t 21)) 19 true, xg 23 (.bin .neq (.t 22) (.c (.sc (.int .u8 46)))) 19 true, xo 24 (.pick (.t 19) (.t 23) (.c (V.bool false)))]) (.cond (.t 24) (.exit 1) (.skip))) (seqK [0, 4, 6, 7, 8] (.reg [mv 26 0, mv 27 5, mv 28 6, xo 29 (.slstr (.t 26) (some (.t 27)) (some (.t 28))), cl 30 f_ref02_Number [29], mv 25 30, ex 31 25 0, ex 32 25 1, mv 7 31, mv 8 32]) (seqK [0, 4, 6, 7] (seqK [0, 4, 6, 7, 39] (.reg [mv 33 8, xo 34 (.un .not (.t 33)), mv 35 34, mg 36 4 35 false, xg 37 (.lenL (.t 36)) 35 false, xg 38 (.bin .gtr (.t 37) (.c (V.int 4))) 35 false, xo 39 (.pick (.t 35) (.c (V.bool true)) (.t 38))]) (.cond (.t 39) (seqK [2, 3] (.reg [xo 2 (.mknil 1), mc 3 (V.int 22)]) (.ret)) (.skip))) (seqK [0, 4, 6] (.reg [mv 40 4, mv 41 7, xo 42 (.bslice 1 1 false [(.int .i64 0)] [(0, (.t 41))]), xo 43 (.append 1 8 [(.int .i64 0)] (.t 40) (.t 42)), mv 4 43]) (.reg [mv 44 6, bc 45 .add 44 (V.int 1), mv 5 45])))))) (.reg [mv 13 6, bc 14 .add 13 (V.int 1), mv 6 14])))))) (seqK [4] (seqK [4, 48] (.reg [mv 46 4, cl 47 f_ref12_right [46], xo 48 (.un .not (.t 47))]) (.cond (.t 48) (seqK [2, 3] (.reg [xo 2 (.mknil 1), mc 3 (V.int 22)]) (.ret)) (.skip))) (seqK [2, 3] (.reg [mv 49 4, mv 2 49, mc 3 (V.int 0)]) (.ret)))))) def r_ref12_Version : List ARes := [.tmp 2, .tmp 3]
def CE_ref12_Version (Γ : Env) (f : Nat) : Prop := ∀ (s : List UInt8) (hs : s.length < 2 ^ 34), EvC Γ f [V.str s] (verS s)
theorem ev_ref12_Version {Γ : Env} {f f_ref02_Number f_ref12_right : Nat} (h : Has Γ.P f 50 (c_ref12_Version f_ref02_Number f_ref12_right) r_ref12_Version) (h_ref02_Number : CE_ref02_Number Γ f_ref02_Number) (h_ref12_right : CE_ref12_right Γ f_ref12_right) : CE_ref12_Version Γ f := by
  intro s hs
  refine evC_of_body h (by simp) (verW_closed _) fun C hC hm => ?_
  subst hC
  unfold c_ref12_Version
  repeat' (first | refine awp_seqR fun K' hK => ?_ | refine awp_regR fun K' hK => ?_ | refine awp_seqK ?_ | refine awp_skip ?_ | refine awp_block ?_ | ((first | refine awp_cond ⟨_, rfl, fun hc => ?_, fun hc => ?_⟩ | refine awB_t (fun hc => ?_) (fun hc => ?_) | refine awB_f (fun hc => ?_) (fun hc => ?_)) <;> first | exact Bool.noConfusion hc | ((try simp only [decide_eq_true_eq, decide_eq_false_iff_not, beq_iff_eq, beq_eq_false_iff_ne, ne_eq, Bool.not_eq_true', Bool.not_eq_false'] at hc); first | (exfalso; simp only [List.length_map] at hc; omega) | (exfalso; omega) | skip)) | refine awp_ret ?_ | refine awp_exit ?_ | simp (maxSteps := 1000000) only [go_sem, Nat.reduceAdd, Nat.reduceMul, Nat.reduceEqDiff, Nat.reduceLeDiff, Nat.reduceLT, Nat.reduceSub, Int.reduceEq, Int.reduceBEq, Int.reduceLT, Int.reduceLE, Int.reduceAdd, Int.reduceToNat, reduceIte, reduceCtorEq] | (refine hK _ ?_; clear hK; clear K') | refine And.intro ?_ ?_ | (apply awCs_A; (focus (first | exact (h_ref02_Number _).b | exact (h_ref12_right _ (by first | assumption | omega | (simp; done))).b))) | (simp only [List.length_append, List.length_cons, List.length_nil, List.length_map, Nat.reducePow, Nat.reduceAdd]; omega) | omega | exact List.mem_singleton_self _)
  refine awp_loopV (ι := Nat × Nat × List (List UInt8)) (fun p => p.1 ≤ s.length + 1 ∧ p.2.1 ≤ p.1 ∧ p.2.2.length ≤ 5 ∧ (∀ w ∈ p.2.2, numR w = (atoiV w, true)) ∧ (p.1 ≤ s.length → p.2.2 ++ splitA 46 ((s.take p.1).drop p.2.1) (s.drop p.1) = splitL 46 s) ∧ (p.1 = s.length + 1 → p.2.2 = splitL 46 s))
    (fun p => mkSt [(0, V.str s), (4, .hd 0 0 (p.2.2.map atoiV).length), (5, V.int p.2.1), (6, V.int p.1)] [(0, .buf true 1 ((p.2.2.map atoiV).map V.int))] 1) (fun p => s.length + 2 - p.1) (0, 0, []) ⟨by simp, by simp, by simp, by simp, fun _ => by simp [splitL], fun h => by simp at h⟩ (lookN [(0, 2000)]) (weak_g [(0, 2000)] (by simp only [go_sem, Nat.reduceAdd, Nat.reduceMul, Nat.reduceEqDiff, Nat.reduceLT, Int.reduceToNat, reduceIte, reduceCtorEq, and_true, true_and, implies_true, Option.some.injEq, exists_eq_left', closedL_ren, closed_ren]; (repeat' (first | rfl | refine And.intro ?_ ?_ | omega | exact fun h => h | exact Exists.intro _ rfl))) (by simp only [go_sem, Nat.reduceAdd, Nat.reduceMul, Nat.reduceEqDiff, Nat.reduceLT, Int.reduceToNat, reduceIte, reduceCtorEq, and_true, true_and, implies_true, Option.some.injEq, exists_eq_left', closedL_ren, closed_ren]; (repeat' (first | rfl | refine And.intro ?_ ?_ | omega | exact fun h => h | exact Exists.intro _ rfl))) (by simp) (by simp; omega) (by omega)) fun p hp K' hL => ?_
  obtain ⟨k, fr, ws⟩ := p
  obtain ⟨h1, h2, h3, hall, h4, h5⟩ := hp
  simp only at h1 h2 h3 hall h4 h5
  by_cases hk : k ≤ s.length
  · have e1 : decide ((k : Int) ≤ s.length) = true := by simp; omega
    have hw := wrap_succ (k := k) (by omega)
    have hcur : List.take (k - fr) (List.drop fr s) = (s.take k).drop fr := by rw [List.drop_take]
    have hpart : ∀ rest, ws ++ (s.take k).drop fr :: rest = splitL 46 s → (numR ((s.take k).drop fr)).2 = true → ∀ w ∈ ws ++ [(s.take k).drop fr], numR w = (atoiV w, true) := by
      intro rest _ hn w hw
      rcases List.mem_append.1 hw with h | h
      · exact hall w h
      · rw [List.mem_singleton.1 h]
        have : numR ((s.take k).drop fr) = ((numR ((s.take k).drop fr)).1, true) := by rw [← hn]
        rw [(part_ref this).2]; exact this
    have hbadw : ∀ rest, ws ++ (s.take k).drop fr :: rest = splitL 46 s → (numR ((s.take k).drop fr)).2 = false → verS s = .tup [.sl 1 [], V.int 22] := by
      intro rest he hn
      exact verS_bad (by rw [← he]; simp) hn
    have hlong : ∀ rest, ws ++ (s.take k).drop fr :: rest = splitL 46 s → 4 < ws.length → verS s = .tup [.sl 1 [], V.int 22] := by
      intro rest he hn
      exact verS_long (by rw [← he]; simp; omega)
    have gn := (h_ref02_Number ((s.take k).drop fr)).b
    have hb : (numR ((s.take k).drop fr)).2 = true → List.map V.int (ws.map atoiV) ++ [V.int (numR ((s.take k).drop fr)).1] = ((ws ++ [(s.take k).drop fr]).map atoiV).map V.int := by
      intro hn
      have : numR ((s.take k).drop fr) = ((numR ((s.take k).drop fr)).1, true) := by rw [← hn]
      rw [List.map_append, List.map_append, List.map_singleton, List.map_singleton, (part_ref this).2]
    have hln : (ws.map atoiV).length + 1 = ((ws ++ [(s.take k).drop fr]).map atoiV).length := by simp
    have hwl : (ws.map atoiV).length = ws.length := by simp
    by_cases hkl : k = s.length
    · have e2 : decide ((k : Int) < s.length) = false := by simp; omega
      have hfin : ws ++ (s.take k).drop fr :: [] = splitL 46 s := by
        have hdr : s.drop k = [] := List.drop_eq_nil_of_le (by omega)
        rw [← h4 hk, hdr, splitA]
      rcases hn : (numR ((s.take k).drop fr)).2 with _ | _
      · rw [hbadw _ hfin hn]
        simp only [numV, hn] at gn
        repeat' (first | refine awp_seqR fun K' hK => ?_ | refine awp_regR fun K' hK => ?_ | refine awp_seqK ?_ | refine awp_skip ?_ | refine awp_block ?_ | ((first | refine awp_cond ⟨_, rfl, fun hc => ?_, fun hc => ?_⟩ | refine awB_t (fun hc => ?_) (fun hc => ?_) | refine awB_f (fun hc => ?_) (fun hc => ?_)) <;> first | exact Bool.noConfusion hc | ((try simp only [decide_eq_true_eq, decide_eq_false_iff_not, beq_iff_eq, beq_eq_false_iff_ne, ne_eq, Bool.not_eq_true', Bool.not_eq_false'] at hc); first | (exfalso; simp only [List.length_map] at hc; omega) | (exfalso; omega) | skip)) | refine awp_ret ?_ | refine awp_exit ?_ | simp (maxSteps := 1000000) only [go_sem, Nat.reduceAdd, Nat.reduceMul, Nat.reduceEqDiff, Nat.reduceLeDiff, Nat.reduceLT, Nat.reduceSub, Int.reduceEq, Int.reduceBEq, Int.reduceLT, Int.reduceLE, Int.reduceAdd, Int.reduceToNat, reduceIte, reduceCtorEq, mkSt, e1, e2, hw, hcur] | (refine hK _ ?_; clear hK; clear K') | refine And.intro ?_ ?_ | (apply awCs_A; (focus (first | exact gn | exact (h_ref02_Number _).b | exact (h_ref12_right _ (by first | assumption | omega | (simp; done))).b))) | (simp only [List.length_append, List.length_cons, List.length_nil, List.length_map, Nat.reducePow, Nat.reduceAdd]; omega) | omega | exact List.mem_singleton_self _)
        all_goals first | (refine ends_r _ rfl ?_; simp only [go_sem, Nat.reduceEqDiff, Nat.reduceAdd, reduceIte, reduceCtorEq]; first | rfl | exact ⟨_, _, rfl⟩) | trace_state
      · by_cases h4w : 4 < ws.length
        · rw [hlong _ hfin h4w]
          have e3 : decide ((((ws.map atoiV).length : Nat) : Int) > 4) = true := by simp; omega
          simp only [numV, hn] at gn
          repeat' (first | refine awp_seqR fun K' hK => ?_ | refine awp_regR fun K' hK => ?_ | refine awp_seqK ?_ | refine awp_skip ?_ | refine awp_block ?_ | ((first | refine awp_cond ⟨_, rfl, fun hc => ?_, fun hc => ?_⟩ | refine awB_t (fun hc => ?_) (fun hc => ?_) | refine awB_f (fun hc => ?_) (fun hc => ?_)) <;> first | exact Bool.noConfusion hc | ((try simp only [decide_eq_true_eq, decide_eq_false_iff_not, beq_iff_eq, beq_eq_false_iff_ne, ne_eq, Bool.not_eq_true', Bool.not_eq_false'] at hc); first | (exfalso; simp only [List.length_map] at hc; omega) | (exfalso; omega) | skip)) | refine awp_ret ?_ | refine awp_exit ?_ | simp (maxSteps := 1000000) only [go_sem, Nat.reduceAdd, Nat.reduceMul, Nat.reduceEqDiff, Nat.reduceLeDiff, Nat.reduceLT, Nat.reduceSub, Int.reduceEq, Int.reduceBEq, Int.reduceLT, Int.reduceLE, Int.reduceAdd, Int.reduceToNat, reduceIte, reduceCtorEq, mkSt, e1, e2, e3, hw, hcur] | (refine hK _ ?_; clear hK; clear K') | refine And.intro ?_ ?_ | (apply awCs_A; (focus (first | exact gn | exact (h_ref02_Number _).b | exact (h_ref12_right _ (by first | assumption | omega | (simp; done))).b))) | (simp only [List.length_append, List.length_cons, List.length_nil, List.length_map, Nat.reducePow, Nat.reduceAdd]; omega) | omega | exact List.mem_singleton_self _)
          all_goals first | (refine ends_r _ rfl ?_; simp only [go_sem, Nat.reduceEqDiff, Nat.reduceAdd, reduceIte, reduceCtorEq]; first | rfl | exact ⟨_, _, rfl⟩) | trace_state
        · have e3 : decide ((((ws.map atoiV).length : Nat) : Int) > 4) = false := by simp; omega
          have hp := hpart _ hfin hn
          have hb := hb hn
          simp only [numV, hn] at gn
          repeat' (first | refine awp_seqR fun K' hK => ?_ | refine awp_regR fun K' hK => ?_ | refine awp_seqK ?_ | refine awp_skip ?_ | refine awp_block ?_ | ((first | refine awp_cond ⟨_, rfl, fun hc => ?_, fun hc => ?_⟩ | refine awB_t (fun hc => ?_) (fun hc => ?_) | refine awB_f (fun hc => ?_) (fun hc => ?_)) <;> first | exact Bool.noConfusion hc | ((try simp only [decide_eq_true_eq, decide_eq_false_iff_not, beq_iff_eq, beq_eq_false_iff_ne, ne_eq, Bool.not_eq_true', Bool.not_eq_false'] at hc); first | (exfalso; simp only [List.length_map] at hc; omega) | (exfalso; omega) | skip)) | refine awp_ret ?_ | refine awp_exit ?_ | simp (maxSteps := 1000000) only [go_sem, Nat.reduceAdd, Nat.reduceMul, Nat.reduceEqDiff, Nat.reduceLeDiff, Nat.reduceLT, Nat.reduceSub, Int.reduceEq, Int.reduceBEq, Int.reduceLT, Int.reduceLE, Int.reduceAdd, Int.reduceToNat, reduceIte, reduceCtorEq, mkSt, e1, e2, e3, hw, hcur, take_lm, hb, hln] | (refine hK _ ?_; clear hK; clear K') | refine And.intro ?_ ?_ | (apply awCs_A; (focus (first | exact gn | exact (h_ref02_Number _).b | exact (h_ref12_right _ (by first | assumption | omega | (simp; done))).b))) | (simp only [List.length_append, List.length_cons, List.length_nil, List.length_map, Nat.reducePow, Nat.reduceAdd]; omega) | omega | exact List.mem_singleton_self _)
          all_goals first
            | exact hL _ (k + 1, k + 1, ws ++ [(s.take k).drop fr]) (lookN [(0, 34001)]) ⟨by simp only; omega, by simp, by simp; omega, hp, fun h => by simp only at h; omega, fun _ => hfin⟩ (by simp only; omega) (weak_g [(0, 34001)] (by simp only [go_sem, Nat.reduceAdd, Nat.reduceMul, Nat.reduceEqDiff, Nat.reduceLT, Int.reduceToNat, reduceIte, reduceCtorEq, and_true, true_and, implies_true, Option.some.injEq, exists_eq_left', closedL_ren, closed_ren]; (repeat' (first | rfl | refine And.intro ?_ ?_ | omega | exact fun h => h | exact Exists.intro _ rfl))) (by simp only [go_sem, Nat.reduceAdd, Nat.reduceMul, Nat.reduceEqDiff, Nat.reduceLT, Int.reduceToNat, reduceIte, reduceCtorEq, and_true, true_and, implies_true, Option.some.injEq, exists_eq_left', closedL_ren, closed_ren]; (repeat' (first | rfl | refine And.intro ?_ ?_ | omega | exact fun h => h | exact Exists.intro _ rfl))) (by simp) (by simp; omega) (by omega))
            | (simp only [List.length_append, List.length_singleton, List.length_map]; omega)
            | trace_state
    · have e2 : decide ((k : Int) < s.length) = true := by simp; omega
      obtain ⟨x, hx⟩ : ∃ x, s[k]? = some x := ⟨s[k]'(by omega), List.getElem?_eq_getElem (by omega)⟩
      have hd : s.drop k = x :: s.drop (k + 1) := by
        rw [List.drop_eq_getElem_cons (by omega)]; congr 1
        rw [List.getElem?_eq_getElem (by omega)] at hx; exact Option.some.inj hx
      have ht : (s.take (k + 1)).drop fr = (s.take k).drop fr ++ [x] := by
        rw [List.take_add_one, hx, List.drop_append_of_le_length (by simp; omega)]; rfl
      have h4' := h4 hk
      rw [hd, splitA] at h4'
      by_cases hxc : x = 46
      · have e4 : ((x.toNat : Int) != 46) = false := by subst hxc; rfl
        rw [if_pos hxc] at h4'
        have hz : (s.take (k + 1)).drop (k + 1) = [] := List.drop_eq_nil_of_le (by simp; omega)
        rcases hn : (numR ((s.take k).drop fr)).2 with _ | _
        · rw [hbadw _ h4' hn]
          simp only [numV, hn] at gn
          repeat' (first | refine awp_seqR fun K' hK => ?_ | refine awp_regR fun K' hK => ?_ | refine awp_seqK ?_ | refine awp_skip ?_ | refine awp_block ?_ | ((first | refine awp_cond ⟨_, rfl, fun hc => ?_, fun hc => ?_⟩ | refine awB_t (fun hc => ?_) (fun hc => ?_) | refine awB_f (fun hc => ?_) (fun hc => ?_)) <;> first | exact Bool.noConfusion hc | ((try simp only [decide_eq_true_eq, decide_eq_false_iff_not, beq_iff_eq, beq_eq_false_iff_ne, ne_eq, Bool.not_eq_true', Bool.not_eq_false'] at hc); first | (exfalso; simp only [List.length_map] at hc; omega) | (exfalso; omega) | skip)) | refine awp_ret ?_ | refine awp_exit ?_ | simp (maxSteps := 1000000) only [go_sem, Nat.reduceAdd, Nat.reduceMul, Nat.reduceEqDiff, Nat.reduceLeDiff, Nat.reduceLT, Nat.reduceSub, Int.reduceEq, Int.reduceBEq, Int.reduceLT, Int.reduceLE, Int.reduceAdd, Int.reduceToNat, reduceIte, reduceCtorEq, mkSt, e1, e2, e4, hw, hcur, hx, Int.toNat_natCast] | (refine hK _ ?_; clear hK; clear K') | refine And.intro ?_ ?_ | (apply awCs_A; (focus (first | exact gn | exact (h_ref02_Number _).b | exact (h_ref12_right _ (by first | assumption | omega | (simp; done))).b))) | (simp only [List.length_append, List.length_cons, List.length_nil, List.length_map, Nat.reducePow, Nat.reduceAdd]; omega) | omega | exact List.mem_singleton_self _)
          all_goals first | (refine ends_r _ rfl ?_; simp only [go_sem, Nat.reduceEqDiff, Nat.reduceAdd, reduceIte, reduceCtorEq]; first | rfl | exact ⟨_, _, rfl⟩) | trace_state
        · by_cases h4w : 4 < ws.length
          · rw [hlong _ h4' h4w]
            have e3 : decide ((((ws.map atoiV).length : Nat) : Int) > 4) = true := by simp; omega
            simp only [numV, hn] at gn
            repeat' (first | refine awp_seqR fun K' hK => ?_ | refine awp_regR fun K' hK => ?_ | refine awp_seqK ?_ | refine awp_skip ?_ | refine awp_block ?_ | ((first | refine awp_cond ⟨_, rfl, fun hc => ?_, fun hc => ?_⟩ | refine awB_t (fun hc => ?_) (fun hc => ?_) | refine awB_f (fun hc => ?_) (fun hc => ?_)) <;> first | exact Bool.noConfusion hc | ((try simp only [decide_eq_true_eq, decide_eq_false_iff_not, beq_iff_eq, beq_eq_false_iff_ne, ne_eq, Bool.not_eq_true', Bool.not_eq_false'] at hc); first | (exfalso; simp only [List.length_map] at hc; omega) | (exfalso; omega) | skip)) | refine awp_ret ?_ | refine awp_exit ?_ | simp (maxSteps := 1000000) only [go_sem, Nat.reduceAdd, Nat.reduceMul, Nat.reduceEqDiff, Nat.reduceLeDiff, Nat.reduceLT, Nat.reduceSub, Int.reduceEq, Int.reduceBEq, Int.reduceLT, Int.reduceLE, Int.reduceAdd, Int.reduceToNat, reduceIte, reduceCtorEq, mkSt, e1, e2, e3, e4, hw, hcur, hx, Int.toNat_natCast] | (refine hK _ ?_; clear hK; clear K') | refine And.intro ?_ ?_ | (apply awCs_A; (focus (first | exact gn | exact (h_ref02_Number _).b | exact (h_ref12_right _ (by first | assumption | omega | (simp; done))).b))) | (simp only [List.length_append, List.length_cons, List.length_nil, List.length_map, Nat.reducePow, Nat.reduceAdd]; omega) | omega | exact List.mem_singleton_self _)
            all_goals first | (refine ends_r _ rfl ?_; simp only [go_sem, Nat.reduceEqDiff, Nat.reduceAdd, reduceIte, reduceCtorEq]; first | rfl | exact ⟨_, _, rfl⟩) | trace_state
          · have e3 : decide ((((ws.map atoiV).length : Nat) : Int) > 4) = false := by simp; omega
            have hp := hpart _ h4' hn
            have hb := hb hn
            simp only [numV, hn] at gn
            repeat' (first | refine awp_seqR fun K' hK => ?_ | refine awp_regR fun K' hK => ?_ | refine awp_seqK ?_ | refine awp_skip ?_ | refine awp_block ?_ | ((first | refine awp_cond ⟨_, rfl, fun hc => ?_, fun hc => ?_⟩ | refine awB_t (fun hc => ?_) (fun hc => ?_) | refine awB_f (fun hc => ?_) (fun hc => ?_)) <;> first | exact Bool.noConfusion hc | ((try simp only [decide_eq_true_eq, decide_eq_false_iff_not, beq_iff_eq, beq_eq_false_iff_ne, ne_eq, Bool.not_eq_true', Bool.not_eq_false'] at hc); first | (exfalso; simp only [List.length_map] at hc; omega) | (exfalso; omega) | skip)) | refine awp_ret ?_ | refine awp_exit ?_ | simp (maxSteps := 1000000) only [go_sem, Nat.reduceAdd, Nat.reduceMul, Nat.reduceEqDiff, Nat.reduceLeDiff, Nat.reduceLT, Nat.reduceSub, Int.reduceEq, Int.reduceBEq, Int.reduceLT, Int.reduceLE, Int.reduceAdd, Int.reduceToNat, reduceIte, reduceCtorEq, mkSt, e1, e2, e3, e4, hw, hcur, hx, Int.toNat_natCast, take_lm, hb, hln] | (refine hK _ ?_; clear hK; clear K') | refine And.intro ?_ ?_ | (apply awCs_A; (focus (first | exact gn | exact (h_ref02_Number _).b | exact (h_ref12_right _ (by first | assumption | omega | (simp; done))).b))) | (simp only [List.length_append, List.length_cons, List.length_nil, List.length_map, Nat.reducePow, Nat.reduceAdd]; omega) | omega | exact List.mem_singleton_self _)
            all_goals first
              | exact hL _ (k + 1, k + 1, ws ++ [(s.take k).drop fr]) (lookN [(0, 34001)]) ⟨by simp only; omega, by simp, by simp; omega, hp, fun h => by simp only; rw [hz, List.append_assoc]; exact h4', fun h => by simp only at h; omega⟩ (by simp only; omega) (weak_g [(0, 34001)] (by simp only [go_sem, Nat.reduceAdd, Nat.reduceMul, Nat.reduceEqDiff, Nat.reduceLT, Int.reduceToNat, reduceIte, reduceCtorEq, and_true, true_and, implies_true, Option.some.injEq, exists_eq_left', closedL_ren, closed_ren]; (repeat' (first | rfl | refine And.intro ?_ ?_ | omega | exact fun h => h | exact Exists.intro _ rfl))) (by simp only [go_sem, Nat.reduceAdd, Nat.reduceMul, Nat.reduceEqDiff, Nat.reduceLT, Int.reduceToNat, reduceIte, reduceCtorEq, and_true, true_and, implies_true, Option.some.injEq, exists_eq_left', closedL_ren, closed_ren]; (repeat' (first | rfl | refine And.intro ?_ ?_ | omega | exact fun h => h | exact Exists.intro _ rfl))) (by simp) (by simp; omega) (by omega))
              | (simp only [List.length_append, List.length_singleton, List.length_map]; omega)
              | trace_state
      · have e4 : ((x.toNat : Int) != 46) = true := by
          simp only [bne_iff_ne, ne_eq]; intro h; exact hxc (UInt8.toNat_inj.1 (by show x.toNat = 46; omega))
        rw [if_neg hxc] at h4'
        repeat' (first | refine awp_seqR fun K' hK => ?_ | refine awp_regR fun K' hK => ?_ | refine awp_seqK ?_ | refine awp_skip ?_ | refine awp_block ?_ | ((first | refine awp_cond ⟨_, rfl, fun hc => ?_, fun hc => ?_⟩ | refine awB_t (fun hc => ?_) (fun hc => ?_) | refine awB_f (fun hc => ?_) (fun hc => ?_)) <;> first | exact Bool.noConfusion hc | ((try simp only [decide_eq_true_eq, decide_eq_false_iff_not, beq_iff_eq, beq_eq_false_iff_ne, ne_eq, Bool.not_eq_true', Bool.not_eq_false'] at hc); first | (exfalso; simp only [List.length_map] at hc; omega) | (exfalso; omega) | skip)) | refine awp_ret ?_ | refine awp_exit ?_ | simp (maxSteps := 1000000) only [go_sem, Nat.reduceAdd, Nat.reduceMul, Nat.reduceEqDiff, Nat.reduceLeDiff, Nat.reduceLT, Nat.reduceSub, Int.reduceEq, Int.reduceBEq, Int.reduceLT, Int.reduceLE, Int.reduceAdd, Int.reduceToNat, reduceIte, reduceCtorEq, mkSt, e1, e2, e4, hw, hx, Int.toNat_natCast] | (refine hK _ ?_; clear hK; clear K') | refine And.intro ?_ ?_ | (apply awCs_A; (focus (first | exact (h_ref02_Number _).b | exact (h_ref12_right _ (by first | assumption | omega | (simp; done))).b))) | (simp only [List.length_append, List.length_cons, List.length_nil, List.length_map, Nat.reducePow, Nat.reduceAdd]; omega) | omega | exact List.mem_singleton_self _)
        all_goals first
          | exact hL _ (k + 1, fr, ws) (lookN [(0, 0)]) ⟨by simp only; omega, by simp only; omega, h3, hall, fun h => by simp only; rw [ht]; exact h4', fun h => by simp only at h; omega⟩ (by simp only; omega) (weak_g [(0, 0)] (by simp only [go_sem, Nat.reduceAdd, Nat.reduceMul, Nat.reduceEqDiff, Nat.reduceLT, Int.reduceToNat, reduceIte, reduceCtorEq, and_true, true_and, implies_true, Option.some.injEq, exists_eq_left', closedL_ren, closed_ren]; (repeat' (first | rfl | refine And.intro ?_ ?_ | omega | exact fun h => h | exact Exists.intro _ rfl))) (by simp only [go_sem, Nat.reduceAdd, Nat.reduceMul, Nat.reduceEqDiff, Nat.reduceLT, Int.reduceToNat, reduceIte, reduceCtorEq, and_true, true_and, implies_true, Option.some.injEq, exists_eq_left', closedL_ren, closed_ren]; (repeat' (first | rfl | refine And.intro ?_ ?_ | omega | exact fun h => h | exact Exists.intro _ rfl))) (by simp) (by simp; omega) (by omega))
          | trace_state
  · have e1 : decide ((k : Int) ≤ s.length) = false := by simp; omega
    have hout := h5 (by omega)
    subst hout
    have g := (h_ref12_right ((splitL 46 s).map atoiV) (by rw [List.length_map]; omega)).b
    rw [verS_all hall]
    rcases hok : verOk ((splitL 46 s).map atoiV) with _ | _
    · rw [hok] at g
      simp only [Bool.false_eq_true, if_false]
      repeat' (first | refine awp_seqR fun K' hK => ?_ | refine awp_regR fun K' hK => ?_ | refine awp_seqK ?_ | refine awp_skip ?_ | refine awp_block ?_ | ((first | refine awp_cond ⟨_, rfl, fun hc => ?_, fun hc => ?_⟩ | refine awB_t (fun hc => ?_) (fun hc => ?_) | refine awB_f (fun hc => ?_) (fun hc => ?_)) <;> first | exact Bool.noConfusion hc | ((try simp only [decide_eq_true_eq, decide_eq_false_iff_not, beq_iff_eq, beq_eq_false_iff_ne, ne_eq, Bool.not_eq_true', Bool.not_eq_false'] at hc); first | (exfalso; simp only [List.length_map] at hc; omega) | (exfalso; omega) | skip)) | refine awp_ret ?_ | refine awp_exit ?_ | simp (maxSteps := 1000000) only [go_sem, Nat.reduceAdd, Nat.reduceMul, Nat.reduceEqDiff, Nat.reduceLeDiff, Nat.reduceLT, Nat.reduceSub, Int.reduceEq, Int.reduceBEq, Int.reduceLT, Int.reduceLE, Int.reduceAdd, Int.reduceToNat, reduceIte, reduceCtorEq, mkSt, e1, take_lm] | (refine hK _ ?_; clear hK; clear K') | refine And.intro ?_ ?_ | (apply awCs_A; (focus (first | exact g | exact (h_ref02_Number _).b | exact (h_ref12_right _ (by first | assumption | omega | (simp; done))).b))) | (simp only [List.length_append, List.length_cons, List.length_nil, List.length_map, Nat.reducePow, Nat.reduceAdd]; omega) | omega | exact List.mem_singleton_self _)
      all_goals first | (refine ends_r _ rfl ?_; simp only [go_sem, Nat.reduceEqDiff, Nat.reduceAdd, reduceIte, reduceCtorEq]; first | rfl | exact ⟨_, _, rfl⟩) | trace_state
    · rw [hok] at g
      simp only [if_true]
      repeat' (first | refine awp_seqR fun K' hK => ?_ | refine awp_regR fun K' hK => ?_ | refine awp_seqK ?_ | refine awp_skip ?_ | refine awp_block ?_ | ((first | refine awp_cond ⟨_, rfl, fun hc => ?_, fun hc => ?_⟩ | refine awB_t (fun hc => ?_) (fun hc => ?_) | refine awB_f (fun hc => ?_) (fun hc => ?_)) <;> first | exact Bool.noConfusion hc | ((try simp only [decide_eq_true_eq, decide_eq_false_iff_not, beq_iff_eq, beq_eq_false_iff_ne, ne_eq, Bool.not_eq_true', Bool.not_eq_false'] at hc); first | (exfalso; simp only [List.length_map] at hc; omega) | (exfalso; omega) | skip)) | refine awp_ret ?_ | refine awp_exit ?_ | simp (maxSteps := 1000000) only [go_sem, Nat.reduceAdd, Nat.reduceMul, Nat.reduceEqDiff, Nat.reduceLeDiff, Nat.reduceLT, Nat.reduceSub, Int.reduceEq, Int.reduceBEq, Int.reduceLT, Int.reduceLE, Int.reduceAdd, Int.reduceToNat, reduceIte, reduceCtorEq, mkSt, e1, take_lm] | (refine hK _ ?_; clear hK; clear K') | refine And.intro ?_ ?_ | (apply awCs_A; (focus (first | exact g | exact (h_ref02_Number _).b | exact (h_ref12_right _ (by first | assumption | omega | (simp; done))).b))) | (simp only [List.length_append, List.length_cons, List.length_nil, List.length_map, Nat.reducePow, Nat.reduceAdd]; omega) | omega | exact List.mem_singleton_self _)
      all_goals first | (refine ends_r _ rfl ?_; simp only [go_sem, Nat.reduceEqDiff, Nat.reduceAdd, reduceIte, reduceCtorEq]; rw [take_lm]) | trace_state
end Av
end
section
-- ALL all2.txt
set_option linter.unusedSimpArgs false
set_option linter.unusedVariables false
set_option maxRecDepth 10000
set_option maxHeartbeats 4000000
namespace Av
open Go
attribute [local irreducible] AWp runO runP runG awS awC awCv awQ awRd awCallR awCvR awQR awR awRdR awB okR plan ris
def vs5 : List Int := [0, 1, 2, 10, 99999]
def verGo (l : List Int) : Nat → List Int → Nat → List Int × Nat
  | 0, v, k => (v, k)
  | i + 1, v, k => verGo l i (v ++ [(ofD l k vs5).1]) (ofD l k vs5).2
def verD (l : List Int) (k : Nat) : List Int × Nat := verGo l (nextD l (nextD l k 4).2 3).1.toNat [(nextD l k 4).1] (nextD l (nextD l k 4).2 3).2
theorem vs5_rng {x : Int} (h : x ∈ vs5) : 0 ≤ x ∧ x ≤ 99999 := by
  simp only [vs5, List.mem_cons, List.mem_nil_iff, or_false] at h; omega
theorem verGo_le (l : List Int) : ∀ (i : Nat) (v : List Int) (k : Nat), k ≤ l.length → (verGo l i v k).2 ≤ l.length
  | 0, _, _, h => h
  | i + 1, v, k, h => verGo_le l i _ _ (ofD_le h)
theorem verGo_ok (l : List Int) : ∀ (i : Nat) (v : List Int) (k : Nat), (∀ x ∈ v, 0 ≤ x ∧ x ≤ 99999) → (verGo l i v k).1.length = v.length + i ∧ ∀ x ∈ (verGo l i v k).1, 0 ≤ x ∧ x ≤ 99999
  | 0, v, k, h => ⟨rfl, h⟩
  | i + 1, v, k, h => by
    have := verGo_ok l i (v ++ [(ofD l k vs5).1]) (ofD l k vs5).2 fun x hx => by
      rcases List.mem_append.1 hx with h1 | h1
      · exact h x h1
      · rw [List.mem_singleton.1 h1]; exact vs5_rng (ofD_mem (by simp [vs5]) (by simp [vs5]))
    simp only [List.length_append, List.length_singleton] at this
    exact ⟨by rw [verGo, this.1]; omega, this.2⟩
theorem verD_le {l : List Int} {k : Nat} (hk : k ≤ l.length) : (verD l k).2 ≤ l.length := verGo_le l _ _ _ (nextD_le (nextD_le hk))
theorem verD_ok (l : List Int) (k : Nat) : verOk (verD l k).1 = true := by
  have r1 := nextD_range (l := l) (k := k) (n := 4) (by omega) (by omega)
  have r2 := nextD_range (l := l) (k := (nextD l k 4).2) (n := 3) (by omega) (by omega)
  obtain ⟨h1, h2⟩ := verGo_ok l (nextD l (nextD l k 4).2 3).1.toNat [(nextD l k 4).1] (nextD l (nextD l k 4).2 3).2 (by simp; omega)
  simp only [List.length_singleton] at h1
  have hb : (verD l k).1.any badN = false := by
    rw [List.any_eq_false]
    intro x hx
    have := h2 x hx
    simp [badN]; omega
  unfold verOk
  rw [hb, decide_eq_true (show 1 ≤ (verD l k).1.length by show 1 ≤ (verGo l _ _ _).1.length; omega), decide_eq_true (show (verD l k).1.length ≤ 4 by show (verGo l _ _ _).1.length ≤ 4; omega)]; rfl
def c_law12_version (f_make_Dice__Next f_make_Dice__Of : Nat) : AC := seqK [0] (.reg [xo 2 (.mknil 1)]) (seqK [0, 3] (.reg [mv 5 0, xo 6 (.call f_make_Dice__Next [(.t 5), (.c (V.int 4))]), xo 7 (.bslice 1 1 false [(.int .i64 0)] [(0, (.t 6))]), mv 3 7]) (seqK [3] (seqK [0, 3, 4] (.reg [mv 8 0, xo 9 (.call f_make_Dice__Next [(.t 8), (.c (V.int 3))]), mv 4 9]) (.block 0 (loopK [0, 3, 4] (seqK [0, 3, 4] (seqK [0, 3, 4, 11] (.reg [mv 10 4, bc 11 .gtr 10 (V.int 0)]) (.cond (.t 11) (.skip) (.exit 0))) (seqK [0, 3, 4] (.block 1 (.reg [mv 14 3, mv 15 0, xo 16 (.bslice 5 1 false [(.int .i64 0)] [(0, (.c (V.int 0))), (1, (.c (V.int 1))), (2, (.c (V.int 2))), (3, (.c (V.int 10))), (4, (.c (V.int 99999)))]), cl 17 f_make_Dice__Of [15, 16], xo 18 (.bslice 1 1 false [(.int .i64 0)] [(0, (.t 17))]), xo 19 (.append 1 8 [(.int .i64 0)] (.t 14) (.t 18)), mv 3 19])) (.reg [mv 12 4, bc 13 .sub 12 (V.int 1), mv 4 13])))))) (seqK [2] (.reg [mv 20 3, mv 2 20]) (.ret)))) def r_law12_version : List ARes := [.tmp 2]
def CE_law12_version (Γ : Env) (f : Nat) : Prop := ∀ (l : List Int) (k : Nat) (hl : l.length ≤ 400) (hk : k ≤ l.length), EvD Γ f [] (dcell l k) (.sl 1 ((verD l k).1.map V.int)) (dcell l (verD l k).2)
theorem ev_law12_version {Γ : Env} {f f_make_Dice__Next f_make_Dice__Of : Nat} (h : Has Γ.P f 21 (c_law12_version f_make_Dice__Next f_make_Dice__Of) r_law12_version) (h_make_Dice__Next : CE_make_Dice__Next Γ f_make_Dice__Next) (h_make_Dice__Of : CE_make_Dice__Of Γ f_make_Dice__Of) : CE_law12_version Γ f := by
  intro l k hl hk
  refine evD_of_body h (by simp) (by simp only [V.closed, closedL, V.noSl, noSlL, and_self, and_true, true_and]) (by first | exact dcell_closed _ _ | simp only [V.closed, closedL, and_self, and_true, true_and]) (by first | exact dcell_closed _ _ | simp only [V.closed, closedL, and_self, and_true, true_and]) fun C hC hm => ?_
  subst hC
  unfold c_law12_version
  have n0 := h_make_Dice__Next l k 4 hl hk
  have hk0 := nextD_le (n := 4) hk
  have e2 : verD l k = verGo l (nextD l (nextD l k 4).2 3).1.toNat [(nextD l k 4).1] (nextD l (nextD l k 4).2 3).2 := rfl
  rw [e2]
  generalize nextD l k 4 = u at *
  obtain ⟨x0, k0⟩ := u
  simp only at hk0 n0 ⊢
  have n1 := h_make_Dice__Next l k0 3 hl hk0
  have hr := nextD_range (l := l) (k := k0) (n := 3) (by omega) (by omega)
  have hk1 := nextD_le (n := 3) hk0
  generalize nextD l k0 3 = w at *
  obtain ⟨i0, k1⟩ := w
  obtain ⟨i0, rfl⟩ : ∃ j : Nat, i0 = (j : Int) := ⟨i0.toNat, by simp only at hr; omega⟩
  simp only [dcell, Int.toNat_natCast] at n0 n1 hr hk1 ⊢
  repeat' (first | refine awp_seqR fun K' hK => ?_ | refine awp_regR fun K' hK => ?_ | refine awp_seqK ?_ | refine awp_skip ?_ | refine awp_block ?_ | ((first | refine awp_cond ⟨_, rfl, fun hc => ?_, fun hc => ?_⟩ | refine awB_t (fun hc => ?_) (fun hc => ?_) | refine awB_f (fun hc => ?_) (fun hc => ?_)) <;> first | exact Bool.noConfusion hc | ((try simp only [decide_eq_true_eq, decide_eq_false_iff_not, beq_iff_eq, beq_eq_false_iff_ne, ne_eq, Bool.not_eq_true', Bool.not_eq_false'] at hc); first | (exfalso; simp only [List.length_map] at hc; omega) | (exfalso; omega) | skip)) | refine awp_ret ?_ | refine awp_exit ?_ | simp (maxSteps := 1000000) only [go_sem, Nat.reduceAdd, Nat.reduceMul, Nat.reduceEqDiff, Nat.reduceLeDiff, Nat.reduceLT, Nat.reduceSub, Int.reduceEq, Int.reduceBEq, Int.reduceLT, Int.reduceLE, Int.reduceAdd, Int.reduceToNat, reduceIte, reduceCtorEq, dcell] | (refine hK _ ?_; clear hK; clear K') | refine And.intro ?_ ?_ | (apply awCs_D; (focus (exact rfl)); (focus (first | exact n0 | exact n1 | exact (h_make_Dice__Next _ _ _ (by first | assumption | omega | (simp; done)) (by first | assumption | omega | (simp; done))) | exact (h_make_Dice__Of _ _ _ (by first | assumption | omega | (simp; done)) (by first | assumption | omega | (simp; done)) (by first | assumption | omega | (simp; done)) (by first | assumption | omega | (simp; done))))); (focus (exact rfl)); (focus (exact rfl))) | (simp only [List.length_append, List.length_cons, List.length_nil, List.length_map, Nat.reducePow, Nat.reduceAdd]; omega) | omega | exact List.mem_singleton_self _)
  refine awp_loopV (ι := Nat × List Int × Nat) (fun p => p.1 ≤ 2 ∧ p.2.2 ≤ l.length ∧ p.2.1.length + p.1 ≤ 3 ∧ verGo l p.1 p.2.1 p.2.2 = verGo l i0 [x0] k1) (fun p => mkSt [(0, .ptr 0 0), (3, .hd 1 0 p.2.1.length), (4, V.int p.1)] [(0, .box true [.sl 1 (l.map V.int), V.int p.2.2]), (1, .buf true 1 (p.2.1.map V.int))] 2) (fun p => p.1) (i0, [x0], k1) ⟨(by show i0 ≤ 2; omega), hk1, (by show [x0].length + i0 ≤ 3; simp; omega), rfl⟩ (lookN [(1, 3001)]) (weak_g [(1, 3001)] (by simp only [go_sem, Nat.reduceAdd, Nat.reduceMul, Nat.reduceEqDiff, Nat.reduceLT, Int.reduceToNat, reduceIte, reduceCtorEq, and_true, true_and, implies_true, Option.some.injEq, exists_eq_left', closedL_ren, closed_ren]; (repeat' (first | rfl | refine And.intro ?_ ?_ | omega | exact fun h => h | exact Exists.intro _ rfl))) (by simp only [go_sem, Nat.reduceAdd, Nat.reduceMul, Nat.reduceEqDiff, Nat.reduceLT, Int.reduceToNat, reduceIte, reduceCtorEq, and_true, true_and, implies_true, Option.some.injEq, exists_eq_left', closedL_ren, closed_ren]; (repeat' (first | rfl | refine And.intro ?_ ?_ | omega | exact fun h => h | exact Exists.intro _ rfl))) (by simp [lookN]) (by simp; omega) (by omega)) fun p hp K' hL => ?_
  obtain ⟨i, v, k⟩ := p
  obtain ⟨hi, hk, hv, hinv⟩ := hp
  simp only at hi hk hv hinv
  rcases i with _ | i
  · rw [← hinv]
    repeat' (first | refine awp_seqR fun K' hK => ?_ | refine awp_regR fun K' hK => ?_ | refine awp_seqK ?_ | refine awp_skip ?_ | refine awp_block ?_ | ((first | refine awp_cond ⟨_, rfl, fun hc => ?_, fun hc => ?_⟩ | refine awB_t (fun hc => ?_) (fun hc => ?_) | refine awB_f (fun hc => ?_) (fun hc => ?_)) <;> first | exact Bool.noConfusion hc | ((try simp only [decide_eq_true_eq, decide_eq_false_iff_not, beq_iff_eq, beq_eq_false_iff_ne, ne_eq, Bool.not_eq_true', Bool.not_eq_false'] at hc); first | (exfalso; simp only [List.length_map] at hc; omega) | (exfalso; omega) | skip)) | refine awp_ret ?_ | refine awp_exit ?_ | simp (maxSteps := 1000000) only [go_sem, Nat.reduceAdd, Nat.reduceMul, Nat.reduceEqDiff, Nat.reduceLeDiff, Nat.reduceLT, Nat.reduceSub, Int.reduceEq, Int.reduceBEq, Int.reduceLT, Int.reduceLE, Int.reduceAdd, Int.reduceToNat, reduceIte, reduceCtorEq, mkSt, dcell, verGo, take_lm] | (refine hK _ ?_; clear hK; clear K') | refine And.intro ?_ ?_ | (apply awCs_D; (focus (exact rfl)); (focus (first | exact (h_make_Dice__Next _ _ _ (by first | assumption | omega | (simp; done)) (by first | assumption | omega | (simp; done))) | exact (h_make_Dice__Of _ _ _ (by first | assumption | omega | (simp; done)) (by first | assumption | omega | (simp; done)) (by first | assumption | omega | (simp; done)) (by first | assumption | omega | (simp; done))))); (focus (exact rfl)); (focus (exact rfl))) | (simp only [List.length_append, List.length_cons, List.length_nil, List.length_map, Nat.reducePow, Nat.reduceAdd]; omega) | omega | exact List.mem_singleton_self _)
    all_goals
      refine ends_d _ rfl rfl (by simp only [V.closed, closedL, and_self, and_true, true_and]) ?_; simp only [go_sem, Nat.reduceEqDiff, Nat.reduceAdd, reduceIte, reduceCtorEq]
      all_goals first | done | exact ⟨by simp, by rw [take_lm]⟩
  · have n1 := h_make_Dice__Of l k [0, 1, 2, 10, 99999] hl hk (by simp) (by simp)
    have hk1 := ofD_le (xs := [0, 1, 2, 10, 99999]) hk
    have e4 : verGo l (i + 1) v k = verGo l i (v ++ [(ofD l k [0, 1, 2, 10, 99999]).1]) (ofD l k [0, 1, 2, 10, 99999]).2 := rfl
    rw [e4] at hinv
    generalize ofD l k [0, 1, 2, 10, 99999] = u at *
    obtain ⟨c, k2⟩ := u
    simp only [dcell, List.map_cons, List.map_nil] at n1 hk1 hinv
    have e1 : decide (((i + 1 : Nat) : Int) > 0) = true := decide_eq_true (by omega)
    have ew : IntKind.i64.wrap (((i + 1 : Nat) : Int) - 1) = (i : Int) := by rw [wrap_id (by omega) (by omega)]; omega
    have hb : List.map V.int v ++ [V.int c] = (v ++ [c]).map V.int := by rw [List.map_append]; rfl
    have hln : v.length + 1 = (v ++ [c]).length := by simp
    repeat' (first | refine awp_seqR fun K' hK => ?_ | refine awp_regR fun K' hK => ?_ | refine awp_seqK ?_ | refine awp_skip ?_ | refine awp_block ?_ | ((first | refine awp_cond ⟨_, rfl, fun hc => ?_, fun hc => ?_⟩ | refine awB_t (fun hc => ?_) (fun hc => ?_) | refine awB_f (fun hc => ?_) (fun hc => ?_)) <;> first | exact Bool.noConfusion hc | ((try simp only [decide_eq_true_eq, decide_eq_false_iff_not, beq_iff_eq, beq_eq_false_iff_ne, ne_eq, Bool.not_eq_true', Bool.not_eq_false'] at hc); first | (exfalso; simp only [List.length_map] at hc; omega) | (exfalso; omega) | skip)) | refine awp_ret ?_ | refine awp_exit ?_ | simp (maxSteps := 1000000) only [go_sem, Nat.reduceAdd, Nat.reduceMul, Nat.reduceEqDiff, Nat.reduceLeDiff, Nat.reduceLT, Nat.reduceSub, Int.reduceEq, Int.reduceBEq, Int.reduceLT, Int.reduceLE, Int.reduceAdd, Int.reduceToNat, reduceIte, reduceCtorEq, mkSt, e1, ew, take_lm, hb, hln] | (refine hK _ ?_; clear hK; clear K') | refine And.intro ?_ ?_ | (apply awCs_D; (focus (exact rfl)); (focus (first | exact n1 | exact (h_make_Dice__Next _ _ _ (by first | assumption | omega | (simp; done)) (by first | assumption | omega | (simp; done))) | exact (h_make_Dice__Of _ _ _ (by first | assumption | omega | (simp; done)) (by first | assumption | omega | (simp; done)) (by first | assumption | omega | (simp; done)) (by first | assumption | omega | (simp; done))))); (focus (exact rfl)); (focus (exact rfl))) | (simp only [List.length_append, List.length_cons, List.length_nil, List.length_map, Nat.reducePow, Nat.reduceAdd]; omega) | omega | exact List.mem_singleton_self _)
    all_goals first
      | exact hL _ (i, v ++ [c], k2) (lookN [(1, 7002)]) ⟨by simp only; omega, hk1, by simp; omega, hinv⟩ (by simp only; omega) (weak_g [(1, 7002)] (by simp only [go_sem, Nat.reduceAdd, Nat.reduceMul, Nat.reduceEqDiff, Nat.reduceLT, Int.reduceToNat, reduceIte, reduceCtorEq, and_true, true_and, implies_true, Option.some.injEq, exists_eq_left', closedL_ren, closed_ren]; (repeat' (first | rfl | refine And.intro ?_ ?_ | omega | exact fun h => h | exact Exists.intro _ rfl))) (by simp only [go_sem, Nat.reduceAdd, Nat.reduceMul, Nat.reduceEqDiff, Nat.reduceLT, Int.reduceToNat, reduceIte, reduceCtorEq, and_true, true_and, implies_true, Option.some.injEq, exists_eq_left', closedL_ren, closed_ren]; (repeat' (first | rfl | refine And.intro ?_ ?_ | omega | exact fun h => h | exact Exists.intro _ rfl))) (by simp [lookN]) (by simp; omega) (by omega))
      | (simp only [List.length_append, List.length_singleton]; omega)
      | trace_state
end Av
end
section
-- ALL all2.txt
set_option linter.unusedSimpArgs false
set_option linter.unusedVariables false
set_option maxRecDepth 10000
set_option maxHeartbeats 4000000
namespace Av
open Go
attribute [local irreducible] AWp runO runP runG awS awC awCv awQ awRd awCallR awCvR awQR awR awRdR awB okR plan ris
def halfD (l : List Int) (k : Nat) : List Int × Nat := if (nextD l k 2).1 == 1 then verD l (nextD l k 2).2 else ([], (nextD l k 2).2)
def boundD (l : List Int) (k : Nat) : (List Int × List Int) × Nat := (((halfD l k).1, (halfD l (halfD l k).2).1), (halfD l (halfD l k).2).2)
theorem halfD_le {l : List Int} {k : Nat} (hk : k ≤ l.length) : (halfD l k).2 ≤ l.length := by
  unfold halfD; split
  · exact verD_le (nextD_le hk)
  · exact nextD_le hk
theorem halfD_len (l : List Int) (k : Nat) : (halfD l k).1.length ≤ 4 := by
  unfold halfD; split
  · exact (verOk_iff (verD_ok l _)).2.1
  · simp
def c_law12_bound (f_make_Dice__One f_law12_version : Nat) : AC := seqK [0, 2] (.reg [xo 2 (.alloc [.nil 1, .nil 1])]) (seqK [0, 2, 3] (.reg [xo 3 (.alloc [.nil 1, .nil 1])]) (seqK [0, 2, 3] (seqK [0, 2, 3, 5] (.reg [mv 4 0, xo 5 (.call f_make_Dice__One [(.t 4), (.c (V.int 2))])]) (.cond (.t 5) (.reg [mv 6 0, cl 7 f_law12_version [6], fa 8 0 3, xs 1 8 7]) (.skip))) (seqK [2, 3] (seqK [0, 2, 3, 10] (.reg [mv 9 0, xo 10 (.call f_make_Dice__One [(.t 9), (.c (V.int 2))])]) (.cond (.t 10) (.reg [mv 11 0, cl 12 f_law12_version [11], fa 13 1 3, xs 1 13 12]) (.skip))) (seqK [2] (.reg [xo 14 (.load true 2 (.t 3)), xs 2 2 14]) (.ret))))) def r_law12_bound : List ARes := [.cell 2 true 2]
def CE_law12_bound (Γ : Env) (f : Nat) : Prop := ∀ (l : List Int) (k : Nat) (hl : l.length ≤ 400) (hk : k ≤ l.length), EvD Γ f [] (dcell l k) (rangeV (boundD l k).1.1 (boundD l k).1.2) (dcell l (boundD l k).2)
theorem ev_law12_bound {Γ : Env} {f f_make_Dice__One f_law12_version : Nat} (h : Has Γ.P f 15 (c_law12_bound f_make_Dice__One f_law12_version) r_law12_bound) (h_make_Dice__One : CE_make_Dice__One Γ f_make_Dice__One) (h_law12_version : CE_law12_version Γ f_law12_version) : CE_law12_bound Γ f := by
  intro l k hl hk
  refine evD_of_body h (by simp) (by simp only [V.closed, closedL, V.noSl, noSlL, and_self, and_true, true_and]) (by first | exact dcell_closed _ _ | simp only [V.closed, closedL, and_self, and_true, true_and]) (by first | exact dcell_closed _ _ | simp only [V.closed, closedL, and_self, and_true, true_and]) fun C hC hm => ?_
  subst hC
  unfold c_law12_bound
  have o1 := h_make_Dice__One l k 2 hl hk (by omega) (by omega)
  have k1 := nextD_le (n := 2) hk
  have v1 := h_law12_version l (nextD l k 2).2 hl k1
  have kh := halfD_le hk
  have o2 := h_make_Dice__One l (halfD l k).2 2 hl kh (by omega) (by omega)
  have k2 := nextD_le (n := 2) kh
  have v2 := h_law12_version l (nextD l (halfD l k).2 2).2 hl k2
  have e1 : (halfD l k) = if ((nextD l k 2).1 == 2 - 1) = true then verD l (nextD l k 2).2 else ([], (nextD l k 2).2) := rfl
  have e2 : (halfD l (halfD l k).2) = if ((nextD l (halfD l k).2 2).1 == 2 - 1) = true then verD l (nextD l (halfD l k).2 2).2 else ([], (nextD l (halfD l k).2 2).2) := rfl
  unfold boundD
  generalize hH : halfD l (halfD l k).2 = H2 at *
  generalize halfD l k = H1 at *
  obtain ⟨b1, q1⟩ := H1
  obtain ⟨b2, q2⟩ := H2
  generalize hc1 : ((nextD l k 2).1 == 2 - 1) = c1 at *
  generalize hc2 : ((nextD l q1 2).1 == 2 - 1) = c2 at *
  simp only at o2 v2 e1 e2
  rcases c1 with _ | _ <;> rcases c2 with _ | _
  all_goals
    simp only [Bool.false_eq_true, if_false, if_true, Prod.mk.injEq] at e1 e2
  · obtain ⟨rfl, rfl⟩ := e1
    obtain ⟨rfl, rfl⟩ := e2
    simp only [dcell] at o1 v1 o2 v2
    repeat' (first | refine awp_seqR fun K' hK => ?_ | refine awp_regR fun K' hK => ?_ | refine awp_seqK ?_ | refine awp_skip ?_ | refine awp_block ?_ | ((first | refine awp_cond ⟨_, rfl, fun hc => ?_, fun hc => ?_⟩ | refine awB_t (fun hc => ?_) (fun hc => ?_) | refine awB_f (fun hc => ?_) (fun hc => ?_)) <;> first | exact Bool.noConfusion hc | ((try simp only [decide_eq_true_eq, decide_eq_false_iff_not, beq_iff_eq, beq_eq_false_iff_ne, ne_eq, Bool.not_eq_true', Bool.not_eq_false'] at hc); first | (exfalso; simp only [List.length_map] at hc; omega) | (exfalso; omega) | skip)) | refine awp_ret ?_ | refine awp_exit ?_ | simp (maxSteps := 1000000) only [go_sem, Nat.reduceAdd, Nat.reduceMul, Nat.reduceEqDiff, Nat.reduceLeDiff, Nat.reduceLT, Nat.reduceSub, Int.reduceEq, Int.reduceBEq, Int.reduceLT, Int.reduceLE, Int.reduceAdd, Int.reduceToNat, reduceIte, reduceCtorEq, dcell] | (refine hK _ ?_; clear hK; clear K') | refine And.intro ?_ ?_ | (apply awCs_D; (focus (exact rfl)); (focus (first | exact o1 | exact o2 | exact (h_make_Dice__One _ _ _ (by first | assumption | omega | (simp; done)) (by first | assumption | omega | (simp; done)) (by first | assumption | omega | (simp; done)) (by first | assumption | omega | (simp; done))) | exact (h_law12_version _ _ (by first | assumption | omega | (simp; done)) (by first | assumption | omega | (simp; done))))); (focus (exact rfl)); (focus (exact rfl))) | (simp only [List.length_append, List.length_cons, List.length_nil, List.length_map, Nat.reducePow, Nat.reduceAdd]; omega) | omega | exact List.mem_singleton_self _)
    all_goals (refine ends_d _ rfl rfl (by simp only [V.closed, closedL, and_self, and_true, true_and]) ?_; simp only [go_sem, Nat.reduceEqDiff, Nat.reduceAdd, reduceIte, reduceCtorEq])
    all_goals first | done | exact ⟨⟨by simp, _, _, rfl⟩, by simp, _, _, rfl⟩ | exact ⟨by simp, _, _, rfl⟩ | trace_state
  · obtain ⟨rfl, rfl⟩ := e1
    generalize verD l (nextD l (nextD l k 2).2 2).2 = y2 at *
    subst e2
    simp only [dcell] at o1 v1 o2 v2
    repeat' (first | refine awp_seqR fun K' hK => ?_ | refine awp_regR fun K' hK => ?_ | refine awp_seqK ?_ | refine awp_skip ?_ | refine awp_block ?_ | ((first | refine awp_cond ⟨_, rfl, fun hc => ?_, fun hc => ?_⟩ | refine awB_t (fun hc => ?_) (fun hc => ?_) | refine awB_f (fun hc => ?_) (fun hc => ?_)) <;> first | exact Bool.noConfusion hc | ((try simp only [decide_eq_true_eq, decide_eq_false_iff_not, beq_iff_eq, beq_eq_false_iff_ne, ne_eq, Bool.not_eq_true', Bool.not_eq_false'] at hc); first | (exfalso; simp only [List.length_map] at hc; omega) | (exfalso; omega) | skip)) | refine awp_ret ?_ | refine awp_exit ?_ | simp (maxSteps := 1000000) only [go_sem, Nat.reduceAdd, Nat.reduceMul, Nat.reduceEqDiff, Nat.reduceLeDiff, Nat.reduceLT, Nat.reduceSub, Int.reduceEq, Int.reduceBEq, Int.reduceLT, Int.reduceLE, Int.reduceAdd, Int.reduceToNat, reduceIte, reduceCtorEq, dcell] | (refine hK _ ?_; clear hK; clear K') | refine And.intro ?_ ?_ | (apply awCs_D; (focus (exact rfl)); (focus (first | exact o1 | exact o2 | exact v2 | exact (h_make_Dice__One _ _ _ (by first | assumption | omega | (simp; done)) (by first | assumption | omega | (simp; done)) (by first | assumption | omega | (simp; done)) (by first | assumption | omega | (simp; done))) | exact (h_law12_version _ _ (by first | assumption | omega | (simp; done)) (by first | assumption | omega | (simp; done))))); (focus (exact rfl)); (focus (exact rfl))) | (simp only [List.length_append, List.length_cons, List.length_nil, List.length_map, Nat.reducePow, Nat.reduceAdd]; omega) | omega | exact List.mem_singleton_self _)
    all_goals (refine ends_d _ rfl rfl (by simp only [V.closed, closedL, and_self, and_true, true_and]) ?_; simp only [go_sem, Nat.reduceEqDiff, Nat.reduceAdd, reduceIte, reduceCtorEq])
    all_goals first | done | exact ⟨⟨by simp, _, _, rfl⟩, by simp, _, _, rfl⟩ | exact ⟨by simp, _, _, rfl⟩ | trace_state
  · generalize verD l (nextD l k 2).2 = y1 at *
    subst e1
    obtain ⟨rfl, rfl⟩ := e2
    simp only [dcell] at o1 v1 o2 v2
    repeat' (first | refine awp_seqR fun K' hK => ?_ | refine awp_regR fun K' hK => ?_ | refine awp_seqK ?_ | refine awp_skip ?_ | refine awp_block ?_ | ((first | refine awp_cond ⟨_, rfl, fun hc => ?_, fun hc => ?_⟩ | refine awB_t (fun hc => ?_) (fun hc => ?_) | refine awB_f (fun hc => ?_) (fun hc => ?_)) <;> first | exact Bool.noConfusion hc | ((try simp only [decide_eq_true_eq, decide_eq_false_iff_not, beq_iff_eq, beq_eq_false_iff_ne, ne_eq, Bool.not_eq_true', Bool.not_eq_false'] at hc); first | (exfalso; simp only [List.length_map] at hc; omega) | (exfalso; omega) | skip)) | refine awp_ret ?_ | refine awp_exit ?_ | simp (maxSteps := 1000000) only [go_sem, Nat.reduceAdd, Nat.reduceMul, Nat.reduceEqDiff, Nat.reduceLeDiff, Nat.reduceLT, Nat.reduceSub, Int.reduceEq, Int.reduceBEq, Int.reduceLT, Int.reduceLE, Int.reduceAdd, Int.reduceToNat, reduceIte, reduceCtorEq, dcell] | (refine hK _ ?_; clear hK; clear K') | refine And.intro ?_ ?_ | (apply awCs_D; (focus (exact rfl)); (focus (first | exact o1 | exact v1 | exact o2 | exact (h_make_Dice__One _ _ _ (by first | assumption | omega | (simp; done)) (by first | assumption | omega | (simp; done)) (by first | assumption | omega | (simp; done)) (by first | assumption | omega | (simp; done))) | exact (h_law12_version _ _ (by first | assumption | omega | (simp; done)) (by first | assumption | omega | (simp; done))))); (focus (exact rfl)); (focus (exact rfl))) | (simp only [List.length_append, List.length_cons, List.length_nil, List.length_map, Nat.reducePow, Nat.reduceAdd]; omega) | omega | exact List.mem_singleton_self _)
    all_goals (refine ends_d _ rfl rfl (by simp only [V.closed, closedL, and_self, and_true, true_and]) ?_; simp only [go_sem, Nat.reduceEqDiff, Nat.reduceAdd, reduceIte, reduceCtorEq])
    all_goals first | done | exact ⟨⟨by simp, _, _, rfl⟩, by simp, _, _, rfl⟩ | exact ⟨by simp, _, _, rfl⟩ | trace_state
  · generalize verD l (nextD l k 2).2 = y1 at *
    subst e1
    generalize verD l (nextD l q1 2).2 = y2 at *
    subst e2
    simp only [dcell] at o1 v1 o2 v2
    repeat' (first | refine awp_seqR fun K' hK => ?_ | refine awp_regR fun K' hK => ?_ | refine awp_seqK ?_ | refine awp_skip ?_ | refine awp_block ?_ | ((first | refine awp_cond ⟨_, rfl, fun hc => ?_, fun hc => ?_⟩ | refine awB_t (fun hc => ?_) (fun hc => ?_) | refine awB_f (fun hc => ?_) (fun hc => ?_)) <;> first | exact Bool.noConfusion hc | ((try simp only [decide_eq_true_eq, decide_eq_false_iff_not, beq_iff_eq, beq_eq_false_iff_ne, ne_eq, Bool.not_eq_true', Bool.not_eq_false'] at hc); first | (exfalso; simp only [List.length_map] at hc; omega) | (exfalso; omega) | skip)) | refine awp_ret ?_ | refine awp_exit ?_ | simp (maxSteps := 1000000) only [go_sem, Nat.reduceAdd, Nat.reduceMul, Nat.reduceEqDiff, Nat.reduceLeDiff, Nat.reduceLT, Nat.reduceSub, Int.reduceEq, Int.reduceBEq, Int.reduceLT, Int.reduceLE, Int.reduceAdd, Int.reduceToNat, reduceIte, reduceCtorEq, dcell] | (refine hK _ ?_; clear hK; clear K') | refine And.intro ?_ ?_ | (apply awCs_D; (focus (exact rfl)); (focus (first | exact o1 | exact v1 | exact o2 | exact v2 | exact (h_make_Dice__One _ _ _ (by first | assumption | omega | (simp; done)) (by first | assumption | omega | (simp; done)) (by first | assumption | omega | (simp; done)) (by first | assumption | omega | (simp; done))) | exact (h_law12_version _ _ (by first | assumption | omega | (simp; done)) (by first | assumption | omega | (simp; done))))); (focus (exact rfl)); (focus (exact rfl))) | (simp only [List.length_append, List.length_cons, List.length_nil, List.length_map, Nat.reducePow, Nat.reduceAdd]; omega) | omega | exact List.mem_singleton_self _)
    all_goals (refine ends_d _ rfl rfl (by simp only [V.closed, closedL, and_self, and_true, true_and]) ?_; simp only [go_sem, Nat.reduceEqDiff, Nat.reduceAdd, reduceIte, reduceCtorEq])
    all_goals first | done | exact ⟨⟨by simp, _, _, rfl⟩, by simp, _, _, rfl⟩ | exact ⟨by simp, _, _, rfl⟩ | trace_state
end Av
end
section
-- ALL all2.txt
set_option linter.unusedSimpArgs false
set_option linter.unusedVariables false
set_option maxRecDepth 10000
set_option maxHeartbeats 4000000
namespace Av
open Go
attribute [local irreducible] AWp runO runP runG awS awC awCv awQ awRd awCallR awCvR awQR awR awRdR awB okR plan ris
theorem aw_v : verS [49, 46, 49, 48] = .tup [.sl 1 [V.int 1, V.int 10], V.int 0] := by kernel_rfl
theorem aw_t : textV12 [1, 10] = .tup [V.str [49, 46, 49, 48], V.int 0] := by kernel_rfl
theorem aw_c : cmpV [1, 10] [1, 9] = 1 := by decide +kernel
theorem aw_i : inV [1, 2] [2] [1, 99] = true := by decide +kernel
theorem aw_j : inV [1, 2] [2] [2, 0] = false := by decide +kernel
def c_law12_awake (f_packages_Version f_packages_Text f_packages_Compare f_packages_In : Nat) : AC := seqK [] (.reg [mc 0 (V.bool false)]) (seqK [1, 2] (.reg [xo 6 (.call f_packages_Version [(.c (V.str [49, 46, 49, 48]))]), mv 5 6, ex 7 5 0, ex 8 5 1, mv 1 7, mv 2 8]) (seqK [1, 2, 3, 4] (.reg [mv 10 1, cl 11 f_packages_Text [10], mv 9 11, ex 12 9 0, ex 13 9 1, mv 3 12, mv 4 13]) (seqK [0] (.reg [mv 14 2, bc 15 .eql 14 (V.int 0), mv 16 15, mg 17 4 16 true, xg 18 (.bin .eql (.t 17) (.c (V.int 0))) 16 true, xo 19 (.pick (.t 16) (.t 18) (.c (V.bool false))), mv 20 19, mg 21 3 20 true, xg 22 (.bin .eql (.t 21) (.c (V.str [49, 46, 49, 48]))) 20 true, xo 23 (.pick (.t 20) (.t 22) (.c (V.bool false))), mv 24 23, mg 25 1 24 true, xg 26 (.bslice 2 1 false [(.int .i64 0)] [(0, (.c (V.int 1))), (1, (.c (V.int 9)))]) 24 true, xg 27 (.call f_packages_Compare [(.t 25), (.t 26)]) 24 true, xg 28 (.bin .eql (.t 27) (.c (V.int 1))) 24 true, xo 29 (.pick (.t 24) (.t 28) (.c (V.bool false))), mv 30 29, xg 31 (.bslice 2 1 false [(.int .i64 0)] [(0, (.c (V.int 1))), (1, (.c (V.int 2)))]) 30 true, xg 32 (.bslice 1 1 false [(.int .i64 0)] [(0, (.c (V.int 2)))]) 30 true, xg 33 (.build [(.slice none 0 0), (.slice none 0 0)] [(0, 1, (.t 31)), (1, 1, (.t 32))]) 30 true, xg 34 (.bslice 2 1 false [(.int .i64 0)] [(0, (.c (V.int 1))), (1, (.c (V.int 99)))]) 30 true, xg 35 (.call f_packages_In [(.t 33), (.t 34)]) 30 true, xo 36 (.pick (.t 30) (.t 35) (.c (V.bool false))), mv 37 36, xg 38 (.bslice 2 1 false [(.int .i64 0)] [(0, (.c (V.int 1))), (1, (.c (V.int 2)))]) 37 true, xg 39 (.bslice 1 1 false [(.int .i64 0)] [(0, (.c (V.int 2)))]) 37 true, xg 40 (.build [(.slice none 0 0), (.slice none 0 0)] [(0, 1, (.t 38)), (1, 1, (.t 39))]) 37 true, xg 41 (.bslice 2 1 false [(.int .i64 0)] [(0, (.c (V.int 2))), (1, (.c (V.int 0)))]) 37 true, xg 42 (.call f_packages_In [(.t 40), (.t 41)]) 37 true, xg 43 (.un .not (.t 42)) 37 true, xo 44 (.pick (.t 37) (.t 43) (.c (V.bool false))), mv 0 44]) (.ret)))) def r_law12_awake : List ARes := [.tmp 0]
def CE_law12_awake (Γ : Env) (f : Nat) : Prop := EvN Γ f [] (V.bool true)
theorem ev_law12_awake {Γ : Env} {f f_packages_Version f_packages_Text f_packages_Compare f_packages_In : Nat} (h : Has Γ.P f 45 (c_law12_awake f_packages_Version f_packages_Text f_packages_Compare f_packages_In) r_law12_awake) (h_packages_Version : CE_packages_Version Γ f_packages_Version) (h_packages_Text : CE_packages_Text Γ f_packages_Text) (h_packages_Compare : CE_packages_Compare Γ f_packages_Compare) (h_packages_In : CE_packages_In Γ f_packages_In) : CE_law12_awake Γ f := by
  refine evN_of_body h (by simp) (by simp only [V.closed, closedL, V.noSl, noSlL, and_self, and_true, true_and]) (by simp only [V.closed, closedL, V.noSl, noSlL, and_self, and_true, true_and]) fun C hC hm => ?_
  subst hC
  unfold c_law12_awake
  have g1 := (h_packages_Version [49, 46, 49, 48] (by simp)).b
  have g2 := (h_packages_Text [1, 10] (by simp)).b
  have g3 := (h_packages_Compare [1, 10] [1, 9] (by simp) (by simp)).b
  have g4 := (h_packages_In [1, 2] [2] [1, 99] (by simp) (by simp) (by simp)).b
  have g5 := (h_packages_In [1, 2] [2] [2, 0] (by simp) (by simp) (by simp)).b
  rw [aw_v] at g1
  rw [aw_t] at g2
  rw [aw_c] at g3
  rw [aw_i] at g4
  rw [aw_j] at g5
  simp only [List.map_cons, List.map_nil, rangeV] at g2 g3 g4 g5
  repeat' (first | refine awp_seqR fun K' hK => ?_ | refine awp_regR fun K' hK => ?_ | refine awp_seqK ?_ | refine awp_skip ?_ | refine awp_block ?_ | ((first | refine awp_cond ⟨_, rfl, fun hc => ?_, fun hc => ?_⟩ | refine awB_t (fun hc => ?_) (fun hc => ?_) | refine awB_f (fun hc => ?_) (fun hc => ?_)) <;> first | exact Bool.noConfusion hc | ((try simp only [decide_eq_true_eq, decide_eq_false_iff_not, beq_iff_eq, beq_eq_false_iff_ne, ne_eq, Bool.not_eq_true', Bool.not_eq_false'] at hc); first | (exfalso; simp only [List.length_map] at hc; omega) | (exfalso; omega) | skip)) | refine awp_ret ?_ | refine awp_exit ?_ | simp (maxSteps := 1000000) only [go_sem, Nat.reduceAdd, Nat.reduceMul, Nat.reduceEqDiff, Nat.reduceLeDiff, Nat.reduceLT, Nat.reduceSub, Int.reduceEq, Int.reduceBEq, Int.reduceLT, Int.reduceLE, Int.reduceAdd, Int.reduceToNat, reduceIte, reduceCtorEq] | (refine hK _ ?_; clear hK; clear K') | refine And.intro ?_ ?_ | (apply awCs_A; (focus (first | exact g1 | exact g2 | exact g3 | exact g4 | exact g5 | exact (h_packages_Version _ (by first | assumption | omega | (simp; done))).b | exact (h_packages_Text _ (by first | assumption | omega | (simp; done))).b | exact (h_packages_Compare _ _ (by first | assumption | omega | (simp; done)) (by first | assumption | omega | (simp; done))).b | exact (h_packages_In _ _ _ (by first | assumption | omega | (simp; done)) (by first | assumption | omega | (simp; done)) (by first | assumption | omega | (simp; done))).b))) | (simp only [List.length_append, List.length_cons, List.length_nil, List.length_map, Nat.reducePow, Nat.reduceAdd]; omega) | omega | exact List.mem_singleton_self _)
  all_goals first | (refine ends_r _ rfl ?_; simp only [go_sem, Nat.reduceEqDiff, Nat.reduceAdd, reduceIte, reduceCtorEq]; done) | trace_state
end Av
end
section
-- ALL all2.txt
set_option linter.unusedSimpArgs false
set_option linter.unusedVariables false
set_option maxRecDepth 10000
set_option maxHeartbeats 4000000
namespace Av
open Go
attribute [local irreducible] AWp runO runP runG awS awC awCv awQ awRd awCallR awCvR awQR awR awRdR awB okR plan ris
theorem cmpI_cases (x y : Int) : (cmpI x y = -1 ∧ x < y) ∨ (cmpI x y = 0 ∧ x = y) ∨ (cmpI x y = 1 ∧ y < x) := by
  unfold cmpI; split
  · exact .inl ⟨rfl, by assumption⟩
  · split
    · exact .inr (.inr ⟨rfl, by omega⟩)
    · exact .inr (.inl ⟨rfl, by omega⟩)
theorem cmpN_three : ∀ (n k : Nat) (a b : List Int), cmpN n k a b = -1 ∨ cmpN n k a b = 0 ∨ cmpN n k a b = 1
  | 0, _, _, _ => by simp [cmpN]
  | n + 1, k, a, b => by
    rw [cmpN]; split
    · rcases cmpI_cases (a.getD k 0) (b.getD k 0) with h | h | h
      · exact .inl h.1
      · exact .inr (.inl h.1)
      · exact .inr (.inr h.1)
    · exact cmpN_three n (k + 1) a b
theorem cmpN_anti : ∀ (n k : Nat) (a b : List Int), cmpN n k a b = - cmpN n k b a
  | 0, _, _, _ => by simp [cmpN]
  | n + 1, k, a, b => by
    have ih := cmpN_anti n (k + 1) a b
    rw [cmpN, cmpN]
    rcases cmpI_cases (a.getD k 0) (b.getD k 0) with h | h | h <;> rcases cmpI_cases (b.getD k 0) (a.getD k 0) with h2 | h2 | h2 <;> simp only [h.1, h2.1] <;> first | omega | (simp; done) | (simp; exact ih)
theorem cmpN_trans : ∀ (n k : Nat) (a b c : List Int), cmpN n k a b ≤ 0 → cmpN n k b c ≤ 0 → cmpN n k a c ≤ 0
  | 0, _, _, _, _, _, _ => by simp [cmpN]
  | n + 1, k, a, b, c, h1, h2 => by
    have ih := cmpN_trans n (k + 1) a b c
    rw [cmpN] at h1 h2 ⊢
    rcases cmpI_cases (a.getD k 0) (b.getD k 0) with p | p | p <;> rcases cmpI_cases (b.getD k 0) (c.getD k 0) with q | q | q <;> rcases cmpI_cases (a.getD k 0) (c.getD k 0) with r | r | r <;> simp only [p.1, q.1, r.1, ne_eq, Int.reduceNeg, Int.reduceEq, not_false_eq_true, not_true_eq_false, if_true, if_false] at h1 h2 ⊢ <;> first | omega | exact ih h1 h2
theorem cmpN_zero : ∀ (n k : Nat) (a b : List Int), (∀ j, k ≤ j → a.getD j 0 = b.getD j 0) → cmpN n k a b = 0
  | 0, _, _, _, _ => rfl
  | n + 1, k, a, b, h => by
    have e : cmpI (a.getD k 0) (b.getD k 0) = 0 := by rw [h k (Nat.le_refl k)]; unfold cmpI; simp
    rw [cmpN, if_neg (by rw [e]; simp)]
    exact cmpN_zero n (k + 1) a b fun j hj => h j (by omega)
theorem cmpN_ext (m : Nat) : ∀ (n k : Nat) (a b : List Int), (∀ j, k + n ≤ j → a.getD j 0 = b.getD j 0) → cmpN (n + m) k a b = cmpN n k a b
  | 0, k, a, b, h => by rw [Nat.zero_add]; exact cmpN_zero m k a b h
  | n + 1, k, a, b, h => by
    have ih := cmpN_ext m n (k + 1) a b fun j hj => h j (by omega)
    rw [show n + 1 + m = (n + m) + 1 by omega, cmpN, cmpN, ih]
theorem getD_big {a : List Int} {j : Nat} (h : a.length ≤ j) : a.getD j 0 = 0 := by
  rw [List.getD_eq_getElem?_getD, List.getElem?_eq_none h]; rfl
theorem cmpV_at {a b : List Int} {n : Nat} (h1 : a.length ≤ n) (h2 : b.length ≤ n) : cmpV a b = cmpN n 0 a b := by
  obtain ⟨m, rfl⟩ : ∃ m, n = max a.length b.length + m := ⟨n - max a.length b.length, by omega⟩
  exact (cmpN_ext m _ 0 a b fun j hj => by rw [getD_big (by omega), getD_big (by omega)]).symm
theorem cmpV_three (a b : List Int) : cmpV a b = -1 ∨ cmpV a b = 0 ∨ cmpV a b = 1 := cmpN_three _ _ _ _
theorem cmpV_anti (a b : List Int) : cmpV a b = - cmpV b a := by
  rw [cmpV_at (n := max a.length b.length) (by omega) (by omega), cmpV_at (a := b) (n := max a.length b.length) (by omega) (by omega)]
  exact cmpN_anti _ _ _ _
theorem cmpV_trans {a b c : List Int} (h1 : cmpV a b ≤ 0) (h2 : cmpV b c ≤ 0) : cmpV a c ≤ 0 := by
  rw [cmpV_at (n := max a.length (max b.length c.length)) (by omega) (by omega)] at h1 h2 ⊢
  exact cmpN_trans _ _ _ _ _ h1 h2
theorem cmpV_more (a : List Int) : cmpV a (a ++ [0]) = 0 := by
  refine cmpN_zero _ _ _ _ fun j _ => ?_
  by_cases h : j < a.length
  · rw [List.getD_eq_getElem?_getD, List.getD_eq_getElem?_getD, List.getElem?_append_left h]
  · rw [getD_big (by omega)]
    by_cases h2 : j = a.length
    · subst h2; simp
    · rw [getD_big (by simp; omega)]
theorem itoa_no46 : ∀ (m : Nat) (n : Int), 0 ≤ n → n.toNat = m → (46 : UInt8) ∉ Lib.itoa n := by
  intro m
  induction m using Nat.strongRecOn with
  | _ m ih =>
    intro n h0 hm
    have hd : ∀ d : Nat, d < 10 → (46 : UInt8) ≠ UInt8.ofNat (48 + d) := by decide
    by_cases h : n < 10
    · rw [itoa_small h0 h]
      simp only [List.mem_singleton]
      exact hd _ (by omega)
    · rw [itoa_big (by omega)]
      simp only [List.mem_append, List.mem_singleton, not_or]
      exact ⟨ih (n / 10).toNat (by omega) _ (by omega) rfl, hd _ (by omega)⟩
theorem split_inter (c : UInt8) : ∀ (r : List (List UInt8)) (x : List UInt8), (∀ y ∈ x :: r, c ∉ y) → splitL c ([c].intercalate (x :: r)) = x :: r
  | [], x, h => by
    have : [c].intercalate [x] = x := by simp [List.intercalate]
    rw [this, splitL_none (h x (by simp))]
  | y :: r, x, h => by
    have ih := split_inter c r y fun z hz => h z (List.mem_cons_of_mem _ hz)
    have : [c].intercalate (x :: y :: r) = x ++ [c] ++ [c].intercalate (y :: r) := by rw [inter_flat, inter_flat]; simp
    rw [this, splitL_app, ih, splitL_none (h x (by simp))]; rfl
theorem verS_text {v : List Int} (h : verOk v = true) : verS (verText v) = .tup [.sl 1 (v.map V.int), V.int 0] := by
  obtain ⟨h1, h2, h3⟩ := verOk_iff h
  have hp : ∀ x ∈ v, partOk (Lib.itoa x) = true ∧ atoiV (Lib.itoa x) = x := fun x hx => part_ref (numR_itoa6 (h3 x hx).1 (by have := (h3 x hx).2; omega))
  have hs : splitL 46 (verText v) = v.map Lib.itoa := by
    unfold verText
    cases v with
    | nil => simp at h1
    | cons x r =>
      rw [List.map_cons]
      refine split_inter 46 _ _ fun y hy => ?_
      rw [← List.map_cons] at hy
      obtain ⟨z, hz, rfl⟩ := List.mem_map.1 hy
      exact itoa_no46 _ z (h3 z hz).1 rfl
  have hm : (v.map Lib.itoa).map atoiV = v := by
    rw [List.map_map]
    conv => rhs; rw [← List.map_id v]
    exact List.map_congr_left fun x hx => (hp x hx).2
  have ha : (v.map Lib.itoa).all partOk = true := List.all_eq_true.2 fun y hy => by
    obtain ⟨z, hz, rfl⟩ := List.mem_map.1 hy
    exact (hp z hz).1
  rw [verS, hs, verW, hm, ha, h]; rfl
theorem verS_form (s : List UInt8) : ∃ (zs : List Int) (e : Int), verS s = .tup [.sl 1 (zs.map V.int), V.int e] ∧ zs.length ≤ 4 := by
  rw [verS, verW]; split
  · rename_i h
    exact ⟨_, _, rfl, (verOk_iff (Bool.and_eq_true _ _ ▸ h).2).2.1⟩
  · exact ⟨[], 22, rfl, by simp⟩
theorem textV12_form (v : List Int) : ∃ (t : List UInt8) (e : Int), textV12 v = .tup [V.str t, V.int e] := by
  unfold textV12; split
  · exact ⟨_, _, rfl⟩
  · exact ⟨_, _, rfl⟩
theorem inV_below {a b : List Int} (h : b ≠ []) : inV [] b a = decide (cmpV a b < 0) := by
  cases b with
  | nil => exact absurd rfl h
  | cons _ _ => simp [inV]
theorem inV_from {a b : List Int} (h : b ≠ []) : inV b [] a = decide (cmpV a b ≥ 0) := by
  cases b with
  | nil => exact absurd rfl h
  | cons _ _ => simp [inV]
theorem inV_all (a : List Int) : inV [] [] a = true := rfl
end Av
end

/- K21 -/
import Derived.Test.YtmekajmjncbhgaaDoorK20
set_option linter.unusedVariables false
set_option linter.unusedSimpArgs false
section
set_option linter.unusedSimpArgs false
set_option linter.unusedVariables false
set_option maxRecDepth 10000
set_option maxHeartbeats 4000000
namespace Av
open Go
attribute [local irreducible] AWp W8 V7 V8 awS awC KI awQ KY Ji XK KE awR XZ awB okR WO ris
theorem acr (c : UInt8) : ∀ (r : List (List UInt8)) (x : List UInt8), [c].intercalate (x :: r) = x ++ (r.map fun y => c :: y).flatten
  | [], x => by simp [List.intercalate]
  | y :: r, x => by
    have := acr c r y
    simp only [List.intercalate, List.intersperse_cons_cons, List.flatten_cons] at this ⊢
    rw [this]; simp
theorem aa4 : ∀ r : List Int, aak r = ((r.map UH).map fun y => (58 : UInt8) :: y).flatten
  | [] => rfl
  | x :: r => by rw [aak, aa4 r]; simp
theorem aeF (l : List Int) : ([58] : List UInt8).intercalate (l.map UH) = acu l := by
  cases l with
  | nil => rfl
  | cons x r => rw [List.map_cons, acr, acu, aa4]
theorem afR (l : List Int) : (acu l).length ≤ 41 * l.length := by
  cases l with
  | nil => simp [acu]
  | cons x r => have := y9 x; have := acs r; simp [acu]; omega
def aio (c : Int) : Bool := decide (XU (YA c).name 0 Yg > 0) == decide ((YA c).name = [99, 104, 97, 99, 104, 97])
theorem adp : ∀ x ∈ ([1, 2, 3, 4, 5, 6, 7, 8, 9, 10, 11, 12, 13, 14, 15, 16] : List Int), aio x = true := by decide +kernel
theorem afL {x : Int} (h : 1 ≤ x ∧ x ≤ 16) : UH x = (YA x).name ++ if XU (YA x).name 0 Yg > 0 then [43, 118, 52] else [] := by
  have := adp x (by simp; omega)
  simp only [aio, beq_iff_eq, decide_eq_decide] at this
  unfold UH
  by_cases hc : (YA x).name = [99, 104, 97, 99, 104, 97]
  · rw [if_pos hc, if_pos (this.2 hc)]
  · rw [if_neg hc, if_neg (fun h => hc (this.1 h))]
theorem ww : ∀ (r p : List Int) (s : List UInt8), p.Nodup → ¬ (p ++ r).Nodup → Kn p r s = none
  | [], p, s, h1, h2 => absurd (by simpa using h1) h2
  | x :: r, p, s, h1, h2 => by
    rw [Kn]
    split
    · rfl
    · rename_i h
      have hx : x ∉ p := by simpa using h
      refine ww r _ _ ?_ (by simpa using h2)
      exact List.nodup_append.2 ⟨h1, by simp, fun a ha b hb e => by simp at hb; subst hb; subst e; exact hx ha⟩
def j7 (Γ : Env) (f : Nat) : Prop := ∀ (xs : List (List UInt8)) (sep : List UInt8) (hn : xs.length < 2 ^ 40) (hl : (sep.intercalate xs).length < 2 ^ 40), EvN Γ f [.sl 1 (xs.map V.str), V.str sep] (V.str (sep.intercalate xs))
def Uk (YH YV QJ Ut : Nat) : AC := QI [0] (.reg [mc 2 (V.str []), mc 3 (V.int 0)]) (QI [0, 4] (.reg [xo 4 (.mknil 1)]) (QI [0, 4] (QI [0, 4, 11, 12, 13] (.reg [mv 11 0, ln 12 11, mc 13 (V.int 0)]) (.block 0 (X2 [0, 4, 11, 12, 13] (QI [0, 4, 11, 12, 13, 14] (.reg [bn 14 .lss 13 12]) (QI [0, 4, 11, 12, 13] (.cond (.t 14) (.skip) (.exit 0)) (QI [0, 4, 11, 12, 13] (.block 1 (QI [0, 4, 6, 11, 12, 13] (.reg [ia 15 1 11 13, ld 16 1 15, mv 6 16]) (QI [0, 4, 7, 8, 11, 12, 13] (.reg [mv 18 6, cl 19 YH [18], mv 17 19, ex 20 17 0, ex 21 17 1, xo 7 (.alloc [.val (.int .i64 0), .val (.string ⟨#[]⟩), .val (.int .i64 0), .val (.int .i64 0), .val (.int .i64 0), .val (.int .i64 0), .val (.int .i64 0), .val (.int .i64 0), .val (.int .i64 0), .val (.int .i64 0), .val (.int .i64 0), .val (.int .i64 0)]), xs 12 7 20, mv 8 21]) (QI [0, 4, 7, 11, 12, 13] (QI [0, 4, 7, 8, 11, 12, 13, 23] (.reg [mv 22 8, bc 23 .neq 22 (V.int 0)]) (.cond (.t 23) (QI [2, 3] (.reg [mv 24 8, mc 2 (V.str []), mv 3 24]) (.ret)) (.skip))) (QI [0, 4, 7, 11, 12, 13] (QI [0, 4, 7, 11, 12, 13, 28] (.reg [fa 25 1 7, ld 26 1 25, cl 27 YV [26], bc 28 .gtr 27 (V.int 0)]) (.cond (.t 28) (.reg [fa 29 1 7, ld 30 1 29, bc 31 .add 30 (V.str [43, 118, 52]), fa 32 1 7, xs 1 32 31]) (.skip))) (.reg [mv 33 4, fa 34 1 7, ld 35 1 34, xo 36 (.bslice 1 1 false [(.string ⟨#[]⟩)] [(0, (.t 35))]), xo 37 (.append 1 16 [(.string ⟨#[]⟩)] (.t 33) (.t 36)), mv 4 37])))))) (.reg [bc 38 .add 13 (V.int 1), mv 13 38]))))))) (QI [4] (QI [0, 4, 39, 40, 41] (.reg [mv 39 0, ln 40 39, mc 41 (V.int 0)]) (.block 2 (X2 [0, 4, 39, 40, 41] (QI [0, 4, 39, 40, 41, 42] (.reg [bn 42 .lss 41 40]) (QI [0, 4, 39, 40, 41] (.cond (.t 42) (.skip) (.exit 2)) (QI [0, 4, 39, 40, 41] (.block 3 (QI [0, 4, 9, 10, 39, 40, 41] (.reg [mv 43 41, ia 44 1 39 41, ld 45 1 44, mv 9 43, mv 10 45]) (QI [0, 4, 39, 40, 41, 50] (.reg [mv 46 0, mv 47 9, xo 48 (.slsl 1 (.t 46) none (some (.t 47))), mv 49 10, cl 50 QJ [48, 49]]) (.cond (.t 50) (QI [2, 3] (.reg [mc 2 (V.str []), mc 3 (V.int 5)]) (.ret)) (.skip))))) (.reg [bc 51 .add 41 (V.int 1), mv 41 51]))))))) (QI [2, 3] (.reg [mv 52 4, xo 53 (.call Ut [(.t 52), (.c (V.str [58]))]), mv 2 53, mc 3 (V.int 0)]) (.ret))))) def r_suitespec_Print : List XG := [.tmp 2, .tmp 3]
def VZ (Γ : Env) (f : Nat) : Prop := ∀ (l : List Int) (hl : l.length < 2 ^ 30), EvN Γ f [.sl 1 (l.map V.int)] (VA l)
theorem xp {Γ : Env} {f YH YV QJ Ut : Nat} (h : Has Γ.P f 54 (Uk YH YV QJ Ut) r_suitespec_Print) (J6 : Vm Γ YH) (Yk : V6 Γ YV) (Qw : Jv Γ QJ) (YR : j7 Γ Ut) : VZ Γ f := by
  intro l hl
  refine Jc h (by simp) (by first | exact U5 _ | exact qI _) (by first | exact U5 _ | exact qI _) fun C hC hm => ?_
  subst hC
  unfold Uk
  repeat' (first | refine Qp fun K' hK => ?_ | refine Qt fun K' hK => ?_ | refine Qq ?_ | refine Qr ?_ | refine Ql ?_ | ((first | refine Qs ⟨_, rfl, fun hc => ?_, fun hc => ?_⟩ | refine QQ (fun hc => ?_) (fun hc => ?_) | refine QR (fun hc => ?_) (fun hc => ?_)) <;> first | exact Bool.noConfusion hc | ((try simp only [znz] at hc); first | exact znf | skip)) | refine Qv ?_ | refine Qu ?_ | simp (maxSteps := 1000000) only [go_sem, Nat.reduceAdd, Nat.reduceMul, Nat.reduceEqDiff, Nat.reduceLeDiff, Nat.reduceLT, Nat.reduceSub, Int.reduceEq, Int.reduceBEq, Int.reduceLT, Int.reduceLE, Int.reduceAdd, Int.reduceToNat, reduceIte, reduceCtorEq] | (refine hK _ ?_; clear hK; clear K') | refine And.intro ?_ ?_ | (apply QT; (focus first | exact (J6 _).b | exact (Yk _).b | exact (Qw _ _ zsd).b | exact (YR _ _ zsd zsd).b)) | exact zlo | omega | exact zms)
  refine Ju (ι := Nat) (fun k => k ≤ l.length ∧ (∀ x ∈ l.take k, abY x = false)) (fun k => J0 [(0, .sl 1 (l.map V.int)), (4, .hd 0 0 ((l.take k).map UH).length), (11, .sl 1 (l.map V.int)), (12, V.int (l.map V.int).length), (13, V.int k)] [(0, .buf true 1 (((l.take k).map UH).map V.str))] 1) (fun k => l.length - k) 0 ⟨by omega, by simp⟩ (Jb [(0, 2000)]) (Jd [(0, 2000)] (by simp only [go_sem, Nat.reduceAdd, Nat.reduceMul, Nat.reduceEqDiff, Nat.reduceLT, Int.reduceToNat, reduceIte, reduceCtorEq, and_true, true_and, implies_true, Option.some.injEq, exists_eq_left', Qk, Qm]; (repeat' (first | rfl | refine And.intro ?_ ?_ | omega | exact fun h => h | exact Exists.intro _ rfl))) (by simp only [go_sem, Nat.reduceAdd, Nat.reduceMul, Nat.reduceEqDiff, Nat.reduceLT, Int.reduceToNat, reduceIte, reduceCtorEq, and_true, true_and, implies_true, Option.some.injEq, exists_eq_left', Qk, Qm]; (repeat' (first | rfl | refine And.intro ?_ ?_ | omega | exact fun h => h | exact Exists.intro _ rfl))) (by simp [Jb]) (by simp; omega) (by omega)) fun k hk K' hL => ?_
  obtain ⟨hk, hgood⟩ := hk
  rcases hd : l.drop k with _ | ⟨x, r⟩
  · have hkl := YL hd
    have e1 : decide ((k : Int) < (((l.map V.int).length : Nat) : Int)) = false := by simp; omega
    have e3 : l.take k = l := List.take_of_length_le hkl
    rw [e3] at hgood ⊢
    have hng : ¬ l.any abY = true := by simpa using hgood
    have hr : ∀ x ∈ l, 1 ≤ x ∧ x ≤ 16 := fun x hx => by have := hgood x hx; simp [abY] at this; omega
    have hpv : Kn [] l [] = none → VA l = .tup [V.str [], V.int 5] := fun h => by rw [VA, if_neg hng, h]
    repeat' (first | refine Qp fun K' hK => ?_ | refine Qt fun K' hK => ?_ | refine Qq ?_ | refine Qr ?_ | refine Ql ?_ | ((first | refine Qs ⟨_, rfl, fun hc => ?_, fun hc => ?_⟩ | refine QQ (fun hc => ?_) (fun hc => ?_) | refine QR (fun hc => ?_) (fun hc => ?_)) <;> first | exact Bool.noConfusion hc | ((try simp only [znz] at hc); first | exact znf | skip)) | refine Qv ?_ | refine Qu ?_ | simp (maxSteps := 1000000) only [go_sem, Nat.reduceAdd, Nat.reduceMul, Nat.reduceEqDiff, Nat.reduceLeDiff, Nat.reduceLT, Nat.reduceSub, Int.reduceEq, Int.reduceBEq, Int.reduceLT, Int.reduceLE, Int.reduceAdd, Int.reduceToNat, reduceIte, reduceCtorEq, J0, e1] | (refine hK _ ?_; clear hK; clear K') | refine And.intro ?_ ?_ | (apply QT; (focus first | exact (J6 _).b | exact (Yk _).b | exact (Qw _ _ zsd).b | exact (YR _ _ zsd zsd).b)) | exact zlo | omega | exact zms)
    refine Xb (ι := Nat) (fun j => j ≤ l.length ∧ (l.take j).Nodup) (fun j => [(41, V.int j)]) (fun j => l.length - j) 0 (by omega) ⟨by omega, by simp⟩ (by repeat' first | exact XR | refine WR (by omega) (by simp only [Ob.lt, ltL, V.lt, and_self, and_true]; try omega) ?_) (fun i hi => by simp only [ovT, JV, Nat.reduceEqDiff, reduceIte]; (repeat' first | exact WQ | refine XQ ?_ ?_ | simp only [V.lt, ltL, and_self, and_true] | omega)) (by simp only [Nat.reduceAdd, ovT, JV, Nat.reduceEqDiff, reduceIte, Jr, JQ, qv, u32, u33, u34, u35, u36, u37, u38, u39, and_self, and_true, true_and]; first | done | rfl) fun j hj K'' hL2 => ?_
    obtain ⟨hj, hnd⟩ := hj
    simp only [ovT, JV, Nat.reduceEqDiff, reduceIte]
    rcases hdj : l.drop j with _ | ⟨y, r2⟩
    · have hjl := YL hdj
      have e2 : decide ((j : Int) < (((l.map V.int).length : Nat) : Int)) = false := by simp; omega
      have e4 : l.take j = l := List.take_of_length_le hjl
      rw [e4] at hnd
      have hjn := aeF l
      have hjl2 := afR l
      have hjoin := (YR (l.map UH) [58] (by simp; omega) (by rw [hjn]; omega)).b
      rw [hjn] at hjoin
      rw [adb hnd hr]
      have e5 : (l.map UH).length = l.length := by simp
      repeat' (first | refine Qp fun K' hK => ?_ | refine Qt fun K' hK => ?_ | refine Qq ?_ | refine Qr ?_ | refine Ql ?_ | ((first | refine Qs ⟨_, rfl, fun hc => ?_, fun hc => ?_⟩ | refine QQ (fun hc => ?_) (fun hc => ?_) | refine QR (fun hc => ?_) (fun hc => ?_)) <;> first | exact Bool.noConfusion hc | ((try simp only [znz] at hc); first | exact znf | skip)) | refine Qv ?_ | refine Qu ?_ | simp (maxSteps := 1000000) only [go_sem, Nat.reduceAdd, Nat.reduceMul, Nat.reduceEqDiff, Nat.reduceLeDiff, Nat.reduceLT, Nat.reduceSub, Int.reduceEq, Int.reduceBEq, Int.reduceLT, Int.reduceLE, Int.reduceAdd, Int.reduceToNat, reduceIte, reduceCtorEq, e2, Kj] | (refine hK _ ?_; clear hK; clear K') | refine And.intro ?_ ?_ | (apply QT; (focus first | exact hjoin | exact (J6 _).b | exact (Yk _).b | exact (Qw _ _ zsd).b | exact (YR _ _ zsd zsd).b)) | exact zlo | omega | exact zms)
      all_goals first | (refine Ja _ rfl ?_; simp only [go_sem, Nat.reduceEqDiff, Nat.reduceAdd, reduceIte, reduceCtorEq]; done) | trace_state
    · obtain ⟨hj', hgj, hrj⟩ := Yf hdj
      have hwj := JD (k := j) (by omega)
      have e2 : decide ((j : Int) < (((l.map V.int).length : Nat) : Int)) = true := by simp; omega
      have hA : List.take (j - 0) (l.map V.int) = (l.take j).map V.int := by rw [Nat.sub_zero, List.map_take]
      have hf := qy y (l.take j) 0
      have hc1 := (Qw (l.take j) y (by rw [List.length_take]; omega)).b
      by_cases hin : y ∈ l.take j
      · rw [decide_eq_true (hf.2 hin)] at hc1
        have hnn : ¬ l.Nodup := by
          intro h
          have := acj h hgj
          exact this hin
        rw [hpv (ww l [] [] List.nodup_nil (by simpa using hnn))]
        repeat' (first | refine Qp fun K' hK => ?_ | refine Qt fun K' hK => ?_ | refine Qq ?_ | refine Qr ?_ | refine Ql ?_ | ((first | refine Qs ⟨_, rfl, fun hc => ?_, fun hc => ?_⟩ | refine QQ (fun hc => ?_) (fun hc => ?_) | refine QR (fun hc => ?_) (fun hc => ?_)) <;> first | exact Bool.noConfusion hc | ((try simp only [znz] at hc); first | exact znf | skip)) | refine Qv ?_ | refine Qu ?_ | simp (maxSteps := 1000000) only [go_sem, Nat.reduceAdd, Nat.reduceMul, Nat.reduceEqDiff, Nat.reduceLeDiff, Nat.reduceLT, Nat.reduceSub, Int.reduceEq, Int.reduceBEq, Int.reduceLT, Int.reduceLE, Int.reduceAdd, Int.reduceToNat, reduceIte, reduceCtorEq, e2, hwj, Int.toNat_natCast, List.getElem?_map, hgj, hA] | (refine hK _ ?_; clear hK; clear K') | refine And.intro ?_ ?_ | (apply QT; (focus first | exact hc1 | exact (J6 _).b | exact (Yk _).b | exact (Qw _ _ zsd).b | exact (YR _ _ zsd zsd).b)) | exact zlo | omega | exact zms)
        all_goals first | (refine Ja _ rfl ?_; simp only [go_sem, Nat.reduceEqDiff, Nat.reduceAdd, reduceIte, reduceCtorEq]; done) | trace_state
      · rw [decide_eq_false (fun h => hin (hf.1 h))] at hc1
        have hnd2 : (l.take (j + 1)).Nodup := by
          rw [List.take_add_one, hgj]
          exact List.nodup_append.2 ⟨hnd, by simp, fun a ha b hb e => by simp at hb; subst hb; subst e; exact hin ha⟩
        repeat' (first | refine Qp fun K' hK => ?_ | refine Qt fun K' hK => ?_ | refine Qq ?_ | refine Qr ?_ | refine Ql ?_ | ((first | refine Qs ⟨_, rfl, fun hc => ?_, fun hc => ?_⟩ | refine QQ (fun hc => ?_) (fun hc => ?_) | refine QR (fun hc => ?_) (fun hc => ?_)) <;> first | exact Bool.noConfusion hc | ((try simp only [znz] at hc); first | exact znf | skip)) | refine Qv ?_ | refine Qu ?_ | simp (maxSteps := 1000000) only [go_sem, Nat.reduceAdd, Nat.reduceMul, Nat.reduceEqDiff, Nat.reduceLeDiff, Nat.reduceLT, Nat.reduceSub, Int.reduceEq, Int.reduceBEq, Int.reduceLT, Int.reduceLE, Int.reduceAdd, Int.reduceToNat, reduceIte, reduceCtorEq, e2, hwj, Int.toNat_natCast, List.getElem?_map, hgj, hA] | (refine hK _ ?_; clear hK; clear K') | refine And.intro ?_ ?_ | (apply QT; (focus first | exact hc1 | exact (J6 _).b | exact (Yk _).b | exact (Qw _ _ zsd).b | exact (YR _ _ zsd zsd).b)) | exact zlo | omega | exact zms)
        all_goals first | exact hL2 _ (j + 1) (by simp only [Nat.reduceAdd, ovT, JV, Nat.reduceEqDiff, reduceIte, Jr, JQ, qv, u32, u33, u34, u35, u36, u37, u38, u39, and_self, and_true, true_and]) ⟨by omega, hnd2⟩ (by omega) (fun a ha => by simp only [u32, u33, u34, u35, u36, u37, u38, u39]; repeat rw [if_neg (by omega)]) | trace_state
  · obtain ⟨hk', hget, hr⟩ := Yf hd
    have hw := JD (k := k) (by omega)
    have e1 : decide ((k : Int) < (((l.map V.int).length : Nat) : Int)) = true := by simp; omega
    by_cases hx : 1 ≤ x ∧ x ≤ 16
    · have hsv : Wi x = .tup [(YA x).v, V.int 0] := by rw [Wi, if_pos hx]
      have hnf := afL hx
      have hnl := y9 x
      have hgood2 : ∀ y ∈ l.take (k + 1), abY y = false := by
        rw [List.take_add_one, hget]
        intro y hy
        rcases List.mem_append.1 hy with hy | hy
        · exact hgood y hy
        · simp at hy; subst hy; simp [abY]; omega
      have hns : (l.take (k + 1)).map UH = (l.take k).map UH ++ [UH x] := by rw [List.take_add_one, hget, List.map_append]; rfl
      have hnl2 : ((l.take k).map UH).length ≤ 2 ^ 30 := by simp; omega
      generalize (l.take k).map UH = ns at *
      have hb : List.map V.str ns ++ [V.str (UH x)] = (ns ++ [UH x]).map V.str := by rw [List.map_append]; rfl
      have hln : ns.length + 1 = (ns ++ [UH x]).length := by simp
      rcases hfd : decide (XU (YA x).name 0 Yg > 0) with _ | _
      · rw [if_neg (of_decide_eq_false hfd), List.append_nil] at hnf
        rw [hnf] at hb hln hns hnl
        repeat' (first | refine Qp fun K' hK => ?_ | refine Qt fun K' hK => ?_ | refine Qq ?_ | refine Qr ?_ | refine Ql ?_ | ((first | refine Qs ⟨_, rfl, fun hc => ?_, fun hc => ?_⟩ | refine QQ (fun hc => ?_) (fun hc => ?_) | refine QR (fun hc => ?_) (fun hc => ?_)) <;> first | exact Bool.noConfusion hc | ((try simp only [znz] at hc); first | exact znf | skip)) | refine Qv ?_ | refine Qu ?_ | simp (maxSteps := 1000000) only [go_sem, Nat.reduceAdd, Nat.reduceMul, Nat.reduceEqDiff, Nat.reduceLeDiff, Nat.reduceLT, Nat.reduceSub, Int.reduceEq, Int.reduceBEq, Int.reduceLT, Int.reduceLE, Int.reduceAdd, Int.reduceToNat, reduceIte, reduceCtorEq, J0, e1, hsv, hw, hfd, Int.toNat_natCast, List.getElem?_map, hget, QV.v, QV.cells, Kj, hb, hln] | (refine hK _ ?_; clear hK; clear K') | refine And.intro ?_ ?_ | (apply QT; (focus first | exact (J6 _).b | exact (Yk _).b | exact (Qw _ _ zsd).b | exact (YR _ _ zsd zsd).b)) | exact zlo | omega | exact zms)
        all_goals first
          | (refine hL _ (k + 1) (Jb [(0, 22001)]) ⟨by omega, hgood2⟩ (by omega) ?_
             rw [hns]
             exact Jd [(0, 22001)] (by simp only [go_sem, Nat.reduceAdd, Nat.reduceMul, Nat.reduceEqDiff, Nat.reduceLT, Int.reduceToNat, reduceIte, reduceCtorEq, and_true, true_and, implies_true, Option.some.injEq, exists_eq_left', Qk, Qm]; (repeat' (first | rfl | refine And.intro ?_ ?_ | omega | exact fun h => h | exact Exists.intro _ rfl))) (by simp only [go_sem, Nat.reduceAdd, Nat.reduceMul, Nat.reduceEqDiff, Nat.reduceLT, Int.reduceToNat, reduceIte, reduceCtorEq, and_true, true_and, implies_true, Option.some.injEq, exists_eq_left', Qk, Qm]; (repeat' (first | rfl | refine And.intro ?_ ?_ | omega | exact fun h => h | exact Exists.intro _ rfl))) (by simp [Jb]) (by simp; omega) (by omega))
          | (simp only [List.length_append, List.length_singleton]; omega)
          | trace_state
      · rw [if_pos (of_decide_eq_true hfd)] at hnf
        rw [hnf] at hb hln hns hnl
        repeat' (first | refine Qp fun K' hK => ?_ | refine Qt fun K' hK => ?_ | refine Qq ?_ | refine Qr ?_ | refine Ql ?_ | ((first | refine Qs ⟨_, rfl, fun hc => ?_, fun hc => ?_⟩ | refine QQ (fun hc => ?_) (fun hc => ?_) | refine QR (fun hc => ?_) (fun hc => ?_)) <;> first | exact Bool.noConfusion hc | ((try simp only [znz] at hc); first | exact znf | skip)) | refine Qv ?_ | refine Qu ?_ | simp (maxSteps := 1000000) only [go_sem, Nat.reduceAdd, Nat.reduceMul, Nat.reduceEqDiff, Nat.reduceLeDiff, Nat.reduceLT, Nat.reduceSub, Int.reduceEq, Int.reduceBEq, Int.reduceLT, Int.reduceLE, Int.reduceAdd, Int.reduceToNat, reduceIte, reduceCtorEq, J0, e1, hsv, hw, hfd, Int.toNat_natCast, List.getElem?_map, hget, QV.v, QV.cells, Kj, hb, hln] | (refine hK _ ?_; clear hK; clear K') | refine And.intro ?_ ?_ | (apply QT; (focus first | exact (J6 _).b | exact (Yk _).b | exact (Qw _ _ zsd).b | exact (YR _ _ zsd zsd).b)) | exact zlo | omega | exact zms)
        all_goals first
          | (refine hL _ (k + 1) (Jb [(0, 27001)]) ⟨by omega, hgood2⟩ (by omega) ?_
             rw [hns]
             exact Jd [(0, 27001)] (by simp only [go_sem, Nat.reduceAdd, Nat.reduceMul, Nat.reduceEqDiff, Nat.reduceLT, Int.reduceToNat, reduceIte, reduceCtorEq, and_true, true_and, implies_true, Option.some.injEq, exists_eq_left', Qk, Qm]; (repeat' (first | rfl | refine And.intro ?_ ?_ | omega | exact fun h => h | exact Exists.intro _ rfl))) (by simp only [go_sem, Nat.reduceAdd, Nat.reduceMul, Nat.reduceEqDiff, Nat.reduceLT, Int.reduceToNat, reduceIte, reduceCtorEq, and_true, true_and, implies_true, Option.some.injEq, exists_eq_left', Qk, Qm]; (repeat' (first | rfl | refine And.intro ?_ ?_ | omega | exact fun h => h | exact Exists.intro _ rfl))) (by simp [Jb]) (by simp; omega) (by omega))
          | (simp only [List.length_append, List.length_singleton] at *; omega)
          | trace_state
    · have hsv : Wi x = .tup [(YA x).v, V.int 8] := by rw [Wi, if_neg hx]
      have hbad : VA l = .tup [V.str [], V.int 8] := by
        rw [VA, if_pos]
        rw [List.any_eq_true]
        exact ⟨x, List.mem_of_getElem? hget, by simp [abY]; omega⟩
      rw [hbad]
      repeat' (first | refine Qp fun K' hK => ?_ | refine Qt fun K' hK => ?_ | refine Qq ?_ | refine Qr ?_ | refine Ql ?_ | ((first | refine Qs ⟨_, rfl, fun hc => ?_, fun hc => ?_⟩ | refine QQ (fun hc => ?_) (fun hc => ?_) | refine QR (fun hc => ?_) (fun hc => ?_)) <;> first | exact Bool.noConfusion hc | ((try simp only [znz] at hc); first | exact znf | skip)) | refine Qv ?_ | refine Qu ?_ | simp (maxSteps := 1000000) only [go_sem, Nat.reduceAdd, Nat.reduceMul, Nat.reduceEqDiff, Nat.reduceLeDiff, Nat.reduceLT, Nat.reduceSub, Int.reduceEq, Int.reduceBEq, Int.reduceLT, Int.reduceLE, Int.reduceAdd, Int.reduceToNat, reduceIte, reduceCtorEq, J0, e1, hsv, hw, Int.toNat_natCast, List.getElem?_map, hget, QV.v, QV.cells] | (refine hK _ ?_; clear hK; clear K') | refine And.intro ?_ ?_ | (apply QT; (focus first | exact (J6 _).b | exact (Yk _).b | exact (Qw _ _ zsd).b | exact (YR _ _ zsd zsd).b)) | exact zlo | omega | exact zms)
      all_goals first | (refine Ja _ rfl ?_; simp only [go_sem, Nat.reduceEqDiff, Nat.reduceAdd, reduceIte, reduceCtorEq]; done) | trace_state
end Av
end

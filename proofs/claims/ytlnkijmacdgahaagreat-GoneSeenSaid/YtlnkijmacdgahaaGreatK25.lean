/- K25 -/
import Derived.Test.YtlnkijmacdgahaaGreatK24
import Derived.Test.YtlnkijmacdgahaaGreatK23
import Derived.Test.YtlnkijmacdgahaaGreatK12
import Derived.Test.YtlnkijmacdgahaaGreatK14
set_option linter.unusedVariables false
set_option linter.unusedSimpArgs false
noncomputable section
set_option maxRecDepth 10000
set_option maxHeartbeats 4000000
namespace Av
open Go
attribute [local irreducible] AWp VA K4 jR awS awC aa9 awQ abD QZ V9 aay awR Ug awB okR jL ris
def afK (f : Qa) : Bool := f.alg == 0 && f.bits == 0
def VU (f : Qa) : Bool :=
  if f.kind = 1 ∨ f.kind = 8 then decide (Qn f.alg f.bits > 0) && f.num == 0 && f.text == []
  else if f.kind = 2 then afK f && f.text == [] && decide (f.num ≥ 0) && decide (f.num ≤ 65535)
  else if f.kind = 3 then decide (Qn f.alg f.bits > 0) && (Wj f.alg).kind == 2 && decide (f.num ≥ 0) && decide (f.num ≤ 2147483648) && f.text == []
  else if f.kind = 4 ∨ f.kind = 5 then afK f && f.text == [] && decide (f.num ≥ 1) && decide (f.num ≤ 4)
  else if f.kind = 6 then afK f && f.text == [] && decide (f.num ≥ 0) && decide (f.num ≤ 2147483648)
  else if f.kind = 7 then afK f && f.num == 0 && Qx f.text
  else false
def Yg (f : Qa) : Bool := Qx f.host && Qx f.subj && decide (f.mach ≥ 0) && decide (f.mach ≤ 1099511627776) && (decide (f.day ≥ 0) && decide (f.day ≤ 40000) && decide (f.conf ≥ 1) && decide (f.conf ≤ 100)) && !decide (f.src < 1) && !decide (f.src > 7) && VU f
def XQ := qd Proofs.Tryz.f134 []
def Vh (Γ : Env) (f : Nat) : Prop := ∀ (f0 : Qa) (ht : f0.text.length < 2 ^ 60), EvN Γ f [f0.v] (V.bool (VU f0))
theorem wW {Γ : Env} {f : Nat} (h : Has Γ.P f 114 XQ.1.1.ac XQ.1.2) (z0 : Wz Γ 58) (z1 : Kp Γ 185) (z2 : Y4 Γ 59) : Vh Γ f := by
  intro f0 ht
  refine Qb h zsi zcl zcl fun C hC hm => ?_
  subst hC
  simp only [XQ, qd, DC.ac]
  obtain ⟨src, host, mach, day, conf, kind, subj, alg, bits, num, text⟩ := f0
  have hN := (z2 text ht).b
  simp only [VU, afK, Qa.v, Qa.cells] at *
  generalize hv : decide (Qn alg bits > 0) = vv
  generalize hk : (Wj alg).kind = kk
  generalize hkb : (kk == 2) = kb
  generalize hd0 : decide (num ≥ 0) = d0
  generalize hd1 : decide (num ≤ 65535) = d1
  generalize hd2 : decide (num ≤ 2147483648) = d2
  generalize hd3 : decide (num ≥ 1) = d3
  generalize hd4 : decide (num ≤ 4) = d4
  generalize hnn : Qx text = nn at *
  generalize ha : (alg == 0) = a0
  generalize hb : (bits == 0) = b0
  generalize htx : (text == []) = t0
  generalize hnm : (num == 0) = n0
  have E : ∀ n : Int, kind ≠ n → (kind == n) = false := fun n h => by simpa using h
  by_cases k1 : kind = 1
  · subst k1
    repeat' (first | (refine zsk ?_; intro K' hK) | refine zsp ?_ | (refine zsc ?_ ?_ <;> intro hc <;> first | exact znh | try simp only [znz] at hc) | simp (maxSteps := 1000000) only [go_sem, Nat.reduceAdd, Nat.reduceMul, Nat.reduceEqDiff, Nat.reduceLeDiff, Nat.reduceLT, Nat.reduceSub, Int.reduceEq, Int.reduceBEq, Int.reduceLT, Int.reduceLE, Int.reduceAdd, Int.reduceToNat, reduceIte, reduceCtorEq, hv, hk, hkb, ha, hb, htx, hnm, hd0, hd1, hd2, hd3, hd4] | (refine hK _ ?_; clear hK K') | apply zan | (apply Qv; (focus first | exact (z0 _ _).b | exact (z1 _).b | exact (z2 _ zsd).b)) | exact zsq | fail)
    all_goals first | (refine Qi _ rfl ?_; simp only [go_sem, Nat.reduceEqDiff, Nat.reduceAdd, reduceIte, reduceCtorEq]; simp_all; done) | trace_state
  by_cases k8 : kind = 8
  · subst k8
    (have zx := And.intro hv (And.intro hk (And.intro hkb (And.intro ha (And.intro hb (And.intro htx (And.intro hnm (And.intro hd0 (And.intro hd1 (And.intro hd2 (And.intro hd3 hd4))))))))))); refine zgo ?_; repeat' first | exact zt | apply zan | intro hc
    all_goals first | (refine Qi _ rfl ?_; simp only [go_sem, Nat.reduceEqDiff, Nat.reduceAdd, reduceIte, reduceCtorEq]; simp_all; done) | trace_state
  by_cases k2 : kind = 2
  · subst k2
    (have zx := And.intro hv (And.intro hk (And.intro hkb (And.intro ha (And.intro hb (And.intro htx (And.intro hnm (And.intro hd0 (And.intro hd1 (And.intro hd2 (And.intro hd3 hd4))))))))))); refine zgo ?_; repeat' first | exact zt | apply zan | intro hc
    all_goals first | (refine Qi _ rfl ?_; simp only [go_sem, Nat.reduceEqDiff, Nat.reduceAdd, reduceIte, reduceCtorEq]; simp_all; done) | trace_state
  by_cases k3 : kind = 3
  · subst k3
    (have zx := And.intro hv (And.intro hk (And.intro hkb (And.intro ha (And.intro hb (And.intro htx (And.intro hnm (And.intro hd0 (And.intro hd1 (And.intro hd2 (And.intro hd3 hd4))))))))))); refine zgo ?_; repeat' first | exact zt | apply zan | intro hc
    all_goals first | (refine Qi _ rfl ?_; simp only [go_sem, Nat.reduceEqDiff, Nat.reduceAdd, reduceIte, reduceCtorEq]; simp_all; done) | trace_state
  by_cases k4 : kind = 4
  · subst k4
    (have zx := And.intro hv (And.intro hk (And.intro hkb (And.intro ha (And.intro hb (And.intro htx (And.intro hnm (And.intro hd0 (And.intro hd1 (And.intro hd2 (And.intro hd3 hd4))))))))))); refine zgo ?_; repeat' first | exact zt | apply zan | intro hc
    all_goals first | (refine Qi _ rfl ?_; simp only [go_sem, Nat.reduceEqDiff, Nat.reduceAdd, reduceIte, reduceCtorEq]; simp_all; done) | trace_state
  by_cases k5 : kind = 5
  · subst k5
    (have zx := And.intro hv (And.intro hk (And.intro hkb (And.intro ha (And.intro hb (And.intro htx (And.intro hnm (And.intro hd0 (And.intro hd1 (And.intro hd2 (And.intro hd3 hd4))))))))))); refine zgo ?_; repeat' first | exact zt | apply zan | intro hc
    all_goals first | (refine Qi _ rfl ?_; simp only [go_sem, Nat.reduceEqDiff, Nat.reduceAdd, reduceIte, reduceCtorEq]; simp_all; done) | trace_state
  by_cases k6 : kind = 6
  · subst k6
    (have zx := And.intro hv (And.intro hk (And.intro hkb (And.intro ha (And.intro hb (And.intro htx (And.intro hnm (And.intro hd0 (And.intro hd1 (And.intro hd2 (And.intro hd3 hd4))))))))))); refine zgo ?_; repeat' first | exact zt | apply zan | intro hc
    all_goals first | (refine Qi _ rfl ?_; simp only [go_sem, Nat.reduceEqDiff, Nat.reduceAdd, reduceIte, reduceCtorEq]; simp_all; done) | trace_state
  by_cases k7 : kind = 7
  · subst k7
    (have zx := And.intro hv (And.intro hk (And.intro hkb (And.intro ha (And.intro hb (And.intro htx (And.intro hnm (And.intro hd0 (And.intro hd1 (And.intro hd2 (And.intro hd3 hd4))))))))))); refine zgo ?_; repeat' first | exact zt | apply zan | intro hc
    all_goals first | (refine Qi _ rfl ?_; simp only [go_sem, Nat.reduceEqDiff, Nat.reduceAdd, reduceIte, reduceCtorEq]; simp_all; done) | trace_state
  repeat' (first | (refine zsk ?_; intro K' hK) | refine zsp ?_ | (refine zsc ?_ ?_ <;> intro hc <;> first | exact znh | try simp only [znz] at hc) | simp (maxSteps := 1000000) only [go_sem, Nat.reduceAdd, Nat.reduceMul, Nat.reduceEqDiff, Nat.reduceLeDiff, Nat.reduceLT, Nat.reduceSub, Int.reduceEq, Int.reduceBEq, Int.reduceLT, Int.reduceLE, Int.reduceAdd, Int.reduceToNat, reduceIte, reduceCtorEq, hv, hk, hkb, ha, hb, htx, hnm, hd0, hd1, hd2, hd3, hd4, E 1 k1, E 8 k8, E 2 k2, E 3 k3, E 4 k4, E 5 k5, E 6 k6, E 7 k7] | (refine hK _ ?_; clear hK K') | apply zan | (apply Qv; (focus first | exact (z0 _ _).b | exact (z1 _).b | exact (z2 _ zsd).b)) | exact zsq | fail)
  all_goals first | (refine Qi _ rfl ?_; simp only [go_sem, Nat.reduceEqDiff, Nat.reduceAdd, reduceIte, reduceCtorEq]; simp [*]; done) | trace_state
def W6 := qd Proofs.Tryz.f96 []
def Uk (Γ : Env) (f : Nat) : Prop := ∀ (f0 : Qa) (hh : f0.host.length < 2 ^ 60) (hs : f0.subj.length < 2 ^ 60) (ht : f0.text.length < 2 ^ 60), EvN Γ f [f0.v] (V.int (bif Yg f0 then 0 else 24))
theorem abw {Γ : Env} {f : Nat} (h : Has Γ.P f 62 W6.1.1.ac W6.1.2) (z0 : Y4 Γ 59) (z1 : Vh Γ 134) : Uk Γ f := by
  intro f0 hh hs ht
  refine Qb h zsi zcl zcl fun C hC hm => ?_
  subst hC
  simp only [W6, qd, DC.ac]
  obtain ⟨src, host, mach, day, conf, kind, subj, alg, bits, num, text⟩ := f0
  have hN1 := (z0 host hh).b
  have hN2 := (z0 subj hs).b
  have hC := (z1 ⟨src, host, mach, day, conf, kind, subj, alg, bits, num, text⟩ ht).b
  simp only [Yg, Qa.v, Qa.cells] at *
  generalize hd1 : decide (mach ≥ 0) = d1
  generalize hd2 : decide (mach ≤ 1099511627776) = d2
  generalize hd3 : decide (day ≥ 0) = d3
  generalize hd4 : decide (day ≤ 40000) = d4
  generalize hd5 : decide (conf ≥ 1) = d5
  generalize hd6 : decide (conf ≤ 100) = d6
  generalize hd7 : decide (src < 1) = d7
  generalize hd8 : decide (src > 7) = d8
  generalize VU ⟨src, host, mach, day, conf, kind, subj, alg, bits, num, text⟩ = cc at *
  generalize Qx host = n1 at *
  generalize Qx subj = n2 at *
  (have zx := And.intro hd1 (And.intro hd2 (And.intro hd3 (And.intro hd4 (And.intro hd5 (And.intro hd6 (And.intro hd7 hd8))))))); refine zgo ?_; repeat' first | exact zt | apply zan | intro hc
  all_goals first | (refine Qi _ rfl ?_; simp only [go_sem, Nat.reduceEqDiff, Nat.reduceAdd, reduceIte, reduceCtorEq]; simp_all; done) | trace_state
def Qa.Sz (f : Qa) : Prop := f.host.length < 2 ^ 60 ∧ f.subj.length < 2 ^ 60 ∧ f.text.length < 2 ^ 60
def ltF (a b : Qa) : Bool := decide (acg a b < 0)
def ak8 (l : List Qa) : Bool := okP Yg ltF l l.length
def Ku (l : List Qa) : Bool := ak8 l && decide ((l.length : Int) ≤ 400)
theorem apj (b : Bool) : ((bif b then (0 : Int) else 24) != 0) = !b := by cases b <;> rfl
def Ww := qd Proofs.Tryz.f63 [zhn 17]
def X9 (Γ : Env) (f : Nat) : Prop := ∀ (l : List Qa) (hl : l.length < 2 ^ 40) (hz : ∀ x ∈ l, x.Sz), EvN Γ f [.sl 11 (l.map Qa.v)] (V.bool (Ku l))
attribute [local go_sem] List.length_map Qa.cells Qa.v JY in
theorem aat {Γ : Env} {f : Nat} (h : Has Γ.P f 33 Ww.1.1.ac Ww.1.2) (z0 : Uk Γ 96) (z1 : Uj Γ 97) : X9 Γ f := by
  intro l hl hz
  refine Qb h zsi zcl zcl fun C hC hm => ?_
  subst hC
  simp only [Ww, qd, DC.ac]
  refine zgo ?_; repeat' first | exact zt | apply zan | intro hc
  refine Qp (ι := Nat) (fun k => k ≤ l.length ∧ okP Yg ltF l k = true) (fun k => JY [(0, .sl 11 (l.map Qa.v)), (5, .sl 11 (l.map Qa.v)), (6, V.int l.length), (7, V.int k)] [] 0) (fun k => l.length - k) 0 ⟨Nat.zero_le _, rfl⟩ (Qd []) (Qh [] (by simp only [go_sem, zwl, Nat.reduceAdd, Nat.reduceMul, Nat.reduceEqDiff, Nat.reduceLT, Int.reduceToNat, reduceIte, reduceCtorEq, List.length_map] <;> exact zcc) zwa (by simp) (by simp) (by omega)) fun k hk K' hL => ?_
  obtain ⟨hk, hinv⟩ := hk
  rcases hd : l.drop k with _ | ⟨x, r⟩
  · have hkl := QB hd
    have e1 : decide ((k : Int) < (l.length : Int)) = false := by simp; omega
    have hkk : k = l.length := by omega
    subst hkk
    have hn : Ku l = decide ((l.length : Int) ≤ 400) := by rw [Ku, ak8, hinv, Bool.true_and]
    rw [hn]
    (have zx := e1); exact zg
  · obtain ⟨hk', hget, hr⟩ := Qo hd
    have hw := Qg (k := k) (by omega)
    have e1 : decide ((k : Int) < (l.length : Int)) = true := by simp; omega
    have hxz := hz x (List.mem_of_getElem? hget)
    have hnx := (z0 x hxz.1 hxz.2.1 hxz.2.2).b
    have hbad : okP Yg ltF l (k + 1) = false → Ku l = false := fun h => by rw [Ku, ak8, aoQ h (by omega), Bool.false_and]
    have hce := apj (Yg x)
    simp only [Qa.v, Qa.cells] at hnx
    rcases hx : Yg x with _ | _
    · have hb : okP Yg ltF l (k + 1) = false := by rw [abN, hget]; simp [hx]
      rw [hbad hb]
      rw [hx] at hce hnx
      (have zx := And.intro e1 (And.intro hw (And.intro hce hget))); exact zg
    · rw [hx] at hce hnx
      rcases k with _ | k
      · have hw0 : IntKind.i64.wrap 1 = ((1 : Nat) : Int) := by decide
        have hg1 : okP Yg ltF l (0 + 1) = true := by rw [aoN hget, hx]
        have e2 : decide (((0 : Nat) : Int) > 0) = false := rfl
        (have zx := And.intro e1 (And.intro e2 (And.intro hw (And.intro hw0 (And.intro hce hget))))); refine zgo ?_; repeat' first | exact zt | apply zan | intro hc
        all_goals first | exact hL _ 1 (Qd []) ⟨by omega, hg1⟩ (by omega) (zwg []) | trace_state
      · have e2 : decide (((k + 1 : Nat) : Int) > 0) = true := decide_eq_true (by omega)
        have hw2 : IntKind.i64.wrap (((k + 1 : Nat) : Int) - 1) = (k : Int) := by rw [QE (by omega) (by omega)]; omega
        obtain ⟨y, hgy⟩ : ∃ y, l[k]? = some y := ⟨_, List.getElem?_eq_getElem (by omega)⟩
        have hnext := am2 (p := Yg) (q := ltF) hget hgy
        rw [hinv, hx] at hnext
        have ho := (z1 y x).b
        simp only [Qa.v, Qa.cells] at ho
        rcases hb : ltF y x with _ | _
        · have e3 : decide (acg y x ≥ 0) = true := by
            rw [ltF, decide_eq_false_iff_not] at hb
            exact decide_eq_true (by omega)
          rw [hbad (by rw [hnext, hb]; rfl)]
          generalize acg y x = oo at *
          (have zx := And.intro e1 (And.intro e2 (And.intro e3 (And.intro hw (And.intro hw2 (And.intro hce (And.intro hget hgy))))))); exact zg
        · have e3 : decide (acg y x ≥ 0) = false := by
            rw [ltF, decide_eq_true_iff] at hb
            exact decide_eq_false (by omega)
          have hg2 : okP Yg ltF l (k + 2) = true := by rw [hnext, hb]; rfl
          generalize acg y x = oo at *
          (have zx := And.intro e1 (And.intro e2 (And.intro e3 (And.intro hw (And.intro hw2 (And.intro hce (And.intro hget hgy))))))); refine zgo ?_; repeat' first | exact zt | apply zan | intro hc
          all_goals first | exact hL _ (k + 2) (Qd []) ⟨by omega, hg2⟩ (by omega) (zwg []) | trace_state
def Y2 (l : List Qa) (gap : Int) : Int := if Ku l = true then (if gap < 0 ∨ gap > 4000 then 2 else 0) else 24
theorem aoP {α : Type} {p : α → Bool} {q : α → α → Bool} {l : List α} {k i : Nat} {x : α} (h : okP p q l k = true) (hi : i < k) (hx : l[i]? = some x) : p x = true := by
  rw [okP, List.all_eq_true] at h
  have := h i (List.mem_range.2 hi)
  rw [hx] at this
  simp only [Bool.and_eq_true] at this
  exact this.1
theorem adY {l : List Qa} (h : Ku l = true) : l.length ≤ 400 ∧ ∀ x ∈ l, Yg x = true := by
  rw [Ku, Bool.and_eq_true, decide_eq_true_iff] at h
  refine ⟨by omega, fun x hx => ?_⟩
  obtain ⟨i, hi, rfl⟩ := List.getElem_of_mem hx
  exact aoP h.1 hi (List.getElem?_eq_getElem hi)
theorem al2 {x : Qa} (h : Yg x = true) : apf x := by
  simp only [Yg, Bool.and_eq_true, decide_eq_true_iff] at h
  exact ⟨by omega, by omega⟩
theorem anx {l : List Qa} {gap : Int} (h : Y2 l gap = 0) : l.length ≤ 400 ∧ ∀ x ∈ l, apf x := by
  unfold Y2 at h
  split at h
  · rename_i hn
    exact ⟨(adY hn).1, fun x hx => al2 ((adY hn).2 x hx)⟩
  · cases h
def Wv := qd Proofs.Tryz.f51 []
def VM (Γ : Env) (f : Nat) : Prop := ∀ (l : List Qa) (gap : Int) (hl : l.length < 2 ^ 40) (hz : ∀ x ∈ l, x.Sz), EvN Γ f [.sl 11 (l.map Qa.v), V.int gap] (V.int (Y2 l gap))
theorem aas {Γ : Env} {f : Nat} (h : Has Γ.P f 16 Wv.1.1.ac Wv.1.2) (z0 : X9 Γ 63) : VM Γ f := by
  intro l gap hl hz
  refine Qb h zsi zcl zcl fun C hC hm => ?_
  subst hC
  simp only [Wv, qd, DC.ac]
  have hn := (z0 l hl hz).b
  unfold Y2
  rcases hb : Ku l with _ | _
  · rw [hb] at hn
    rw [if_neg (by decide)]
    exact zg
  · rw [hb] at hn
    rw [if_pos rfl]
    by_cases g1 : gap < 0
    · have e1 : decide (gap < 0) = true := decide_eq_true g1
      rw [if_pos (.inl g1)]
      (have zx := e1); exact zg
    · have e1 : decide (gap < 0) = false := decide_eq_false g1
      by_cases g2 : gap > 4000
      · have e2 : decide (gap > 4000) = true := decide_eq_true g2
        rw [if_pos (.inr g2)]
        (have zx := And.intro e1 e2); exact zg
      · have e2 : decide (gap > 4000) = false := decide_eq_false g2
        rw [if_neg (by omega)]
        (have zx := And.intro e1 e2); exact zg
structure Q6 where
  num : Nat
  hosts : List (List UInt8)
  machs : List Int
  finds : List Nat
def mhd (a : Nat) (ms : List Int) : V := if ms = [] then KC else .hd a 0 ms.length
def Q6.own (e : Q6) (a : Nat) : V := .agg [V.int e.num, .hd a 0 e.hosts.length, mhd (a + 1) e.machs, .hd (a + 2) 0 e.finds.length]
def V6 : Nat → List Q6 → List V
  | _, [] => []
  | n, e :: r => e.own n :: V6 (n + 3) r
theorem WB : ∀ (es : List Q6) (n : Nat), (V6 n es).length = es.length
  | [], _ => rfl
  | e :: r, n => by simp only [V6, List.length_cons, WB r]
theorem W1 : ∀ (es : List Q6) (n j : Nat), (V6 n es)[j]? = (es[j]?).map fun e => e.own (n + 3 * j)
  | [], n, j => by simp [V6]
  | e :: r, n, 0 => by simp [V6]
  | e :: r, n, j + 1 => by
    simp only [V6, List.getElem?_cons_succ]
    rw [W1 r (n + 3) j, show n + 3 + 3 * j = n + 3 * (j + 1) by omega]
def mob (ms : List Int) : Ob := if ms = [] then .dead else .buf true 1 (ms.map V.int)
def aaW : List Q6 → List Ob
  | [] => []
  | e :: r => .buf true 1 (e.hosts.map V.str) :: mob e.machs :: .buf true 1 (QX e.finds) :: aaW r
theorem xH : ∀ es : List Q6, (aaW es).length = 3 * es.length
  | [] => rfl
  | e :: r => by simp only [aaW, List.length_cons, xH r]; omega
theorem Y1 : ∀ (es : List Q6) (j : Nat), (aaW es)[3 * j]? = (es[j]?).map fun e => .buf true 1 (e.hosts.map V.str)
  | [], j => by simp [aaW]
  | e :: r, 0 => by simp [aaW]
  | e :: r, j + 1 => by
    rw [show 3 * (j + 1) = 3 * j + 1 + 1 + 1 by omega]
    simp only [aaW, List.getElem?_cons_succ, Y1 r j]
theorem W0 : ∀ (es : List Q6) (j : Nat), (aaW es)[3 * j + 1]? = (es[j]?).map fun e => mob e.machs
  | [], j => by simp [aaW]
  | e :: r, 0 => by simp [aaW]
  | e :: r, j + 1 => by
    rw [show 3 * (j + 1) + 1 = (3 * j + 1) + 1 + 1 + 1 by omega]
    simp only [aaW, List.getElem?_cons_succ, W0 r j]
theorem Y0 : ∀ (es : List Q6) (j : Nat), (aaW es)[3 * j + 2]? = (es[j]?).map fun e => .buf true 1 (QX e.finds)
  | [], j => by simp [aaW]
  | e :: r, 0 => by simp [aaW]
  | e :: r, j + 1 => by
    rw [show 3 * (j + 1) + 2 = (3 * j + 2) + 1 + 1 + 1 by omega]
    simp only [aaW, List.getElem?_cons_succ, Y0 r j]
theorem aip : ∀ a b : List Q6, aaW (a ++ b) = aaW a ++ aaW b
  | [], b => rfl
  | e :: r, b => by simp only [List.cons_append, aaW, aip r b]
def aaX (x : List Nat) (nm : Nat → Nat) (k : Nat) : Nat := match x[k]? with | some a => a | none => nm (k - x.length)
def eO (p K W : List Nat) (fx : List Ob) (es : List Q6) : List Ob := .box true (QX p) :: .map (QX K) (QX W) 0 :: .obuf true 4 (V6 (3 + fx.length) es) :: (fx ++ aaW es)
theorem acQ (p K W : List Nat) (fx : List Ob) (es : List Q6) : (eO p K W fx es).length = 3 + fx.length + 3 * es.length := by
  simp only [eO, List.length_cons, List.length_append, xH]; omega
theorem yv (p K W : List Nat) (fx : List Ob) (es : List Q6) (q : Nat) : (eO p K W fx es)[3 + fx.length + q]? = (aaW es)[q]? := by
  rw [show 3 + fx.length + q = fx.length + q + 1 + 1 + 1 by omega]
  simp only [eO, List.getElem?_cons_succ]
  rw [List.getElem?_append_right (by omega)]; congr 1; omega
theorem aoU (τ : Nat → Nat) (a : Nat) (ms : List Int) : (mhd a ms).ren τ = mhd (τ a) ms := by
  unfold mhd; split <;> rfl
theorem ap8 {a n : Nat} (ms : List Int) (h : a < n) : (mhd a ms).lt n := by
  unfold mhd; split
  · simp only [V.lt]
  · exact h
theorem aiu {τ : Nat → Nat} : ∀ (es : List Q6) (n j : Nat), (US τ (V6 n es))[j]? = (es[j]?).map fun e => .agg [V.int (e.num : Nat), .hd (τ (n + 3 * j)) 0 e.hosts.length, mhd (τ (n + 3 * j + 1)) e.machs, .hd (τ (n + 3 * j + 2)) 0 e.finds.length]
  | [], n, j => by simp [V6, US]
  | e :: r, n, 0 => by simp [V6, US, Q6.own, V.ren, aoU]
  | e :: r, n, j + 1 => by
    simp only [V6, US, List.getElem?_cons_succ]
    rw [aiu r (n + 3) j, show n + 3 + 3 * j = n + 3 * (j + 1) by omega]
theorem akM : ∀ (es : List Q6) (n m : Nat), n + 3 * es.length ≤ m → ltL m (V6 n es)
  | [], _, _, _ => trivial
  | e :: r, n, m, h => by
    simp only [List.length_cons] at h
    refine ⟨⟨trivial, ?_, ap8 _ (by omega), ?_, trivial⟩, akM r (n + 3) m (by omega)⟩
    · show n < m; omega
    · show n + 2 < m; omega
theorem KB {x : List Nat} {nm : Nat → Nat} {k : Nat} (h : x.length ≤ k) : aaX x nm k = nm (k - x.length) := by
  rw [aaX, List.getElem?_eq_none h]
theorem wG {x : List Nat} {nm : Nat → Nat} {k : Nat} (h : k < x.length) : aaX x nm k = x[k] := by
  rw [aaX, List.getElem?_eq_getElem h]
theorem wE {x : List Nat} {nm : Nat → Nat} {k : Nat} (h : k < x.length) : aaX x nm k = x.getD k 0 := by
  rw [wG h, List.getD_eq_getElem?_getD, List.getElem?_eq_getElem h]; rfl
theorem ajv {p : List Nat} {τ : Nat → Nat} {n : Nat} {c : Bool} : (Ob.box c (QX p)).weak τ n (.box c (QX p)) := ⟨id, (QH _ _).symm, Q1 _ _⟩
theorem aif {s : St} {ts : List (Nat × V)} {p K W : List Nat} {fx : List Ob} {es : List Q6} {n : Nat} (hnn : 3 + fx.length + 3 * es.length ≤ n) (x : List Nat) (nm : Nat → Nat) (els : List V) (hx : x.length = 3 + fx.length)
    (ht : ∀ q ∈ ts, s.t q.1 = q.2.ren (aaX x nm) ∧ q.2.lt n)
    (h0 : s.o (x.getD 0 0) = some (.box true (QX p))) (h1 : s.o (x.getD 1 0) = some (.map (QX K) (QX W) 0)) (h2 : s.o (x.getD 2 0) = some (.obuf true 4 els) ∨ (es = [] ∧ s.o (x.getD 2 0) = some (.buf true 4 [])))
    (hfx : ∀ k y, fx[k]? = some y → ∃ z, s.o (x.getD (3 + k) 0) = some z ∧ z.weak (aaX x nm) n y)
    (hel : ∀ j : Nat, els[j]? = (es[j]?).map fun e => .agg [V.int e.num, .hd (nm (3 * j)) 0 e.hosts.length, mhd (nm (3 * j + 1)) e.machs, .hd (nm (3 * j + 2)) 0 e.finds.length])
    (hr : ∀ (j : Nat) (e : Q6), es[j]? = some e → s.o (nm (3 * j)) = some (.buf true 1 (e.hosts.map V.str)) ∧ (∃ y, s.o (nm (3 * j + 1)) = some y ∧ (e.machs ≠ [] → y = .buf true 1 (e.machs.map V.int))) ∧ s.o (nm (3 * j + 2)) = some (.buf true 1 (QX e.finds)))
    (hn : x.Nodup) (hnx : ∀ q, q < 3 * es.length → nm q ∉ x) (hni : ∀ a b, a < 3 * es.length → b < 3 * es.length → nm a = nm b → a = b) : ah7 0 (aaX x nm) s { t := Ut ts, o := fun k => (eO p K W fx es)[k]?, n := n } := by
  have hxl : 3 ≤ x.length := by omega
  refine ⟨fun i => ?_, fun a y hy => ?_, fun a b ha hb hab => ?_, fun k hk => absurd hk (Nat.not_lt_zero _), Nat.zero_le _⟩
  · rcases yd ts i with h | h
    · exact .inl h
    · right; exact ht _ h
  · have hy : (eO p K W fx es)[a]? = some y := hy
    obtain ⟨ha, _⟩ := List.getElem?_eq_some_iff.1 hy
    rw [acQ] at ha
    refine ⟨by show a < n; omega, ?_⟩
    match a, ha, hy with
    | 0, _, hy =>
      rw [wE (by omega)]
      simp only [eO, List.getElem?_cons_zero, Option.some.injEq] at hy
      subst hy
      exact ⟨_, h0, ajv⟩
    | 1, _, hy =>
      rw [wE (by omega)]
      simp only [eO, List.getElem?_cons_succ, List.getElem?_cons_zero, Option.some.injEq] at hy
      subst hy
      exact ⟨_, h1, rfl, rfl, (QH _ _).symm, Q1 _ _⟩
    | 2, _, hy =>
      rw [wE (by omega)]
      simp only [eO, List.getElem?_cons_succ, List.getElem?_cons_zero, Option.some.injEq] at hy
      subst hy
      rcases h2.symm with ⟨he0, h2'⟩ | h2'
      · subst he0; exact ⟨_, h2', id, rfl, rfl⟩
      refine ⟨_, h2', id, rfl, ?_, akM _ _ _ (by show _ ≤ n; omega)⟩
      apply List.ext_getElem?
      intro j
      rw [hel, aiu]
      cases es[j]? with
      | none => rfl
      | some e =>
        simp only [Option.map_some]
        rw [KB (by omega), KB (by omega), KB (by omega), hx]
        rw [show 3 + fx.length + 3 * j - (3 + fx.length) = 3 * j by omega, show 3 + fx.length + 3 * j + 1 - (3 + fx.length) = 3 * j + 1 by omega, show 3 + fx.length + 3 * j + 2 - (3 + fx.length) = 3 * j + 2 by omega]
    | a + 3, ha, hy =>
      by_cases hfa : a < fx.length
      · rw [wE (by omega), show a + 3 = 3 + a by omega]
        simp only [eO, List.getElem?_cons_succ] at hy
        rw [List.getElem?_append_left hfa] at hy
        exact hfx a y hy
      · obtain ⟨q, rfl⟩ : ∃ q, a = fx.length + q := ⟨a - fx.length, by omega⟩
        rw [show fx.length + q + 3 = 3 + fx.length + q by omega] at hy ⊢
        rw [yv] at hy
        rw [KB (by omega), hx, show 3 + fx.length + q - (3 + fx.length) = q by omega]
        obtain ⟨j, hq⟩ : ∃ j, q = 3 * j ∨ q = 3 * j + 1 ∨ q = 3 * j + 2 := ⟨q / 3, by omega⟩
        rcases hq with rfl | rfl | rfl
        · rw [Y1] at hy
          simp only [Option.map_eq_some_iff] at hy
          obtain ⟨e, he, rfl⟩ := hy
          exact ⟨_, (hr j e he).1, id, rfl, rfl⟩
        · rw [W0] at hy
          simp only [Option.map_eq_some_iff] at hy
          obtain ⟨e, he, rfl⟩ := hy
          obtain ⟨y, hy1, hy2⟩ := (hr j e he).2.1
          refine ⟨y, hy1, ?_⟩
          unfold mob
          split
          · cases y <;> trivial
          · rename_i hne
            rw [hy2 hne]
            exact ⟨id, rfl, rfl⟩
        · rw [Y0] at hy
          simp only [Option.map_eq_some_iff] at hy
          obtain ⟨e, he, rfl⟩ := hy
          exact ⟨_, (hr j e he).2.2, id, rfl, rfl⟩
  · have la : a < 3 + fx.length + 3 * es.length := by
      rw [← acQ p K W fx es]
      exact Nat.lt_of_not_le fun h => ha (List.getElem?_eq_none h)
    have lb : b < 3 + fx.length + 3 * es.length := by
      rw [← acQ p K W fx es]
      exact Nat.lt_of_not_le fun h => hb (List.getElem?_eq_none h)
    by_cases h1 : a < x.length <;> by_cases h2 : b < x.length
    · rw [wG h1, wG h2] at hab
      exact (List.getElem_inj hn).1 hab
    · rw [wG h1, KB (by omega)] at hab
      exact (hnx (b - x.length) (by omega) (hab ▸ List.getElem_mem h1)).elim
    · rw [wG h2, KB (by omega)] at hab
      exact (hnx (a - x.length) (by omega) (hab.symm ▸ List.getElem_mem h2)).elim
    · rw [KB (by omega), KB (by omega)] at hab
      have := hni _ _ (by omega) (by omega) hab
      omega
def adb (k : Nat) : List Nat → Nat → Option Nat
  | [], _ => none
  | e :: r, i => if k = e then some i else adb k r (i + 1)
theorem yX (k : Nat) : ∀ (ks : List Nat) (i : Nat), Uq false [0] (V.int (k : Int)) (QX ks) i = some (adb k ks i)
  | [], _ => rfl
  | e :: r, i => by
    have h : VE false [0] (V.int (k : Int)) (V.int (e : Int)) = some ((k : Int) == (e : Int)) := by simp [VE, Jk]
    rw [QX, List.map_cons, Uq, h]
    by_cases hk : k = e
    · subst hk; simp [adb]
    · have : ((k : Int) == (e : Int)) = false := by simp; omega
      rw [this]; simp only [adb, if_neg hk]
      exact yX k r (i + 1)
theorem ahB {k : Nat} : ∀ {ks : List Nat} {i a : Nat}, adb k ks i = some a → i ≤ a ∧ a < i + ks.length ∧ ks[a - i]? = some k
  | [], _, _, h => by cases h
  | e :: r, i, a, h => by
    rw [adb] at h
    split at h
    · rename_i he; cases h; subst he; simp
    · have := ahB h
      simp only [List.length_cons]
      refine ⟨by omega, by omega, ?_⟩
      rw [show a - i = (a - (i + 1)) + 1 by omega, List.getElem?_cons_succ]
      exact this.2.2
theorem aiG {k : Nat} : ∀ {ks : List Nat} {i a : Nat} (r : List Nat), adb k ks i = some a → adb k (ks ++ r) i = some a
  | [], _, _, _, h => by cases h
  | e :: t, i, a, r, h => by
    rw [adb] at h
    rw [List.cons_append, adb]
    split at h
    · rename_i he; rw [if_pos he]; exact h
    · rename_i he; rw [if_neg he]; exact aiG r h
theorem aeA {k : Nat} : ∀ {ks : List Nat} {i : Nat}, (∀ x ∈ ks, x ≠ k) → adb k (ks ++ [k]) i = some (i + ks.length)
  | [], i, _ => by simp [adb]
  | e :: t, i, h => by
    have h1 := h e (List.mem_cons_self ..)
    rw [List.cons_append, adb, if_neg (fun x => h1 x.symm), aeA fun x hx => h x (List.mem_cons_of_mem _ hx), List.length_cons]
    congr 1; omega
theorem afW {k : Nat} : ∀ {ks : List Nat} {i : Nat}, (∀ x ∈ ks, x ≠ k) → adb k ks i = none
  | [], i, _ => rfl
  | e :: t, i, h => by
    rw [adb, if_neg (fun x => h e (List.mem_cons_self ..) x.symm)]
    exact afW fun x hx => h x (List.mem_cons_of_mem _ hx)
theorem ajt {p : List Nat} (h : PW p) : ∀ i, YO p (YO p i) = YO p i := by
  intro i
  induction i using Nat.strongRecOn with
  | _ i ih =>
    rcases e : p[i]? with _ | j
    · have : YO p i = i := by rw [YO, afA, e]
      rw [this, this]
    · rw [yR h e]
      have := h.le i j e
      split
      · rename_i hj; rw [yR h e, if_pos hj]
      · exact ih j (by omega)
def QK (i : Nat) (f : Qa) (e : Q6) : Q6 := { e with hosts := aak Op.bytesLess e.hosts f.host, finds := e.finds ++ [i] }
def Yx (i : Nat) (f : Qa) (e : Q6) : Q6 := { QK i f e with machs := if f.mach = 0 then e.machs else aak ltJ e.machs f.mach }
def adt (p : List Nat) (es : List Q6) (i : Nat) (f : Qa) : List Q6 :=
  if YO p i = i then es ++ [Yx i f ⟨i, [], [], []⟩] else
  match adb (YO p i) (es.map Q6.num) 0 with
  | some a => (match es[a]? with | some e => es.set a (Yx i f e) | none => es)
  | none => es
def JO (l : List Qa) (p : List Nat) : Nat → List Q6
  | 0 => []
  | k + 1 => match l[k]? with
    | some f => adt p (JO l p k) k f
    | none => JO l p k
def Y7 (l : List Qa) (gap : Int) : List Q6 := JO l (afT l gap) l.length
structure ESz (k : Nat) (e : Q6) : Prop where
  num : e.num < k
  h0 : 0 < e.hosts.length
  h1 : e.hosts.length ≤ k
  f0 : 0 < e.finds.length
  f1 : e.finds.length ≤ k
  m1 : e.machs.length ≤ k
  fl : ∀ i ∈ e.finds, i < k
structure EI (p : List Nat) (k : Nat) (es : List Q6) : Prop where
  sz : ∀ e ∈ es, ESz k e
  len : es.length ≤ k
  has : ∀ j, j < k → YO p j = j → ∃ a, adb j (es.map Q6.num) 0 = some a
theorem aaj {α : Type} [BEq α] {lt : α → α → Bool} (l : List α) (x : α) : (aak lt l x).length ≤ l.length + 1 ∧ 0 < (aak lt l x).length := by
  unfold aak
  split
  · rename_i h
    refine ⟨by omega, ?_⟩
    unfold WS at h
    split at h
    · rename_i y hy
      have := (List.getElem?_eq_some_iff.1 hy).1
      omega
    · cases h
  · have := agF (lt := lt) (l := l) (x := x)
    simp only [List.length_append, List.length_cons, List.length_take, List.length_drop]
    omega
theorem abT {α : Type} [BEq α] {lt : α → α → Bool} (x : α) : aak lt [] x = [x] := by
  simp [aak, WS, bsI, akd]
theorem ESz.upd {k : Nat} {e : Q6} {f : Qa} (h : ESz k e) : ESz (k + 1) (Yx k f e) := by
  obtain ⟨a1, a2, a3, a4, a5, a6, a7⟩ := h
  have g1 := aaj (lt := Op.bytesLess) e.hosts f.host
  have g2 := aaj (lt := ltJ) e.machs f.mach
  refine ⟨by simp only [Yx, QK]; omega, by simp only [Yx, QK]; omega, by simp only [Yx, QK]; omega, by simp only [Yx, QK, List.length_append, List.length_singleton]; omega, by simp only [Yx, QK, List.length_append, List.length_singleton]; omega, ?_, fun i hi => ?_⟩
  · simp only [Yx, QK]; split <;> omega
  · simp only [Yx, QK, List.mem_append, List.mem_singleton] at hi
    rcases hi with hi | hi
    · have := a7 i hi; omega
    · omega
theorem ESz.new {k : Nat} {f : Qa} : ESz (k + 1) (Yx k f ⟨k, [], [], []⟩) := by
  have g1 := aaj (lt := Op.bytesLess) [] f.host
  have g2 := aaj (lt := ltJ) [] f.mach
  simp only [List.length_nil] at g1 g2
  refine ⟨by simp only [Yx, QK]; omega, by simp only [Yx, QK]; omega, by simp only [Yx, QK]; omega, by simp [Yx, QK], by simp [Yx, QK], ?_, fun i hi => ?_⟩
  · simp only [Yx, QK]; split
    · simp
    · omega
  · simp only [Yx, QK, List.nil_append, List.mem_singleton] at hi; omega
theorem ESz.mono {k : Nat} {e : Q6} (h : ESz k e) : ESz (k + 1) e := ⟨Nat.lt_succ_of_lt h.num, h.h0, Nat.le_succ_of_le h.h1, h.f0, Nat.le_succ_of_le h.f1, Nat.le_succ_of_le h.m1, fun i hi => Nat.lt_succ_of_lt (h.fl i hi)⟩
theorem EI.find {p : List Nat} {k : Nat} {es : List Q6} (hp : PW p) (h : EI p k es) (hk : YO p k ≠ k) : ∃ a e, adb (YO p k) (es.map Q6.num) 0 = some a ∧ es[a]? = some e ∧ e.num = YO p k := by
  have h1 := abM hp k
  obtain ⟨a, ha⟩ := h.has _ (by omega) (ajt hp k)
  obtain ⟨_, h2, h3⟩ := ahB ha
  rw [Nat.sub_zero, List.getElem?_map, Option.map_eq_some_iff] at h3
  obtain ⟨e, he, hn⟩ := h3
  exact ⟨a, e, ha, he, hn⟩
theorem K3 {es : List Q6} {a : Nat} {e e1 : Q6} (h : es[a]? = some e) (hn : e1.num = e.num) : (es.set a e1).map Q6.num = es.map Q6.num := by
  rw [List.map_set]
  apply List.ext_getElem?
  intro j
  rw [List.getElem?_set]
  split
  · rename_i hj; subst hj
    rw [List.length_map, if_pos (List.getElem?_eq_some_iff.1 h).1, List.getElem?_map, h, hn]; rfl
  · rfl
theorem EI.step {p : List Nat} {k : Nat} {es : List Q6} {f : Qa} (hp : PW p) (h : EI p k es) : EI p (k + 1) (adt p es k f) := by
  obtain ⟨s1, s2, s3⟩ := h
  by_cases hk : YO p k = k
  · rw [adt, if_pos hk]
    refine ⟨fun e he => ?_, by rw [List.length_append, List.length_singleton]; omega, fun j hj hjr => ?_⟩
    · rcases List.mem_append.1 he with he | he
      · exact (s1 e he).mono
      · rw [List.mem_singleton.1 he]; exact ESz.new
    · rw [List.map_append]
      rcases Nat.lt_or_eq_of_le (Nat.le_of_lt_succ hj) with hj | rfl
      · obtain ⟨a, ha⟩ := s3 j hj hjr
        exact ⟨a, aiG _ ha⟩
      · refine ⟨_, aeA fun x hx => ?_⟩
        obtain ⟨e, he, rfl⟩ := List.mem_map.1 hx
        have := (s1 e he).num
        omega
  · obtain ⟨a, e, ha, he, hn⟩ := EI.find hp ⟨s1, s2, s3⟩ hk
    rw [adt, if_neg hk, ha]
    simp only [he]
    have hm : (es.set a (Yx k f e)).map Q6.num = es.map Q6.num := by
      rw [List.map_set]
      apply List.ext_getElem?
      intro j
      rw [List.getElem?_set]
      split
      · rename_i hj; subst hj
        rw [List.length_map, if_pos (List.getElem?_eq_some_iff.1 he).1, List.getElem?_map, he]; rfl
      · rfl
    refine ⟨fun y hy => ?_, by rw [List.length_set]; omega, fun j hj hjr => ?_⟩
    · rcases List.mem_or_eq_of_mem_set hy with hy | rfl
      · exact (s1 y hy).mono
      · exact (s1 e (List.mem_of_getElem? he)).upd
    · rw [hm]
      rcases Nat.lt_or_eq_of_le (Nat.le_of_lt_succ hj) with hj | rfl
      · exact s3 j hj hjr
      · exact (hk hjr).elim
theorem qD {l : List Qa} {p : List Nat} (hp : PW p) : ∀ k, k ≤ l.length → EI p k (JO l p k)
  | 0, _ => ⟨by simp [JO], Nat.le_refl _, fun j hj => absurd hj (Nat.not_lt_zero _)⟩
  | k + 1, hk => by
    have ih := qD (l := l) hp k (by omega)
    rw [JO, List.getElem?_eq_getElem (by omega)]
    exact ih.step hp
theorem ahS {l : List Qa} {p : List Nat} {k : Nat} {f : Qa} (h : l[k]? = some f) : JO l p (k + 1) = adt p (JO l p k) k f := by rw [JO, h]
def Q6.v (e : Q6) : V := .agg [V.int e.num, .sl 1 (e.hosts.map V.str), .sl 1 (e.machs.map V.int), .sl 1 (QX e.finds)]
end Av
end

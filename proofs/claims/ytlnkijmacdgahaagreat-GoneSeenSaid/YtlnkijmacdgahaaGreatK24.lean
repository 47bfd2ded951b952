/- Functions that are lent two buffers: the first is spent, a new one is answered, the second stays as it is (slices.Insert). -/
import Derived.Test.YtlnkijmacdgahaaGreatK23
import Derived.Test.YtlnkijmacdgahaaGreatK12
import Derived.Test.YtlnkijmacdgahaaGreatK14
import Derived.Test.YtlnkijmacdgahaaGreatK13
import Derived.Test.YtlnkijmacdgahaaGreatK20
import Derived.Test.YtlnkijmacdgahaaGreatK22
set_option linter.unusedVariables false
set_option linter.unusedSimpArgs false
noncomputable section
set_option maxRecDepth 10000
set_option maxHeartbeats 4000000
namespace Av
open Go
attribute [local irreducible] AWp VA K4 jR awS awC aa9 awQ abD QZ V9 aay awR Ug awB okR jL ris
def QX (p : List Nat) : List V := p.map fun n : Nat => V.int (n : Int)
structure PW (p : List Nat) : Prop where
  len : p.length = 400
  le : ∀ i j : Nat, p[i]? = some j → j ≤ i
theorem V4 (p : List Nat) : (QX p).length = p.length := by simp [QX]
theorem V5 {p : List Nat} {i j : Nat} (h : p[i]? = some j) : (QX p)[i]? = some (V.int j) := by simp [QX, h]
theorem Ym (p : List Nat) : Qc (QX p) := by
  unfold QX
  induction p with
  | nil => trivial
  | cons x r ih => exact ⟨trivial, ih⟩
theorem QH (τ : Nat → Nat) (p : List Nat) : US τ (QX p) = QX p := QP _ _ (Ym p)
theorem Q1 (n : Nat) (p : List Nat) : ltL n (QX p) := JA _ _ (Ym p)
theorem aca (p : List Nat) (i j : Nat) : (QX p).set i (V.int j) = QX (p.set i j) := by simp [QX, List.map_set]
theorem afI {p : List Nat} {i : Nat} (h : i < p.length) (j : Nat) : List.take i (QX p) ++ [V.int (j : Int)] ++ List.drop (i + 1) (QX p) = QX (p.set i j) := by
  rw [← aca, List.set_eq_take_append_cons_drop, if_pos (by rw [V4]; exact h), List.append_assoc]; rfl
theorem PW.get {p : List Nat} (h : PW p) {i : Nat} (hi : i < 400) : ∃ j, p[i]? = some j ∧ j ≤ i := by
  have : i < p.length := by rw [h.len]; exact hi
  exact ⟨p[i], List.getElem?_eq_getElem this, h.le i _ (List.getElem?_eq_getElem this)⟩
theorem PW.set {p : List Nat} (h : PW p) {i j : Nat} (hj : j ≤ i) : PW (p.set i j) := ⟨by rw [List.length_set]; exact h.len, fun a b e => by
  rw [List.getElem?_set] at e
  split at e
  · split at e
    · rename_i e1 _; cases e; rw [← e1]; exact hj
    · cases e
  · exact h.le a b e⟩
def afA (p : List Nat) : Nat → Nat → Nat
  | 0, i => i
  | n + 1, i => match p[i]? with
    | some j => if j = i then i else afA p n j
    | none => i
def YO (p : List Nat) (i : Nat) : Nat := afA p (i + 1) i
theorem adP {p : List Nat} (h : PW p) : ∀ (n i m : Nat), i < n → i < m → afA p n i = afA p m i
  | 0, i, m, h1, _ => absurd h1 (Nat.not_lt_zero _)
  | n + 1, i, 0, _, h2 => absurd h2 (Nat.not_lt_zero _)
  | n + 1, i, m + 1, h1, h2 => by
    simp only [afA]
    rcases e : p[i]? with _ | j
    · rfl
    · simp only
      split
      · rfl
      · rename_i hne
        have := h.le i j e
        exact adP h n j m (by omega) (by omega)
theorem yR {p : List Nat} (h : PW p) {i j : Nat} (e : p[i]? = some j) : YO p i = if j = i then i else YO p j := by
  rw [YO, afA, e]
  simp only
  split
  · rfl
  · rename_i hne
    have := h.le i j e
    exact adP h _ _ _ (by omega) (by omega)
theorem abM {p : List Nat} (h : PW p) : ∀ i, YO p i ≤ i := by
  intro i
  induction i using Nat.strongRecOn with
  | _ i ih =>
    rcases e : p[i]? with _ | j
    · rw [YO, afA, e]; exact Nat.le_refl _
    · rw [yR h e]
      have := h.le i j e
      split
      · exact Nat.le_refl _
      · rename_i hne
        have := ih j (by omega)
        omega
def JR := qd Proofs.Tryz.f53 []
def JK (Γ : Env) (f : Nat) : Prop := ∀ (p : List Nat) (i : Nat) (hp : PW p) (hi : i < 400), EvD Γ f [V.int i] (QX p) (V.int (YO p i)) (QX p)
attribute [local go_sem] Nat.mul_one Nat.zero_add JY in
theorem K8 {Γ : Env} {f : Nat} (h : Has Γ.P f 18 JR.1.1.ac JR.1.2)  : JK Γ f := by
  intro p i hp hi
  refine Xw h zsi (by first | exact Ym _ | simp only [V.closed, Qc, and_self]) zc3 zc3 fun C hC hm => ?_
  subst hC
  simp only [JR, qd, DC.ac]
  have hpc := V4 p
  have hl4 := hp.len
  refine zgo ?_; repeat' first | exact zt | apply zan | intro hc
  refine Qp (ι := Nat) (fun k => k ≤ i ∧ YO p k = YO p i) (fun k => JY [(0, .ptr 0 0), (1, V.int k)] [(0, .box true (QX p))] 1) (fun k => k) i ⟨Nat.le_refl _, rfl⟩ (Qd []) (Qh [] zwa (by simp only [go_sem, zwl, Nat.reduceAdd, Nat.reduceMul, Nat.reduceEqDiff, Nat.reduceLT, Int.reduceToNat, reduceIte, reduceCtorEq, QH, Q1] <;> exact zcc) (by simp) (by simp) (by omega)) fun k hk K' hL => ?_
  obtain ⟨hk, hinv⟩ := hk
  obtain ⟨j, hg, hj⟩ := hp.get (i := k) (by omega)
  have hgc := V5 hg
  have hst := yR hp hg
  rw [hinv] at hst
  have e0 : decide ((0 : Int) ≤ (k : Int)) = true := by simp
  by_cases hjk : j = k
  · subst hjk
    rw [if_pos rfl] at hst
    rw [hst]
    have e1 : ((j : Int) != (j : Int)) = false := by simp
    (have zx := And.intro hgc (And.intro hpc (And.intro hl4 e1))); refine zgo ?_; repeat' first | exact zt | apply zan | intro hc
    all_goals first | (refine vF _ rfl rfl (Ym p) ?_; simp only [go_sem, Nat.reduceEqDiff, Nat.reduceAdd, reduceIte, reduceCtorEq]; done) | trace_state
  · rw [if_neg hjk] at hst
    have e1 : ((j : Int) != (k : Int)) = true := by simp; omega
    (have zx := And.intro hgc (And.intro hpc (And.intro hl4 e1))); refine zgo ?_; repeat' first | exact zt | apply zan | intro hc
    all_goals first | exact hL _ j (Qd []) ⟨by omega, hst.symm⟩ (by omega) (Qh [] zwa (by simp only [go_sem, zwl, Nat.reduceAdd, Nat.reduceMul, Nat.reduceEqDiff, Nat.reduceLT, Int.reduceToNat, reduceIte, reduceCtorEq, QH, Q1] <;> exact zcc) (by simp) (by simp) (by omega)) | trace_state
def ahx (p : List Nat) (i k : Nat) : List Nat := p.set (max (YO p i) (YO p k)) (min (YO p i) (YO p k))
theorem aez {p : List Nat} (h : PW p) (i k : Nat) : PW (ahx p i k) := h.set (by omega)
theorem ap9 (a b : Nat) : (if (a : Int) < (b : Int) then (b : Int) else (a : Int)) = ((max a b : Nat) : Int) := by
  split <;> omega
theorem ap7 (a b : Nat) : (if (b : Int) < (a : Int) then (b : Int) else (a : Int)) = ((min a b : Nat) : Int) := by
  split <;> omega
def JT := qd Proofs.Tryz.f85 []
def Yu (Γ : Env) (f : Nat) : Prop := ∀ (p : List Nat) (i k : Nat) (hp : PW p) (hi : i < 400) (hk : k < 400), EvD Γ f [V.int i, V.int k] (QX p) (.tup []) (QX (ahx p i k))
attribute [local go_sem] Nat.mul_one Nat.zero_add in
theorem K9 {Γ : Env} {f : Nat} (h : Has Γ.P f 23 JT.1.1.ac JT.1.2) (z0 : JK Γ 53) : Yu Γ f := by
  intro p i k hp hi hk
  refine Xw h zsi (by first | exact Ym _ | simp only [V.closed, Qc, and_self]) zc3 zc3 fun C hC hm => ?_
  subst hC
  simp only [JT, qd, DC.ac]
  have n1 := z0 p i hp hi
  have n2 := z0 p k hp hk
  have r1 := abM hp i
  have r2 := abM hp k
  have hpc := V4 p
  have hl4 := hp.len
  unfold ahx
  generalize YO p i = a at *
  generalize YO p k = b at *
  have m1 := ap9 a b
  have m2 := ap7 a b
  have m3 : max a b < 400 := by omega
  have hs := afI (p := p) (i := max a b) (by omega) (min a b)
  (have zx := And.intro hpc (And.intro hl4 (And.intro m1 (And.intro m2 hs)))); refine zgo ?_; repeat' first | exact zt | apply zan | intro hc
  all_goals first | (refine vF _ rfl rfl (Ym _) ?_; simp only [go_sem, Nat.reduceEqDiff, Nat.reduceAdd, reduceIte, reduceCtorEq]; done) | trace_state
def amo (k : Int) : List Int → Nat → Option Nat
  | [], _ => none
  | e :: r, i => if k = e then some i else amo k r (i + 1)
theorem ad5 (k : Int) : ∀ (ks : List Int) (i : Nat), Uq false [0] (V.int k) (ks.map V.int) i = some (amo k ks i)
  | [], _ => rfl
  | e :: r, i => by
    have h : VE false [0] (V.int k) (V.int e) = some (k == e) := by simp [VE, Jk]
    rw [List.map_cons, Uq, h]
    by_cases hk : k = e
    · subst hk; simp [amo]
    · have : (k == e) = false := by simpa using hk
      rw [this]; simp only [amo, if_neg hk]
      exact ad5 k r (i + 1)
theorem als {k : Int} : ∀ {ks : List Int} {i a : Nat}, amo k ks i = some a → i ≤ a ∧ a < i + ks.length
  | [], _, _, h => by cases h
  | e :: r, i, a, h => by
    rw [amo] at h
    split at h
    · cases h; simp
    · have := als h
      simp only [List.length_cons]; omega
theorem acO (k : Int) : VE false [0] (V.int k) (V.int k) = some true := by simp [VE, Jk]
structure JS where
  p : List Nat
  ks : List Int
  vs : List Nat
  loose : Int
structure JW (k : Nat) (s : JS) : Prop where
  pw : PW s.p
  len : s.ks.length = s.vs.length
  vlt : ∀ v ∈ s.vs, v < k
  lo : s.loose = -1 ∨ (0 ≤ s.loose ∧ s.loose < (k : Int))
def alb (l : List Qa) (f : Qa) (gap loose : Int) : Bool :=
  decide (loose ≥ 0) && match l[loose.toNat]? with
    | some g => g.host == f.host && decide (agv f g ≤ gap)
    | none => false
def ahv (l : List Qa) (gap : Int) (s : JS) (i : Nat) (f : Qa) : JS :=
  if f.mach = 0 then
    if aey l f gap ≥ 0 then { s with p := ahx s.p i (aey l f gap).toNat }
    else { s with p := if alb l f gap s.loose = true then ahx s.p i s.loose.toNat else s.p, loose := i }
  else match amo f.mach s.ks 0 with
    | some a => { s with p := ahx s.p i (s.vs.getD a 0), vs := s.vs.set a i }
    | none => { s with ks := s.ks ++ [f.mach], vs := s.vs ++ [i] }
def V7 (l : List Qa) (gap : Int) : Nat → JS
  | 0 => ⟨List.range 400, [], [], -1⟩
  | k + 1 => match l[k]? with
    | some f => ahv l gap (V7 l gap k) k f
    | none => V7 l gap k
def afT (l : List Qa) (gap : Int) : List Nat := (V7 l gap l.length).p
theorem amJ : PW (List.range 400) := ⟨List.length_range, fun i j h => by
  obtain ⟨h1, h2⟩ := List.getElem?_eq_some_iff.1 h
  rw [List.getElem_range] at h2; omega⟩
theorem alc (l : List Qa) (f : Qa) (gap : Int) : aey l f gap = -1 ∨ (0 ≤ aey l f gap ∧ aey l f gap < (l.length : Int)) := aaf l f gap l.length
theorem anb {l : List Qa} {gap : Int} {s : JS} {i : Nat} {f : Qa} (h : JW i s) : JW (i + 1) (ahv l gap s i f) := by
  obtain ⟨h1, h2, h3, h4⟩ := h
  have h3' : ∀ v ∈ s.vs, v < i + 1 := fun v hv => Nat.lt_succ_of_lt (h3 v hv)
  unfold ahv
  split
  · split
    · exact ⟨aez h1 _ _, h2, h3', by simp only; omega⟩
    · refine ⟨?_, h2, h3', .inr (by simp only; omega)⟩
      simp only
      split
      · exact aez h1 _ _
      · exact h1
  · split
    · refine ⟨aez h1 _ _, by simpa using h2, fun v hv => ?_, by simp only; omega⟩
      rcases List.mem_or_eq_of_mem_set hv with hv | hv
      · exact h3' v hv
      · omega
    · refine ⟨h1, by simp [h2], fun v hv => ?_, by simp only; omega⟩
      rcases List.mem_append.1 hv with hv | hv
      · exact h3' v hv
      · rw [List.mem_singleton.1 hv]; omega
theorem acp (l : List Qa) (gap : Int) : ∀ k, JW k (V7 l gap k)
  | 0 => ⟨amJ, rfl, by simp [V7], .inl rfl⟩
  | k + 1 => by
    have ih := acp l gap k
    rw [V7]
    split
    · exact anb ih
    · exact ⟨ih.pw, ih.len, fun v hv => Nat.lt_succ_of_lt (ih.vlt v hv), by have := ih.lo; omega⟩
theorem abR (l : List Qa) (gap : Int) : PW (afT l gap) := (acp l gap l.length).pw
def ipP (k : Nat) : List Nat := (List.range 400).map fun j => if j < k then j else 0
theorem aoA (n i : Nat) (v : Value) (h : i < (apU n v).length) : (apU n v)[i] = v := by simp [apU]
theorem aoz (n : Nat) (v : Value) : (apU n v).length = n := List.length_replicate
theorem anc : (apU 400 (.int .i64 0)).map V.ofV = QX (ipP 0) := by
  apply List.ext_getElem
  · rw [List.length_map, aoz, V4, ipP, List.length_map, List.length_range]
  · intro i h1 h2; rw [List.getElem_map, aoA]; simp only [QX, ipP, List.getElem_map, Nat.not_lt_zero, if_false]; rfl
theorem alo (k : Nat) : (ipP k).length = 400 := by simp [ipP]
theorem aoV (k : Nat) : (ipP k).set k k = ipP (k + 1) := by
  apply List.ext_getElem
  · simp [ipP]
  · intro i h1 h2
    simp only [ipP, List.getElem_set, List.getElem_map, List.getElem_range]
    split
    · rename_i e; subst e; simp
    · rename_i e
      by_cases hi : i < k
      · rw [if_pos hi, if_pos (by omega)]
      · rw [if_neg hi, if_neg (by omega)]
theorem aoW : ipP 400 = List.range 400 := by
  apply List.ext_getElem
  · simp [ipP]
  · intro i h1 h2
    simp only [ipP, List.length_map, List.length_range] at h1
    simp [ipP, h1]
def jSt (l : List Qa) (gap : Int) (k : Nat) (s : JS) : St := JY [(0, .sl 11 (l.map Qa.v)), (1, V.int gap), (5, .ptr 0 0), (7, .mp 1), (8, V.int s.loose), (26, .sl 11 (l.map Qa.v)), (27, V.int l.length), (28, V.int k)] [(0, .box true (QX s.p)), (1, .map (s.ks.map V.int) (QX s.vs) 0)] 2
theorem j6 (p : List Nat) (i : Nat) : QX p ++ [V.int (i : Int)] = QX (p ++ [i]) := by simp [QX]
theorem ahw {l : List Qa} {gap : Int} {k : Nat} {f : Qa} (h : l[k]? = some f) : V7 l gap (k + 1) = ahv l gap (V7 l gap k) k f := by rw [V7, h]
def XP := qd Proofs.Tryz.f52 [zhn 22]
def Vg (Γ : Env) (f : Nat) : Prop := ∀ (l : List Qa) (gap : Int) (hl : l.length ≤ 400) (hd : ∀ x ∈ l, apf x), EvR Γ f [.sl 11 (l.map Qa.v), V.int gap] ((QX (afT l gap)))
attribute [local go_sem] Nat.mul_one Nat.zero_add Qa.cells Qa.v jSt JY in
theorem wV {Γ : Env} {f : Nat} (h : Has Γ.P f 91 XP.1.1.ac XP.1.2) (z0 : Yu Γ 85) (z1 : WI Γ 86) (z2 : YF Γ 87) : Vg Γ f := by
  intro l gap hl hd
  refine acM h (by simp) (Ym _) fun C hC hm => ?_
  subst hC
  simp only [XP, qd, DC.ac]
  have z4 := anc
  have hpc := V4
  have hip := alo
  (have zx := And.intro z4 (And.intro hpc hip)); refine zgo ?_; repeat' first | exact zt | apply zan | intro hc
  refine Qp (ι := Nat) (fun k => k ≤ 400) (fun k => JY [(0, .sl 11 (l.map Qa.v)), (1, V.int gap), (5, .ptr 0 0), (16, V.int k)] [(0, .box true (QX (ipP k)))] 1) (fun k => 400 - k) 0 (Nat.zero_le _) (Qd [(0, 2000)]) (Qh [(0, 2000)] zwa (by simp only [go_sem, zwl, Nat.reduceAdd, Nat.reduceMul, Nat.reduceEqDiff, Nat.reduceLT, Int.reduceToNat, reduceIte, reduceCtorEq, QH, Q1] <;> exact zcc) (by simp) (by simp; omega) (by omega)) fun k hk K' hL => ?_
  by_cases hk4 : k < 400
  · have e1 : decide ((k : Int) < 400) = true := decide_eq_true (by omega)
    have hw := Qg (k := k) (by omega)
    have hs := afI (p := ipP k) (i := k) (by rw [alo]; exact hk4) k
    rw [aoV] at hs
    (have zx := And.intro e1 (And.intro hw (And.intro hpc (And.intro hip hs)))); refine zgo ?_; repeat' first | exact zt | apply zan | intro hc
    all_goals first | exact hL _ (k + 1) (Qd []) (by omega) (by omega) (Qh [] zwa (by simp only [go_sem, zwl, Nat.reduceAdd, Nat.reduceMul, Nat.reduceEqDiff, Nat.reduceLT, Int.reduceToNat, reduceIte, reduceCtorEq, QH, Q1] <;> exact zcc) (by simp) (by simp) (by omega)) | trace_state
  have e1 : decide ((k : Int) < 400) = false := decide_eq_false (by omega)
  obtain rfl : k = 400 := by omega
  clear hL
  rw [aoW]
  have e0 : decide (((400 : Nat) : Int) < 400) = false := by decide
  (have zx := e0); refine zgo ?_; repeat' first | exact zt | apply zan | intro hc
  refine Qp (ι := Nat) (fun k => k ≤ l.length) (fun k => jSt l gap k (V7 l gap k)) (fun k => l.length - k) 0 (Nat.zero_le _) (Qd [(1, 1001)]) (Qh [(1, 1001)] (by simp only [go_sem, zwl, Nat.reduceAdd, Nat.reduceMul, Nat.reduceEqDiff, Nat.reduceLT, Int.reduceToNat, reduceIte, reduceCtorEq, jSt, V7, List.length_map] <;> exact zcc) (by simp only [go_sem, zwl, Nat.reduceAdd, Nat.reduceMul, Nat.reduceEqDiff, Nat.reduceLT, Int.reduceToNat, reduceIte, reduceCtorEq, jSt, V7, QH, Q1] <;> exact zcc) (by simp [jSt, Qd]) (by simp [jSt]; omega) (by omega)) fun k hk K' hL => ?_
  have hJ := acp l gap k
  rcases hdr : l.drop k with _ | ⟨g, r⟩
  · have hkl := QB hdr
    have e1 : decide ((k : Int) < (l.length : Int)) = false := by simp; omega
    obtain rfl : k = l.length := by omega
    have hjf : afT l gap = (V7 l gap l.length).p := rfl
    rw [hjf]
    (have zx := e1); refine zgo ?_; repeat' first | exact zt | apply zan | intro hc
    all_goals first | (refine aoe _ rfl rfl (Ym _); done) | trace_state
  obtain ⟨hk', hget, hr⟩ := Qo hdr
  have hw := Qg (k := k) (by omega)
  have e1 : decide ((k : Int) < (l.length : Int)) = true := by simp; omega
  have hsu := ahw (gap := gap) hget
  have hgd := hd g (List.mem_of_getElem? hget)
  generalize V7 l gap k = s at *
  obtain ⟨p, ks, vs, lo⟩ := s
  obtain ⟨j1, j2, j3, j4⟩ := hJ
  simp only at j1 j2 j3 j4
  have hgv : l.map Qa.v = l.map Qa.v := rfl
  simp only [jSt]
  by_cases c1 : g.mach = 0
  · have e2 : (g.mach != 0) = false := by simpa using c1
    have p1 := (z1 l g gap (by omega) hd hgd).b
    rw [ahv, if_pos c1] at hsu
    simp only [Qa.v, Qa.cells] at p1
    rcases alc l g gap with c2 | ⟨c2, c3⟩
    · rw [if_neg (by omega)] at hsu
      rw [c2] at p1
      have e3 : decide ((-1 : Int) ≥ 0) = false := by decide
      rcases hq : alb l g gap lo with _ | _
      · rw [hq, if_neg (by decide)] at hsu
        by_cases c4 : lo ≥ 0
        · obtain ⟨n, rfl⟩ : ∃ n : Nat, lo = n := ⟨lo.toNat, by omega⟩
          have e4 : decide ((n : Int) ≥ 0) = true := decide_eq_true (by omega)
          obtain ⟨q, hgq⟩ : ∃ q, l[n]? = some q := ⟨_, List.getElem?_eq_getElem (by omega)⟩
          rw [alb, e4, Bool.true_and, Int.toNat_natCast, hgq] at hq
          simp only at hq
          have p2 := (z2 g q hgd (hd q (List.mem_of_getElem? hgq))).b
          simp only [Qa.v, Qa.cells] at p2
          rcases c5 : q.host == g.host with _ | _
          · (have zx := And.intro e1 (And.intro e2 (And.intro e3 (And.intro e4 (And.intro c5 (And.intro hw (And.intro hget hgq))))))); refine zgo ?_; repeat' first | exact zt | apply zan | intro hc
            all_goals first | exact hL _ (k + 1) (Qd []) (by omega) (by omega) (by rw [hsu]; exact Qh [] (by simp only [go_sem, zwl, Nat.reduceAdd, Nat.reduceMul, Nat.reduceEqDiff, Nat.reduceLT, Int.reduceToNat, reduceIte, reduceCtorEq, jSt, List.length_map] <;> exact zcc) (by simp only [go_sem, zwl, Nat.reduceAdd, Nat.reduceMul, Nat.reduceEqDiff, Nat.reduceLT, Int.reduceToNat, reduceIte, reduceCtorEq, jSt, QH, Q1] <;> exact zcc) (by simp [jSt, Qd]) (by simp [jSt]) (by omega)) | trace_state
          · rw [c5, Bool.true_and] at hq
            (have zx := And.intro e1 (And.intro e2 (And.intro e3 (And.intro e4 (And.intro c5 (And.intro hq (And.intro hw (And.intro hget hgq)))))))); refine zgo ?_; repeat' first | exact zt | apply zan | intro hc
            all_goals first | exact hL _ (k + 1) (Qd []) (by omega) (by omega) (by rw [hsu]; exact Qh [] (by simp only [go_sem, zwl, Nat.reduceAdd, Nat.reduceMul, Nat.reduceEqDiff, Nat.reduceLT, Int.reduceToNat, reduceIte, reduceCtorEq, jSt, List.length_map] <;> exact zcc) (by simp only [go_sem, zwl, Nat.reduceAdd, Nat.reduceMul, Nat.reduceEqDiff, Nat.reduceLT, Int.reduceToNat, reduceIte, reduceCtorEq, jSt, QH, Q1] <;> exact zcc) (by simp [jSt, Qd]) (by simp [jSt]) (by omega)) | trace_state
        · have e4 : decide (lo ≥ 0) = false := decide_eq_false c4
          (have zx := And.intro e1 (And.intro e2 (And.intro e3 (And.intro e4 (And.intro hw hget))))); refine zgo ?_; repeat' first | exact zt | apply zan | intro hc
          all_goals first | exact hL _ (k + 1) (Qd []) (by omega) (by omega) (by rw [hsu]; exact Qh [] (by simp only [go_sem, zwl, Nat.reduceAdd, Nat.reduceMul, Nat.reduceEqDiff, Nat.reduceLT, Int.reduceToNat, reduceIte, reduceCtorEq, jSt, List.length_map] <;> exact zcc) (by simp only [go_sem, zwl, Nat.reduceAdd, Nat.reduceMul, Nat.reduceEqDiff, Nat.reduceLT, Int.reduceToNat, reduceIte, reduceCtorEq, jSt, QH, Q1] <;> exact zcc) (by simp [jSt, Qd]) (by simp [jSt]) (by omega)) | trace_state
      · rw [hq, if_pos rfl] at hsu
        have c4 : lo ≥ 0 := by
          rw [alb] at hq
          simp only [Bool.and_eq_true, decide_eq_true_eq] at hq
          exact hq.1
        obtain ⟨n, rfl⟩ : ∃ n : Nat, lo = n := ⟨lo.toNat, by omega⟩
        have e4 : decide ((n : Int) ≥ 0) = true := decide_eq_true (by omega)
        obtain ⟨q, hgq⟩ : ∃ q, l[n]? = some q := ⟨_, List.getElem?_eq_getElem (by omega)⟩
        rw [alb, e4, Bool.true_and, Int.toNat_natCast, hgq] at hq
        rw [Int.toNat_natCast] at hsu
        simp only [Bool.and_eq_true] at hq
        obtain ⟨c5, c6⟩ := hq
        have p2 := (z2 g q hgd (hd q (List.mem_of_getElem? hgq))).b
        have n1 := z0 p k n j1 (by omega) (by omega)
        simp only [Qa.v, Qa.cells] at p2
        (have zx := And.intro e1 (And.intro e2 (And.intro e3 (And.intro e4 (And.intro c5 (And.intro c6 (And.intro hw (And.intro hget hgq)))))))); refine zgo ?_; repeat' first | exact zt | apply zan | intro hc
        all_goals first | exact hL _ (k + 1) (Qd []) (by omega) (by omega) (by rw [hsu]; exact Qh [] (by simp only [go_sem, zwl, Nat.reduceAdd, Nat.reduceMul, Nat.reduceEqDiff, Nat.reduceLT, Int.reduceToNat, reduceIte, reduceCtorEq, jSt, List.length_map] <;> exact zcc) (by simp only [go_sem, zwl, Nat.reduceAdd, Nat.reduceMul, Nat.reduceEqDiff, Nat.reduceLT, Int.reduceToNat, reduceIte, reduceCtorEq, jSt, QH, Q1] <;> exact zcc) (by simp [jSt, Qd]) (by simp [jSt]) (by omega)) | trace_state
    · rw [if_pos c2] at hsu
      obtain ⟨n, hn⟩ : ∃ n : Nat, aey l g gap = n := ⟨(aey l g gap).toNat, by omega⟩
      rw [hn] at hsu c3 p1
      rw [Int.toNat_natCast] at hsu
      have e3 : decide ((n : Int) ≥ 0) = true := decide_eq_true (by omega)
      have n1 := z0 p k n j1 (by omega) (by omega)
      (have zx := And.intro e1 (And.intro e2 (And.intro e3 (And.intro hw hget)))); refine zgo ?_; repeat' first | exact zt | apply zan | intro hc
      all_goals first | exact hL _ (k + 1) (Qd []) (by omega) (by omega) (by rw [hsu]; exact Qh [] (by simp only [go_sem, zwl, Nat.reduceAdd, Nat.reduceMul, Nat.reduceEqDiff, Nat.reduceLT, Int.reduceToNat, reduceIte, reduceCtorEq, jSt, List.length_map] <;> exact zcc) (by simp only [go_sem, zwl, Nat.reduceAdd, Nat.reduceMul, Nat.reduceEqDiff, Nat.reduceLT, Int.reduceToNat, reduceIte, reduceCtorEq, jSt, QH, Q1] <;> exact zcc) (by simp [jSt, Qd]) (by simp [jSt]) (by omega)) | trace_state
  · have e2 : (g.mach != 0) = true := by simpa using c1
    rw [ahv, if_neg c1] at hsu
    have hfk := ad5 g.mach ks 0
    have hek := acO g.mach
    rcases hix : amo g.mach ks 0 with _ | a
    · rw [hix] at hsu hfk
      have hm1 : ks.map V.int ++ [V.int g.mach] = (ks ++ [g.mach]).map V.int := by simp
      have hm2 := j6 vs k
      (have zx := And.intro e1 (And.intro e2 (And.intro hw (And.intro hfk (And.intro hek (And.intro hm1 (And.intro hm2 hget))))))); refine zgo ?_; repeat' first | exact zt | apply zan | intro hc
      all_goals first | exact hL _ (k + 1) (Qd []) (by omega) (by omega) (by rw [hsu]; exact Qh [] (by simp only [go_sem, zwl, Nat.reduceAdd, Nat.reduceMul, Nat.reduceEqDiff, Nat.reduceLT, Int.reduceToNat, reduceIte, reduceCtorEq, jSt, List.length_map] <;> exact zcc) (by simp only [go_sem, zwl, Nat.reduceAdd, Nat.reduceMul, Nat.reduceEqDiff, Nat.reduceLT, Int.reduceToNat, reduceIte, reduceCtorEq, jSt, QH, Q1] <;> exact zcc) (by simp [jSt, Qd]) (by simp [jSt]) (by omega)) | trace_state
    · rw [hix] at hsu hfk
      have ha := (als hix).2
      obtain ⟨v, hv⟩ : ∃ v, vs[a]? = some v := ⟨_, List.getElem?_eq_getElem (by omega)⟩
      have hvk := j3 v (List.mem_of_getElem? hv)
      have hvd : vs.getD a 0 = v := by rw [List.getD_eq_getElem?_getD, hv]; rfl
      simp only [hvd] at hsu
      have hvc := V5 hv
      have n1 := z0 p k v j1 (by omega) (by omega)
      have hm1 := aca vs a k
      (have zx := And.intro e1 (And.intro e2 (And.intro hw (And.intro hfk (And.intro hek (And.intro hm1 (And.intro hvc hget))))))); refine zgo ?_; repeat' first | exact zt | apply zan | intro hc
      all_goals first | exact hL _ (k + 1) (Qd []) (by omega) (by omega) (by rw [hsu]; exact Qh [] (by simp only [go_sem, zwl, Nat.reduceAdd, Nat.reduceMul, Nat.reduceEqDiff, Nat.reduceLT, Int.reduceToNat, reduceIte, reduceCtorEq, jSt, List.length_map] <;> exact zcc) (by simp only [go_sem, zwl, Nat.reduceAdd, Nat.reduceMul, Nat.reduceEqDiff, Nat.reduceLT, Int.reduceToNat, reduceIte, reduceCtorEq, jSt, QH, Q1] <;> exact zcc) (by simp [jSt, Qd]) (by simp [jSt]) (by omega)) | trace_state
end Av
end
section
set_option linter.unusedSimpArgs false
set_option linter.unusedVariables false
set_option maxRecDepth 10000
set_option maxHeartbeats 4000000
namespace Av
open Go
end Av
end
section
namespace Av
open Go
structure aqR (Γ : Env) (f : FuncId) (v : V) (sx : Nat) (xs vs ys : List V) : Prop where
  ev : Ev Γ f [.hd 0 0 xs.length, v, .hd 1 0 vs.length] [.buf true sx xs, .buf true sx vs] (.hd 2 0 ys.length) [.dead, .buf true sx vs, .buf true sx ys]
section
variable {Γ : Env} {b : Nat} {r : List AO} {s : St} {d : Option Nat} {f : FuncId} {args : List V} {okf : Option (List Nat) → Prop} {K : St → Prop} {a a2 n n2 sx : Nat} {xs vs ys : List V} {i : Int}
theorem yB (ha : s.o a = some (.buf true sx xs)) (ha2 : s.o a2 = some (.buf true sx vs)) (h : aqR Γ f (V.int i) sx xs vs ys) (hd : decide (a ≠ a2 ∧ a < b ∧ a2 < b) = true) (hn : n = xs.length) (hn2 : n2 = vs.length)
    (hk : VA Γ (b + KK) r { t := (s.put d (.hd b 0 ys.length)).t, o := upd (upd (upd s.o b (some (.buf true sx ys))) a2 (some (.buf true sx vs))) a (some .dead), n := s.n } K) : agJ Γ b r s d f [.hd a 0 n, V.int i, .hd a2 0 n2] args okf K := by
  intro _ _
  subst hn; subst hn2
  obtain ⟨e1, e2, e3⟩ := of_decide_eq_true hd
  refine Ya ⟨_, _, _, _, [a, a2], some [], h.ev, ⟨by simp [conv], by simp [conv], by simp [conv], trivial⟩, ⟨⟨_, ha, rfl, rfl⟩, ⟨_, ha2, rfl, rfl⟩, trivial⟩, by simpa using e1, ?_, by simp, by simp [KK], fun h => by simp at h, ?_⟩
  · intro y hy
    simp only [List.mem_cons, List.not_mem_nil, or_false] at hy
    rcases hy with rfl | rfl <;> assumption
  · simp only [Yl, Yk, Ob.ren, V.ren, sig, aqe]
    exact hk
end
end Av
end
noncomputable section
set_option maxRecDepth 10000
set_option maxHeartbeats 4000000
namespace Av
open Go
attribute [local irreducible] AWp VA K4 jR awS awC aa9 awQ abD QZ V9 aay awR Ug awB okR jL ris
def akd {α : Type} (lt : α → α → Bool) (l : List α) (x : α) : Nat → Nat → Nat → Nat
  | 0, i, _ => i
  | n + 1, i, j => if i < j then (match l[(i + j) / 2]? with
    | some y => if lt y x = true then akd lt l x n ((i + j) / 2 + 1) j else akd lt l x n i ((i + j) / 2)
    | none => i) else i
def bsI {α : Type} (lt : α → α → Bool) (l : List α) (x : α) : Nat := akd lt l x l.length 0 l.length
theorem ah1 {α : Type} {lt : α → α → Bool} {l : List α} {x : α} : ∀ (n i j : Nat), i ≤ j → j ≤ l.length → akd lt l x n i j ≤ l.length
  | 0, i, j, h1, h2 => by rw [akd]; omega
  | n + 1, i, j, h1, h2 => by
    rw [akd]
    split
    · split
      · split
        · exact ah1 n _ _ (by omega) h2
        · exact ah1 n _ _ (by omega) (by omega)
      · omega
    · omega
theorem agF {α : Type} {lt : α → α → Bool} {l : List α} {x : α} : bsI lt l x ≤ l.length := ah1 _ _ _ (Nat.zero_le _) (Nat.le_refl _)
theorem ad1 {a b : Nat} (h : a + b < 2 ^ 36) : IntKind.i64.wrap ((IntKind.u64.wrap (IntKind.i64.wrap ((a : Int) + (b : Int)))).fdiv (2 ^ 1)) = (((a + b) / 2 : Nat) : Int) := by
  have e1 : IntKind.i64.wrap ((a : Int) + (b : Int)) = ((a + b : Nat) : Int) := by rw [QE (by omega) (by omega)]; omega
  have e2 : IntKind.u64.wrap ((a + b : Nat) : Int) = ((a + b : Nat) : Int) := by
    unfold IntKind.wrap; simp [IntKind.signed, IntKind.bits]; omega
  rw [e1, e2, Int.fdiv_eq_ediv_of_nonneg _ (by decide), show (2 : Int) ^ 1 = 2 from rfl, QE (by omega) (by omega)]; omega
def Yn := qd Proofs.Tryz.f123 []
def Y9 (Γ : Env) (f : Nat) : Prop := ∀ (s : List UInt8), EvN Γ f [V.str s] (V.bool false)
theorem jS {Γ : Env} {f : Nat} (h : Has Γ.P f 6 Yn.1.1.ac Yn.1.2)  : Y9 Γ f := by
  intro s
  refine Qb h zsi zcl zcl fun C hC hm => ?_
  subst hC
  simp only [Yn, qd, DC.ac]
  refine zgo ?_; repeat' first | exact zt | apply zan | intro hc
  all_goals first | exact zr | (refine Qi _ rfl ?_; simp only [go_sem, Nat.reduceEqDiff, Nat.reduceAdd, reduceIte, reduceCtorEq]; simp; done) | trace_state
def Xl := qd Proofs.Tryz.f173 []
def WP (Γ : Env) (f : Nat) : Prop := ∀ (s : List UInt8), EvN Γ f [V.str s] (V.bool false)
theorem xX {Γ : Env} {f : Nat} (h : Has Γ.P f 6 Xl.1.1.ac Xl.1.2)  : WP Γ f := by
  intro s
  refine Qb h zsi zcl zcl fun C hC hm => ?_
  subst hC
  simp only [Xl, qd, DC.ac]
  refine zgo ?_; repeat' first | exact zt | apply zan | intro hc
  all_goals first | exact zr | (refine Qi _ rfl ?_; simp only [go_sem, Nat.reduceEqDiff, Nat.reduceAdd, reduceIte, reduceCtorEq]; simp; done) | trace_state
def X3 := qd Proofs.Tryz.f122 []
def Vt (Γ : Env) (f : Nat) : Prop := ∀ (a b : List UInt8), EvN Γ f [V.str a, V.str b] (V.bool (Op.bytesLess a b))
theorem vr {Γ : Env} {f : Nat} (h : Has Γ.P f 17 X3.1.1.ac X3.1.2) (z0 : WP Γ 173) : Vt Γ f := by
  intro a b
  refine Qb h zsi zcl zcl fun C hC hm => ?_
  subst hC
  simp only [X3, qd, DC.ac]
  have p1 := (z0 a).b
  exact zg
def WS {α : Type} [BEq α] (l : List α) (i : Nat) (x : α) : Bool := match l[i]? with | some y => y == x | none => false
def QU := qd Proofs.Tryz.f88 []
def Jg (Γ : Env) (f : Nat) : Prop := ∀ (l : List (List UInt8)) (x : List UInt8) (hl : l.length < 2 ^ 34), EvN Γ f [.sl 1 (l.map V.str), V.str x] (.tup [V.int (bsI Op.bytesLess l x : Nat), V.bool (WS l (bsI Op.bytesLess l x) x)])
attribute [local go_sem] JY in
theorem XG {Γ : Env} {f : Nat} (h : Has Γ.P f 54 QU.1.1.ac QU.1.2) (z0 : Vt Γ 122) (z1 : Y9 Γ 123) : Jg Γ f := by
  intro l x hl
  refine Qb h zsi zcl zcl fun C hC hm => ?_
  subst hC
  simp only [QU, qd, DC.ac]
  refine zgo ?_; repeat' first | exact zt | apply zan | intro hc
  refine Qp (ι := Nat × Nat × Nat) (fun q => q.2.1 ≤ q.2.2 ∧ q.2.2 ≤ l.length ∧ q.2.2 - q.2.1 ≤ q.1 ∧ akd Op.bytesLess l x q.1 q.2.1 q.2.2 = bsI Op.bytesLess l x) (fun q => JY [(0, .sl 1 (l.map V.str)), (1, V.str x), (6, V.int l.length), (7, V.int q.2.1), (8, V.int q.2.2)] [] 0) (fun q => q.2.2 - q.2.1) (l.length, 0, l.length) ⟨Nat.zero_le _, Nat.le_refl _, by simp, rfl⟩ (Qd []) (Qh [] (by simp only [go_sem, zwl, Nat.reduceAdd, Nat.reduceMul, Nat.reduceEqDiff, Nat.reduceLT, Int.reduceToNat, reduceIte, reduceCtorEq, List.length_map] <;> exact zcc) zwa (by simp) (by simp) (by omega)) fun q hq K' hL => ?_
  obtain ⟨n, i, j⟩ := q
  simp only at hq hL ⊢
  obtain ⟨h1, h2, h3, h4⟩ := hq
  have hb : bsI Op.bytesLess l x ≤ l.length := agF
  by_cases hij : i < j
  · obtain ⟨n, rfl⟩ : ∃ m, n = m + 1 := ⟨n - 1, by omega⟩
    have e1 : decide ((i : Int) < (j : Int)) = true := decide_eq_true (by omega)
    have hh := ad1 (a := i) (b := j) (by omega)
    rw [akd, if_pos hij] at h4
    have r1 : i ≤ (i + j) / 2 := by omega
    have r2 : (i + j) / 2 < j := by omega
    generalize (i + j) / 2 = r at *
    obtain ⟨y, hy⟩ : ∃ y, l[r]? = some y := ⟨_, List.getElem?_eq_getElem (by omega)⟩
    rw [hy] at h4
    simp only at h4
    have p1 := (z0 y x).b
    have hwr := Qg (k := r) (by omega)
    rcases hlt : Op.bytesLess y x with _ | _
    · rw [hlt] at p1 h4
      rw [if_neg (by decide)] at h4
      (have zx := And.intro e1 (And.intro hh (And.intro hwr hy))); refine zgo ?_; repeat' first | exact zt | apply zan | intro hc
      all_goals first | exact hL _ (n, i, r) (Qd []) ⟨by simp only; omega, by simp only; omega, by simp only; omega, h4⟩ (by simp only; omega) (zwg []) | trace_state
    · rw [hlt] at p1 h4
      rw [if_pos rfl] at h4
      (have zx := And.intro e1 (And.intro hh (And.intro hwr hy))); refine zgo ?_; repeat' first | exact zt | apply zan | intro hc
      all_goals first | exact hL _ (n, r + 1, j) (Qd []) ⟨by simp only; omega, by simp only; omega, by simp only; omega, h4⟩ (by simp only; omega) (zwg []) | trace_state
  · have e1 : decide ((i : Int) < (j : Int)) = false := decide_eq_false (by omega)
    have hbi : bsI Op.bytesLess l x = i := by
      rw [← h4]
      rcases n with _ | n
      · rfl
      · rw [akd, if_neg hij]
    rw [hbi]
    by_cases hil : i < l.length
    · have e2 : decide ((i : Int) < (l.length : Int)) = true := decide_eq_true (by omega)
      obtain ⟨y, hy⟩ : ∃ y, l[i]? = some y := ⟨_, List.getElem?_eq_getElem hil⟩
      have hf : WS l i x = (y == x) := by simp only [WS, hy]
      have p2 := (z1 y).b
      rw [hf]
      rcases hyx : y == x with _ | _
      · (have zx := And.intro e1 (And.intro e2 (And.intro hyx hy))); exact zg
      · (have zx := And.intro e1 (And.intro e2 (And.intro hyx hy))); exact zg
    · have e2 : decide ((i : Int) < (l.length : Int)) = false := decide_eq_false (by omega)
      have hf : WS l i x = false := by rw [WS, List.getElem?_eq_none (by omega)]
      rw [hf]
      (have zx := And.intro e1 e2); exact zg
def ltJ (x y : Int) : Bool := decide (x < y)
def aak {α : Type} [BEq α] (lt : α → α → Bool) (l : List α) (x : α) : List α :=
  if WS l (bsI lt l x) x = true then l else l.take (bsI lt l x) ++ x :: l.drop (bsI lt l x)
def Yy (Γ : Env) (f : Nat) : Prop := ((∀ (xs : List (List UInt8)) (i : Nat) (x : List UInt8), i ≤ xs.length → 0 < xs.length → xs.length < 2 ^ 30 → aqR Γ f (V.int i) 1 (xs.map V.str) [V.str x] ((xs.take i ++ x :: xs.drop i).map V.str)) ∧ (∀ x : List UInt8, EvW Γ f [KC, V.int 0, .sl 1 [V.str x]] 1 [V.str x]))
def Q8 := qd Proofs.Tryz.f54 []
def Yv (Γ : Env) (f : Nat) : Prop := ((∀ (xs : List (List UInt8)) (x : List UInt8), 0 < xs.length → xs.length < 2 ^ 30 → WS xs (bsI Op.bytesLess xs x) x = true → EvX Γ f [V.str x] 1 (xs.map V.str)) ∧ (∀ (xs : List (List UInt8)) (x : List UInt8), 0 < xs.length → xs.length < 2 ^ 30 → WS xs (bsI Op.bytesLess xs x) x = false → EvI Γ f [V.str x] 1 (xs.map V.str) ((aak Op.bytesLess xs x).map V.str)) ∧ (∀ x : List UInt8, EvW Γ f [KC, V.str x] 1 [V.str x]))
theorem qc {Γ : Env} {f : Nat} (h : Has Γ.P f 20 Q8.1.1.ac Q8.1.2) (z0 : Jg Γ 88) (z1 : Yy Γ 89) : Yv Γ f := by
  obtain ⟨hI, hW⟩ := z1
  refine ⟨fun xs x h0 hl hf => ?_, fun xs x h0 hl hf => ?_, fun x => ?_⟩
  · refine xZ h (by simp) fun C hC hm => ?_
    subst hC
    simp only [Q8, qd, DC.ac]
    have hb := (z0 xs x (by omega)).b
    rw [hf] at hb
    have ht : List.take (xs.map V.str).length (xs.map V.str) = xs.map V.str := List.take_length
    (have zx := ht); refine zgo ?_; repeat' first | exact zt | apply zan | intro hc
    all_goals first | (refine alO _ rfl rfl rfl ?_; first | rfl | (simp; done)) | trace_state
  · refine jg h (by simp) fun C hC hm => ?_
    subst hC
    simp only [Q8, qd, DC.ac]
    have hb := (z0 xs x (by omega)).b
    have hi := hI xs (bsI Op.bytesLess xs x) x agF h0 hl
    rw [aak, if_neg (by rw [hf]; decide)]
    rw [hf] at hb
    have ht : List.take (xs.map V.str).length (xs.map V.str) = xs.map V.str := List.take_length
    generalize bsI Op.bytesLess xs x = i at *
    repeat' (first | (refine zsk ?_; intro K' hK) | refine zsp ?_ | (refine zsc ?_ ?_ <;> intro hc <;> first | exact znh | try simp only [znz] at hc) | simp (maxSteps := 1000000) only [go_sem, Nat.reduceAdd, Nat.reduceMul, Nat.reduceEqDiff, Nat.reduceLeDiff, Nat.reduceLT, Nat.reduceSub, Int.reduceEq, Int.reduceBEq, Int.reduceLT, Int.reduceLE, Int.reduceAdd, Int.reduceToNat, reduceIte, reduceCtorEq, ht] | (refine hK _ ?_; clear hK K') | apply zan | (apply aba; (focus exact rfl); (focus first | exact hi); (focus exact rfl); (focus exact rfl); (focus (first | exact rfl | (simp; done)))) | (apply yB; (focus exact rfl); (focus exact rfl); (focus first | exact hi); (focus exact rfl); (focus (first | exact rfl | (simp; done))); (focus (first | exact rfl | (simp; done)))) | (apply Qv; (focus first | exact hb | exact (z0 _ _ zsd).b)) | exact zsq | fail)
    all_goals first | (refine ags _ _ rfl ⟨_, rfl⟩ rfl (by omega) rfl ?_; first | rfl | (simp; done)) | trace_state
  · refine VC h (by simp) (by intro y hy; rw [List.mem_singleton.1 hy]; simp only [V.noSl]) fun C hC hm => ?_
    subst hC
    simp only [Q8, qd, DC.ac]
    have hb := (z0 [] x (by simp)).b
    have hw := hW x
    simp only [List.map_nil] at hb
    have hb := hb.le2 (LeV.nil 1) (LeV.refl _)
    refine zgo ?_; repeat' first | exact zt | apply zan | intro hc
    all_goals first | (refine yr (xs := [V.str x]) _ _ rfl ?_ ?_ <;> first | rfl | (simp; done)) | trace_state
section
variable {α : Type}
def gK (lt : α → α → Bool) (out : List α) (x : α) : Nat → Nat
  | 0 => 0
  | k + 1 => if (match out[k]? with | some y => lt x y | none => false) = true then gK lt out x k else k + 1
theorem ao2 (lt : α → α → Bool) (out : List α) (x : α) : ∀ k, gK lt out x k ≤ k
  | 0 => Nat.le_refl _
  | k + 1 => by
    rw [gK]
    by_cases h : (match out[k]? with | some y => lt x y | none => false) = true
    · rw [if_pos h]; exact Nat.le_succ_of_le (ao2 lt out x k)
    · rw [if_neg h]; exact Nat.le_refl _
def af6 (lt : α → α → Bool) (out : List α) (x : α) : List α := out.take (gK lt out x out.length) ++ [x] ++ out.drop (gK lt out x out.length)
def U1 (lt : α → α → Bool) (l : List α) : List α := l.foldl (af6 lt) []
theorem anm (lt : α → α → Bool) (out : List α) (x : α) : (af6 lt out x).length = out.length + 1 := by
  have := ao2 lt out x out.length
  simp [af6]; omega
theorem af4 (lt : α → α → Bool) : ∀ (l out : List α), (l.foldl (af6 lt) out).length = out.length + l.length
  | [], out => by simp
  | x :: r, out => by rw [List.foldl_cons, af4 lt r, anm]; simp; omega
theorem yf (lt : α → α → Bool) (l : List α) : (U1 lt l).length = l.length := by rw [U1, af4]; simp
theorem af5 (lt : α → α → Bool) (x : α) : U1 lt [x] = [x] := by simp [U1, af6, gK]
theorem alx {lt : α → α → Bool} {out : List α} {x : α} : (af6 lt out x).Perm (x :: out) := by
  have h : (out.take (gK lt out x out.length) ++ out.drop (gK lt out x out.length)).Perm out := by rw [List.take_append_drop]
  rw [af6, List.append_assoc, List.singleton_append]
  exact List.perm_middle.trans (h.cons x)
theorem ad2 {lt : α → α → Bool} : ∀ (l out : List α), (l.foldl (af6 lt) out).Perm (l ++ out)
  | [], out => by simp
  | x :: r, out => by
    rw [List.foldl_cons, List.cons_append]
    exact ((ad2 r (af6 lt out x)).trans (List.Perm.append_left r alx)).trans List.perm_middle
theorem XE {lt : α → α → Bool} {l : List α} : (U1 lt l).Perm l := by have := ad2 (lt := lt) l []; rwa [List.append_nil] at this
def Ord (lt : α → α → Bool) (l : List α) : Prop := l.Pairwise fun x y => lt y x = false
theorem alw {lt : α → α → Bool} {out : List α} {x : α} : ∀ k, k ≤ out.length → (∀ j, gK lt out x k ≤ j → j < k → ∀ y, out[j]? = some y → lt x y = true) ∧ (0 < gK lt out x k → ∀ y, out[gK lt out x k - 1]? = some y → lt x y = false)
  | 0, _ => ⟨fun j h1 h2 => by omega, fun h => by simp [gK] at h⟩
  | k + 1, hk => by
    obtain ⟨i1, i2⟩ := alw (lt := lt) (out := out) (x := x) k (by omega)
    have hy : out[k]? = some out[k] := List.getElem?_eq_getElem (by omega)
    simp only [gK, hy]
    split
    · rename_i h
      refine ⟨fun j h1 h2 y e => ?_, i2⟩
      by_cases hj : j = k
      · subst hj; rw [hy] at e; cases e; exact h
      · exact i1 j h1 (by omega) y e
    · rename_i h
      refine ⟨fun j h1 h2 => by omega, fun _ y e => ?_⟩
      rw [Nat.add_sub_cancel, hy] at e; cases e
      simpa using h
theorem ank {lt : α → α → Bool} (htr : ∀ x y z, lt y x = false → lt z y = false → lt z x = false) (has : ∀ x y, lt x y = true → lt y x = false) {out : List α} {x : α} (h : Ord lt out) : Ord lt (af6 lt out x) := by
  obtain ⟨h1, h2⟩ := alw (lt := lt) (out := out) (x := x) out.length (Nat.le_refl _)
  have hle := ao2 lt out x out.length
  unfold Ord af6 at *
  generalize gK lt out x out.length = k at *
  have hto : (out.take k).Pairwise fun x y => lt y x = false := h.sublist (List.take_sublist _ _)
  have hdr : (out.drop k).Pairwise fun x y => lt y x = false := h.sublist (List.drop_sublist _ _)
  have hcr : ∀ a ∈ out.take k, ∀ b ∈ out.drop k, lt b a = false := by
    have := h
    rw [← List.take_append_drop k out, List.pairwise_append] at this
    exact this.2.2
  have hx1 : ∀ a ∈ out.take k, lt x a = false := by
    intro a ha
    rcases Nat.eq_zero_or_pos k with hk | hk
    · subst hk; simp at ha
    · have hlast : out[k - 1]? = some out[k - 1] := List.getElem?_eq_getElem (by omega)
      have hxl := h2 hk _ hlast
      obtain ⟨i, hi, rfl⟩ := List.getElem_of_mem ha
      simp only [List.length_take] at hi
      rw [List.getElem_take]
      by_cases e : i = k - 1
      · subst e; exact hxl
      · have := (List.pairwise_iff_getElem.1 h) i (k - 1) (by omega) (by omega) (by omega)
        exact htr _ _ _ this hxl
  have hx2 : ∀ b ∈ out.drop k, lt b x = false := by
    intro b hb
    obtain ⟨i, hi, rfl⟩ := List.getElem_of_mem hb
    rw [List.getElem_drop]
    simp only [List.length_drop] at hi
    exact has _ _ (h1 (k + i) (by omega) (by omega) _ (List.getElem?_eq_getElem (by omega)))
  rw [List.append_assoc, List.singleton_append, List.pairwise_append]
  refine ⟨hto, List.pairwise_cons.2 ⟨hx2, hdr⟩, fun a ha b hb => ?_⟩
  rcases List.mem_cons.1 hb with rfl | hb
  · exact hx1 a ha
  · exact hcr a ha b hb
theorem af2 {lt : α → α → Bool} (htr : ∀ x y z, lt y x = false → lt z y = false → lt z x = false) (has : ∀ x y, lt x y = true → lt y x = false) : ∀ (l out : List α), Ord lt out → Ord lt (l.foldl (af6 lt) out)
  | [], _, h => h
  | x :: r, out, h => af2 htr has r _ (ank htr has h)
theorem wO {lt : α → α → Bool} (htr : ∀ x y z, lt y x = false → lt z y = false → lt z x = false) (has : ∀ x y, lt x y = true → lt y x = false) (l : List α) : Ord lt (U1 lt l) := af2 htr has l [] List.Pairwise.nil
end
abbrev V.u64 (n : Int) : V := .sc (.int .u64 n)
def Xd := qd Proofs.Tryz.f127 []
def WH (Γ : Env) (f : Nat) : Prop := ∀ (n : Int), EvN Γ f [V.int n] (V.bool false)
theorem xP {Γ : Env} {f : Nat} (h : Has Γ.P f 6 Xd.1.1.ac Xd.1.2)  : WH Γ f := by
  intro n
  refine Qb h zsi zcl zcl fun C hC hm => ?_
  subst hC
  simp only [Xd, qd, DC.ac]
  have e : (n != n) = false := by simp
  (have zx := e); exact zg
def VZ := qd Proofs.Tryz.f126 []
def Kn (Γ : Env) (f : Nat) : Prop := ∀ (a b : Int), EvN Γ f [V.int a, V.int b] (V.bool (decide (a < b)))
theorem acJ {Γ : Env} {f : Nat} (h : Has Γ.P f 17 VZ.1.1.ac VZ.1.2) (z0 : Wy Γ 76) : Kn Γ f := by
  intro a b
  refine Qb h zsi zcl zcl fun C hC hm => ?_
  subst hC
  simp only [VZ, qd, DC.ac]
  have n1 := (z0 _ rfl a).b
  have n2 := (z0 _ rfl b).b
  repeat' (first | (refine zsk ?_; intro K' hK) | refine zsp ?_ | (refine zsc ?_ ?_ <;> intro hc <;> first | exact znh | try simp only [znz] at hc) | simp (maxSteps := 1000000) only [go_sem, Nat.reduceAdd, Nat.reduceMul, Nat.reduceEqDiff, Nat.reduceLeDiff, Nat.reduceLT, Nat.reduceSub, Int.reduceEq, Int.reduceBEq, Int.reduceLT, Int.reduceLE, Int.reduceAdd, Int.reduceToNat, reduceIte, reduceCtorEq] | (refine hK _ ?_; clear hK K') | apply zan | (apply Qv; (focus first | exact n1 | exact n2)) | exact zsq | fail)
  all_goals first | exact zr | trace_state
def Je := qd Proofs.Tryz.f90 []
def JF (Γ : Env) (f : Nat) : Prop := ∀ (l : List Int) (x : Int) (hl : l.length < 2 ^ 34), EvN Γ f [.sl 1 (l.map V.int), V.int x] (.tup [V.int (bsI ltJ l x : Nat), V.bool (WS l (bsI ltJ l x) x)])
attribute [local go_sem] JY in
theorem Vy {Γ : Env} {f : Nat} (h : Has Γ.P f 54 Je.1.1.ac Je.1.2) (z0 : Kn Γ 126) (z1 : WH Γ 127) : JF Γ f := by
  intro l x hl
  refine Qb h zsi zcl zcl fun C hC hm => ?_
  subst hC
  simp only [Je, qd, DC.ac]
  refine zgo ?_; repeat' first | exact zt | apply zan | intro hc
  refine Qp (ι := Nat × Nat × Nat) (fun q => q.2.1 ≤ q.2.2 ∧ q.2.2 ≤ l.length ∧ q.2.2 - q.2.1 ≤ q.1 ∧ akd ltJ l x q.1 q.2.1 q.2.2 = bsI ltJ l x) (fun q => JY [(0, .sl 1 (l.map V.int)), (1, V.int x), (6, V.int l.length), (7, V.int q.2.1), (8, V.int q.2.2)] [] 0) (fun q => q.2.2 - q.2.1) (l.length, 0, l.length) ⟨Nat.zero_le _, Nat.le_refl _, by simp, rfl⟩ (Qd []) (Qh [] (by simp only [go_sem, zwl, Nat.reduceAdd, Nat.reduceMul, Nat.reduceEqDiff, Nat.reduceLT, Int.reduceToNat, reduceIte, reduceCtorEq, List.length_map] <;> exact zcc) zwa (by simp) (by simp) (by omega)) fun q hq K' hL => ?_
  obtain ⟨n, i, j⟩ := q
  simp only at hq hL ⊢
  obtain ⟨h1, h2, h3, h4⟩ := hq
  have hb : bsI ltJ l x ≤ l.length := agF
  by_cases hij : i < j
  · obtain ⟨n, rfl⟩ : ∃ m, n = m + 1 := ⟨n - 1, by omega⟩
    have e1 : decide ((i : Int) < (j : Int)) = true := decide_eq_true (by omega)
    have hh := ad1 (a := i) (b := j) (by omega)
    rw [akd, if_pos hij] at h4
    have r1 : i ≤ (i + j) / 2 := by omega
    have r2 : (i + j) / 2 < j := by omega
    generalize (i + j) / 2 = r at *
    obtain ⟨y, hy⟩ : ∃ y, l[r]? = some y := ⟨_, List.getElem?_eq_getElem (by omega)⟩
    rw [hy] at h4
    simp only at h4
    have p1 : EvB C.env 126 [V.int y, V.int x] (V.bool (ltJ y x)) none := (z0 y x).b
    have hwr := Qg (k := r) (by omega)
    rcases hlt : ltJ y x with _ | _
    · rw [hlt] at p1 h4
      rw [if_neg (by decide)] at h4
      (have zx := And.intro e1 (And.intro hh (And.intro hwr hy))); refine zgo ?_; repeat' first | exact zt | apply zan | intro hc
      all_goals first | exact hL _ (n, i, r) (Qd []) ⟨by simp only; omega, by simp only; omega, by simp only; omega, h4⟩ (by simp only; omega) (zwg []) | trace_state
    · rw [hlt] at p1 h4
      rw [if_pos rfl] at h4
      (have zx := And.intro e1 (And.intro hh (And.intro hwr hy))); refine zgo ?_; repeat' first | exact zt | apply zan | intro hc
      all_goals first | exact hL _ (n, r + 1, j) (Qd []) ⟨by simp only; omega, by simp only; omega, by simp only; omega, h4⟩ (by simp only; omega) (zwg []) | trace_state
  · have e1 : decide ((i : Int) < (j : Int)) = false := decide_eq_false (by omega)
    have hbi : bsI ltJ l x = i := by
      rw [← h4]
      rcases n with _ | n
      · rfl
      · rw [akd, if_neg hij]
    rw [hbi]
    by_cases hil : i < l.length
    · have e2 : decide ((i : Int) < (l.length : Int)) = true := decide_eq_true (by omega)
      obtain ⟨y, hy⟩ : ∃ y, l[i]? = some y := ⟨_, List.getElem?_eq_getElem hil⟩
      have hf : WS l i x = (y == x) := by simp only [WS, hy]
      have p2 := (z1 y).b
      rw [hf]
      rcases hyx : y == x with _ | _
      · (have zx := And.intro e1 (And.intro e2 (And.intro hyx hy))); exact zg
      · (have zx := And.intro e1 (And.intro e2 (And.intro hyx hy))); exact zg
    · have e2 : decide ((i : Int) < (l.length : Int)) = false := decide_eq_false (by omega)
      have hf : WS l i x = false := by rw [WS, List.getElem?_eq_none (by omega)]
      rw [hf]
      (have zx := And.intro e1 e2); exact zg
def Wa (Γ : Env) (f : Nat) : Prop := ((∀ (xs : List Int) (i : Nat) (x : Int), i ≤ xs.length → 0 < xs.length → xs.length < 2 ^ 30 → aqR Γ f (V.int i) 1 (xs.map V.int) [V.int x] ((xs.take i ++ x :: xs.drop i).map V.int)) ∧ (∀ x : Int, EvW Γ f [KC, V.int 0, .sl 1 [V.int x]] 1 [V.int x]))
def Jo := qd Proofs.Tryz.f55 []
def Xa (Γ : Env) (f : Nat) : Prop := ((∀ (xs : List Int) (x : Int), 0 < xs.length → xs.length < 2 ^ 30 → WS xs (bsI ltJ xs x) x = true → EvX Γ f [V.int x] 1 (xs.map V.int)) ∧ (∀ (xs : List Int) (x : Int), 0 < xs.length → xs.length < 2 ^ 30 → WS xs (bsI ltJ xs x) x = false → EvI Γ f [V.int x] 1 (xs.map V.int) ((aak ltJ xs x).map V.int)) ∧ (∀ x : Int, EvW Γ f [KC, V.int x] 1 [V.int x]))
theorem jT {Γ : Env} {f : Nat} (h : Has Γ.P f 20 Jo.1.1.ac Jo.1.2) (z0 : JF Γ 90) (z1 : Wa Γ 91) : Xa Γ f := by
  obtain ⟨hI, hW⟩ := z1
  refine ⟨fun xs x h0 hl hf => ?_, fun xs x h0 hl hf => ?_, fun x => ?_⟩
  · refine xZ h (by simp) fun C hC hm => ?_
    subst hC
    simp only [Jo, qd, DC.ac]
    have hb := (z0 xs x (by omega)).b
    rw [hf] at hb
    have ht : List.take (xs.map V.int).length (xs.map V.int) = xs.map V.int := List.take_length
    (have zx := ht); refine zgo ?_; repeat' first | exact zt | apply zan | intro hc
    all_goals first | (refine alO _ rfl rfl rfl ?_; first | rfl | (simp; done)) | trace_state
  · refine jg h (by simp) fun C hC hm => ?_
    subst hC
    simp only [Jo, qd, DC.ac]
    have hb := (z0 xs x (by omega)).b
    have hi := hI xs (bsI ltJ xs x) x agF h0 hl
    rw [aak, if_neg (by rw [hf]; decide)]
    rw [hf] at hb
    have ht : List.take (xs.map V.int).length (xs.map V.int) = xs.map V.int := List.take_length
    generalize bsI ltJ xs x = i at *
    repeat' (first | (refine zsk ?_; intro K' hK) | refine zsp ?_ | (refine zsc ?_ ?_ <;> intro hc <;> first | exact znh | try simp only [znz] at hc) | simp (maxSteps := 1000000) only [go_sem, Nat.reduceAdd, Nat.reduceMul, Nat.reduceEqDiff, Nat.reduceLeDiff, Nat.reduceLT, Nat.reduceSub, Int.reduceEq, Int.reduceBEq, Int.reduceLT, Int.reduceLE, Int.reduceAdd, Int.reduceToNat, reduceIte, reduceCtorEq, ht] | (refine hK _ ?_; clear hK K') | apply zan | (apply aba; (focus exact rfl); (focus first | exact hi); (focus exact rfl); (focus exact rfl); (focus (first | exact rfl | (simp; done)))) | (apply yB; (focus exact rfl); (focus exact rfl); (focus first | exact hi); (focus exact rfl); (focus (first | exact rfl | (simp; done))); (focus (first | exact rfl | (simp; done)))) | (apply Qv; (focus first | exact hb | exact (z0 _ _ zsd).b)) | exact zsq | fail)
    all_goals first | (refine ags _ _ rfl ⟨_, rfl⟩ rfl (by omega) rfl ?_; first | rfl | (simp; done)) | trace_state
  · refine VC h (by simp) (by intro y hy; rw [List.mem_singleton.1 hy]; simp only [V.noSl]) fun C hC hm => ?_
    subst hC
    simp only [Jo, qd, DC.ac]
    have hb := (z0 [] x (by simp)).b
    have hw := hW x
    simp only [List.map_nil] at hb
    have hb := hb.le2 (LeV.nil 1) (LeV.refl _)
    refine zgo ?_; repeat' first | exact zt | apply zan | intro hc
    all_goals first | (refine yr (xs := [V.int x]) _ _ rfl ?_ ?_ <;> first | rfl | (simp; done)) | trace_state
def XL := qd Proofs.Tryz.f83 []
def Ve (Γ : Env) (f : Nat) : Prop := ∀ (a b : Int), EvN Γ f [.agg [V.int a, V.int b]] (V.bool (aoi a b 2))
theorem wR {Γ : Env} {f : Nat} (h : Has Γ.P f 11 XL.1.1.ac XL.1.2) (z0 : Wp Γ 77) (z1 : jC Γ 119) : Ve Γ f := by
  intro a b
  refine Qb h zsi zcl zcl fun C hC hm => ?_
  subst hC
  simp only [XL, qd, DC.ac]
  unfold aoi
  rcases hq : decide (Qn a b > 0) with _ | _
  · (have zx := hq); refine zgo ?_; repeat' first | exact zt | apply zan | intro hc
    all_goals first | exact zr | (refine Qi _ rfl ?_; simp only [go_sem, Nat.reduceEqDiff, Nat.reduceAdd, reduceIte, reduceCtorEq]; simp [*]; done) | trace_state
  · (have zx := hq); refine zgo ?_; repeat' first | exact zt | apply zan | intro hc
    all_goals first | exact zr | (refine Qi _ rfl ?_; simp only [go_sem, Nat.reduceEqDiff, Nat.reduceAdd, reduceIte, reduceCtorEq]; simp [*]; done) | trace_state
end Av
end

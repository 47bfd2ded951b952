/- K28 -/
import Derived.Test.YtlnkijmacdgahaaGreatK25
import Derived.Test.YtlnkijmacdgahaaGreatK27
import Derived.Test.YtlnkijmacdgahaaGreatK12
import Derived.Test.YtlnkijmacdgahaaGreatK26
set_option linter.unusedVariables false
set_option linter.unusedSimpArgs false
noncomputable section
set_option maxRecDepth 10000
set_option maxHeartbeats 4000000
namespace Av
open Go
attribute [local irreducible] AWp VA K4 jR awS awC aa9 awQ abD QZ V9 aay awR Ug awB okR jL ris
theorem wL : ∀ a : List UInt8, Op.bytesLess a a = false
  | [] => rfl
  | c :: r => by
    rw [Op.bytesLess, wL r]
    simp
theorem UZ : ∀ a b c : List UInt8, Op.bytesLess a b = true → Op.bytesLess b c = true → Op.bytesLess a c = true
  | _, [], _, h, _ => by simp [Op.bytesLess] at h
  | _, _ :: _, [], _, h => by simp [Op.bytesLess] at h
  | [], _ :: _, _ :: _, _, _ => rfl
  | x :: a, y :: b, z :: c, h1, h2 => by
    have ih := UZ a b c
    simp only [Op.bytesLess, Bool.or_eq_true, Bool.and_eq_true, decide_eq_true_eq, beq_iff_eq] at h1 h2 ⊢
    rcases h1 with h1 | ⟨rfl, h1⟩
    · rcases h2 with h2 | ⟨rfl, h2⟩
      · exact .inl (UInt8.lt_trans h1 h2)
      · exact .inl h1
    · rcases h2 with h2 | ⟨rfl, h2⟩
      · exact .inl h2
      · exact .inr ⟨rfl, ih h1 h2⟩
theorem wK : ∀ a b : List UInt8, Op.bytesLess a b = false → Op.bytesLess b a = false → a = b
  | [], [], _, _ => rfl
  | [], _ :: _, h, _ => by simp [Op.bytesLess] at h
  | _ :: _, [], _, h => by simp [Op.bytesLess] at h
  | x :: a, y :: b, h1, h2 => by
    simp only [Op.bytesLess, Bool.or_eq_false_iff, Bool.and_eq_false_iff, decide_eq_false_iff_not, beq_eq_false_iff_ne] at h1 h2
    have hxy : x = y := by
      rcases UInt8.lt_or_eq_of_le (UInt8.not_lt.1 h1.1) with h | h
      · exact absurd h h2.1
      · exact h.symm
    subst hxy
    rw [wK a b (by rcases h1.2 with h | h; exact absurd rfl h; exact h) (by rcases h2.2 with h | h; exact absurd rfl h; exact h)]
theorem Cm.ze2 {α : Type} {c : α → α → Int} (h : Cm c) (a b d : α) (h1 : c a b ≤ 0) (h2 : c b d ≤ 0) (h3 : c a d = 0) : c b d = 0 := by
  have h4 := h.ze a b d h1 h2 h3
  have h5 := h.neg a d
  have h6 := h.neg a b
  exact h.ze b d a h2 (by omega) (by omega)
theorem qG : Cm Xv := by
  refine ⟨fun a b => ?_, fun a b d => ?_, fun a b d => ?_⟩ <;> (unfold Xv; repeat' split) <;> omega
theorem ahl {a b : List UInt8} : jY a b = 0 → a = b := by
  unfold jY
  rcases h1 : Op.bytesLess a b with _ | _
  · rcases h2 : Op.bytesLess b a with _ | _
    · intro _; exact wK a b h1 h2
    · simp
  · simp
theorem acf {a b : Int} : Xv a b = 0 → a = b := by
  unfold Xv; (repeat' split) <;> omega
theorem aoE {a b : List UInt8} : jY a b ≤ 0 ↔ Op.bytesLess b a = false := by
  unfold jY
  rcases h1 : Op.bytesLess a b with _ | _
  · rcases h2 : Op.bytesLess b a with _ | _ <;> simp
  · rcases h2 : Op.bytesLess b a with _ | _
    · simp
    · have := UZ a b a h1 h2
      rw [wL] at this; cases this
theorem agA : Cm jY := by
  have hneg : ∀ a b, jY b a = - jY a b := fun a b => by
    unfold jY
    rcases h1 : Op.bytesLess a b with _ | _ <;> rcases h2 : Op.bytesLess b a with _ | _ <;> simp
    have := UZ a b a h1 h2
    rw [wL] at this; cases this
  have htr : ∀ a b d, jY a b ≤ 0 → jY b d ≤ 0 → jY a d ≤ 0 := fun a b d h1 h2 => by
    rw [aoE] at *
    rcases h3 : Op.bytesLess d a with _ | _
    · rfl
    · rcases h4 : Op.bytesLess a b with _ | _
      · have := wK a b h4 h1
        subst this; rw [h3] at h2; cases h2
      · have := UZ d a b h3 h4
        rw [this] at h2; cases h2
  refine ⟨hneg, htr, fun a b d h1 h2 h3 => ?_⟩
  have := ahl h3
  subst this
  have := hneg a b
  omega
theorem Cm.lex {α : Type} {c1 c2 : α → α → Int} (h1 : Cm c1) (h2 : Cm c2) : Cm fun a b => if c1 a b ≠ 0 then c1 a b else c2 a b := by
  refine ⟨fun a b => ?_, fun a b d g1 g2 => ?_, fun a b d g1 g2 g3 => ?_⟩
  · have := h1.neg a b
    have := h2.neg a b
    show (if c1 b a ≠ 0 then c1 b a else c2 b a) = - (if c1 a b ≠ 0 then c1 a b else c2 a b)
    split <;> split <;> omega
  · have e1 : c1 a b ≤ 0 := by split at g1 <;> omega
    have e2 : c1 b d ≤ 0 := by split at g2 <;> omega
    have e3 := h1.tr a b d e1 e2
    split
    · exact e3
    · rename_i h
      have h := Classical.not_not.1 h
      have z1 := h1.ze a b d e1 e2 h
      have z2 := h1.ze2 a b d e1 e2 h
      rw [if_neg (by simpa using z1)] at g1
      rw [if_neg (by simpa using z2)] at g2
      exact h2.tr a b d g1 g2
  · have e1 : c1 a b ≤ 0 := by split at g1 <;> omega
    have e2 : c1 b d ≤ 0 := by split at g2 <;> omega
    have h : c1 a d = 0 := by split at g3 <;> omega
    have z1 := h1.ze a b d e1 e2 h
    have z2 := h1.ze2 a b d e1 e2 h
    rw [if_neg (by simpa using z1)] at g1 ⊢
    rw [if_neg (by simpa using z2)] at g2
    rw [if_neg (by simpa using h)] at g3
    exact h2.ze a b d g1 g2 g3
theorem Cm.by {α β : Type} {c : α → α → Int} (h : Cm c) (f : β → α) : Cm fun a b => c (f a) (f b) :=
  ⟨fun a b => h.neg _ _, fun a b d => h.tr _ _ _, fun a b d => h.ze _ _ _⟩
theorem x8 : Cm aev := by
  have h0 : Cm fun _ _ : Jb => (0 : Int) := ⟨fun _ _ => rfl, fun _ _ _ _ _ => Int.le_refl _, fun _ _ _ _ _ _ => rfl⟩
  exact (agA.by Jb.subj).lex ((qG.by Jb.kind).lex ((qG.by Jb.alg).lex ((qG.by Jb.bits).lex ((qG.by Jb.num).lex ((agA.by Jb.text).lex h0)))))
theorem VB {x : Int} {r : List Int} : JB (x :: r) = 0 → x = 0 ∧ JB r = 0 := by
  rw [JB]
  by_cases h : x ≠ 0
  · rw [if_pos h]; intro h2; exact absurd h2 h
  · rw [if_neg h]; intro h2; exact ⟨Classical.not_not.1 h, h2⟩
theorem ajx {a b : Jb} (h : aev a b = 0) : a.subj = b.subj ∧ a.kind = b.kind ∧ a.alg = b.alg ∧ a.bits = b.bits ∧ a.num = b.num ∧ a.text = b.text := by
  obtain ⟨h1, h⟩ := VB h
  obtain ⟨h2, h⟩ := VB h
  obtain ⟨h3, h⟩ := VB h
  obtain ⟨h4, h⟩ := VB h
  obtain ⟨h5, h⟩ := VB h
  obtain ⟨h6, h⟩ := VB h
  exact ⟨ahl h1, acf h2, acf h3, acf h4, acf h5, ahl h6⟩
def alf (a b : Jb) : Bool := decide (aev a b < 0)
theorem afx (l : List Jb) : Ord alf (U1 alf l) := by
  refine wO (fun x y z h1 h2 => ?_) (fun x y h => ?_) l
  · simp only [alf, decide_eq_false_iff_not, Int.not_lt] at *
    have a1 := x8.neg y x
    have a2 := x8.neg z y
    have a3 := x8.neg z x
    have := x8.tr x y z (by omega) (by omega)
    omega
  · simp only [alf, decide_eq_true_eq, decide_eq_false_iff_not, Int.not_lt] at *
    have a1 := x8.neg x y
    omega
theorem akz {l r : List Jb} (h : l.Perm r) (hd : ∀ a ∈ l, ∀ b ∈ l, aev a b = 0 → a = b) : U1 alf l = U1 alf r := by
  refine List.Perm.eq_of_pairwise (le := fun x y => alf y x = false) (fun a b ha hb h1 h2 => ?_) (afx l) (afx r) (XE.trans (h.trans XE.symm))
  refine hd a (XE.mem_iff.1 ha) b (h.mem_iff.2 (XE.mem_iff.1 hb)) ?_
  simp only [alf, decide_eq_false_iff_not, Int.not_lt] at *
  have a1 := x8.neg a b
  omega
abbrev PM := List PPl × List Nat
def apx (f g : Qa) : Bool := decide (f.day > g.day) || (f.day == g.day && decide (f.conf > g.conf))
def ai1 (l : List Qa) (day age : Int) (m : PM) (i : Nat) : PM :=
  match l[i]? with
  | none => m
  | some f => if f.day > day ∨ f.day < day - age then m else
    match aiF (YK f) m.1 0 with
    | none => (m.1 ++ [YK f], m.2 ++ [i])
    | some a => match l[m.2.getD a 0]? with
      | none => m
      | some g => if apx f g = true then (m.1, m.2.set a i) else m
def afm (l : List Qa) (day age : Int) (fs : List Nat) : PM := fs.foldl (ai1 l day age) ([], [])
theorem acq {p : PPl} : ∀ {ks : List PPl} {i a : Nat}, aiF p ks i = some a → i ≤ a ∧ a < i + ks.length ∧ ks[a - i]? = some p
  | [], i, a, h => by cases h
  | e :: r, i, a, h => by
    rw [aiF] at h
    split at h
    · rename_i he
      cases h
      subst he
      exact ⟨Nat.le_refl _, by simp, by simp⟩
    · obtain ⟨h1, h2, h3⟩ := acq h
      refine ⟨by omega, by simp; omega, ?_⟩
      rw [show a - i = (a - (i + 1)) + 1 by omega, List.getElem?_cons_succ]; exact h3
theorem afV {p : PPl} : ∀ {ks : List PPl} {i : Nat}, aiF p ks i = none → p ∉ ks
  | [], _, _ => by simp
  | e :: r, i, h => by
    rw [aiF] at h
    split at h
    · cases h
    · rename_i he
      have := afV h
      simp [he, this]
structure agW (l : List Qa) (m : PM) (n : Nat) : Prop where
  len : m.1.length = m.2.length
  le : m.1.length ≤ n
  nd : m.1.Nodup
  pt : ∀ (a i : Nat), m.2[a]? = some i → ∃ f, l[i]? = some f ∧ m.1[a]? = some (YK f)
theorem agW.nil (l : List Qa) : agW l ([], []) 0 := ⟨rfl, Nat.le_refl _, List.nodup_nil, fun a i h => by simp at h⟩
theorem agW.step {l : List Qa} {day age : Int} {m : PM} {n i : Nat} (h : agW l m n) : agW l (ai1 l day age m i) (n + 1) := by
  have h0 : agW l m (n + 1) := ⟨h.len, Nat.le_succ_of_le h.le, h.nd, h.pt⟩
  obtain ⟨ks, vs⟩ := m
  rw [ai1]
  rcases hf : l[i]? with _ | f
  · exact h0
  dsimp only
  split
  · exact h0
  rcases hx : aiF (YK f) ks 0 with _ | a
  · have hn := afV hx
    have hl := h.len
    have hle := h.le
    dsimp only at hl hle
    refine ⟨by simp [hl], by simp; omega, ?_, fun a j hj => ?_⟩
    · dsimp only
      rw [List.nodup_append]
      exact ⟨h.nd, by simp, fun x hx y hy => by rw [List.mem_singleton.1 hy]; exact fun he => hn (he ▸ hx)⟩
    · dsimp only at *
      rcases Nat.lt_trichotomy a vs.length with ha | ha | ha
      · rw [List.getElem?_append_left ha] at hj
        obtain ⟨g, g1, g2⟩ := h.pt a j hj
        exact ⟨g, g1, by rw [List.getElem?_append_left (by omega)]; exact g2⟩
      · subst ha
        rw [List.getElem?_concat_length] at hj
        cases hj
        exact ⟨f, hf, by rw [← hl, List.getElem?_concat_length]⟩
      · rw [List.getElem?_eq_none (by simp; omega)] at hj; cases hj
  · dsimp only
    rcases hg : l[vs.getD a 0]? with _ | g
    · exact h0
    dsimp only
    split
    · obtain ⟨a1, a2, a3⟩ := acq hx
      have hl := h.len
      dsimp only at hl
      refine ⟨by simp [hl], h0.le, h.nd, fun b j hj => ?_⟩
      dsimp only at *
      by_cases hb : a = b
      · subst hb
        rw [List.getElem?_set_self (by omega)] at hj
        cases hj
        exact ⟨f, hf, by simpa using a3⟩
      · rw [List.getElem?_set_ne hb] at hj
        exact h.pt b j hj
    · exact h0
theorem ahU (l : List Qa) (day age : Int) (fs : List Nat) (k : Nat) (hk : k ≤ fs.length) : agW l (afm l day age (fs.take k)) k := by
  induction k with
  | zero => exact agW.nil l
  | succ k ih =>
    have hlt : k < fs.length := by omega
    rw [afm, List.take_add_one, List.getElem?_eq_getElem hlt, List.foldl_append]
    exact (ih (by omega)).step
theorem alV {l : List Qa} {day age : Int} {fs : List Nat} {k i : Nat} (h : fs[k]? = some i) : afm l day age (fs.take (k + 1)) = ai1 l day age (afm l day age (fs.take k)) i := by
  rw [afm, List.take_add_one, h, List.foldl_append]; rfl
def qC (num : Int) (i : Nat) (f : Qa) : Jb := ⟨num, f.subj, f.kind, f.alg, f.bits, f.num, f.text, i⟩
def xj (l : List Qa) (num : Int) (i : Nat) : Option Jb :=
  match l[i]? with
  | none => none
  | some f => if f.kind = 8 then none else some (qC num i f)
def Wi (l : List Qa) (num : Int) (fs : List Nat) (day age : Int) : List Jb := U1 alf ((afm l day age fs).2.filterMap (xj l num))
def adI (l : List Qa) (num : Int) (vs is : List Nat) : List Jb := is.filterMap fun a => (vs[a]?).bind (xj l num)
theorem afp (l : List Qa) (num : Int) : ∀ vs : List Nat, adI l num vs (List.range vs.length) = vs.filterMap (xj l num)
  | [] => rfl
  | x :: r => by
    have ih := afp l num r
    rw [adI] at ih ⊢
    rw [List.length_cons, List.range_succ_eq_map, List.filterMap_cons, List.filterMap_map, List.filterMap_cons]
    simp only [List.getElem?_cons_zero, Option.bind_some]
    have : (fun a => ((x :: r)[a]?).bind (xj l num)) ∘ Nat.succ = fun a => (r[a]?).bind (xj l num) := by
      funext a; simp
    rw [this, ih]
theorem aig {l : List Qa} {num day age : Int} {fs is : List Nat} : ∀ a ∈ adI l num (afm l day age fs).2 is, ∀ b ∈ adI l num (afm l day age fs).2 is, aev a b = 0 → a = b := by
  intro a ha b hb2 h0
  have hok := ahU l day age fs fs.length (Nat.le_refl _)
  rw [List.take_length] at hok
  generalize afm l day age fs = m at *
  obtain ⟨ks, vs⟩ := m
  dsimp only at *
  obtain ⟨h1, h2, h3, h4, h5, h6⟩ := ajx h0
  have key : ∀ c, c ∈ adI l num vs is → ∃ (p i : Nat) (f : Qa), vs[p]? = some i ∧ l[i]? = some f ∧ f.kind ≠ 8 ∧ c = qC num i f := fun c hc => by
    rw [adI, List.mem_filterMap] at hc
    obtain ⟨p, _, hc⟩ := hc
    rcases hv : vs[p]? with _ | i
    · rw [hv] at hc; cases hc
    · rw [hv, Option.bind_some, xj] at hc
      rcases hf : l[i]? with _ | f
      · rw [hf] at hc; cases hc
      · rw [hf] at hc
        dsimp only at hc
        split at hc
        · cases hc
        · rename_i h8
          exact ⟨p, i, f, hv, hf, h8, (Option.some.inj hc).symm⟩
  obtain ⟨p, i, f, p1, p2, p3, rfl⟩ := key a ha
  obtain ⟨q, j, g, q1, q2, q3, rfl⟩ := key b hb2
  simp only [qC] at h1 h2 h3 h4 h5 h6
  obtain ⟨f', r1, r2⟩ := hok.pt p i p1
  obtain ⟨g', s1, s2⟩ := hok.pt q j q1
  rw [p2] at r1; cases r1
  rw [q2] at s1; cases s1
  have hpl : YK f = YK g := by
    simp only [YK]
    rw [h1, h2, h3, h4, h5, h6]
  have hpq : p = q := by
    have l1 := (List.getElem?_eq_some_iff.1 r2).1
    rw [hpl, ← s2] at r2
    exact (List.getElem?_inj l1 hok.nd).1 r2
  subst hpq
  rw [p1] at q1; cases q1
  rw [p2] at q2; cases q2
  rfl
theorem amr {l : List Qa} {num day age : Int} {fs is : List Nat} (hd : is.Nodup) (hb : ∀ a ∈ is, a < (afm l day age fs).2.length) (he : ∀ a, a < (afm l day age fs).2.length → a ∈ is) : U1 alf (adI l num (afm l day age fs).2 is) = Wi l num fs day age := by
  have hdist := aig (l := l) (num := num) (day := day) (age := age) (fs := fs) (is := is)
  rw [Wi, ← afp]
  generalize afm l day age fs = m at *
  obtain ⟨ks, vs⟩ := m
  dsimp only at *
  have hp : is.Perm (List.range vs.length) := by
    rw [List.perm_ext_iff_of_nodup hd List.nodup_range]
    intro a
    rw [List.mem_range]
    exact ⟨hb a, he a⟩
  exact akz (hp.filterMap _) hdist
def amH (day age : Int) : Bool := decide (day < 0) || (decide (day > 40000) || (decide (age < 0) || decide (age > 4000)))
structure aml (l : List Qa) (gap day age : Int) : Prop where
  nm : Ku l = true
  g : 0 ≤ gap ∧ gap ≤ 4000
  d : 0 ≤ day ∧ day ≤ 40000
  a : 0 ≤ age ∧ age ≤ 4000
theorem ahc {day age : Int} : amH day age = false ↔ (0 ≤ day ∧ day ≤ 40000) ∧ (0 ≤ age ∧ age ≤ 4000) := by
  simp only [amH, Bool.or_eq_false_iff, decide_eq_false_iff_not]
  omega
theorem aml.rng {l : List Qa} {gap day age : Int} (h : aml l gap day age) : amH day age = false := ahc.2 ⟨h.d, h.a⟩
def fcE (e : Q6) : List V := [V.int e.num, .sl 1 (e.hosts.map V.str), .sl 1 (e.machs.map V.int), .sl 1 (QX e.finds)]
def yg (l : List Qa) (e : Q6) (day age : Int) (k : Nat) (m : PM) : St := JY [(0, .sl 11 (l.map Qa.v)), (2, V.int day), (3, V.int age), (5, .ptr 0 0), (12, .mp 1), (51, .sl 1 (QX e.finds)), (52, V.int e.finds.length), (53, V.int k)] [(0, .box true (fcE e)), (1, .map (m.1.map PPl.v) (QX m.2) 0)] 2
def acz (l : List Qa) (e : Q6) (m : PM) (is : List Nat) : St := JY [(0, .sl 11 (l.map Qa.v)), (5, .ptr 0 0), (18, .hd 3 0 (adI l e.num m.2 is).length), (118, .ptr 2 0)] [(0, .box true (fcE e)), (1, .map (m.1.map PPl.v) (QX m.2) 0), (2, .iter 1 m.2.length is m.2.length), (3, .buf true 8 ((adI l e.num m.2 is).map Jb.v))] 4
def agb (l : List Qa) (e : Q6) (day age : Int) : V := if amH day age = true then .tup [.sl 8 [], V.int 2] else .tup [.sl 8 ((Wi l e.num e.finds day age).map Jb.v), V.int 0]
def UI := qd Proofs.Tryz.f36 [zhn 32]
def qy (Γ : Env) (f : Nat) : Prop := ∀ (l : List Qa) (e : Q6) (day age : Int) (hl : l.length < 2 ^ 40) (hz : ∀ x ∈ l, x.Sz) (hnm : Ku l = true) (ha : e.finds.Pairwise (· < ·)) (hb : ∀ i ∈ e.finds, i < l.length) (hn : e.finds.length < 2 ^ 30), EvC Γ f [.sl 11 (l.map Qa.v), e.v, V.int day, V.int age] (agb l e day age)
theorem ads {Γ : Env} {f : Nat} (h : Has Γ.P f 150 UI.1.1.ac UI.1.2) (z0 : Un Γ 62) (z1 : X9 Γ 63) (z2 : wm Γ 64) (z3 : JV Γ 65) (z4 : Uo Γ 66) : qy Γ f := by
  intro l e day age hl hz hnm ha hb hn
  refine Qm h zsi (by unfold agb; split <;> simp only [V.closed, Qc, and_self]) fun C hC hm => ?_
  subst hC
  simp only [UI, qd, DC.ac]
  have gI := z0 l e ha hb hn
  have gN := z1 l hl hz
  rw [hnm] at gN
  have gN := gN.b
  have hpc : (QX e.finds).length = e.finds.length := List.length_map _
  simp only [Q6.v] at gI
  rcases hrg : amH day age with _ | _
  rotate_left
  · rw [agb, if_pos hrg]
    rw [amH] at hrg
    simp only [Q6.v]
    rcases d1 : decide (day < 0) with _ | _
    rotate_left
    · repeat' (first | (refine zsk ?_; intro K' hK) | (refine zrg ?_; intro K' hK) | refine zsp ?_ | (refine zsc ?_ ?_ <;> intro hc <;> first | exact znh | try simp only [znz] at hc) | simp (maxSteps := 1000000) only [go_sem, Nat.reduceAdd, Nat.reduceMul, Nat.reduceEqDiff, Nat.reduceLeDiff, Nat.reduceLT, Nat.reduceSub, Int.reduceEq, Int.reduceBEq, Int.reduceLT, Int.reduceLE, Int.reduceAdd, Int.reduceToNat, reduceIte, reduceCtorEq, d1, hpc] | (refine hK _ ?_; clear hK K') | apply zan | (apply Wn; (focus exact rfl); (focus first | exact (z3 _ _ _ zsd zsd zsd zsd zsd)); (focus exact rfl); (focus (first | (simp; done) | omega | (simp only [List.length_map]; omega)))) | ((first | apply Qv | apply QQ); (focus first | exact C gI | exact gN | exact (z0 _ _ zsd zsd zsd).b | exact (z1 _ zsd zsd).b | exact (z2 _).b)) | exact zsq | fail)
      all_goals first | exact zr | trace_state
    rcases d2 : decide (day > 40000) with _ | _
    rotate_left
    · repeat' (first | (refine zsk ?_; intro K' hK) | (refine zrg ?_; intro K' hK) | refine zsp ?_ | (refine zsc ?_ ?_ <;> intro hc <;> first | exact znh | try simp only [znz] at hc) | simp (maxSteps := 1000000) only [go_sem, Nat.reduceAdd, Nat.reduceMul, Nat.reduceEqDiff, Nat.reduceLeDiff, Nat.reduceLT, Nat.reduceSub, Int.reduceEq, Int.reduceBEq, Int.reduceLT, Int.reduceLE, Int.reduceAdd, Int.reduceToNat, reduceIte, reduceCtorEq, d1, d2, hpc] | (refine hK _ ?_; clear hK K') | apply zan | (apply Wn; (focus exact rfl); (focus first | exact (z3 _ _ _ zsd zsd zsd zsd zsd)); (focus exact rfl); (focus (first | (simp; done) | omega | (simp only [List.length_map]; omega)))) | ((first | apply Qv | apply QQ); (focus first | exact C gI | exact gN | exact (z0 _ _ zsd zsd zsd).b | exact (z1 _ zsd zsd).b | exact (z2 _).b)) | exact zsq | fail)
      all_goals first | exact zr | trace_state
    rcases d3 : decide (age < 0) with _ | _
    rotate_left
    · repeat' (first | (refine zsk ?_; intro K' hK) | (refine zrg ?_; intro K' hK) | refine zsp ?_ | (refine zsc ?_ ?_ <;> intro hc <;> first | exact znh | try simp only [znz] at hc) | simp (maxSteps := 1000000) only [go_sem, Nat.reduceAdd, Nat.reduceMul, Nat.reduceEqDiff, Nat.reduceLeDiff, Nat.reduceLT, Nat.reduceSub, Int.reduceEq, Int.reduceBEq, Int.reduceLT, Int.reduceLE, Int.reduceAdd, Int.reduceToNat, reduceIte, reduceCtorEq, d1, d2, d3, hpc] | (refine hK _ ?_; clear hK K') | apply zan | (apply Wn; (focus exact rfl); (focus first | exact (z3 _ _ _ zsd zsd zsd zsd zsd)); (focus exact rfl); (focus (first | (simp; done) | omega | (simp only [List.length_map]; omega)))) | ((first | apply Qv | apply QQ); (focus first | exact C gI | exact gN | exact (z0 _ _ zsd zsd zsd).b | exact (z1 _ zsd zsd).b | exact (z2 _).b)) | exact zsq | fail)
      all_goals first | exact zr | trace_state
    have d4 : decide (age > 4000) = true := by rw [d1, d2, d3] at hrg; exact hrg
    repeat' (first | (refine zsk ?_; intro K' hK) | (refine zrg ?_; intro K' hK) | refine zsp ?_ | (refine zsc ?_ ?_ <;> intro hc <;> first | exact znh | try simp only [znz] at hc) | simp (maxSteps := 1000000) only [go_sem, Nat.reduceAdd, Nat.reduceMul, Nat.reduceEqDiff, Nat.reduceLeDiff, Nat.reduceLT, Nat.reduceSub, Int.reduceEq, Int.reduceBEq, Int.reduceLT, Int.reduceLE, Int.reduceAdd, Int.reduceToNat, reduceIte, reduceCtorEq, d1, d2, d3, d4, hpc] | (refine hK _ ?_; clear hK K') | apply zan | (apply Wn; (focus exact rfl); (focus first | exact (z3 _ _ _ zsd zsd zsd zsd zsd)); (focus exact rfl); (focus (first | (simp; done) | omega | (simp only [List.length_map]; omega)))) | ((first | apply Qv | apply QQ); (focus first | exact C gI | exact gN | exact (z0 _ _ zsd zsd zsd).b | exact (z1 _ zsd zsd).b | exact (z2 _).b)) | exact zsq | fail)
    all_goals first | exact zr | trace_state
  rw [agb, if_neg (by rw [hrg]; decide)]
  obtain ⟨hdy, hag⟩ := ahc.1 hrg
  have d1 : decide (day < 0) = false := decide_eq_false (by omega)
  have d2 : decide (day > 40000) = false := decide_eq_false (by omega)
  have d3 : decide (age < 0) = false := decide_eq_false (by omega)
  have d4 : decide (age > 4000) = false := decide_eq_false (by omega)
  simp only [Q6.v]
  repeat' (first | (refine zsk ?_; intro K' hK) | (refine zrg ?_; intro K' hK) | refine zsp ?_ | (refine zsc ?_ ?_ <;> intro hc <;> first | exact znh | try simp only [znz] at hc) | simp (maxSteps := 1000000) only [go_sem, Nat.reduceAdd, Nat.reduceMul, Nat.reduceEqDiff, Nat.reduceLeDiff, Nat.reduceLT, Nat.reduceSub, Int.reduceEq, Int.reduceBEq, Int.reduceLT, Int.reduceLE, Int.reduceAdd, Int.reduceToNat, reduceIte, reduceCtorEq, d1, d2, d3, d4, hpc] | (refine hK _ ?_; clear hK K') | apply zan | (apply Wn; (focus exact rfl); (focus first | exact (z3 _ _ _ zsd zsd zsd zsd zsd)); (focus exact rfl); (focus (first | (simp; done) | omega | (simp only [List.length_map]; omega)))) | ((first | apply Qv | apply QQ); (focus first | exact C gI | exact gN | exact (z0 _ _ zsd zsd zsd).b | exact (z1 _ zsd zsd).b | exact (z2 _).b)) | exact zsq | fail)
  refine Qp (ι := Nat) (fun k => k ≤ e.finds.length) (fun k => yg l e day age k (afm l day age (e.finds.take k))) (fun k => e.finds.length - k) 0 (Nat.zero_le _) (Qd [(1, 33000)]) (Qh [(1, 33000)] (by simp only [go_sem, zwl, Nat.reduceAdd, Nat.reduceMul, Nat.reduceEqDiff, Nat.reduceLT, Int.reduceToNat, reduceIte, reduceCtorEq, yg, fcE, List.length_map] <;> exact zcc) (by simp only [go_sem, zwl, Nat.reduceAdd, Nat.reduceMul, Nat.reduceEqDiff, Nat.reduceLT, Int.reduceToNat, reduceIte, reduceCtorEq, yg, fcE, QH, Q1] <;> exact zcc) (by simp [yg, Qd]) (by simp [yg]; omega) (by omega)) fun k hk K' hL => ?_
  have hM := ahU l day age e.finds k hk
  rcases hdr : e.finds.drop k with _ | ⟨i, r⟩
  · have hkl := QB hdr
    have e1 : decide ((k : Int) < (e.finds.length : Int)) = false := by simp; omega
    obtain rfl : k = e.finds.length := by omega
    clear hL
    rw [List.take_length] at hM ⊢
    have hvs := fun is hd hb he => amr (l := l) (num := (e.num : Int)) (day := day) (age := age) (fs := e.finds) (is := is) hd hb he
    have hds := fun is => aig (l := l) (num := (e.num : Int)) (day := day) (age := age) (fs := e.finds) (is := is)
    generalize afm l day age e.finds = m at *
    have hkl : m.1.length = m.2.length := hM.len
    repeat' (first | (refine zsk ?_; intro K' hK) | (refine zrg ?_; intro K' hK) | refine zsp ?_ | (refine zsc ?_ ?_ <;> intro hc <;> first | exact znh | try simp only [znz] at hc) | simp (maxSteps := 1000000) only [go_sem, Nat.reduceAdd, Nat.reduceMul, Nat.reduceEqDiff, Nat.reduceLeDiff, Nat.reduceLT, Nat.reduceSub, Int.reduceEq, Int.reduceBEq, Int.reduceLT, Int.reduceLE, Int.reduceAdd, Int.reduceToNat, reduceIte, reduceCtorEq, yg, fcE, JY, e1, hkl, List.length_map, Nat.zero_add] | (refine hK _ ?_; clear hK K') | apply zan | (apply Wn; (focus exact rfl); (focus first | exact (z3 _ _ _ zsd zsd zsd zsd zsd)); (focus exact rfl); (focus (first | (simp; done) | omega | (simp only [List.length_map]; omega)))) | ((first | apply Qv | apply QQ); (focus first | exact (z0 _ _ zsd zsd zsd).b | exact (z1 _ zsd zsd).b | exact (z2 _).b)) | exact zsq | fail)
    have hv0 : adI l e.num m.2 [] = [] := rfl
    refine Qp (ι := List Nat) (fun is => is.Nodup ∧ ∀ a ∈ is, a < m.2.length) (fun is => acz l e m is) (fun is => m.2.length - is.length) [] ⟨List.nodup_nil, by simp⟩ (Qd [(3, 1002), (2, 3002)]) (Qh [(3, 1002), (2, 3002)] (by simp only [go_sem, zwl, Nat.reduceAdd, Nat.reduceMul, Nat.reduceEqDiff, Nat.reduceLT, Int.reduceToNat, reduceIte, reduceCtorEq, acz, fcE, hv0, List.length_nil, List.map_nil, List.length_map] <;> exact zcc) (by simp only [go_sem, zwl, Nat.reduceAdd, Nat.reduceMul, Nat.reduceEqDiff, Nat.reduceLT, Int.reduceToNat, reduceIte, reduceCtorEq, acz, fcE, hv0, List.length_nil, List.map_nil, QH, Q1] <;> exact zcc) (by simp [acz, Qd]) (by simp [acz]; omega) (by omega)) fun is his K' hL => ?_
    obtain ⟨his1, his2⟩ := his
    have hln : ∀ js : List Nat, js.Nodup → (∀ a ∈ js, a < m.2.length) → js.length ≤ m.2.length := fun js h1 h2 => by
      have := List.Nodup.length_le_of_subset h1 (fun a ha => List.mem_range.2 (h2 a ha))
      rwa [List.length_range] at this
    have hvl : (adI l e.num m.2 is).length ≤ is.length := List.length_filterMap_le _ _
    have hil := hln is his1 his2
    have hml := hM.le
    rcases hun : wt 0 m.2.length is with _ | ⟨u, us⟩
    · have hall : ∀ a, a < m.2.length → a ∈ is := fun a ha => by
        by_cases hin : a ∈ is
        · exact hin
        · have : a ∈ wt 0 m.2.length is := UT.2 ⟨ha, by rwa [Nat.zero_add]⟩
          rw [hun] at this; cases this
      have hsort := hvs is his1 his2 hall
      have hdist := hds is
      clear hL hvs hds
      simp only [acz, fcE]
      generalize adI l e.num m.2 is = out at *
      have hol : out.length < 2 ^ 30 := by omega
      have gT := z3 out 66 aev z4.1 (z4.2 _ rfl) x8 hdist (by omega)
      have d5 : (fun x y : Jb => decide (aev x y < 0)) = alf := rfl
      rw [d5, hsort] at gT
      have htk : List.take out.length ((Wi l e.num e.finds day age).map Jb.v) = (Wi l e.num e.finds day age).map Jb.v := List.take_of_length_le (by rw [List.length_map, ← hsort, yf]; omega)
      repeat' (first | (refine zsk ?_; intro K' hK) | (refine zrg ?_; intro K' hK) | refine zsp ?_ | (refine zsc ?_ ?_ <;> intro hc <;> first | exact znh | try simp only [znz] at hc) | simp (maxSteps := 1000000) only [go_sem, Nat.reduceAdd, Nat.reduceMul, Nat.reduceEqDiff, Nat.reduceLeDiff, Nat.reduceLT, Nat.reduceSub, Int.reduceEq, Int.reduceBEq, Int.reduceLT, Int.reduceLE, Int.reduceAdd, Int.reduceToNat, reduceIte, reduceCtorEq, JY, hkl, List.length_map, Nat.zero_add, hun, htk] | (refine hK _ ?_; clear hK K') | apply zan | (apply Wn; (focus exact rfl); (focus first | exact gT | exact (z3 _ _ _ zsd zsd zsd zsd zsd)); (focus exact rfl); (focus (first | (simp; done) | omega | (simp only [List.length_map]; omega)))) | ((first | apply Qv | apply QQ); (focus first | exact (z0 _ _ zsd zsd zsd).b | exact (z1 _ zsd zsd).b | exact (z2 _).b)) | exact zsq | fail)
      all_goals first | (refine Qi _ rfl ?_; simp only [go_sem, Nat.reduceEqDiff, Nat.reduceAdd, reduceIte, reduceCtorEq]; rw [htk]; done) | trace_state
    have hU : ∀ x, x ∈ u :: us → x < m.2.length ∧ x ∉ is ∧ ∃ i f, m.2[x]? = some i ∧ l[i]? = some f ∧ m.1[x]? = some (YK f) := fun x hx => by
      have h1 := UT.1 (hun ▸ hx)
      rw [Nat.zero_add] at h1
      obtain ⟨f, h2, h3⟩ := hM.pt x _ (List.getElem?_eq_getElem h1.1)
      exact ⟨h1.1, h1.2, _, f, List.getElem?_eq_getElem h1.1, h2, h3⟩
    have hvis : ∀ x i, m.2[x]? = some i → adI l e.num m.2 (is ++ [x]) = adI l e.num m.2 is ++ (xj l e.num i).toList := fun x i h => by
      rw [adI, adI, List.filterMap_append, List.filterMap_cons, h, Option.bind_some, List.filterMap_nil]
      rcases xj l e.num i with _ | y <;> rfl
    clear hvs hds
    simp only [acz, fcE]
    repeat' (first | (refine zsk ?_; intro K' hK) | (refine zrg ?_; intro K' hK) | refine zsp ?_ | (refine zsc ?_ ?_ <;> intro hc <;> first | exact znh | try simp only [znz] at hc) | simp (maxSteps := 1000000) only [go_sem, Nat.reduceAdd, Nat.reduceMul, Nat.reduceEqDiff, Nat.reduceLeDiff, Nat.reduceLT, Nat.reduceSub, Int.reduceEq, Int.reduceBEq, Int.reduceLT, Int.reduceLE, Int.reduceAdd, Int.reduceToNat, reduceIte, reduceCtorEq, JY, hkl, List.length_map, Nat.zero_add, hun] | (refine hK _ ?_; clear hK K') | apply zan | (apply Wn; (focus exact rfl); (focus first | exact (z3 _ _ _ zsd zsd zsd zsd zsd)); (focus exact rfl); (focus (first | (simp; done) | omega | (simp only [List.length_map]; omega)))) | ((first | apply Qv | apply QQ); (focus first | exact (z0 _ _ zsd zsd zsd).b | exact (z1 _ zsd zsd).b | exact (z2 _).b)) | exact zsq | fail)
    · obtain ⟨x, hx0⟩ : ∃ x, x = u := ⟨u, rfl⟩
      have hx : x ∈ u :: us := hx0 ▸ List.mem_cons_self
      rw [← hx0]
      obtain ⟨hx1, hx2, i, f, hvx, hfx, hkx⟩ := hU x hx
      have vk : (m.1.map PPl.v)[x]? = some (YK f).v := by rw [List.getElem?_map, hkx]; rfl
      have vv := V5 hvx
      have hv1 := hvis x i hvx
      have hnd : (is ++ [x]).Nodup := by rw [List.nodup_append]; exact ⟨his1, by simp, fun a ha b hb => by rw [List.mem_singleton.1 hb]; exact fun he => hx2 (he ▸ ha)⟩
      have hbd : ∀ a ∈ is ++ [x], a < m.2.length := fun a ha => by
        rcases List.mem_append.1 ha with h | h
        · exact his2 a h
        · rw [List.mem_singleton.1 h]; exact hx1
      have hln2 := hln _ hnd hbd
      rw [List.length_append, List.length_singleton] at hln2
      have hms : m.2.length - (is ++ [x]).length < m.2.length - is.length := by rw [List.length_append, List.length_singleton]; omega
      by_cases h8 : f.kind = 8
      · have e8 : (f.kind != 8) = false := by simpa using h8
        rw [xj, hfx] at hv1
        simp only [h8, if_true, Option.toList_none, List.append_nil] at hv1
        repeat' (first | (refine zsk ?_; intro K' hK) | (refine zrg ?_; intro K' hK) | refine zsp ?_ | (refine zsc ?_ ?_ <;> intro hc <;> first | exact znh | try simp only [znz] at hc) | simp (maxSteps := 1000000) only [go_sem, Nat.reduceAdd, Nat.reduceMul, Nat.reduceEqDiff, Nat.reduceLeDiff, Nat.reduceLT, Nat.reduceSub, Int.reduceEq, Int.reduceBEq, Int.reduceLT, Int.reduceLE, Int.reduceAdd, Int.reduceToNat, reduceIte, reduceCtorEq, JY, hkl, e8, vk, vv, hfx, Int.toNat_natCast, List.getElem?_map, List.length_map, Nat.zero_add, List.getLast?_concat, Nat.sub_zero, Nat.zero_le, Qa.v, Qa.cells] | (refine hK _ ?_; clear hK K') | apply zan | (apply Wn; (focus exact rfl); (focus first | exact (z3 _ _ _ zsd zsd zsd zsd zsd)); (focus exact rfl); (focus (first | (simp; done) | omega | (simp only [List.length_map]; omega)))) | ((first | apply Qv | apply QQ); (focus first | exact (z0 _ _ zsd zsd zsd).b | exact (z1 _ zsd zsd).b | exact (z2 _).b)) | exact zsq | fail)
        all_goals first | exact hL _ (is ++ [x]) (Qd []) ⟨hnd, hbd⟩ hms (Qh [] (by simp only [go_sem, zwl, Nat.reduceAdd, Nat.reduceMul, Nat.reduceEqDiff, Nat.reduceLT, Int.reduceToNat, reduceIte, reduceCtorEq, acz, fcE, hv1, List.length_map] <;> exact zcc) (by simp only [go_sem, zwl, Nat.reduceAdd, Nat.reduceMul, Nat.reduceEqDiff, Nat.reduceLT, Int.reduceToNat, reduceIte, reduceCtorEq, acz, fcE, hv1, QH, Q1] <;> exact zcc) (by simp [acz, Qd]) (by simp [acz]) (by omega)) | trace_state
      · have e8 : (f.kind != 8) = true := by simpa using h8
        rw [xj, hfx] at hv1
        simp only [h8, if_false, Option.toList_some] at hv1
        have hol : (adI l e.num m.2 is).length < 2 ^ 30 := by omega
        generalize adI l e.num m.2 is = out at *
        have hll : (out.map Jb.v).length = out.length := List.length_map _
        have htk : (out.map Jb.v).take out.length = out.map Jb.v := List.take_of_length_le (by simp)
        repeat' (first | (refine zsk ?_; intro K' hK) | (refine zrg ?_; intro K' hK) | refine zsp ?_ | (refine zsc ?_ ?_ <;> intro hc <;> first | exact znh | try simp only [znz] at hc) | simp (maxSteps := 1000000) only [go_sem, Nat.reduceAdd, Nat.reduceMul, Nat.reduceEqDiff, Nat.reduceLeDiff, Nat.reduceLT, Nat.reduceSub, Int.reduceEq, Int.reduceBEq, Int.reduceLT, Int.reduceLE, Int.reduceAdd, Int.reduceToNat, reduceIte, reduceCtorEq, JY, hkl, e8, vk, vv, hfx, htk, hll, Int.toNat_natCast, List.getElem?_map, List.length_map, Nat.zero_add, List.getLast?_concat, Nat.sub_zero, Nat.zero_le, Qa.v, Qa.cells] | (refine hK _ ?_; clear hK K') | apply zan | (apply Wn; (focus exact rfl); (focus first | exact (z3 _ _ _ zsd zsd zsd zsd zsd)); (focus exact rfl); (focus (first | (simp; done) | omega | (simp only [List.length_map]; omega)))) | ((first | apply Qv | apply QQ); (focus first | exact (z0 _ _ zsd zsd zsd).b | exact (z1 _ zsd zsd).b | exact (z2 _).b)) | exact zsq | fail)
        all_goals first | exact hL _ (is ++ [x]) (Qd [(3, 30004)]) ⟨hnd, hbd⟩ hms (Qh [(3, 30004)] (by simp only [go_sem, zwl, Nat.reduceAdd, Nat.reduceMul, Nat.reduceEqDiff, Nat.reduceLT, Int.reduceToNat, reduceIte, reduceCtorEq, acz, fcE, hv1, List.length_append, List.length_singleton] <;> exact zcc) (by simp only [go_sem, zwl, Nat.reduceAdd, Nat.reduceMul, Nat.reduceEqDiff, Nat.reduceLT, Int.reduceToNat, reduceIte, reduceCtorEq, acz, fcE, hv1, QH, Q1, List.map_append, List.map_cons, List.map_nil, Jb.v, Jb.cells, qC] <;> exact zcc) (by simp [acz, Qd]) (by simp [acz]; omega) (by omega)) | trace_state
    · intro x hx
      have hx : x ∈ u :: us := List.mem_cons_of_mem _ hx
      obtain ⟨hx1, hx2, i, f, hvx, hfx, hkx⟩ := hU x hx
      have vk : (m.1.map PPl.v)[x]? = some (YK f).v := by rw [List.getElem?_map, hkx]; rfl
      have vv := V5 hvx
      have hv1 := hvis x i hvx
      have hnd : (is ++ [x]).Nodup := by rw [List.nodup_append]; exact ⟨his1, by simp, fun a ha b hb => by rw [List.mem_singleton.1 hb]; exact fun he => hx2 (he ▸ ha)⟩
      have hbd : ∀ a ∈ is ++ [x], a < m.2.length := fun a ha => by
        rcases List.mem_append.1 ha with h | h
        · exact his2 a h
        · rw [List.mem_singleton.1 h]; exact hx1
      have hln2 := hln _ hnd hbd
      rw [List.length_append, List.length_singleton] at hln2
      have hms : m.2.length - (is ++ [x]).length < m.2.length - is.length := by rw [List.length_append, List.length_singleton]; omega
      by_cases h8 : f.kind = 8
      · have e8 : (f.kind != 8) = false := by simpa using h8
        rw [xj, hfx] at hv1
        simp only [h8, if_true, Option.toList_none, List.append_nil] at hv1
        repeat' (first | (refine zsk ?_; intro K' hK) | (refine zrg ?_; intro K' hK) | refine zsp ?_ | (refine zsc ?_ ?_ <;> intro hc <;> first | exact znh | try simp only [znz] at hc) | simp (maxSteps := 1000000) only [go_sem, Nat.reduceAdd, Nat.reduceMul, Nat.reduceEqDiff, Nat.reduceLeDiff, Nat.reduceLT, Nat.reduceSub, Int.reduceEq, Int.reduceBEq, Int.reduceLT, Int.reduceLE, Int.reduceAdd, Int.reduceToNat, reduceIte, reduceCtorEq, JY, hkl, e8, vk, vv, hfx, Int.toNat_natCast, List.getElem?_map, List.length_map, Nat.zero_add, List.getLast?_concat, Nat.sub_zero, Nat.zero_le, Qa.v, Qa.cells] | (refine hK _ ?_; clear hK K') | apply zan | (apply Wn; (focus exact rfl); (focus first | exact (z3 _ _ _ zsd zsd zsd zsd zsd)); (focus exact rfl); (focus (first | (simp; done) | omega | (simp only [List.length_map]; omega)))) | ((first | apply Qv | apply QQ); (focus first | exact (z0 _ _ zsd zsd zsd).b | exact (z1 _ zsd zsd).b | exact (z2 _).b)) | exact zsq | fail)
        all_goals first | exact hL _ (is ++ [x]) (Qd []) ⟨hnd, hbd⟩ hms (Qh [] (by simp only [go_sem, zwl, Nat.reduceAdd, Nat.reduceMul, Nat.reduceEqDiff, Nat.reduceLT, Int.reduceToNat, reduceIte, reduceCtorEq, acz, fcE, hv1, List.length_map] <;> exact zcc) (by simp only [go_sem, zwl, Nat.reduceAdd, Nat.reduceMul, Nat.reduceEqDiff, Nat.reduceLT, Int.reduceToNat, reduceIte, reduceCtorEq, acz, fcE, hv1, QH, Q1] <;> exact zcc) (by simp [acz, Qd]) (by simp [acz]) (by omega)) | trace_state
      · have e8 : (f.kind != 8) = true := by simpa using h8
        rw [xj, hfx] at hv1
        simp only [h8, if_false, Option.toList_some] at hv1
        have hol : (adI l e.num m.2 is).length < 2 ^ 30 := by omega
        generalize adI l e.num m.2 is = out at *
        have hll : (out.map Jb.v).length = out.length := List.length_map _
        have htk : (out.map Jb.v).take out.length = out.map Jb.v := List.take_of_length_le (by simp)
        repeat' (first | (refine zsk ?_; intro K' hK) | (refine zrg ?_; intro K' hK) | refine zsp ?_ | (refine zsc ?_ ?_ <;> intro hc <;> first | exact znh | try simp only [znz] at hc) | simp (maxSteps := 1000000) only [go_sem, Nat.reduceAdd, Nat.reduceMul, Nat.reduceEqDiff, Nat.reduceLeDiff, Nat.reduceLT, Nat.reduceSub, Int.reduceEq, Int.reduceBEq, Int.reduceLT, Int.reduceLE, Int.reduceAdd, Int.reduceToNat, reduceIte, reduceCtorEq, JY, hkl, e8, vk, vv, hfx, htk, hll, Int.toNat_natCast, List.getElem?_map, List.length_map, Nat.zero_add, List.getLast?_concat, Nat.sub_zero, Nat.zero_le, Qa.v, Qa.cells] | (refine hK _ ?_; clear hK K') | apply zan | (apply Wn; (focus exact rfl); (focus first | exact (z3 _ _ _ zsd zsd zsd zsd zsd)); (focus exact rfl); (focus (first | (simp; done) | omega | (simp only [List.length_map]; omega)))) | ((first | apply Qv | apply QQ); (focus first | exact (z0 _ _ zsd zsd zsd).b | exact (z1 _ zsd zsd).b | exact (z2 _).b)) | exact zsq | fail)
        all_goals first | exact hL _ (is ++ [x]) (Qd [(3, 30004)]) ⟨hnd, hbd⟩ hms (Qh [(3, 30004)] (by simp only [go_sem, zwl, Nat.reduceAdd, Nat.reduceMul, Nat.reduceEqDiff, Nat.reduceLT, Int.reduceToNat, reduceIte, reduceCtorEq, acz, fcE, hv1, List.length_append, List.length_singleton] <;> exact zcc) (by simp only [go_sem, zwl, Nat.reduceAdd, Nat.reduceMul, Nat.reduceEqDiff, Nat.reduceLT, Int.reduceToNat, reduceIte, reduceCtorEq, acz, fcE, hv1, QH, Q1, List.map_append, List.map_cons, List.map_nil, Jb.v, Jb.cells, qC] <;> exact zcc) (by simp [acz, Qd]) (by simp [acz]; omega) (by omega)) | trace_state
  obtain ⟨hk', hget, hr⟩ := Qo hdr
  have hw := Qg (k := k) (by omega)
  have e1 : decide ((k : Int) < (e.finds.length : Int)) = true := by simp; omega
  have hsu := alV (l := l) (day := day) (age := age) hget
  obtain ⟨f, hf⟩ : ∃ f, l[i]? = some f := ⟨_, List.getElem?_eq_getElem (hb i (List.mem_of_getElem? hget))⟩
  generalize afm l day age (e.finds.take k) = m at *
  obtain ⟨ks, vs⟩ := m
  have hvi := V5 hget
  have hwd : IntKind.i64.wrap (day - age) = day - age := QE (by omega) (by omega)
  rw [ai1, hf] at hsu
  dsimp only at hsu
  simp only [yg, fcE]
  rcases h1 : decide (f.day > day) with _ | _
  · rcases h2 : decide (f.day < day - age) with _ | _
    · rw [if_neg (by simp at h1 h2; omega)] at hsu
      have p1 := (z2 f).b
      have hfk := af9 (YK f) ks 0
      have hek := ant (YK f)
      have hlen := hM.len
      dsimp only at hlen
      simp only [Qa.v, Qa.cells] at p1
      rcases hix : aiF (YK f) ks 0 with _ | a
      · rw [hix] at hsu hfk
        have hm1 : ks.map PPl.v ++ [(YK f).v] = (ks ++ [YK f]).map PPl.v := by simp
        have hm2 := j6 vs i
        repeat' (first | (refine zsk ?_; intro K' hK) | (refine zrg ?_; intro K' hK) | refine zsp ?_ | (refine zsc ?_ ?_ <;> intro hc <;> first | exact znh | try simp only [znz] at hc) | simp (maxSteps := 1000000) only [go_sem, Nat.reduceAdd, Nat.reduceMul, Nat.reduceEqDiff, Nat.reduceLeDiff, Nat.reduceLT, Nat.reduceSub, Int.reduceEq, Int.reduceBEq, Int.reduceLT, Int.reduceLE, Int.reduceAdd, Int.reduceToNat, reduceIte, reduceCtorEq, JY, e1, hw, hwd, h1, h2, hfk, hek, hm1, hm2, hvi, hf, Int.toNat_natCast, List.getElem?_map, Qa.v, Qa.cells] | (refine hK _ ?_; clear hK K') | apply zan | (apply Wn; (focus exact rfl); (focus first | exact (z3 _ _ _ zsd zsd zsd zsd zsd)); (focus exact rfl); (focus (first | (simp; done) | omega | (simp only [List.length_map]; omega)))) | ((first | apply Qv | apply QQ); (focus first | exact p1 | exact (z0 _ _ zsd zsd zsd).b | exact (z1 _ zsd zsd).b | exact (z2 _).b)) | exact zsq | fail)
        all_goals first | exact hL _ (k + 1) (Qd []) (by omega) (by omega) (by rw [hsu]; exact Qh [] (by simp only [go_sem, zwl, Nat.reduceAdd, Nat.reduceMul, Nat.reduceEqDiff, Nat.reduceLT, Int.reduceToNat, reduceIte, reduceCtorEq, yg, fcE, List.length_map] <;> exact zcc) (by simp only [go_sem, zwl, Nat.reduceAdd, Nat.reduceMul, Nat.reduceEqDiff, Nat.reduceLT, Int.reduceToNat, reduceIte, reduceCtorEq, yg, fcE, QH, Q1] <;> exact zcc) (by simp [yg, Qd]) (by simp [yg]) (by omega)) | trace_state
      · rw [hix] at hsu hfk
        have hal := (acq hix).2.1
        obtain ⟨v, hv⟩ : ∃ v, vs[a]? = some v := ⟨_, List.getElem?_eq_getElem (by omega)⟩
        obtain ⟨g, hg, -⟩ := hM.pt a v hv
        have hvd : vs.getD a 0 = v := by rw [List.getD_eq_getElem?_getD, hv]; rfl
        simp only [hvd, hg] at hsu
        have hvc := V5 hv
        have hm1 := aca vs a i
        rcases h3 : decide (f.day > g.day) with _ | _
        · rcases h4 : f.day == g.day with _ | _
          · rw [apx, h3, h4, if_neg (by simp)] at hsu
            repeat' (first | (refine zsk ?_; intro K' hK) | (refine zrg ?_; intro K' hK) | refine zsp ?_ | (refine zsc ?_ ?_ <;> intro hc <;> first | exact znh | try simp only [znz] at hc) | simp (maxSteps := 1000000) only [go_sem, Nat.reduceAdd, Nat.reduceMul, Nat.reduceEqDiff, Nat.reduceLeDiff, Nat.reduceLT, Nat.reduceSub, Int.reduceEq, Int.reduceBEq, Int.reduceLT, Int.reduceLE, Int.reduceAdd, Int.reduceToNat, reduceIte, reduceCtorEq, JY, e1, hw, hwd, h1, h2, h3, h4, hfk, hek, hm1, hvc, hvi, hf, hg, Int.toNat_natCast, List.getElem?_map, Qa.v, Qa.cells] | (refine hK _ ?_; clear hK K') | apply zan | (apply Wn; (focus exact rfl); (focus first | exact (z3 _ _ _ zsd zsd zsd zsd zsd)); (focus exact rfl); (focus (first | (simp; done) | omega | (simp only [List.length_map]; omega)))) | ((first | apply Qv | apply QQ); (focus first | exact p1 | exact (z0 _ _ zsd zsd zsd).b | exact (z1 _ zsd zsd).b | exact (z2 _).b)) | exact zsq | fail)
            all_goals first | exact hL _ (k + 1) (Qd []) (by omega) (by omega) (by rw [hsu]; exact Qh [] (by simp only [go_sem, zwl, Nat.reduceAdd, Nat.reduceMul, Nat.reduceEqDiff, Nat.reduceLT, Int.reduceToNat, reduceIte, reduceCtorEq, yg, fcE, List.length_map] <;> exact zcc) (by simp only [go_sem, zwl, Nat.reduceAdd, Nat.reduceMul, Nat.reduceEqDiff, Nat.reduceLT, Int.reduceToNat, reduceIte, reduceCtorEq, yg, fcE, QH, Q1] <;> exact zcc) (by simp [yg, Qd]) (by simp [yg]) (by omega)) | trace_state
          · rcases h5 : decide (f.conf > g.conf) with _ | _
            · rw [apx, h3, h4, h5, if_neg (by decide)] at hsu
              repeat' (first | (refine zsk ?_; intro K' hK) | (refine zrg ?_; intro K' hK) | refine zsp ?_ | (refine zsc ?_ ?_ <;> intro hc <;> first | exact znh | try simp only [znz] at hc) | simp (maxSteps := 1000000) only [go_sem, Nat.reduceAdd, Nat.reduceMul, Nat.reduceEqDiff, Nat.reduceLeDiff, Nat.reduceLT, Nat.reduceSub, Int.reduceEq, Int.reduceBEq, Int.reduceLT, Int.reduceLE, Int.reduceAdd, Int.reduceToNat, reduceIte, reduceCtorEq, JY, e1, hw, hwd, h1, h2, h3, h4, h5, hfk, hek, hm1, hvc, hvi, hf, hg, Int.toNat_natCast, List.getElem?_map, Qa.v, Qa.cells] | (refine hK _ ?_; clear hK K') | apply zan | (apply Wn; (focus exact rfl); (focus first | exact (z3 _ _ _ zsd zsd zsd zsd zsd)); (focus exact rfl); (focus (first | (simp; done) | omega | (simp only [List.length_map]; omega)))) | ((first | apply Qv | apply QQ); (focus first | exact p1 | exact (z0 _ _ zsd zsd zsd).b | exact (z1 _ zsd zsd).b | exact (z2 _).b)) | exact zsq | fail)
              all_goals first | exact hL _ (k + 1) (Qd []) (by omega) (by omega) (by rw [hsu]; exact Qh [] (by simp only [go_sem, zwl, Nat.reduceAdd, Nat.reduceMul, Nat.reduceEqDiff, Nat.reduceLT, Int.reduceToNat, reduceIte, reduceCtorEq, yg, fcE, List.length_map] <;> exact zcc) (by simp only [go_sem, zwl, Nat.reduceAdd, Nat.reduceMul, Nat.reduceEqDiff, Nat.reduceLT, Int.reduceToNat, reduceIte, reduceCtorEq, yg, fcE, QH, Q1] <;> exact zcc) (by simp [yg, Qd]) (by simp [yg]) (by omega)) | trace_state
            · rw [apx, h3, h4, h5, if_pos (by decide)] at hsu
              repeat' (first | (refine zsk ?_; intro K' hK) | (refine zrg ?_; intro K' hK) | refine zsp ?_ | (refine zsc ?_ ?_ <;> intro hc <;> first | exact znh | try simp only [znz] at hc) | simp (maxSteps := 1000000) only [go_sem, Nat.reduceAdd, Nat.reduceMul, Nat.reduceEqDiff, Nat.reduceLeDiff, Nat.reduceLT, Nat.reduceSub, Int.reduceEq, Int.reduceBEq, Int.reduceLT, Int.reduceLE, Int.reduceAdd, Int.reduceToNat, reduceIte, reduceCtorEq, JY, e1, hw, hwd, h1, h2, h3, h4, h5, hfk, hek, hm1, hvc, hvi, hf, hg, Int.toNat_natCast, List.getElem?_map, Qa.v, Qa.cells] | (refine hK _ ?_; clear hK K') | apply zan | (apply Wn; (focus exact rfl); (focus first | exact (z3 _ _ _ zsd zsd zsd zsd zsd)); (focus exact rfl); (focus (first | (simp; done) | omega | (simp only [List.length_map]; omega)))) | ((first | apply Qv | apply QQ); (focus first | exact p1 | exact (z0 _ _ zsd zsd zsd).b | exact (z1 _ zsd zsd).b | exact (z2 _).b)) | exact zsq | fail)
              all_goals first | exact hL _ (k + 1) (Qd []) (by omega) (by omega) (by rw [hsu]; exact Qh [] (by simp only [go_sem, zwl, Nat.reduceAdd, Nat.reduceMul, Nat.reduceEqDiff, Nat.reduceLT, Int.reduceToNat, reduceIte, reduceCtorEq, yg, fcE, List.length_map] <;> exact zcc) (by simp only [go_sem, zwl, Nat.reduceAdd, Nat.reduceMul, Nat.reduceEqDiff, Nat.reduceLT, Int.reduceToNat, reduceIte, reduceCtorEq, yg, fcE, QH, Q1] <;> exact zcc) (by simp [yg, Qd]) (by simp [yg]) (by omega)) | trace_state
        · rw [apx, h3, if_pos (by simp)] at hsu
          repeat' (first | (refine zsk ?_; intro K' hK) | (refine zrg ?_; intro K' hK) | refine zsp ?_ | (refine zsc ?_ ?_ <;> intro hc <;> first | exact znh | try simp only [znz] at hc) | simp (maxSteps := 1000000) only [go_sem, Nat.reduceAdd, Nat.reduceMul, Nat.reduceEqDiff, Nat.reduceLeDiff, Nat.reduceLT, Nat.reduceSub, Int.reduceEq, Int.reduceBEq, Int.reduceLT, Int.reduceLE, Int.reduceAdd, Int.reduceToNat, reduceIte, reduceCtorEq, JY, e1, hw, hwd, h1, h2, h3, hfk, hek, hm1, hvc, hvi, hf, hg, Int.toNat_natCast, List.getElem?_map, Qa.v, Qa.cells] | (refine hK _ ?_; clear hK K') | apply zan | (apply Wn; (focus exact rfl); (focus first | exact (z3 _ _ _ zsd zsd zsd zsd zsd)); (focus exact rfl); (focus (first | (simp; done) | omega | (simp only [List.length_map]; omega)))) | ((first | apply Qv | apply QQ); (focus first | exact p1 | exact (z0 _ _ zsd zsd zsd).b | exact (z1 _ zsd zsd).b | exact (z2 _).b)) | exact zsq | fail)
          all_goals first | exact hL _ (k + 1) (Qd []) (by omega) (by omega) (by rw [hsu]; exact Qh [] (by simp only [go_sem, zwl, Nat.reduceAdd, Nat.reduceMul, Nat.reduceEqDiff, Nat.reduceLT, Int.reduceToNat, reduceIte, reduceCtorEq, yg, fcE, List.length_map] <;> exact zcc) (by simp only [go_sem, zwl, Nat.reduceAdd, Nat.reduceMul, Nat.reduceEqDiff, Nat.reduceLT, Int.reduceToNat, reduceIte, reduceCtorEq, yg, fcE, QH, Q1] <;> exact zcc) (by simp [yg, Qd]) (by simp [yg]) (by omega)) | trace_state
    · rw [if_pos (by simp at h1 h2; omega)] at hsu
      repeat' (first | (refine zsk ?_; intro K' hK) | (refine zrg ?_; intro K' hK) | refine zsp ?_ | (refine zsc ?_ ?_ <;> intro hc <;> first | exact znh | try simp only [znz] at hc) | simp (maxSteps := 1000000) only [go_sem, Nat.reduceAdd, Nat.reduceMul, Nat.reduceEqDiff, Nat.reduceLeDiff, Nat.reduceLT, Nat.reduceSub, Int.reduceEq, Int.reduceBEq, Int.reduceLT, Int.reduceLE, Int.reduceAdd, Int.reduceToNat, reduceIte, reduceCtorEq, JY, e1, hw, hwd, h1, h2, hvi, hf, Int.toNat_natCast, List.getElem?_map, Qa.v, Qa.cells] | (refine hK _ ?_; clear hK K') | apply zan | (apply Wn; (focus exact rfl); (focus first | exact (z3 _ _ _ zsd zsd zsd zsd zsd)); (focus exact rfl); (focus (first | (simp; done) | omega | (simp only [List.length_map]; omega)))) | ((first | apply Qv | apply QQ); (focus first | exact (z0 _ _ zsd zsd zsd).b | exact (z1 _ zsd zsd).b | exact (z2 _).b)) | exact zsq | fail)
      all_goals first | exact hL _ (k + 1) (Qd []) (by omega) (by omega) (by rw [hsu]; exact Qh [] (by simp only [go_sem, zwl, Nat.reduceAdd, Nat.reduceMul, Nat.reduceEqDiff, Nat.reduceLT, Int.reduceToNat, reduceIte, reduceCtorEq, yg, fcE, List.length_map] <;> exact zcc) (by simp only [go_sem, zwl, Nat.reduceAdd, Nat.reduceMul, Nat.reduceEqDiff, Nat.reduceLT, Int.reduceToNat, reduceIte, reduceCtorEq, yg, fcE, QH, Q1] <;> exact zcc) (by simp [yg, Qd]) (by simp [yg]) (by omega)) | trace_state
  · rw [if_pos (by simp at h1; omega)] at hsu
    repeat' (first | (refine zsk ?_; intro K' hK) | (refine zrg ?_; intro K' hK) | refine zsp ?_ | (refine zsc ?_ ?_ <;> intro hc <;> first | exact znh | try simp only [znz] at hc) | simp (maxSteps := 1000000) only [go_sem, Nat.reduceAdd, Nat.reduceMul, Nat.reduceEqDiff, Nat.reduceLeDiff, Nat.reduceLT, Nat.reduceSub, Int.reduceEq, Int.reduceBEq, Int.reduceLT, Int.reduceLE, Int.reduceAdd, Int.reduceToNat, reduceIte, reduceCtorEq, JY, e1, hw, hwd, h1, hvi, hf, Int.toNat_natCast, List.getElem?_map, Qa.v, Qa.cells] | (refine hK _ ?_; clear hK K') | apply zan | (apply Wn; (focus exact rfl); (focus first | exact (z3 _ _ _ zsd zsd zsd zsd zsd)); (focus exact rfl); (focus (first | (simp; done) | omega | (simp only [List.length_map]; omega)))) | ((first | apply Qv | apply QQ); (focus first | exact (z0 _ _ zsd zsd zsd).b | exact (z1 _ zsd zsd).b | exact (z2 _).b)) | exact zsq | fail)
    all_goals first | exact hL _ (k + 1) (Qd []) (by omega) (by omega) (by rw [hsu]; exact Qh [] (by simp only [go_sem, zwl, Nat.reduceAdd, Nat.reduceMul, Nat.reduceEqDiff, Nat.reduceLT, Int.reduceToNat, reduceIte, reduceCtorEq, yg, fcE, List.length_map] <;> exact zcc) (by simp only [go_sem, zwl, Nat.reduceAdd, Nat.reduceMul, Nat.reduceEqDiff, Nat.reduceLT, Int.reduceToNat, reduceIte, reduceCtorEq, yg, fcE, QH, Q1] <;> exact zcc) (by simp [yg, Qd]) (by simp [yg]) (by omega)) | trace_state
theorem anQ {fs : List Nat} {k : Nat} (h : fs.Pairwise (· < ·)) (hk : ∀ i ∈ fs, i < k) : (fs ++ [k]).Pairwise (· < ·) := by
  rw [List.pairwise_append]
  exact ⟨h, List.pairwise_singleton .., fun a ha b hb => by rw [List.mem_singleton.1 hb]; exact hk a ha⟩
theorem aiY {l : List Qa} {p : List Nat} (hp : PW p) : ∀ k, k ≤ l.length → ∀ e ∈ JO l p k, e.finds.Pairwise (· < ·)
  | 0, _, e, he => by simp [JO] at he
  | k + 1, hk, e, he => by
    have ih := aiY (l := l) hp k (by omega)
    have hI := qD (l := l) hp k (by omega)
    rw [JO, List.getElem?_eq_getElem (by omega)] at he
    dsimp only at he
    generalize JO l p k = es at *
    rw [adt] at he
    split at he
    · rcases List.mem_append.1 he with he | he
      · exact ih e he
      · rw [List.mem_singleton.1 he]; simp [Yx, QK]
    · rcases hx : adb (YO p k) (es.map Q6.num) 0 with _ | a
      · rw [hx] at he; exact ih e he
      · rw [hx] at he
        dsimp only at he
        rcases hy : es[a]? with _ | y
        · rw [hy] at he; exact ih e he
        · rw [hy] at he
          dsimp only at he
          have hm := List.mem_of_getElem? hy
          rcases List.mem_or_eq_of_mem_set he with he | rfl
          · exact ih e he
          · exact anQ (ih y hm) (hI.sz y hm).fl
theorem alK {l : List Qa} {gap : Int} {e : Q6} (he : e ∈ Y7 l gap) : e.finds.Pairwise (· < ·) ∧ (∀ i ∈ e.finds, i < l.length) ∧ e.finds.length ≤ l.length ∧ e.hosts.length ≤ l.length := by
  have hp := abR l gap
  have h1 := (qD (l := l) hp l.length (Nat.le_refl _)).sz e he
  exact ⟨aiY hp l.length (Nat.le_refl _) e he, h1.fl, h1.f1, h1.h1⟩
theorem aiX (l : List Qa) (gap : Int) : (Y7 l gap).length ≤ l.length := (qD (l := l) (abR l gap) l.length (Nat.le_refl _)).len
theorem aaw {l : List Qa} {gap : Int} (h : Y2 l gap = 0) : Ku l = true := by
  rw [Y2] at h
  split at h
  · assumption
  · cases h
theorem agr {l : List Qa} {p : List Nat} (hp : PW p) : ∀ k, k ≤ l.length → (∀ e ∈ JO l p k, ∀ i ∈ e.finds, YO p i = e.num) ∧ ((JO l p k).map Q6.num).Nodup
  | 0, _ => ⟨fun e he => by simp [JO] at he, by simp [JO]⟩
  | k + 1, hk => by
    obtain ⟨ih, ihn⟩ := agr (l := l) hp k (by omega)
    have hI := qD (l := l) hp k (by omega)
    rw [JO, List.getElem?_eq_getElem (by omega)]
    dsimp only
    generalize JO l p k = es at *
    rw [adt]
    split
    · rename_i hr
      refine ⟨fun e he => ?_, ?_⟩
      · rcases List.mem_append.1 he with he | he
        · exact ih e he
        · rw [List.mem_singleton.1 he]
          intro i hi
          simp [Yx, QK] at hi
          rw [hi]; exact hr
      · rw [List.map_append, List.nodup_append]
        refine ⟨ihn, by simp, fun a ha b hb => ?_⟩
        obtain ⟨e, he, rfl⟩ := List.mem_map.1 ha
        have hb' : b = k := by simpa [Yx, QK] using hb
        have := (hI.sz e he).num
        omega
    · rcases hx : adb (YO p k) (es.map Q6.num) 0 with _ | a
      · exact ⟨ih, ihn⟩
      · dsimp only
        rcases hy : es[a]? with _ | y
        · exact ⟨ih, ihn⟩
        · dsimp only
          have hm := List.mem_of_getElem? hy
          obtain ⟨_, _, hg⟩ := ahB hx
          rw [Nat.sub_zero, List.getElem?_map, hy] at hg
          have hyn : y.num = YO p k := by simpa using hg
          refine ⟨fun e he => ?_, ?_⟩
          · rcases List.mem_or_eq_of_mem_set he with he | rfl
            · exact ih e he
            · intro i hi
              simp only [Yx, QK] at hi ⊢
              rcases List.mem_append.1 hi with hi | hi
              · exact ih y hm i hi
              · rw [List.mem_singleton.1 hi, hyn]
          · have : (es.set a (Yx k l[k] y)).map Q6.num = es.map Q6.num := by
              rw [List.map_set]
              refine List.ext_getElem? fun i => ?_
              rw [List.getElem?_set]
              split
              · rename_i hai
                subst hai
                rw [List.getElem?_map, hy]
                have := (List.getElem?_eq_some_iff.1 hy).1
                simp [Yx, QK, this]
              · rfl
            rw [this]; exact ihn
theorem alM {l : List Qa} {gap : Int} {e1 e2 : Q6} (h1 : e1 ∈ Y7 l gap) (h2 : e2 ∈ Y7 l gap) {i : Nat} (i1 : i ∈ e1.finds) (i2 : i ∈ e2.finds) : e1 = e2 := by
  obtain ⟨hr, hn⟩ := agr (l := l) (abR l gap) l.length (Nat.le_refl _)
  have hnum : e1.num = e2.num := by rw [← hr e1 h1 i i1, ← hr e2 h2 i i2]
  obtain ⟨a, ha, rfl⟩ := List.mem_iff_getElem.1 h1
  obtain ⟨b, hb, rfl⟩ := List.mem_iff_getElem.1 h2
  have hab : a = b := by
    have hn : ((Y7 l gap).map Q6.num).Nodup := hn
    have hp := List.pairwise_iff_getElem.1 hn
    have la : a < ((Y7 l gap).map Q6.num).length := by simpa using ha
    have lb : b < ((Y7 l gap).map Q6.num).length := by simpa using hb
    rcases Nat.lt_trichotomy a b with h | h | h
    · exact absurd (by simpa using hnum) (hp a b la lb h)
    · exact h
    · exact absurd (by simpa using hnum.symm) (hp b a lb la h)
  subst hab; rfl
theorem anz {l : List Qa} {day age : Int} {m : PM} {i v : Nat} (h : v ∈ (ai1 l day age m i).2) : v ∈ m.2 ∨ v = i := by
  rw [ai1] at h
  split at h
  · exact .inl h
  · split at h
    · exact .inl h
    · split at h
      · rcases List.mem_append.1 h with h | h
        · exact .inl h
        · exact .inr (List.mem_singleton.1 h)
      · split at h
        · exact .inl h
        · split at h
          · exact List.mem_or_eq_of_mem_set h
          · exact .inl h
theorem ai2 {l : List Qa} {day age : Int} : ∀ (fs : List Nat) (m : PM) (v : Nat), v ∈ (fs.foldl (ai1 l day age) m).2 → v ∈ m.2 ∨ v ∈ fs
  | [], m, v, h => .inl h
  | i :: r, m, v, h => by
    rw [List.foldl_cons] at h
    rcases ai2 r _ v h with h | h
    · rcases anz h with h | h
      · exact .inl h
      · exact .inr (h ▸ List.mem_cons_self)
    · exact .inr (List.mem_cons_of_mem _ h)
theorem alA {l : List Qa} {num : Int} {fs : List Nat} {day age : Int} {x : Jb} (h : x ∈ Wi l num fs day age) : ∃ i f, i ∈ fs ∧ l[i]? = some f ∧ x = qC num i f := by
  rw [Wi] at h
  have h := XE.mem_iff.1 h
  obtain ⟨i, hi, hx⟩ := List.mem_filterMap.1 h
  rw [xj] at hx
  split at hx
  · cases hx
  · rename_i f hf
    split at hx
    · cases hx
    · cases hx
      refine ⟨i, f, ?_, hf, rfl⟩
      rcases ai2 fs ([], []) i hi with h | h
      · cases h
      · exact h
theorem alz {l : List Qa} {gap day age : Int} {e1 e2 : Q6} (h1 : e1 ∈ Y7 l gap) (h2 : e2 ∈ Y7 l gap) {x y : Jb} (hx : x ∈ Wi l e1.num e1.finds day age) (hy : y ∈ Wi l e2.num e2.finds day age) (hf : x.find = y.find) : e1 = e2 ∧ x = y := by
  obtain ⟨i, f, hi, hli, rfl⟩ := alA hx
  obtain ⟨j, g, hj, hlj, rfl⟩ := alA hy
  have hij : i = j := by
    have : (i : Int) = (j : Int) := hf
    omega
  subst hij
  have he := alM h1 h2 hi hj
  subst he
  rw [hli] at hlj
  cases hlj
  exact ⟨rfl, rfl⟩
def evF (alg day : Int) (xs : List QF) (keys : List Int) (need : Int) (e : Q6) (f : Jb) : Option (Int × Bool) := if Xr f alg = [] then none else some (f.find, !(Xr f alg).any fun u => !xs.any (xJ (K0 f alg) u e.hosts day keys need))
def evE (l : List Qa) (day age alg : Int) (xs : List QF) (keys : List Int) (need : Int) (e : Q6) : List (Int × Bool) := (Wi l e.num e.finds day age).filterMap (evF alg day xs keys need e)
def evL (l : List Qa) (gap day age alg : Int) (xs : List QF) (keys : List Int) (need : Int) : List (Int × Bool) := (Y7 l gap).flatMap (evE l day age alg xs keys need)
theorem aqh {l : List Qa} {gap day age alg : Int} {xs : List QF} {keys : List Int} {need : Int} : ∀ a ∈ evL l gap day age alg xs keys need, ∀ b ∈ evL l gap day age alg xs keys need, a.1 = b.1 → a = b := by
  intro a ha b hb hab
  obtain ⟨e1, h1, ha⟩ := List.mem_flatMap.1 ha
  obtain ⟨e2, h2, hb⟩ := List.mem_flatMap.1 hb
  obtain ⟨x, hx, ha⟩ := List.mem_filterMap.1 ha
  obtain ⟨y, hy, hb⟩ := List.mem_filterMap.1 hb
  have hxa : a.1 = x.find := by
    rw [evF] at ha; split at ha
    · cases ha
    · cases ha; rfl
  have hyb : b.1 = y.find := by
    rw [evF] at hb; split at hb
    · cases hb
    · cases hb; rfl
  obtain ⟨rfl, rfl⟩ := alz h1 h2 hx hy (by rw [← hxa, ← hyb, hab])
  rw [ha] at hb
  exact Option.some.inj hb
theorem aod {α β : Type} {lt : α → α → Bool} {lt' : β → β → Bool} {f : α → β} (h : ∀ a b, lt' (f a) (f b) = lt a b) (out : List α) (x : α) : ∀ k, gK lt' (out.map f) (f x) k = gK lt out x k
  | 0 => rfl
  | k + 1 => by
    rw [gK, gK, aod h out x k, List.getElem?_map]
    rcases out[k]? with _ | y
    · rfl
    · simp only [Option.map_some, h]
theorem anl {α β : Type} {lt : α → α → Bool} {lt' : β → β → Bool} {f : α → β} (h : ∀ a b, lt' (f a) (f b) = lt a b) (out : List α) (x : α) : af6 lt' (out.map f) (f x) = (af6 lt out x).map f := by
  simp only [af6, aod h, List.length_map, List.map_append, List.map_take, List.map_drop, List.map_cons, List.map_nil]
theorem af3 {α β : Type} {lt : α → α → Bool} {lt' : β → β → Bool} {f : α → β} (h : ∀ a b, lt' (f a) (f b) = lt a b) : ∀ (l out : List α), (l.map f).foldl (af6 lt') (out.map f) = (l.foldl (af6 lt) out).map f
  | [], out => rfl
  | x :: r, out => by rw [List.map_cons, List.foldl_cons, List.foldl_cons, anl h, af3 h r]
theorem alv {α β : Type} {lt : α → α → Bool} {lt' : β → β → Bool} {f : α → β} (h : ∀ a b, lt' (f a) (f b) = lt a b) (l : List α) : U1 lt' (l.map f) = (U1 lt l).map f := af3 h l []
def evB (l : List Qa) (gap day age alg : Int) : List (Q6 × Jb) := (Y7 l gap).flatMap fun e => ((Wi l e.num e.finds day age).filter fun f => !(Xr f alg).isEmpty).map fun f => (e, f)
def apL (day alg : Int) (xs : List QF) (keys : List Int) (need : Int) (q : Q6 × Jb) : Bool := !(Xr q.2 alg).any fun u => !xs.any (xJ (K0 q.2 alg) u q.1.hosts day keys need)
theorem apb (l : List Qa) (day age alg : Int) (xs : List QF) (keys : List Int) (need : Int) (e : Q6) (fs : List Jb) : fs.filterMap (evF alg day xs keys need e) = ((fs.filter fun f => !(Xr f alg).isEmpty).map fun f => (e, f)).map fun q => (q.2.find, apL day alg xs keys need q) := by
  induction fs with
  | nil => rfl
  | cons f r ih =>
    rw [List.filterMap_cons, List.filter_cons]
    by_cases h : Xr f alg = []
    · rw [evF, if_pos h, h]
      simpa using ih
    · have h2 : (!(Xr f alg).isEmpty) = true := by simpa using h
      rw [evF, if_neg h, if_pos h2]
      simp only [List.map_cons, ih]
      rfl
theorem apa (l : List Qa) (gap day age alg : Int) (xs : List QF) (keys : List Int) (need : Int) : evL l gap day age alg xs keys need = (evB l gap day age alg).map fun q => (q.2.find, apL day alg xs keys need q) := by
  rw [evL, evB, List.map_flatMap]
  congr 1
  funext e
  exact apb l day age alg xs keys need e _
def aeh (l : List Qa) (gap day age alg : Int) (xs : List QF) (keys : List Int) (need : Int) : List (Int × Bool) := U1 (fun x y => decide (Xv x.1 y.1 < 0)) (evL l gap day age alg xs keys need)
theorem ajg (l : List Qa) (gap day age alg : Int) (xs : List QF) (keys : List Int) (need : Int) : aeh l gap day age alg xs keys need = (U1 (fun x y => decide (Xv x.2.find y.2.find < 0)) (evB l gap day age alg)).map fun q => (q.2.find, apL day alg xs keys need q) := by
  rw [aeh, apa]
  exact alv (fun a b => rfl) _
theorem anB {day alg : Int} {xs ys : List QF} {keys : List Int} {need : Int} (h : ∀ x ∈ xs, x ∈ ys) (q : Q6 × Jb) : apL day alg xs keys need q = true → apL day alg ys keys need q = true := by
  intro hc
  rw [apL, Bool.not_eq_true', Bool.eq_false_iff] at hc ⊢
  intro ha
  refine hc ?_
  rw [List.any_eq_true] at ha ⊢
  obtain ⟨u, hu, hn⟩ := ha
  refine ⟨u, hu, ?_⟩
  rw [Bool.not_eq_true', Bool.eq_false_iff] at hn ⊢
  intro hx
  refine hn ?_
  rw [List.any_eq_true] at hx ⊢
  obtain ⟨x, hx, hp⟩ := hx
  exact ⟨x, h x hx, hp⟩
theorem anT {l : List Qa} {gap day age alg : Int} {xs ys : List QF} {keys : List Int} {need : Int} (h : ∀ x ∈ xs, x ∈ ys) : (aeh l gap day age alg xs keys need).length = (aeh l gap day age alg ys keys need).length ∧ ∀ (i : Nat) (a b : Int × Bool), (aeh l gap day age alg xs keys need)[i]? = some a → (aeh l gap day age alg ys keys need)[i]? = some b → a.1 = b.1 ∧ (a.2 = true → b.2 = true) := by
  rw [ajg, ajg]
  refine ⟨by rw [List.length_map, List.length_map], fun i a b ha hb => ?_⟩
  rw [List.getElem?_map] at ha hb
  rcases hq : (U1 (fun x y : Q6 × Jb => decide (Xv x.2.find y.2.find < 0)) (evB l gap day age alg))[i]? with _ | q
  · rw [hq] at ha; cases ha
  · rw [hq] at ha hb
    cases ha; cases hb
    exact ⟨rfl, anB h q⟩
def aal (l : List Qa) (gap day age alg : Int) (xs : List QF) (keys : List Int) (need : Int) : Bool := !(aeh l gap day age alg xs keys need).any fun e => !e.2
theorem amk (l : List Qa) (gap day age alg : Int) (xs : List QF) (keys : List Int) (need : Int) : (aeh l gap day age alg xs keys need).length = (evL l gap day age alg xs keys need).length := yf _ _
end Av
end

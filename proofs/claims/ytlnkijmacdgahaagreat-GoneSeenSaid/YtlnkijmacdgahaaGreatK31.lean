/- K31 -/
import Derived.Test.YtlnkijmacdgahaaGreatK30
import Derived.Test.YtlnkijmacdgahaaGreatK12
import Derived.Test.YtlnkijmacdgahaaGreatK28
import Derived.Test.YtlnkijmacdgahaaGreatK21
import Derived.Test.YtlnkijmacdgahaaGreatK22
import Derived.Test.YtlnkijmacdgahaaGreatK16
import Derived.Test.YtlnkijmacdgahaaGreatK14
set_option linter.unusedVariables false
set_option linter.unusedSimpArgs false
noncomputable section
set_option maxRecDepth 10000
set_option maxHeartbeats 4000000
namespace Av
open Go
attribute [local irreducible] AWp VA K4 jR awS awC aa9 awQ abD QZ V9 aay awR Ug awB okR jL ris
theorem ahF {l : List Int} {k : Nat} (h : k ≤ l.length) : (Jx l k).2 ≤ l.length := qR (Jq (j9 (Jq (j9 (qR (Jq h))))))
theorem ann {l : List Int} {f : Qa} {k : Nat} (h : k ≤ l.length) : (aly l f k).2 ≤ l.length := by
  unfold aly
  (repeat' split) <;> first | exact Jq h | exact Jq (j9 h) | exact qR h
theorem aiO {l : List Int} {k : Nat} (h : k ≤ l.length) : (Kv l k).2 ≤ l.length := ann (ahF h)
theorem an6 : Qx [97] = true ∧ Qx [98] = true ∧ Qx [99] = true ∧ Qx [115] = true ∧ Qx [116] = true := by decide +kernel
theorem ahE (l : List Int) (k : Nat) : ∃ h s, (Jx l k).1 = ⟨(Jx l k).1.src, h, (Jx l k).1.mach, (Jx l k).1.day, (Jx l k).1.conf, (Jx l k).1.kind, s, 0, 0, 0, []⟩ ∧ (h = [97] ∨ h = [98] ∨ h = [99]) ∧ (s = [115] ∨ s = [116]) ∧
    (1 ≤ (Jx l k).1.src ∧ (Jx l k).1.src ≤ 7) ∧ (0 ≤ (Jx l k).1.mach ∧ (Jx l k).1.mach ≤ 3) ∧ (0 ≤ (Jx l k).1.day ∧ (Jx l k).1.day ≤ 11) ∧ (1 ≤ (Jx l k).1.conf ∧ (Jx l k).1.conf ≤ 100) ∧ (1 ≤ (Jx l k).1.kind ∧ (Jx l k).1.kind ≤ 8) := by
  have r1 := Qk (l := l) (k := k) (n := 7) (by omega) (by omega)
  simp only [Jx]
  generalize Qz l k 7 = x1 at *
  have r2 := wq (l := l) (k := x1.2) (xs := [[97], [98], [99]]) (by decide) (by decide)
  generalize Ub l x1.2 [[97], [98], [99]] = x2 at *
  have r3 := aac (l := l) (k := x2.2) (xs := [0, 1, 2, 0, 3]) (by decide) (by decide)
  generalize ofD l x2.2 [0, 1, 2, 0, 3] = x3 at *
  have r4 := Qk (l := l) (k := x3.2) (n := 12) (by omega) (by omega)
  generalize Qz l x3.2 12 = x4 at *
  have r5 := aac (l := l) (k := x4.2) (xs := [90, 50, 100, 1]) (by decide) (by decide)
  generalize ofD l x4.2 [90, 50, 100, 1] = x5 at *
  have r6 := Qk (l := l) (k := x5.2) (n := 8) (by omega) (by omega)
  generalize Qz l x5.2 8 = x6 at *
  have r7 := wq (l := l) (k := x6.2) (xs := [[115], [116]]) (by decide) (by decide)
  generalize Ub l x6.2 [[115], [116]] = x7 at *
  simp only [List.mem_cons, List.not_mem_nil, or_false] at r2 r3 r5 r7
  exact ⟨x2.1, x7.1, rfl, r2, r7, by omega, by omega, by omega, by omega, by omega⟩
theorem akx : Qn 1 0 > 0 ∧ Qn 2 0 > 0 ∧ Qn 5 1024 > 0 ∧ Qn 5 2048 > 0 ∧ Qn 14 128 > 0 ∧ (Wj 5).kind = 2 := by decide +kernel
theorem ajk {c : Int} (h : 0 ≤ c ∧ c < 4) : Qn (apH c).1 (apH c).2 > 0 := by
  obtain ⟨s1, s2, s3, s4, s5, _⟩ := akx
  obtain rfl | rfl | rfl | rfl : c = 0 ∨ c = 1 ∨ c = 2 ∨ c = 3 := by omega
  · exact s1
  · exact s2
  · exact s3
  · exact s5
theorem ano (l : List Int) (k : Nat) : Yg (Kv l k).1 = true ∧ (Kv l k).1.Sz := by
  obtain ⟨h, s, he, hh, hs, h1, h2, h3, h4, h5⟩ := ahE l k
  obtain ⟨n1, n2, n3, n4, n5⟩ := an6
  obtain ⟨_, _, s3, s4, _, c5⟩ := akx
  rw [Kv]
  generalize (Jx l k).2 = q
  revert he h1 h2 h3 h4 h5
  generalize (Jx l k).1 = f
  intro he h1 h2 h3 h4 h5
  have hn : Qx h = true := by rcases hh with rfl | rfl | rfl <;> assumption
  have sn : Qx s = true := by rcases hs with rfl | rfl <;> assumption
  have hl : h.length < 2 ^ 60 := by rcases hh with rfl | rfl | rfl <;> decide
  have sl : s.length < 2 ^ 60 := by rcases hs with rfl | rfl <;> decide
  obtain ⟨src, host, mach, day, conf, kind, subj, alg, bits, num, text⟩ := f
  simp only [Qa.mk.injEq, true_and] at he
  obtain ⟨rfl, rfl, rfl, rfl, rfl, rfl⟩ := he
  dsimp only at h1 h2 h3 h4 h5
  have head : ∀ g : Qa, g.src = src → g.host = host → g.mach = mach → g.day = day → g.conf = conf → g.subj = subj → g.text.length < 2 ^ 60 → VU g = true → Yg g = true ∧ g.Sz := by
    intro g e1 e2 e3 e4 e5 e6 e7 e8
    refine ⟨?_, by rw [e2]; exact hl, by rw [e6]; exact sl, e7⟩
    rw [Yg, e1, e2, e3, e4, e5, e6, e8, hn, sn]
    simp; omega
  have r4 := Qk (l := l) (k := q) (n := 4) (by omega) (by omega)
  have r5 := Qk (l := l) (k := q) (n := 5) (by omega) (by omega)
  have r3 := Qk (l := l) (k := q) (n := 3) (by omega) (by omega)
  have ro := aac (l := l) (k := q) (xs := [1024, 2048]) (by decide) (by decide)
  have rp := Qk (l := l) (k := (ofD l q [1024, 2048]).2) (n := 3) (by omega) (by omega)
  have rw_ := wq (l := l) (k := q) (xs := [[97], [98]]) (by decide) (by decide)
  have us := ajk r4
  simp only [List.mem_cons, List.not_mem_nil, or_false] at ro rw_
  have hk : kind = 1 ∨ kind = 2 ∨ kind = 3 ∨ kind = 4 ∨ kind = 5 ∨ kind = 6 ∨ kind = 7 ∨ kind = 8 := by omega
  have wn : Qx (Ub l q [[97], [98]]).1 = true := by rcases rw_ with h | h <;> rw [h] <;> assumption
  have wl : (Ub l q [[97], [98]]).1.length < 2 ^ 60 := by rcases rw_ with h | h <;> rw [h] <;> decide
  have os : Qn 5 (ofD l q [1024, 2048]).1 > 0 := by rcases ro with h | h <;> rw [h] <;> assumption
  rcases hk with rfl | rfl | rfl | rfl | rfl | rfl | rfl | rfl
  all_goals
    simp only [aly, Int.reduceEq, or_true, true_or, or_self, if_true, if_false]
    refine head _ rfl rfl rfl rfl rfl rfl ?_ ?_
    · first | exact wl | (show (0 : Nat) < 2 ^ 60; decide)
    · simp only [VU, afK, Int.reduceEq, or_true, true_or, or_self, if_true, if_false]
      first | (simp [us]; done) | (simp [os, c5]; omega) | (simp [wn]; done) | (simp; omega)
theorem ak4 {α : Type} {p : α → Bool} {q : α → α → Bool} (tr : ∀ a b c, q a b = true → q b c = true → q a c = true) (l : List α) : ∀ k, k ≤ l.length → (okP p q l k = true ↔ (∀ x ∈ l.take k, p x = true) ∧ (l.take k).Pairwise fun a b => q a b = true)
  | 0, _ => by simp [aiy]
  | k + 1, h => by
    obtain ⟨x, hx⟩ : ∃ x, l[k]? = some x := ⟨_, List.getElem?_eq_getElem (by omega)⟩
    rw [abN, hx, List.take_add_one, hx, Option.toList_some, List.pairwise_append]
    dsimp only
    rw [Bool.and_eq_true, ak4 tr l k (by omega), Bool.and_eq_true, Bool.or_eq_true]
    constructor
    · rintro ⟨⟨h1, h2⟩, h3, h4⟩
      refine ⟨fun y hy => (List.mem_append.1 hy).elim (h1 y) (fun e => by rw [List.mem_singleton.1 e]; exact h3), h2, List.pairwise_singleton _ _, fun y hy z hz => ?_⟩
      rw [List.mem_singleton.1 hz]
      rcases k with _ | j
      · simp at hy
      · obtain ⟨u, hu⟩ : ∃ u, l[j]? = some u := ⟨_, List.getElem?_eq_getElem (by omega)⟩
        rw [show j + 1 - 1 = j from rfl, hu] at h4
        have h4 : q u x = true := by rcases h4 with h4 | h4; simp at h4; exact h4
        rw [List.take_add_one, hu, Option.toList_some, List.pairwise_append] at h2
        rw [List.take_add_one, hu, Option.toList_some] at hy
        rcases List.mem_append.1 hy with hy | hy
        · exact tr y u x (h2.2.2 y hy u (List.mem_singleton.2 rfl)) h4
        · rw [List.mem_singleton.1 hy]; exact h4
    · rintro ⟨h1, h2, _, h3⟩
      refine ⟨⟨fun y hy => h1 y (List.mem_append_left _ hy), h2⟩, h1 x (List.mem_append_right _ (List.mem_singleton.2 rfl)), ?_⟩
      rcases k with _ | j
      · exact .inl rfl
      · obtain ⟨u, hu⟩ : ∃ u, l[j]? = some u := ⟨_, List.getElem?_eq_getElem (by omega)⟩
        rw [show j + 1 - 1 = j from rfl, hu]
        exact .inr (h3 u (by rw [List.take_add_one, hu]; exact List.mem_append_right _ (List.mem_singleton.2 rfl)) x (List.mem_singleton.2 rfl))
theorem ahX : Cm acg := by
  have h0 : Cm fun _ _ : Qa => (0 : Int) := ⟨fun _ _ => rfl, fun _ _ _ _ _ => Int.le_refl _, fun _ _ _ _ _ _ => rfl⟩
  exact (agA.by Qa.host).lex ((qG.by Qa.mach).lex ((qG.by Qa.day).lex ((agA.by Qa.subj).lex ((qG.by Qa.kind).lex ((qG.by Qa.alg).lex ((qG.by Qa.bits).lex ((qG.by Qa.num).lex ((agA.by Qa.text).lex ((qG.by Qa.src).lex ((qG.by Qa.conf).lex h0))))))))))
theorem alh (a b c : Qa) (h1 : ltF a b = true) (h2 : ltF b c = true) : ltF a c = true := by
  simp only [ltF, decide_eq_true_eq] at *
  have t := ahX.tr a b c (by omega) (by omega)
  have z := ahX.ze a b c (by omega) (by omega)
  omega
theorem aci (l : List Qa) : ak8 l = true ↔ (∀ x ∈ l, Yg x = true) ∧ l.Pairwise fun a b => ltF a b = true := by
  rw [ak8, ak4 alh l _ (Nat.le_refl _), List.take_length]
theorem afH (l : List Qa) (x : Qa) : ∀ k, k ≤ l.length → (∀ i, adS l x k ≤ i → i < k → ∃ y, l[i]? = some y ∧ acg y x > 0) ∧ (∀ j, adS l x k = j + 1 → ∃ y, l[j]? = some y ∧ ¬ acg y x > 0)
  | 0, _ => ⟨fun i _ h => absurd h (Nat.not_lt_zero _), fun j h => by cases h⟩
  | k + 1, hk => by
    obtain ⟨y, hy⟩ : ∃ y, l[k]? = some y := ⟨_, List.getElem?_eq_getElem (by omega)⟩
    rw [adS, hy]
    dsimp only
    by_cases h : acg y x > 0
    · rw [if_pos h]
      obtain ⟨h1, h2⟩ := afH l x k (by omega)
      refine ⟨fun i hi hlt => ?_, h2⟩
      by_cases e : i = k
      · subst e; exact ⟨y, hy, h⟩
      · exact h1 i hi (by omega)
    · rw [if_neg h]
      exact ⟨fun i h1 h2 => by omega, fun j hj => by
        have e : k = j := by omega
        subst e
        exact ⟨y, hy, h⟩⟩
theorem ahA {l : List Qa} {x : Qa} (hs : l.Pairwise fun a b => ltF a b = true) (hd : akl l x = false) : (abS l x).Pairwise fun a b => ltF a b = true := by
  obtain ⟨h1, h2⟩ := afH l x l.length (Nat.le_refl _)
  have hple := ahj l x l.length
  rw [abS]
  rw [akl] at hd
  generalize adS l x l.length = p at *
  have hb : ∀ y ∈ l.take p, ltF y x = true := by
    intro y hy
    rcases p with _ | j
    · simp at hy
    · obtain ⟨z, hz, hn⟩ := h2 j rfl
      dsimp only at hd
      rw [hz] at hd
      dsimp only at hd
      have hzx : ltF z x = true := by simp at hd; simp only [ltF, decide_eq_true_eq]; omega
      have hs2 := hs.sublist (List.take_sublist (j + 1) l)
      rw [List.take_add_one, hz, Option.toList_some] at hs2 hy
      rw [List.pairwise_append] at hs2
      rcases List.mem_append.1 hy with hy | hy
      · exact alh y z x (hs2.2.2 y hy z (List.mem_singleton.2 rfl)) hzx
      · rw [List.mem_singleton.1 hy]; exact hzx
  have ha : ∀ y ∈ l.drop p, ltF x y = true := by
    intro y hy
    obtain ⟨i, hi⟩ := List.mem_iff_getElem?.1 hy
    rw [List.getElem?_drop] at hi
    obtain ⟨z, hz, hp⟩ := h1 (p + i) (by omega) (List.getElem?_eq_some_iff.1 hi).1
    rw [hi] at hz
    cases hz
    have := ahX.neg y x
    simp only [ltF, decide_eq_true_eq]; omega
  rw [List.pairwise_append]
  refine ⟨hs.sublist (List.take_sublist _ _), List.pairwise_cons.2 ⟨ha, hs.sublist (List.drop_sublist _ _)⟩, fun y hy z hz => ?_⟩
  rcases List.mem_cons.1 hz with rfl | hz
  · exact hb y hy
  · exact alh y x z (hb y hy) (ha z hz)
theorem anh {l : List Qa} {x y : Qa} (h : y ∈ abS l x) : y = x ∨ y ∈ l := by
  rw [abS] at h
  rcases List.mem_append.1 h with h | h
  · exact .inr (List.mem_of_mem_take h)
  · rcases List.mem_cons.1 h with h | h
    · exact .inl h
    · exact .inr (List.mem_of_mem_drop h)
theorem aiM {P : Qa → Prop} : ∀ (l out : List Qa), (∀ x ∈ l, P x) → (∀ x ∈ out, P x) → (out.Pairwise fun a b => ltF a b = true) → (∀ x ∈ l.foldl wx out, P x) ∧ (l.foldl wx out).Pairwise fun a b => ltF a b = true
  | [], out, _, h2, h3 => ⟨h2, h3⟩
  | x :: r, out, h1, h2, h3 => by
    rw [List.foldl_cons]
    refine aiM r _ (fun y hy => h1 y (List.mem_cons_of_mem _ hy)) ?_ ?_
    · rw [wx]; split
      · exact h2
      · intro y hy
        rcases anh hy with rfl | hy
        · exact h1 _ List.mem_cons_self
        · exact h2 y hy
    · rw [wx]; split
      · exact h3
      · rename_i hd; exact ahA h3 (by simpa using hd)
theorem aiA {P : Qa → Prop} {l : List Qa} (h : ∀ x ∈ l, P x) : (∀ x ∈ JN l, P x) ∧ (JN l).Pairwise fun a b => ltF a b = true := aiM l [] h (by simp) List.Pairwise.nil
theorem ajI {l : List Qa} (h : ∀ x ∈ l, Yg x = true) (hl : l.length ≤ 400) : Ku (JN l) = true := by
  rw [Ku, Bool.and_eq_true, aci, decide_eq_true_eq]
  have := acj l
  exact ⟨aiA h, by omega⟩
def UW (l : List Int) (k : Nat) : Qa × Nat :=
  if (Qz l (Kv l k).2 2).1 = 0 then ({ (Kv l k).1 with kind := 2, alg := 0, bits := 0, text := [], num := 1 + (Qz l (Qz l (Kv l k).2 2).2 16).1 }, (Qz l (Qz l (Kv l k).2 2).2 16).2)
  else ((Kv l k).1, (Qz l (Kv l k).2 2).2)
def Y8 {α : Type} (g : List Int → Nat → α × Nat) (l : List Int) : Nat → Nat → List α × Nat
  | 0, k => ([], k)
  | n + 1, k => ((g l k).1 :: (Y8 g l n (g l k).2).1, (Y8 g l n (g l k).2).2)
theorem y0 {α : Type} {g : List Int → Nat → α × Nat} {l : List Int} (hg : ∀ k, k ≤ l.length → (g l k).2 ≤ l.length) : ∀ (n : Nat) {k : Nat}, k ≤ l.length → (Y8 g l n k).2 ≤ l.length
  | 0, _, h => h
  | n + 1, _, h => y0 hg n (hg _ h)
theorem qF {α : Type} (g : List Int → Nat → α × Nat) (l : List Int) : ∀ (n k : Nat), (Y8 g l n k).1.length = n
  | 0, _ => rfl
  | n + 1, k => by rw [Y8, List.length_cons, qF g l n]
theorem yw {α : Type} {g : List Int → Nat → α × Nat} {l : List Int} {P : α → Prop} (hg : ∀ k, k ≤ l.length → (g l k).2 ≤ l.length) (h : ∀ k, k ≤ l.length → P (g l k).1) : ∀ (n : Nat) {k : Nat}, k ≤ l.length → ∀ x ∈ (Y8 g l n k).1, P x
  | 0, _, _, _, hx => by cases hx
  | n + 1, k, hk, x, hx => by
    rcases List.mem_cons.1 hx with rfl | hx
    · exact h k hk
    · exact yw hg h n (hg k hk) x hx
theorem yZ {α : Type} (g : List Int → Nat → α × Nat) (l : List Int) : ∀ (n k : Nat), Y8 g l (n + 1) k = ((Y8 g l n k).1 ++ [(g l (Y8 g l n k).2).1], (g l (Y8 g l n k).2).2)
  | 0, _ => rfl
  | n + 1, k => by
    have := yZ g l n (g l k).2
    rw [Y8, this]; rfl
def Ks (c : Int) : Int × Int := if c = 0 then (1, 0) else if c = 1 then (14, 128) else if c = 2 then (5, 1024) else if c = 3 then (20, 0) else (10, 2048)
theorem amu {c : Int} (h : 0 ≤ c ∧ c < 5) : ([.agg [V.int 1, V.int 0], .agg [V.int 14, V.int 128], .agg [V.int 5, V.int 1024], .agg [V.int 20, V.int 0], .agg [V.int 10, V.int 2048]] : List V)[c.toNat]? = some (.agg [V.int (Ks c).1, V.int (Ks c).2]) := by
  obtain rfl | rfl | rfl | rfl | rfl : c = 0 ∨ c = 1 ∨ c = 2 ∨ c = 3 ∨ c = 4 := by omega
  all_goals rfl
def UV (x : QF) (key : Int) : QF := { x with seals := [(key, Us (exP x).pB)] }
def aiS (l : List Int) (k : Nat) : QF × Nat :=
  (⟨(Ks (Qz l k 5).1).1, (Ks (Qz l k 5).1).2, (ofD l (Qz l k 5).2 [1, 1, 2]).1, (Ub l (ofD l (Qz l k 5).2 [1, 1, 2]).2 [[97], [98], [99]]).1, 0, (ofD l (Ub l (ofD l (Qz l k 5).2 [1, 1, 2]).2 [[97], [98], [99]]).2 [100, 6]).1, []⟩, (ofD l (Ub l (ofD l (Qz l k 5).2 [1, 1, 2]).2 [[97], [98], [99]]).2 [100, 6]).2)
def xG (l : List Int) (k : Nat) : QF × Nat := (if (Qz l (aiS l k).2 4).1 = 3 then (aiS l k).1 else UV (aiS l k).1 51, (Qz l (aiS l k).2 4).2)
def vZ (l : List Int) (k : Nat) : List Qa × List QF × Nat :=
  let f := Y8 UW l (Qz l k 9).1.toNat (Qz l k 9).2
  let x := Y8 xG l (Qz l f.2 3).1.toNat (Qz l f.2 3).2
  (JN f.1, x.1, x.2)
theorem abL {l : List Int} (k : Nat) (h : k ≤ l.length) : (UW l k).2 ≤ l.length := by
  have h1 := Jq (n := 2) (aiO (l := l) h)
  unfold UW; split
  · exact Jq h1
  · exact h1
theorem ao7 {l : List Int} {k : Nat} (h : k ≤ l.length) : (aiS l k).2 ≤ l.length := j9 (qR (j9 (Jq h)))
theorem aeo {l : List Int} (k : Nat) (h : k ≤ l.length) : (xG l k).2 ≤ l.length := Jq (ao7 h)
theorem ail {l : List Int} (k : Nat) (h : k ≤ l.length) : Yg (UW l k).1 = true ∧ (UW l k).1.Sz := by
  obtain ⟨hc, hz⟩ := ano l k
  rw [UW]
  have r := Qk (l := l) (k := (Qz l (Kv l k).2 2).2) (n := 16) (by omega) (by omega)
  generalize Qz l (Qz l (Kv l k).2 2).2 16 = q at *
  split
  · generalize (Kv l k).1 = f at *
    refine ⟨?_, hz.1, hz.2.1, by show (0 : Nat) < 2 ^ 60; omega⟩
    rw [Yg] at hc ⊢
    simp only [Bool.and_eq_true] at hc ⊢
    refine ⟨hc.1, ?_⟩
    simp only [VU, afK, Int.reduceEq, or_true, true_or, or_self, if_true, if_false]
    simp; omega
  · exact ⟨hc, hz⟩
theorem akw (b : List UInt8) : 0 ≤ Us b ∧ Us b < 4294967296 := by
  have hg : ∀ (b : List UInt8) (h : Int), 0 ≤ h ∧ h < 4294967296 → 0 ≤ aem h b ∧ aem h b < 4294967296 := by
    intro b
    induction b with
    | nil => intro h hh; exact hh
    | cons c r ih =>
      intro h hh
      rw [aem]
      refine ih _ ?_
      rw [vX]
      have hw : ∀ x : Int, 0 ≤ IntKind.u32.wrap x ∧ IntKind.u32.wrap x < 4294967296 := fun x => by
        have e1 : IntKind.u32.bits = 32 := rfl
        have e2 : IntKind.u32.signed = false := rfl
        simp only [IntKind.wrap, e1, e2, Bool.false_and]
        simp; omega
      exact hw _
  have h1 := hg b 2166136261 (by omega)
  rw [Us, QE (by omega) (by omega)]
  exact h1
theorem ag4 : Qn 1 0 > 0 ∧ Qn 14 128 > 0 ∧ Qn 5 1024 > 0 ∧ Qn 20 0 > 0 ∧ Qn 10 2048 > 0 := by decide +kernel
theorem agZ {c : Int} (h : 0 ≤ c ∧ c < 5) : Qn (Ks c).1 (Ks c).2 > 0 := by
  obtain ⟨s1, s2, s3, s4, s5⟩ := ag4
  obtain rfl | rfl | rfl | rfl | rfl : c = 0 ∨ c = 1 ∨ c = 2 ∨ c = 3 ∨ c = 4 := by omega
  all_goals assumption
theorem ajl (c : Int) : -9223372036854775808 ≤ (Ks c).1 ∧ (Ks c).1 < 9223372036854775808 ∧ -9223372036854775808 ≤ (Ks c).2 ∧ (Ks c).2 < 9223372036854775808 := by
  unfold Ks; (repeat' split) <;> simp
theorem ag7 {x : QF} {key : Int} (h : yY x = true) (hs : x.seals = []) (hk : agX key = true) : yY (UV x key) = true := by
  obtain ⟨s1, s2⟩ := akw (exP x).pB
  rw [yY] at h ⊢
  simp only [exA, exD, Bool.and_eq_true] at h ⊢
  refine ⟨h.1, ⟨h.2.1.1, h.2.1.2.1, h.2.1.2.2.1, by simp [UV]⟩, ?_⟩
  simp only [UV, Xc, hk]
  simp; omega
theorem alF {l : List Int} (k : Nat) : yY (aiS l k).1 = true ∧ (aiS l k).1.Sz ∧ (aiS l k).1.seals = [] := by
  have r1 := Qk (l := l) (k := k) (n := 5) (by omega) (by omega)
  obtain ⟨n1, n2, n3, n4, n5⟩ := an6
  rw [aiS]
  generalize Qz l k 5 = a at *
  have r2 := aac (l := l) (k := a.2) (xs := [1, 1, 2]) (by decide) (by decide)
  generalize ofD l a.2 [1, 1, 2] = b at *
  have r3 := wq (l := l) (k := b.2) (xs := [[97], [98], [99]]) (by decide) (by decide)
  generalize Ub l b.2 [[97], [98], [99]] = w at *
  have r4 := aac (l := l) (k := w.2) (xs := [100, 6]) (by decide) (by decide)
  generalize ofD l w.2 [100, 6] = t at *
  have us := agZ r1
  have uz := ajl a.1
  simp only [List.mem_cons, List.not_mem_nil, or_false] at r2 r3 r4
  have hn : Qx w.1 = true := by rcases r3 with h | h | h <;> rw [h] <;> assumption
  have hl : w.1.length < 2 ^ 60 := by rcases r3 with h | h | h <;> rw [h] <;> decide
  refine ⟨?_, ⟨⟨uz.1, uz.2.1⟩, ⟨uz.2.2.1, uz.2.2.2⟩, hl⟩, rfl⟩
  simp only [yY, exA, exD, Xc, hn, us]
  simp; omega
theorem amB {l : List Int} (k : Nat) : yY (xG l k).1 = true ∧ (xG l k).1.Sz := by
  obtain ⟨h1, h2, h3⟩ := alF (l := l) k
  rw [xG]
  generalize (aiS l k).1 = e at *
  split
  · exact ⟨h1, h2⟩
  · exact ⟨ag7 h1 h3 (by decide), h2.a, h2.b, h2.e⟩
theorem aim {l : List Int} {k : Nat} (hk : k ≤ l.length) : (∀ x ∈ (vZ l k).1, x.Sz) ∧ Ku (vZ l k).1 = true ∧ (vZ l k).1.length ≤ 8 ∧ (∀ x ∈ (vZ l k).2.1, yY x = true ∧ x.Sz) ∧ (vZ l k).2.1.length ≤ 2 ∧ (vZ l k).2.2 ≤ l.length := by
  have r1 := Qk (l := l) (k := k) (n := 9) (by omega) (by omega)
  have k1 := Jq (n := 9) hk
  simp only [vZ]
  generalize Qz l k 9 = a at *
  have f1 := qF UW l a.1.toNat a.2
  have f2 := y0 (l := l) abL a.1.toNat k1
  have f3 := yw (P := fun x => Yg x = true ∧ x.Sz) (l := l) abL ail a.1.toNat k1
  generalize Y8 UW l a.1.toNat a.2 = f at *
  have r2 := Qk (l := l) (k := f.2) (n := 3) (by omega) (by omega)
  have k2 := Jq (n := 3) f2
  generalize Qz l f.2 3 = b at *
  have x1 := qF xG l b.1.toNat b.2
  have x2 := y0 (l := l) aeo b.1.toNat k2
  have x3 := yw (P := fun x => yY x = true ∧ x.Sz) (l := l) aeo (fun k _ => amB k) b.1.toNat k2
  generalize Y8 xG l b.1.toNat b.2 = x at *
  have hn := acj f.1
  have hl : f.1.length ≤ 8 := by omega
  exact ⟨fun y hy => ((aiA f3).1 y hy).2, ajI (fun y hy => (f3 y hy).1) (by omega), by omega, x3, by omega, x2⟩
def atF (kind day alg bits : Int) : Qa := ⟨3, [97, 112, 112], 1, day, 90, kind, [116, 108, 115], alg, bits, 0, []⟩
def Kq (day od alg bits : Int) : List Qa := [atF 1 day alg bits, atF 8 od alg bits]
theorem amy (day od alg bits gap : Int) : afT (Kq day od alg bits) gap = (List.range 400).set 1 0 := by
  have h1 : amo 1 [] 0 = none := rfl
  have h2 : amo 1 [1] 0 = some 0 := rfl
  have r1 : YO (List.range 400) 1 = 1 := by decide +kernel
  have r0 : YO (List.range 400) 0 = 0 := by decide +kernel
  have g0 : (Kq day od alg bits)[0]? = some (atF 1 day alg bits) := rfl
  have g1 : (Kq day od alg bits)[1]? = some (atF 8 od alg bits) := rfl
  have m1 : ∀ k d, (atF k d alg bits).mach = 1 := fun _ _ => rfl
  have hl : (Kq day od alg bits).length = 2 := rfl
  rw [afT, hl, V7, g1, V7, g0, V7]
  simp only [ahv, m1, h1, List.nil_append]
  simp [h2, ahx, r1, r0]
theorem amz (day od alg bits gap : Int) : Y7 (Kq day od alg bits) gap = [⟨0, [[97, 112, 112]], [1], [0, 1]⟩] := by
  have g0 : (Kq day od alg bits)[0]? = some (atF 1 day alg bits) := rfl
  have g1 : (Kq day od alg bits)[1]? = some (atF 8 od alg bits) := rfl
  have hl : (Kq day od alg bits).length = 2 := rfl
  have r1 : YO ((List.range 400).set 1 0) 1 = 0 := by decide +kernel
  have r0 : YO ((List.range 400).set 1 0) 0 = 0 := by decide +kernel
  have i1 : aak Op.bytesLess [] [97, 112, 112] = [[97, 112, 112]] := by decide +kernel
  have i2 : aak Op.bytesLess [[97, 112, 112]] [97, 112, 112] = [[97, 112, 112]] := by decide +kernel
  have j1 : aak ltJ [] 1 = [1] := by decide +kernel
  have j2 : aak ltJ [1] 1 = [1] := by decide +kernel
  have hx : adb 0 [0] 0 = some 0 := rfl
  have hh : ∀ k d, (atF k d alg bits).host = [97, 112, 112] := fun _ _ => rfl
  have m1 : ∀ k d, (atF k d alg bits).mach = 1 := fun _ _ => rfl
  rw [Y7, amy, hl, JO, g1, JO, g0, JO]
  simp only [adt, r0, r1, Yx, QK, hh, m1, i1, j1, List.nil_append]
  simp [hx, i2, j2, Yx, QK, hh, m1]
theorem afr {day od alg bits gap : Int} (h0 : 0 ≤ day) (h1 : day < od) (h2 : od ≤ 40000) (hg : 0 ≤ gap ∧ gap ≤ 4000) (hs : Qn alg bits > 0) : Y2 (Kq day od alg bits) gap = 0 := by
  have na : Qx [97, 112, 112] = true := by decide +kernel
  have nt : Qx [116, 108, 115] = true := by decide +kernel
  have hc : ∀ k d, (k = 1 ∨ k = 8) → 0 ≤ d → d ≤ 40000 → Yg (atF k d alg bits) = true := by
    intro k d hk d0 d1
    have hb : VU (atF k d alg bits) = true := by
      have e1 : (atF k d alg bits).kind = k := rfl
      have e2 : (atF k d alg bits).alg = alg := rfl
      have e3 : (atF k d alg bits).bits = bits := rfl
      rw [VU, e1, if_pos hk, e2, e3, decide_eq_true hs]; rfl
    rw [Yg, hb]
    simp only [atF, na, nt]
    simp
    exact ⟨d0, decide_eq_true d1⟩
  have hlt : ltF (atF 1 day alg bits) (atF 8 od alg bits) = true := by
    have s0 : jY [97, 112, 112] [97, 112, 112] = 0 := by decide +kernel
    have i1 : Xv (1 : Int) 1 = 0 := by decide
    have i2 : Xv day od = -1 := by rw [Xv, if_pos h1]
    rw [ltF, acg, an2]
    simp only [atF, s0, i1, i2, JB]
    simp
  have hn : Ku (Kq day od alg bits) = true := by
    rw [Ku, Bool.and_eq_true, aci, decide_eq_true_eq]
    refine ⟨⟨fun x hx => ?_, ?_⟩, by simp [Kq]⟩
    · simp only [Kq, List.mem_cons, List.not_mem_nil, or_false] at hx
      rcases hx with rfl | rfl
      · exact hc 1 day (.inl rfl) h0 (by omega)
      · exact hc 8 od (.inr rfl) (by omega) h2
    · simp only [Kq, List.pairwise_cons, List.mem_singleton, forall_eq, hlt, true_and]
      simp
  rw [Y2, if_pos hn, if_neg (by omega)]
theorem akr {day od alg bits D age : Int} (h1 : day < od) (hd : day ≤ D) (ha : D - age ≤ day) (ho : D ≤ od) : Wi (Kq day od alg bits) 0 [0, 1] D age = if D < od then [qC 0 0 (atF 1 day alg bits)] else [] := by
  have g0 : (Kq day od alg bits)[0]? = some (atF 1 day alg bits) := rfl
  have g1 : (Kq day od alg bits)[1]? = some (atF 8 od alg bits) := rfl
  have p8 : YK (atF 8 od alg bits) = YK (atF 1 day alg bits) := by simp [YK, atF]
  have d1 : ∀ k d, (atF k d alg bits).day = d := fun _ _ => rfl
  have hx : ∀ p : PPl, aiF p [] 0 = none := fun _ => rfl
  have hx1 : ∀ p : PPl, aiF p [p] 0 = some 0 := fun p => by simp [aiF]
  have hb : apx (atF 8 od alg bits) (atF 1 day alg bits) = true := by rw [apx, d1, d1, decide_eq_true (by omega)]; rfl
  have k1 : (atF 1 day alg bits).kind = 1 := rfl
  have k8 : (atF 8 od alg bits).kind = 8 := rfl
  rw [Wi, afm, List.foldl_cons, List.foldl_cons, List.foldl_nil]
  have s0 : ai1 (Kq day od alg bits) D age ([], []) 0 = ([YK (atF 1 day alg bits)], [0]) := by
    rw [ai1, g0]
    simp only [d1]
    rw [if_neg (by omega), hx]; rfl
  rw [s0]
  by_cases h : D < od
  · have s1 : ai1 (Kq day od alg bits) D age ([YK (atF 1 day alg bits)], [0]) 1 = ([YK (atF 1 day alg bits)], [0]) := by
      rw [ai1, g1]
      simp only [d1]
      rw [if_pos (by omega)]
    rw [s1, if_pos h]
    simp only [List.filterMap_cons, List.filterMap_nil, xj, g0, k1]
    exact af5 _ _
  · have s1 : ai1 (Kq day od alg bits) D age ([YK (atF 1 day alg bits)], [0]) 1 = ([YK (atF 1 day alg bits)], [1]) := by
      rw [ai1, g1]
      simp only [d1, p8]
      rw [if_neg (by omega), hx1]
      simp [g0, hb]
    rw [s1, if_neg h]
    simp only [List.filterMap_cons, List.filterMap_nil, xj, g1, k8]
    rfl
theorem anY {day od alg bits D age gap : Int} (h1 : day < od) (hd : day ≤ D) (ha : D - age ≤ day) (ho : D ≤ od) (hal : 1 ≤ alg ∧ alg ≤ 22) (xs : List QF) (keys : List Int) (need : Int) : aeh (Kq day od alg bits) gap D age alg xs keys need = if D < od then [(0, xs.any (xJ false (alg, bits) [[97, 112, 112]] D keys need))] else [] := by
  rw [aeh, evL, amz, List.flatMap_cons, List.flatMap_nil, List.append_nil, evE]
  have hf := akr (alg := alg) (bits := bits) h1 hd ha ho
  have hn : (((0 : Nat) : Int)) = 0 := rfl
  simp only [hn]
  rw [hf]
  by_cases h : D < od
  · rw [if_pos h, if_pos h, List.filterMap_cons, List.filterMap_nil]
    have u1 : Xr (qC 0 0 (atF 1 day alg bits)) alg = [(alg, bits)] := by
      simp [Xr, qC, atF]; omega
    have u2 : K0 (qC 0 0 (atF 1 day alg bits)) alg = false := by
      simp [K0, qC, atF]
    have u3 : (qC 0 0 (atF 1 day alg bits)).find = 0 := rfl
    have he : evF alg D xs keys need ⟨0, [[97, 112, 112]], [1], [0, 1]⟩ (qC 0 0 (atF 1 day alg bits)) = some (0, xs.any (xJ false (alg, bits) [[97, 112, 112]] D keys need)) := by
      rw [evF, u1, u2, u3, if_neg (by simp)]
      simp
    rw [he]
    exact af5 _ _
  · rw [if_neg h, if_neg h]; rfl
theorem amx {day od alg bits : Int} (h1 : day < od) : JN (Kq day od alg bits) = Kq day od alg bits := by
  have s0 : jY [97, 112, 112] [97, 112, 112] = 0 := by decide +kernel
  have i1 : Xv (1 : Int) 1 = 0 := by decide
  have i2 : Xv day od = -1 := by rw [Xv, if_pos h1]
  have hlt : acg (atF 1 day alg bits) (atF 8 od alg bits) = -1 := by
    rw [acg, an2]
    simp only [atF, s0, i1, i2, JB]
    simp
  rw [Kq, JN, List.foldl_cons, List.foldl_cons, List.foldl_nil]
  have e1 : wx [] (atF 1 day alg bits) = [atF 1 day alg bits] := rfl
  have hp : adS [atF 1 day alg bits] (atF 8 od alg bits) 1 = 1 := by
    simp [adS, hlt]
  have hd : akl [atF 1 day alg bits] (atF 8 od alg bits) = false := by
    simp [akl, hp, hlt]
  rw [e1, wx, hd, if_neg (by decide), abS, List.length_singleton, hp]
  rfl
theorem ajf (day : Int) (alg bits : Int) (x : QF) (keys : List Int) (need : Int) (ha : x.alg = alg) (hb : x.bits = bits) (hp : x.pur = 1) (he : x.ep = [97, 112, 112]) (hf : x.fr ≤ day) (ht : day < x.to) : xJ false (alg, bits) [[97, 112, 112]] day keys need x = xk x keys need := by
  have hw : ac6 false (alg, bits) x = (alg, bits) := rfl
  have hc : alW x (alg, bits) [97, 112, 112] day = true := by
    rw [alW, hp, he, ha, hb, decide_eq_true hf, decide_eq_true ht]; simp
  rw [xJ, hw]
  simp [hc]
def aa2 (alg bits : Int) : QF := ⟨alg, bits, 1, [97, 112, 112], 0, 100, []⟩
theorem alD {alg bits : Int} (hs : Qn alg bits > 0) : yY (aa2 alg bits) = true := by
  have na : Qx [97, 112, 112] = true := by decide +kernel
  simp only [yY, exA, exD, Xc, aa2, na]
  simp [hs]
theorem anp (alg bits : Int) (keys : List Int) : xk (aa2 alg bits) keys 1 = false := by
  rw [xk]; simp [aa2]
theorem alC {alg bits : Int} (hs : Qn alg bits > 0) : xk (UV (aa2 alg bits) 51) [51] 1 = true := by
  have hp : exP (UV (aa2 alg bits) 51) = exP (aa2 alg bits) := rfl
  have hf : Ud 51 0 [51] = 0 := by decide +kernel
  have hh : ajT (UV (aa2 alg bits) 51) [51] (51, Us (exP (aa2 alg bits)).pB) = true := by
    rw [ajT, hp]; simp [hf]
  rw [xk, ag7 (alD hs) rfl (by decide)]
  have hse : (UV (aa2 alg bits) 51).seals = [(51, Us (exP (aa2 alg bits)).pB)] := rfl
  rw [hse, List.countP_singleton, hh]; simp
def Uy := qd Proofs.Tryz.f44 [zhn 34]
def qj (Γ : Env) (f : Nat) : Prop := ∀ (x : QF) (hn : x.ep.length < 2 ^ 60), EvN Γ f [x.v] (V.int (yi x))
attribute [local go_sem] JY Yj in
theorem adg {Γ : Env} {f : Nat} (h : Has Γ.P f 98 Uy.1.1.ac Uy.1.2) (z0 : Wp Γ 77) (z1 : UN Γ 78) : qj Γ f := by
  intro x hn
  refine Qb h zsi zcl zcl fun C hC hm => ?_
  subst hC
  simp only [Uy, qd, DC.ac]
  have gV := (z0 x.alg x.bits).b
  have gN := (z1 x.ep hn).b
  have hlm : (x.seals.map Yj).length = x.seals.length := List.length_map _
  simp only [QF.v, QF.cells]
  have hA : exA x = (decide (Qn x.alg x.bits > 0) && (!decide (x.pur < 1) && (!decide (x.pur > 4) && Qx x.ep))) := rfl
  have hD : exD x = (!decide (x.fr < 0) && (!decide (x.fr ≥ x.to) && (!decide (x.to > 40001) && !decide ((x.seals.length : Int) > 8)))) := rfl
  rcases hA0 : exA x with _ | _
  · have hE : yi x = 26 := by rw [yi, yY, hA0]; rfl
    rw [hE]
    rw [hA0] at hA
    rcases a1 : decide (Qn x.alg x.bits > 0) with _ | _
    · (have zx := a1); exact zg
    rcases a2 : decide (x.pur < 1) with _ | _
    rotate_left
    · (have zx := And.intro a1 a2); exact zg
    rcases a3 : decide (x.pur > 4) with _ | _
    rotate_left
    · (have zx := And.intro a1 (And.intro a2 a3)); exact zg
    have a4 : Qx x.ep = false := by rw [a1, a2, a3] at hA; exact hA.symm
    (have zx := And.intro a1 (And.intro a2 (And.intro a3 a4))); exact zg
  rw [hA0] at hA
  have hA' := hA.symm
  simp only [Bool.and_eq_true, Bool.not_eq_true'] at hA'
  obtain ⟨a1, a2, a3, a4⟩ := hA'
  rcases hD0 : exD x with _ | _
  · have hE : yi x = 26 := by rw [yi, yY, hA0, hD0]; rfl
    rw [hE]
    rw [hD0] at hD
    rcases b1 : decide (x.fr < 0) with _ | _
    rotate_left
    · (have zx := And.intro a1 (And.intro a2 (And.intro a3 (And.intro a4 b1)))); exact zg
    rcases b2 : decide (x.fr ≥ x.to) with _ | _
    rotate_left
    · (have zx := And.intro a1 (And.intro a2 (And.intro a3 (And.intro a4 (And.intro b1 b2))))); exact zg
    rcases b3 : decide (x.to > 40001) with _ | _
    rotate_left
    · (have zx := And.intro a1 (And.intro a2 (And.intro a3 (And.intro a4 (And.intro b1 (And.intro b2 b3)))))); exact zg
    have b4 : decide ((x.seals.length : Int) > 8) = true := by
      rw [b1, b2, b3] at hD
      simpa using hD.symm
    (have zx := And.intro a1 (And.intro a2 (And.intro a3 (And.intro a4 (And.intro b1 (And.intro b2 (And.intro b3 (And.intro b4 hlm)))))))); exact zg
  rw [hD0] at hD
  have hD' := hD.symm
  simp only [Bool.and_eq_true, Bool.not_eq_true'] at hD'
  obtain ⟨b1, b2, b3, b4⟩ := hD'
  have hE : yi x = if Xc none x.seals = true then 0 else 26 := by rw [yi, yY, hA0, hD0]; rfl
  rw [hE]
  have hl8 : x.seals.length ≤ 8 := by
    have := of_decide_eq_false b4; omega
  (have zx := And.intro a1 (And.intro a2 (And.intro a3 (And.intro a4 (And.intro b1 (And.intro b2 (And.intro b3 (And.intro b4 hlm)))))))); refine zgo ?_; repeat' first | exact zt | apply zan | intro hc
  clear gV gN hA hD hA0 hD0 hE
  generalize x.seals = l at *
  refine Qp (ι := Nat) (fun k => k ≤ l.length ∧ Xc (xi l k) (l.drop k) = Xc none l) (fun k => JY [(1, .ptr 0 0), (3, V.int k)] [(0, .box true [V.int x.alg, V.int x.bits, V.int x.pur, V.str x.ep, V.int x.fr, V.int x.to, .sl 2 (l.map Yj)])] 1) (fun k => l.length - k) 0 ⟨Nat.zero_le _, rfl⟩ (Qd []) (Qh [] (by simp only [go_sem, zwl, Nat.reduceAdd, Nat.reduceMul, Nat.reduceEqDiff, Nat.reduceLT, Int.reduceToNat, reduceIte, reduceCtorEq, hlm] <;> exact zcc) zwa (by simp [Qd]) (by simp) (by omega)) fun k hk K' hL => ?_
  obtain ⟨hk, hinv⟩ := hk
  rcases hd : l.drop k with _ | ⟨y, r⟩
  · have hkl := QB hd
    have e1 : decide ((k : Int) < ((l.length : Nat) : Int)) = false := by simp; omega
    rw [hd] at hinv
    have hs : Xc none l = true := by rw [← hinv]; cases xi l k <;> rfl
    rw [if_pos hs]
    clear hL
    (have zx := And.intro hlm e1); exact zg
  · obtain ⟨hk', hget, hr⟩ := Qo hd
    have hw := Qg (k := k) (by omega)
    have e1 : decide ((k : Int) < ((l.length : Nat) : Int)) = true := by simp; omega
    rw [hd] at hinv
    have hgo : Xc (xi l k) (y :: r) = (agX y.1 && (!decide (y.2 < 0) && (!decide (y.2 ≥ 4294967296) && ((match xi l k with | none => true | some q => !decide (q ≥ y.1)) && Xc (some y.1) r)))) := rfl
    have hnx : xi l (k + 1) = some y.1 := by rw [xi, hget]; rfl
    obtain ⟨yk, ys⟩ := y
    simp only at hgo hnx
    rw [hinv] at hgo
    rcases c0 : decide (yk < 0) with _ | _
    rotate_left
    · have hk0 : agX yk = false := by rw [agX]; simp at c0 ⊢; omega
      rw [hgo, hk0, if_neg (by simp)]
      clear hL
      (have zx := And.intro hlm (And.intro e1 (And.intro hget c0))); exact zg
    rcases c1 : decide (yk > 2147483648) with _ | _
    rotate_left
    · have hk0 : agX yk = false := by rw [agX]; simp at c1 ⊢; omega
      rw [hgo, hk0, if_neg (by simp)]
      clear hL
      (have zx := And.intro hlm (And.intro e1 (And.intro hget (And.intro c0 c1)))); exact zg
    have hk0 : agX yk = true := by rw [agX]; simp at c0 c1 ⊢; omega
    rcases c2 : decide (ys < 0) with _ | _
    rotate_left
    · rw [hgo, c2, if_neg (by simp)]
      clear hL
      (have zx := And.intro hlm (And.intro e1 (And.intro hget (And.intro c0 (And.intro c1 c2))))); exact zg
    rcases c3 : decide (ys ≥ 4294967296) with _ | _
    rotate_left
    · rw [hgo, c2, c3, if_neg (by simp)]
      clear hL
      (have zx := And.intro hlm (And.intro e1 (And.intro hget (And.intro c0 (And.intro c1 (And.intro c2 c3)))))); exact zg
    rw [hk0, c2, c3] at hgo
    simp only [Bool.not_false, Bool.true_and] at hgo
    rcases k with _ | j
    · have hgo' : Xc none l = Xc (some yk) r := hgo
      have e2 : decide ((((0 : Nat) : Nat) : Int) > 0) = false := rfl
      (have zx := And.intro hlm (And.intro e1 (And.intro hw (And.intro hget (And.intro c0 (And.intro c1 (And.intro c2 (And.intro c3 e2)))))))); refine zgo ?_; repeat' first | exact zt | apply zan | intro hc
      all_goals first | exact hL _ 1 (Qd []) ⟨hk', by rw [hr, hnx]; exact hgo'.symm⟩ (by omega) (zwg []) | trace_state
    obtain ⟨⟨pk, ps⟩, hpg⟩ : ∃ q, l[j]? = some q := ⟨_, List.getElem?_eq_getElem (by omega)⟩
    have hpv : xi l (j + 1) = some pk := by rw [xi, hpg]; rfl
    have e2 : decide (((j + 1 : Nat) : Int) > 0) = true := by simp
    have hw2 : IntKind.i64.wrap (((j + 1 : Nat) : Int) - 1) = (j : Int) := by rw [show ((j + 1 : Nat) : Int) - 1 = (j : Int) by omega]; exact QE (by omega) (by omega)
    rw [hpv] at hgo
    simp only at hgo
    rcases c4 : decide (pk ≥ yk) with _ | _
    rotate_left
    · rw [hgo, c4, if_neg (by simp)]
      clear hL
      (have zx := And.intro hlm (And.intro e1 (And.intro hw2 (And.intro hget (And.intro hpg (And.intro c0 (And.intro c1 (And.intro c2 (And.intro c3 (And.intro c4 e2)))))))))); exact zg
    rw [c4] at hgo
    simp only [Bool.not_false, Bool.true_and] at hgo
    (have zx := And.intro hlm (And.intro e1 (And.intro hw (And.intro hw2 (And.intro hget (And.intro hpg (And.intro c0 (And.intro c1 (And.intro c2 (And.intro c3 (And.intro c4 e2))))))))))); refine zgo ?_; repeat' first | exact zt | apply zan | intro hc
    all_goals first | exact hL _ (j + 1 + 1) (Qd []) ⟨hk', by rw [hr, hnx]; exact hgo.symm⟩ (by omega) (zwg []) | trace_state
def Uz := qd Proofs.Tryz.f25 [zhn 24]
def qk (Γ : Env) (f : Nat) : Prop := ∀ (x : QF) (hz : x.Sz), EvC Γ f [x.v] (exV x)
theorem adh {Γ : Env} {f : Nat} (h : Has Γ.P f 39 Uz.1.1.ac Uz.1.2) (z0 : qj Γ 44) (z1 : yN Γ 45) (z2 : jD Γ 46) (z3 : jE Γ 48) (z4 : Kj Γ 47) : qk Γ f := by
  intro x hz
  refine Qm h zsi (ad6 _) fun C hC hm => ?_
  subst hC
  simp only [Uz, qd, DC.ac]
  have gC := (z0 x hz.e).b
  rw [yi] at gC
  rw [exV]
  by_cases hok : yY x = true
  rotate_left
  · rw [if_neg hok]
    rw [if_neg hok] at gC
    simp only [QF.v, QF.cells] at *
    exact zg
  rw [if_pos hok]
  rw [if_pos hok] at gC
  obtain ⟨o1, o2, o3, o4, o5, o6, o7⟩ := aeI hok
  have g1 := (z1 x.alg hz.a.1 hz.a.2).b
  have g2 := (z1 x.bits hz.b.1 hz.b.2).b
  have g3 := (z1 x.pur (by omega) (by omega)).b
  have g4 := (z2 x.ep (by omega)).b
  have g5 := (z1 x.fr (by omega) (by omega)).b
  have g6 := (z1 x.to (by omega) (by omega)).b
  have s1 := ahK o1
  have s2 : xh [WC x.alg, WC x.bits, WC x.pur, aek x.ep, WC x.fr, WC x.to] < 2 ^ 33 := by
    rw [exP, ajj, Ql.siz] at s1; omega
  have g7 := z3 [WC x.alg, WC x.bits, WC x.pur, aek x.ep, WC x.fr, WC x.to] s2
  have g8 := (z4 (exP x) (by omega)).b
  rw [alG o1] at g8
  have hv : exP x = ajj [WC x.alg, WC x.bits, WC x.pur, aek x.ep, WC x.fr, WC x.to] := rfl
  generalize (exP x).pB = p at *
  rw [hv] at g8
  clear s1 s2 hv
  simp only [List.map_cons, List.map_nil] at g7
  generalize (ajj [WC x.alg, WC x.bits, WC x.pur, aek x.ep, WC x.fr, WC x.to]) = res at *
  generalize WC x.alg = a1 at *
  generalize WC x.bits = a2 at *
  generalize WC x.pur = a3 at *
  generalize WC x.fr = a4 at *
  generalize WC x.to = a5 at *
  generalize aek x.ep = a6 at *
  obtain ⟨_, _, _, _⟩ := res; obtain ⟨_, _, _, _⟩ := a1; obtain ⟨_, _, _, _⟩ := a2; obtain ⟨_, _, _, _⟩ := a3; obtain ⟨_, _, _, _⟩ := a4; obtain ⟨_, _, _, _⟩ := a5; obtain ⟨_, _, _, _⟩ := a6
  simp only [Ql.v_eq] at *
  simp only [QF.v, QF.cells] at *
  repeat' (first | (refine zsk ?_; intro K' hK) | (refine zrg ?_; intro K' hK) | refine zsp ?_ | (refine zsc ?_ ?_ <;> intro hc <;> first | exact znh | try simp only [znz] at hc) | simp (maxSteps := 1000000) only [go_sem, Nat.reduceAdd, Nat.reduceMul, Nat.reduceEqDiff, Nat.reduceLeDiff, Nat.reduceLT, Nat.reduceSub, Int.reduceEq, Int.reduceBEq, Int.reduceLT, Int.reduceLE, Int.reduceAdd, Int.reduceToNat, reduceIte, reduceCtorEq, V.shutOk0, XC, V.shut0, V2, ntL, not_false_eq_true, List.getElem?_cons_zero, List.getElem?_cons_succ] | (refine hK _ ?_; clear hK K') | apply zan | (apply agI; (focus first | exact g7)) | (apply ae6; (focus first | exact g7); (focus first | exact rfl | decide)) | ((first | apply Qv | apply QQ); (focus first | exact gC | exact g1 | exact g2 | exact g3 | exact g4 | exact g5 | exact g6 | exact g8 | exact (z0 _ zsd).b | exact (z1 _ zsd zsd).b | exact (z2 _ zsd).b | exact (z3 _ zsd).b | exact (z4 _ zsd).b)) | exact zsq | fail)
  all_goals first | exact zr | trace_state
def KG := qd Proofs.Tryz.f16 [zhn 12]
def UM (Γ : Env) (f : Nat) : Prop := ∀ (x : QF) (key : Int) (hz : x.Sz) (hok : yY x = true) (hs : x.seals = []) (hk : 0 ≤ key ∧ key ≤ 2147483648), EvC Γ f [x.v, V.int key] (.tup [(UV x key).v, V.int 0])
theorem aeL {Γ : Env} {f : Nat} (h : Has Γ.P f 84 KG.1.1.ac KG.1.2) (z0 : qk Γ 25) (z1 : yK Γ 26) : UM Γ f := by
  intro x key hz hok hs hk
  refine Qm h zsi (by simp only [QF.v, QF.cells, V.closed, Qc, and_self]) fun C hC hm => ?_
  subst hC
  simp only [KG, qd, DC.ac]
  have gB := (z0 x hz).b
  obtain ⟨o1, o2, o3, o4, o5, o6, o7⟩ := aeI hok
  have hpl := aeH o1
  have gS := (z1 (exP x).pB (by omega)).b
  rw [exV, if_pos hok] at gB
  have hx : (UV x key).v = .agg [V.int x.alg, V.int x.bits, V.int x.pur, V.str x.ep, V.int x.fr, V.int x.to, .sl 2 [.agg [V.int key, V.int (Us (exP x).pB)]]] := rfl
  rw [hx]
  generalize Us (exP x).pB = sm at *
  generalize (exP x).pB = p at *
  have d1 : decide (key < 0) = false := decide_eq_false (by omega)
  have d2 : decide (key > 2147483648) = false := decide_eq_false (by omega)
  have e0 : ((0 : Int) != 0) = false := rfl
  simp only [QF.v, QF.cells, hs, List.map_nil] at *
  (have zx := And.intro d1 (And.intro d2 e0)); refine zgo ?_; repeat' first | exact zt | apply zan | intro hc
  refine anM ?_
  (have zx := And.intro d1 (And.intro d2 e0)); exact zg
def jm := qd Proofs.Tryz.f17 []
def KY (Γ : Env) (f : Nat) : Prop := ∀ (l : List Qa) (hl : l.length ≤ 400) (hz : ∀ x ∈ l, x.Sz) (hq : ∀ x ∈ l, Yg x = true), EvC Γ f [.sl 11 (l.map Qa.v)] (.sl 11 ((JN l).map Qa.v))
theorem agk {Γ : Env} {f : Nat} (h : Has Γ.P f 11 jm.1.1.ac jm.1.2) (z0 : jA Γ 27) : KY Γ f := by
  intro l hl hz hq
  refine Qm h zsi zcl fun C hC hm => ?_
  subst hC
  simp only [jm, qd, DC.ac]
  have gN := z0 l hl hz hq
  have htl : List.take (JN l).length ((JN l).map Qa.v) = (JN l).map Qa.v := List.take_of_length_le (by simp)
  have hml : ((JN l).map Qa.v).length = (JN l).length := List.length_map _
  generalize JN l = m at *
  repeat' (first | (refine zsk ?_; intro K' hK) | refine zsp ?_ | (refine zsc ?_ ?_ <;> intro hc <;> first | exact znh | try simp only [znz] at hc) | simp (maxSteps := 1000000) only [go_sem, Nat.reduceAdd, Nat.reduceMul, Nat.reduceEqDiff, Nat.reduceLeDiff, Nat.reduceLT, Nat.reduceSub, Int.reduceEq, Int.reduceBEq, Int.reduceLT, Int.reduceLE, Int.reduceAdd, Int.reduceToNat, reduceIte, reduceCtorEq, hml, htl] | (refine hK _ ?_; clear hK K') | apply zan | (apply aqw; (focus first | exact gN)) | exact zsq | fail)
  all_goals first | exact zr | (refine Qi _ rfl ?_; simp only [go_sem, Nat.reduceEqDiff, Nat.reduceAdd, reduceIte, reduceCtorEq, htl]; done) | trace_state
def aan (x : QF) : V := .agg [V.int x.alg, V.int x.bits, V.int x.pur, V.str x.ep, V.int x.fr, V.int x.to, if x.seals = [] then KC else .sl 2 (x.seals.map Yj)]
def obX (xs : List QF) : Ob := if xs = [] then .buf true 7 [] else .obuf true 7 (xs.map aan)
theorem ak6 (xs : List QF) (x : QF) : obX (xs ++ [x]) = .obuf true 7 (xs.map aan ++ [aan x]) := by rw [obX, if_neg (by simp)]; simp
theorem anr (x : QF) : (aan x).closed := by
  rw [aan]; split <;> simp only [V.closed, Qc, and_self]
theorem xO : ∀ l : List QF, Qc (l.map aan)
  | [] => trivial
  | x :: r => ⟨anr x, xO r⟩
theorem aiR (σ : Nat → Nat) (l : List QF) : US σ (l.map aan) = l.map aan := QP _ _ (xO l)
theorem alE (n : Nat) (l : List QF) : ltL n (l.map aan) := JA _ _ (xO l)
theorem alB : ∀ l : List QF, ntL (l.map QF.v)
  | [] => trivial
  | x :: r => ⟨by simp [QF.v], alB r⟩
theorem acA : ∀ l : List QF, Qc (l.map QF.v)
  | [] => trivial
  | x :: r => ⟨by simp only [QF.v, QF.cells, V.closed, Qc, and_self], acA r⟩
theorem agc {o : Nat → Option Ob} {br : List Nat} : ∀ l : List QF, Jh o br none (l.map aan) (l.map QF.v)
  | [] => trivial
  | x :: r => by
    refine ⟨?_, agc r⟩
    rw [aan]
    by_cases h : x.seals = []
    · rw [if_pos h]
      simp [QF.v, QF.cells, conv, Jh, h]
    · rw [if_neg h]
      simp [QF.v, QF.cells, conv, Jh]
theorem anq {o : Nat → Option Ob} {n : Nat} {br : List Nat} {l : List QF} (hb : n ∉ br) (h : o n = some (obX l)) : conv o br none (.hd n 0 l.length) (.sl 7 (l.map QF.v)) := by
  rw [ahV]
  rcases l with _ | ⟨x, r⟩
  · exact ⟨trivial, hb, .inl ⟨true, _, h, rfl⟩⟩
  · refine ⟨trivial, hb, .inr ⟨true, _, h, ?_, alB _, acA _⟩⟩
    rw [List.drop_zero, List.take_of_length_le (by simp)]
    exact agc _
theorem aov {l : List Int} {q q2 q3 q4 : Nat} {f : Qa} {mm : Int} (h1 : Kv l q = (f, q2)) (h2 : Qz l q2 2 = (0, q3)) (h3 : Qz l q3 16 = (mm, q4)) : UW l q = ({ f with kind := 2, alg := 0, bits := 0, text := [], num := 1 + mm }, q4) := by
  rw [UW, h1]; dsimp only; rw [h2]; dsimp only; rw [if_pos rfl, h3]
theorem aou {l : List Int} {q q2 q3 : Nat} {f : Qa} {c : Int} (h1 : Kv l q = (f, q2)) (h2 : Qz l q2 2 = (c, q3)) (hc : ¬ c = 0) : UW l q = (f, q3) := by
  rw [UW, h1]; dsimp only; rw [h2]; dsimp only; rw [if_neg hc]
theorem amC {l : List Int} {k qa qb qw qt qo : Nat} {c b t o : Int} {w : List UInt8} (h1 : Qz l k 5 = (c, qa)) (h2 : ofD l qa [1, 1, 2] = (b, qb)) (h3 : Ub l qb [[97], [98], [99]] = (w, qw)) (h4 : ofD l qw [100, 6] = (t, qt)) (h5 : Qz l qt 4 = (o, qo)) : xG l k = (if o = 3 then ⟨(Ks c).1, (Ks c).2, b, w, 0, t, []⟩ else UV ⟨(Ks c).1, (Ks c).2, b, w, 0, t, []⟩ 51, qo) := by
  have he : aiS l k = (⟨(Ks c).1, (Ks c).2, b, w, 0, t, []⟩, qt) := by
    rw [aiS, h1]; dsimp only; rw [h2]; dsimp only; rw [h3]; dsimp only; rw [h4]
  rw [xG, he]; dsimp only; rw [h5]
theorem ao8 {l : List Int} {k qa qb qw qt : Nat} {c b t : Int} {w : List UInt8} (h1 : Qz l k 5 = (c, qa)) (h2 : ofD l qa [1, 1, 2] = (b, qb)) (h3 : Ub l qb [[97], [98], [99]] = (w, qw)) (h4 : ofD l qw [100, 6] = (t, qt)) : (aiS l k).1 = ⟨(Ks c).1, (Ks c).2, b, w, 0, t, []⟩ := by
  rw [aiS, h1]; dsimp only; rw [h2]; dsimp only; rw [h3]; dsimp only; rw [h4]
def owC : List V := [.sl 1 [V.int 51, V.int 52], V.int 1]
def ag9 (l : List Int) (m : Nat) (x : List Qa × Nat) : St := JY [(0, .ptr 0 0), (4, .ptr 1 0), (5, .hd 2 0 x.1.length), (6, V.int m)] [(0, .box true (JI l x.2)), (1, .box true [.hd 3 0 0, V.int 0]), (2, .buf true 11 (x.1.map Qa.v)), (3, .buf true 1 [])] 4
def ab3 (l : List Int) (fs : List Qa) (m : Nat) (x : List QF × Nat) : St := JY [(0, .ptr 0 0), (4, .ptr 1 0), (5, .hd 2 0 fs.length), (8, .ptr 4 0), (9, .hd 5 0 x.1.length), (10, V.int m)] [(0, .box true (JI l x.2)), (1, .box true [.hd 3 0 0, V.int 0]), (2, .buf true 11 (fs.map Qa.v)), (3, .buf true 1 []), (4, .box true [.hd 6 0 2, V.int 1]), (5, obX x.1), (6, .buf true 1 [V.int 51, V.int 52])] 7
def KQ := qd Proofs.Tryz.f9 [⟨fun _ => false, [1, 3], .one 0 (.one 2 (.or 1 (.one 3 (.one 4 (.one 5 (.one 6 (.done))))) (.or 3 (.one 1 (.one 4 (.one 5 (.one 6 (.done))))) (.done))))⟩, ⟨fun y => !decide (y = 0), [7, 12, 15, 18], zoc 0 23⟩]
def UO (Γ : Env) (f : Nat) : Prop := ∀ (l : List Int) (k : Nat) (hl : l.length ≤ 400) (hk : k ≤ l.length), EvD Γ f [] (JI l k) (.tup [.sl 11 ((vZ l k).1.map Qa.v), .sl 7 ((vZ l k).2.1.map QF.v), .agg owC]) (JI l (vZ l k).2.2)
attribute [local go_sem] JI JY in
theorem aeU {Γ : Env} {f : Nat} (h : Has Γ.P f 80 KQ.1.1.ac KQ.1.2) (z0 : QW Γ 10) (z1 : Kk Γ 18) (z2 : Y3 Γ 13) (z3 : Xp Γ 19) (z4 : VL Γ 20) (z5 : UM Γ 16) (z6 : KY Γ 17) : UO Γ f := by
  intro l k hl hk
  refine Xw h zsi (by first | exact KF _ _ | simp only [V.closed, Qc, owC, and_self, and_true]) zc3 zc3 fun C hC hm => ?_
  subst hC
  simp only [KQ, qd, DC.ac]
  have n1 := z0 l k 9 hl hk
  have r1 := Qk (l := l) (k := k) (n := 9) (by omega) (by omega)
  have k1 := Jq (n := 9) hk
  simp only [vZ]
  generalize Qz l k 9 = x1 at *
  obtain ⟨a1, q1⟩ := x1
  simp only at n1 r1 k1 ⊢
  obtain ⟨n, rfl⟩ : ∃ n : Nat, a1 = n := ⟨a1.toNat, by omega⟩
  rw [Int.toNat_natCast]
  simp only [JI, List.map_cons, List.map_nil] at n1
  refine zgo ?_; repeat' first | exact zt | apply zan | intro hc
  refine Qp (ι := Nat) (fun j => j ≤ n) (fun j => ag9 l (n - j) (Y8 UW l j q1)) (fun j => n - j) 0 (Nat.zero_le _) (Qd [(1, 2001), (2, 3001), (3, 2002)]) (Qh [(1, 2001), (2, 3001), (3, 2002)] (by simp only [go_sem, zwl, Nat.reduceAdd, Nat.reduceMul, Nat.reduceEqDiff, Nat.reduceLT, Int.reduceToNat, reduceIte, reduceCtorEq, ag9, Y8, List.length_nil, Nat.sub_zero] <;> exact zcc) (by simp only [go_sem, zwl, Nat.reduceAdd, Nat.reduceMul, Nat.reduceEqDiff, Nat.reduceLT, Int.reduceToNat, reduceIte, reduceCtorEq, ag9, Y8, JI, List.map_nil, List.map_cons] <;> exact zcc) (by simp [ag9, Qd]) (by simp [ag9]; omega) (by omega)) fun j hj K' hL => ?_
  have hlen := qF UW l j q1
  have hle := y0 (l := l) abL j k1
  rcases Nat.lt_or_ge j n with hlt | hge
  · have e1 : decide (((n - j : Nat) : Int) > 0) = true := by simp; omega
    have hw : IntKind.i64.wrap (((n - j : Nat) : Int) - 1) = ((n - (j + 1) : Nat) : Int) := by rw [QE (by omega) (by omega)]; omega
    have hsn := yZ UW l j q1
    have nF := z1 l (Y8 UW l j q1).2 hl hle
    have kF := aiO (l := l) hle
    have nC := z0 l (Kv l (Y8 UW l j q1).2).2 2 hl kF
    have kC := Jq (n := 2) kF
    have nM := z0 l (Qz l (Kv l (Y8 UW l j q1).2).2 2).2 16 hl kC
    have rM := Qk (l := l) (k := (Qz l (Kv l (Y8 UW l j q1).2).2 2).2) (n := 16) (by omega) (by omega)
    simp only [ag9]
    generalize Y8 UW l j q1 = x at *
    obtain ⟨out, q⟩ := x
    simp only at hlen hle hsn nF nC nM kF kC rM ⊢
    rcases hy : Kv l q with ⟨f, q2⟩
    rw [hy] at nF nC nM kF kC rM
    simp only at nF nC nM kF kC rM
    rcases hz : Qz l q2 2 with ⟨c, q3⟩
    rw [hz] at nC nM kC rM
    simp only at nC nM kC rM
    rcases hmm : Qz l q3 16 with ⟨mm, q4⟩
    rw [hmm] at nM rM
    simp only at nM rM
    simp only [Qa.v, Qa.cells, JI, List.map_cons, List.map_nil] at nF nC nM
    have hol : (out.map Qa.v).length = out.length := List.length_map _
    have htl : List.take out.length (out.map Qa.v) = out.map Qa.v := List.take_of_length_le (by simp)
    have hwm : IntKind.i64.wrap (1 + mm) = 1 + mm := QE (by omega) (by omega)
    rcases hc : (c == 0) with _ | _
    · have hc0 : ¬ c = 0 := by simpa using hc
      rw [aou hy hz hc0] at hsn
      (have zx := And.intro e1 (And.intro hw (And.intro hol (And.intro htl hc)))); refine zgo ?_; repeat' first | exact zt | apply zan | intro hc
      all_goals first | exact hL _ (j + 1) (Qd [(2, 12004)]) (by omega) (by omega) (Qh [(2, 12004)] (by simp only [go_sem, zwl, Nat.reduceAdd, Nat.reduceMul, Nat.reduceEqDiff, Nat.reduceLT, Int.reduceToNat, reduceIte, reduceCtorEq, ag9, hsn, List.length_append, List.length_cons, List.length_nil] <;> exact zcc) (by simp only [go_sem, zwl, Nat.reduceAdd, Nat.reduceMul, Nat.reduceEqDiff, Nat.reduceLT, Int.reduceToNat, reduceIte, reduceCtorEq, ag9, hsn, JI, List.map_append, List.map_cons, List.map_nil, Qa.v, Qa.cells] <;> exact zcc) (by simp [ag9, Qd]) (by simp [ag9]; omega) (by omega)) | trace_state
    · have hc0 : c = 0 := by simpa using hc
      rw [aov hy (hc0 ▸ hz) hmm] at hsn
      (have zx := And.intro e1 (And.intro hw (And.intro hol (And.intro htl (And.intro hc hwm))))); refine zgo ?_; repeat' first | exact zt | apply zan | intro hc
      all_goals first | exact hL _ (j + 1) (Qd [(2, 24004)]) (by omega) (by omega) (Qh [(2, 24004)] (by simp only [go_sem, zwl, Nat.reduceAdd, Nat.reduceMul, Nat.reduceEqDiff, Nat.reduceLT, Int.reduceToNat, reduceIte, reduceCtorEq, ag9, hsn, List.length_append, List.length_cons, List.length_nil] <;> exact zcc) (by simp only [go_sem, zwl, Nat.reduceAdd, Nat.reduceMul, Nat.reduceEqDiff, Nat.reduceLT, Int.reduceToNat, reduceIte, reduceCtorEq, ag9, hsn, JI, List.map_append, List.map_cons, List.map_nil, Qa.v, Qa.cells] <;> exact zcc) (by simp [ag9, Qd]) (by simp [ag9]; omega) (by omega)) | trace_state
  obtain rfl : j = n := by omega
  have e1 : decide (((j - j : Nat) : Int) > 0) = false := by simp
  clear hL
  have fok := yw (P := fun x => Yg x = true ∧ x.Sz) (l := l) abL ail j k1
  have n2 := z0 l (Y8 UW l j q1).2 3 hl hle
  have r2 := Qk (l := l) (k := (Y8 UW l j q1).2) (n := 3) (by omega) (by omega)
  have k2 := Jq (n := 3) hle
  simp only [ag9]
  generalize Y8 UW l j q1 = fx at *
  obtain ⟨fs, qf⟩ := fx
  simp only at hlen hle fok n2 r2 k2 ⊢
  generalize Qz l qf 3 = x2 at *
  obtain ⟨a2, q2⟩ := x2
  simp only at n2 r2 k2 ⊢
  obtain ⟨m, rfl⟩ : ∃ m : Nat, a2 = m := ⟨a2.toNat, by omega⟩
  rw [Int.toNat_natCast]
  have gN := (z6 fs (by omega) (fun x hx => (fok x hx).2) (fun x hx => (fok x hx).1))
  simp only [JI, List.map_cons, List.map_nil] at n2
  (have zx := e1); refine zgo ?_; repeat' first | exact zt | apply zan | intro hc
  have ob0 : obX [] = .buf true 7 [] := rfl
  refine Qp (ι := Nat) (fun j => j ≤ m) (fun j => ab3 l fs (m - j) (Y8 xG l j q2)) (fun j => m - j) 0 (Nat.zero_le _) (Qd [(4, 4004), (5, 6004), (6, 2004)]) (Qh [(4, 4004), (5, 6004), (6, 2004)] (by simp only [go_sem, zwl, Nat.reduceAdd, Nat.reduceMul, Nat.reduceEqDiff, Nat.reduceLT, Int.reduceToNat, reduceIte, reduceCtorEq, ab3, Y8, List.length_nil, Nat.sub_zero] <;> exact zcc) (by simp only [go_sem, zwl, Nat.reduceAdd, Nat.reduceMul, Nat.reduceEqDiff, Nat.reduceLT, Int.reduceToNat, reduceIte, reduceCtorEq, ab3, Y8, JI, ob0, List.map_nil, List.map_cons] <;> exact zcc) (by simp [ab3, Qd]) (by simp [ab3]; omega) (by omega)) fun j2 hj2 K' hL => ?_
  have xlen := qF xG l j2 q2
  have xle := y0 (l := l) aeo j2 k2
  rcases Nat.lt_or_ge j2 m with hlt2 | hge2
  · have e2 : decide (((m - j2 : Nat) : Int) > 0) = true := by simp; omega
    have hw : IntKind.i64.wrap (((m - j2 : Nat) : Int) - 1) = ((m - (j2 + 1) : Nat) : Int) := by rw [QE (by omega) (by omega)]; omega
    have hsn := yZ xG l j2 q2
    have hxz : (Y8 xG l j2 q2).1.length ≤ 2 := by omega
    simp only [ab3]
    generalize Y8 xG l j2 q2 = x at *
    obtain ⟨xs, q⟩ := x
    simp only at xlen xle hsn hxz ⊢
    have nA := z0 l q 5 hl xle
    have rA := Qk (l := l) (k := q) (n := 5) (by omega) (by omega)
    have kA := Jq (n := 5) xle
    rcases hA : Qz l q 5 with ⟨c, qa⟩
    rw [hA] at nA rA kA
    have nB := z2 l qa [1, 1, 2] hl kA (by decide) (by decide)
    have kB := j9 (xs := [1, 1, 2]) kA
    rcases hB : ofD l qa [1, 1, 2] with ⟨b, qb⟩
    rw [hB] at nB kB
    have nW := z3 l qb [[97], [98], [99]] hl kB (by decide) (by decide)
    have kW := qR (xs := [[97], [98], [99]]) kB
    rcases hW : Ub l qb [[97], [98], [99]] with ⟨w, qw⟩
    rw [hW] at nW kW
    have nT := z2 l qw [100, 6] hl kW (by decide) (by decide)
    have kT := j9 (xs := [100, 6]) kW
    rcases hT : ofD l qw [100, 6] with ⟨t, qt⟩
    rw [hT] at nT kT
    have nO := z4 l qt 4 hl kT (by omega) (by omega)
    rcases hO : Qz l qt 4 with ⟨o, qo⟩
    rw [hO] at nO
    obtain ⟨xo, xz, xse⟩ := alF (l := l) q
    rw [ao8 hA hB hW hT] at xo xz xse
    rw [amC hA hB hW hT hO] at hsn
    simp only at nA rA kA nB kB nW kW nT kT nO hsn
    have gS := ((z5 ⟨(Ks c).1, (Ks c).2, b, w, 0, t, []⟩ 51 xz xo rfl (by decide)).b.le2 (x' := .agg [V.int (Ks c).1, V.int (Ks c).2, V.int b, V.str w, V.int 0, V.int t, KC]) (LeV.agg rfl fun j hj hj' => by
      match j, hj with
      | 0, _ | 1, _ | 2, _ | 3, _ | 4, _ | 5, _ => exact LeV.refl _
      | 6, _ => exact LeV.nil 2) (LeV.refl _))
    have hg5 := amu rA
    have e43 : (4 : Int) - 1 = 3 := rfl
    rw [e43] at nO
    simp only [JI, List.map_cons, List.map_nil] at nA nB nW nT nO
    have hR : ∀ y : QF, y.seals = [] → aan y = .agg [V.int y.alg, V.int y.bits, V.int y.pur, V.str y.ep, V.int y.fr, V.int y.to, KC] := fun y hy => by rw [aan, if_pos hy]
    have hR2 : aan (UV ⟨(Ks c).1, (Ks c).2, b, w, 0, t, []⟩ 51) = (UV ⟨(Ks c).1, (Ks c).2, b, w, 0, t, []⟩ 51).v := by
      rw [aan, if_neg (by simp [UV])]; rfl
    have hR1 : aan ⟨(Ks c).1, (Ks c).2, b, w, 0, t, []⟩ = .agg [V.int (Ks c).1, V.int (Ks c).2, V.int b, V.str w, V.int 0, V.int t, KC] := hR _ rfl
    have hsv : (UV ⟨(Ks c).1, (Ks c).2, b, w, 0, t, []⟩ 51).v = .agg [V.int (Ks c).1, V.int (Ks c).2, V.int b, V.str w, V.int 0, V.int t, .sl 2 [.agg [V.int 51, V.int (Us (exP ⟨(Ks c).1, (Ks c).2, b, w, 0, t, []⟩).pB)]]] := rfl
    rw [hsv] at gS hR2
    generalize Us (exP ⟨(Ks c).1, (Ks c).2, b, w, 0, t, []⟩).pB = sm at *
    generalize UV ⟨(Ks c).1, (Ks c).2, b, w, 0, t, []⟩ 51 = se at *
    generalize (⟨(Ks c).1, (Ks c).2, b, w, 0, t, []⟩ : QF) = ue at *
    generalize (Ks c).1 = u1 at *
    generalize (Ks c).2 = u2 at *
    have hnn := fun s' => hL s' (j2 + 1)
    clear hL
    have hol : (xs.map aan).length = xs.length := List.length_map _
    have htl : List.take xs.length (xs.map aan) = xs.map aan := List.take_of_length_le (by simp)
    have hob : obX (xs ++ [ue]) = .obuf true 7 (xs.map aan ++ [aan ue]) := ak6 _ _
    have hob2 : obX (xs ++ [se]) = .obuf true 7 (xs.map aan ++ [aan se]) := ak6 _ _
    have hoc : obX (xs ++ [ue]) = .obuf true 7 ((xs ++ [ue]).map aan) := by rw [obX, if_neg (by simp)]
    have hoc2 : obX (xs ++ [se]) = .obuf true 7 ((xs ++ [se]).map aan) := by rw [obX, if_neg (by simp)]
    have r1 := fun σ => aiR σ (xs ++ [ue])
    have r2 := fun σ => aiR σ (xs ++ [se])
    have r3 := alE 7 (xs ++ [ue])
    have r4 := alE 7 (xs ++ [se])
    simp only [List.map_append, List.map_cons, List.map_nil, hR1, hR2] at r1 r2 r3 r4
    have q1 : (xs.length + 1) * 7 ≤ 2 ^ 40 := by omega
    have q2 : xs.length + 1 ≤ 2 ^ 40 := by omega
    rcases hc : (o == 3) with _ | _
    · have hc0 : ¬ o = 3 := by simpa using hc
      rw [if_neg hc0] at hsn
      rcases xs with _ | ⟨x0, xr⟩
      · simp only [List.nil_append, List.map_nil, List.length_nil] at *
        (have zx := And.intro e2 (And.intro hw (And.intro hg5 (And.intro hc ob0)))); refine zgo ?_; repeat' first | exact zt | apply zan | intro hc
        all_goals first | exact hnn _ (Qd [(5, 37007)]) (by omega) (by omega) (Qh [(5, 37007)] (by simp only [go_sem, zwl, Nat.reduceAdd, Nat.reduceMul, Nat.reduceEqDiff, Nat.reduceLT, Int.reduceToNat, reduceIte, reduceCtorEq, ab3, hsn, List.length_cons, List.length_nil] <;> exact zcc) (by simp only [go_sem, zwl, Nat.reduceAdd, Nat.reduceMul, Nat.reduceEqDiff, Nat.reduceLT, Int.reduceToNat, reduceIte, reduceCtorEq, ab3, hsn, JI, hob2, hR2] <;> exact zcc) (by simp [ab3, Qd]) (by simp [ab3]; omega) (by omega)) | trace_state
      · have obc : obX (x0 :: xr) = .obuf true 7 ((x0 :: xr).map aan) := by rw [obX, if_neg (by simp)]
        generalize x0 :: xr = xs at *
        (have zx := And.intro e2 (And.intro hw (And.intro hg5 (And.intro hc (And.intro obc (And.intro hol (And.intro htl (And.intro q1 q2)))))))); refine zgo ?_; repeat' first | exact zt | apply zan | intro hc
        all_goals first | exact hnn _ (Qd [(5, 37007)]) (by omega) (by omega) (Qh [(5, 37007)] (by simp only [go_sem, zwl, Nat.reduceAdd, Nat.reduceMul, Nat.reduceEqDiff, Nat.reduceLT, Int.reduceToNat, reduceIte, reduceCtorEq, ab3, hsn, List.length_append, List.length_cons, List.length_nil] <;> exact zcc) (by simp only [go_sem, zwl, Nat.reduceAdd, Nat.reduceMul, Nat.reduceEqDiff, Nat.reduceLT, Int.reduceToNat, reduceIte, reduceCtorEq, ab3, hsn, JI, hoc2, hR2, r2, r4, List.map_append, List.map_cons, List.map_nil] <;> exact zcc) (by simp [ab3, Qd]) (by simp [ab3]; omega) (by omega)) | trace_state
    · have hc0 : o = 3 := by simpa using hc
      rw [if_pos hc0] at hsn
      rcases xs with _ | ⟨x0, xr⟩
      · simp only [List.nil_append, List.map_nil, List.length_nil] at *
        (have zx := And.intro e2 (And.intro hw (And.intro hg5 (And.intro hc ob0)))); refine zgo ?_; repeat' first | exact zt | apply zan | intro hc
        all_goals first | exact hnn _ (Qd [(5, 31007)]) (by omega) (by omega) (Qh [(5, 31007)] (by simp only [go_sem, zwl, Nat.reduceAdd, Nat.reduceMul, Nat.reduceEqDiff, Nat.reduceLT, Int.reduceToNat, reduceIte, reduceCtorEq, ab3, hsn, List.length_cons, List.length_nil] <;> exact zcc) (by simp only [go_sem, zwl, Nat.reduceAdd, Nat.reduceMul, Nat.reduceEqDiff, Nat.reduceLT, Int.reduceToNat, reduceIte, reduceCtorEq, ab3, hsn, JI, hob, hR1] <;> exact zcc) (by simp [ab3, Qd]) (by simp [ab3]; omega) (by omega)) | trace_state
      · have obc : obX (x0 :: xr) = .obuf true 7 ((x0 :: xr).map aan) := by rw [obX, if_neg (by simp)]
        generalize x0 :: xr = xs at *
        (have zx := And.intro e2 (And.intro hw (And.intro hg5 (And.intro hc (And.intro obc (And.intro hol (And.intro htl (And.intro q1 q2)))))))); refine zgo ?_; repeat' first | exact zt | apply zan | intro hc
        all_goals first | exact hnn _ (Qd [(5, 31007)]) (by omega) (by omega) (Qh [(5, 31007)] (by simp only [go_sem, zwl, Nat.reduceAdd, Nat.reduceMul, Nat.reduceEqDiff, Nat.reduceLT, Int.reduceToNat, reduceIte, reduceCtorEq, ab3, hsn, List.length_append, List.length_cons, List.length_nil] <;> exact zcc) (by simp only [go_sem, zwl, Nat.reduceAdd, Nat.reduceMul, Nat.reduceEqDiff, Nat.reduceLT, Int.reduceToNat, reduceIte, reduceCtorEq, ab3, hsn, JI, hoc, hR1, r1, r3, List.map_append, List.map_cons, List.map_nil] <;> exact zcc) (by simp [ab3, Qd]) (by simp [ab3]; omega) (by omega)) | trace_state
  obtain rfl : j2 = m := by omega
  have e2 : decide (((j2 - j2 : Nat) : Int) > 0) = false := by simp
  clear hL
  simp only [ab3]
  generalize Y8 xG l j2 q2 = x at *
  obtain ⟨xs, qx⟩ := x
  have htf : List.take fs.length (fs.map Qa.v) = fs.map Qa.v := List.take_of_length_le (by simp)
  repeat' (first | (refine zsk ?_; intro K' hK) | (refine zrg ?_; intro K' hK) | refine zsp ?_ | (refine zsc ?_ ?_ <;> intro hc <;> first | exact znh | try simp only [znz] at hc) | simp (maxSteps := 1000000) only [go_sem, Nat.reduceAdd, Nat.reduceMul, Nat.reduceEqDiff, Nat.reduceLeDiff, Nat.reduceLT, Nat.reduceSub, Int.reduceEq, Int.reduceBEq, Int.reduceLT, Int.reduceLE, Int.reduceAdd, Int.reduceToNat, reduceIte, reduceCtorEq, JY, JI, e2, htf, V.shutOk0, XC, V.shut0, V2, ntL, not_false_eq_true] | (refine hK _ ?_; clear hK K') | apply zan | (apply agI; (focus first | exact gN)) | (apply ae6; (focus first | exact gN); (focus first | exact rfl | decide)) | (apply U8; (focus exact rfl); (focus first | exact (z2 _ _ _ zsd zsd zsd zsd) | exact (z3 _ _ _ zsd zsd zsd zsd) | exact (z4 _ _ _ zsd zsd zsd zsd)); (focus exact rfl); (focus exact rfl)) | (apply VF; (focus exact rfl); (focus exact zrd); (focus exact zrd); (focus first | exact (z2 _ _ _ zsd zsd zsd zsd) | exact (z3 _ _ _ zsd zsd zsd zsd) | exact (z4 _ _ _ zsd zsd zsd zsd)); (focus exact rfl); (focus exact rfl); (focus exact zrd)) | exact zsq | fail)
  all_goals
    refine vF _ rfl rfl (KF l qx) ⟨?_, ?_, ?_, trivial⟩
    · show conv _ _ _ (.sl 11 _) (.sl 11 _)
      simp [conv]
    · show conv _ _ _ (.hd 5 0 xs.length) _
      rw [← xlen] at *
      exact anq (by decide) rfl
    · show conv _ _ _ (.agg [.hd 6 0 2, V.int 1]) (.agg owC)
      simp only [owC]
      refine ⟨?_, ?_, trivial⟩
      · rw [ahV]
        exact ⟨trivial, by decide, .inl ⟨true, _, rfl, rfl⟩⟩
      · simp [conv, V.int]
end Av
end

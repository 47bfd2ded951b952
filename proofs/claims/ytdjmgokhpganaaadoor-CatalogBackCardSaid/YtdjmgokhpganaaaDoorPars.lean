/- Pars -/
import Derived.Test.YtdjmgokhpganaaaDoorRef
import Derived.Lib.IndexLaws
import Derived.Lib.AtoiAllCases
set_option linter.unusedVariables false
set_option linter.unusedSimpArgs false
section
set_option linter.unusedSimpArgs false
set_option linter.unusedVariables false
set_option maxRecDepth 10000
namespace Av
open Go
attribute [local irreducible] AWp runO runP runG awS awC awCv awQ awRd awCallR awCvR awQR awR awRdR awB okR plan ris

/-! Both parsers of uses answer alike: plain laws. -/
theorem idx_ref : ∀ s : List UInt8, (refCut s = none → Lib.index s [45] = -1 ∧ (45 : UInt8) ∉ s) ∧ (∀ a r, refCut s = some (a, r) → Lib.index s [45] = (a.length : Int) ∧ s = a ++ 45 :: r ∧ (45 : UInt8) ∉ a)
  | [] => by simp [refCut, Lib.index]
  | c :: l => by
    have ih := idx_ref l
    by_cases hc : c = 45
    · subst hc
      refine ⟨by simp [refCut], ?_⟩
      intro a r h
      simp only [refCut, if_true, Option.some.injEq, Prod.mk.injEq] at h
      obtain ⟨rfl, rfl⟩ := h
      simp [Lib.index, List.isPrefixOf]
    · have hne : ([45] : List UInt8).isPrefixOf (c :: l) = false := by simp [List.isPrefixOf]; exact fun h => hc h.symm
      constructor
      · intro h
        simp only [refCut, if_neg hc, Option.map_eq_none_iff] at h
        obtain ⟨h1, h2⟩ := ih.1 h
        refine ⟨by simp [Lib.index, hne, h1], ?_⟩
        simp only [List.mem_cons, not_or]
        exact ⟨fun h => hc h.symm, h2⟩
      · intro a r h
        simp only [refCut, if_neg hc, Option.map_eq_some_iff, Prod.mk.injEq] at h
        obtain ⟨⟨a', r'⟩, h1, rfl, rfl⟩ := h
        obtain ⟨h2, h3, h4⟩ := ih.2 a' r' h1
        refine ⟨?_, by rw [h3]; rfl, ?_⟩
        · simp only [Lib.index, hne, h2]
          have : ((a'.length : Int) == -1) = false := by simp
          simp [this]
        · simp only [List.mem_cons, not_or]
          exact ⟨fun h => hc h.symm, h4⟩

theorem cut_none {s : List UInt8} (h : refCut s = none) : Lib.cut s [45] = (s, [], false) := by
  simp [Lib.cut, ((idx_ref s).1 h).1]
theorem cut_some {s a r : List UInt8} (h : refCut s = some (a, r)) : Lib.cut s [45] = (a, r, true) := by
  obtain ⟨h1, h2, _⟩ := (idx_ref s).2 a r h
  rw [Lib.cut, h1, if_pos (by omega)]
  simp only [Int.toNat_natCast, List.length_singleton]
  rw [h2]
  simp

theorem ofNat_nat {k : Nat} (h : k < 10) : (UInt8.ofNat (48 + k)).toNat = 48 + k := by
  rw [UInt8.toNat_ofNat']; omega

theorem numL_app (d : UInt8) : ∀ (l : List UInt8) (acc : Int), numL acc (l ++ [d]) = (numL acc l).bind fun n => if d.toNat < 48 ∨ 57 < d.toNat then none else some (n * 10 + ((d.toNat : Int) - 48))
  | [], acc => by simp [numL]
  | c :: l, acc => by
    simp only [List.cons_append, numL]
    split
    · rfl
    · exact numL_app d l _
theorem numL_dec : ∀ (k u : Nat), u < k → numL 0 (Lib.decDigits u) = some (u : Int)
  | 0, u, h => by omega
  | k + 1, u, h => by
    rw [Lib.decDigits]
    split
    · rename_i hu
      simp only [numL, ofNat_nat hu]
      rw [if_neg (by omega)]
      congr 1; omega
    · rename_i hu
      rw [numL_app, numL_dec k (u / 10) (by omega), Option.bind_some, ofNat_nat (by omega), if_neg (by omega)]
      congr 1; omega
theorem pu_app (d : UInt8) : ∀ (l : List UInt8) (acc n : Nat), Lib.parseUint10 acc l = .ok n → 48 ≤ d.toNat ∧ d.toNat ≤ 57 → n < 1844674407370955161 → Lib.parseUint10 acc (l ++ [d]) = .ok (n * 10 + (d.toNat - 48))
  | [], acc, n, h, hd, hn => by
    simp only [Lib.parseUint10, Lib.NumEnd.ok.injEq] at h
    subst h
    simp only [List.nil_append, Lib.parseUint10]
    rw [if_pos hd, if_neg (by omega), if_neg (by omega)]
  | c :: l, acc, n, h, hd, hn => by
    simp only [Lib.parseUint10] at h
    simp only [List.cons_append, Lib.parseUint10]
    split at h
    · rename_i h1
      rw [if_pos h1]
      split at h
      · cases h
      · rename_i h2
        rw [if_neg h2]
        split at h
        · cases h
        · rename_i h3
          rw [if_neg h3]
          exact pu_app d l _ n h hd hn
    · cases h
theorem pu_dec : ∀ (k u : Nat), u < k → u < 1000000000000000000 → Lib.parseUint10 0 (Lib.decDigits u) = .ok u
  | 0, u, h, _ => by omega
  | k + 1, u, h, hb => by
    rw [Lib.decDigits]
    split
    · rename_i hu
      have e := ofNat_nat hu
      simp only [Lib.parseUint10, e]
      rw [if_pos (by omega), if_neg (by omega), if_neg (by omega)]
      congr 1; omega
    · rename_i hu
      have e := ofNat_nat (k := u % 10) (by omega)
      rw [pu_app _ _ _ (u / 10) (pu_dec k (u / 10) (by omega) (by omega)) (by omega) (by omega), e]
      congr 1; omega
theorem dec_head : ∀ (k u : Nat), u < k → ∃ c r, Lib.decDigits u = c :: r ∧ 48 ≤ c.toNat ∧ c.toNat ≤ 57 ∧ (0 < u → c.toNat ≠ 48)
  | 0, u, h => by omega
  | k + 1, u, h => by
    rw [Lib.decDigits]
    split
    · rename_i hu
      exact ⟨_, _, rfl, by rw [ofNat_nat hu]; omega, by rw [ofNat_nat hu]; omega, fun h => by rw [ofNat_nat hu]; omega⟩
    · rename_i hu
      obtain ⟨c, r, h1, h2, h3, h4⟩ := dec_head k (u / 10) (by omega)
      exact ⟨c, r ++ [_], by rw [h1]; rfl, h2, h3, fun _ => h4 (by omega)⟩
theorem atoiV_itoa {n : Int} (h0 : 0 ≤ n) (h1 : n < 1000000000000000000) : atoiV (Lib.itoa n) = n := by
  have e : Lib.itoa n = Lib.decDigits n.toNat := by rw [Lib.itoa, if_neg (by omega)]
  obtain ⟨c, r, hc, h2, h3, _⟩ := dec_head (n.toNat + 1) n.toNat (by omega)
  have hp := pu_dec (n.toNat + 1) n.toNat (by omega) (by omega)
  have hm : Lib.parseMag (c :: r) = .ok n.toNat := by rw [Lib.parseMag, if_neg (by simp), ← hc]; exact hp
  have ha : Lib.atoiAll (c :: r) = .ok n := by
    rw [Lib.atoiAll_plain c r (by omega) (by omega), hm]
    simp only [Lib.signless]
    rw [if_neg (by omega)]
    congr 1; omega
  rw [atoiV, e, hc, ha]
theorem numL_mono : ∀ (l : List UInt8) (acc n : Int), 0 ≤ acc → numL acc l = some n → acc ≤ n
  | [], acc, n, _, h => by simp only [numL, Option.some.injEq] at h; omega
  | c :: l, acc, n, h0, h => by
    simp only [numL] at h
    split at h
    · cases h
    · have := numL_mono l _ n (by omega) h
      omega
theorem dec_num : ∀ (k : Nat) (l : List UInt8) (n : Int), l.length ≤ k → l ≠ [] → (1 < l.length → l[0]? ≠ some 48) → numL 0 l = some n → 0 ≤ n ∧ Lib.decDigits n.toNat = l := by
  intro k
  induction k with
  | zero => intro l n hk h; simp at hk; exact (h hk).elim
  | succ k ih =>
    intro l0 n hk h0 hz h
    obtain ⟨l, d, rfl⟩ : ∃ l d, l0 = l ++ [d] := ⟨l0.dropLast, l0.getLast h0, (List.dropLast_concat_getLast h0).symm⟩
    rw [numL_app] at h
    cases hl : numL 0 l with
    | none => rw [hl] at h; cases h
    | some m =>
      rw [hl, Option.bind_some] at h
      split at h
      · cases h
      · rename_i hd
        simp only [Option.some.injEq] at h
        have hdd : UInt8.ofNat (48 + (d.toNat - 48)) = d := by
          apply UInt8.toNat_inj.1
          rw [ofNat_nat (by omega)]; omega
        rcases l with _ | ⟨c, l⟩
        · simp only [numL, Option.some.injEq] at hl
          subst hl
          refine ⟨by omega, ?_⟩
          have e : n.toNat = d.toNat - 48 := by omega
          rw [e, Lib.decDigits, dif_pos (by omega), hdd]
          rfl
        · have hz' : c ≠ 48 := by
            intro hc
            exact hz (by simp) (by simp [hc])
          obtain ⟨h1, h2⟩ := ih (c :: l) m (by simp at hk ⊢; omega) (by simp) (fun _ => by simpa using hz') hl
          have hm : 1 ≤ m := by
            simp only [numL] at hl
            split at hl
            · cases hl
            · rename_i hc
              have := numL_mono l _ m (by omega) hl
              have hc' : c.toNat ≠ 48 := fun h => hz' (UInt8.toNat_inj.1 (by simpa using h))
              omega
          refine ⟨by omega, ?_⟩
          rw [Lib.decDigits, dif_neg (by omega)]
          have e1 : n.toNat / 10 = m.toNat := by omega
          have e2 : n.toNat % 10 = d.toNat - 48 := by omega
          rw [e1, e2, h2, hdd]
theorem numR_itoa {n : Int} (h0 : 0 ≤ n) (h1 : n ≤ 16384) : numR (Lib.itoa n) = (n, true) := by
  have e : Lib.itoa n = Lib.decDigits n.toNat := by rw [Lib.itoa, if_neg (by omega)]
  obtain ⟨c, r, hc, h2, h3, h4⟩ := dec_head (n.toNat + 1) n.toNat (by omega)
  have hn := numL_dec (n.toNat + 1) n.toNat (by omega)
  have hl : (Lib.decDigits n.toNat).length ≤ 15 := by
    have : ∀ (k u : Nat), u < 10 ^ (k + 1) → (Lib.decDigits u).length ≤ k + 1 := by
      intro k
      induction k with
      | zero => intro u hu; rw [Lib.decDigits, dif_pos (by omega)]; simp
      | succ k ih =>
        intro u hu
        rw [Lib.decDigits]
        split
        · simp
        · have := ih (u / 10) (by rw [Nat.pow_succ] at hu; omega)
          simp; omega
    have := this 5 n.toNat (by omega)
    omega
  rw [e, numR, if_neg, hn]
  · simp; omega
  · rw [hc] at hl ⊢
    rintro (h | h | ⟨h, h'⟩)
    · simp at h
    · omega
    · simp only [List.getElem?_cons_zero, Option.some.injEq] at h'
      subst h'
      by_cases h0' : n = 0
      · subst h0'
        rw [Lib.decDigits, dif_pos (by omega)] at hc
        simp only [List.cons.injEq] at hc
        rw [← hc.2] at h; simp at h
      · exact h4 (by omega) rfl
theorem itoa_numR {r : List UInt8} {n : Int} (h : numR r = (n, true)) : Lib.itoa n = r ∧ 0 ≤ n ∧ n < 1000000000000000 := by
  unfold numR at h
  split at h
  · simp at h
  · rename_i hb
    cases hn : numL 0 r with
    | none => rw [hn] at h; simp at h
    | some m =>
      rw [hn] at h
      simp only [Prod.mk.injEq, and_true] at h
      subst h
      obtain ⟨h1, h2⟩ := dec_num r.length r m (Nat.le_refl _) (fun h => hb (.inl h)) (fun h1 h2 => hb (.inr (.inr ⟨h1, h2⟩))) hn
      refine ⟨by rw [Lib.itoa, if_neg (by omega), h2], h1, ?_⟩
      have hl : r.length ≤ 15 := by omega
      have key : ∀ (l : List UInt8) (acc n : Int), 0 ≤ acc → numL acc l = some n → n < (acc + 1) * ((10 ^ l.length : Nat) : Int) := by
        intro l
        induction l with
        | nil => intro acc n h0 h; simp only [numL, Option.some.injEq] at h; simp; omega
        | cons c l ih =>
          intro acc n h0 h
          simp only [numL] at h
          split at h
          · cases h
          · have := ih _ n (by omega) h
            have e : ((10 ^ (c :: l).length : Nat) : Int) = 10 * ((10 ^ l.length : Nat) : Int) := by
              rw [List.length_cons, Nat.pow_succ]; omega
            rw [e]
            have h3 : (0 : Int) ≤ ((10 ^ l.length : Nat) : Int) := Int.natCast_nonneg _
            generalize ((10 ^ l.length : Nat) : Int) = P at *
            have h2 : acc * 10 + ((c.toNat : Int) - 48) + 1 ≤ (acc + 1) * 10 := by omega
            have h4 := Int.mul_le_mul_of_nonneg_right h2 h3
            rw [Int.mul_assoc] at h4
            exact Int.lt_of_lt_of_le this h4
      have h3 := key r 0 m (by omega) hn
      have h4 := pow_le hl
      simp only [Int.zero_add, Int.one_mul] at h3
      omega

theorem findR_get : ∀ (l : List CRow) (k : Nat) (s : List UInt8), 0 < findR s k l → ∃ j, findR s k l = ((k + j : Nat) : Int) ∧ ∃ r, l[j]? = some r ∧ r.name = s
  | [], k, s, h => by simp [findR] at h
  | r :: rs, k, s, h => by
    unfold findR at h ⊢
    split
    · rename_i hr
      exact ⟨0, by simp, r, rfl, hr.2⟩
    · rename_i hr
      rw [if_neg hr] at h
      obtain ⟨j, h1, r', h2, h3⟩ := findR_get rs (k + 1) s h
      exact ⟨j + 1, by rw [h1]; omega, r', by simpa using h2, h3⟩
theorem findR_name {s : List UInt8} (h : 1 ≤ findR s 0 rowsL) : findR s 0 rowsL ≤ 22 ∧ (crowAt (findR s 0 rowsL)).name = s := by
  obtain ⟨j, h1, r, h2, h3⟩ := findR_get rowsL 0 s (by omega)
  have hl : rowsL.length = 23 := rfl
  have hj : j < rowsL.length := by
    rcases Nat.lt_or_ge j rowsL.length with h | h
    · exact h
    · rw [List.getElem?_eq_none h] at h2; cases h2
  have hle : findR s 0 rowsL ≤ 22 := by omega
  refine ⟨hle, ?_⟩
  have := crowAt_get ⟨h, hle⟩
  rw [h1] at this
  simp only [Nat.zero_add, Int.toNat_natCast] at this
  rw [h1, Nat.zero_add]
  rw [h2] at this
  cases this
  exact h3
theorem name_no45 (a : Int) : (45 : UInt8) ∉ (crowAt a).name := by
  have h : ∀ r ∈ rowsL, (45 : UInt8) ∉ r.name := by decide
  rcases crow_cases a with h1 | h1
  · rw [h1]; simp [row0]
  · exact h _ h1

theorem parse_eq (s : List UInt8) : refParse s = parseS s := by
  cases hc : refCut s with
  | none =>
    have hcut := cut_none hc
    have hu : useP s = (findR s 0 rowsL, 0) := by rw [useP, hcut]; rfl
    rw [refParse, hc]
    simp only [useV, parseS, parseOk, hu]
    by_cases h0 : 0 < strengthS (findR s 0 rowsL) 0
    · have h1 := strength_in _ _ h0
      obtain ⟨_, h2⟩ := findR_name h1.1
      have ht : textS (findR s 0 rowsL) 0 = s := by rw [textS, if_pos h0, if_pos rfl, h2]
      rw [if_pos h0, if_pos (by simp [ht]; exact h0)]
    · rw [if_neg h0, if_neg (by simp; intro h; exact (h0 h).elim)]
  | some p =>
    obtain ⟨a, r⟩ := p
    have hcut := cut_some hc
    obtain ⟨_, hs, ha⟩ := (idx_ref s).2 a r hc
    have hu : useP s = (findR a 0 rowsL, atoiV r) := by rw [useP, hcut]
    rw [refParse, hc]
    simp only [parseS, parseOk, hu]
    by_cases hn : (numR r).2 = true ∧ 0 < (numR r).1
    · rw [if_pos hn]
      obtain ⟨n, hnr⟩ : ∃ n, numR r = (n, true) := ⟨(numR r).1, by rw [← hn.1]⟩
      rw [hnr] at hn ⊢
      obtain ⟨h1, h2, h3⟩ := itoa_numR hnr
      have hat : atoiV r = n := by rw [← h1]; exact atoiV_itoa h2 (by omega)
      rw [hat]
      simp only [useV]
      by_cases h0 : 0 < strengthS (findR a 0 rowsL) n
      · have h4 := strength_in _ _ h0
        obtain ⟨_, h5⟩ := findR_name h4.1
        have hn0 : n ≠ 0 := by have := hn.2; omega
        have ht : textS (findR a 0 rowsL) n = s := by rw [ref_text _ _ h0 hn0, h5, h1, hs]; simp
        rw [if_pos h0, if_pos (by simp [ht]; exact h0)]
      · rw [if_neg h0, if_neg (by simp; intro h; exact (h0 h).elim)]
    · rw [if_neg hn, if_neg]
      simp only [Bool.and_eq_true, decide_eq_true_eq, beq_iff_eq, not_and]
      intro h0 ht
      have hb := strength_bits _ _ h0
      by_cases hb0 : atoiV r = 0
      · rw [textS, if_pos h0, if_pos hb0] at ht
        have : (45 : UInt8) ∈ s := by rw [hs]; simp
        rw [← ht] at this
        exact name_no45 _ this
      · have h4 := strength_in _ _ h0
        obtain ⟨_, h5⟩ := findR_name h4.1
        rw [ref_text _ _ h0 hb0, h5, hs] at ht
        simp only [List.append_assoc, List.singleton_append, List.append_cancel_left_eq, List.cons.injEq, true_and] at ht
        have := numR_itoa (n := atoiV r) hb.1 hb.2
        rw [ht] at this
        rw [this] at hn
        exact hn ⟨rfl, by show 0 < atoiV r; omega⟩
end Av
end

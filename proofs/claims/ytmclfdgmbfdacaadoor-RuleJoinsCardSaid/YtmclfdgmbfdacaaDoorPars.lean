/- Pars -/
import Derived.Test.YtmclfdgmbfdacaaDoorRef
import Derived.Lib.IndexLaws
import Derived.Lib.AtoiAllCases
set_option linter.unusedVariables false
set_option linter.unusedSimpArgs false
section
set_option linter.unusedSimpArgs false
set_option linter.unusedVariables false
set_option maxRecDepth 10000
namespace Av
open Go
attribute [local irreducible] AWp runO runP runG awS awC awCv awQ awRd awCallR awCvR awQR awR awRdR awB okR plan ris
theorem ofNat_nat {k : Nat} (h : k < 10) : (UInt8.ofNat (48 + k)).toNat = 48 + k := by
  rw [UInt8.toNat_ofNat']; omega
theorem numL_app (d : UInt8) : ∀ (l : List UInt8) (acc : Int), numL acc (l ++ [d]) = (numL acc l).bind fun n => if d.toNat < 48 ∨ 57 < d.toNat then none else some (n * 10 + ((d.toNat : Int) - 48))
  | [], acc => by simp [numL]
  | c :: l, acc => by
    simp only [List.cons_append, numL]
    split
    · rfl
    · exact numL_app d l _
theorem numL_dec : ∀ (k u : Nat), u < k → numL 0 (Lib.decDigits u) = some (u : Int)
  | 0, u, h => by omega
  | k + 1, u, h => by
    rw [Lib.decDigits]
    split
    · rename_i hu
      simp only [numL, ofNat_nat hu]
      rw [if_neg (by omega)]
      congr 1; omega
    · rename_i hu
      rw [numL_app, numL_dec k (u / 10) (by omega), Option.bind_some, ofNat_nat (by omega), if_neg (by omega)]
      congr 1; omega
theorem pu_app (d : UInt8) : ∀ (l : List UInt8) (acc n : Nat), Lib.parseUint10 acc l = .ok n → 48 ≤ d.toNat ∧ d.toNat ≤ 57 → n < 1844674407370955161 → Lib.parseUint10 acc (l ++ [d]) = .ok (n * 10 + (d.toNat - 48))
  | [], acc, n, h, hd, hn => by
    simp only [Lib.parseUint10, Lib.NumEnd.ok.injEq] at h
    subst h
    simp only [List.nil_append, Lib.parseUint10]
    rw [if_pos hd, if_neg (by omega), if_neg (by omega)]
  | c :: l, acc, n, h, hd, hn => by
    simp only [Lib.parseUint10] at h
    simp only [List.cons_append, Lib.parseUint10]
    split at h
    · rename_i h1
      rw [if_pos h1]
      split at h
      · cases h
      · rename_i h2
        rw [if_neg h2]
        split at h
        · cases h
        · rename_i h3
          rw [if_neg h3]
          exact pu_app d l _ n h hd hn
    · cases h
theorem pu_dec : ∀ (k u : Nat), u < k → u < 1000000000000000000 → Lib.parseUint10 0 (Lib.decDigits u) = .ok u
  | 0, u, h, _ => by omega
  | k + 1, u, h, hb => by
    rw [Lib.decDigits]
    split
    · rename_i hu
      have e := ofNat_nat hu
      simp only [Lib.parseUint10, e]
      rw [if_pos (by omega), if_neg (by omega), if_neg (by omega)]
      congr 1; omega
    · rename_i hu
      have e := ofNat_nat (k := u % 10) (by omega)
      rw [pu_app _ _ _ (u / 10) (pu_dec k (u / 10) (by omega) (by omega)) (by omega) (by omega), e]
      congr 1; omega
theorem dec_head : ∀ (k u : Nat), u < k → ∃ c r, Lib.decDigits u = c :: r ∧ 48 ≤ c.toNat ∧ c.toNat ≤ 57 ∧ (0 < u → c.toNat ≠ 48)
  | 0, u, h => by omega
  | k + 1, u, h => by
    rw [Lib.decDigits]
    split
    · rename_i hu
      exact ⟨_, _, rfl, by rw [ofNat_nat hu]; omega, by rw [ofNat_nat hu]; omega, fun h => by rw [ofNat_nat hu]; omega⟩
    · rename_i hu
      obtain ⟨c, r, h1, h2, h3, h4⟩ := dec_head k (u / 10) (by omega)
      exact ⟨c, r ++ [_], by rw [h1]; rfl, h2, h3, fun _ => h4 (by omega)⟩
theorem atoiAll_itoa {n : Int} (h0 : 0 ≤ n) (h1 : n < 1000000000000000000) : Lib.atoiAll (Lib.itoa n) = .ok n := by
  have e : Lib.itoa n = Lib.decDigits n.toNat := by rw [Lib.itoa, if_neg (by omega)]
  obtain ⟨c, r, hc, h2, h3, _⟩ := dec_head (n.toNat + 1) n.toNat (by omega)
  have hp := pu_dec (n.toNat + 1) n.toNat (by omega) (by omega)
  have hm : Lib.parseMag (c :: r) = .ok n.toNat := by rw [Lib.parseMag, if_neg (by simp), ← hc]; exact hp
  have ha : Lib.atoiAll (c :: r) = .ok n := by
    rw [Lib.atoiAll_plain c r (by omega) (by omega), hm]
    simp only [Lib.signless]
    rw [if_neg (by omega)]
    congr 1; omega
  rw [e, hc, ha]
theorem atoiV_itoa {n : Int} (h0 : 0 ≤ n) (h1 : n < 1000000000000000000) : atoiV (Lib.itoa n) = n := by rw [atoiV, atoiAll_itoa h0 h1]
theorem numL_mono : ∀ (l : List UInt8) (acc n : Int), 0 ≤ acc → numL acc l = some n → acc ≤ n
  | [], acc, n, _, h => by simp only [numL, Option.some.injEq] at h; omega
  | c :: l, acc, n, h0, h => by
    simp only [numL] at h
    split at h
    · cases h
    · have := numL_mono l _ n (by omega) h
      omega
theorem dec_num : ∀ (k : Nat) (l : List UInt8) (n : Int), l.length ≤ k → l ≠ [] → (1 < l.length → l[0]? ≠ some 48) → numL 0 l = some n → 0 ≤ n ∧ Lib.decDigits n.toNat = l := by
  intro k
  induction k with
  | zero => intro l n hk h; simp at hk; exact (h hk).elim
  | succ k ih =>
    intro l0 n hk h0 hz h
    obtain ⟨l, d, rfl⟩ : ∃ l d, l0 = l ++ [d] := ⟨l0.dropLast, l0.getLast h0, (List.dropLast_concat_getLast h0).symm⟩
    rw [numL_app] at h
    cases hl : numL 0 l with
    | none => rw [hl] at h; cases h
    | some m =>
      rw [hl, Option.bind_some] at h
      split at h
      · cases h
      · rename_i hd
        simp only [Option.some.injEq] at h
        have hdd : UInt8.ofNat (48 + (d.toNat - 48)) = d := by
          apply UInt8.toNat_inj.1
          rw [ofNat_nat (by omega)]; omega
        rcases l with _ | ⟨c, l⟩
        · simp only [numL, Option.some.injEq] at hl
          subst hl
          refine ⟨by omega, ?_⟩
          have e : n.toNat = d.toNat - 48 := by omega
          rw [e, Lib.decDigits, dif_pos (by omega), hdd]
          rfl
        · have hz' : c ≠ 48 := by
            intro hc
            exact hz (by simp) (by simp [hc])
          obtain ⟨h1, h2⟩ := ih (c :: l) m (by simp at hk ⊢; omega) (by simp) (fun _ => by simpa using hz') hl
          have hm : 1 ≤ m := by
            simp only [numL] at hl
            split at hl
            · cases hl
            · rename_i hc
              have := numL_mono l _ m (by omega) hl
              have hc' : c.toNat ≠ 48 := fun h => hz' (UInt8.toNat_inj.1 (by simpa using h))
              omega
          refine ⟨by omega, ?_⟩
          rw [Lib.decDigits, dif_neg (by omega)]
          have e1 : n.toNat / 10 = m.toNat := by omega
          have e2 : n.toNat % 10 = d.toNat - 48 := by omega
          rw [e1, e2, h2, hdd]
theorem numR_itoa6 {n : Int} (h0 : 0 ≤ n) (h1 : n < 1000000) : numR (Lib.itoa n) = (n, true) := by
  have e : Lib.itoa n = Lib.decDigits n.toNat := by rw [Lib.itoa, if_neg (by omega)]
  obtain ⟨c, r, hc, h2, h3, h4⟩ := dec_head (n.toNat + 1) n.toNat (by omega)
  have hn := numL_dec (n.toNat + 1) n.toNat (by omega)
  have hl : (Lib.decDigits n.toNat).length ≤ 15 := by
    have : ∀ (k u : Nat), u < 10 ^ (k + 1) → (Lib.decDigits u).length ≤ k + 1 := by
      intro k
      induction k with
      | zero => intro u hu; rw [Lib.decDigits, dif_pos (by omega)]; simp
      | succ k ih =>
        intro u hu
        rw [Lib.decDigits]
        split
        · simp
        · have := ih (u / 10) (by rw [Nat.pow_succ] at hu; omega)
          simp; omega
    have := this 5 n.toNat (by omega)
    omega
  rw [e, numR, if_neg, hn]
  · simp; omega
  · rw [hc] at hl ⊢
    rintro (h | h | ⟨h, h'⟩)
    · simp at h
    · omega
    · simp only [List.getElem?_cons_zero, Option.some.injEq] at h'
      subst h'
      by_cases h0' : n = 0
      · subst h0'
        rw [Lib.decDigits, dif_pos (by omega)] at hc
        simp only [List.cons.injEq] at hc
        rw [← hc.2] at h; simp at h
      · exact h4 (by omega) rfl
theorem itoa_numR {r : List UInt8} {n : Int} (h : numR r = (n, true)) : Lib.itoa n = r ∧ 0 ≤ n ∧ n < 1000000000000000 := by
  unfold numR at h
  split at h
  · simp at h
  · rename_i hb
    cases hn : numL 0 r with
    | none => rw [hn] at h; simp at h
    | some m =>
      rw [hn] at h
      simp only [Prod.mk.injEq, and_true] at h
      subst h
      obtain ⟨h1, h2⟩ := dec_num r.length r m (Nat.le_refl _) (fun h => hb (.inl h)) (fun h1 h2 => hb (.inr (.inr ⟨h1, h2⟩))) hn
      refine ⟨by rw [Lib.itoa, if_neg (by omega), h2], h1, ?_⟩
      have hl : r.length ≤ 15 := by omega
      have key : ∀ (l : List UInt8) (acc n : Int), 0 ≤ acc → numL acc l = some n → n < (acc + 1) * ((10 ^ l.length : Nat) : Int) := by
        intro l
        induction l with
        | nil => intro acc n h0 h; simp only [numL, Option.some.injEq] at h; simp; omega
        | cons c l ih =>
          intro acc n h0 h
          simp only [numL] at h
          split at h
          · cases h
          · have := ih _ n (by omega) h
            have e : ((10 ^ (c :: l).length : Nat) : Int) = 10 * ((10 ^ l.length : Nat) : Int) := by
              rw [List.length_cons, Nat.pow_succ]; omega
            rw [e]
            have h3 : (0 : Int) ≤ ((10 ^ l.length : Nat) : Int) := Int.natCast_nonneg _
            generalize ((10 ^ l.length : Nat) : Int) = P at *
            have h2 : acc * 10 + ((c.toNat : Int) - 48) + 1 ≤ (acc + 1) * 10 := by omega
            have h4 := Int.mul_le_mul_of_nonneg_right h2 h3
            rw [Int.mul_assoc] at h4
            exact Int.lt_of_lt_of_le this h4
      have h3 := key r 0 m (by omega) hn
      have h4 := pow_le hl
      simp only [Int.zero_add, Int.one_mul] at h3
      omega
end Av
end

/- Pars -/
import Derived.Test.YtmclfdgmbfdacaaGreatDoorRef
import Derived.Lib.IndexLaws
import Derived.Lib.AtoiAllCases
set_option linter.unusedVariables false
set_option linter.unusedSimpArgs false
section
set_option linter.unusedSimpArgs false
set_option linter.unusedVariables false
set_option maxRecDepth 10000
namespace Av
open Go
attribute [local irreducible] AWp XV WG WJ awS awC VK awQ V4 Jq Xf VH awR Xk awB okR XT ris
theorem qK {k : Nat} (h : k < 10) : (UInt8.ofNat (48 + k)).toNat = 48 + k := by
  rw [UInt8.toNat_ofNat']; omega
theorem adR (d : UInt8) : ∀ (l : List UInt8) (acc : Int), aac acc (l ++ [d]) = (aac acc l).bind fun n => if d.toNat < 48 ∨ 57 < d.toNat then none else some (n * 10 + ((d.toNat : Int) - 48))
  | [], acc => by simp [aac]
  | c :: l, acc => by
    simp only [List.cons_append, aac]
    split
    · rfl
    · exact adR d l _
theorem ag6 (d : UInt8) : ∀ (l : List UInt8) (acc n : Nat), Lib.parseUint10 acc l = .ok n → 48 ≤ d.toNat ∧ d.toNat ≤ 57 → n < 1844674407370955161 → Lib.parseUint10 acc (l ++ [d]) = .ok (n * 10 + (d.toNat - 48))
  | [], acc, n, h, hd, hn => by
    simp only [Lib.parseUint10, Lib.NumEnd.ok.injEq] at h
    subst h
    simp only [List.nil_append, Lib.parseUint10]
    rw [if_pos hd, if_neg (by omega), if_neg (by omega)]
  | c :: l, acc, n, h, hd, hn => by
    simp only [Lib.parseUint10] at h
    simp only [List.cons_append, Lib.parseUint10]
    split at h
    · rename_i h1
      rw [if_pos h1]
      split at h
      · cases h
      · rename_i h2
        rw [if_neg h2]
        split at h
        · cases h
        · rename_i h3
          rw [if_neg h3]
          exact ag6 d l _ n h hd hn
    · cases h
theorem ag5 : ∀ (k u : Nat), u < k → u < 1000000000000000000 → Lib.parseUint10 0 (Lib.decDigits u) = .ok u
  | 0, u, h, _ => by omega
  | k + 1, u, h, hb => by
    rw [Lib.decDigits]
    split
    · rename_i hu
      have e := qK hu
      simp only [Lib.parseUint10, e]
      rw [if_pos (by omega), if_neg (by omega), if_neg (by omega)]
      congr 1; omega
    · rename_i hu
      have e := qK (k := u % 10) (by omega)
      rw [ag6 _ _ _ (u / 10) (ag5 k (u / 10) (by omega) (by omega)) (by omega) (by omega), e]
      congr 1; omega
theorem ad3 : ∀ (k u : Nat), u < k → ∃ c r, Lib.decDigits u = c :: r ∧ 48 ≤ c.toNat ∧ c.toNat ≤ 57 ∧ (0 < u → c.toNat ≠ 48)
  | 0, u, h => by omega
  | k + 1, u, h => by
    rw [Lib.decDigits]
    split
    · rename_i hu
      exact ⟨_, _, rfl, by rw [qK hu]; omega, by rw [qK hu]; omega, fun h => by rw [qK hu]; omega⟩
    · rename_i hu
      obtain ⟨c, r, h1, h2, h3, h4⟩ := ad3 k (u / 10) (by omega)
      exact ⟨c, r ++ [_], by rw [h1]; rfl, h2, h3, fun _ => h4 (by omega)⟩
theorem wt {n : Int} (h0 : 0 ≤ n) (h1 : n < 1000000000000000000) : Lib.atoiAll (Lib.itoa n) = .ok n := by
  have e : Lib.itoa n = Lib.decDigits n.toNat := by rw [Lib.itoa, if_neg (by omega)]
  obtain ⟨c, r, hc, h2, h3, _⟩ := ad3 (n.toNat + 1) n.toNat (by omega)
  have hp := ag5 (n.toNat + 1) n.toNat (by omega) (by omega)
  have hm : Lib.parseMag (c :: r) = .ok n.toNat := by rw [Lib.parseMag, if_neg (by simp), ← hc]; exact hp
  have ha : Lib.atoiAll (c :: r) = .ok n := by
    rw [Lib.atoiAll_plain c r (by omega) (by omega), hm]
    simp only [Lib.signless]
    rw [if_neg (by omega)]
    congr 1; omega
  rw [e, hc, ha]
theorem aeU {n : Int} (h0 : 0 ≤ n) (h1 : n < 1000000000000000000) : acH (Lib.itoa n) = n := by rw [acH, wt h0 h1]
theorem ab5 : ∀ (l : List UInt8) (acc n : Int), 0 ≤ acc → aac acc l = some n → acc ≤ n
  | [], acc, n, _, h => by simp only [aac, Option.some.injEq] at h; omega
  | c :: l, acc, n, h0, h => by
    simp only [aac] at h
    split at h
    · cases h
    · have := ab5 l _ n (by omega) h
      omega
theorem ahR : ∀ (k : Nat) (l : List UInt8) (n : Int), l.length ≤ k → l ≠ [] → (1 < l.length → l[0]? ≠ some 48) → aac 0 l = some n → 0 ≤ n ∧ Lib.decDigits n.toNat = l := by
  intro k
  induction k with
  | zero => intro l n hk h; simp at hk; exact (h hk).elim
  | succ k ih =>
    intro l0 n hk h0 hz h
    obtain ⟨l, d, rfl⟩ : ∃ l d, l0 = l ++ [d] := ⟨l0.dropLast, l0.getLast h0, (List.dropLast_concat_getLast h0).symm⟩
    rw [adR] at h
    cases hl : aac 0 l with
    | none => rw [hl] at h; cases h
    | some m =>
      rw [hl, Option.bind_some] at h
      split at h
      · cases h
      · rename_i hd
        simp only [Option.some.injEq] at h
        have hdd : UInt8.ofNat (48 + (d.toNat - 48)) = d := by
          apply UInt8.toNat_inj.1
          rw [qK (by omega)]; omega
        rcases l with _ | ⟨c, l⟩
        · simp only [aac, Option.some.injEq] at hl
          subst hl
          refine ⟨by omega, ?_⟩
          have e : n.toNat = d.toNat - 48 := by omega
          rw [e, Lib.decDigits, dif_pos (by omega), hdd]
          rfl
        · have hz' : c ≠ 48 := by
            intro hc
            exact hz (by simp) (by simp [hc])
          obtain ⟨h1, h2⟩ := ih (c :: l) m (by simp at hk ⊢; omega) (by simp) (fun _ => by simpa using hz') hl
          have hm : 1 ≤ m := by
            simp only [aac] at hl
            split at hl
            · cases hl
            · rename_i hc
              have := ab5 l _ m (by omega) hl
              have hc' : c.toNat ≠ 48 := fun h => hz' (UInt8.toNat_inj.1 (by simpa using h))
              omega
          refine ⟨by omega, ?_⟩
          rw [Lib.decDigits, dif_neg (by omega)]
          have e1 : n.toNat / 10 = m.toNat := by omega
          have e2 : n.toNat % 10 = d.toNat - 48 := by omega
          rw [e1, e2, h2, hdd]
theorem afJ {r : List UInt8} {n : Int} (h : jV r = (n, true)) : Lib.itoa n = r ∧ 0 ≤ n ∧ n < 1000000000000000 := by
  unfold jV at h
  split at h
  · simp at h
  · rename_i hb
    cases hn : aac 0 r with
    | none => rw [hn] at h; simp at h
    | some m =>
      rw [hn] at h
      simp only [Prod.mk.injEq, and_true] at h
      subst h
      obtain ⟨h1, h2⟩ := ahR r.length r m (Nat.le_refl _) (fun h => hb (.inl h)) (fun h1 h2 => hb (.inr (.inr ⟨h1, h2⟩))) hn
      refine ⟨by rw [Lib.itoa, if_neg (by omega), h2], h1, ?_⟩
      have hl : r.length ≤ 15 := by omega
      have key : ∀ (l : List UInt8) (acc n : Int), 0 ≤ acc → aac acc l = some n → n < (acc + 1) * ((10 ^ l.length : Nat) : Int) := by
        intro l
        induction l with
        | nil => intro acc n h0 h; simp only [aac, Option.some.injEq] at h; simp; omega
        | cons c l ih =>
          intro acc n h0 h
          simp only [aac] at h
          split at h
          · cases h
          · have := ih _ n (by omega) h
            have e : ((10 ^ (c :: l).length : Nat) : Int) = 10 * ((10 ^ l.length : Nat) : Int) := by
              rw [List.length_cons, Nat.pow_succ]; omega
            rw [e]
            have h3 : (0 : Int) ≤ ((10 ^ l.length : Nat) : Int) := Int.natCast_nonneg _
            generalize ((10 ^ l.length : Nat) : Int) = P at *
            have h2 : acc * 10 + ((c.toNat : Int) - 48) + 1 ≤ (acc + 1) * 10 := by omega
            have h4 := Int.mul_le_mul_of_nonneg_right h2 h3
            rw [Int.mul_assoc] at h4
            exact Int.lt_of_lt_of_le this h4
      have h3 := key r 0 m (by omega) hn
      have h4 := ail hl
      simp only [Int.zero_add, Int.one_mul] at h3
      omega
end Av
end

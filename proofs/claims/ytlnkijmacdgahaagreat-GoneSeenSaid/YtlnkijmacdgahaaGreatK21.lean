/- K21 -/
import Derived.Test.YtlnkijmacdgahaaGreatK15
import Derived.Test.YtlnkijmacdgahaaGreatK13
import Derived.Test.YtlnkijmacdgahaaGreatK12
import Derived.Test.YtlnkijmacdgahaaGreatK19
import Derived.Test.YtlnkijmacdgahaaGreatK20
set_option linter.unusedVariables false
set_option linter.unusedSimpArgs false
noncomputable section
set_option maxRecDepth 10000
set_option maxHeartbeats 4000000
namespace Av
open Go
attribute [local irreducible] AWp VA K4 jR awS awC aa9 awQ abD QZ V9 aay awR Ug awB okR jL ris
def JI (l : List Int) (k : Nat) : List V := [.sl 1 (l.map V.int), V.int k]
theorem KF (l : List Int) (k : Nat) : Qc (JI l k) := by simp only [JI, V.closed, Qc, and_self]
def Qz (l : List Int) (k : Nat) (n : Int) : Int × Nat := if k < l.length then (an7 (l.getD k 0) n, k + 1) else (0, k)
theorem Jq {l : List Int} {k : Nat} {n : Int} (hk : k ≤ l.length) : (Qz l k n).2 ≤ l.length := by
  unfold Qz; split
  · show k + 1 ≤ l.length; omega
  · exact hk
theorem ajL {a n : Int} (h1 : 1 ≤ n) (h2 : n < 2 ^ 62) : 0 ≤ an7 a n ∧ an7 a n < n := by
  unfold an7
  rw [if_neg (by omega)]
  have ha := Int.tmod_lt_of_pos a (show 0 < n by omega)
  have hb : -n < a.tmod n := by
    have := Int.tmod_lt_of_pos (-a) (show 0 < n by omega)
    rw [Int.neg_tmod] at this; omega
  rw [QE (by omega) (by omega)]
  exact ⟨Int.tmod_nonneg _ (by omega), Int.tmod_lt_of_pos _ (by omega)⟩
theorem Qk {l : List Int} {k : Nat} {n : Int} (h1 : 1 ≤ n) (h2 : n < 2 ^ 62) : 0 ≤ (Qz l k n).1 ∧ (Qz l k n).1 < n := by
  unfold Qz; split
  · exact ajL h1 h2
  · show (0 : Int) ≤ 0 ∧ (0 : Int) < n; omega
def KP := qd Proofs.Tryz.f6 []
def Vf (Γ : Env) (f : Nat) : Prop := ∀ (l : List Int), EvN Γ f [.sl 1 (l.map V.int)] (V.bool (decide ((l.length : Int) ≤ 400)))
attribute [local go_sem] List.length_map in
theorem aeT {Γ : Env} {f : Nat} (h : Has Γ.P f 6 KP.1.1.ac KP.1.2)  : Vf Γ f := by
  intro l
  refine Qb h zsi zcl zcl fun C hC hm => ?_
  subst hC
  simp only [KP, qd, DC.ac]
  refine zgo ?_; repeat' first | exact zt | apply zan | intro hc
  refine Qi _ rfl ?_; simp only [go_sem, Nat.reduceEqDiff, Nat.reduceAdd, reduceIte, reduceCtorEq]
def jn := qd Proofs.Tryz.f8 []
def Ua (Γ : Env) (f : Nat) : Prop := ∀ (l : List Int), EvR Γ f [.sl 1 (l.map V.int)] (JI l 0)
theorem agl {Γ : Env} {f : Nat} (h : Has Γ.P f 6 jn.1.1.ac jn.1.2)  : Ua Γ f := by
  intro l
  refine acM h (by simp) (by simp only [JI, V.closed, Qc, and_self]) fun C hC hm => ?_
  subst hC
  simp only [jn, qd, DC.ac]
  refine zgo ?_; repeat' first | exact zt | apply zan | intro hc
  refine aoe _ rfl rfl (by simp only [JI, V.closed, Qc, and_self])
def XN := qd Proofs.Tryz.f10 [zhn 14, zhn 10]
def QW (Γ : Env) (f : Nat) : Prop := ∀ (l : List Int) (k : Nat) (n : Int) (hl : l.length ≤ 400) (hk : k ≤ l.length), EvD Γ f [V.int n] (JI l k) (V.int (Qz l k n).1) (JI l (Qz l k n).2)
attribute [local go_sem] JI in
theorem wT {Γ : Env} {f : Nat} (h : Has Γ.P f 35 XN.1.1.ac XN.1.2) (z0 : wi Γ 21) : QW Γ f := by
  intro l k n hl hk
  refine Xw h zsi zcl zc3 zc3 fun C hC hm => ?_
  subst hC
  simp only [XN, qd, DC.ac]
  by_cases h1 : k < l.length
  · have e1 : decide ((k : Int) ≥ (((l.map V.int).length : Nat) : Int)) = false := by simp; omega
    have hget : l[k]? = some (l.getD k 0) := by simp [List.getD_eq_getElem?_getD, List.getElem?_eq_getElem h1]
    have hw := Qg (k := k) (by omega)
    have hw2 : IntKind.i64.wrap (((k + 1 : Nat) : Int) - 1) = (k : Int) := by rw [QE (by omega) (by omega)]; omega
    have hn : Qz l k n = (an7 (l.getD k 0) n, k + 1) := by rw [Qz, if_pos h1]
    rw [hn]
    (have zx := And.intro e1 (And.intro hw (And.intro hw2 hget))); refine zgo ?_; repeat' first | exact zt | apply zan | intro hc
    all_goals (refine vF _ rfl rfl zcd ?_; simp only [go_sem, Nat.reduceEqDiff, Nat.reduceAdd, reduceIte, reduceCtorEq])
  · have e1 : decide ((k : Int) ≥ (((l.map V.int).length : Nat) : Int)) = true := by simp; omega
    have hn : Qz l k n = (0, k) := by rw [Qz, if_neg h1]
    rw [hn]
    (have zx := e1); refine zgo ?_; repeat' first | exact zt | apply zan | intro hc
    all_goals (refine vF _ rfl rfl zcd ?_; simp only [go_sem, Nat.reduceEqDiff, Nat.reduceAdd, reduceIte, reduceCtorEq])
def ofD (l : List Int) (k : Nat) (xs : List Int) : Int × Nat := (xs.getD (Qz l k xs.length).1.toNat 0, (Qz l k xs.length).2)
theorem aac {l : List Int} {k : Nat} {xs : List Int} (h : xs ≠ []) (h2 : xs.length < 2 ^ 62) : (ofD l k xs).1 ∈ xs := by
  have h1 : 1 ≤ xs.length := by cases xs with | nil => exact (h rfl).elim | cons _ _ => simp
  have := Qk (l := l) (k := k) (n := xs.length) (by omega) (by omega)
  have hk : (Qz l k xs.length).1.toNat < xs.length := by omega
  unfold ofD
  simp only [List.getD_eq_getElem?_getD, List.getElem?_eq_getElem hk, Option.getD_some]
  exact List.getElem_mem hk
theorem j9 {l : List Int} {k : Nat} {xs : List Int} (hk : k ≤ l.length) : (ofD l k xs).2 ≤ l.length := Jq hk
def W4 := qd Proofs.Tryz.f13 []
def Y3 (Γ : Env) (f : Nat) : Prop := ∀ (l : List Int) (k : Nat) (xs : List Int) (hl : l.length ≤ 400) (hk : k ≤ l.length) (hx : 1 ≤ xs.length) (hx2 : xs.length < 2 ^ 62), EvD Γ f [.sl 1 (xs.map V.int)] (JI l k) (V.int (ofD l k xs).1) (JI l (ofD l k xs).2)
attribute [local go_sem] List.length_map JI in
theorem abu {Γ : Env} {f : Nat} (h : Has Γ.P f 12 W4.1.1.ac W4.1.2) (z0 : QW Γ 10) : Y3 Γ f := by
  intro l k xs hl hk hx hx2
  refine Xw h zsi zcl zc3 zc3 fun C hC hm => ?_
  subst hC
  simp only [W4, qd, DC.ac]
  have hr := Qk (l := l) (k := k) (n := xs.length) (by omega) (by omega)
  have hget : xs[(Qz l k xs.length).1.toNat]? = some (ofD l k xs).1 := by
    have hk : (Qz l k xs.length).1.toNat < xs.length := by omega
    simp [ofD, List.getD_eq_getElem?_getD, List.getElem?_eq_getElem hk]
  have hn := z0 l k xs.length hl hk
  have e2 : JI l (ofD l k xs).2 = JI l (Qz l k xs.length).2 := rfl
  rw [e2]
  simp only [JI] at hn
  (have zx := hget); refine zgo ?_; repeat' first | exact zt | apply zan | intro hc
  refine vF _ rfl rfl zcd ?_; simp only [go_sem, Nat.reduceEqDiff, Nat.reduceAdd, reduceIte, reduceCtorEq]
def Ws := qd Proofs.Tryz.f20 []
def VL (Γ : Env) (f : Nat) : Prop := ∀ (l : List Int) (k : Nat) (n : Int) (hl : l.length ≤ 400) (hk : k ≤ l.length) (h1 : 1 ≤ n) (h2 : n < 2 ^ 62), EvD Γ f [V.int n] (JI l k) (V.bool ((Qz l k n).1 == n - 1)) (JI l (Qz l k n).2)
attribute [local go_sem] JI in
theorem aap {Γ : Env} {f : Nat} (h : Has Γ.P f 11 Ws.1.1.ac Ws.1.2) (z0 : QW Γ 10) : VL Γ f := by
  intro l k n hl hk h1 h2
  refine Xw h zsi zcl zc3 zc3 fun C hC hm => ?_
  subst hC
  simp only [Ws, qd, DC.ac]
  have hn := z0 l k n hl hk
  have hw : IntKind.i64.wrap (n - 1) = n - 1 := QE (by omega) (by omega)
  simp only [JI] at hn
  (have zx := hw); refine zgo ?_; repeat' first | exact zt | apply zan | intro hc
  refine vF _ rfl rfl zcd ?_; simp only [go_sem, Nat.reduceEqDiff, Nat.reduceAdd, reduceIte, reduceCtorEq]
def Ub (l : List Int) (k : Nat) (xs : List (List UInt8)) : List UInt8 × Nat := (xs.getD (Qz l k xs.length).1.toNat [], (Qz l k xs.length).2)
theorem wq {l : List Int} {k : Nat} {xs : List (List UInt8)} (h1 : 1 ≤ xs.length) (h2 : xs.length < 2 ^ 62) : (Ub l k xs).1 ∈ xs := by
  have := Qk (l := l) (k := k) (n := xs.length) (by omega) (by omega)
  have hk : (Qz l k xs.length).1.toNat < xs.length := by omega
  unfold Ub
  simp only [List.getD_eq_getElem?_getD, List.getElem?_eq_getElem hk, Option.getD_some]
  exact List.getElem_mem hk
theorem qR {l : List Int} {k : Nat} {xs : List (List UInt8)} (hk : k ≤ l.length) : (Ub l k xs).2 ≤ l.length := Jq hk
def XM := qd Proofs.Tryz.f19 []
def Xp (Γ : Env) (f : Nat) : Prop := ∀ (l : List Int) (k : Nat) (xs : List (List UInt8)) (hl : l.length ≤ 400) (hk : k ≤ l.length) (hx : 1 ≤ xs.length) (hx2 : xs.length < 2 ^ 62), EvD Γ f [.sl 1 (xs.map V.str)] (JI l k) (V.str (Ub l k xs).1) (JI l (Ub l k xs).2)
attribute [local go_sem] List.length_map JI in
theorem wS {Γ : Env} {f : Nat} (h : Has Γ.P f 12 XM.1.1.ac XM.1.2) (z0 : QW Γ 10) : Xp Γ f := by
  intro l k xs hl hk hx hx2
  refine Xw h zsi zcl zc3 zc3 fun C hC hm => ?_
  subst hC
  simp only [XM, qd, DC.ac]
  have hr := Qk (l := l) (k := k) (n := xs.length) (by omega) (by omega)
  have hget : xs[(Qz l k xs.length).1.toNat]? = some (Ub l k xs).1 := by
    have hk : (Qz l k xs.length).1.toNat < xs.length := by omega
    simp [Ub, List.getD_eq_getElem?_getD, List.getElem?_eq_getElem hk]
  have hn := z0 l k xs.length hl hk
  have e2 : JI l (Ub l k xs).2 = JI l (Qz l k xs.length).2 := rfl
  rw [e2]
  simp only [JI] at hn
  (have zx := hget); refine zgo ?_; repeat' first | exact zt | apply zan | intro hc
  refine vF _ rfl rfl zcd ?_; simp only [go_sem, Nat.reduceEqDiff, Nat.reduceAdd, reduceIte, reduceCtorEq]
theorem aot (s : List UInt8) : (aqX s).2 = (wz 43 s).all alm := by
  unfold aqX; split
  · rename_i h; rw [h]
  · rename_i h; simpa using h
structure aji (s : List UInt8) : Prop where
  colon : (58 : UInt8) ∉ s
  known : (wz 43 s).all alm = true
  head : ∃ c r, s = c :: r ∧ c ≠ 45 ∧ c ≠ 33 ∧ c ≠ 43 ∧ c ≠ 64
theorem aji.sign {s : List UInt8} (h : aji s) : aor s = (0, s) := by
  obtain ⟨c, r, rfl, h1, h2, h3, _⟩ := h.head
  rw [aor, if_neg (by simp [h1, h2, h3])]
theorem aji.okW {s : List UInt8} (h : aji s) : wordOk s = true := by rw [Av.wordOk, h.sign, aot, h.known, Bool.or_true]
structure ajh (s : List UInt8) (n : Nat) : Prop where
  few : s ≠ [] → (wz 58 s).length ≤ n
  ok : s ≠ [] → ∀ w ∈ wz 58 s, wordOk w = true
theorem ajh.app {s t : List UInt8} {n m : Nat} (hs : ajh s n) (ht : ajh t m) (h1 : s ≠ []) (h2 : t ≠ []) : ajh (s ++ [58] ++ t) (n + m) := by
  refine ⟨fun _ => ?_, fun _ x hx => ?_⟩
  · have := hs.few h1; have := ht.few h2; rw [adL]; simp; omega
  · rw [adL] at hx
    rcases List.mem_append.1 hx with hx | hx
    · exact hs.ok h1 x hx
    · exact ht.ok h2 x hx
structure NR (a : List Int) : Prop where
  nd : a.Nodup
  rg : ∀ x ∈ a, 1 ≤ x ∧ x ≤ 16
theorem NR.add {a : List Int} (h : NR a) (l : List Int) (k : Nat) : NR (if a.contains (1 + (Qz l k 16).1) = true then a else a ++ [1 + (Qz l k 16).1]) := by
  have hr := Qk (l := l) (k := k) (n := 16) (by omega) (by omega)
  split
  · exact h
  · rename_i hc
    have hx : 1 + (Qz l k 16).1 ∉ a := by simpa using hc
    refine ⟨List.nodup_append.2 ⟨h.nd, by simp, fun x hx2 y hy e => ?_⟩, fun x hx2 => ?_⟩
    · simp at hy; subst hy; subst e; exact hx hx2
    · rcases List.mem_append.1 hx2 with h1 | h1
      · exact h.rg x h1
      · simp at h1; omega
end Av
end

/- K12 -/
import Derived.Test.YtlpaikjhphkioaaGreatK11
import Derived.Lib.IndexLaws
import Derived.Lib.AtoiAllCases
import Derived.Test.YtlpaikjhphkioaaGreatK9
set_option linter.unusedVariables false
set_option linter.unusedSimpArgs false
section
set_option maxRecDepth 10000
set_option maxHeartbeats 4000000
namespace Av
open Go
attribute [local irreducible] AWp wo acE afd awS awC al0 awQ am3 YI adu ak3 awR aeq awB okR afY ris
def apZ : yN := ⟨0, [], 0, 0, 0, 0, 0, 0, 0, 0, 0, 0⟩
def ani (c : Int) : yN := if 1 ≤ c ∧ c ≤ 16 then adI.getD (c - 1).toNat apZ else apZ
def aa7 {α : Type} (p : α → Bool) : Nat → List α → Int
  | _, [] => -1
  | k, x :: r => if p x = true then k else aa7 p (k + 1) r
def as0 (n : List UInt8) : Int := aa7 (fun s : yN => s.name == n) 0 adI + 1
def xw : List AO := [mv 17 0, mv 18 5, ia 19 1 17 18, ld 20 1 19, mv 21 1, mv 22 5, ia 23 1 21 22, ld 24 1 23, bn 25 .neq 20 24]
def xG : List (List Nat) := [[], [], [0, 1], [2], [], [], [4, 5], [6], [3, 7]]
def xh : OT := .one 0 (.one 1 (.one 2 (.one 3 (.one 4 (.one 5 (.one 6 (.one 7 (.one 8 .done))))))))
@[go_sem] def xq : OP := oN 0 (mv 17 0) (oN 1 (mv 18 5) (oN 2 (ia 19 1 17 18) (oN 3 (ld 20 1 19) (oN 4 (mv 21 1) (oN 5 (mv 22 5) (oN 6 (ia 23 1 21 22) (oN 7 (ld 24 1 23) (oN 8 (bn 25 .neq 20 24) .done))))))))
instance : RG [] xh (xq) (xw) xG 9 (fun _ => true) := ⟨rfl, by kernel_rfl, by kernel_rfl⟩
def jh : AC := Qb [0, 1] (.reg [mc 4 (V.bool false)]) (Qb [0, 1] (Qb [0, 1, 10] (.reg [mv 6 0, ln 7 6, mv 8 1, ln 9 8, bn 10 .neq 7 9]) (.cond (.t 10) (Qb [4] (.reg [mc 4 (V.bool false)]) .ret) .skip)) (Qb [] (Qb [0, 1, 5] (.reg [mc 5 (V.int 0)]) (.block 0 (Y6 [0, 1, 5] (Qb [0, 1, 5] (Qb [0, 1, 5, 14] (.reg [mv 11 5, mv 12 0, ln 13 12, bn 14 .lss 11 13]) (.cond (.t 14) .skip (.exit 0))) (Qb [0, 1, 5] (.block 1 (Qb [0, 1, 5, 25] (wP [] xh (xq) (xw) xG) (.cond (.t 25) (Qb [4] (.reg [mc 4 (V.bool false)]) .ret) .skip))) (.reg [mv 15 5, bc 16 .add 15 (V.int 1), mv 5 16])))))) (Qb [4] (.reg [mc 4 (V.bool true)]) .ret))) def r_ref02_SameInts : List Jf := [.tmp 4]
def qw (Γ : Env) (f : Nat) : Prop := ∀ (a b : List Int) (hl : a.length < 2 ^ 62), EvN Γ f [.sl 1 (a.map V.int), .sl 1 (b.map V.int)] (V.bool (a == b))
theorem aed {Γ : Env} {f : Nat} (h : Has Γ.P f 26 jh r_ref02_SameInts)  : qw Γ f := by
  intro a b hl
  refine Qd h zsi zcl zcl fun C hC hm => ?_
  subst hC
  unfold jh
  by_cases hlen : a.length = b.length
  · have e0 : ((((a.map V.int).length : Nat) : Int) != (((b.map V.int).length : Nat) : Int)) = false := by simp [hlen]
    (have zx := e0); refine zgo ?_; repeat' first | exact zt | apply zan | intro hc
    refine Y2 (ι := Nat) (fun k => k ≤ a.length ∧ (a.drop k == b.drop k) = (a == b)) (fun k => [(5, V.int k)]) (fun k => a.length - k) 0 (by omega) ⟨by simp, by simp⟩ (by repeat' first | exact X2 | refine WM (by omega) (by simp only [Ob.lt, ltL, V.lt, and_self, and_true]; try omega) ?_) (fun i hi => by simp only [ovT, X0, Nat.reduceEqDiff, reduceIte]; (repeat' first | exact Ve | refine XO ?_ ?_ | simp only [V.lt, ltL, and_self, and_true] | omega)) (by simp only [Nat.reduceAdd, ovT, X0, Nat.reduceEqDiff, reduceIte, aa6, aei, aqB, u32, u33, u34, u35, u36, u37, u38, u39, and_self, and_true, true_and] <;> rfl) fun k hk K' hL => ?_
    obtain ⟨hk, hinv⟩ := hk
    simp only [ovT, X0, Nat.reduceEqDiff, reduceIte]
    rcases hd : a.drop k with _ | ⟨y, r⟩
    · have := Je hd
      have hd2 : b.drop k = [] := List.drop_eq_nil_of_le (by omega)
      rw [hd, hd2] at hinv
      refine zgo ?_; repeat' first | exact zt | apply zan | intro hc
      all_goals (refine Qv _ rfl ?_; simp only [go_sem, Nat.reduceEqDiff, Nat.reduceAdd, reduceIte, reduceCtorEq]; rw [← hinv]; rfl)
    · obtain ⟨hk', hget, hr⟩ := QJ hd
      rcases hd2 : b.drop k with _ | ⟨z, r2⟩
      · have := Je hd2; omega
      · obtain ⟨hk2, hget2, hr2⟩ := QJ hd2
        rw [hd, hd2] at hinv
        have hw := Qr (k := k) (by omega)
        by_cases hyz : y = z
        · have e2 : (y != z) = false := by simp [hyz]
          (have zx := And.intro hget (And.intro hget2 (And.intro hw e2))); refine zgo ?_; repeat' first | exact zt | apply zan | intro hc
          refine hL _ (k + 1) zet ⟨by omega, ?_⟩ (by omega) (fun a ha => by simp only [u32, u33, u34, u35, u36, u37, u38, u39]; repeat rw [if_neg (by omega)])
          rw [hr, hr2, ← hinv]; simp [hyz]
        · have e2 : (y != z) = true := by simp [hyz]
          (have zx := And.intro hget (And.intro hget2 (And.intro hw e2))); refine zgo ?_; repeat' first | exact zt | apply zan | intro hc
          all_goals (refine Qv _ rfl ?_; simp only [go_sem, Nat.reduceEqDiff, Nat.reduceAdd, reduceIte, reduceCtorEq]; rw [← hinv]; simp [hyz])
  · have e0 : ((((a.map V.int).length : Nat) : Int) != (((b.map V.int).length : Nat) : Int)) = true := by simp; omega
    have e1 : (a == b) = false := by
      simp only [beq_eq_false_iff_ne, ne_eq]
      intro h; exact hlen (by rw [h])
    (have zx := e0); refine zgo ?_; repeat' first | exact zt | apply zan | intro hc
    all_goals (refine Qv _ rfl ?_; simp only [go_sem, Nat.reduceEqDiff, Nat.reduceAdd, reduceIte, reduceCtorEq]; rw [e1])
def asC (c : Int) : Int := if 1 ≤ c ∧ c ≤ 16 then Q4 (ani c).ci1 (ani c).ci2 else 0
def aqX : List (List UInt8) := [[97, 108, 108], [104, 105, 103, 104], [109, 101, 100, 105, 117, 109], [108, 111, 119], [118, 49], [118, 50], [118, 51], [118, 52]]
def an4 (n : List UInt8) : Bool := aqX.contains n || decide (akH n 0 yW > 0) || decide (as0 n > 0)
def arV (n : List UInt8) (st lo up : Int) : Option Bool :=
  if n = [97, 108, 108] then some true else if n = [104, 105, 103, 104] then some (decide (st ≥ 128)) else if n = [109, 101, 100, 105, 117, 109] then some (decide (st ≥ 112) && decide (st < 128))
  else if n = [108, 111, 119] then some (decide (st < 112)) else if n = [118, 49] then some (decide (lo ≤ 1) && decide (1 ≤ up)) else if n = [118, 50] then some (decide (lo ≤ 2) && decide (2 ≤ up))
  else if n = [118, 51] then some (decide (lo ≤ 3) && decide (3 ≤ up)) else if n = [118, 52] then some (decide (lo ≤ 4) && decide (4 ≤ up)) else none
def arP (n : List UInt8) (s : yN) : Bool :=
  match arV n (asC s.code) s.lo s.hi with
  | some b => b
  | none => (decide (akH n 0 yW > 0) && (s.kx1 == akH n 0 yW || s.sg1 == akH n 0 yW || s.ci1 == akH n 0 yW || s.mc1 == akH n 0 yW)) || s.name == n
def acB (c : UInt8) : List UInt8 → List UInt8 → List (List UInt8)
  | cur, [] => [cur]
  | cur, x :: r => if x = c then cur :: acB c [] r else acB c (cur ++ [x]) r
def acA (c : UInt8) (s : List UInt8) : List (List UInt8) := acB c [] s
def asQ (L : List (List UInt8)) (x : yN) : Bool := L.all fun n => arP n x
def aq6 (L : List (List UInt8)) (xs : List yN) : List Int := (xs.filter (asQ L)).map yN.code
def asE (s : List UInt8) : List Int × Bool := if (acA 43 s).all an4 then (aq6 (acA 43 s) adI, true) else ([], false)
def asP (out : List Int) (x : Int) : Nat → Nat
  | 0 => 0
  | k + 1 => if asC (out.getD k 0) < asC x then asP out x k else k + 1
def asO (out : List Int) (x : Int) : List Int := out.take (asP out x out.length) ++ [x] ++ out.drop (asP out x out.length)
def aqr : List UInt8 → UInt8 × List UInt8
  | [] => (0, [])
  | c :: r => if c = 45 ∨ c = 33 ∨ c = 43 then (c, r) else (0, c :: r)
abbrev ath := List Int × List Int
def atm : List UInt8 := [64, 115, 116, 114, 101, 110, 103, 116, 104]
def wordOk (w : List UInt8) : Bool := w == atm || (asE (aqr w).2).2
structure asm (p : ath) : Prop where
  nd : p.1.Nodup
  rg : ∀ x ∈ p.1, 1 ≤ x ∧ x ≤ 16
  dj : ∀ x ∈ p.1, x ∉ p.2
theorem arN {l : List Int} (hn : l.Nodup) (hr : ∀ x ∈ l, 1 ≤ x ∧ x ≤ 16) : l.length ≤ 16 := by
  have hs : l ⊆ adI.map yN.code := by
    intro x hx
    have h := hr x hx
    have e : adI.map yN.code = [1, 2, 3, 4, 5, 6, 7, 8, 9, 10, 11, 12, 13, 14, 15, 16] := by decide
    rw [e]; simp; omega
  have := hn.length_le_of_subset hs
  have e : (adI.map yN.code).length = 16 := by decide
  omega
theorem asm.len {p : ath} (h : asm p) : p.1.length ≤ 16 := arN h.nd h.rg
theorem adK (c : UInt8) : ∀ (s cur t : List UInt8), acB c cur (s ++ c :: t) = acB c cur s ++ acB c [] t
  | [], cur, t => by simp [acB]
  | x :: r, cur, t => by
    rw [List.cons_append, acB, acB]
    split
    · rw [adK c r [] t]; rfl
    · exact adK c r _ t
theorem ahx (c : UInt8) (s t : List UInt8) : acA c (s ++ [c] ++ t) = acA c s ++ acA c t := by
  rw [List.append_assoc, List.singleton_append]; exact adK c s [] t
section
variable {α : Type}
def gK (lt : α → α → Bool) (out : List α) (x : α) : Nat → Nat
  | 0 => 0
  | k + 1 => if (match out[k]? with | some y => lt x y | none => false) = true then gK lt out x k else k + 1
theorem aqY (lt : α → α → Bool) (out : List α) (x : α) : ∀ k, gK lt out x k ≤ k
  | 0 => Nat.le_refl _
  | k + 1 => by
    rw [gK]
    by_cases h : (match out[k]? with | some y => lt x y | none => false) = true
    · rw [if_pos h]; exact Nat.le_succ_of_le (aqY lt out x k)
    · rw [if_neg h]; exact Nat.le_refl _
def aip (lt : α → α → Bool) (out : List α) (x : α) : List α := out.take (gK lt out x out.length) ++ [x] ++ out.drop (gK lt out x out.length)
def Vh (lt : α → α → Bool) (l : List α) : List α := l.foldl (aip lt) []
theorem apt (lt : α → α → Bool) (out : List α) (x : α) : (aip lt out x).length = out.length + 1 := by
  have := aqY lt out x out.length
  simp [aip]; omega
theorem ajx (lt : α → α → Bool) : ∀ (l out : List α), (l.foldl (aip lt) out).length = out.length + l.length
  | [], out => by simp
  | x :: r, out => by rw [List.foldl_cons, ajx lt r, apt]; simp; omega
theorem acZ (lt : α → α → Bool) (l : List α) : (Vh lt l).length = l.length := by rw [Vh, ajx]; simp
theorem aod (lt : α → α → Bool) (x : α) : Vh lt [x] = [x] := by simp [Vh, aip, gK]
theorem aps {lt : α → α → Bool} {out : List α} {x y : α} : y ∈ aip lt out x ↔ y = x ∨ y ∈ out := by
  have : y ∈ out ↔ y ∈ out.take (gK lt out x out.length) ∨ y ∈ out.drop (gK lt out x out.length) := by
    rw [← List.mem_append, List.take_append_drop]
  simp only [aip, List.mem_append, List.mem_singleton, this]
  constructor
  · rintro ((h | h) | h)
    · exact .inr (.inl h)
    · exact .inl h
    · exact .inr (.inr h)
  · rintro (h | h | h)
    · exact .inl (.inr h)
    · exact .inl (.inl h)
    · exact .inr h
theorem ajw {lt : α → α → Bool} {y : α} : ∀ (l out : List α), y ∈ l.foldl (aip lt) out ↔ y ∈ out ∨ y ∈ l
  | [], out => by simp
  | x :: r, out => by
    rw [List.foldl_cons, ajw r, aps, List.mem_cons]
    constructor
    · rintro ((h | h) | h)
      · exact .inr (.inl h)
      · exact .inl h
      · exact .inr (.inr h)
    · rintro (h | h | h)
      · exact .inl (.inr h)
      · exact .inl (.inl h)
      · exact .inr h
theorem ajB {lt : α → α → Bool} {y : α} {l : List α} : y ∈ Vh lt l ↔ y ∈ l := by rw [Vh, ajw]; simp
theorem aog {lt : α → α → Bool} {out : List α} {x : α} : (aip lt out x).Perm (x :: out) := by
  have h : (out.take (gK lt out x out.length) ++ out.drop (gK lt out x out.length)).Perm out := by rw [List.take_append_drop]
  rw [aip, List.append_assoc, List.singleton_append]
  exact List.perm_middle.trans (h.cons x)
theorem ahR {lt : α → α → Bool} : ∀ (l out : List α), (l.foldl (aip lt) out).Perm (l ++ out)
  | [], out => by simp
  | x :: r, out => by
    rw [List.foldl_cons, List.cons_append]
    exact ((ahR r (aip lt out x)).trans (List.Perm.append_left r aog)).trans List.perm_middle
theorem ww {lt : α → α → Bool} {l : List α} : (Vh lt l).Perm l := by have := ahR (lt := lt) l []; rwa [List.append_nil] at this
def Ord (lt : α → α → Bool) (l : List α) : Prop := l.Pairwise fun x y => lt y x = false
theorem aof {lt : α → α → Bool} {out : List α} {x : α} : ∀ k, k ≤ out.length → (∀ j, gK lt out x k ≤ j → j < k → ∀ y, out[j]? = some y → lt x y = true) ∧ (0 < gK lt out x k → ∀ y, out[gK lt out x k - 1]? = some y → lt x y = false)
  | 0, _ => ⟨fun j h1 h2 => by omega, fun h => by simp [gK] at h⟩
  | k + 1, hk => by
    obtain ⟨i1, i2⟩ := aof (lt := lt) (out := out) (x := x) k (by omega)
    have hy : out[k]? = some out[k] := List.getElem?_eq_getElem (by omega)
    simp only [gK, hy]
    split
    · rename_i h
      refine ⟨fun j h1 h2 y e => ?_, i2⟩
      by_cases hj : j = k
      · subst hj; rw [hy] at e; cases e; exact h
      · exact i1 j h1 (by omega) y e
    · rename_i h
      refine ⟨fun j h1 h2 => by omega, fun _ y e => ?_⟩
      rw [Nat.add_sub_cancel, hy] at e; cases e
      simpa using h
theorem apr {lt : α → α → Bool} (htr : ∀ x y z, lt y x = false → lt z y = false → lt z x = false) (has : ∀ x y, lt x y = true → lt y x = false) {out : List α} {x : α} (h : Ord lt out) : Ord lt (aip lt out x) := by
  obtain ⟨h1, h2⟩ := aof (lt := lt) (out := out) (x := x) out.length (Nat.le_refl _)
  have hle := aqY lt out x out.length
  unfold Ord aip at *
  generalize gK lt out x out.length = k at *
  have hto : (out.take k).Pairwise fun x y => lt y x = false := h.sublist (List.take_sublist _ _)
  have hdr : (out.drop k).Pairwise fun x y => lt y x = false := h.sublist (List.drop_sublist _ _)
  have hcr : ∀ a ∈ out.take k, ∀ b ∈ out.drop k, lt b a = false := by
    have := h
    rw [← List.take_append_drop k out, List.pairwise_append] at this
    exact this.2.2
  have hx1 : ∀ a ∈ out.take k, lt x a = false := by
    intro a ha
    rcases Nat.eq_zero_or_pos k with hk | hk
    · subst hk; simp at ha
    · have hlast : out[k - 1]? = some out[k - 1] := List.getElem?_eq_getElem (by omega)
      have hxl := h2 hk _ hlast
      obtain ⟨i, hi, rfl⟩ := List.getElem_of_mem ha
      simp only [List.length_take] at hi
      rw [List.getElem_take]
      by_cases e : i = k - 1
      · subst e; exact hxl
      · have := (List.pairwise_iff_getElem.1 h) i (k - 1) (by omega) (by omega) (by omega)
        exact htr _ _ _ this hxl
  have hx2 : ∀ b ∈ out.drop k, lt b x = false := by
    intro b hb
    obtain ⟨i, hi, rfl⟩ := List.getElem_of_mem hb
    rw [List.getElem_drop]
    simp only [List.length_drop] at hi
    exact has _ _ (h1 (k + i) (by omega) (by omega) _ (List.getElem?_eq_getElem (by omega)))
  rw [List.append_assoc, List.singleton_append, List.pairwise_append]
  refine ⟨hto, List.pairwise_cons.2 ⟨hx2, hdr⟩, fun a ha b hb => ?_⟩
  rcases List.mem_cons.1 hb with rfl | hb
  · exact hx1 a ha
  · exact hcr a ha b hb
theorem ajv {lt : α → α → Bool} (htr : ∀ x y z, lt y x = false → lt z y = false → lt z x = false) (has : ∀ x y, lt x y = true → lt y x = false) : ∀ (l out : List α), Ord lt out → Ord lt (l.foldl (aip lt) out)
  | [], _, h => h
  | x :: r, out, h => ajv htr has r _ (apr htr has h)
theorem ajA {lt : α → α → Bool} (htr : ∀ x y z, lt y x = false → lt z y = false → lt z x = false) (has : ∀ x y, lt x y = true → lt y x = false) (l : List α) : Ord lt (Vh lt l) := ajv htr has l [] List.Pairwise.nil
def wZ (lt : α → α → Bool) (xs : List α) (a i : Nat) : List α := xs.take a ++ (Vh lt ((xs.take i).drop a) ++ xs.drop i)
theorem ajC {lt : α → α → Bool} {xs : List α} {a : Nat} (h : a < xs.length) : wZ lt xs a (a + 1) = xs := by
  have e : (xs.take (a + 1)).drop a = [xs[a]] := by
    rw [List.take_add_one, List.getElem?_eq_getElem h, List.drop_append_of_le_length (by simp; omega), List.drop_eq_nil_of_le (by simp; omega)]; rfl
  rw [wZ, e, aod, List.singleton_append, ← List.drop_eq_getElem_cons h, List.take_append_drop]
theorem aoe {lt : α → α → Bool} (xs : List α) : wZ lt xs 0 xs.length = Vh lt xs := by simp [wZ]
def Vs (P S : List α) (x : α) (R : List α) (q : Nat) : List α := P ++ (S.take q ++ x :: (S.drop q ++ R))
theorem ajz {P S R : List α} {x : α} {q : Nat} : (Vs P S x R q).length = P.length + S.length + 1 + R.length := by
  simp only [Vs, List.length_append, List.length_cons, List.length_take, List.length_drop]; omega
theorem aoc {P S R : List α} {x : α} {q : Nat} (h : q ≤ S.length) : (Vs P S x R q)[P.length + q]? = some x := by
  have : (S.take q).length = q := by simp; omega
  rw [Vs, List.getElem?_append_right (by omega), List.getElem?_append_right (by omega), this]
  simp
theorem aob {P S R : List α} {x : α} {q : Nat} (h : q < S.length) : (Vs P S x R (q + 1))[P.length + q]? = some S[q] := by
  rw [Vs, List.getElem?_append_right (by omega), List.getElem?_append_left (by simp; omega), List.getElem?_take]
  simp [h]
theorem alA (S y x : α) (T : List α) : ∀ A : List α, ((A ++ y :: S :: T).set (A.length + 1) y).set A.length x = A ++ x :: y :: T
  | [] => rfl
  | z :: A => by
    have := alA S y x T A
    simp only [List.cons_append, List.length_cons, List.set_cons_succ, this]
theorem ajy {P S R : List α} {x : α} {q : Nat} (h : q < S.length) : ((Vs P S x R (q + 1)).set (P.length + (q + 1)) S[q]).set (P.length + q) x = Vs P S x R q := by
  have e1 : S.take (q + 1) = S.take q ++ [S[q]] := by rw [List.take_add_one, List.getElem?_eq_getElem h]; rfl
  have e2 : S.drop q = S[q] :: S.drop (q + 1) := List.drop_eq_getElem_cons h
  have e3 : (S.take q).length = q := by simp; omega
  have e4 : Vs P S x R (q + 1) = (P ++ S.take q) ++ S[q] :: x :: (S.drop (q + 1) ++ R) := by rw [Vs, e1]; simp only [List.append_assoc, List.cons_append, List.nil_append]
  have e5 : Vs P S x R q = (P ++ S.take q) ++ x :: S[q] :: (S.drop (q + 1) ++ R) := by rw [Vs, e2]; simp only [List.append_assoc, List.cons_append, List.nil_append]
  have hl : (P ++ S.take q).length = P.length + q := by rw [List.length_append, e3]
  have hl2 : P.length + (q + 1) = (P ++ S.take q).length + 1 := by omega
  rw [e4, e5, hl2, ← hl]
  exact alA _ _ _ _ _
theorem alC {lt : α → α → Bool} {f : α → V} (xs : List α) : (if 0 = xs.length then xs.map f else (wZ lt xs 0 xs.length).map f) = (Vh lt xs).map f := by
  split
  · rename_i h
    have : xs = [] := List.eq_nil_of_length_eq_zero h.symm
    subst this; rfl
  · rw [aoe]
end
theorem alb {n : Int} (h0 : 0 ≤ n) (h1 : n < 2 ^ 64) : IntKind.u64.wrap n = n := by
  have e1 : IntKind.u64.bits = 64 := rfl
  have e2 : IntKind.u64.signed = false := rfl
  simp only [IntKind.wrap, e1, e2, Bool.false_and, Bool.false_eq_true, if_false]
  omega
abbrev V.u64 (n : Int) : V := .sc (.int .u64 n)
def asL : Nat → Int
  | 0 => 0 | 1 => 1 | 2 => 2 | 3 => 2 | 4 => 3 | 5 => 3 | 6 => 3 | 7 => 3 | 8 => 4 | 9 => 4 | 10 => 4 | 11 => 4 | _ => 4
def K4 : AC := Qb [0, 2] (.reg [mc 2 (V.int 0)]) (Qb [0, 2] (Qb [0, 2, 4] (.reg [mv 3 0, bc 4 .geq 3 (.sc (.int .u64 4294967296))]) (.cond (.t 4) (Qb [0] (.reg [mv 5 0, bc 6 .shr 5 (.sc (.int .u64 32)), mv 0 6]) (.reg [mc 2 (V.int 32)])) .skip)) (Qb [0, 2] (Qb [0, 2, 8] (.reg [mv 7 0, bc 8 .geq 7 (.sc (.int .u64 65536))]) (.cond (.t 8) (Qb [0, 2] (.reg [mv 9 0, bc 10 .shr 9 (.sc (.int .u64 16)), mv 0 10]) (.reg [mv 11 2, bc 12 .add 11 (V.int 16), mv 2 12])) .skip)) (Qb [0, 2] (Qb [0, 2, 14] (.reg [mv 13 0, bc 14 .geq 13 (.sc (.int .u64 256))]) (.cond (.t 14) (Qb [0, 2] (.reg [mv 15 0, bc 16 .shr 15 (.sc (.int .u64 8)), mv 0 16]) (.reg [mv 17 2, bc 18 .add 17 (V.int 8), mv 2 18])) .skip)) (Qb [2] (.reg [mv 19 2, mv 20 0, xo 21 (.convI .u8 (.t 20)), xo 22 (.idxS (.c (V.str [0, 1, 2, 2, 3, 3, 3, 3, 4, 4, 4, 4, 4, 4, 4, 4, 5, 5, 5, 5, 5, 5, 5, 5, 5, 5, 5, 5, 5, 5, 5, 5, 6, 6, 6, 6, 6, 6, 6, 6, 6, 6, 6, 6, 6, 6, 6, 6, 6, 6, 6, 6, 6, 6, 6, 6, 6, 6, 6, 6, 6, 6, 6, 6, 7, 7, 7, 7, 7, 7, 7, 7, 7, 7, 7, 7, 7, 7, 7, 7, 7, 7, 7, 7, 7, 7, 7, 7, 7, 7, 7, 7, 7, 7, 7, 7, 7, 7, 7, 7, 7, 7, 7, 7, 7, 7, 7, 7, 7, 7, 7, 7, 7, 7, 7, 7, 7, 7, 7, 7, 7, 7, 7, 7, 7, 7, 7, 7, 8, 8, 8, 8, 8, 8, 8, 8, 8, 8, 8, 8, 8, 8, 8, 8, 8, 8, 8, 8, 8, 8, 8, 8, 8, 8, 8, 8, 8, 8, 8, 8, 8, 8, 8, 8, 8, 8, 8, 8, 8, 8, 8, 8, 8, 8, 8, 8, 8, 8, 8, 8, 8, 8, 8, 8, 8, 8, 8, 8, 8, 8, 8, 8, 8, 8, 8, 8, 8, 8, 8, 8, 8, 8, 8, 8, 8, 8, 8, 8, 8, 8, 8, 8, 8, 8, 8, 8, 8, 8, 8, 8, 8, 8, 8, 8, 8, 8, 8, 8, 8, 8, 8, 8, 8, 8, 8, 8, 8, 8, 8, 8, 8, 8, 8, 8, 8, 8, 8, 8, 8, 8, 8, 8, 8, 8, 8, 8])) (.t 21)), xo 23 (.convI .i64 (.t 22)), bn 24 .add 19 23, mv 2 24]) .ret)))) def r_math_bits_Len64 : List Jf := [.tmp 2]
def Kv (Γ : Env) (f : Nat) : Prop := ∀ (n : Nat) (hn : n ≤ 12), EvN Γ f [V.u64 n] (V.int (asL n))
theorem ac5 {Γ : Env} {f : Nat} (h : Has Γ.P f 25 K4 r_math_bits_Len64)  : Kv Γ f := by
  intro n hn
  refine Qd h zsi zcl zcl fun C hC hm => ?_
  subst hC
  unfold K4
  have hn' : n = 0 ∨ n = 1 ∨ n = 2 ∨ n = 3 ∨ n = 4 ∨ n = 5 ∨ n = 6 ∨ n = 7 ∨ n = 8 ∨ n = 9 ∨ n = 10 ∨ n = 11 ∨ n = 12 := by omega
  have e1 : decide ((n : Int) ≥ 4294967296) = false := by simp; omega
  have e2 : decide ((n : Int) ≥ 65536) = false := by simp; omega
  have e3 : decide ((n : Int) ≥ 256) = false := by simp; omega
  have hw : IntKind.u8.wrap (n : Int) = (n : Int) := aqk (by omega) (by omega)
  obtain ⟨c, hc1, hc2⟩ : ∃ c : UInt8, ([0, 1, 2, 2, 3, 3, 3, 3, 4, 4, 4, 4, 4] : List UInt8)[n]? = some c ∧ (c.toNat : Int) = asL n := by
    rcases hn' with rfl | rfl | rfl | rfl | rfl | rfl | rfl | rfl | rfl | rfl | rfl | rfl | rfl <;> exact ⟨_, rfl, rfl⟩
  have hget : ∀ l : List UInt8, l.take 13 = [0, 1, 2, 2, 3, 3, 3, 3, 4, 4, 4, 4, 4] → l[n]? = some c := fun l hl => by
    rw [← hc1, ← hl, List.getElem?_take, if_pos (by omega)]
  have hc3 : 0 ≤ (c.toNat : Int) ∧ (c.toNat : Int) < 256 := by have := c.toNat_lt; omega
  have hw2 : IntKind.i64.wrap (c.toNat : Int) = (c.toNat : Int) := Ym (by omega) (by omega)
  have hw3 : IntKind.i64.wrap (0 + (c.toNat : Int)) = (c.toNat : Int) := by rw [Int.zero_add, hw2]
  rw [← hc2]
  have hg : ([0, 1, 2, 2, 3, 3, 3, 3, 4, 4, 4, 4, 4, 4, 4, 4, 5, 5, 5, 5, 5, 5, 5, 5, 5, 5, 5, 5, 5, 5, 5, 5, 6, 6, 6, 6, 6, 6, 6, 6, 6, 6, 6, 6, 6, 6, 6, 6, 6, 6, 6, 6, 6, 6, 6, 6, 6, 6, 6, 6, 6, 6, 6, 6, 7, 7, 7, 7, 7, 7, 7, 7, 7, 7, 7, 7, 7, 7, 7, 7, 7, 7, 7, 7, 7, 7, 7, 7, 7, 7, 7, 7, 7, 7, 7, 7, 7, 7, 7, 7, 7, 7, 7, 7, 7, 7, 7, 7, 7, 7, 7, 7, 7, 7, 7, 7, 7, 7, 7, 7, 7, 7, 7, 7, 7, 7, 7, 7, 8, 8, 8, 8, 8, 8, 8, 8, 8, 8, 8, 8, 8, 8, 8, 8, 8, 8, 8, 8, 8, 8, 8, 8, 8, 8, 8, 8, 8, 8, 8, 8, 8, 8, 8, 8, 8, 8, 8, 8, 8, 8, 8, 8, 8, 8, 8, 8, 8, 8, 8, 8, 8, 8, 8, 8, 8, 8, 8, 8, 8, 8, 8, 8, 8, 8, 8, 8, 8, 8, 8, 8, 8, 8, 8, 8, 8, 8, 8, 8, 8, 8, 8, 8, 8, 8, 8, 8, 8, 8, 8, 8, 8, 8, 8, 8, 8, 8, 8, 8, 8, 8, 8, 8, 8, 8, 8, 8, 8, 8, 8, 8, 8, 8, 8, 8, 8, 8, 8, 8, 8, 8, 8, 8, 8, 8, 8, 8] : List UInt8)[n]? = some c := hget _ rfl
  (have zx := And.intro e1 (And.intro e2 (And.intro e3 (And.intro hw (And.intro hg (And.intro hw2 hw3)))))); exact zg
def yr (KV Vw : Nat) : AC := Qb [0] (.reg [mc 2 (V.int 0)]) (Qb [0] (.cond (.c (V.bool false)) (Qb [2] (.reg [mv 3 0, xo 4 (.convI .u32 (.t 3)), cl 5 KV [4], mv 2 5]) .ret) .skip) (Qb [2] (.reg [mv 6 0, cl 7 Vw [6], mv 2 7]) .ret)) def r_math_bits_Len : List Jf := [.tmp 2]
def WL (Γ : Env) (f : Nat) : Prop := ∀ (n : Nat) (hn : n ≤ 12), EvN Γ f [V.u64 n] (V.int (asL n))
theorem afr {Γ : Env} {f KV Vw : Nat} (h : Has Γ.P f 8 (yr KV Vw) r_math_bits_Len) (z0 : Kv Γ Vw) : WL Γ f := by
  intro n hn
  refine Qd h zsi zcl zcl fun C hC hm => ?_
  subst hC
  unfold yr
  exact zg
theorem ah3 {Γ : Env} {f : Nat} (h : WL Γ f) (n : Nat) (hn : n ≤ 12) : ∃ lim : Int, EvN Γ f [V.u64 n] (V.int lim) := ⟨_, h n hn⟩
def Kd : AC := Qb [0] (.reg [mc 2 (V.bool false)]) (Qb [2] (.reg [mv 3 0, mv 4 0, bn 5 .neq 3 4, mv 2 5]) .ret) def r_slices_isNaN_int : List Jf := [.tmp 2]
def UC (Γ : Env) (f : Nat) : Prop := ∀ (n : Int), EvN Γ f [V.int n] (V.bool false)
theorem ab4 {Γ : Env} {f : Nat} (h : Has Γ.P f 6 Kd r_slices_isNaN_int)  : UC Γ f := by
  intro n
  refine Qd h zsi zcl zcl fun C hC hm => ?_
  subst hC
  unfold Kd
  have e : (n != n) = false := by simp
  (have zx := e); exact zg
def xY (Jt : Nat) : AC := Qb [0, 1] (.reg [mc 4 (V.bool false)]) (Qb [4] (.reg [mv 5 0, cl 6 Jt [5], mv 7 6, mg 8 1 7 true, xg 9 (.call Jt [(.t 8)]) 7 true, xg 10 (.un .not (.t 9)) 7 true, xo 11 (.pick (.t 7) (.t 10) (.c (V.bool false))), mv 12 11, mg 13 0 12 false, mg 14 1 12 false, xg 15 (.bin .lss (.t 13) (.t 14)) 12 false, xo 16 (.pick (.t 12) (.c (V.bool true)) (.t 15)), mv 4 16]) .ret) def r_cmp_Less_int : List Jf := [.tmp 4]
def Vq (Γ : Env) (f : Nat) : Prop := ∀ (a b : Int), EvN Γ f [V.int a, V.int b] (V.bool (decide (a < b)))
theorem agz {Γ : Env} {f Jt : Nat} (h : Has Γ.P f 17 (xY Jt) r_cmp_Less_int) (z0 : Uo Γ Jt) : Vq Γ f := by
  intro a b
  refine Qd h zsi zcl zcl fun C hC hm => ?_
  subst hC
  unfold xY
  repeat' (first | (refine zsk ?_; intro K' hK) | refine zsp ?_ | (refine zsc ?_ ?_ <;> intro hc <;> first | exact znh | try simp only [znz] at hc) | simp (maxSteps := 1000000) only [go_sem, Nat.reduceAdd, Nat.reduceMul, Nat.reduceEqDiff, Nat.reduceLeDiff, Nat.reduceLT, Nat.reduceSub, Int.reduceEq, Int.reduceBEq, Int.reduceLT, Int.reduceLE, Int.reduceAdd, Int.reduceToNat, reduceIte, reduceCtorEq] | (refine hK _ ?_; clear hK K') | apply zan | (apply QS; (focus first | exact (z0 _).b)) | exact zsq | fail)
  all_goals first | exact zr | trace_state
def YH (Qn XP : Nat) : AC := Qb [0, 1] (.reg [mc 4 (V.int 0), mc 5 (V.bool false)]) (Qb [0, 1, 6] (.reg [mv 10 0, ln 11 10, mv 6 11]) (Qb [0, 1, 6, 7, 8] (.reg [mv 12 6, mc 7 (V.int 0), mv 8 12]) (Qb [0, 1, 6, 7] (.block 0 (Y6 [0, 1, 6, 7, 8] (Qb [0, 1, 6, 7, 8] (Qb [0, 1, 6, 7, 8, 15] (.reg [mv 13 7, mv 14 8, bn 15 .lss 13 14]) (.cond (.t 15) .skip (.exit 0))) (.block 1 (Qb [0, 1, 6, 7, 8, 9] (.reg [mv 16 7, mv 17 8, bn 18 .add 16 17, xo 19 (.convI .u64 (.t 18)), bc 20 .shr 19 (.sc (.int .u64 1)), xo 21 (.convI .i64 (.t 20)), mv 9 21]) (Qb [0, 1, 6, 7, 8, 9, 27] (.reg [mv 22 0, mv 23 9, ia 24 1 22 23, ld 25 1 24, mv 26 1, cl 27 Qn [25, 26]]) (.cond (.t 27) (.reg [mv 28 9, bc 29 .add 28 (V.int 1), mv 7 29]) (.reg [mv 30 9, mv 8 30])))))))) (Qb [4, 5] (.reg [mv 31 7, mv 32 7, mv 33 6, bn 34 .lss 32 33, mv 35 34, mg 36 0 35 true, mg 37 7 35 true, xg 38 (.iaddr 1 (.t 36) (.t 37)) 35 true, xg 39 (.load false 1 (.t 38)) 35 true, mg 40 1 35 true, xg 41 (.bin .eql (.t 39) (.t 40)) 35 true, mg 42 41 35 true, mg 43 0 42 false, mg 44 7 42 false, xg 45 (.iaddr 1 (.t 43) (.t 44)) 42 false, xg 46 (.load false 1 (.t 45)) 42 false, xg 47 (.call XP [(.t 46)]) 42 false, mg 48 47 42 false, mg 49 1 48 true, xg 50 (.call XP [(.t 49)]) 48 true, xg 51 (.pick (.t 48) (.t 50) (.c (V.bool false))) 42 false, xg 52 (.pick (.t 42) (.c (V.bool true)) (.t 51)) 35 true, xo 53 (.pick (.t 35) (.t 52) (.c (V.bool false))), mv 4 31, mv 5 53]) .ret)))) def r_slices_BinarySearch___int_int : List Jf := [.tmp 4, .tmp 5]
def YD (Γ : Env) (f : Nat) : Prop := ∀ (l : List Int) (x : Int) (hl : l.length < 2 ^ 34), EvN Γ f [.sl 1 (l.map V.int), V.int x] (.tup [V.int (bsI ltJ l x : Nat), V.bool (UM l (bsI ltJ l x) x)])
attribute [local go_sem] Wo in
theorem KO {Γ : Env} {f Qn XP : Nat} (h : Has Γ.P f 54 (YH Qn XP) r_slices_BinarySearch___int_int) (z0 : Vq Γ Qn) (z1 : UC Γ XP) : YD Γ f := by
  intro l x hl
  refine Qd h zsi zcl zcl fun C hC hm => ?_
  subst hC
  unfold YH
  refine zgo ?_; repeat' first | exact zt | apply zan | intro hc
  refine QH (ι := Nat × Nat × Nat) (fun q => q.2.1 ≤ q.2.2 ∧ q.2.2 ≤ l.length ∧ q.2.2 - q.2.1 ≤ q.1 ∧ am1 ltJ l x q.1 q.2.1 q.2.2 = bsI ltJ l x) (fun q => Wo [(0, .sl 1 (l.map V.int)), (1, V.int x), (6, V.int l.length), (7, V.int q.2.1), (8, V.int q.2.2)] [] 0) (fun q => q.2.2 - q.2.1) (l.length, 0, l.length) ⟨Nat.zero_le _, Nat.le_refl _, by simp, rfl⟩ (Ql []) (Qu [] (by simp only [go_sem, zwl, Nat.reduceAdd, Nat.reduceMul, Nat.reduceEqDiff, Nat.reduceLT, Int.reduceToNat, reduceIte, reduceCtorEq, List.length_map] <;> exact zcc) zwa (by simp) (by simp) (by omega)) fun q hq K' hL => ?_
  obtain ⟨n, i, j⟩ := q
  simp only at hq hL ⊢
  obtain ⟨h1, h2, h3, h4⟩ := hq
  have hb : bsI ltJ l x ≤ l.length := aj1
  by_cases hij : i < j
  · obtain ⟨n, rfl⟩ : ∃ m, n = m + 1 := ⟨n - 1, by omega⟩
    have e1 : decide ((i : Int) < (j : Int)) = true := decide_eq_true (by omega)
    have hh := ahQ (a := i) (b := j) (by omega)
    rw [am1, if_pos hij] at h4
    have r1 : i ≤ (i + j) / 2 := by omega
    have r2 : (i + j) / 2 < j := by omega
    generalize (i + j) / 2 = r at *
    obtain ⟨y, hy⟩ : ∃ y, l[r]? = some y := ⟨_, List.getElem?_eq_getElem (by omega)⟩
    rw [hy] at h4
    simp only at h4
    have p1 : EvB C.env Qn [V.int y, V.int x] (V.bool (ltJ y x)) none := (z0 y x).b
    have hwr := Qr (k := r) (by omega)
    rcases hlt : ltJ y x with _ | _
    · rw [hlt] at p1 h4
      rw [if_neg (by decide)] at h4
      (have zx := And.intro e1 (And.intro hh (And.intro hwr hy))); refine zgo ?_; repeat' first | exact zt | apply zan | intro hc
      all_goals first | exact hL _ (n, i, r) (Ql []) ⟨by simp only; omega, by simp only; omega, by simp only; omega, h4⟩ (by simp only; omega) (zwg []) | trace_state
    · rw [hlt] at p1 h4
      rw [if_pos rfl] at h4
      (have zx := And.intro e1 (And.intro hh (And.intro hwr hy))); refine zgo ?_; repeat' first | exact zt | apply zan | intro hc
      all_goals first | exact hL _ (n, r + 1, j) (Ql []) ⟨by simp only; omega, by simp only; omega, by simp only; omega, h4⟩ (by simp only; omega) (zwg []) | trace_state
  · have e1 : decide ((i : Int) < (j : Int)) = false := decide_eq_false (by omega)
    have hbi : bsI ltJ l x = i := by
      rw [← h4]
      rcases n with _ | n
      · rfl
      · rw [am1, if_neg hij]
    rw [hbi]
    by_cases hil : i < l.length
    · have e2 : decide ((i : Int) < (l.length : Int)) = true := decide_eq_true (by omega)
      obtain ⟨y, hy⟩ : ∃ y, l[i]? = some y := ⟨_, List.getElem?_eq_getElem hil⟩
      have hf : UM l i x = (y == x) := by simp only [UM, hy]
      have p2 := (z1 y).b
      rw [hf]
      rcases hyx : y == x with _ | _
      · (have zx := And.intro e1 (And.intro e2 (And.intro hyx hy))); exact zg
      · (have zx := And.intro e1 (And.intro e2 (And.intro hyx hy))); exact zg
    · have e2 : decide ((i : Int) < (l.length : Int)) = false := decide_eq_false (by omega)
      have hf : UM l i x = false := by rw [UM, List.getElem?_eq_none (by omega)]
      rw [hf]
      (have zx := And.intro e1 e2); exact zg
def V2 (Γ : Env) (f : Nat) : Prop := ((∀ (xs : List Int) (i : Nat) (x : Int), i ≤ xs.length → 0 < xs.length → xs.length < 2 ^ 30 → asz Γ f (V.int i) 1 (xs.map V.int) [V.int x] ((xs.take i ++ x :: xs.drop i).map V.int)) ∧ (∀ x : Int, EvW Γ f [aeT, V.int 0, .sl 1 [V.int x]] 1 [V.int x]))
def Y1 (JC YT : Nat) : AC := Qb [0, 1] (.reg [xo 4 (.mknil 1)]) (Qb [0, 1, 5, 6] (.reg [mv 8 0, mv 9 1, cl 10 JC [8, 9], mv 7 10, ex 11 7 0, ex 12 7 1, mv 5 11, mv 6 12]) (Qb [0, 1, 5] (Qb [0, 1, 5, 13] (.reg [mv 13 6]) (.cond (.t 13) (Qb [4] (.reg [mv 14 0, mv 4 14]) .ret) .skip)) (Qb [4] (.reg [mv 15 0, mv 16 5, mv 17 1, xo 18 (.bslice 1 1 false [vi0] [(0, (.t 17))]), cl 19 YT [15, 16, 18], mv 4 19]) .ret))) def r_identity_insert_int : List Jf := [.tmp 4]
def WU (Γ : Env) (f : Nat) : Prop := ((∀ (xs : List Int) (x : Int), 0 < xs.length → xs.length < 2 ^ 30 → UM xs (bsI ltJ xs x) x = true → EvX Γ f [V.int x] 1 (xs.map V.int)) ∧ (∀ (xs : List Int) (x : Int), 0 < xs.length → xs.length < 2 ^ 30 → UM xs (bsI ltJ xs x) x = false → EvI Γ f [V.int x] 1 (xs.map V.int) ((agf ltJ xs x).map V.int)) ∧ (∀ x : Int, EvW Γ f [aeT, V.int x] 1 [V.int x]))
theorem v5 {Γ : Env} {f JC YT : Nat} (h : Has Γ.P f 20 (Y1 JC YT) r_identity_insert_int) (z0 : YD Γ JC) (z1 : V2 Γ YT) : WU Γ f := by
  obtain ⟨hI, hW⟩ := z1
  refine ⟨fun xs x h0 hl hf => ?_, fun xs x h0 hl hf => ?_, fun x => ?_⟩
  · refine ace h (by simp) fun C hC hm => ?_
    subst hC
    unfold Y1
    have hb := (z0 xs x (by omega)).b
    rw [hf] at hb
    have ht : List.take (xs.map V.int).length (xs.map V.int) = xs.map V.int := List.take_length
    (have zx := ht); refine zgo ?_; repeat' first | exact zt | apply zan | intro hc
    all_goals first | (refine aon _ rfl rfl rfl ?_; first | rfl | (simp; done)) | trace_state
  · refine agE h (by simp) fun C hC hm => ?_
    subst hC
    unfold Y1
    have hb := (z0 xs x (by omega)).b
    have hi := hI xs (bsI ltJ xs x) x aj1 h0 hl
    rw [agf, if_neg (by rw [hf]; decide)]
    rw [hf] at hb
    have ht : List.take (xs.map V.int).length (xs.map V.int) = xs.map V.int := List.take_length
    generalize bsI ltJ xs x = i at *
    repeat' (first | (refine zsk ?_; intro K' hK) | refine zsp ?_ | (refine zsc ?_ ?_ <;> intro hc <;> first | exact znh | try simp only [znz] at hc) | simp (maxSteps := 1000000) only [go_sem, Nat.reduceAdd, Nat.reduceMul, Nat.reduceEqDiff, Nat.reduceLeDiff, Nat.reduceLT, Nat.reduceSub, Int.reduceEq, Int.reduceBEq, Int.reduceLT, Int.reduceLE, Int.reduceAdd, Int.reduceToNat, reduceIte, reduceCtorEq, ht] | (refine hK _ ?_; clear hK K') | apply zan | (apply aj5; (focus exact rfl); (focus first | exact hi); (focus exact rfl); (focus exact rfl); (focus (first | exact rfl | (simp; done)))) | (apply agP; (focus exact rfl); (focus exact rfl); (focus first | exact hi); (focus exact rfl); (focus (first | exact rfl | (simp; done))); (focus (first | exact rfl | (simp; done)))) | (apply QS; (focus first | exact hb | exact (z0 _ _ zsd).b)) | exact zsq | fail)
    all_goals first | (refine aqf _ _ rfl ⟨_, rfl⟩ rfl (by omega) rfl ?_; first | rfl | (simp; done)) | trace_state
  · refine KX h (by simp) (by intro y hy; rw [List.mem_singleton.1 hy]; simp only [V.noSl]) fun C hC hm => ?_
    subst hC
    unfold Y1
    have hb := (z0 [] x (by simp)).b
    have hw := hW x
    simp only [List.map_nil] at hb
    have hb := hb.le2 (LeV.nil 1) (LeV.refl _)
    refine zgo ?_; repeat' first | exact zt | apply zan | intro hc
    all_goals first | (refine ads (xs := [V.int x]) _ _ rfl ?_ ?_ <;> first | rfl | (simp; done)) | trace_state
end Av
end

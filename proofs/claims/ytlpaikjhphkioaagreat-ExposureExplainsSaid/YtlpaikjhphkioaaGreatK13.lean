/- K13 -/
import Derived.Test.YtlpaikjhphkioaaGreatK12
import Derived.Test.YtlpaikjhphkioaaGreatK10
import Derived.Test.YtlpaikjhphkioaaGreatK9
set_option linter.unusedVariables false
set_option linter.unusedSimpArgs false
section
set_option maxRecDepth 10000
set_option maxHeartbeats 4000000
namespace Av
open Go
attribute [local irreducible] AWp wo acE afd awS awC al0 awQ am3 YI adu ak3 awR aeq awB okR afY ris
def Wf : AC := Qb [0] (.reg [xo 2 (.mknil 1)]) (Qb [0] (Qb [0, 4] (.reg [mv 3 0, xo 4 (.isnil false (.t 3))]) (.cond (.t 4) (Qb [2] (.reg [xo 2 (.mknil 1)]) .ret) .skip)) (Qb [2] (.reg [xo 5 (.bslice 0 1 false [vi0] []), mv 6 0, xo 7 (.append 1 8 [vi0] (.t 5) (.t 6)), mv 2 7]) .ret)) def r_slices_Clone___int_int : List Jf := [.tmp 2]
def YW (Γ : Env) (f : Nat) : Prop := ∀ (l : List Int) (hl : l.length < 2 ^ 34), EvW Γ f [.sl 1 (l.map V.int)] 1 (l.map V.int)
theorem xP {Γ : Env} {f : Nat} (h : Has Γ.P f 8 Wf r_slices_Clone___int_int)  : YW Γ f := by
  intro l hl
  refine KX h (by simp) (by first | exact agc _ | exact afS _) fun C hC hm => ?_
  subst hC
  unfold Wf
  rcases l with _ | ⟨x, r⟩
  · repeat' (first | (refine zsk ?_; intro K' hK) | refine zsp ?_ | (refine zsc ?_ ?_ <;> intro hc <;> first | exact znh | try simp only [znz] at hc) | simp (maxSteps := 1000000) only [go_sem, Nat.reduceAdd, Nat.reduceMul, Nat.reduceEqDiff, Nat.reduceLeDiff, Nat.reduceLT, Nat.reduceSub, Int.reduceEq, Int.reduceBEq, Int.reduceLT, Int.reduceLE, Int.reduceAdd, Int.reduceToNat, reduceIte, reduceCtorEq] | (refine hK _ ?_; clear hK K') | apply zan | exact zsq | fail)
    intro t
    rcases t with _ | _
    · repeat' (first | (refine zsk ?_; intro K' hK) | refine zsp ?_ | (refine zsc ?_ ?_ <;> intro hc <;> first | exact znh | try simp only [znz] at hc) | simp (maxSteps := 1000000) only [go_sem, Nat.reduceAdd, Nat.reduceMul, Nat.reduceEqDiff, Nat.reduceLeDiff, Nat.reduceLT, Nat.reduceSub, Int.reduceEq, Int.reduceBEq, Int.reduceLT, Int.reduceLE, Int.reduceAdd, Int.reduceToNat, reduceIte, reduceCtorEq] | (refine hK _ ?_; clear hK K') | apply zan | exact zsq | fail)
      all_goals (refine ads (xs := []) _ _ rfl ?_ ?_ <;> first | rfl | (simp; done))
    · repeat' (first | (refine zsk ?_; intro K' hK) | refine zsp ?_ | (refine zsc ?_ ?_ <;> intro hc <;> first | exact znh | try simp only [znz] at hc) | simp (maxSteps := 1000000) only [go_sem, Nat.reduceAdd, Nat.reduceMul, Nat.reduceEqDiff, Nat.reduceLeDiff, Nat.reduceLT, Nat.reduceSub, Int.reduceEq, Int.reduceBEq, Int.reduceLT, Int.reduceLE, Int.reduceAdd, Int.reduceToNat, reduceIte, reduceCtorEq] | (refine hK _ ?_; clear hK K') | apply zan | exact zsq | fail)
      all_goals (refine ads (xs := []) _ _ rfl ?_ ?_ <;> first | rfl | (simp; done))
  · repeat' (first | (refine zsk ?_; intro K' hK) | refine zsp ?_ | (refine zsc ?_ ?_ <;> intro hc <;> first | exact znh | try simp only [znz] at hc) | simp (maxSteps := 1000000) only [go_sem, Nat.reduceAdd, Nat.reduceMul, Nat.reduceEqDiff, Nat.reduceLeDiff, Nat.reduceLT, Nat.reduceSub, Int.reduceEq, Int.reduceBEq, Int.reduceLT, Int.reduceLE, Int.reduceAdd, Int.reduceToNat, reduceIte, reduceCtorEq] | (refine hK _ ?_; clear hK K') | apply zan | exact zsq | fail)
    all_goals first
      | (simp only [List.length_map, List.length_cons] at hl ⊢; omega)
      | (refine ads (xs := V.int x :: List.map V.int r) _ _ rfl ?_ ?_ <;> first | rfl | (simp; done))
      | trace_state
def Vd (l : List Int) (k : Nat) : List V := [.sl 1 (l.map V.int), V.int k]
theorem aeZ (l : List Int) (k : Nat) : Qh (Vd l k) := by simp only [Vd, V.closed, Qh, and_self]
def Yd (l : List Int) (k : Nat) (n : Int) : Int × Nat := if k < l.length then (ap7 (l.getD k 0) n, k + 1) else (0, k)
theorem W2 {l : List Int} {k : Nat} {n : Int} (hk : k ≤ l.length) : (Yd l k n).2 ≤ l.length := by
  unfold Yd; split
  · show k + 1 ≤ l.length; omega
  · exact hk
theorem amx {a n : Int} (h1 : 1 ≤ n) (h2 : n < 2 ^ 62) : 0 ≤ ap7 a n ∧ ap7 a n < n := by
  unfold ap7
  rw [if_neg (by omega)]
  have ha := Int.tmod_lt_of_pos a (show 0 < n by omega)
  have hb : -n < a.tmod n := by
    have := Int.tmod_lt_of_pos (-a) (show 0 < n by omega)
    rw [Int.neg_tmod] at this; omega
  rw [Ym (by omega) (by omega)]
  exact ⟨Int.tmod_nonneg _ (by omega), Int.tmod_lt_of_pos _ (by omega)⟩
theorem QN {l : List Int} {k : Nat} {n : Int} (h1 : 1 ≤ n) (h2 : n < 2 ^ 62) : 0 ≤ (Yd l k n).1 ∧ (Yd l k n).1 < n := by
  unfold Yd; split
  · exact amx h1 h2
  · show (0 : Int) ≤ 0 ∧ (0 : Int) < n; omega
def aaD : AC := Qb [0] (.reg [mc 2 (V.bool false)]) (Qb [2] (.reg [mv 3 0, ln 4 3, bc 5 .leq 4 (V.int 400), mv 2 5]) .ret) def r_make_Light : List Jf := [.tmp 2]
def vL (Γ : Env) (f : Nat) : Prop := ∀ (l : List Int), EvN Γ f [.sl 1 (l.map V.int)] (V.bool (decide ((l.length : Int) ≤ 400)))
attribute [local go_sem] List.length_map in
theorem aiA {Γ : Env} {f : Nat} (h : Has Γ.P f 6 aaD r_make_Light)  : vL Γ f := by
  intro l
  refine Qd h zsi zcl zcl fun C hC hm => ?_
  subst hC
  unfold aaD
  refine zgo ?_; repeat' first | exact zt | apply zan | intro hc
  refine Qv _ rfl ?_; simp only [go_sem, Nat.reduceEqDiff, Nat.reduceAdd, reduceIte, reduceCtorEq]
def acj : AC := Qb [0] (.reg [mc 2 (.sc (.pointer none))]) (Qb [2] (.reg [mv 3 0, xo 4 (.build [vn0, vi0] [(0, 1, (.t 3))]), xo 5 (.box true 2 (.t 4)), mv 2 5]) .ret) def r_make_Roll : List Jf := [.tmp 2]
def aaR (Γ : Env) (f : Nat) : Prop := ∀ (l : List Int), EvR Γ f [.sl 1 (l.map V.int)] (Vd l 0)
theorem ajL {Γ : Env} {f : Nat} (h : Has Γ.P f 6 acj r_make_Roll)  : aaR Γ f := by
  intro l
  refine agD h (by simp) (by simp only [Vd, V.closed, Qh, and_self]) fun C hC hm => ?_
  subst hC
  unfold acj
  refine zgo ?_; repeat' first | exact zt | apply zan | intro hc
  refine aqe _ rfl rfl (by simp only [Vd, V.closed, Qh, and_self])
def yb : List AO := [mv 5 0, nk 6 5, fa 7 1 6, ld 8 1 7, mv 9 0, nk 10 9, fa 11 0 10, ld 12 1 11, ln 13 12, bn 14 .geq 8 13]
def yI : List (List Nat) := [[], [0], [1], [2], [], [4], [5], [6], [7], [3, 8]]
def jW : OT := .one 0 (.one 1 (.one 2 (.one 3 (.one 4 (.one 5 (.one 6 (.one 7 (.one 8 (.one 9 .done)))))))))
@[go_sem] def j6 : OP := oN 0 (mv 5 0) (oN 1 (nk 6 5) (oN 2 (fa 7 1 6) (oN 3 (ld 8 1 7) (oN 4 (mv 9 0) (oN 5 (nk 10 9) (oN 6 (fa 11 0 10) (oN 7 (ld 12 1 11) (oN 8 (ln 13 12) (oN 9 (bn 14 .geq 8 13) .done)))))))))
instance : RG [] jW (j6) (yb) yI 10 (fun _ => true) := ⟨rfl, by kernel_rfl, by kernel_rfl⟩
def j9 (XL : Nat) : List AO := [mv 22 0, nk 23 22, fa 24 0 23, ld 25 1 24, mv 26 0, nk 27 26, fa 28 1 27, ld 29 1 28, bc 30 .sub 29 (V.int 1), ia 31 1 25 30, ld 32 1 31, mv 33 1, cl 34 XL [32, 33], mv 4 34]
def yH : List (List Nat) := [[], [0], [1], [2], [], [4], [5], [6], [7], [3, 8], [9], [], [10, 11], [12, 12, 0, 1, 2, 3, 4, 5, 6, 7, 8, 9, 10, 11, 12]]
def jV : OT := .one 0 (.one 1 (.one 2 (.one 3 (.one 4 (.one 5 (.one 6 (.one 7 (.one 8 (.one 9 (.one 10 (.one 11 (.one 12 (.one 13 .done)))))))))))))
@[go_sem] def j5 (XL : Nat) : OP := oN 0 (mv 22 0) (oN 1 (nk 23 22) (oN 2 (fa 24 0 23) (oN 3 (ld 25 1 24) (oN 4 (mv 26 0) (oN 5 (nk 27 26) (oN 6 (fa 28 1 27) (oN 7 (ld 29 1 28) (oN 8 (bc 30 .sub 29 (V.int 1)) (oN 9 (ia 31 1 25 30) (oN 10 (ld 32 1 31) (oN 11 (mv 33 1) (oN 12 (cl 34 XL [32, 33]) (oN 13 (mv 4 34) .done)))))))))))))
instance (XL : Nat) : RG [] jV (j5 XL) (j9 XL) yH 14 (fun _ => true) := ⟨rfl, by kernel_rfl, by kernel_rfl⟩
def K6 (XL : Nat) : AC := Qb [0, 1] (.reg [mc 4 (V.int 0)]) (Qb [0, 1] (Qb [0, 1, 14] (wP [] jW (j6) (yb) yI) (.cond (.t 14) (Qb [4] (.reg [mc 4 (V.int 0)]) .ret) .skip)) (Qb [0, 1] (.reg [mv 15 0, nk 16 15, fa 17 1 16, ld 18 1 17, bc 19 .add 18 (V.int 1), nk 20 15, fa 21 1 20, xs 1 21 19]) (Qb [4] (wP [] jV (j5 XL) (j9 XL) yH) .ret))) def r_make_Dice__Next : List Jf := [.tmp 4]
def Yv (Γ : Env) (f : Nat) : Prop := ∀ (l : List Int) (k : Nat) (n : Int) (hl : l.length ≤ 400) (hk : k ≤ l.length), EvD Γ f [V.int n] (Vd l k) (V.int (Yd l k n).1) (Vd l (Yd l k n).2)
attribute [local go_sem] Vd in
theorem ac7 {Γ : Env} {f XL : Nat} (h : Has Γ.P f 35 (K6 XL) r_make_Dice__Next) (z0 : acp Γ XL) : Yv Γ f := by
  intro l k n hl hk
  refine Uv h zsi zcl zc3 zc3 fun C hC hm => ?_
  subst hC
  unfold K6
  by_cases h1 : k < l.length
  · have e1 : decide ((k : Int) ≥ (((l.map V.int).length : Nat) : Int)) = false := by simp; omega
    have hget : l[k]? = some (l.getD k 0) := by simp [List.getD_eq_getElem?_getD, List.getElem?_eq_getElem h1]
    have hw := Qr (k := k) (by omega)
    have hw2 : IntKind.i64.wrap (((k + 1 : Nat) : Int) - 1) = (k : Int) := by rw [Ym (by omega) (by omega)]; omega
    have hn : Yd l k n = (ap7 (l.getD k 0) n, k + 1) := by rw [Yd, if_pos h1]
    rw [hn]
    (have zx := And.intro e1 (And.intro hw (And.intro hw2 hget))); refine zgo ?_; repeat' first | exact zt | apply zan | intro hc
    all_goals (refine aeX _ rfl rfl zcd ?_; simp only [go_sem, Nat.reduceEqDiff, Nat.reduceAdd, reduceIte, reduceCtorEq])
  · have e1 : decide ((k : Int) ≥ (((l.map V.int).length : Nat) : Int)) = true := by simp; omega
    have hn : Yd l k n = (0, k) := by rw [Yd, if_neg h1]
    rw [hn]
    (have zx := e1); refine zgo ?_; repeat' first | exact zt | apply zan | intro hc
    all_goals (refine aeX _ rfl rfl zcd ?_; simp only [go_sem, Nat.reduceEqDiff, Nat.reduceAdd, reduceIte, reduceCtorEq])
def ofD (l : List Int) (k : Nat) (xs : List Int) : Int × Nat := (xs.getD (Yd l k xs.length).1.toNat 0, (Yd l k xs.length).2)
theorem akw {l : List Int} {k : Nat} {xs : List Int} (h : xs ≠ []) (h2 : xs.length < 2 ^ 62) : (ofD l k xs).1 ∈ xs := by
  have h1 : 1 ≤ xs.length := by cases xs with | nil => exact (h rfl).elim | cons _ _ => simp
  have := QN (l := l) (k := k) (n := xs.length) (by omega) (by omega)
  have hk : (Yd l k xs.length).1.toNat < xs.length := by omega
  unfold ofD
  simp only [List.getD_eq_getElem?_getD, List.getElem?_eq_getElem hk, Option.getD_some]
  exact List.getElem_mem hk
theorem ahJ {l : List Int} {k : Nat} {xs : List Int} (hk : k ≤ l.length) : (ofD l k xs).2 ≤ l.length := W2 hk
def yv (Qf : Nat) : AC := Qb [0, 1] (.reg [mc 4 (V.int 0)]) (Qb [4] (.reg [mv 5 1, mv 6 0, mv 7 1, ln 8 7, cl 9 Qf [6, 8], ia 10 1 5 9, ld 11 1 10, mv 4 11]) .ret) def r_make_Dice__Of : List Jf := [.tmp 4]
def jq (Γ : Env) (f : Nat) : Prop := ∀ (l : List Int) (k : Nat) (xs : List Int) (hl : l.length ≤ 400) (hk : k ≤ l.length) (hx : 1 ≤ xs.length) (hx2 : xs.length < 2 ^ 62), EvD Γ f [.sl 1 (xs.map V.int)] (Vd l k) (V.int (ofD l k xs).1) (Vd l (ofD l k xs).2)
attribute [local go_sem] List.length_map Vd in
theorem aft {Γ : Env} {f Qf : Nat} (h : Has Γ.P f 12 (yv Qf) r_make_Dice__Of) (z0 : Yv Γ Qf) : jq Γ f := by
  intro l k xs hl hk hx hx2
  refine Uv h zsi zcl zc3 zc3 fun C hC hm => ?_
  subst hC
  unfold yv
  have hr := QN (l := l) (k := k) (n := xs.length) (by omega) (by omega)
  have hget : xs[(Yd l k xs.length).1.toNat]? = some (ofD l k xs).1 := by
    have hk : (Yd l k xs.length).1.toNat < xs.length := by omega
    simp [ofD, List.getD_eq_getElem?_getD, List.getElem?_eq_getElem hk]
  have hn := z0 l k xs.length hl hk
  have e2 : Vd l (ofD l k xs).2 = Vd l (Yd l k xs.length).2 := rfl
  rw [e2]
  simp only [Vd] at hn
  (have zx := hget); refine zgo ?_; repeat' first | exact zt | apply zan | intro hc
  refine aeX _ rfl rfl zcd ?_; simp only [go_sem, Nat.reduceEqDiff, Nat.reduceAdd, reduceIte, reduceCtorEq]
def vV (l : List Int) (k : Nat) (xs : List (List UInt8)) : List UInt8 × Nat := (xs.getD (Yd l k xs.length).1.toNat [], (Yd l k xs.length).2)
theorem afO {l : List Int} {k : Nat} {xs : List (List UInt8)} (h1 : 1 ≤ xs.length) (h2 : xs.length < 2 ^ 62) : (vV l k xs).1 ∈ xs := by
  have := QN (l := l) (k := k) (n := xs.length) (by omega) (by omega)
  have hk : (Yd l k xs.length).1.toNat < xs.length := by omega
  unfold vV
  simp only [List.getD_eq_getElem?_getD, List.getElem?_eq_getElem hk, Option.getD_some]
  exact List.getElem_mem hk
theorem acs {l : List Int} {k : Nat} {xs : List (List UInt8)} (hk : k ≤ l.length) : (vV l k xs).2 ≤ l.length := W2 hk
def K5 (Qf : Nat) : AC := Qb [0, 1] (.reg [mc 4 (V.str [])]) (Qb [4] (.reg [mv 5 1, mv 6 0, mv 7 1, ln 8 7, cl 9 Qf [6, 8], ia 10 1 5 9, ld 11 1 10, mv 4 11]) .ret) def r_make_Dice__Word : List Jf := [.tmp 4]
def Kw (Γ : Env) (f : Nat) : Prop := ∀ (l : List Int) (k : Nat) (xs : List (List UInt8)) (hl : l.length ≤ 400) (hk : k ≤ l.length) (hx : 1 ≤ xs.length) (hx2 : xs.length < 2 ^ 62), EvD Γ f [.sl 1 (xs.map V.str)] (Vd l k) (V.str (vV l k xs).1) (Vd l (vV l k xs).2)
attribute [local go_sem] List.length_map Vd in
theorem ac6 {Γ : Env} {f Qf : Nat} (h : Has Γ.P f 12 (K5 Qf) r_make_Dice__Word) (z0 : Yv Γ Qf) : Kw Γ f := by
  intro l k xs hl hk hx hx2
  refine Uv h zsi zcl zc3 zc3 fun C hC hm => ?_
  subst hC
  unfold K5
  have hr := QN (l := l) (k := k) (n := xs.length) (by omega) (by omega)
  have hget : xs[(Yd l k xs.length).1.toNat]? = some (vV l k xs).1 := by
    have hk : (Yd l k xs.length).1.toNat < xs.length := by omega
    simp [vV, List.getD_eq_getElem?_getD, List.getElem?_eq_getElem hk]
  have hn := z0 l k xs.length hl hk
  have e2 : Vd l (vV l k xs).2 = Vd l (Yd l k xs.length).2 := rfl
  rw [e2]
  simp only [Vd] at hn
  (have zx := hget); refine zgo ?_; repeat' first | exact zt | apply zan | intro hc
  refine aeX _ rfl rfl zcd ?_; simp only [go_sem, Nat.reduceEqDiff, Nat.reduceAdd, reduceIte, reduceCtorEq]
theorem aqt (s : List UInt8) : (asE s).2 = (acA 43 s).all an4 := by
  unfold asE; split
  · rename_i h; rw [h]
  · rename_i h; simpa using h
structure al8 (s : List UInt8) : Prop where
  colon : (58 : UInt8) ∉ s
  known : (acA 43 s).all an4 = true
  head : ∃ c r, s = c :: r ∧ c ≠ 45 ∧ c ≠ 33 ∧ c ≠ 43 ∧ c ≠ 64
theorem al8.sign {s : List UInt8} (h : al8 s) : aqr s = (0, s) := by
  obtain ⟨c, r, rfl, h1, h2, h3, _⟩ := h.head
  rw [aqr, if_neg (by simp [h1, h2, h3])]
theorem al8.okW {s : List UInt8} (h : al8 s) : wordOk s = true := by rw [Av.wordOk, h.sign, aqt, h.known, Bool.or_true]
structure al7 (s : List UInt8) (n : Nat) : Prop where
  few : s ≠ [] → (acA 58 s).length ≤ n
  ok : s ≠ [] → ∀ w ∈ acA 58 s, wordOk w = true
theorem al7.app {s t : List UInt8} {n m : Nat} (hs : al7 s n) (ht : al7 t m) (h1 : s ≠ []) (h2 : t ≠ []) : al7 (s ++ [58] ++ t) (n + m) := by
  refine ⟨fun _ => ?_, fun _ x hx => ?_⟩
  · have := hs.few h1; have := ht.few h2; rw [ahx]; simp; omega
  · rw [ahx] at hx
    rcases List.mem_append.1 hx with hx | hx
    · exact hs.ok h1 x hx
    · exact ht.ok h2 x hx
structure NR (a : List Int) : Prop where
  nd : a.Nodup
  rg : ∀ x ∈ a, 1 ≤ x ∧ x ≤ 16
theorem NR.add {a : List Int} (h : NR a) (l : List Int) (k : Nat) : NR (if a.contains (1 + (Yd l k 16).1) = true then a else a ++ [1 + (Yd l k 16).1]) := by
  have hr := QN (l := l) (k := k) (n := 16) (by omega) (by omega)
  split
  · exact h
  · rename_i hc
    have hx : 1 + (Yd l k 16).1 ∉ a := by simpa using hc
    refine ⟨List.nodup_append.2 ⟨h.nd, by simp, fun x hx2 y hy e => ?_⟩, fun x hx2 => ?_⟩
    · simp at hy; subst hy; subst e; exact hx hx2
    · rcases List.mem_append.1 hx2 with h1 | h1
      · exact h.rg x h1
      · simp at h1; omega
theorem am5 {α : Type} {p : α → Bool} {l r : List α} {k : Nat} {x : α} (h : l.drop k = x :: r) : (l.drop k).any p = (p x || (l.drop (k + 1)).any p) := by
  obtain ⟨_, _, hr⟩ := QJ h
  rw [h, List.any_cons, hr]
def jA (c : UInt8) : Bool := decide ((c.toNat : Int) ≤ 32) || decide ((c.toNat : Int) > 126)
def Q5 (s : List UInt8) : Bool := !s.any jA && (decide ((s.length : Int) ≥ 1) && decide ((s.length : Int) ≤ 32))
def aaA : AC := Qb [0] (.reg [mc 2 (V.bool false)]) (Qb [0] (Qb [0, 11] (.reg [mv 4 0, xo 5 (.lenS (.t 4)), bc 6 .lss 5 (V.int 1), mv 7 6, mg 8 0 7 false, xg 9 (.lenS (.t 8)) 7 false, xg 10 (.bin .gtr (.t 9) (.c (V.int 32))) 7 false, xo 11 (.pick (.t 7) (.c (V.bool true)) (.t 10))]) (.cond (.t 11) (Qb [2] (.reg [mc 2 (V.bool false)]) .ret) .skip)) (Qb [] (Qb [0, 3] (.reg [mc 3 (V.int 0)]) (.block 0 (Y6 [0, 3] (Qb [0, 3] (Qb [0, 3, 15] (.reg [mv 12 3, mv 13 0, xo 14 (.lenS (.t 13)), bn 15 .lss 12 14]) (.cond (.t 15) .skip (.exit 0))) (Qb [0, 3] (.block 1 (Qb [0, 3, 27] (.reg [mv 18 0, mv 19 3, xo 20 (.idxS (.t 18) (.t 19)), bc 21 .lss 20 (.sc (.int .u8 33)), mv 22 21, mg 23 0 22 false, mg 24 3 22 false, xg 25 (.idxS (.t 23) (.t 24)) 22 false, xg 26 (.bin .gtr (.t 25) (.c (.sc (.int .u8 126)))) 22 false, xo 27 (.pick (.t 22) (.c (V.bool true)) (.t 26))]) (.cond (.t 27) (Qb [2] (.reg [mc 2 (V.bool false)]) .ret) .skip))) (.reg [mv 16 3, bc 17 .add 16 (V.int 1), mv 3 17])))))) (Qb [2] (.reg [mc 2 (V.bool true)]) .ret))) def r_ref03_Name : List Jf := [.tmp 2]
def vI (Γ : Env) (f : Nat) : Prop := ∀ (s : List UInt8) (hs : s.length < 2 ^ 60), EvN Γ f [V.str s] (V.bool (Q5 s))
theorem aix {Γ : Env} {f : Nat} (h : Has Γ.P f 28 aaA r_ref03_Name)  : vI Γ f := by
  intro s hs
  refine Qd h zsi zcl zcl fun C hC hm => ?_
  subst hC
  unfold aaA
  by_cases h0 : s.length < 1
  · have e1 : decide ((s.length : Int) < 1) = true := decide_eq_true (by omega)
    have e2 : Q5 s = false := by unfold Q5; rw [decide_eq_false (by omega : ¬ (s.length : Int) ≥ 1)]; simp
    rw [e2]
    (have zx := e1); exact zg
  have e1 : decide ((s.length : Int) < 1) = false := decide_eq_false (by omega)
  by_cases h1 : s.length > 32
  · have e3 : decide ((s.length : Int) > 32) = true := decide_eq_true (by omega)
    have e2 : Q5 s = false := by unfold Q5; rw [decide_eq_false (by omega : ¬ (s.length : Int) ≤ 32)]; simp
    rw [e2]
    (have zx := And.intro e1 e3); exact zg
  have e3 : decide ((s.length : Int) > 32) = false := decide_eq_false (by omega)
  have e2 : Q5 s = !s.any jA := by unfold Q5; rw [decide_eq_true (by omega : (s.length : Int) ≤ 32), decide_eq_true (by omega : (s.length : Int) ≥ 1)]; simp
  rw [e2]
  (have zx := And.intro e1 e3); refine zgo ?_; repeat' first | exact zt | apply zan | intro hc
  refine Y2 (ι := Nat) (fun k => k ≤ s.length ∧ (s.drop k).any jA = s.any jA) (fun k => [(3, V.int k)]) (fun k => s.length - k) 0 (by omega) ⟨by simp, by simp⟩ (by repeat' first | exact X2 | refine WM (by omega) (by simp only [Ob.lt, ltL, V.lt, and_self, and_true]; try omega) ?_) (fun i hi => by simp only [ovT, X0, Nat.reduceEqDiff, reduceIte]; (repeat' first | exact Ve | refine XO ?_ ?_ | simp only [V.lt, ltL, and_self, and_true] | omega)) zet fun k hk K' hL => ?_
  obtain ⟨hk, hinv⟩ := hk
  simp only [ovT, X0, Nat.reduceEqDiff, reduceIte]
  rcases hd : s.drop k with _ | ⟨c, r⟩
  · have := Je hd
    rw [hd] at hinv
    have e4 : decide ((k : Int) < ((s.length : Nat) : Int)) = false := by simp; omega
    rw [← hinv]
    (have zx := e4); refine zgo ?_; repeat' first | exact zt | apply zan | intro hc
    all_goals first | exact zr | (refine Qv _ rfl ?_; simp only [go_sem, Nat.reduceEqDiff, Nat.reduceAdd, reduceIte, reduceCtorEq]; simp; done) | trace_state
  · obtain ⟨hk', hget, hr⟩ := QJ hd
    have hst := am5 (p := jA) hd
    rw [hinv] at hst
    have hw := Qr (k := k) (by omega)
    have e4 : decide ((k : Int) < ((s.length : Nat) : Int)) = true := by simp; omega
    have e5 : decide ((c.toNat : Int) < 33) = decide ((c.toNat : Int) ≤ 32) := decide_eq_decide.2 (by omega)
    rcases h2 : decide ((c.toNat : Int) ≤ 32) with _ | _
    · rcases h3 : decide ((c.toNat : Int) > 126) with _ | _
      · have hb : jA c = false := by unfold jA; rw [h2, h3]; rfl
        rw [hb, Bool.false_or] at hst
        (have zx := And.intro e4 (And.intro hw (And.intro hget (And.intro e5 (And.intro h2 h3))))); refine zgo ?_; repeat' first | exact zt | apply zan | intro hc
        all_goals first
          | exact hL _ (k + 1) zet ⟨by omega, hst.symm⟩ (by omega) (fun a ha => by simp only [u32, u33, u34, u35, u36, u37, u38, u39]; repeat rw [if_neg (by omega)])
          | trace_state
      · have hb : jA c = true := by unfold jA; rw [h3, Bool.or_true]
        rw [hb, Bool.true_or] at hst
        rw [hst]
        (have zx := And.intro e4 (And.intro hw (And.intro hget (And.intro e5 (And.intro h2 h3))))); exact zg
    · have hb : jA c = true := by unfold jA; rw [h2, Bool.true_or]
      rw [hb, Bool.true_or] at hst
      rw [hst]
      (have zx := And.intro e4 (And.intro hw (And.intro hget (And.intro e5 h2)))); exact zg
def okP {α : Type} (p : α → Bool) (q : α → α → Bool) (l : List α) (k : Nat) : Bool := (List.range k).all fun i => match l[i]? with | some x => p x && (i == 0 || match l[i - 1]? with | some y => q y x | none => false) | none => false
theorem alr {α : Type} (p : α → Bool) (q : α → α → Bool) (l : List α) : okP p q l 0 = true := rfl
theorem afH {α : Type} (p : α → Bool) (q : α → α → Bool) (l : List α) (k : Nat) : okP p q l (k + 1) = (okP p q l k && match l[k]? with | some x => p x && (k == 0 || match l[k - 1]? with | some y => q y x | none => false) | none => false) := by
  rw [okP, okP, List.range_succ, List.all_append]; simp
theorem aqO {α : Type} {p : α → Bool} {q : α → α → Bool} {l : List α} {k n : Nat} (h : okP p q l k = false) (hk : k ≤ n) : okP p q l n = false := by
  rw [okP, List.all_eq_false] at h ⊢
  obtain ⟨i, hi, h⟩ := h
  exact ⟨i, List.mem_range.2 (Nat.lt_of_lt_of_le (List.mem_range.1 hi) hk), h⟩
theorem aqM {α : Type} {p : α → Bool} {q : α → α → Bool} {l : List α} {x : α} (h : l[0]? = some x) : okP p q l 1 = p x := by
  rw [afH, alr, h]; simp
theorem apc {α : Type} {p : α → Bool} {q : α → α → Bool} {l : List α} {k : Nat} {x y : α} (h : l[k + 1]? = some x) (h' : l[k]? = some y) : okP p q l (k + 2) = (okP p q l (k + 1) && (p x && q y x)) := by
  rw [afH, h]; simp [h']
def aqn (a b k : Int) : Bool := decide (Q4 a b > 0) && ((Uh a).kind == k)
def asN (n : Int) : Bool := decide (n ≥ 0) && decide (n ≤ 2147483648)
def atl (n : Int) : Bool := decide (n ≥ 0) && decide (n < 4294967296)
def arO (l : List (List UInt8)) : Bool := okP Q5 Op.bytesLess l l.length && decide ((l.length : Int) ≤ 8)
structure aes where
  serial : Int
  issuer : List UInt8
  subject : List UInt8
  kalg : Int
  kbits : Int
  kid : Int
  halg : Int
  hbits : Int
  from_ : Int
  to_ : Int
  auth : Bool
  path : Int
  names : List (List UInt8)
  skey : Int
  ssum : Int
def aes.cells (c : aes) : List V := [V.int c.serial, V.str c.issuer, V.str c.subject, V.int c.kalg, V.int c.kbits, V.int c.kid, V.int c.halg, V.int c.hbits, V.int c.from_, V.int c.to_, V.bool c.auth, V.int c.path, .sl 1 (c.names.map V.str), V.int c.skey, V.int c.ssum]
def aes.v (c : aes) : V := .agg c.cells
def as5 (c : aes) : Bool := decide (c.serial < 0) || (decide (c.serial > 1099511627776) || (!Q5 c.issuer || (!Q5 c.subject || !arO c.names)))
def as4 (c : aes) : Bool := !aqn c.kalg c.kbits 2 || (!asN c.kid || (!aqn c.halg c.hbits 1 || (!asN c.skey || !atl c.ssum)))
def as3 (c : aes) : Bool := decide (c.from_ < 0) || (decide (c.from_ > c.to_) || decide (c.to_ > 40000))
def as2 (c : aes) : Bool := decide (c.path ≥ 0) && (decide (c.path ≤ 8) && (c.auth || (c.path == 0)))
def as1 (c : aes) : Bool := !as5 c && (!as4 c && (!as3 c && as2 c))
def yC : AC := Qb [0] (.reg [mc 2 (V.bool false)]) (Qb [0] (Qb [0, 6, 7, 8] (.reg [mv 5 0, xo 6 (.convSB (.t 5)), ln 7 6, mc 8 (V.int 0)]) (.block 0 (Y6 [0, 6, 7, 8] (Qb [0, 6, 7, 8, 9] (.reg [bn 9 .lss 8 7]) (Qb [0, 6, 7, 8] (.cond (.t 9) .skip (.exit 0)) (Qb [0, 6, 7, 8] (.block 1 (Qb [0, 4, 6, 7, 8] (.reg [ia 10 1 6 8, ld 11 1 10, mv 4 11]) (Qb [0, 6, 7, 8, 17] (.reg [mv 12 4, bc 13 .leq 12 (.sc (.int .u8 32)), mv 14 13, mg 15 4 14 false, xg 16 (.bin .gtr (.t 15) (.c (.sc (.int .u8 126)))) 14 false, xo 17 (.pick (.t 14) (.c (V.bool true)) (.t 16))]) (.cond (.t 17) (Qb [2] (.reg [mc 2 (V.bool false)]) .ret) .skip)))) (.reg [bc 18 .add 8 (V.int 1), mv 8 18]))))))) (Qb [2] (.reg [mv 19 0, xo 20 (.lenS (.t 19)), bc 21 .geq 20 (V.int 1), mv 22 21, mg 23 0 22 true, xg 24 (.lenS (.t 23)) 22 true, xg 25 (.bin .leq (.t 24) (.c (V.int 32))) 22 true, xo 26 (.pick (.t 22) (.t 25) (.c (V.bool false))), mv 2 26]) .ret)) def r_catalog_Named : List Jf := [.tmp 2]
def Uq (Γ : Env) (f : Nat) : Prop := ∀ (s : List UInt8) (hs : s.length < 2 ^ 60), EvN Γ f [V.str s] (V.bool (Q5 s))
attribute [local go_sem] Wo in
theorem afA {Γ : Env} {f : Nat} (h : Has Γ.P f 27 yC r_catalog_Named)  : Uq Γ f := by
  intro s hs
  refine Qd h zsi zcl zcl fun C hC hm => ?_
  subst hC
  unfold yC
  refine zgo ?_; repeat' first | exact zt | apply zan | intro hc
  refine QH (ι := Nat) (fun k => k ≤ s.length ∧ (s.drop k).any jA = s.any jA) (fun k => Wo [(0, V.str s), (6, .hd 0 0 s.length), (7, V.int s.length), (8, V.int k)] [(0, .buf false 1 (s.map fun c => V.sc (.int .u8 c.toNat)))] 1) (fun k => s.length - k) 0 ⟨by omega, by simp⟩ (Ql [(0, 2000)]) (zwg [(0, 2000)]) fun k hk K' hL => ?_
  obtain ⟨hk, hinv⟩ := hk
  rcases hd : s.drop k with _ | ⟨c, r⟩
  · have hkl := Je hd
    rw [hd] at hinv
    have e1 : decide ((k : Int) < ((s.length : Nat) : Int)) = false := by simp; omega
    have hok : Q5 s = (decide ((s.length : Int) ≥ 1) && decide ((s.length : Int) ≤ 32)) := by rw [Q5, ← hinv]; rfl
    rw [hok]
    rcases hq : decide ((s.length : Int) ≥ 1) with _ | _
    · (have zx := And.intro e1 hq); exact zg
    · (have zx := And.intro e1 hq); refine zgo ?_; repeat' first | exact zt | apply zan | intro hc
      all_goals first | exact zr | (refine Qv _ rfl ?_; simp only [go_sem, Nat.reduceEqDiff, Nat.reduceAdd, reduceIte, reduceCtorEq]; simp; done) | trace_state
  · obtain ⟨hk', hget, hr⟩ := QJ hd
    rw [hd] at hinv
    have hw := Qr (k := k) (by omega)
    have e1 : decide ((k : Int) < ((s.length : Nat) : Int)) = true := by simp; omega
    rcases h1 : decide ((c.toNat : Int) ≤ 32) with _ | _
    · rcases h2 : decide ((c.toNat : Int) > 126) with _ | _
      · (have zx := And.intro e1 (And.intro hw (And.intro hget (And.intro h1 h2)))); refine zgo ?_; repeat' first | exact zt | apply zan | intro hc
        all_goals first
          | exact hL _ (k + 1) (Ql [(0, 0)]) ⟨by omega, by rw [hr, ← hinv]; simp only [List.any_cons, jA, h1, h2, Bool.or_self, Bool.false_or]⟩ (by omega) (zwg [(0, 0)])
          | trace_state
      · have hok : Q5 s = false := by rw [Q5, ← hinv]; simp only [List.any_cons, jA, h2, Bool.or_true, Bool.true_or, Bool.not_true, Bool.false_and]
        rw [hok]
        (have zx := And.intro e1 (And.intro hw (And.intro hget (And.intro h1 h2)))); exact zg
    · have hok : Q5 s = false := by rw [Q5, ← hinv]; simp only [List.any_cons, jA, h1, Bool.or_true, Bool.true_or, Bool.not_true, Bool.false_and]
      rw [hok]
      (have zx := And.intro e1 (And.intro hw (And.intro hget h1))); exact zg
def K3 (Xl xD : Nat) : AC := Qb [1] (.reg [xo 1 (.box true 2 (.t 0)), mc 2 (V.bool false)]) (Qb [2] (.reg [xo 3 (.load true 2 (.t 1)), cl 4 Xl [3], mv 5 4, xg 6 (.faddr 0 (.t 1)) 5 true, xg 7 (.load false 1 (.t 6)) 5 true, xg 8 (.call xD [(.t 7)]) 5 true, xg 9 (.bin .eql (.t 8) (.c (V.int 2))) 5 true, xo 10 (.pick (.t 5) (.t 9) (.c (V.bool false))), mv 2 10]) .ret) def r_ref03_Signature : List Jf := [.tmp 2]
def Ku (Γ : Env) (f : Nat) : Prop := ∀ (a b : Int), EvN Γ f [.agg [V.int a, V.int b]] (V.bool (aqn a b 2))
theorem ac4 {Γ : Env} {f Xl xD : Nat} (h : Has Γ.P f 11 (K3 Xl xD) r_ref03_Signature) (z0 : qF Γ Xl) (z1 : vK Γ xD) : Ku Γ f := by
  intro a b
  refine Qd h zsi zcl zcl fun C hC hm => ?_
  subst hC
  unfold K3
  unfold aqn
  rcases hq : decide (Q4 a b > 0) with _ | _
  · (have zx := hq); refine zgo ?_; repeat' first | exact zt | apply zan | intro hc
    all_goals first | exact zr | (refine Qv _ rfl ?_; simp only [go_sem, Nat.reduceEqDiff, Nat.reduceAdd, reduceIte, reduceCtorEq]; simp [*]; done) | trace_state
  · (have zx := hq); refine zgo ?_; repeat' first | exact zt | apply zan | intro hc
    all_goals first | exact zr | (refine Qv _ rfl ?_; simp only [go_sem, Nat.reduceEqDiff, Nat.reduceAdd, reduceIte, reduceCtorEq]; simp [*]; done) | trace_state
end Av
end

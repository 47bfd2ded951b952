/- K16 -/
import Derived.Test.YtlpaikjhphkioaaGreatK15
import Derived.Test.YtlpaikjhphkioaaGreatK13
import Derived.Test.YtlpaikjhphkioaaGreatK11
set_option linter.unusedVariables false
set_option linter.unusedSimpArgs false
section
set_option maxRecDepth 10000
set_option maxHeartbeats 4000000
namespace Av
open Go
attribute [local irreducible] AWp wo acE afd awS awC al0 awQ am3 YI adu ak3 awR aeq awB okR afY ris
def ai2 (ls : List (List Qi)) (k : Nat) : Nat := (ls.take k).flatten.length
theorem ai1 {ls : List (List Qi)} {k : Nat} {f : List Qi} (h : ls[k]? = some f) : ai2 ls (k + 1) = ai2 ls k + f.length := by
  simp [ai2, List.take_add_one, h]
theorem anh (ls : List (List Qi)) (k : Nat) : ai2 ls k ≤ ls.flatten.length := by
  have h : ls.flatten = (ls.take k).flatten ++ (ls.drop k).flatten := by rw [← List.flatten_append, List.take_append_drop]
  rw [ai2, h, List.length_append]; omega
def ccS (ls : List (List Qi)) (k : Nat) : St := Wo [(6, .hd 0 0 (ai2 ls k)), (25, .sl 1 (ls.map fcv)), (26, V.int ls.length), (27, V.int k)] [(0, .buf true 8 ((ls.take k).flatten.map Qi.v))] 1
def XJ (Γ : Env) (f : Nat) : Prop := ∀ (n : Nat) (hn : n < 2 ^ 30), EvW Γ f [.sc (.slice none 0 0), V.int n] 8 ([] : List V)
def J7 (Jj : Nat) : AC := Qb [0] (.reg [xo 2 (.mknil 8)]) (Qb [0, 3] (.reg [mc 3 (V.int 0)]) (Qb [0, 3] (Qb [0, 3, 9, 10, 11] (.reg [mv 9 0, ln 10 9, mc 11 (V.int 0)]) (.block 0 (Y6 [0, 3, 9, 10, 11] (Qb [0, 3, 9, 10, 11, 12] (.reg [bn 12 .lss 11 10]) (Qb [0, 3, 9, 10, 11] (.cond (.t 12) .skip (.exit 0)) (Qb [0, 3, 9, 10, 11] (.block 1 (Qb [0, 3, 5, 9, 10, 11] (.reg [ia 13 1 9 11, ld 14 1 13, mv 5 14]) (Qb [0, 3, 9, 10, 11] (.reg [mv 15 3, mv 16 5, ln 17 16, bn 18 .add 15 17, mv 3 18]) (Qb [0, 3, 9, 10, 11, 20] (.reg [mv 19 3, bc 20 .lss 19 (V.int 0)]) (.cond (.t 20) (.reg [xo 21 (.mkif (.c (V.str [108, 101, 110, 32, 111, 117, 116, 32, 111, 102, 32, 114, 97, 110, 103, 101]))), ⟨none, .lenL (.c .top), none⟩]) .skip))))) (.reg [bc 22 .add 11 (V.int 1), mv 11 22]))))))) (Qb [0, 6] (.reg [mv 23 3, xo 24 (.call Jj [(.c (.sc vn0)), (.t 23)]), mv 6 24]) (Qb [6] (Qb [6, 25, 26, 27] (.reg [mv 25 0, ln 26 25, mc 27 (V.int 0)]) (.block 2 (Y6 [6, 25, 26, 27] (Qb [6, 25, 26, 27, 28] (.reg [bn 28 .lss 27 26]) (Qb [6, 25, 26, 27] (.cond (.t 28) .skip (.exit 2)) (Qb [6, 25, 26, 27] (.block 3 (Qb [6, 8, 25, 26, 27] (.reg [ia 29 1 25 27, ld 30 1 29, mv 8 30]) (.reg [mv 31 6, mv 32 8, xo 33 (.append 8 80 [vi0, vs0, vi0, vi0, vi0, vi0, vs0, vi0] (.t 31) (.t 32)), mv 6 33]))) (.reg [bc 34 .add 27 (V.int 1), mv 27 34]))))))) (Qb [2] (.reg [mv 35 6, mv 2 35]) .ret))))) def r_slices_Concat___api_Fact_api_Fact : List Jf := [.tmp 2]
def J2 (Γ : Env) (f : Nat) : Prop := ∀ (ls : List (List Qi)) (hn : ls.length < 2 ^ 30) (ht : ls.flatten.length < 2 ^ 30), EvW Γ f [.sl 1 (ls.map fcv)] 8 (ls.flatten.map Qi.v)
attribute [local go_sem] Wo in
theorem Uf {Γ : Env} {f Jj : Nat} (h : Has Γ.P f 36 (J7 Jj) r_slices_Concat___api_Fact_api_Fact) (z0 : XJ Γ Jj) : J2 Γ f := by
  intro ls hn ht
  refine KX h (by simp) (by first | exact agc _ | exact afS _ | (intro x hx; obtain ⟨y, _, rfl⟩ := List.mem_map.1 hx; simp only [Qi.v, Qi.cells, V.noSl, yX, and_self])) fun C hC hm => ?_
  subst hC
  unfold J7
  have hal : (ls.map fcv).length = ls.length := List.length_map _
  (have zx := hal); refine zgo ?_; repeat' first | exact zt | apply zan | intro hc
  refine Y2 (ι := Nat) (fun k => k ≤ ls.length) (fun k => [(3, V.int (ai2 ls k)), (11, V.int k)]) (fun k => ls.length - k) 0 (by omega) (Nat.zero_le _) (by repeat' first | exact X2 | refine WM (by omega) (by simp only [Ob.lt, ltL, V.lt, and_self, and_true]; try omega) ?_) (fun i hi => by simp only [ovT, X0, Nat.reduceEqDiff, reduceIte]; (repeat' first | exact Ve | refine XO ?_ ?_ | simp only [V.lt, ltL, and_self, and_true] | omega)) (by simp only [Nat.reduceAdd, ovT, X0, Nat.reduceEqDiff, reduceIte, aa6, aei, aqB, u32, u33, u34, u35, u36, u37, u38, u39, and_self, and_true, true_and]; simp [ai2]) fun k hk K' hL => ?_
  simp only [ovT, X0, Nat.reduceEqDiff, reduceIte]
  rcases hdr : ls.drop k with _ | ⟨f, r⟩
  rotate_left
  · obtain ⟨hk', hget, hr⟩ := QJ hdr
    have hw := Qr (k := k) (by omega)
    have e1 : decide ((k : Int) < (ls.length : Int)) = true := by simp; omega
    have vf : (ls.map fcv)[k]? = some (.sl 8 (f.map Qi.v)) := by rw [List.getElem?_map, hget]; rfl
    have hfl : (f.map Qi.v).length = f.length := List.length_map _
    have hsu := ai1 hget
    have hle := anh ls (k + 1)
    have hw2 : IntKind.i64.wrap (((ai2 ls k : Nat) : Int) + ((f.length : Nat) : Int)) = ((ai2 ls (k + 1) : Nat) : Int) := by rw [Ym (by omega) (by omega), hsu]; simp
    have e2 : decide (((ai2 ls (k + 1) : Nat) : Int) < 0) = false := by simp
    (have zx := And.intro e1 (And.intro e2 (And.intro hal (And.intro hw (And.intro hw2 (And.intro vf hfl)))))); refine zgo ?_; repeat' first | exact zt | apply zan | intro hc
    all_goals first | exact hL _ (k + 1) zet (by omega) (by omega) (fun a ha => by simp only [u32, u33, u34, u35, u36, u37, u38, u39]; repeat rw [if_neg (by omega)]) | trace_state
  have hkl := Je hdr
  have e1 : decide ((k : Int) < (ls.length : Int)) = false := by simp; omega
  obtain rfl : k = ls.length := by omega
  have htt : ai2 ls ls.length = ls.flatten.length := by rw [ai2, List.take_length]
  have gW := z0 (ai2 ls ls.length) (by omega)
  clear hL
  (have zx := And.intro e1 hal); refine zgo ?_; repeat' first | exact zt | apply zan | intro hc
  refine QH (ι := Nat) (fun k => k ≤ ls.length) (fun k => ccS ls k) (fun k => ls.length - k) 0 (Nat.zero_le _) (Ql [(0, 7000)]) (Qu [(0, 7000)] (by simp only [go_sem, zwl, Nat.reduceAdd, Nat.reduceMul, Nat.reduceEqDiff, Nat.reduceLT, Int.reduceToNat, reduceIte, reduceCtorEq, ccS, ai2, List.take_zero, List.flatten_nil, List.length_nil, hal] <;> exact zcc) (by simp only [go_sem, zwl, Nat.reduceAdd, Nat.reduceMul, Nat.reduceEqDiff, Nat.reduceLT, Int.reduceToNat, reduceIte, reduceCtorEq, ccS, List.take_zero, List.flatten_nil, List.map_nil] <;> exact zcc) (by simp [ccS, Ql]) (by simp [ccS]; omega) (by omega)) fun k hk K' hL => ?_
  rcases hdr : ls.drop k with _ | ⟨f, r⟩
  · have hkl := Je hdr
    have e1 : decide ((k : Int) < (ls.length : Int)) = false := by simp; omega
    obtain rfl : k = ls.length := by omega
    have htk : ls.take ls.length = ls := List.take_length
    simp only [ccS, htk, htt]
    have htl : List.take ls.flatten.length (ls.flatten.map Qi.v) = ls.flatten.map Qi.v := List.take_of_length_le (by rw [List.length_map]; exact Nat.le_refl _)
    have hmm : ls.flatten.length = (ls.flatten.map Qi.v).length := (List.length_map _).symm
    (have zx := And.intro e1 htl); refine zgo ?_; repeat' first | exact zt | apply zan | intro hc
    all_goals first | (refine ads (xs := ls.flatten.map Qi.v) _ _ rfl ?_ ?_ <;> first | exact hmm | exact hmm.symm | rfl | (simp; done)) | trace_state
  obtain ⟨hk', hget, hr⟩ := QJ hdr
  have hw := Qr (k := k) (by omega)
  have e1 : decide ((k : Int) < (ls.length : Int)) = true := by simp; omega
  have vf : (ls.map fcv)[k]? = some (.sl 8 (f.map Qi.v)) := by rw [List.getElem?_map, hget]; rfl
  have hfl : (f.map Qi.v).length = f.length := List.length_map _
  have hsu := ai1 hget
  have hle := anh ls (k + 1)
  have hnx : (ls.take (k + 1)).flatten = (ls.take k).flatten ++ f := by simp [List.take_add_one, hget]
  have hol : ((ls.take k).flatten.map Qi.v).length = ai2 ls k := by rw [List.length_map]; rfl
  have htl : List.take (ai2 ls k) ((ls.take k).flatten.map Qi.v) = (ls.take k).flatten.map Qi.v := List.take_of_length_le (by omega)
  have hcl : ∀ y ∈ f.map Qi.v, y.cells.length = 8 := by intro y hy; obtain ⟨z, _, rfl⟩ := List.mem_map.1 hy; rfl
  simp only [ccS]
  (have zx := And.intro e1 (And.intro hw (And.intro vf (And.intro hfl (And.intro hol htl))))); refine zgo ?_; repeat' first | exact zt | apply zan | intro hc
  all_goals first | exact hL _ (k + 1) (Ql [(0, 6001)]) (by omega) (by omega) (Qu [(0, 6001)] (by simp only [go_sem, zwl, Nat.reduceAdd, Nat.reduceMul, Nat.reduceEqDiff, Nat.reduceLT, Int.reduceToNat, reduceIte, reduceCtorEq, ccS, hsu, hal] <;> exact zcc) (by simp only [go_sem, zwl, Nat.reduceAdd, Nat.reduceMul, Nat.reduceEqDiff, Nat.reduceLT, Int.reduceToNat, reduceIte, reduceCtorEq, ccS, hnx, List.map_append] <;> exact zcc) (by simp [ccS, Ql]) (by simp [ccS]; omega) (by omega)) | trace_state
structure JY where
  allow : Bool
  alg : Int
  below : Int
  purp : Int
  frm : Int
  til : Int
def JY.cells (r : JY) : List V := [V.bool r.allow, V.int r.alg, V.int r.below, V.int r.purp, V.int r.frm, V.int r.til]
abbrev JY.v (r : JY) : V := .agg r.cells
theorem JY.cells_closed (r : JY) : Qh r.cells := by simp only [JY.cells, V.closed, Qh, and_self]
structure Wk where
  purp : Int
  days : Int
def Wk.cells (k : Wk) : List V := [V.int k.purp, V.int k.days]
abbrev Wk.v (k : Wk) : V := .agg k.cells
theorem Wk.cells_closed (k : Wk) : Qh k.cells := by simp only [Wk.cells, V.closed, Qh, and_self]
def Wz (r : JY) : Bool := decide (r.alg ≥ 0) && decide (r.alg ≤ 22) && decide (r.below ≥ 0) && decide (r.below ≤ 16384) && decide (r.purp ≥ 0) && decide (r.purp ≤ 4) && decide (r.frm ≥ 0) && decide (r.frm < r.til) && decide (r.til ≤ 40001)
def abE (k : Wk) : Bool := decide (k.purp ≥ 1) && decide (k.purp ≤ 4) && decide (k.days ≥ 0) && decide (k.days ≤ 40000)
abbrev ap1 (rs : List JY) (ks : List Wk) : V := .agg [.sl 6 (rs.map JY.v), .sl 2 (ks.map Wk.v)]
def wC (rs : List JY) (ks : List Wk) : Int := if (rs.all Wz && ks.all abE && decide (rs.length ≤ 60) && decide (ks.length ≤ 60)) = true then 0 else 25
theorem adV {α : Type} (p : α → Bool) : ∀ (xs : List α) (k : Nat), decide (aa7 p k xs ≥ 0) = xs.any p
  | [], k => by simp [aa7]
  | x :: r, k => by
    have ih := adV p r (k + 1)
    rw [aa7, List.any_cons]
    by_cases h : p x = true
    · rw [if_pos h, h]; simp
    · have h2 : p x = false := by simpa using h
      rw [if_neg h, h2, ih]; rfl
theorem am4 {α : Type} (p : α → Bool) (xs : List α) : xs.any (fun x => !p x) = !xs.all p := by
  induction xs with
  | nil => rfl
  | cons x r ih => rw [List.any_cons, List.all_cons, ih, Bool.not_and]
def aaw : AC := Qb [1] (.reg [xo 1 (.box true 6 (.t 0)), mc 2 (V.bool false)]) (Qb [2] (.reg [fa 3 1 1, ld 4 1 3, bc 5 .geq 4 (V.int 0), mv 6 5, xg 7 (.faddr 1 (.t 1)) 6 true, xg 8 (.load false 1 (.t 7)) 6 true, xg 9 (.bin .leq (.t 8) (.c (V.int 22))) 6 true, xo 10 (.pick (.t 6) (.t 9) (.c (V.bool false))), mv 11 10, xg 12 (.faddr 2 (.t 1)) 11 true, xg 13 (.load false 1 (.t 12)) 11 true, xg 14 (.bin .geq (.t 13) (.c (V.int 0))) 11 true, xo 15 (.pick (.t 11) (.t 14) (.c (V.bool false))), mv 16 15, xg 17 (.faddr 2 (.t 1)) 16 true, xg 18 (.load false 1 (.t 17)) 16 true, xg 19 (.bin .leq (.t 18) (.c (V.int 16384))) 16 true, xo 20 (.pick (.t 16) (.t 19) (.c (V.bool false))), mv 21 20, xg 22 (.faddr 3 (.t 1)) 21 true, xg 23 (.load false 1 (.t 22)) 21 true, xg 24 (.bin .geq (.t 23) (.c (V.int 0))) 21 true, xo 25 (.pick (.t 21) (.t 24) (.c (V.bool false))), mv 26 25, xg 27 (.faddr 3 (.t 1)) 26 true, xg 28 (.load false 1 (.t 27)) 26 true, xg 29 (.bin .leq (.t 28) (.c (V.int 4))) 26 true, xo 30 (.pick (.t 26) (.t 29) (.c (V.bool false))), mv 31 30, xg 32 (.faddr 4 (.t 1)) 31 true, xg 33 (.load false 1 (.t 32)) 31 true, xg 34 (.bin .geq (.t 33) (.c (V.int 0))) 31 true, xo 35 (.pick (.t 31) (.t 34) (.c (V.bool false))), mv 36 35, xg 37 (.faddr 4 (.t 1)) 36 true, xg 38 (.load false 1 (.t 37)) 36 true, xg 39 (.faddr 5 (.t 1)) 36 true, xg 40 (.load false 1 (.t 39)) 36 true, xg 41 (.bin .lss (.t 38) (.t 40)) 36 true, xo 42 (.pick (.t 36) (.t 41) (.c (V.bool false))), mv 43 42, xg 44 (.faddr 5 (.t 1)) 43 true, xg 45 (.load false 1 (.t 44)) 43 true, xg 46 (.bin .leq (.t 45) (.c (V.int 40001))) 43 true, xo 47 (.pick (.t 43) (.t 46) (.c (V.bool false))), mv 2 47]) .ret) def r_rule_ruled : List Jf := [.tmp 2]
def vG (Γ : Env) (f : Nat) : Prop := ∀ (r : JY), EvN Γ f [r.v] (V.bool (Wz r))
attribute [local go_sem] JY.cells in
theorem ait {Γ : Env} {f : Nat} (h : Has Γ.P f 48 aaw r_rule_ruled)  : vG Γ f := by
  intro r
  refine Qd h zsi zcl zcl fun C hC hm => ?_
  subst hC
  unfold aaw
  rcases h1 : decide (r.alg ≥ 0) with _ | _
  · have hr : Wz r = false := by simp only [Wz, h1, Bool.and_false, Bool.false_and, Bool.and_true, Bool.true_and]
    rw [hr]
    (have zx := h1); exact zg
  rcases h2 : decide (r.alg ≤ 22) with _ | _
  · have hr : Wz r = false := by simp only [Wz, h1, h2, Bool.and_false, Bool.false_and, Bool.and_true, Bool.true_and]
    rw [hr]
    (have zx := And.intro h1 h2); exact zg
  rcases h3 : decide (r.below ≥ 0) with _ | _
  · have hr : Wz r = false := by simp only [Wz, h1, h2, h3, Bool.and_false, Bool.false_and, Bool.and_true, Bool.true_and]
    rw [hr]
    (have zx := And.intro h1 (And.intro h2 h3)); exact zg
  rcases h4 : decide (r.below ≤ 16384) with _ | _
  · have hr : Wz r = false := by simp only [Wz, h1, h2, h3, h4, Bool.and_false, Bool.false_and, Bool.and_true, Bool.true_and]
    rw [hr]
    (have zx := And.intro h1 (And.intro h2 (And.intro h3 h4))); exact zg
  rcases h5 : decide (r.purp ≥ 0) with _ | _
  · have hr : Wz r = false := by simp only [Wz, h1, h2, h3, h4, h5, Bool.and_false, Bool.false_and, Bool.and_true, Bool.true_and]
    rw [hr]
    (have zx := And.intro h1 (And.intro h2 (And.intro h3 (And.intro h4 h5)))); exact zg
  rcases h6 : decide (r.purp ≤ 4) with _ | _
  · have hr : Wz r = false := by simp only [Wz, h1, h2, h3, h4, h5, h6, Bool.and_false, Bool.false_and, Bool.and_true, Bool.true_and]
    rw [hr]
    (have zx := And.intro h1 (And.intro h2 (And.intro h3 (And.intro h4 (And.intro h5 h6))))); exact zg
  rcases h7 : decide (r.frm ≥ 0) with _ | _
  · have hr : Wz r = false := by simp only [Wz, h1, h2, h3, h4, h5, h6, h7, Bool.and_false, Bool.false_and, Bool.and_true, Bool.true_and]
    rw [hr]
    (have zx := And.intro h1 (And.intro h2 (And.intro h3 (And.intro h4 (And.intro h5 (And.intro h6 h7)))))); exact zg
  rcases h8 : decide (r.frm < r.til) with _ | _
  · have hr : Wz r = false := by simp only [Wz, h1, h2, h3, h4, h5, h6, h7, h8, Bool.and_false, Bool.false_and, Bool.and_true, Bool.true_and]
    rw [hr]
    (have zx := And.intro h1 (And.intro h2 (And.intro h3 (And.intro h4 (And.intro h5 (And.intro h6 (And.intro h7 h8))))))); exact zg
  rcases h9 : decide (r.til ≤ 40001) with _ | _
  · have hr : Wz r = false := by simp only [Wz, h1, h2, h3, h4, h5, h6, h7, h8, h9, Bool.and_false, Bool.false_and, Bool.and_true, Bool.true_and]
    rw [hr]
    (have zx := And.intro h1 (And.intro h2 (And.intro h3 (And.intro h4 (And.intro h5 (And.intro h6 (And.intro h7 (And.intro h8 h9)))))))); exact zg
  have hr : Wz r = true := by simp only [Wz, h1, h2, h3, h4, h5, h6, h7, h8, h9, Bool.and_self]
  rw [hr]
  (have zx := And.intro h1 (And.intro h2 (And.intro h3 (And.intro h4 (And.intro h5 (And.intro h6 (And.intro h7 (And.intro h8 h9)))))))); exact zg
def aci : AC := Qb [1] (.reg [xo 1 (.box true 2 (.t 0)), mc 2 (V.bool false)]) (Qb [2] (.reg [fa 3 0 1, ld 4 1 3, bc 5 .geq 4 (V.int 1), mv 6 5, xg 7 (.faddr 0 (.t 1)) 6 true, xg 8 (.load false 1 (.t 7)) 6 true, xg 9 (.bin .leq (.t 8) (.c (V.int 4))) 6 true, xo 10 (.pick (.t 6) (.t 9) (.c (V.bool false))), mv 11 10, xg 12 (.faddr 1 (.t 1)) 11 true, xg 13 (.load false 1 (.t 12)) 11 true, xg 14 (.bin .geq (.t 13) (.c (V.int 0))) 11 true, xo 15 (.pick (.t 11) (.t 14) (.c (V.bool false))), mv 16 15, xg 17 (.faddr 1 (.t 1)) 16 true, xg 18 (.load false 1 (.t 17)) 16 true, xg 19 (.bin .leq (.t 18) (.c (V.int 40000))) 16 true, xo 20 (.pick (.t 16) (.t 19) (.c (V.bool false))), mv 2 20]) .ret) def r_rule_kept : List Jf := [.tmp 2]
def aaP (Γ : Env) (f : Nat) : Prop := ∀ (k : Wk), EvN Γ f [k.v] (V.bool (abE k))
attribute [local go_sem] Wk.cells in
theorem ajJ {Γ : Env} {f : Nat} (h : Has Γ.P f 21 aci r_rule_kept)  : aaP Γ f := by
  intro k
  refine Qd h zsi zcl zcl fun C hC hm => ?_
  subst hC
  unfold aci
  rcases h1 : decide (k.purp ≥ 1) with _ | _
  · have hr : abE k = false := by simp only [abE, h1, Bool.and_false, Bool.false_and, Bool.and_true, Bool.true_and]
    rw [hr]
    (have zx := h1); exact zg
  rcases h2 : decide (k.purp ≤ 4) with _ | _
  · have hr : abE k = false := by simp only [abE, h1, h2, Bool.and_false, Bool.false_and, Bool.and_true, Bool.true_and]
    rw [hr]
    (have zx := And.intro h1 h2); exact zg
  rcases h3 : decide (k.days ≥ 0) with _ | _
  · have hr : abE k = false := by simp only [abE, h1, h2, h3, Bool.and_false, Bool.false_and, Bool.and_true, Bool.true_and]
    rw [hr]
    (have zx := And.intro h1 (And.intro h2 h3)); exact zg
  rcases h4 : decide (k.days ≤ 40000) with _ | _
  · have hr : abE k = false := by simp only [abE, h1, h2, h3, h4, Bool.and_false, Bool.false_and, Bool.and_true, Bool.true_and]
    rw [hr]
    (have zx := And.intro h1 (And.intro h2 (And.intro h3 h4))); exact zg
  have hr : abE k = true := by simp only [abE, h1, h2, h3, h4, Bool.and_self]
  rw [hr]
  (have zx := And.intro h1 (And.intro h2 (And.intro h3 h4))); exact zg
def xV (xB : Nat) : AC := Qb [1] (.reg [xo 1 (.box true 6 (.t 0)), mc 2 (V.bool false)]) (Qb [2] (.reg [xo 3 (.load true 6 (.t 1)), cl 4 xB [3], xo 5 (.un .not (.t 4)), mv 2 5]) .ret) def r_rule_Check_1 : List Jf := [.tmp 2]
def yP (Γ : Env) (f : Nat) : Prop := ∀ (r : JY), EvN Γ f [r.v] (V.bool (!Wz r))
theorem agw {Γ : Env} {f xB : Nat} (h : Has Γ.P f 6 (xV xB) r_rule_Check_1) (z0 : vG Γ xB) : yP Γ f := by
  intro r
  refine Qd h zsi zcl zcl fun C hC hm => ?_
  subst hC
  unfold xV
  have h := (z0 r).b
  simp only [JY.v, JY.cells] at h ⊢
  exact zg
def xU (w9 : Nat) : AC := Qb [1] (.reg [xo 1 (.box true 2 (.t 0)), mc 2 (V.bool false)]) (Qb [2] (.reg [xo 3 (.load true 2 (.t 1)), cl 4 w9 [3], xo 5 (.un .not (.t 4)), mv 2 5]) .ret) def r_rule_Check_2 : List Jf := [.tmp 2]
def yO (Γ : Env) (f : Nat) : Prop := ∀ (k : Wk), EvN Γ f [k.v] (V.bool (!abE k))
theorem agv {Γ : Env} {f w9 : Nat} (h : Has Γ.P f 6 (xU w9) r_rule_Check_2) (z0 : aaP Γ w9) : yO Γ f := by
  intro k
  refine Qd h zsi zcl zcl fun C hC hm => ?_
  subst hC
  unfold xU
  have h := (z0 k).b
  simp only [Wk.v, Wk.cells] at h ⊢
  exact zg
def JL : AC := Qb [0, 1] (.reg [mc 4 (V.int 0)]) (Qb [] (Qb [0, 1, 7, 8] (.reg [mv 6 0, ln 7 6, mc 8 (V.int 0)]) (.block 0 (Y6 [0, 1, 7, 8] (Qb [0, 1, 7, 8, 9] (.reg [bn 9 .lss 8 7]) (Qb [0, 1, 7, 8] (.cond (.t 9) .skip (.exit 0)) (Qb [0, 1, 7, 8] (.block 1 (Qb [0, 1, 5, 7, 8] (.reg [mv 10 8, mv 5 10]) (Qb [0, 1, 5, 7, 8, 16] (.reg [mv 11 1, mv 12 0, mv 13 5, ia 14 6 12 13, xo 15 (.load true 6 (.t 14)), xo 16 (.callv (.t 11) [(.t 15)])]) (.cond (.t 16) (Qb [4] (.reg [mv 17 5, mv 4 17]) .ret) .skip)))) (.reg [bc 18 .add 8 (V.int 1), mv 8 18]))))))) (Qb [4] (.reg [mc 4 (V.int (-1))]) .ret)) def r_slices_IndexFunc___api_Rule_api_Rule : List Jf := [.tmp 4]
def Jv (Γ : Env) (f : Nat) : Prop := ∀ (xs : List JY) (g : Nat) (p : JY → Bool) (hp : ∀ x, EvN Γ g [JY.v x] (V.bool (p x))) (hl : xs.length < 2 ^ 62), EvN Γ f [.sl 6 (xs.map JY.v), .clo g []] (V.int (aa7 p 0 xs))
attribute [local go_sem] JY.cells JY.v in
theorem Vk {Γ : Env} {f : Nat} (h : Has Γ.P f 19 JL r_slices_IndexFunc___api_Rule_api_Rule)  : Jv Γ f := by
  intro xs g p hp hl
  refine Qd h zsi zcl zcl fun C hC hm => ?_
  subst hC
  unfold JL
  refine zgo ?_; repeat' first | exact zt | apply zan | intro hc
  refine Y2 (ι := Nat) (fun k => k ≤ xs.length ∧ aa7 p k (xs.drop k) = aa7 p 0 xs) (fun k => [(8, V.int k)]) (fun k => xs.length - k) 0 (by omega) ⟨by simp, by simp⟩ (by repeat' first | exact X2 | refine WM (by omega) (by simp only [Ob.lt, ltL, V.lt, and_self, and_true]; try omega) ?_) (fun i hi => by simp only [ovT, X0, Nat.reduceEqDiff, reduceIte]; (repeat' first | exact Ve | refine XO ?_ ?_ | simp only [V.lt, ltL, and_self, and_true] | omega)) zet fun k hk K' hL => ?_
  obtain ⟨hk, hinv⟩ := hk
  simp only [ovT, X0, Nat.reduceEqDiff, reduceIte]
  rcases hd : xs.drop k with _ | ⟨y, r⟩
  · have := Je hd
    rw [hd] at hinv
    have e1 : decide ((k : Int) < (((xs.map JY.v).length : Nat) : Int)) = false := by simp; omega
    (have zx := e1); refine zgo ?_; repeat' first | exact zt | apply zan | intro hc
    refine Qv _ rfl ?_
    simp only [go_sem, Nat.reduceEqDiff, Nat.reduceAdd, reduceIte, reduceCtorEq]
    rw [← hinv]; rfl
  · obtain ⟨hk, hget, hr⟩ := QJ hd
    rw [hd] at hinv
    have hw := Qr (k := k) (by omega)
    have e1 : decide ((k : Int) < (((xs.map JY.v).length : Nat) : Int)) = true := by simp; omega
    have hpy := hp y
    by_cases hy : p y = true
    · rw [hy] at hpy
      (have zy0 := hpy.b; have zx := And.intro hget (And.intro hw e1)); refine zgo ?_; repeat' first | exact zt | apply zan | intro hc
      refine Qv _ rfl ?_; simp only [go_sem, Nat.reduceEqDiff, Nat.reduceAdd, reduceIte, reduceCtorEq]
      rw [← hinv]; simp [aa7, hy]
    · have hy' : p y = false := by simpa using hy
      rw [hy'] at hpy
      (have zy0 := hpy.b; have zx := And.intro hget (And.intro hw e1)); refine zgo ?_; repeat' first | exact zt | apply zan | intro hc
      refine hL _ (k + 1) zet ⟨by omega, ?_⟩ (by omega) (fun a ha => by simp only [u32, u33, u34, u35, u36, u37, u38, u39]; repeat rw [if_neg (by omega)])
      rw [hr, ← hinv, aa7, if_neg hy]
def Jg (QV : Nat) : AC := Qb [0, 1] (.reg [mc 4 (V.bool false)]) (Qb [4] (.reg [mv 5 0, mv 6 1, cl 7 QV [5, 6], bc 8 .geq 7 (V.int 0), mv 4 8]) .ret) def r_slices_ContainsFunc___api_Rule_api_Rule : List Jf := [.tmp 4]
def Jb (Γ : Env) (f : Nat) : Prop := ∀ (xs : List JY) (g : Nat) (p : JY → Bool) (hp : ∀ x, EvN Γ g [JY.v x] (V.bool (p x))) (hl : xs.length < 2 ^ 62), EvN Γ f [.sl 6 (xs.map JY.v), .clo g []] (V.bool (xs.any p))
theorem WF {Γ : Env} {f QV : Nat} (h : Has Γ.P f 9 (Jg QV) r_slices_ContainsFunc___api_Rule_api_Rule) (z0 : Jv Γ QV) : Jb Γ f := by
  intro xs g p hp hl
  refine Qd h zsi zcl zcl fun C hC hm => ?_
  subst hC
  unfold Jg
  have hi := (z0 xs g p hp hl).b
  have e1 := adV p xs 0
  (have zx := e1); exact zg
def JM : AC := Qb [0, 1] (.reg [mc 4 (V.int 0)]) (Qb [] (Qb [0, 1, 7, 8] (.reg [mv 6 0, ln 7 6, mc 8 (V.int 0)]) (.block 0 (Y6 [0, 1, 7, 8] (Qb [0, 1, 7, 8, 9] (.reg [bn 9 .lss 8 7]) (Qb [0, 1, 7, 8] (.cond (.t 9) .skip (.exit 0)) (Qb [0, 1, 7, 8] (.block 1 (Qb [0, 1, 5, 7, 8] (.reg [mv 10 8, mv 5 10]) (Qb [0, 1, 5, 7, 8, 16] (.reg [mv 11 1, mv 12 0, mv 13 5, ia 14 2 12 13, xo 15 (.load true 2 (.t 14)), xo 16 (.callv (.t 11) [(.t 15)])]) (.cond (.t 16) (Qb [4] (.reg [mv 17 5, mv 4 17]) .ret) .skip)))) (.reg [bc 18 .add 8 (V.int 1), mv 8 18]))))))) (Qb [4] (.reg [mc 4 (V.int (-1))]) .ret)) def r_slices_IndexFunc___api_Keep_api_Keep : List Jf := [.tmp 4]
def Jw (Γ : Env) (f : Nat) : Prop := ∀ (xs : List Wk) (g : Nat) (p : Wk → Bool) (hp : ∀ x, EvN Γ g [Wk.v x] (V.bool (p x))) (hl : xs.length < 2 ^ 62), EvN Γ f [.sl 2 (xs.map Wk.v), .clo g []] (V.int (aa7 p 0 xs))
attribute [local go_sem] Wk.cells Wk.v in
theorem Vl {Γ : Env} {f : Nat} (h : Has Γ.P f 19 JM r_slices_IndexFunc___api_Keep_api_Keep)  : Jw Γ f := by
  intro xs g p hp hl
  refine Qd h zsi zcl zcl fun C hC hm => ?_
  subst hC
  unfold JM
  refine zgo ?_; repeat' first | exact zt | apply zan | intro hc
  refine Y2 (ι := Nat) (fun k => k ≤ xs.length ∧ aa7 p k (xs.drop k) = aa7 p 0 xs) (fun k => [(8, V.int k)]) (fun k => xs.length - k) 0 (by omega) ⟨by simp, by simp⟩ (by repeat' first | exact X2 | refine WM (by omega) (by simp only [Ob.lt, ltL, V.lt, and_self, and_true]; try omega) ?_) (fun i hi => by simp only [ovT, X0, Nat.reduceEqDiff, reduceIte]; (repeat' first | exact Ve | refine XO ?_ ?_ | simp only [V.lt, ltL, and_self, and_true] | omega)) zet fun k hk K' hL => ?_
  obtain ⟨hk, hinv⟩ := hk
  simp only [ovT, X0, Nat.reduceEqDiff, reduceIte]
  rcases hd : xs.drop k with _ | ⟨y, r⟩
  · have := Je hd
    rw [hd] at hinv
    have e1 : decide ((k : Int) < (((xs.map Wk.v).length : Nat) : Int)) = false := by simp; omega
    (have zx := e1); refine zgo ?_; repeat' first | exact zt | apply zan | intro hc
    refine Qv _ rfl ?_
    simp only [go_sem, Nat.reduceEqDiff, Nat.reduceAdd, reduceIte, reduceCtorEq]
    rw [← hinv]; rfl
  · obtain ⟨hk, hget, hr⟩ := QJ hd
    rw [hd] at hinv
    have hw := Qr (k := k) (by omega)
    have e1 : decide ((k : Int) < (((xs.map Wk.v).length : Nat) : Int)) = true := by simp; omega
    have hpy := hp y
    by_cases hy : p y = true
    · rw [hy] at hpy
      (have zy0 := hpy.b; have zx := And.intro hget (And.intro hw e1)); refine zgo ?_; repeat' first | exact zt | apply zan | intro hc
      refine Qv _ rfl ?_; simp only [go_sem, Nat.reduceEqDiff, Nat.reduceAdd, reduceIte, reduceCtorEq]
      rw [← hinv]; simp [aa7, hy]
    · have hy' : p y = false := by simpa using hy
      rw [hy'] at hpy
      (have zy0 := hpy.b; have zx := And.intro hget (And.intro hw e1)); refine zgo ?_; repeat' first | exact zt | apply zan | intro hc
      refine hL _ (k + 1) zet ⟨by omega, ?_⟩ (by omega) (fun a ha => by simp only [u32, u33, u34, u35, u36, u37, u38, u39]; repeat rw [if_neg (by omega)])
      rw [hr, ← hinv, aa7, if_neg hy]
def Jh (QW : Nat) : AC := Qb [0, 1] (.reg [mc 4 (V.bool false)]) (Qb [4] (.reg [mv 5 0, mv 6 1, cl 7 QW [5, 6], bc 8 .geq 7 (V.int 0), mv 4 8]) .ret) def r_slices_ContainsFunc___api_Keep_api_Keep : List Jf := [.tmp 4]
def Jc (Γ : Env) (f : Nat) : Prop := ∀ (xs : List Wk) (g : Nat) (p : Wk → Bool) (hp : ∀ x, EvN Γ g [Wk.v x] (V.bool (p x))) (hl : xs.length < 2 ^ 62), EvN Γ f [.sl 2 (xs.map Wk.v), .clo g []] (V.bool (xs.any p))
theorem WG {Γ : Env} {f QW : Nat} (h : Has Γ.P f 9 (Jh QW) r_slices_ContainsFunc___api_Keep_api_Keep) (z0 : Jw Γ QW) : Jc Γ f := by
  intro xs g p hp hl
  refine Qd h zsi zcl zcl fun C hC hm => ?_
  subst hC
  unfold Jh
  have hi := (z0 xs g p hp hl).b
  have e1 := adV p xs 0
  (have zx := e1); exact zg
def aax (QK Ue QL Ud : Nat) : AC := Qb [1] (.reg [xo 1 (.box true 2 (.t 0)), mc 2 (V.int 0)]) (Qb [1, 3] (.reg [fa 4 0 1, ld 5 1 4, xo 6 (.call QK [(.t 5), (.c (.clo Ue []))]), mv 7 6, xg 8 (.faddr 1 (.t 1)) 7 false, xg 9 (.load false 1 (.t 8)) 7 false, xg 10 (.call QL [(.t 9), (.c (.clo Ud []))]) 7 false, xo 11 (.pick (.t 7) (.c (V.bool true)) (.t 10)), mv 3 11]) (Qb [] (Qb [24] (.reg [mv 12 3, mv 13 12, xg 14 (.faddr 0 (.t 1)) 13 false, xg 15 (.load false 1 (.t 14)) 13 false, xg 16 (.lenL (.t 15)) 13 false, xg 17 (.bin .gtr (.t 16) (.c (V.int 60))) 13 false, xo 18 (.pick (.t 13) (.c (V.bool true)) (.t 17)), mv 19 18, xg 20 (.faddr 1 (.t 1)) 19 false, xg 21 (.load false 1 (.t 20)) 19 false, xg 22 (.lenL (.t 21)) 19 false, xg 23 (.bin .gtr (.t 22) (.c (V.int 60))) 19 false, xo 24 (.pick (.t 19) (.c (V.bool true)) (.t 23))]) (.cond (.t 24) (Qb [2] (.reg [mc 2 (V.int 25)]) .ret) .skip)) (Qb [2] (.reg [mc 2 (V.int 0)]) .ret))) def r_rule_Check : List Jf := [.tmp 2]
def jQ (Γ : Env) (f : Nat) : Prop := ∀ (rs : List JY) (ks : List Wk) (hr : rs.length < 2 ^ 40) (hk : ks.length < 2 ^ 40), EvN Γ f [ap1 rs ks] (V.int (wC rs ks))
theorem aiu {Γ : Env} {f QK Ue QL Ud : Nat} (h : Has Γ.P f 25 (aax QK Ue QL Ud) r_rule_Check) (z0 : Jb Γ QK) (z1 : yP Γ Ue) (z2 : Jc Γ QL) (z3 : yO Γ Ud) : jQ Γ f := by
  intro rs ks hr hk
  refine Qd h zsi zcl zcl fun C hC hm => ?_
  subst hC
  unfold aax
  have c1 := (z0 rs Ue (fun r => !Wz r) (fun r => z1 r) (by omega)).b
  have c2 := (z2 ks Ud (fun r => !abE r) (fun r => z3 r) (by omega)).b
  rw [am4] at c1 c2
  have e3 : decide ((((rs.map JY.v).length : Nat) : Int) > 60) = !decide (rs.length ≤ 60) := by
    rw [List.length_map, ← decide_not]; apply decide_eq_decide.2; omega
  have e4 : decide ((((ks.map Wk.v).length : Nat) : Int) > 60) = !decide (ks.length ≤ 60) := by
    rw [List.length_map, ← decide_not]; apply decide_eq_decide.2; omega
  rw [wC]
  generalize rs.all Wz = b1 at *
  generalize ks.all abE = b2 at *
  generalize decide (rs.length ≤ 60) = b3 at *
  generalize decide (ks.length ≤ 60) = b4 at *
  rcases b1 with _ | _
  · refine zgo ?_; repeat' first | exact zt | apply zan | intro hc
    all_goals first | exact zr | (refine Qv _ rfl ?_; simp only [go_sem, Nat.reduceEqDiff, Nat.reduceAdd, reduceIte, reduceCtorEq]; simp; done) | trace_state
  rcases b2 with _ | _
  · refine zgo ?_; repeat' first | exact zt | apply zan | intro hc
    all_goals first | exact zr | (refine Qv _ rfl ?_; simp only [go_sem, Nat.reduceEqDiff, Nat.reduceAdd, reduceIte, reduceCtorEq]; simp; done) | trace_state
  rcases b3 with _ | _
  · (have zx := e3); refine zgo ?_; repeat' first | exact zt | apply zan | intro hc
    all_goals first | exact zr | (refine Qv _ rfl ?_; simp only [go_sem, Nat.reduceEqDiff, Nat.reduceAdd, reduceIte, reduceCtorEq]; simp; done) | trace_state
  rcases b4 with _ | _
  · (have zx := And.intro e3 e4); refine zgo ?_; repeat' first | exact zt | apply zan | intro hc
    all_goals first | exact zr | (refine Qv _ rfl ?_; simp only [go_sem, Nat.reduceEqDiff, Nat.reduceAdd, reduceIte, reduceCtorEq]; simp; done) | trace_state
  · (have zx := And.intro e3 e4); refine zgo ?_; repeat' first | exact zt | apply zan | intro hc
    all_goals first | exact zr | (refine Qv _ rfl ?_; simp only [go_sem, Nat.reduceEqDiff, Nat.reduceAdd, reduceIte, reduceCtorEq]; simp; done) | trace_state
def akX (r : JY) (a b pu : Int) : Bool := !((r.alg != 0 && r.alg != a) || (r.purp != 0 && r.purp != pu)) && (r.below == 0 || (decide (b > 0) && decide (b < r.below)))
def aqh (p : JY → Bool) (rs : List JY) : Nat → Int
  | 0 => -1
  | k + 1 => match rs[k]? with
    | some r => if p r = true then (k : Int) else aqh p rs k
    | none => aqh p rs k
def ast (a b pu day : Int) (r : JY) : Bool := akX r a b pu && (decide (r.frm ≤ day) && decide (day < r.til))
def aqg (rs : List JY) (a b pu day : Int) : Int := aqh (ast a b pu day) rs rs.length
theorem alS (p : JY → Bool) (rs : List JY) : ∀ k, aqh p rs k = -1 ∨ ∃ i r, i < k ∧ aqh p rs k = (i : Int) ∧ rs[i]? = some r
  | 0 => .inl rfl
  | k + 1 => by
    have ih := alS p rs k
    rw [aqh]
    split
    · rename_i r hr
      split
      · exact .inr ⟨k, r, Nat.lt_succ_self _, rfl, hr⟩
      · exact ih.imp id fun ⟨i, r, h1, h2⟩ => ⟨i, r, by omega, h2⟩
    · exact ih.imp id fun ⟨i, r, h1, h2⟩ => ⟨i, r, by omega, h2⟩
def ah5 (rs : List JY) (a b pu day : Int) : Bool := decide (aqg rs a b pu day < 0) || ((rs[(aqg rs a b pu day).toNat]?).map (·.allow)).getD false
def abv (rs : List JY) (ks : List Wk) (a b pu day : Int) : Int :=
  if wC rs ks ≠ 0 then wC rs ks else if ¬ Q4 a b > 0 then 7 else if pu < 1 ∨ pu > 4 ∨ day < 0 ∨ day > 40000 then 2 else 0
def Kc : AC := Qb [2, 3, 4] (.reg [xo 3 (.box true 6 (.t 0)), xo 4 (.box true 2 (.t 1)), mc 6 (V.bool false)]) (Qb [3, 4] (Qb [3, 4, 27] (.reg [fa 7 1 3, ld 8 1 7, bc 9 .neq 8 (V.int 0), mv 10 9, xg 11 (.faddr 1 (.t 3)) 10 true, xg 12 (.load false 1 (.t 11)) 10 true, xg 13 (.faddr 0 (.t 4)) 10 true, xg 14 (.load false 1 (.t 13)) 10 true, xg 15 (.bin .neq (.t 12) (.t 14)) 10 true, xo 16 (.pick (.t 10) (.t 15) (.c (V.bool false))), mv 17 16, xg 18 (.faddr 3 (.t 3)) 17 false, xg 19 (.load false 1 (.t 18)) 17 false, xg 20 (.bin .neq (.t 19) (.c (V.int 0))) 17 false, mg 21 20 17 false, xg 22 (.faddr 3 (.t 3)) 21 true, xg 23 (.load false 1 (.t 22)) 21 true, mg 24 2 21 true, xg 25 (.bin .neq (.t 23) (.t 24)) 21 true, xg 26 (.pick (.t 21) (.t 25) (.c (V.bool false))) 17 false, xo 27 (.pick (.t 17) (.c (V.bool true)) (.t 26))]) (.cond (.t 27) (Qb [6] (.reg [mc 6 (V.bool false)]) .ret) .skip)) (Qb [6] (.reg [fa 28 2 3, ld 29 1 28, bc 30 .eql 29 (V.int 0), mv 31 30, xg 32 (.faddr 1 (.t 4)) 31 false, xg 33 (.load false 1 (.t 32)) 31 false, xg 34 (.bin .gtr (.t 33) (.c (V.int 0))) 31 false, mg 35 34 31 false, xg 36 (.faddr 1 (.t 4)) 35 true, xg 37 (.load false 1 (.t 36)) 35 true, xg 38 (.faddr 2 (.t 3)) 35 true, xg 39 (.load false 1 (.t 38)) 35 true, xg 40 (.bin .lss (.t 37) (.t 39)) 35 true, xg 41 (.pick (.t 35) (.t 40) (.c (V.bool false))) 31 false, xo 42 (.pick (.t 31) (.c (V.bool true)) (.t 41)), mv 6 42]) .ret)) def r_verdict_concerns : List Jf := [.tmp 6]
def aco (Γ : Env) (f : Nat) : Prop := ∀ (r : JY) (a b pu : Int), EvN Γ f [r.v, .agg [V.int a, V.int b], V.int pu] (V.bool (akX r a b pu))
theorem ab3 {Γ : Env} {f : Nat} (h : Has Γ.P f 43 Kc r_verdict_concerns)  : aco Γ f := by
  intro r a b pu
  refine Qd h zsi zcl zcl fun C hC hm => ?_
  subst hC
  unfold Kc
  obtain ⟨al, alg, below, purp, frm, til⟩ := r
  simp only [JY.v, JY.cells, akX]
  generalize hb1 : (alg != 0) = b1
  generalize hb2 : (alg != a) = b2
  generalize hb3 : (purp != 0) = b3
  generalize hb4 : (purp != pu) = b4
  generalize hb5 : (below == 0) = b5
  generalize hb6 : decide (b > 0) = b6
  generalize hb7 : decide (b < below) = b7
  (have zx := And.intro hb1 (And.intro hb2 (And.intro hb3 (And.intro hb4 (And.intro hb5 (And.intro hb6 hb7)))))); refine zgo ?_; repeat' first | exact zt | apply zan | intro hc
  all_goals first | (refine Qv _ rfl ?_; simp only [go_sem, Nat.reduceEqDiff, Nat.reduceAdd, reduceIte, reduceCtorEq]; simp_all; done) | trace_state
def Kq (Γ : Env) (f : Nat) : Prop := ∀ (rs : List JY) (ks : List Wk) (a b pu day : Int) (hr : rs.length < 2 ^ 40), EvN Γ f [ap1 rs ks, .agg [V.int a, V.int b], V.int pu, V.int day] (V.int (aqg rs a b pu day))
def K0 (Qs : Nat) : AC := Qb [2, 3, 4, 5] (.reg [xo 4 (.box true 2 (.t 0)), xo 5 (.box true 2 (.t 1)), mc 8 (V.bool false)]) (Qb [4, 9] (.reg [xo 10 (.load true 2 (.t 4)), xo 11 (.load true 2 (.t 5)), mv 12 2, mv 13 3, cl 14 Qs [10, 11, 12, 13], mv 9 14]) (Qb [8] (.reg [mv 15 9, bc 16 .lss 15 (V.int 0), mv 17 16, xg 18 (.faddr 0 (.t 4)) 17 false, xg 19 (.load false 1 (.t 18)) 17 false, mg 20 9 17 false, xg 21 (.iaddr 6 (.t 19) (.t 20)) 17 false, xg 22 (.faddr 0 (.t 21)) 17 false, xg 23 (.load false 1 (.t 22)) 17 false, xo 24 (.pick (.t 17) (.c (V.bool true)) (.t 23)), mv 8 24]) .ret)) def r_verdict_allowed : List Jf := [.tmp 8]
def Kr (Γ : Env) (f : Nat) : Prop := ∀ (rs : List JY) (ks : List Wk) (a b pu day : Int) (hr : rs.length < 2 ^ 40), EvN Γ f [ap1 rs ks, .agg [V.int a, V.int b], V.int pu, V.int day] (V.bool (ah5 rs a b pu day))
theorem ac2 {Γ : Env} {f Qs : Nat} (h : Has Γ.P f 25 (K0 Qs) r_verdict_allowed) (z0 : Kq Γ Qs) : Kr Γ f := by
  intro rs ks a b pu day hr
  refine Qd h zsi zcl zcl fun C hC hm => ?_
  subst hC
  unfold K0
  have p1 := (z0 rs ks a b pu day hr).b
  rw [ah5]
  rcases alS (ast a b pu day) rs rs.length with hd | ⟨i, r, hi, hd, hget⟩
  · rw [aqg] at p1 ⊢
    rw [hd] at p1 ⊢
    have e1 : decide ((-1 : Int) < 0) = true := by decide
    (have zx := e1); refine zgo ?_; repeat' first | exact zt | apply zan | intro hc
    all_goals first | exact zr | (refine Qv _ rfl ?_; simp only [go_sem, Nat.reduceEqDiff, Nat.reduceAdd, reduceIte, reduceCtorEq]; rfl) | trace_state
  · rw [aqg] at p1 ⊢
    rw [hd] at p1 ⊢
    have e1 : decide ((i : Int) < 0) = false := by simp
    have vr : (rs.map JY.v)[i]? = some r.v := by rw [List.getElem?_map, hget]; rfl
    have hlr : (rs.map JY.v).length = rs.length := List.length_map _
    simp only [JY.v, JY.cells] at vr
    rw [Int.toNat_natCast, hget]
    (have zx := And.intro e1 (And.intro vr hlr)); refine zgo ?_; repeat' first | exact zt | apply zan | intro hc
    all_goals first | exact zr | (refine Qv _ rfl ?_; simp only [go_sem, Nat.reduceEqDiff, Nat.reduceAdd, reduceIte, reduceCtorEq]; rfl) | trace_state
def yp (XQ J0 : Nat) : AC := Qb [2, 3, 4, 5] (.reg [xo 4 (.box true 2 (.t 0)), xo 5 (.box true 2 (.t 1)), mc 8 (V.int 0)]) (Qb [2, 3, 5] (Qb [2, 3, 5, 9] (.reg [xo 10 (.load true 2 (.t 4)), cl 11 XQ [10], mv 9 11]) (Qb [2, 3, 5, 9, 13] (.reg [mv 12 9, bc 13 .neq 12 (V.int 0)]) (.cond (.t 13) (Qb [8] (.reg [mv 14 9, mv 8 14]) .ret) .skip))) (Qb [] (.block 0 (Qb [2, 3, 15] (.reg [xo 16 (.load true 2 (.t 5)), cl 17 J0 [16], xo 18 (.un .not (.t 17)), mv 15 18]) (.cond (.t 15) (Qb [8] (.reg [mc 8 (V.int 7)]) .ret) (Qb [19] (.reg [mv 20 2, bc 21 .lss 20 (V.int 1), mv 22 21, mg 23 2 22 false, xg 24 (.bin .gtr (.t 23) (.c (V.int 4))) 22 false, xo 25 (.pick (.t 22) (.c (V.bool true)) (.t 24)), mv 26 25, mg 27 3 26 false, xg 28 (.bin .lss (.t 27) (.c (V.int 0))) 26 false, xo 29 (.pick (.t 26) (.c (V.bool true)) (.t 28)), mv 30 29, mg 31 3 30 false, xg 32 (.bin .gtr (.t 31) (.c (V.int 40000))) 30 false, xo 33 (.pick (.t 30) (.c (V.bool true)) (.t 32)), mv 19 33]) (.cond (.t 19) (Qb [8] (.reg [mc 8 (V.int 2)]) .ret) .skip))))) (Qb [8] (.reg [mc 8 (V.int 0)]) .ret))) def r_verdict_early : List Jf := [.tmp 8]
def jn (Γ : Env) (f : Nat) : Prop := ∀ (rs : List JY) (ks : List Wk) (a b pu day : Int) (hr : rs.length < 2 ^ 40) (hk : ks.length < 2 ^ 40), EvN Γ f [ap1 rs ks, .agg [V.int a, V.int b], V.int pu, V.int day] (V.int (abv rs ks a b pu day))
theorem afp {Γ : Env} {f XQ J0 : Nat} (h : Has Γ.P f 34 (yp XQ J0) r_verdict_early) (z0 : jQ Γ XQ) (z1 : Up Γ J0) : jn Γ f := by
  intro rs ks a b pu day hr hk
  refine Qd h zsi zcl zcl fun C hC hm => ?_
  subst hC
  unfold yp
  have p1 := (z0 rs ks hr hk).b
  have p2 := (z1 a b).b
  rw [abv]
  by_cases h0 : wC rs ks = 0
  · rw [if_neg (by simpa using h0)]
    rw [h0] at p1
    have n0 : ((0 : Int) != 0) = false := by decide
    by_cases h1 : Q4 a b > 0
    · rw [if_neg (by simpa using h1)]
      rw [decide_eq_true h1] at p2
      generalize hb1 : decide (pu < 1) = b1
      generalize hb2 : decide (pu > 4) = b2
      generalize hb3 : decide (day < 0) = b3
      generalize hb4 : decide (day > 40000) = b4
      have hif : (if pu < 1 ∨ pu > 4 ∨ day < 0 ∨ day > 40000 then (2 : Int) else 0) = bif b1 || (b2 || (b3 || b4)) then 2 else 0 := by
        rw [← hb1, ← hb2, ← hb3, ← hb4]
        by_cases q1 : pu < 1 <;> by_cases q2 : pu > 4 <;> by_cases q3 : day < 0 <;> by_cases q4 : day > 40000 <;> simp [q1, q2, q3, q4]
      rw [hif]
      (have zx := And.intro n0 (And.intro hb1 (And.intro hb2 (And.intro hb3 hb4)))); refine zgo ?_; repeat' first | exact zt | apply zan | intro hc
      all_goals first | (refine Qv _ rfl ?_; simp only [go_sem, Nat.reduceEqDiff, Nat.reduceAdd, reduceIte, reduceCtorEq]; simp_all; done) | trace_state
    · rw [if_pos h1]
      rw [decide_eq_false h1] at p2
      (have zx := n0); exact zg
  · rw [if_pos h0]
    have n0 : (wC rs ks != 0) = true := by simpa using h0
    generalize wC rs ks = cv at *
    (have zx := n0); exact zg
def j8 (QP Qs : Nat) : List AO := [xo 20 (.load true 2 (.t 4)), xo 21 (.load true 2 (.t 5)), mv 22 2, mv 23 3, cl 24 QP [20, 21, 22, 23], xo 25 (.load true 2 (.t 4)), xo 26 (.load true 2 (.t 5)), mv 27 2, mv 28 3, cl 29 Qs [25, 26, 27, 28], mv 8 24, mv 9 29, mc 10 (V.int 0)]
def yG : List (List Nat) := [[], [], [], [], [0, 1, 2, 3], [], [], [], [], [5, 6, 7, 8, 4], [4, 9, 0, 1, 2, 3, 4], [9, 10, 0, 1, 2, 3, 4, 5, 6, 7, 8, 9, 10], [11, 0, 1, 2, 3, 4, 5, 6, 7, 8, 9, 10, 11]]
def jU : OT := .one 0 (.one 1 (.one 2 (.one 3 (.one 4 (.one 5 (.one 6 (.one 7 (.one 8 (.one 9 (.one 10 (.one 11 (.one 12 .done))))))))))))
@[go_sem] def j0 (QP Qs : Nat) : OP := oN 0 (xo 20 (.load true 2 (.t 4))) (oN 1 (xo 21 (.load true 2 (.t 5))) (oN 2 (mv 22 2) (oN 3 (mv 23 3) (oN 4 (cl 24 QP [20, 21, 22, 23]) (oN 5 (xo 25 (.load true 2 (.t 4))) (oN 6 (xo 26 (.load true 2 (.t 5))) (oN 7 (mv 27 2) (oN 8 (mv 28 3) (oN 9 (cl 29 Qs [25, 26, 27, 28]) (oN 10 (mv 8 24) (oN 11 (mv 9 29) (oN 12 (mc 10 (V.int 0)) .done))))))))))))
instance (QP Qs : Nat) : RG [] jU (j0 QP Qs) (j8 QP Qs) yG 13 (fun _ => true) := ⟨rfl, by kernel_rfl, by kernel_rfl⟩
def K1 (U6 QP Qs : Nat) : AC := Qb [2, 3, 4, 5] (.reg [xo 4 (.box true 2 (.t 0)), xo 5 (.box true 2 (.t 1)), mc 8 (V.bool false), mc 9 (V.int 0), mc 10 (V.int 0)]) (Qb [2, 3, 4, 5] (Qb [2, 3, 4, 5, 11] (.reg [xo 12 (.load true 2 (.t 4)), xo 13 (.load true 2 (.t 5)), mv 14 2, mv 15 3, cl 16 U6 [12, 13, 14, 15], mv 11 16]) (Qb [2, 3, 4, 5, 11, 18] (.reg [mv 17 11, bc 18 .neq 17 (V.int 0)]) (.cond (.t 18) (Qb [8, 9, 10] (.reg [mv 19 11, mc 8 (V.bool false), mc 9 (V.int 0), mv 10 19]) .ret) .skip))) (Qb [8, 9, 10] (wP [] jU (j0 QP Qs) (j8 QP Qs) yG) .ret)) def r_verdict_Allowed : List Jf := [.tmp 8, .tmp 9, .tmp 10]
def Ks (Γ : Env) (f : Nat) : Prop := ∀ (rs : List JY) (ks : List Wk) (a b pu day : Int) (hr : rs.length < 2 ^ 40) (hk : ks.length < 2 ^ 40), EvN Γ f [ap1 rs ks, .agg [V.int a, V.int b], V.int pu, V.int day] ((if abv rs ks a b pu day ≠ 0 then .tup [V.bool false, V.int 0, V.int (abv rs ks a b pu day)] else .tup [V.bool (ah5 rs a b pu day), V.int (aqg rs a b pu day), V.int 0]))
theorem ac3 {Γ : Env} {f U6 QP Qs : Nat} (h : Has Γ.P f 30 (K1 U6 QP Qs) r_verdict_Allowed) (z0 : jn Γ U6) (z1 : Kr Γ QP) (z2 : Kq Γ Qs) : Ks Γ f := by
  intro rs ks a b pu day hr hk
  refine Qd h zsi (by split <;> simp only [V.closed, Qh, V.noSl, yX, and_self]) (by split <;> simp only [V.closed, Qh, V.noSl, yX, and_self]) fun C hC hm => ?_
  subst hC
  unfold K1
  have p1 := (z0 rs ks a b pu day hr hk).b
  have p2 := (z1 rs ks a b pu day hr).b
  have p3 := (z2 rs ks a b pu day hr).b
  by_cases h0 : abv rs ks a b pu day = 0
  · rw [if_neg (by simpa using h0)]
    rw [h0] at p1
    have n0 : ((0 : Int) != 0) = false := by decide
    generalize ah5 rs a b pu day = r1 at *
    generalize aqg rs a b pu day = r2 at *
    (have zx := n0); exact zg
  · rw [if_pos h0]
    have n0 : (abv rs ks a b pu day != 0) = true := by simpa using h0
    generalize abv rs ks a b pu day = er at *
    (have zx := n0); exact zg
def wkB (rs : List JY) (ks : List Wk) (pu day : Int) (f : Qi) : Bool := f.kind == 1 && (decide (abv rs ks f.alg f.bits pu day = 0) && !ah5 rs f.alg f.bits pu day)
def aqm (l : List Qa) (gap day age : Int) (rs : List JY) (ks : List Wk) (pu : Int) : List Qi := (Xf l gap day age).flatten.filter (wkB rs ks pu day)
def anc (l : List Qa) (gap day age : Int) (rs : List JY) (ks : List Wk) (pu : Int) : V :=
  if Yj l gap = 0 then (if wC rs ks = 0 then (if pu < 1 ∨ pu > 4 then .tup [.sl 8 [], V.int 2] else .tup [.sl 8 ((aqm l gap day age rs ks pu).map Qi.v), V.int 0]) else .tup [.sl 8 [], V.int (wC rs ks)]) else .tup [.sl 8 [], V.int (Yj l gap)]
theorem aoh {α : Type} {b : Nat} : ∀ {ls : List (List α)}, (∀ x ∈ ls, x.length ≤ b) → ls.flatten.length ≤ ls.length * b
  | [], _ => by simp
  | x :: r, h => by
    have h1 := h x List.mem_cons_self
    have h2 := aoh (ls := r) fun y hy => h y (List.mem_cons_of_mem _ hy)
    rw [List.flatten_cons, List.length_append, List.length_cons, Nat.add_mul]; omega
theorem akK (l : List Qa) (gap day age : Int) : (Xf l gap day age).flatten.length ≤ l.length * l.length := by
  have h1 : ∀ x ∈ Xf l gap day age, x.length ≤ l.length := by
    intro x hx
    rw [Xf, List.mem_map] at hx
    obtain ⟨e, he, rfl⟩ := hx
    exact Nat.le_trans (ahV l e.num e.finds day age) (akR he).2.2.1
  refine Nat.le_trans (aoh h1) (Nat.mul_le_mul_right _ ?_)
  rw [Xf, List.length_map]; exact adr l gap
def wkS (day pu : Int) (rs : List JY) (ks : List Wk) (fl out : List Qi) (k : Nat) : St := Wo [(2, V.int day), (5, V.int pu), (10, .ptr 0 0), (18, .hd 1 0 out.length), (48, .hd 2 0 fl.length), (49, V.int fl.length), (50, V.int k)] [(0, .box true [.sl 6 (rs.map JY.v), .sl 2 (ks.map Wk.v)]), (1, .buf true 8 (out.map Qi.v)), (2, .buf true 8 (fl.map Qi.v))] 3
def yz (J5 XQ Q6 Vt : Nat) : AC := Qb [0, 1, 2, 3, 5, 10] (.reg [xo 10 (.box true 2 (.t 4)), xo 12 (.mknil 8), mc 13 (V.int 0)]) (Qb [2, 5, 10, 15, 16] (.reg [mv 25 0, mv 26 1, mv 27 2, mv 28 3, cl 29 J5 [25, 26, 27, 28], mv 24 29, ex 30 24 0, ex 31 24 1, ex 32 24 2, mv 14 30, mv 15 31, mv 16 32]) (Qb [2, 5, 10, 15] (Qb [2, 5, 10, 15, 16, 34] (.reg [mv 33 16, bc 34 .neq 33 (V.int 0)]) (.cond (.t 34) (Qb [12, 13] (.reg [mv 35 16, xo 12 (.mknil 8), mv 13 35]) .ret) .skip)) (Qb [2, 5, 10, 15] (Qb [2, 5, 10, 15, 17] (.reg [xo 36 (.load true 2 (.t 10)), cl 37 XQ [36], mv 17 37]) (Qb [2, 5, 10, 15, 17, 39] (.reg [mv 38 17, bc 39 .neq 38 (V.int 0)]) (.cond (.t 39) (Qb [12, 13] (.reg [mv 40 17, xo 12 (.mknil 8), mv 13 40]) .ret) .skip))) (Qb [2, 5, 10, 15] (Qb [2, 5, 10, 15, 46] (.reg [mv 41 5, bc 42 .lss 41 (V.int 1), mv 43 42, mg 44 5 43 false, xg 45 (.bin .gtr (.t 44) (.c (V.int 4))) 43 false, xo 46 (.pick (.t 43) (.c (V.bool true)) (.t 45))]) (.cond (.t 46) (Qb [12, 13] (.reg [xo 12 (.mknil 8), mc 13 (V.int 2)]) .ret) .skip)) (Qb [2, 5, 10, 15, 18] (.reg [xo 18 (.mknil 8)]) (Qb [18] (Qb [2, 5, 10, 18, 48, 49, 50] (.reg [mv 47 15, cl 48 Q6 [47], ln 49 48, mc 50 (V.int 0)]) (.block 0 (Y6 [2, 5, 10, 18, 48, 49, 50] (Qb [2, 5, 10, 18, 48, 49, 50, 51] (.reg [bn 51 .lss 50 49]) (Qb [2, 5, 10, 18, 48, 49, 50] (.cond (.t 51) .skip (.exit 0)) (Qb [2, 5, 10, 18, 48, 49, 50] (.block 1 (Qb [2, 5, 10, 18, 20, 48, 49, 50] (.reg [ia 52 8 48 50, xo 53 (.load true 8 (.t 52)), xo 20 (.alloc [.val vi0, .val vs0, .val vi0, .val vi0, .val vi0, .val vi0, .val vs0, .val vi0]), xs 8 20 53]) (Qb [2, 5, 10, 18, 20, 21, 23, 48, 49, 50] (.reg [xo 55 (.load true 2 (.t 10)), fa 56 3 20, xo 57 (.load true 2 (.t 56)), mv 58 5, mv 59 2, cl 60 Vt [55, 57, 58, 59], mv 54 60, ex 61 54 0, ex 62 54 1, ex 63 54 2, mv 21 61, mv 22 62, mv 23 63]) (Qb [2, 5, 10, 18, 20, 48, 49, 50, 74] (.reg [fa 64 2 20, ld 65 1 64, bc 66 .eql 65 (V.int 1), mv 67 66, mg 68 23 67 true, xg 69 (.bin .eql (.t 68) (.c (V.int 0))) 67 true, xo 70 (.pick (.t 67) (.t 69) (.c (V.bool false))), mv 71 70, mg 72 21 71 true, xg 73 (.un .not (.t 72)) 71 true, xo 74 (.pick (.t 71) (.t 73) (.c (V.bool false)))]) (.cond (.t 74) (.reg [mv 75 18, xo 76 (.load true 8 (.t 20)), xo 77 (.bslice 1 8 true [vi0, vs0, vi0, vi0, vi0, vi0, vs0, vi0] [(0, (.t 76))]), xo 78 (.append 8 80 [vi0, vs0, vi0, vi0, vi0, vi0, vs0, vi0] (.t 75) (.t 77)), mv 18 78]) .skip))))) (.reg [bc 79 .add 50 (V.int 1), mv 50 79]))))))) (Qb [12, 13] (.reg [mv 80 18, mv 12 80, mc 13 (V.int 0)]) .ret))))))) def r_exposure_Weak : List Jf := [.tmp 12, .tmp 13]
def jv (Γ : Env) (f : Nat) : Prop := ∀ (l : List Qa) (gap day age : Int) (rs : List JY) (ks : List Wk) (pu : Int) (hl : l.length ≤ 12) (hz : ∀ x ∈ l, x.Sz) (hdy : 0 ≤ day ∧ day ≤ 40000) (hag : 0 ≤ age ∧ age ≤ 4000) (hr : rs.length < 2 ^ 40) (hk2 : ks.length < 2 ^ 40), EvC Γ f [.sl 11 (l.map Qa.v), V.int gap, V.int day, V.int age, ap1 rs ks, V.int pu] (anc l gap day age rs ks pu)
attribute [local go_sem] Wo in
theorem afx {Γ : Env} {f J5 XQ Q6 Vt : Nat} (h : Has Γ.P f 81 (yz J5 XQ Q6 Vt) r_exposure_Weak) (z0 : VO Γ J5) (z1 : jQ Γ XQ) (z2 : J2 Γ Q6) (z3 : Ks Γ Vt) : jv Γ f := by
  intro l gap day age rs ks pu hl hz hdy hag hr hk2
  refine Y8 h zsi (by unfold anc; (repeat' split) <;> simp only [V.closed, Qh, and_self]) fun C hC hm => ?_
  subst hC
  unfold yz
  have g0 := (z0 l gap day age hl hz hdy hag).b
  have g1 := (z1 rs ks hr hk2).b
  by_cases hE : Yj l gap = 0
  rotate_left
  · rw [anc, if_neg hE]
    rw [aeV, if_neg hE] at g0
    have e01 : (Yj l gap != 0) = true := by simpa using hE
    generalize Yj l gap = er at *
    (have zx := e01); exact zg
  rw [anc, if_pos hE]
  rw [aeV, if_pos hE] at g0
  have e00 : ((0 : Int) != 0) = false := by decide
  by_cases hC0 : wC rs ks = 0
  rotate_left
  · rw [if_neg hC0]
    have e01 : (wC rs ks != 0) = true := by simpa using hC0
    generalize wC rs ks = er at *
    (have zx := And.intro e00 e01); exact zg
  rw [if_pos hC0]
  rw [hC0] at g1
  by_cases hp1 : pu < 1
  · rw [if_pos (.inl hp1)]
    have e1 : decide (pu < 1) = true := decide_eq_true hp1
    (have zx := And.intro e00 e1); exact zg
  by_cases hp2 : pu > 4
  · rw [if_pos (.inr hp2)]
    have e1 : decide (pu < 1) = false := decide_eq_false hp1
    have e2 : decide (pu > 4) = true := decide_eq_true hp2
    (have zx := And.intro e00 (And.intro e1 e2)); exact zg
  rw [if_neg (by omega)]
  have e1 : decide (pu < 1) = false := decide_eq_false hp1
  have e2 : decide (pu > 4) = false := decide_eq_false hp2
  have hfl := akK l gap day age
  have hsq : l.length * l.length ≤ 144 := Nat.mul_le_mul hl hl
  have hll : (Xf l gap day age).length ≤ l.length := by rw [Xf, List.length_map]; exact adr l gap
  have gC := z2 (Xf l gap day age) (by omega) (by omega)
  rw [aqm]
  have hfm : ((Xf l gap day age).flatten.map Qi.v).length = (Xf l gap day age).flatten.length := List.length_map _
  generalize hfd : (Xf l gap day age).flatten = fl at *
  (have zx := And.intro e00 (And.intro e1 (And.intro e2 hfm))); refine zgo ?_; repeat' first | exact zt | apply zan | intro hc
  refine QH (ι := Nat) (fun k => k ≤ fl.length) (fun k => wkS day pu rs ks fl ((fl.take k).filter (wkB rs ks pu day)) k) (fun k => fl.length - k) 0 (Nat.zero_le _) (Ql [(1, 28000), (2, 30000)]) (Qu [(1, 28000), (2, 30000)] (by simp only [go_sem, zwl, Nat.reduceAdd, Nat.reduceMul, Nat.reduceEqDiff, Nat.reduceLT, Int.reduceToNat, reduceIte, reduceCtorEq, wkS, List.take_zero, List.filter_nil, List.length_nil, hfm] <;> exact zcc) (by simp only [go_sem, zwl, Nat.reduceAdd, Nat.reduceMul, Nat.reduceEqDiff, Nat.reduceLT, Int.reduceToNat, reduceIte, reduceCtorEq, wkS, List.take_zero, List.filter_nil, List.map_nil] <;> exact zcc) (by simp [wkS, Ql]) (by simp [wkS]; omega) (by omega)) fun k hk K' hL => ?_
  have hol := List.length_filter_le (wkB rs ks pu day) (fl.take k)
  rw [List.length_take, Nat.min_eq_left hk] at hol
  rcases hdr : fl.drop k with _ | ⟨f, r⟩
  · have hkl := Je hdr
    have e3 : decide ((k : Int) < (fl.length : Int)) = false := by simp; omega
    obtain rfl : k = fl.length := by omega
    simp only [wkS, List.take_length]
    generalize fl.filter (wkB rs ks pu day) = out
    have htl : List.take out.length (out.map Qi.v) = out.map Qi.v := List.take_of_length_le (by simp)
    (have zx := And.intro e3 htl); refine zgo ?_; repeat' first | exact zt | apply zan | intro hc
    all_goals first | exact zr | (refine Qv _ rfl ?_; simp only [go_sem, Nat.reduceEqDiff, Nat.reduceAdd, reduceIte, reduceCtorEq]; simp [List.take_of_length_le]; done) | trace_state
  obtain ⟨hk', hget, hrr⟩ := QJ hdr
  have hw := Qr (k := k) (by omega)
  have e3 : decide ((k : Int) < (fl.length : Int)) = true := by simp; omega
  have vf : (fl.map Qi.v)[k]? = some f.v := by rw [List.getElem?_map, hget]; rfl
  have pA := (z3 rs ks f.alg f.bits pu day hr hk2).b
  have hnx : (fl.take (k + 1)).filter (wkB rs ks pu day) = (fl.take k).filter (wkB rs ks pu day) ++ (if wkB rs ks pu day f = true then [f] else []) := by
    rw [List.take_add_one, hget, List.filter_append]
    rcases hb : wkB rs ks pu day f with _ | _ <;> simp [hb]
  rw [wkB] at hnx
  simp only [wkS]
  generalize (fl.take k).filter (wkB rs ks pu day) = out at *
  have hom : (out.map Qi.v).length = out.length := List.length_map _
  have htl : List.take out.length (out.map Qi.v) = out.map Qi.v := List.take_of_length_le (by simp)
  simp only [Qi.v, Qi.cells] at vf
  by_cases h0 : abv rs ks f.alg f.bits pu day = 0
  rotate_left
  · rw [if_pos h0] at pA
    rw [decide_eq_false h0, Bool.false_and, Bool.and_false, if_neg (by decide), List.append_nil] at hnx
    have e4 : (abv rs ks f.alg f.bits pu day == 0) = false := by simpa using h0
    rcases hkd : (f.kind == 1) with _ | _
    · (have zx := And.intro e3 (And.intro e4 (And.intro hkd (And.intro hw (And.intro vf (And.intro hom (And.intro htl hfm))))))); refine zgo ?_; repeat' first | exact zt | apply zan | intro hc
      all_goals first | exact hL _ (k + 1) (Ql []) (by omega) (by omega) (Qu [] (by simp only [go_sem, zwl, Nat.reduceAdd, Nat.reduceMul, Nat.reduceEqDiff, Nat.reduceLT, Int.reduceToNat, reduceIte, reduceCtorEq, wkS, hnx] <;> exact zcc) (by simp only [go_sem, zwl, Nat.reduceAdd, Nat.reduceMul, Nat.reduceEqDiff, Nat.reduceLT, Int.reduceToNat, reduceIte, reduceCtorEq, wkS, hnx] <;> exact zcc) (by simp [wkS, Ql]) (by simp [wkS]) (by omega)) | trace_state
    · (have zx := And.intro e3 (And.intro e4 (And.intro hkd (And.intro hw (And.intro vf (And.intro hom (And.intro htl hfm))))))); refine zgo ?_; repeat' first | exact zt | apply zan | intro hc
      all_goals first | exact hL _ (k + 1) (Ql []) (by omega) (by omega) (Qu [] (by simp only [go_sem, zwl, Nat.reduceAdd, Nat.reduceMul, Nat.reduceEqDiff, Nat.reduceLT, Int.reduceToNat, reduceIte, reduceCtorEq, wkS, hnx] <;> exact zcc) (by simp only [go_sem, zwl, Nat.reduceAdd, Nat.reduceMul, Nat.reduceEqDiff, Nat.reduceLT, Int.reduceToNat, reduceIte, reduceCtorEq, wkS, hnx] <;> exact zcc) (by simp [wkS, Ql]) (by simp [wkS]) (by omega)) | trace_state
  rw [if_neg (by simpa using h0)] at pA
  rw [decide_eq_true h0, Bool.true_and] at hnx
  rcases hkd : (f.kind == 1) with _ | _
  · rw [hkd, Bool.false_and, if_neg (by decide), List.append_nil] at hnx
    (have zx := And.intro e3 (And.intro hkd (And.intro hw (And.intro vf (And.intro hom (And.intro htl hfm)))))); refine zgo ?_; repeat' first | exact zt | apply zan | intro hc
    all_goals first | exact hL _ (k + 1) (Ql []) (by omega) (by omega) (Qu [] (by simp only [go_sem, zwl, Nat.reduceAdd, Nat.reduceMul, Nat.reduceEqDiff, Nat.reduceLT, Int.reduceToNat, reduceIte, reduceCtorEq, wkS, hnx] <;> exact zcc) (by simp only [go_sem, zwl, Nat.reduceAdd, Nat.reduceMul, Nat.reduceEqDiff, Nat.reduceLT, Int.reduceToNat, reduceIte, reduceCtorEq, wkS, hnx] <;> exact zcc) (by simp [wkS, Ql]) (by simp [wkS]) (by omega)) | trace_state
  have e4 : ((0 : Int) == 0) = true := by decide
  rcases hal : ah5 rs f.alg f.bits pu day with _ | _
  · rw [hkd, hal, Bool.not_false, Bool.true_and, if_pos rfl] at hnx
    rw [hal] at pA
    (have zx := And.intro e3 (And.intro e4 (And.intro hkd (And.intro hw (And.intro vf (And.intro hom (And.intro htl hfm))))))); refine zgo ?_; repeat' first | exact zt | apply zan | intro hc
    all_goals first | exact hL _ (k + 1) (Ql [(1, 32003)]) (by omega) (by omega) (Qu [(1, 32003)] (by simp only [go_sem, zwl, Nat.reduceAdd, Nat.reduceMul, Nat.reduceEqDiff, Nat.reduceLT, Int.reduceToNat, reduceIte, reduceCtorEq, wkS, hnx, List.length_append, List.length_cons, List.length_nil] <;> exact zcc) (by simp only [go_sem, zwl, Nat.reduceAdd, Nat.reduceMul, Nat.reduceEqDiff, Nat.reduceLT, Int.reduceToNat, reduceIte, reduceCtorEq, wkS, hnx, List.map_append, List.map_cons, List.map_nil, Qi.v, Qi.cells] <;> exact zcc) (by simp [wkS, Ql]) (by simp [wkS]; omega) (by omega)) | trace_state
  · rw [hkd, hal, Bool.not_true, Bool.true_and, if_neg (by decide), List.append_nil] at hnx
    rw [hal] at pA
    (have zx := And.intro e3 (And.intro e4 (And.intro hkd (And.intro hw (And.intro vf (And.intro hom (And.intro htl hfm))))))); refine zgo ?_; repeat' first | exact zt | apply zan | intro hc
    all_goals first | exact hL _ (k + 1) (Ql []) (by omega) (by omega) (Qu [] (by simp only [go_sem, zwl, Nat.reduceAdd, Nat.reduceMul, Nat.reduceEqDiff, Nat.reduceLT, Int.reduceToNat, reduceIte, reduceCtorEq, wkS, hnx] <;> exact zcc) (by simp only [go_sem, zwl, Nat.reduceAdd, Nat.reduceMul, Nat.reduceEqDiff, Nat.reduceLT, Int.reduceToNat, reduceIte, reduceCtorEq, wkS, hnx] <;> exact zcc) (by simp [wkS, Ql]) (by simp [wkS]) (by omega)) | trace_state
def arw (c : Int) : Int × Int := if c = 0 then (1, 0) else if c = 1 then (2, 0) else if c = 2 then (5, 1024) else (14, 128)
theorem aoQ {c : Int} (h : 0 ≤ c ∧ c < 4) : ([.agg [V.int 1, V.int 0], .agg [V.int 2, V.int 0], .agg [V.int 5, V.int 1024], .agg [V.int 14, V.int 128]] : List V)[c.toNat]? = some (.agg [V.int (arw c).1, V.int (arw c).2]) := by
  obtain rfl | rfl | rfl | rfl : c = 0 ∨ c = 1 ∨ c = 2 ∨ c = 3 := by omega
  all_goals rfl
def aoj (l : List Int) (f : Qa) (k : Nat) : Qa × Nat :=
  if f.kind = 1 ∨ f.kind = 8 then ({ f with alg := (arw (Yd l k 4).1).1, bits := (arw (Yd l k 4).1).2 }, (Yd l k 4).2)
  else if f.kind = 2 then ({ f with num := 1 + (Yd l k 5).1 }, (Yd l k 5).2)
  else if f.kind = 3 then ({ f with alg := 5, bits := (ofD l k [1024, 2048]).1, num := 100 + (Yd l (ofD l k [1024, 2048]).2 3).1 }, (Yd l (ofD l k [1024, 2048]).2 3).2)
  else if f.kind = 4 ∨ f.kind = 5 then ({ f with num := 1 + (Yd l k 4).1 }, (Yd l k 4).2)
  else if f.kind = 6 then ({ f with num := (Yd l k 3).1 }, (Yd l k 3).2)
  else ({ f with text := (vV l k [[97], [98]]).1 }, (vV l k [[97], [98]]).2)
def Yn (l : List Int) (k : Nat) : Qa × Nat :=
  let n1 := Yd l k 7
  let w1 := vV l n1.2 [[97], [98], [99]]
  let o1 := ofD l w1.2 [0, 1, 2, 0, 3]
  let n2 := Yd l o1.2 12
  let o2 := ofD l n2.2 [90, 50, 100, 1]
  let n3 := Yd l o2.2 8
  let w2 := vV l n3.2 [[115], [116]]
  (⟨1 + n1.1, w1.1, o1.1, n2.1, o2.1, 1 + n3.1, w2.1, 0, 0, 0, []⟩, w2.2)
def ab2 (l : List Int) (k : Nat) : Qa × Nat := aoj l (Yn l k).1 (Yn l k).2
def xX (Qf Xp Wa : Nat) : AC := Qb [0, 2] (.reg [xo 2 (.alloc [.val vi0, .val vs0, .val vi0, .val vi0, .val vi0, .val vi0, .val vs0, .val vi0, .val vi0, .val vi0, .val vs0])]) (Qb [0, 2, 3] (.reg [mv 4 0, xo 5 (.call Qf [(.t 4), (.c (V.int 7))]), xo 6 (.bin .add (.c (V.int 1)) (.t 5)), mv 7 0, xo 8 (.bslice 3 1 false [vs0] [(0, (.c (V.str [97]))), (1, (.c (V.str [98]))), (2, (.c (V.str [99])))]), cl 9 Xp [7, 8], mv 10 0, xo 11 (.bslice 5 1 false [vi0] [(0, (.c (V.int 0))), (1, (.c (V.int 1))), (2, (.c (V.int 2))), (3, (.c (V.int 0))), (4, (.c (V.int 3)))]), cl 12 Wa [10, 11], mv 13 0, xo 14 (.call Qf [(.t 13), (.c (V.int 12))]), mv 15 0, xo 16 (.bslice 4 1 false [vi0] [(0, (.c (V.int 90))), (1, (.c (V.int 50))), (2, (.c (V.int 100))), (3, (.c (V.int 1)))]), cl 17 Wa [15, 16], mv 18 0, xo 19 (.call Qf [(.t 18), (.c (V.int 8))]), xo 20 (.bin .add (.c (V.int 1)) (.t 19)), mv 21 0, xo 22 (.bslice 2 1 false [vs0] [(0, (.c (V.str [115]))), (1, (.c (V.str [116])))]), cl 23 Xp [21, 22], xo 24 (.build [vi0, vs0, vi0, vi0, vi0, vi0, vs0, vi0, vi0, vi0, vs0] [(0, 1, (.t 6)), (1, 1, (.t 9)), (2, 1, (.t 12)), (3, 1, (.t 14)), (4, 1, (.t 17)), (5, 1, (.t 20)), (6, 1, (.t 23))]), xo 3 (.alloc [.val vi0, .val vs0, .val vi0, .val vi0, .val vi0, .val vi0, .val vs0, .val vi0, .val vi0, .val vi0, .val vs0]), xs 11 3 24]) (Qb [2, 3] (Qb [0, 2, 3, 26] (.reg [fa 25 5 3, ld 26 1 25]) (.block 0 (Qb [0, 2, 3, 26, 27] (Qb [0, 2, 3, 26, 27] (.reg [bc 28 .eql 26 (V.int 1), mv 27 28]) (.cond (.t 27) .skip (.reg [bc 29 .eql 26 (V.int 8), mv 27 29]))) (.cond (.t 27) (.reg [xo 30 (.build [vi0, vi0] [(0, 1, (.c (V.int 1)))]), xo 31 (.build [vi0, vi0] [(0, 1, (.c (V.int 2)))]), xo 32 (.build [vi0, vi0] [(0, 1, (.c (V.int 5))), (1, 1, (.c (V.int 1024)))]), xo 33 (.build [vi0, vi0] [(0, 1, (.c (V.int 14))), (1, 1, (.c (V.int 128)))]), xo 34 (.bslice 4 2 true [vi0, vi0] [(0, (.t 30)), (1, (.t 31)), (2, (.t 32)), (3, (.t 33))]), mv 35 0, xo 36 (.call Qf [(.t 35), (.c (V.int 4))]), ia 37 2 34 36, xo 38 (.load true 2 (.t 37)), fa 39 7 3, xs 2 39 38]) (Qb [0, 2, 3, 26, 40] (.reg [bc 41 .eql 26 (V.int 2), mv 40 41]) (.cond (.t 40) (.reg [mv 42 0, xo 43 (.call Qf [(.t 42), (.c (V.int 5))]), xo 44 (.bin .add (.c (V.int 1)) (.t 43)), fa 45 9 3, xs 1 45 44]) (Qb [0, 2, 3, 26, 46] (.reg [bc 47 .eql 26 (V.int 3), mv 46 47]) (.cond (.t 46) (.reg [mv 48 0, xo 49 (.bslice 2 1 false [vi0] [(0, (.c (V.int 1024))), (1, (.c (V.int 2048)))]), cl 50 Wa [48, 49], xo 51 (.build [vi0, vi0] [(0, 1, (.c (V.int 5))), (1, 1, (.t 50))]), mv 52 0, xo 53 (.call Qf [(.t 52), (.c (V.int 3))]), xo 54 (.bin .add (.c (V.int 100)) (.t 53)), fa 55 7 3, xs 2 55 51, fa 56 9 3, xs 1 56 54]) (Qb [0, 2, 3, 26, 57] (Qb [0, 2, 3, 26, 57] (.reg [bc 58 .eql 26 (V.int 4), mv 57 58]) (.cond (.t 57) .skip (.reg [bc 59 .eql 26 (V.int 5), mv 57 59]))) (.cond (.t 57) (.reg [mv 60 0, xo 61 (.call Qf [(.t 60), (.c (V.int 4))]), xo 62 (.bin .add (.c (V.int 1)) (.t 61)), fa 63 9 3, xs 1 63 62]) (Qb [0, 2, 3, 26, 64] (.reg [bc 65 .eql 26 (V.int 6), mv 64 65]) (.cond (.t 64) (.reg [mv 66 0, xo 67 (.call Qf [(.t 66), (.c (V.int 3))]), fa 68 9 3, xs 1 68 67]) (Qb [0, 2, 3, 69] (.reg [bc 70 .eql 26 (V.int 7), mv 69 70]) (.cond (.t 69) (.reg [mv 71 0, xo 72 (.bslice 2 1 false [vs0] [(0, (.c (V.str [97]))), (1, (.c (V.str [98])))]), cl 73 Xp [71, 72], fa 74 10 3, xs 1 74 73]) .skip)))))))))))))) (Qb [2] (.reg [xo 75 (.load true 11 (.t 3)), xs 11 2 75]) .ret))) def r_make_Finding : List Jf := [.cell 2 true 11]
def yR (Γ : Env) (f : Nat) : Prop := ∀ (l : List Int) (k : Nat) (hl : l.length ≤ 400) (hk : k ≤ l.length), EvD Γ f [] (Vd l k) ((ab2 l k).1.v) (Vd l (ab2 l k).2)
attribute [local go_sem] Vd in
theorem agy {Γ : Env} {f Qf Xp Wa : Nat} (h : Has Γ.P f 76 (xX Qf Xp Wa) r_make_Finding) (z0 : Yv Γ Qf) (z1 : Kw Γ Xp) (z2 : jq Γ Wa) : yR Γ f := by
  intro l k hl hk
  refine Uv h zsi (by first | exact aeZ _ _ | simp only [Qa.v, Qa.cells, V.closed, Qh, and_self, and_true]) zc3 zc3 fun C hC hm => ?_
  subst hC
  unfold xX
  have n1 := z0 l k 7 hl hk
  have r1 := QN (l := l) (k := k) (n := 7) (by omega) (by omega)
  have k1 := W2 (n := 7) hk
  simp only [ab2, Yn]
  generalize Yd l k 7 = x1 at *
  obtain ⟨a1, q1⟩ := x1
  simp only at n1 r1 k1 ⊢
  have n2 := z1 l q1 [[97], [98], [99]] hl k1 (by decide) (by decide)
  have k2 := acs (xs := [[97], [98], [99]]) k1
  generalize vV l q1 [[97], [98], [99]] = x2 at *
  obtain ⟨a2, q2⟩ := x2
  simp only at n2 k2 ⊢
  have n3 := z2 l q2 [0, 1, 2, 0, 3] hl k2 (by decide) (by decide)
  have k3 := ahJ (xs := [0, 1, 2, 0, 3]) k2
  generalize ofD l q2 [0, 1, 2, 0, 3] = x3 at *
  obtain ⟨a3, q3⟩ := x3
  simp only at n3 k3 ⊢
  have n4 := z0 l q3 12 hl k3
  have k4 := W2 (n := 12) k3
  generalize Yd l q3 12 = x4 at *
  obtain ⟨a4, q4⟩ := x4
  simp only at n4 k4 ⊢
  have n5 := z2 l q4 [90, 50, 100, 1] hl k4 (by decide) (by decide)
  have k5 := ahJ (xs := [90, 50, 100, 1]) k4
  generalize ofD l q4 [90, 50, 100, 1] = x5 at *
  obtain ⟨a5, q5⟩ := x5
  simp only at n5 k5 ⊢
  have n6 := z0 l q5 8 hl k5
  have r6 := QN (l := l) (k := q5) (n := 8) (by omega) (by omega)
  have k6 := W2 (n := 8) k5
  generalize Yd l q5 8 = x6 at *
  obtain ⟨a6, q6⟩ := x6
  simp only at n6 r6 k6 ⊢
  have n7 := z1 l q6 [[115], [116]] hl k6 (by decide) (by decide)
  have k7 := acs (xs := [[115], [116]]) k6
  generalize vV l q6 [[115], [116]] = x7 at *
  obtain ⟨a7, q7⟩ := x7
  simp only at n7 k7 ⊢
  have e1 : IntKind.i64.wrap (1 + a1) = 1 + a1 := Ym (by omega) (by omega)
  have m4 := z0 l q7 4 hl k7
  have s4 := QN (l := l) (k := q7) (n := 4) (by omega) (by omega)
  have g4 := aoQ s4
  have e4 : IntKind.i64.wrap (1 + (Yd l q7 4).1) = 1 + (Yd l q7 4).1 := Ym (by omega) (by omega)
  have m5 := z0 l q7 5 hl k7
  have s5 := QN (l := l) (k := q7) (n := 5) (by omega) (by omega)
  have e5 : IntKind.i64.wrap (1 + (Yd l q7 5).1) = 1 + (Yd l q7 5).1 := Ym (by omega) (by omega)
  have mo := z2 l q7 [1024, 2048] hl k7 (by decide) (by decide)
  have ko := ahJ (xs := [1024, 2048]) k7
  have mp := z0 l (ofD l q7 [1024, 2048]).2 3 hl ko
  have sp := QN (l := l) (k := (ofD l q7 [1024, 2048]).2) (n := 3) (by omega) (by omega)
  have ep : IntKind.i64.wrap (100 + (Yd l (ofD l q7 [1024, 2048]).2 3).1) = 100 + (Yd l (ofD l q7 [1024, 2048]).2 3).1 := Ym (by omega) (by omega)
  have m3 := z0 l q7 3 hl k7
  have mw := z1 l q7 [[97], [98]] hl k7 (by decide) (by decide)
  have w1 : IntKind.i64.wrap 1 = 1 := by decide
  have w2 : IntKind.i64.wrap 2 = 2 := by decide
  have w3 : IntKind.i64.wrap 3 = 3 := by decide
  have w4 : IntKind.i64.wrap 4 = 4 := by decide
  have w5 : IntKind.i64.wrap 5 = 5 := by decide
  have w6 : IntKind.i64.wrap 6 = 6 := by decide
  have w7 : IntKind.i64.wrap 7 = 7 := by decide
  have w8 : IntKind.i64.wrap 8 = 8 := by decide
  simp only [Vd, List.map_cons, List.map_nil] at n1 n2 n3 n4 n5 n6 n7 m4 m5 mo mp m3 mw
  obtain rfl | rfl | rfl | rfl | rfl | rfl | rfl | rfl : a6 = 0 ∨ a6 = 1 ∨ a6 = 2 ∨ a6 = 3 ∨ a6 = 4 ∨ a6 = 5 ∨ a6 = 6 ∨ a6 = 7 := by omega
  all_goals
    simp only [aoj, Int.reduceAdd, Int.reduceEq, or_true, true_or, or_self, if_true, if_false, Qa.v, Qa.cells]
    (have zx := And.intro e1 (And.intro e4 (And.intro e5 (And.intro ep (And.intro g4 (And.intro w1 (And.intro w2 (And.intro w3 (And.intro w4 (And.intro w5 (And.intro w6 (And.intro w7 w8)))))))))))); refine zgo ?_; repeat' first | exact zt | apply zan | intro hc
  all_goals first | (refine aeX _ rfl rfl zcd ?_; simp only [go_sem, Nat.reduceEqDiff, Nat.reduceAdd, reduceIte, reduceCtorEq]; done) | trace_state
theorem an1 (a b : List UInt8) : (!(Op.bytesLess a b || a == b)) = Op.bytesLess b a := by
  rcases h1 : Op.bytesLess a b with _ | _
  · rcases h2 : Op.bytesLess b a with _ | _
    · have := acR a b h1 h2
      subst this; simp
    · have : a ≠ b := fun h => by subst h; rw [h1] at h2; cases h2
      simp [this]
  · rcases h2 : Op.bytesLess b a with _ | _
    · simp
    · have := yf a b a h1 h2
      rw [acS] at this; cases this
theorem amF (x : Int) : YQ [x] = x := by
  simp only [YQ]; split <;> omega
def vm : AC := Qb [0, 1] (.reg [mc 4 (V.int 0)]) (Qb [0, 1] (Qb [0, 1, 7] (.reg [mv 5 0, mv 6 1, bn 7 .lss 5 6]) (.cond (.t 7) (Qb [4] (.reg [mc 4 (V.int (-1))]) .ret) .skip)) (Qb [] (Qb [10] (.reg [mv 8 0, mv 9 1, bn 10 .gtr 8 9]) (.cond (.t 10) (Qb [4] (.reg [mc 4 (V.int 1)]) .ret) .skip)) (Qb [4] (.reg [mc 4 (V.int 0)]) .ret))) def r_ref14_texts : List Jf := [.tmp 4]
def wb (Γ : Env) (f : Nat) : Prop := ∀ (a b : List UInt8), EvN Γ f [V.str a, V.str b] (V.int (aaW a b))
theorem ahj {Γ : Env} {f : Nat} (h : Has Γ.P f 11 vm r_ref14_texts)  : wb Γ f := by
  intro a b
  refine Qd h zsi zcl zcl fun C hC hm => ?_
  subst hC
  unfold vm
  have hg := an1 a b
  unfold aaW
  rcases h1 : Op.bytesLess a b with _ | _
  · rw [h1] at hg
    by_cases he : a = b
    · subst he
      rw [h1]
      (have zx := h1); exact zg
    · have h2 : (a == b) = false := by simpa using he
      rw [h2] at hg
      rw [← hg]
      (have zx := And.intro h1 h2); exact zg
  · (have zx := h1); exact zg
def abt : List AO := [mv 12 0, mv 13 5, ia 14 1 12 13, ld 15 1 14, mv 16 1, mv 17 5, ia 18 1 16 17, ld 19 1 18, bn 20 .lss 15 19]
def aby : List (List Nat) := [[], [], [0, 1], [2], [], [], [4, 5], [6], [3, 7]]
def abp : OT := .one 0 (.one 1 (.one 2 (.one 3 (.one 4 (.one 5 (.one 6 (.one 7 (.one 8 .done))))))))
@[go_sem] def abr : OP := oN 0 (mv 12 0) (oN 1 (mv 13 5) (oN 2 (ia 14 1 12 13) (oN 3 (ld 15 1 14) (oN 4 (mv 16 1) (oN 5 (mv 17 5) (oN 6 (ia 18 1 16 17) (oN 7 (ld 19 1 18) (oN 8 (bn 20 .lss 15 19) .done))))))))
instance : RG [] abp (abr) (abt) aby 9 (fun _ => true) := ⟨rfl, by kernel_rfl, by kernel_rfl⟩
def abs : List AO := [mv 21 0, mv 22 5, ia 23 1 21 22, ld 24 1 23, mv 25 1, mv 26 5, ia 27 1 25 26, ld 28 1 27, bn 29 .gtr 24 28]
def abx : List (List Nat) := [[], [], [0, 1], [2], [], [], [4, 5], [6], [3, 7]]
def abo : OT := .one 0 (.one 1 (.one 2 (.one 3 (.one 4 (.one 5 (.one 6 (.one 7 (.one 8 .done))))))))
@[go_sem] def abq : OP := oN 0 (mv 21 0) (oN 1 (mv 22 5) (oN 2 (ia 23 1 21 22) (oN 3 (ld 24 1 23) (oN 4 (mv 25 1) (oN 5 (mv 26 5) (oN 6 (ia 27 1 25 26) (oN 7 (ld 28 1 27) (oN 8 (bn 29 .gtr 24 28) .done))))))))
instance : RG [] abo (abq) (abs) abx 9 (fun _ => true) := ⟨rfl, by kernel_rfl, by kernel_rfl⟩
def aay : AC := Qb [0, 1] (.reg [mc 4 (V.int 0)]) (Qb [] (Qb [0, 1, 5] (.reg [mc 5 (V.int 0)]) (.block 0 (Y6 [0, 1, 5] (Qb [0, 1, 5] (Qb [0, 1, 5, 9] (.reg [mv 6 5, mv 7 0, ln 8 7, bn 9 .lss 6 8]) (.cond (.t 9) .skip (.exit 0))) (Qb [0, 1, 5] (.block 1 (Qb [0, 1, 5] (Qb [0, 1, 5, 20] (wP [] abp (abr) (abt) aby) (.cond (.t 20) (Qb [4] (.reg [mc 4 (V.int (-1))]) .ret) .skip)) (Qb [0, 1, 5, 29] (wP [] abo (abq) (abs) abx) (.cond (.t 29) (Qb [4] (.reg [mc 4 (V.int 1)]) .ret) .skip)))) (.reg [mv 10 5, bc 11 .add 10 (V.int 1), mv 5 11])))))) (Qb [4] (.reg [mc 4 (V.int 0)]) .ret)) def r_ref14_ints : List Jf := [.tmp 4]
def vH (Γ : Env) (f : Nat) : Prop := ∀ (a b : List Int) (hab : a.length = b.length) (hl : a.length < 2 ^ 40), EvN Γ f [.sl 1 (a.map V.int), .sl 1 (b.map V.int)] (V.int (YQ (List.zipWith U4 a b)))
theorem aiv {Γ : Env} {f : Nat} (h : Has Γ.P f 30 aay r_ref14_ints)  : vH Γ f := by
  intro a b hab hl
  refine Qd h zsi zcl zcl fun C hC hm => ?_
  subst hC
  unfold aay
  refine zgo ?_; repeat' first | exact zt | apply zan | intro hc
  refine Y2 (ι := Nat) (fun k => k ≤ a.length ∧ YQ (List.zipWith U4 (a.drop k) (b.drop k)) = YQ (List.zipWith U4 a b)) (fun k => [(5, V.int k)]) (fun k => a.length - k) 0 (by omega) ⟨by simp, by simp⟩ (by repeat' first | exact X2 | refine WM (by omega) (by simp only [Ob.lt, ltL, V.lt, and_self, and_true]; try omega) ?_) (fun i hi => by simp only [ovT, X0, Nat.reduceEqDiff, reduceIte]; (repeat' first | exact Ve | refine XO ?_ ?_ | simp only [V.lt, ltL, and_self, and_true] | omega)) zet fun k hk K' hL => ?_
  obtain ⟨hk, hinv⟩ := hk
  simp only [ovT, X0, Nat.reduceEqDiff, reduceIte]
  have hal : (a.map V.int).length = a.length := List.length_map _
  rcases hd : a.drop k with _ | ⟨y, r⟩
  · have hkl := Je hd
    rw [hd] at hinv
    have e1 : decide ((k : Int) < (a.length : Int)) = false := by simp; omega
    rw [← hinv]
    (have zx := And.intro e1 hal); refine zgo ?_; repeat' first | exact zt | apply zan | intro hc
    all_goals first | exact zr | (refine Qv _ rfl ?_; simp only [go_sem, Nat.reduceEqDiff, Nat.reduceAdd, reduceIte, reduceCtorEq]; rfl) | trace_state
  · obtain ⟨hk, hget, hr⟩ := QJ hd
    obtain ⟨z, hz⟩ : ∃ z, b[k]? = some z := ⟨_, List.getElem?_eq_getElem (by omega)⟩
    have hdb : b.drop k = z :: b.drop (k + 1) := by
      obtain ⟨h1, h2⟩ := List.getElem?_eq_some_iff.1 hz
      rw [List.drop_eq_getElem_cons h1, h2]
    rw [hd, hdb, List.zipWith_cons_cons, YQ, ← hr] at hinv
    have hw := Qr (k := k) (by omega)
    have e1 : decide ((k : Int) < (a.length : Int)) = true := by simp; omega
    have va : (a.map V.int)[k]? = some (V.int y) := by rw [List.getElem?_map, hget]; rfl
    have vb : (b.map V.int)[k]? = some (V.int z) := by rw [List.getElem?_map, hz]; rfl
    rcases h1 : decide (y < z) with _ | _
    · rcases h2 : decide (y > z) with _ | _
      · have hyz : U4 y z = 0 := by simp at h1 h2; unfold U4; rw [if_neg (by omega), if_neg (by omega)]
        rw [hyz, if_neg (by decide)] at hinv
        (have zx := And.intro e1 (And.intro hal (And.intro va (And.intro vb (And.intro h1 (And.intro h2 hw)))))); refine zgo ?_; repeat' first | exact zt | apply zan | intro hc
        all_goals first | exact hL _ (k + 1) zet ⟨by omega, hinv⟩ (by omega) (fun a ha => by simp only [u32, u33, u34, u35, u36, u37, u38, u39]; repeat rw [if_neg (by omega)]) | trace_state
      · have hyz : U4 y z = 1 := by simp at h1 h2; unfold U4; rw [if_neg (by omega), if_pos (by omega)]
        rw [hyz, if_pos (by decide)] at hinv
        rw [← hinv]
        (have zx := And.intro e1 (And.intro hal (And.intro va (And.intro vb (And.intro h1 (And.intro h2 hw)))))); exact zg
    · have hyz : U4 y z = -1 := by simp at h1; unfold U4; rw [if_pos (by omega)]
      rw [hyz, if_pos (by decide)] at hinv
      rw [← hinv]
      (have zx := And.intro e1 (And.intro hal (And.intro va (And.intro vb (And.intro h1 hw))))); exact zg
theorem aoX (a b : Qa) : ahG a b = YQ [aaW a.host b.host, YQ [U4 a.mach b.mach, U4 a.day b.day], aaW a.subj b.subj, YQ [U4 a.kind b.kind, U4 a.alg b.alg, U4 a.bits b.bits, U4 a.num b.num], aaW a.text b.text, YQ [U4 a.src b.src, U4 a.conf b.conf]] := by
  simp only [ahG, arz, YQ]
  repeat' split
  all_goals first | rfl | omega | simp_all
def vo (Vu UN : Nat) : AC := Qb [2, 3] (.reg [xo 2 (.box true 11 (.t 0)), xo 3 (.box true 11 (.t 1)), mc 4 (V.int 0)]) (Qb [2, 3] (Qb [2, 3, 5] (.reg [fa 10 1 2, ld 11 1 10, fa 12 1 3, ld 13 1 12, cl 14 Vu [11, 13], mv 5 14]) (Qb [2, 3, 5, 16] (.reg [mv 15 5, bc 16 .neq 15 (V.int 0)]) (.cond (.t 16) (Qb [4] (.reg [mv 17 5, mv 4 17]) .ret) .skip))) (Qb [2, 3] (Qb [2, 3, 6] (.reg [fa 18 2 2, ld 19 1 18, fa 20 3 2, ld 21 1 20, xo 22 (.bslice 2 1 false [vi0] [(0, (.t 19)), (1, (.t 21))]), fa 23 2 3, ld 24 1 23, fa 25 3 3, ld 26 1 25, xo 27 (.bslice 2 1 false [vi0] [(0, (.t 24)), (1, (.t 26))]), cl 28 UN [22, 27], mv 6 28]) (Qb [2, 3, 6, 30] (.reg [mv 29 6, bc 30 .neq 29 (V.int 0)]) (.cond (.t 30) (Qb [4] (.reg [mv 31 6, mv 4 31]) .ret) .skip))) (Qb [2, 3] (Qb [2, 3, 7] (.reg [fa 32 6 2, ld 33 1 32, fa 34 6 3, ld 35 1 34, cl 36 Vu [33, 35], mv 7 36]) (Qb [2, 3, 7, 38] (.reg [mv 37 7, bc 38 .neq 37 (V.int 0)]) (.cond (.t 38) (Qb [4] (.reg [mv 39 7, mv 4 39]) .ret) .skip))) (Qb [2, 3] (Qb [2, 3, 8] (.reg [fa 40 5 2, ld 41 1 40, fa 42 7 2, fa 43 0 42, ld 44 1 43, fa 45 7 2, fa 46 1 45, ld 47 1 46, fa 48 9 2, ld 49 1 48, xo 50 (.bslice 4 1 false [vi0] [(0, (.t 41)), (1, (.t 44)), (2, (.t 47)), (3, (.t 49))]), fa 51 5 3, ld 52 1 51, fa 53 7 3, fa 54 0 53, ld 55 1 54, fa 56 7 3, fa 57 1 56, ld 58 1 57, fa 59 9 3, ld 60 1 59, xo 61 (.bslice 4 1 false [vi0] [(0, (.t 52)), (1, (.t 55)), (2, (.t 58)), (3, (.t 60))]), cl 62 UN [50, 61], mv 8 62]) (Qb [2, 3, 8, 64] (.reg [mv 63 8, bc 64 .neq 63 (V.int 0)]) (.cond (.t 64) (Qb [4] (.reg [mv 65 8, mv 4 65]) .ret) .skip))) (Qb [2, 3] (Qb [2, 3, 9] (.reg [fa 66 10 2, ld 67 1 66, fa 68 10 3, ld 69 1 68, cl 70 Vu [67, 69], mv 9 70]) (Qb [2, 3, 9, 72] (.reg [mv 71 9, bc 72 .neq 71 (V.int 0)]) (.cond (.t 72) (Qb [4] (.reg [mv 73 9, mv 4 73]) .ret) .skip))) (Qb [4] (.reg [fa 74 0 2, ld 75 1 74, fa 76 4 2, ld 77 1 76, xo 78 (.bslice 2 1 false [vi0] [(0, (.t 75)), (1, (.t 77))]), fa 79 0 3, ld 80 1 79, fa 81 4 3, ld 82 1 81, xo 83 (.bslice 2 1 false [vi0] [(0, (.t 80)), (1, (.t 82))]), cl 84 UN [78, 83], mv 4 84]) .ret)))))) def r_ref14_Order : List Jf := [.tmp 4]
def wc (Γ : Env) (f : Nat) : Prop := ∀ (a b : Qa), EvN Γ f [a.v, b.v] (V.int (ahG a b))
theorem ahk {Γ : Env} {f Vu UN : Nat} (h : Has Γ.P f 85 (vo Vu UN) r_ref14_Order) (z0 : wb Γ Vu) (z1 : vH Γ UN) : wc Γ f := by
  intro a b
  refine Qd h zsi zcl zcl fun C hC hm => ?_
  subst hC
  unfold vo
  have p1 := (z0 a.host b.host).b
  have p2 := (z1 [a.mach, a.day] [b.mach, b.day] rfl (by simp)).b
  have p3 := (z0 a.subj b.subj).b
  have p4 := (z1 [a.kind, a.alg, a.bits, a.num] [b.kind, b.alg, b.bits, b.num] rfl (by simp)).b
  have p5 := (z0 a.text b.text).b
  have p6 := (z1 [a.src, a.conf] [b.src, b.conf] rfl (by simp)).b
  simp only [List.map_cons, List.map_nil, List.zipWith_cons_cons, List.zipWith_nil_left] at p2 p4 p6
  rw [aoX]
  generalize aaW a.host b.host = o1 at *
  generalize YQ [U4 a.mach b.mach, U4 a.day b.day] = o2 at *
  generalize aaW a.subj b.subj = o3 at *
  generalize YQ [U4 a.kind b.kind, U4 a.alg b.alg, U4 a.bits b.bits, U4 a.num b.num] = o4 at *
  generalize aaW a.text b.text = o5 at *
  generalize YQ [U4 a.src b.src, U4 a.conf b.conf] = o6 at *
  simp only [Qa.v, Qa.cells]
  have F : ∀ (x : Int) (r : List Int), x ≠ 0 → YQ (x :: r) = x := fun x r h => by rw [YQ, if_pos h]
  have N : ∀ (x : Int) (r : List Int), x = 0 → YQ (x :: r) = YQ r := fun x r h => by rw [YQ, if_neg (by simpa using h)]
  by_cases h1 : o1 = 0
  rotate_left
  · have c1 : (o1 != 0) = true := by simpa using h1
    rw [F _ _ h1]
    (have zx := c1); exact zg
  have c1 : (o1 != 0) = false := by simpa using h1
  rw [N _ _ h1]
  by_cases h2 : o2 = 0
  rotate_left
  · have c2 : (o2 != 0) = true := by simpa using h2
    rw [F _ _ h2]
    (have zx := And.intro c1 c2); exact zg
  have c2 : (o2 != 0) = false := by simpa using h2
  rw [N _ _ h2]
  by_cases h3 : o3 = 0
  rotate_left
  · have c3 : (o3 != 0) = true := by simpa using h3
    rw [F _ _ h3]
    (have zx := And.intro c1 (And.intro c2 c3)); exact zg
  have c3 : (o3 != 0) = false := by simpa using h3
  rw [N _ _ h3]
  by_cases h4 : o4 = 0
  rotate_left
  · have c4 : (o4 != 0) = true := by simpa using h4
    rw [F _ _ h4]
    (have zx := And.intro c1 (And.intro c2 (And.intro c3 c4))); exact zg
  have c4 : (o4 != 0) = false := by simpa using h4
  rw [N _ _ h4]
  by_cases h5 : o5 = 0
  rotate_left
  · have c5 : (o5 != 0) = true := by simpa using h5
    rw [F _ _ h5]
    (have zx := And.intro c1 (And.intro c2 (And.intro c3 (And.intro c4 c5)))); exact zg
  have c5 : (o5 != 0) = false := by simpa using h5
  rw [N _ _ h5, amF]
  (have zx := And.intro c1 (And.intro c2 (And.intro c3 (And.intro c4 c5)))); exact zg
def aae : List AO := [fa 57 7 1, xo 58 (.load true 2 (.t 57)), xo 59 (.build [vi0, vi0] []), xo 60 (.eqagg false [0, 0] (.t 58) (.t 59)), fa 61 9 1, ld 62 1 61, bc 63 .eql 62 (V.int 0), fa 64 10 1, ld 65 1 64, bc 66 .eql 65 (V.str []), mv 3 60, mv 4 63, mv 5 66]
def aaH : List (List Nat) := [[], [0], [], [1, 2], [], [4], [5], [], [7], [8], [3, 0, 1, 2, 3], [6, 10, 0, 1, 2, 3, 4, 5, 6, 10], [9, 11, 0, 1, 2, 3, 4, 5, 6, 7, 8, 9, 10, 11]]
def v6 : OT := .one 0 (.one 1 (.one 2 (.one 3 (.one 4 (.one 5 (.one 6 (.one 7 (.one 8 (.one 9 (.one 10 (.one 11 (.one 12 .done))))))))))))
@[go_sem] def aaa : OP := oN 0 (fa 57 7 1) (oN 1 (xo 58 (.load true 2 (.t 57))) (oN 2 (xo 59 (.build [vi0, vi0] [])) (oN 3 (xo 60 (.eqagg false [0, 0] (.t 58) (.t 59))) (oN 4 (fa 61 9 1) (oN 5 (ld 62 1 61) (oN 6 (bc 63 .eql 62 (V.int 0)) (oN 7 (fa 64 10 1) (oN 8 (ld 65 1 64) (oN 9 (bc 66 .eql 65 (V.str [])) (oN 10 (mv 3 60) (oN 11 (mv 4 63) (oN 12 (mv 5 66) .done))))))))))))
instance : RG [] v6 (aaa) (aae) aaH 13 (fun _ => true) := ⟨rfl, by kernel_rfl, by kernel_rfl⟩
def vq (UO Xl Vv : Nat) : AC := Qb [1] (.reg [xo 1 (.box true 11 (.t 0)), mc 2 (V.int 0)]) (Qb [1] (Qb [1, 56] (.reg [fa 7 0 1, ld 8 1 7, bc 9 .lss 8 (V.int 1), mv 10 9, xg 11 (.faddr 0 (.t 1)) 10 false, xg 12 (.load false 1 (.t 11)) 10 false, xg 13 (.bin .gtr (.t 12) (.c (V.int 7))) 10 false, xo 14 (.pick (.t 10) (.c (V.bool true)) (.t 13)), mv 15 14, xg 16 (.faddr 1 (.t 1)) 15 false, xg 17 (.load false 1 (.t 16)) 15 false, xg 18 (.call UO [(.t 17)]) 15 false, xg 19 (.un .not (.t 18)) 15 false, xo 20 (.pick (.t 15) (.c (V.bool true)) (.t 19)), mv 21 20, xg 22 (.faddr 2 (.t 1)) 21 false, xg 23 (.load false 1 (.t 22)) 21 false, xg 24 (.bin .lss (.t 23) (.c (V.int 0))) 21 false, xo 25 (.pick (.t 21) (.c (V.bool true)) (.t 24)), mv 26 25, xg 27 (.faddr 2 (.t 1)) 26 false, xg 28 (.load false 1 (.t 27)) 26 false, xg 29 (.bin .gtr (.t 28) (.c (V.int 1099511627776))) 26 false, xo 30 (.pick (.t 26) (.c (V.bool true)) (.t 29)), mv 31 30, xg 32 (.faddr 3 (.t 1)) 31 false, xg 33 (.load false 1 (.t 32)) 31 false, xg 34 (.bin .lss (.t 33) (.c (V.int 0))) 31 false, xo 35 (.pick (.t 31) (.c (V.bool true)) (.t 34)), mv 36 35, xg 37 (.faddr 3 (.t 1)) 36 false, xg 38 (.load false 1 (.t 37)) 36 false, xg 39 (.bin .gtr (.t 38) (.c (V.int 40000))) 36 false, xo 40 (.pick (.t 36) (.c (V.bool true)) (.t 39)), mv 41 40, xg 42 (.faddr 4 (.t 1)) 41 false, xg 43 (.load false 1 (.t 42)) 41 false, xg 44 (.bin .lss (.t 43) (.c (V.int 1))) 41 false, xo 45 (.pick (.t 41) (.c (V.bool true)) (.t 44)), mv 46 45, xg 47 (.faddr 4 (.t 1)) 46 false, xg 48 (.load false 1 (.t 47)) 46 false, xg 49 (.bin .gtr (.t 48) (.c (V.int 100))) 46 false, xo 50 (.pick (.t 46) (.c (V.bool true)) (.t 49)), mv 51 50, xg 52 (.faddr 6 (.t 1)) 51 false, xg 53 (.load false 1 (.t 52)) 51 false, xg 54 (.call UO [(.t 53)]) 51 false, xg 55 (.un .not (.t 54)) 51 false, xo 56 (.pick (.t 51) (.c (V.bool true)) (.t 55))]) (.cond (.t 56) (Qb [2] (.reg [mc 2 (V.int 24)]) .ret) .skip)) (Qb [1, 3, 4, 5] (wP [] v6 (aaa) (aae) aaH) (Qb [1, 3, 4, 5, 6] (.reg [mc 6 (V.bool false)]) (Qb [6] (Qb [1, 3, 4, 5, 6, 68] (.reg [fa 67 5 1, ld 68 1 67]) (.block 0 (Qb [1, 3, 4, 5, 6, 68, 69] (Qb [1, 3, 4, 5, 6, 68, 69] (.reg [bc 70 .eql 68 (V.int 1), mv 69 70]) (.cond (.t 69) .skip (.reg [bc 71 .eql 68 (V.int 8), mv 69 71]))) (.cond (.t 69) (.reg [fa 72 7 1, xo 73 (.load true 2 (.t 72)), cl 74 Xl [73], mv 75 74, mg 76 4 75 true, xo 77 (.pick (.t 75) (.t 76) (.c (V.bool false))), mv 78 77, mg 79 5 78 true, xo 80 (.pick (.t 78) (.t 79) (.c (V.bool false))), mv 6 80]) (Qb [1, 3, 4, 5, 6, 68, 81] (.reg [bc 82 .eql 68 (V.int 2), mv 81 82]) (.cond (.t 81) (.reg [mv 83 3, mv 84 83, xg 85 (.faddr 9 (.t 1)) 84 true, xg 86 (.load false 1 (.t 85)) 84 true, xg 87 (.bin .geq (.t 86) (.c (V.int 0))) 84 true, xo 88 (.pick (.t 84) (.t 87) (.c (V.bool false))), mv 89 88, xg 90 (.faddr 9 (.t 1)) 89 true, xg 91 (.load false 1 (.t 90)) 89 true, xg 92 (.bin .leq (.t 91) (.c (V.int 65535))) 89 true, xo 93 (.pick (.t 89) (.t 92) (.c (V.bool false))), mv 94 93, mg 95 5 94 true, xo 96 (.pick (.t 94) (.t 95) (.c (V.bool false))), mv 6 96]) (Qb [1, 3, 4, 5, 6, 68, 97] (.reg [bc 98 .eql 68 (V.int 3), mv 97 98]) (.cond (.t 97) (.reg [fa 99 7 1, xo 100 (.load true 2 (.t 99)), cl 101 Vv [100], mv 102 101, xg 103 (.faddr 9 (.t 1)) 102 true, xg 104 (.load false 1 (.t 103)) 102 true, xg 105 (.bin .geq (.t 104) (.c (V.int 0))) 102 true, xo 106 (.pick (.t 102) (.t 105) (.c (V.bool false))), mv 107 106, xg 108 (.faddr 9 (.t 1)) 107 true, xg 109 (.load false 1 (.t 108)) 107 true, xg 110 (.bin .leq (.t 109) (.c (V.int 2147483648))) 107 true, xo 111 (.pick (.t 107) (.t 110) (.c (V.bool false))), mv 112 111, mg 113 5 112 true, xo 114 (.pick (.t 112) (.t 113) (.c (V.bool false))), mv 6 114]) (Qb [1, 3, 4, 5, 6, 68, 115] (Qb [1, 3, 4, 5, 6, 68, 115] (.reg [bc 116 .eql 68 (V.int 4), mv 115 116]) (.cond (.t 115) .skip (.reg [bc 117 .eql 68 (V.int 5), mv 115 117]))) (.cond (.t 115) (.reg [mv 118 3, mv 119 118, xg 120 (.faddr 9 (.t 1)) 119 true, xg 121 (.load false 1 (.t 120)) 119 true, xg 122 (.bin .geq (.t 121) (.c (V.int 1))) 119 true, xo 123 (.pick (.t 119) (.t 122) (.c (V.bool false))), mv 124 123, xg 125 (.faddr 9 (.t 1)) 124 true, xg 126 (.load false 1 (.t 125)) 124 true, xg 127 (.bin .leq (.t 126) (.c (V.int 4))) 124 true, xo 128 (.pick (.t 124) (.t 127) (.c (V.bool false))), mv 129 128, mg 130 5 129 true, xo 131 (.pick (.t 129) (.t 130) (.c (V.bool false))), mv 6 131]) (Qb [1, 3, 4, 5, 6, 68, 132] (.reg [bc 133 .eql 68 (V.int 6), mv 132 133]) (.cond (.t 132) (.reg [mv 134 3, mv 135 134, xg 136 (.faddr 9 (.t 1)) 135 true, xg 137 (.load false 1 (.t 136)) 135 true, xg 138 (.bin .geq (.t 137) (.c (V.int 0))) 135 true, xo 139 (.pick (.t 135) (.t 138) (.c (V.bool false))), mv 140 139, xg 141 (.faddr 9 (.t 1)) 140 true, xg 142 (.load false 1 (.t 141)) 140 true, xg 143 (.bin .leq (.t 142) (.c (V.int 2147483648))) 140 true, xo 144 (.pick (.t 140) (.t 143) (.c (V.bool false))), mv 145 144, mg 146 5 145 true, xo 147 (.pick (.t 145) (.t 146) (.c (V.bool false))), mv 6 147]) (Qb [1, 3, 4, 6, 148] (.reg [bc 149 .eql 68 (V.int 7), mv 148 149]) (.cond (.t 148) (.reg [mv 150 3, mv 151 150, mg 152 4 151 true, xo 153 (.pick (.t 151) (.t 152) (.c (V.bool false))), mv 154 153, xg 155 (.faddr 10 (.t 1)) 154 true, xg 156 (.load false 1 (.t 155)) 154 true, xg 157 (.call UO [(.t 156)]) 154 true, xo 158 (.pick (.t 154) (.t 157) (.c (V.bool false))), mv 6 158]) .skip)))))))))))))) (Qb [] (Qb [160] (.reg [mv 159 6, xo 160 (.un .not (.t 159))]) (.cond (.t 160) (Qb [2] (.reg [mc 2 (V.int 24)]) .ret) .skip)) (Qb [2] (.reg [mc 2 (V.int 0)]) .ret)))))) def r_ref14_Check : List Jf := [.tmp 2]
def wd (Γ : Env) (f : Nat) : Prop := ∀ (f0 : Qa) (hz : f0.Sz) (hc0 : WJ f0 = true), EvN Γ f [f0.v] (V.int 0)
theorem ahl {Γ : Env} {f UO Xl Vv : Nat} (h : Has Γ.P f 161 (vq UO Xl Vv) r_ref14_Check) (z0 : vI Γ UO) (z4 : qF Γ Xl) (z5 : Ku Γ Vv) : wd Γ f := by
  intro f0 hz hc0
  refine Qd h zsi zcl zcl fun C hC hm => ?_
  subst hC
  unfold vq
  obtain ⟨src, host, mach, day, conf, kind, subj, alg, bits, num, text⟩ := f0
  obtain ⟨z1, z2, z3⟩ := hz
  have p1 := (z0 host z1).b
  have p2 := (z0 subj z2).b
  have p3 := (z0 text z3).b
  have p4 := (z4 alg bits).b
  have p5 := (z5 alg bits).b
  simp only [WJ, Bool.and_eq_true, Bool.not_eq_true', decide_eq_true_eq, decide_eq_false_iff_not] at hc0
  obtain ⟨⟨⟨⟨⟨⟨⟨n1, n2⟩, m1⟩, m2⟩, ⟨⟨⟨m3, m4⟩, m5⟩, m6⟩⟩, m7⟩, m8⟩, hcont⟩ := hc0
  rw [n1] at p1
  rw [n2] at p2
  have d1 : decide (src < 1) = false := decide_eq_false (by omega)
  have d2 : decide (src > 7) = false := decide_eq_false (by omega)
  have d3 : decide (mach < 0) = false := decide_eq_false (by omega)
  have d4 : decide (mach > 1099511627776) = false := decide_eq_false (by omega)
  have d5 : decide (day < 0) = false := decide_eq_false (by omega)
  have d6 : decide (day > 40000) = false := decide_eq_false (by omega)
  have d7 : decide (conf < 1) = false := decide_eq_false (by omega)
  have d8 : decide (conf > 100) = false := decide_eq_false (by omega)
  simp only [Qa.v, Qa.cells]
  have n0 : ((0 : Int) == 0) = true := by decide
  have E : ∀ n : Int, kind ≠ n → (kind == n) = false := fun n h => by simpa using h
  rw [vj] at hcont
  dsimp only at hcont
  simp only [akx] at hcont
  by_cases k1 : kind = 1
  · subst k1
    simp only [true_or, if_true, Bool.and_eq_true, beq_iff_eq] at hcont
    obtain ⟨⟨q1, rfl⟩, rfl⟩ := hcont
    rw [q1] at p4
    (have zx := And.intro d1 (And.intro d2 (And.intro d3 (And.intro d4 (And.intro d5 (And.intro d6 (And.intro d7 (And.intro d8 n0)))))))); exact zg
  by_cases k8 : kind = 8
  · subst k8
    simp only [or_true, if_true, Bool.and_eq_true, beq_iff_eq] at hcont
    obtain ⟨⟨q1, rfl⟩, rfl⟩ := hcont
    rw [q1] at p4
    (have zx := And.intro d1 (And.intro d2 (And.intro d3 (And.intro d4 (And.intro d5 (And.intro d6 (And.intro d7 (And.intro d8 n0)))))))); exact zg
  rw [if_neg (by simp [k1, k8])] at hcont
  by_cases k2 : kind = 2
  · subst k2
    simp only [if_true, Bool.and_eq_true, beq_iff_eq, decide_eq_true_eq] at hcont
    obtain ⟨⟨⟨⟨rfl, rfl⟩, rfl⟩, q1⟩, q2⟩ := hcont
    have g1 : decide (num ≥ 0) = true := decide_eq_true q1
    have g2 : decide (num ≤ 65535) = true := decide_eq_true q2
    (have zx := And.intro d1 (And.intro d2 (And.intro d3 (And.intro d4 (And.intro d5 (And.intro d6 (And.intro d7 (And.intro d8 (And.intro n0 (And.intro g1 g2)))))))))); exact zg
  rw [if_neg k2] at hcont
  by_cases k3 : kind = 3
  · subst k3
    simp only [if_true, Bool.and_eq_true, beq_iff_eq, decide_eq_true_eq] at hcont
    obtain ⟨⟨⟨⟨q0, q3⟩, q1⟩, q2⟩, rfl⟩ := hcont
    have hu : aqn alg bits 2 = true := by rw [aqn, q3, decide_eq_true q0]; rfl
    rw [hu] at p5
    have g1 : decide (num ≥ 0) = true := decide_eq_true q1
    have g2 : decide (num ≤ 2147483648) = true := decide_eq_true q2
    (have zx := And.intro d1 (And.intro d2 (And.intro d3 (And.intro d4 (And.intro d5 (And.intro d6 (And.intro d7 (And.intro d8 (And.intro n0 (And.intro g1 g2)))))))))); exact zg
  rw [if_neg k3] at hcont
  by_cases k4 : kind = 4
  · subst k4
    simp only [true_or, if_true, Bool.and_eq_true, beq_iff_eq, decide_eq_true_eq] at hcont
    obtain ⟨⟨⟨⟨rfl, rfl⟩, rfl⟩, q1⟩, q2⟩ := hcont
    have g1 : decide (num ≥ 1) = true := decide_eq_true q1
    have g2 : decide (num ≤ 4) = true := decide_eq_true q2
    (have zx := And.intro d1 (And.intro d2 (And.intro d3 (And.intro d4 (And.intro d5 (And.intro d6 (And.intro d7 (And.intro d8 (And.intro n0 (And.intro g1 g2)))))))))); exact zg
  by_cases k5 : kind = 5
  · subst k5
    simp only [or_true, if_true, Bool.and_eq_true, beq_iff_eq, decide_eq_true_eq] at hcont
    obtain ⟨⟨⟨⟨rfl, rfl⟩, rfl⟩, q1⟩, q2⟩ := hcont
    have g1 : decide (num ≥ 1) = true := decide_eq_true q1
    have g2 : decide (num ≤ 4) = true := decide_eq_true q2
    (have zx := And.intro d1 (And.intro d2 (And.intro d3 (And.intro d4 (And.intro d5 (And.intro d6 (And.intro d7 (And.intro d8 (And.intro n0 (And.intro g1 g2)))))))))); exact zg
  rw [if_neg (by simp [k4, k5])] at hcont
  by_cases k6 : kind = 6
  · subst k6
    simp only [if_true, Bool.and_eq_true, beq_iff_eq, decide_eq_true_eq] at hcont
    obtain ⟨⟨⟨⟨rfl, rfl⟩, rfl⟩, q1⟩, q2⟩ := hcont
    have g1 : decide (num ≥ 0) = true := decide_eq_true q1
    have g2 : decide (num ≤ 2147483648) = true := decide_eq_true q2
    (have zx := And.intro d1 (And.intro d2 (And.intro d3 (And.intro d4 (And.intro d5 (And.intro d6 (And.intro d7 (And.intro d8 (And.intro n0 (And.intro g1 g2)))))))))); exact zg
  rw [if_neg k6] at hcont
  by_cases k7 : kind = 7
  · subst k7
    simp only [if_true, Bool.and_eq_true, beq_iff_eq, decide_eq_true_eq] at hcont
    obtain ⟨⟨⟨rfl, rfl⟩, rfl⟩, q1⟩ := hcont
    rw [q1] at p3
    (have zx := And.intro d1 (And.intro d2 (And.intro d3 (And.intro d4 (And.intro d5 (And.intro d6 (And.intro d7 (And.intro d8 n0)))))))); exact zg
  rw [if_neg k7] at hcont
  cases hcont
def aiW (l : List Qa) (x : Qa) : Nat → Nat
  | 0 => 0
  | k + 1 => match l[k]? with
    | some y => if ahG y x > 0 then aiW l x k else k + 1
    | none => k + 1
theorem akq (l : List Qa) (x : Qa) : ∀ k, aiW l x k ≤ k
  | 0 => Nat.le_refl _
  | k + 1 => by
    rw [aiW]
    split
    · split
      · exact Nat.le_succ_of_le (akq l x k)
      · exact Nat.le_refl _
    · exact Nat.le_refl _
def aoN (l : List Qa) (x : Qa) : Bool := match aiW l x l.length with
  | 0 => false
  | k + 1 => match l[k]? with
    | some y => ahG y x == 0
    | none => false
def agd (l : List Qa) (x : Qa) : List Qa := l.take (aiW l x l.length) ++ x :: l.drop (aiW l x l.length)
theorem apA (l : List Qa) (n : Nat) : ltO (n + 1) fun k => [Ob.buf true 11 (l.map Qa.v)][k]? := fun a x h => by
  match a, h with
  | 0, h => cases h; exact ⟨Nat.succ_pos _, trivial⟩
  | a + 1, h => simp at h
theorem ant (l : List Qa) (x : Qa) (k : Nat) : (l.take k).map Qa.v ++ [x.v] ++ (l.drop k).map Qa.v = (l.take k ++ x :: l.drop k).map Qa.v := by simp
def acO (QC : Nat) : List AO := [mv 8 5, bc 9 .gtr 8 (V.int 0), mv 10 9, mg 11 0 10 true, mg 12 5 10 true, xg 13 (.bin .sub (.t 12) (.c (V.int 1))) 10 true, xg 14 (.iaddr 11 (.t 11) (.t 13)) 10 true, xg 15 (.load true 11 (.t 14)) 10 true, xg 16 (.load true 11 (.t 3)) 10 true, xg 17 (.call QC [(.t 15), (.t 16)]) 10 true, xg 18 (.bin .gtr (.t 17) (.c (V.int 0))) 10 true, xo 19 (.pick (.t 10) (.t 18) (.c (V.bool false)))]
def adx : List (List Nat) := [[], [0], [1], [2], [2], [4, 2], [3, 5, 2], [6, 2], [2], [7, 8, 2, 2], [9, 2], [2, 10]]
def acy : OT := .one 0 (.one 1 (.one 2 (.one 3 (.one 4 (.one 5 (.one 6 (.one 7 (.one 8 (.one 9 (.one 10 (.one 11 .done)))))))))))
@[go_sem] def acL (QC : Nat) : OP := oN 0 (mv 8 5) (oN 1 (bc 9 .gtr 8 (V.int 0)) (oN 2 (mv 10 9) (oN 3 (mg 11 0 10 true) (oN 4 (mg 12 5 10 true) (oN 5 (xg 13 (.bin .sub (.t 12) (.c (V.int 1))) 10 true) (oN 6 (xg 14 (.iaddr 11 (.t 11) (.t 13)) 10 true) (oN 7 (xg 15 (.load true 11 (.t 14)) 10 true) (oN 8 (xg 16 (.load true 11 (.t 3)) 10 true) (oN 9 (xg 17 (.call QC [(.t 15), (.t 16)]) 10 true) (oN 10 (xg 18 (.bin .gtr (.t 17) (.c (V.int 0))) 10 true) (oN 11 (xo 19 (.pick (.t 10) (.t 18) (.c (V.bool false)))) .done)))))))))))
instance (QC : Nat) : RG [] acy (acL QC) (acO QC) adx 12 (fun _ => true) := ⟨rfl, by kernel_rfl, by kernel_rfl⟩
def acN (QC : Nat) : List AO := [mv 22 5, bc 23 .gtr 22 (V.int 0), mv 24 23, mg 25 0 24 true, mg 26 5 24 true, xg 27 (.bin .sub (.t 26) (.c (V.int 1))) 24 true, xg 28 (.iaddr 11 (.t 25) (.t 27)) 24 true, xg 29 (.load true 11 (.t 28)) 24 true, xg 30 (.load true 11 (.t 3)) 24 true, xg 31 (.call QC [(.t 29), (.t 30)]) 24 true, xg 32 (.bin .eql (.t 31) (.c (V.int 0))) 24 true, xo 33 (.pick (.t 24) (.t 32) (.c (V.bool false)))]
def adw : List (List Nat) := [[], [0], [1], [2], [2], [4, 2], [3, 5, 2], [6, 2], [2], [7, 8, 2, 2], [9, 2], [2, 10]]
def acx : OT := .one 0 (.one 1 (.one 2 (.one 3 (.one 4 (.one 5 (.one 6 (.one 7 (.one 8 (.one 9 (.one 10 (.one 11 .done)))))))))))
@[go_sem] def acK (QC : Nat) : OP := oN 0 (mv 22 5) (oN 1 (bc 23 .gtr 22 (V.int 0)) (oN 2 (mv 24 23) (oN 3 (mg 25 0 24 true) (oN 4 (mg 26 5 24 true) (oN 5 (xg 27 (.bin .sub (.t 26) (.c (V.int 1))) 24 true) (oN 6 (xg 28 (.iaddr 11 (.t 25) (.t 27)) 24 true) (oN 7 (xg 29 (.load true 11 (.t 28)) 24 true) (oN 8 (xg 30 (.load true 11 (.t 3)) 24 true) (oN 9 (xg 31 (.call QC [(.t 29), (.t 30)]) 24 true) (oN 10 (xg 32 (.bin .eql (.t 31) (.c (V.int 0))) 24 true) (oN 11 (xo 33 (.pick (.t 24) (.t 32) (.c (V.bool false)))) .done)))))))))))
instance (QC : Nat) : RG [] acx (acK QC) (acN QC) adw 12 (fun _ => true) := ⟨rfl, by kernel_rfl, by kernel_rfl⟩
def acM : List AO := [xo 35 (.bslice 0 11 true [vi0, vs0, vi0, vi0, vi0, vi0, vs0, vi0, vi0, vi0, vs0] []), mv 36 0, mv 37 5, xo 38 (.slsl 11 (.t 36) none (some (.t 37))), xo 39 (.append 11 112 [vi0, vs0, vi0, vi0, vi0, vi0, vs0, vi0, vi0, vi0, vs0] (.t 35) (.t 38)), xo 40 (.load true 11 (.t 3)), xo 41 (.bslice 1 11 true [vi0, vs0, vi0, vi0, vi0, vi0, vs0, vi0, vi0, vi0, vs0] [(0, (.t 40))]), xo 42 (.append 11 112 [vi0, vs0, vi0, vi0, vi0, vi0, vs0, vi0, vi0, vi0, vs0] (.t 39) (.t 41)), mv 43 0, mv 44 5, xo 45 (.slsl 11 (.t 43) (some (.t 44)) none), xo 46 (.append 11 112 [vi0, vs0, vi0, vi0, vi0, vi0, vs0, vi0, vi0, vi0, vs0] (.t 42) (.t 45)), mv 4 46]
def adv : List (List Nat) := [[], [], [], [1, 2], [0, 3], [], [5], [4, 6, 4], [], [], [8, 9], [7, 10, 7], [11, 11, 0, 1, 2, 3, 4, 5, 6, 7, 8, 9, 10, 11]]
def acw : OT := .one 0 (.one 1 (.one 2 (.one 3 (.one 4 (.one 5 (.one 6 (.one 7 (.one 8 (.one 9 (.one 10 (.one 11 (.one 12 .done))))))))))))
@[go_sem] def acJ : OP := oN 0 (xo 35 (.bslice 0 11 true [vi0, vs0, vi0, vi0, vi0, vi0, vs0, vi0, vi0, vi0, vs0] [])) (oN 1 (mv 36 0) (oN 2 (mv 37 5) (oN 3 (xo 38 (.slsl 11 (.t 36) none (some (.t 37)))) (.one 4 true [0] (xo 39 (.append 11 112 [vi0, vs0, vi0, vi0, vi0, vi0, vs0, vi0, vi0, vi0, vs0] (.t 35) (.t 38))) (oN 5 (xo 40 (.load true 11 (.t 3))) (oN 6 (xo 41 (.bslice 1 11 true [vi0, vs0, vi0, vi0, vi0, vi0, vs0, vi0, vi0, vi0, vs0] [(0, (.t 40))])) (.one 7 true [6, 4, 0] (xo 42 (.append 11 112 [vi0, vs0, vi0, vi0, vi0, vi0, vs0, vi0, vi0, vi0, vs0] (.t 39) (.t 41))) (oN 8 (mv 43 0) (oN 9 (mv 44 5) (oN 10 (xo 45 (.slsl 11 (.t 43) (some (.t 44)) none)) (.one 11 true [7, 6, 4, 0] (xo 46 (.append 11 112 [vi0, vs0, vi0, vi0, vi0, vi0, vs0, vi0, vi0, vi0, vs0] (.t 42) (.t 45))) (oN 12 (mv 4 46) .done))))))))))))
instance : RG [] acw (acJ) (acM) adv 13 (fun _ => true) := ⟨rfl, by kernel_rfl, by kernel_rfl⟩
def vn (QC : Nat) : AC := Qb [0, 3] (.reg [xo 3 (.box true 11 (.t 1)), xo 4 (.mknil 11)]) (Qb [0, 3, 5] (.reg [mv 6 0, ln 7 6, mv 5 7]) (Qb [0, 3, 5] (.block 0 (Y6 [0, 3, 5] (Qb [0, 3, 5] (Qb [0, 3, 5, 19] (wP [] acy (acL QC) (acO QC) adx) (.cond (.t 19) .skip (.exit 0))) (.block 1 (.reg [mv 20 5, bc 21 .sub 20 (V.int 1), mv 5 21]))))) (Qb [0, 3, 5] (Qb [0, 3, 5, 33] (wP [] acx (acK QC) (acN QC) adw) (.cond (.t 33) (Qb [4] (.reg [mv 34 0, mv 4 34]) .ret) .skip)) (Qb [4] (wP [] acw (acJ) (acM) adv) .ret)))) def r_ref14_put : List Jf := [.tmp 4]
def aaQ (Γ : Env) (f : Nat) : Prop := ((∀ (l : List Qa) (x : Qa), l.length < 2 ^ 30 → aoN l x = true → EvX Γ f [x.v] 11 (l.map Qa.v)) ∧ (∀ (l : List Qa) (x : Qa), l.length < 2 ^ 30 → aoN l x = false → EvW Γ f [.sl 11 (l.map Qa.v), x.v] 11 ((agd l x).map Qa.v)))
theorem ajK {Γ : Env} {f QC : Nat} (h : Has Γ.P f 47 (vn QC) r_ref14_put) (z0 : wc Γ QC) : aaQ Γ f := by
  refine ⟨fun l x hl hdp => ?_, fun l x hl hdp => ?_⟩
  · refine ace h (by simp) fun C hC hm => ?_
    subst hC
    unfold vn
    have hal : (l.map Qa.v).length = l.length := List.length_map _
    have ht : List.take (l.map Qa.v).length (l.map Qa.v) = l.map Qa.v := List.take_length
    simp only [Qa.v, Qa.cells]
    repeat' (first | (refine zsk ?_; intro K' hK) | (refine zrg ?_; intro K' hK) | refine zsp ?_ | (refine zsc ?_ ?_ <;> intro hc <;> first | exact znh | try simp only [znz] at hc) | simp (maxSteps := 1000000) only [go_sem, Nat.reduceAdd, Nat.reduceMul, Nat.reduceEqDiff, Nat.reduceLeDiff, Nat.reduceLT, Nat.reduceSub, Int.reduceEq, Int.reduceBEq, Int.reduceLT, Int.reduceLE, Int.reduceAdd, Int.reduceToNat, reduceIte, reduceCtorEq, hal] | (refine hK _ ?_; clear hK K') | apply zan | ((first | apply QS | apply Q1); (focus first | exact (z0 _ _).b)) | exact zsq | fail)
    refine Y2 (ι := Nat) (fun k => k ≤ l.length ∧ aiW l x k = aiW l x l.length) (fun k => [(5, V.int k)]) (fun k => k) l.length (by omega) ⟨Nat.le_refl _, rfl⟩ (by refine WM (by decide) ?_ (WM (by decide) ?_ (apA l 5000)) <;> simp [Ob.lt, ltL, V.lt, V.str, V.int]) (fun i hi => by simp only [ovT, X0, Nat.reduceEqDiff, reduceIte]; (repeat' first | exact Ve | refine XO ?_ ?_ | simp only [V.lt, ltL, and_self, and_true] | omega)) zet fun k hk K' hL => ?_
    obtain ⟨hk, hinv⟩ := hk
    simp only [ovT, X0, Nat.reduceEqDiff, reduceIte]
    rcases k with _ | k
    · have e1 : decide (((0 : Nat) : Int) > 0) = false := by decide
      rw [aiW] at hinv
      rw [aoN, ← hinv] at hdp
      cases hdp
    · have e1 : decide (((k + 1 : Nat) : Int) > 0) = true := decide_eq_true (by omega)
      obtain ⟨y, hy⟩ : ∃ y, l[k]? = some y := ⟨_, List.getElem?_eq_getElem (by omega)⟩
      have vy : (l.map Qa.v)[k]? = some y.v := by rw [List.getElem?_map, hy]; rfl
      have po := (z0 y x).b
      have hwk : IntKind.i64.wrap (((k + 1 : Nat) : Int) - 1) = (k : Int) := by rw [Ym (by omega) (by omega)]; omega
      simp only [Qa.v, Qa.cells] at vy po
      rw [aiW, hy] at hinv
      dsimp only at hinv
      rcases h1 : decide (ahG y x > 0) with _ | _
      · rw [if_neg (by simp at h1; omega)] at hinv
        rw [aoN, ← hinv] at hdp
        dsimp only at hdp
        rw [hy] at hdp
        dsimp only at hdp
        repeat' (first | (refine zsk ?_; intro K' hK) | (refine zrg ?_; intro K' hK) | refine zsp ?_ | (refine zsc ?_ ?_ <;> intro hc <;> first | exact znh | try simp only [znz] at hc) | simp (maxSteps := 1000000) only [go_sem, Nat.reduceAdd, Nat.reduceMul, Nat.reduceEqDiff, Nat.reduceLeDiff, Nat.reduceLT, Nat.reduceSub, Int.reduceEq, Int.reduceBEq, Int.reduceLT, Int.reduceLE, Int.reduceAdd, Int.reduceToNat, reduceIte, reduceCtorEq, e1, hal, hwk, vy, h1, hdp, ht, Int.toNat_natCast] | (refine hK _ ?_; clear hK K') | apply zan | ((first | apply QS | apply Q1); (focus first | exact po | exact (z0 _ _).b)) | exact zsq | fail)
        all_goals first | (rw [← hal]; refine aon _ rfl rfl rfl ?_; first | rfl | (simp; done)) | trace_state
      · rw [if_pos (by simpa using h1)] at hinv
        repeat' (first | (refine zsk ?_; intro K' hK) | (refine zrg ?_; intro K' hK) | refine zsp ?_ | (refine zsc ?_ ?_ <;> intro hc <;> first | exact znh | try simp only [znz] at hc) | simp (maxSteps := 1000000) only [go_sem, Nat.reduceAdd, Nat.reduceMul, Nat.reduceEqDiff, Nat.reduceLeDiff, Nat.reduceLT, Nat.reduceSub, Int.reduceEq, Int.reduceBEq, Int.reduceLT, Int.reduceLE, Int.reduceAdd, Int.reduceToNat, reduceIte, reduceCtorEq, e1, hal, hwk, vy, h1, Int.toNat_natCast] | (refine hK _ ?_; clear hK K') | apply zan | ((first | apply QS | apply Q1); (focus first | exact po | exact (z0 _ _).b)) | exact zsq | fail)
        all_goals first | exact hL _ k zet ⟨by omega, hinv⟩ (by omega) (fun a ha => by simp only [u32, u33, u34, u35, u36, u37, u38, u39]; repeat rw [if_neg (by omega)]) | trace_state
  · refine KX h (by simp) (by intro z hx; obtain ⟨y, _, rfl⟩ := List.mem_map.1 hx; simp only [Qa.v, Qa.cells, V.noSl, yX, and_self]) fun C hC hm => ?_
    subst hC
    unfold vn
    have hal : (l.map Qa.v).length = l.length := List.length_map _
    have ht : List.take (l.map Qa.v).length (l.map Qa.v) = l.map Qa.v := List.take_length
    simp only [Qa.v, Qa.cells]
    repeat' (first | (refine zsk ?_; intro K' hK) | (refine zrg ?_; intro K' hK) | refine zsp ?_ | (refine zsc ?_ ?_ <;> intro hc <;> first | exact znh | try simp only [znz] at hc) | simp (maxSteps := 1000000) only [go_sem, Nat.reduceAdd, Nat.reduceMul, Nat.reduceEqDiff, Nat.reduceLeDiff, Nat.reduceLT, Nat.reduceSub, Int.reduceEq, Int.reduceBEq, Int.reduceLT, Int.reduceLE, Int.reduceAdd, Int.reduceToNat, reduceIte, reduceCtorEq, hal] | (refine hK _ ?_; clear hK K') | apply zan | ((first | apply QS | apply Q1); (focus first | exact (z0 _ _).b)) | exact zsq | fail)
    refine Y2 (ι := Nat) (fun k => k ≤ l.length ∧ aiW l x k = aiW l x l.length) (fun k => [(5, V.int k)]) (fun k => k) l.length (by omega) ⟨Nat.le_refl _, rfl⟩ (by repeat' first | exact X2 | refine WM (by omega) (by simp only [Ob.lt, ltL, V.lt, and_self, and_true]; try omega) ?_) (fun i hi => by simp only [ovT, X0, Nat.reduceEqDiff, reduceIte]; (repeat' first | exact Ve | refine XO ?_ ?_ | simp only [V.lt, ltL, and_self, and_true] | omega)) zet fun k hk K' hL => ?_
    obtain ⟨hk, hinv⟩ := hk
    simp only [ovT, X0, Nat.reduceEqDiff, reduceIte]
    rcases k with _ | k
    · have e1 : decide (((0 : Nat) : Int) > 0) = false := by decide
      rw [aiW] at hinv
      rw [aoN, ← hinv] at hdp
      have hj0 : List.take 0 (l.map Qa.v) = [] := rfl
      repeat' (first | (refine zsk ?_; intro K' hK) | (refine zrg ?_; intro K' hK) | refine zsp ?_ | (refine zsc ?_ ?_ <;> intro hc <;> first | exact znh | try simp only [znz] at hc) | simp (maxSteps := 1000000) only [go_sem, Nat.reduceAdd, Nat.reduceMul, Nat.reduceEqDiff, Nat.reduceLeDiff, Nat.reduceLT, Nat.reduceSub, Int.reduceEq, Int.reduceBEq, Int.reduceLT, Int.reduceLE, Int.reduceAdd, Int.reduceToNat, reduceIte, reduceCtorEq, e1, hal, Int.toNat_natCast] | (refine hK _ ?_; clear hK K') | apply zan | ((first | apply QS | apply Q1); (focus first | exact (z0 _ _).b)) | exact zsq | fail)
      all_goals first | (intro z hz; obtain ⟨w, _, rfl⟩ := List.mem_map.1 (List.mem_of_mem_take hz); rfl) | (intro z hz; obtain ⟨w, _, rfl⟩ := List.mem_map.1 (List.mem_of_mem_drop hz); rfl) | (intro z hz; obtain ⟨w, _, rfl⟩ := List.mem_map.1 (List.mem_of_mem_drop (List.mem_of_mem_take hz)); rfl) | (intro z hz; obtain ⟨w, _, rfl⟩ := List.mem_map.1 (List.mem_of_mem_take (List.mem_of_mem_drop hz)); rfl) | (simp only [List.length_append, List.length_take, List.length_drop, List.length_map, List.length_cons, List.length_nil]; omega) | (refine ads (xs := (agd l x).map Qa.v) _ _ rfl ?_ ?_ <;> first | (rw [agd, ← hinv]; simp [aiX, Qa.v, Qa.cells, List.map_take, List.map_drop]; done) | (rw [agd, ← hinv]; simp [Qa.v, Qa.cells]; omega) | (rw [agd, ← hinv, ← ant]; simp only [upd_self, Nat.sub_zero, List.take_zero, List.nil_append, List.drop_zero, List.map_nil, List.map_take, List.map_drop]; rw [List.take_of_length_le (by simp)]; simp [upd, Qa.v, Qa.cells, List.map_take, List.map_drop]; done) | (rw [agd, ← hinv]; simp [upd, Qa.v, Qa.cells, List.map_take, List.map_drop, List.take_of_length_le, aiX]; done) | trace_state) | trace_state
    · have e1 : decide (((k + 1 : Nat) : Int) > 0) = true := decide_eq_true (by omega)
      obtain ⟨y, hy⟩ : ∃ y, l[k]? = some y := ⟨_, List.getElem?_eq_getElem (by omega)⟩
      have vy : (l.map Qa.v)[k]? = some y.v := by rw [List.getElem?_map, hy]; rfl
      have po := (z0 y x).b
      have hwk : IntKind.i64.wrap (((k + 1 : Nat) : Int) - 1) = (k : Int) := by rw [Ym (by omega) (by omega)]; omega
      simp only [Qa.v, Qa.cells] at vy po
      rw [aiW, hy] at hinv
      dsimp only at hinv
      rcases h1 : decide (ahG y x > 0) with _ | _
      · rw [if_neg (by simp at h1; omega)] at hinv
        rw [aoN, ← hinv] at hdp
        dsimp only at hdp
        rw [hy] at hdp
        dsimp only at hdp
        repeat' (first | (refine zsk ?_; intro K' hK) | (refine zrg ?_; intro K' hK) | refine zsp ?_ | (refine zsc ?_ ?_ <;> intro hc <;> first | exact znh | try simp only [znz] at hc) | simp (maxSteps := 1000000) only [go_sem, Nat.reduceAdd, Nat.reduceMul, Nat.reduceEqDiff, Nat.reduceLeDiff, Nat.reduceLT, Nat.reduceSub, Int.reduceEq, Int.reduceBEq, Int.reduceLT, Int.reduceLE, Int.reduceAdd, Int.reduceToNat, reduceIte, reduceCtorEq, e1, hal, hwk, vy, h1, hdp, Int.toNat_natCast] | (refine hK _ ?_; clear hK K') | apply zan | ((first | apply QS | apply Q1); (focus first | exact po | exact (z0 _ _).b)) | exact zsq | fail)
        all_goals first | (intro z hz; obtain ⟨w, _, rfl⟩ := List.mem_map.1 (List.mem_of_mem_take hz); rfl) | (intro z hz; obtain ⟨w, _, rfl⟩ := List.mem_map.1 (List.mem_of_mem_drop hz); rfl) | (intro z hz; obtain ⟨w, _, rfl⟩ := List.mem_map.1 (List.mem_of_mem_drop (List.mem_of_mem_take hz)); rfl) | (intro z hz; obtain ⟨w, _, rfl⟩ := List.mem_map.1 (List.mem_of_mem_take (List.mem_of_mem_drop hz)); rfl) | (simp only [List.length_append, List.length_take, List.length_drop, List.length_map, List.length_cons, List.length_nil]; omega) | (refine ads (xs := (agd l x).map Qa.v) _ _ rfl ?_ ?_ <;> first | (rw [agd, ← hinv]; simp [aiX, Qa.v, Qa.cells, List.map_take, List.map_drop]; done) | (rw [agd, ← hinv]; simp [Qa.v, Qa.cells]; omega) | (rw [agd, ← hinv, ← ant]; simp only [upd_self, Nat.sub_zero, List.take_zero, List.nil_append, List.drop_zero, List.map_nil, List.map_take, List.map_drop]; rw [List.take_of_length_le (by simp)]; simp [upd, Qa.v, Qa.cells, List.map_take, List.map_drop]; done) | (rw [agd, ← hinv]; simp [upd, Qa.v, Qa.cells, List.map_take, List.map_drop, List.take_of_length_le, aiX]; done) | trace_state) | trace_state
      · rw [if_pos (by simpa using h1)] at hinv
        repeat' (first | (refine zsk ?_; intro K' hK) | (refine zrg ?_; intro K' hK) | refine zsp ?_ | (refine zsc ?_ ?_ <;> intro hc <;> first | exact znh | try simp only [znz] at hc) | simp (maxSteps := 1000000) only [go_sem, Nat.reduceAdd, Nat.reduceMul, Nat.reduceEqDiff, Nat.reduceLeDiff, Nat.reduceLT, Nat.reduceSub, Int.reduceEq, Int.reduceBEq, Int.reduceLT, Int.reduceLE, Int.reduceAdd, Int.reduceToNat, reduceIte, reduceCtorEq, e1, hal, hwk, vy, h1, Int.toNat_natCast] | (refine hK _ ?_; clear hK K') | apply zan | ((first | apply QS | apply Q1); (focus first | exact po | exact (z0 _ _).b)) | exact zsq | fail)
        all_goals first | exact hL _ k zet ⟨by omega, hinv⟩ (by omega) (fun a ha => by simp only [u32, u33, u34, u35, u36, u37, u38, u39]; repeat rw [if_neg (by omega)]) | trace_state
def afb (out : List Qa) (x : Qa) : List Qa := if aoN out x = true then out else agd out x
def X9 (l : List Qa) : List Qa := l.foldl afb []
theorem alx (l : List Qa) (x : Qa) : (agd l x).length = l.length + 1 := by
  have := akq l x l.length
  simp [agd]; omega
theorem ai3 (l : List Qa) (x : Qa) : (afb l x).length ≤ l.length + 1 := by
  unfold afb; split
  · omega
  · rw [alx]; exact Nat.le_refl _
theorem ajE : ∀ (l out : List Qa), (l.foldl afb out).length ≤ out.length + l.length
  | [], out => by simp
  | x :: r, out => by
    have h1 := ajE r (afb out x)
    have h2 := ai3 out x
    simp only [List.foldl_cons, List.length_cons]; omega
theorem af5 (l : List Qa) : (X9 l).length ≤ l.length := by simpa [X9] using ajE l []
theorem amt {l : List Qa} {k : Nat} {x : Qa} (h : l[k]? = some x) : X9 (l.take (k + 1)) = afb (X9 (l.take k)) x := by
  rw [X9, X9, List.take_add_one, h, Option.toList_some, List.foldl_append]; rfl
def noS (l out : List Qa) (k : Nat) : St := Wo [(0, .sl 11 (l.map Qa.v)), (6, .hd 0 0 out.length), (7, V.int k)] [(0, .buf true 11 (out.map Qa.v))] 1
def aaz (jJ ve : Nat) : AC := Qb [0] (.reg [xo 2 (.mknil 11), mc 3 (V.int 0)]) (Qb [0] (Qb [0, 4] (.reg [mc 4 (V.int 0)]) (.block 0 (Y6 [0, 4] (Qb [0, 4] (Qb [0, 4, 11] (.reg [mv 8 4, mv 9 0, ln 10 9, bn 11 .lss 8 10]) (.cond (.t 11) .skip (.exit 0))) (Qb [0, 4] (.block 1 (Qb [0, 4, 5] (.reg [mv 14 0, mv 15 4, ia 16 11 14 15, xo 17 (.load true 11 (.t 16)), cl 18 jJ [17], mv 5 18]) (Qb [0, 4, 5, 20] (.reg [mv 19 5, bc 20 .neq 19 (V.int 0)]) (.cond (.t 20) (Qb [2, 3] (.reg [mv 21 5, xo 2 (.mknil 11), mv 3 21]) .ret) .skip)))) (.reg [mv 12 4, bc 13 .add 12 (V.int 1), mv 4 13])))))) (Qb [0, 6] (.reg [xo 6 (.mknil 11)]) (Qb [6] (Qb [0, 6, 7] (.reg [mc 7 (V.int 0)]) (.block 2 (Y6 [0, 6, 7] (Qb [0, 6, 7] (Qb [0, 6, 7, 25] (.reg [mv 22 7, mv 23 0, ln 24 23, bn 25 .lss 22 24]) (.cond (.t 25) .skip (.exit 2))) (Qb [0, 6, 7] (.block 3 (Qb [0, 6, 7] (.reg [mv 28 6, mv 29 0, mv 30 7, ia 31 11 29 30, xo 32 (.load true 11 (.t 31)), cl 33 ve [28, 32], mv 6 33]) (Qb [0, 6, 7, 36] (.reg [mv 34 6, ln 35 34, bc 36 .gtr 35 (V.int 400)]) (.cond (.t 36) (Qb [2, 3] (.reg [xo 2 (.mknil 11), mc 3 (V.int 3)]) .ret) .skip)))) (.reg [mv 26 7, bc 27 .add 26 (V.int 1), mv 7 27])))))) (Qb [2, 3] (.reg [mv 37 6, mv 2 37, mc 3 (V.int 0)]) .ret)))) def r_ref14_Norm : List Jf := [.tmp 2, .tmp 3]
def jR (Γ : Env) (f : Nat) : Prop := ∀ (l : List Qa) (hl : l.length ≤ 400) (hz : ∀ x ∈ l, x.Sz) (hq : ∀ x ∈ l, WJ x = true), EvC Γ f [.sl 11 (l.map Qa.v)] (.tup [.sl 11 ((X9 l).map Qa.v), V.int 0])
attribute [local go_sem] Wo in
theorem aiw {Γ : Env} {f jJ ve : Nat} (h : Has Γ.P f 38 (aaz jJ ve) r_ref14_Norm) (z0 : wd Γ jJ) (z1 : aaQ Γ ve) : jR Γ f := by
  intro l hl hz hq
  refine Y8 h zsi zcl fun C hC hm => ?_
  subst hC
  unfold aaz
  have hal : (l.map Qa.v).length = l.length := List.length_map _
  refine zgo ?_; repeat' first | exact zt | apply zan | intro hc
  refine Y2 (ι := Nat) (fun k => k ≤ l.length) (fun k => [(4, V.int k)]) (fun k => l.length - k) 0 (by omega) (Nat.zero_le _) (by repeat' first | exact X2 | refine WM (by omega) (by simp only [Ob.lt, ltL, V.lt, and_self, and_true]; try omega) ?_) (fun i hi => by simp only [ovT, X0, Nat.reduceEqDiff, reduceIte]; (repeat' first | exact Ve | refine XO ?_ ?_ | simp only [V.lt, ltL, and_self, and_true] | omega)) zet fun k hk K' hL => ?_
  simp only [ovT, X0, Nat.reduceEqDiff, reduceIte]
  rcases hdr : l.drop k with _ | ⟨x, r⟩
  rotate_left
  · obtain ⟨hk', hget, hr⟩ := QJ hdr
    have hw := Qr (k := k) (by omega)
    have e1 : decide ((k : Int) < (l.length : Int)) = true := by simp; omega
    have vx : (l.map Qa.v)[k]? = some x.v := by rw [List.getElem?_map, hget]; rfl
    have hm := List.mem_of_getElem? hget
    have p1 := (z0 x (hz x hm) (hq x hm)).b
    have n0 : ((0 : Int) != 0) = false := by decide
    simp only [Qa.v, Qa.cells] at vx p1
    (have zx := And.intro e1 (And.intro hal (And.intro hw (And.intro vx n0)))); refine zgo ?_; repeat' first | exact zt | apply zan | intro hc
    all_goals first | exact hL _ (k + 1) zet (by omega) (by omega) (fun a ha => by simp only [u32, u33, u34, u35, u36, u37, u38, u39]; repeat rw [if_neg (by omega)]) | trace_state
  have hkl := Je hdr
  have e1 : decide ((k : Int) < (l.length : Int)) = false := by simp; omega
  clear hL
  (have zx := And.intro e1 hal); refine zgo ?_; repeat' first | exact zt | apply zan | intro hc
  refine QH (ι := Nat) (fun k => k ≤ l.length) (fun k => noS l (X9 (l.take k)) k) (fun k => l.length - k) 0 (Nat.zero_le _) (Ql [(0, 7000)]) (Qu [(0, 7000)] (by simp only [go_sem, zwl, Nat.reduceAdd, Nat.reduceMul, Nat.reduceEqDiff, Nat.reduceLT, Int.reduceToNat, reduceIte, reduceCtorEq, noS, X9, List.take_zero, List.foldl_nil, List.length_nil] <;> exact zcc) (by simp only [go_sem, zwl, Nat.reduceAdd, Nat.reduceMul, Nat.reduceEqDiff, Nat.reduceLT, Int.reduceToNat, reduceIte, reduceCtorEq, noS, X9, List.take_zero, List.foldl_nil, List.map_nil] <;> exact zcc) (by simp [noS, Ql]) (by simp [noS]; omega) (by omega)) fun k hk K' hL => ?_
  have hnk := af5 (l.take k)
  rw [List.length_take, Nat.min_eq_left hk] at hnk
  rcases hdr : l.drop k with _ | ⟨x, r⟩
  · have hkl := Je hdr
    have e1 : decide ((k : Int) < (l.length : Int)) = false := by simp; omega
    obtain rfl : k = l.length := by omega
    rw [List.take_length] at hnk ⊢
    simp only [noS]
    have htl : List.take (X9 l).length ((X9 l).map Qa.v) = (X9 l).map Qa.v := List.take_of_length_le (by simp)
    (have zx := And.intro e1 (And.intro hal htl)); refine zgo ?_; repeat' first | exact zt | apply zan | intro hc
    all_goals first | exact zr | (refine Qv _ rfl ?_; simp only [go_sem, Nat.reduceEqDiff, Nat.reduceAdd, reduceIte, reduceCtorEq]; simp [List.take_of_length_le]; done) | trace_state
  obtain ⟨hk', hget, hr⟩ := QJ hdr
  have hw := Qr (k := k) (by omega)
  have e1 : decide ((k : Int) < (l.length : Int)) = true := by simp; omega
  have vx : (l.map Qa.v)[k]? = some x.v := by rw [List.getElem?_map, hget]; rfl
  have hsu := amt hget
  have hsl := ai3 (X9 (l.take k)) x
  simp only [noS]
  rcases hd : aoN (X9 (l.take k)) x with _ | _
  · have gW := z1.2 (X9 (l.take k)) x (by omega) hd
    have hst : X9 (l.take (k + 1)) = agd (X9 (l.take k)) x := by rw [hsu, afb, hd]; rfl
    have hil := alx (X9 (l.take k)) x
    have e2 : decide ((((agd (X9 (l.take k)) x).length : Nat) : Int) > 400) = false := by simp; omega
    have hml : ((agd (X9 (l.take k)) x).map Qa.v).length = (agd (X9 (l.take k)) x).length := List.length_map _
    have hol : ((X9 (l.take k)).map Qa.v).length = (X9 (l.take k)).length := List.length_map _
    have htl : List.take (X9 (l.take k)).length ((X9 (l.take k)).map Qa.v) = (X9 (l.take k)).map Qa.v := List.take_of_length_le (by simp)
    generalize agd (X9 (l.take k)) x = ins at *
    generalize X9 (l.take k) = out at *
    simp only [Qa.v, Qa.cells] at vx gW
    (have zx := And.intro e1 (And.intro e2 (And.intro hal (And.intro hw (And.intro vx (And.intro hml (And.intro hol htl))))))); refine zgo ?_; repeat' first | exact zt | apply zan | intro hc
    all_goals first | exact hL _ (k + 1) (Ql [(0, 9001)]) (by omega) (by omega) (Qu [(0, 9001)] (by simp only [go_sem, zwl, Nat.reduceAdd, Nat.reduceMul, Nat.reduceEqDiff, Nat.reduceLT, Int.reduceToNat, reduceIte, reduceCtorEq, noS, hst, hal] <;> exact zcc) (by simp only [go_sem, zwl, Nat.reduceAdd, Nat.reduceMul, Nat.reduceEqDiff, Nat.reduceLT, Int.reduceToNat, reduceIte, reduceCtorEq, noS, hst] <;> exact zcc) (by simp [noS, Ql]) (by simp [noS]; omega) (by omega)) | trace_state
  · have gX := z1.1 (X9 (l.take k)) x (by omega) hd
    have hst : X9 (l.take (k + 1)) = X9 (l.take k) := by rw [hsu, afb, hd]; rfl
    have e2 : decide ((((X9 (l.take k)).length : Nat) : Int) > 400) = false := by simp; omega
    have hol : ((X9 (l.take k)).map Qa.v).length = (X9 (l.take k)).length := List.length_map _
    generalize X9 (l.take k) = out at *
    simp only [Qa.v, Qa.cells] at vx gX
    repeat' (first | (refine zsk ?_; intro K' hK) | refine zsp ?_ | (refine zsc ?_ ?_ <;> intro hc <;> first | exact znh | try simp only [znz] at hc) | simp (maxSteps := 1000000) only [go_sem, Nat.reduceAdd, Nat.reduceMul, Nat.reduceEqDiff, Nat.reduceLeDiff, Nat.reduceLT, Nat.reduceSub, Int.reduceEq, Int.reduceBEq, Int.reduceLT, Int.reduceLE, Int.reduceAdd, Int.reduceToNat, reduceIte, reduceCtorEq, Wo, e1, e2, hal, hw, vx, hol, Int.toNat_natCast] | (refine hK _ ?_; clear hK K') | apply zan | (apply al1; (focus exact rfl); (focus first | exact gX); (focus exact rfl); (focus exact rfl); (focus (first | exact rfl | (simp; done)))) | (apply QS; (focus first | exact (z0 _ zsd zsd).b)) | exact zsq | fail)
    all_goals first | exact hL _ (k + 1) (Ql []) (by omega) (by omega) (Qu [] (by simp only [go_sem, zwl, Nat.reduceAdd, Nat.reduceMul, Nat.reduceEqDiff, Nat.reduceLT, Int.reduceToNat, reduceIte, reduceCtorEq, noS, hst, hal] <;> exact zcc) (by simp only [go_sem, zwl, Nat.reduceAdd, Nat.reduceMul, Nat.reduceEqDiff, Nat.reduceLT, Int.reduceToNat, reduceIte, reduceCtorEq, noS, hst] <;> exact zcc) (by simp [noS, Ql]) (by simp [noS]) (by omega)) | trace_state
def al5 : Qa := ⟨1, [97], 1, 3, 9, 1, [115], 1, 0, 0, []⟩
def al4 : Qa := ⟨1, [97], 1, 5, 9, 1, [115], 1, 0, 0, []⟩
def asv : Qi := ⟨0, [115], 1, 1, 0, 0, [97], 0⟩
def asu : JY := ⟨false, 1, 0, 0, 0, 40001⟩
theorem aqj : al5.Sz ∧ al4.Sz := by refine ⟨⟨?_, ?_, ?_⟩, ?_, ?_, ?_⟩ <;> decide
theorem aqi : WJ al5 = true ∧ WJ al4 = true := by decide +kernel
theorem arn : X9 [al5, al4] = [al5, al4] := by decide +kernel
theorem aiM : Yj [al5, al4] 2 = 0 ∧ yg [al5, al4] 2 9 100 asv = true ∧ ajI [al5, al4] 2 9 100 asv = [1] := by decide +kernel
theorem aoF : wC [asu] [] = 0 ∧ aqm [al5, al4] 2 9 100 [asu] [] 4 = [⟨0, [115], 1, 1, 0, 0, [], 1⟩] := by decide +kernel
theorem apy {Γ : Env} {f : FuncId} {a b c d x y res : V} {sz : Nat} (h : EvC Γ f [a, b, c, d, .agg [x, .sl sz []], y] res) : EvC Γ f [a, b, c, d, .agg [x, .sc (.slice none 0 0)], y] res :=
  ⟨(EvB.le (args' := [a, b, c, d, .agg [x, .sc (.slice none 0 0)], y]) h.b rfl fun i h1 h2 => by
    match i, h1 with
    | 0, _ | 1, _ | 2, _ | 3, _ | 5, _ => exact LeV.refl _
    | 4, _ => exact LeV.agg2 (LeV.refl _) (LeV.nil sz)).ev, h.2⟩
def vB (XR Jo U9 Um : Nat) : AC := Qb [] (.reg [mc 0 (V.bool false)]) (Qb [1] (.reg [xo 10 (.build [vi0, vi0] [(0, 1, (.c (V.int 1)))]), xo 11 (.build [vi0, vs0, vi0, vi0, vi0, vi0, vs0, vi0, vi0, vi0, vs0] [(0, 1, (.c (V.int 1))), (1, 1, (.c (V.str [97]))), (2, 1, (.c (V.int 1))), (3, 1, (.c (V.int 3))), (4, 1, (.c (V.int 9))), (5, 1, (.c (V.int 1))), (6, 1, (.c (V.str [115]))), (7, 2, (.t 10))]), xo 1 (.alloc [.val vi0, .val vs0, .val vi0, .val vi0, .val vi0, .val vi0, .val vs0, .val vi0, .val vi0, .val vi0, .val vs0]), xs 11 1 11]) (Qb [1, 2] (.reg [xo 12 (.load true 11 (.t 1)), xo 2 (.alloc [.val vi0, .val vs0, .val vi0, .val vi0, .val vi0, .val vi0, .val vs0, .val vi0, .val vi0, .val vi0, .val vs0]), xs 11 2 12]) (Qb [1, 2] (.reg [fa 13 3 2, ⟨none, .store 1 (.t 13) (.c (V.int 5)), none⟩]) (Qb [3] (.reg [xo 15 (.load true 11 (.t 1)), xo 16 (.load true 11 (.t 2)), xo 17 (.bslice 2 11 true [vi0, vs0, vi0, vi0, vi0, vi0, vs0, vi0, vi0, vi0, vs0] [(0, (.t 15)), (1, (.t 16))]), cl 18 XR [17], mv 14 18, ex 19 14 0, ex 20 14 1, mv 3 19, mv 4 20]) (Qb [3, 5, 6] (.reg [mv 22 3, xo 23 (.build [vi0, vi0] [(0, 1, (.c (V.int 1)))]), xo 24 (.build [vi0, vs0, vi0, vi0, vi0, vi0, vs0, vi0] [(1, 1, (.c (V.str [115]))), (2, 1, (.c (V.int 1))), (3, 2, (.t 23)), (6, 1, (.c (V.str [97])))]), xo 25 (.call Jo [(.t 22), (.c (V.int 2)), (.c (V.int 9)), (.c (V.int 100)), (.t 24)]), mv 21 25, ex 26 21 0, ex 27 21 1, mv 5 26, mv 6 27]) (Qb [3, 5, 6, 7] (.reg [xo 28 (.build [(.bool false), vi0, vi0, vi0, vi0, vi0] [(1, 1, (.c (V.int 1))), (5, 1, (.c (V.int 40001)))]), xo 29 (.bslice 1 6 true [(.bool false), vi0, vi0, vi0, vi0, vi0] [(0, (.t 28))]), xo 30 (.build [vn0, vn0] [(0, 1, (.t 29))]), xo 7 (.alloc [.nil 6, .nil 2]), xs 2 7 30]) (Qb [5, 6, 8, 9] (.reg [mv 32 3, xo 33 (.load true 2 (.t 7)), xo 34 (.call U9 [(.t 32), (.c (V.int 2)), (.c (V.int 9)), (.c (V.int 100)), (.t 33), (.c (V.int 4))]), mv 31 34, ex 35 31 0, ex 36 31 1, mv 8 35, mv 9 36]) (Qb [0] (.reg [mv 37 6, bc 38 .eql 37 (V.int 0), mv 39 38, mg 40 9 39 true, xg 41 (.bin .eql (.t 40) (.c (V.int 0))) 39 true, xo 42 (.pick (.t 39) (.t 41) (.c (V.bool false))), mv 43 42, mg 44 5 43 true, xg 45 (.bslice 1 1 false [vi0] [(0, (.c (V.int 1)))]) 43 true, xg 46 (.call Um [(.t 44), (.t 45)]) 43 true, xo 47 (.pick (.t 43) (.t 46) (.c (V.bool false))), mv 48 47, mg 49 8 48 true, xg 50 (.lenL (.t 49)) 48 true, xg 51 (.bin .eql (.t 50) (.c (V.int 1))) 48 true, xo 52 (.pick (.t 48) (.t 51) (.c (V.bool false))), mv 53 52, mg 54 8 53 true, xg 55 (.iaddr 8 (.t 54) (.c (V.int 0))) 53 true, xg 56 (.faddr 7 (.t 55)) 53 true, xg 57 (.load false 1 (.t 56)) 53 true, xg 58 (.bin .eql (.t 57) (.c (V.int 1))) 53 true, xo 59 (.pick (.t 53) (.t 58) (.c (V.bool false))), mv 0 59]) .ret)))))))) def r_law23_awake : List Jf := [.tmp 0]
def wg (Γ : Env) (f : Nat) : Prop := EvN Γ f [] (V.bool true)
theorem aho {Γ : Env} {f XR Jo U9 Um : Nat} (h : Has Γ.P f 60 (vB XR Jo U9 Um) r_law23_awake) (z0 : jR Γ XR) (z1 : Wx Γ Jo) (z2 : jv Γ U9) (z3 : qw Γ Um) : wg Γ f := by
  refine Qd h zsi zcl zcl fun C hC hm => ?_
  subst hC
  unfold vB
  have hz : ∀ x ∈ [al5, al4], x.Sz := by intro x hx; simp only [List.mem_cons, List.not_mem_nil, or_false] at hx; rcases hx with rfl | rfl; exact aqj.1; exact aqj.2
  have hq : ∀ x ∈ [al5, al4], WJ x = true := by intro x hx; simp only [List.mem_cons, List.not_mem_nil, or_false] at hx; rcases hx with rfl | rfl; exact aqi.1; exact aqi.2
  have g1 := z0 [al5, al4] (by decide) hz hq
  have g2 := (z1 [al5, al4] 2 9 100 asv (by decide) hz (by decide) (by decide)).b
  have g3 := z2 [al5, al4] 2 9 100 [asu] [] 4 (by decide) hz (by decide) (by decide) (by decide) (by decide)
  have g4 := (z3 [1] [1] (by decide)).b
  rw [arn] at g1
  rw [amG, if_pos aiM.1, if_pos aiM.2.1, aiM.2.2] at g2
  rw [anc, if_pos aiM.1, if_pos aoF.1, if_neg (by decide), aoF.2] at g3
  simp only [al5, al4, asv, asu, Qa.v, Qa.cells, Qi.v, Qi.cells, JY.v, JY.cells, List.map_cons, List.map_nil, ap1, QG] at g1 g2 g3 g4
  have g3 := apy g3
  repeat' (first | (refine zsk ?_; intro K' hK) | refine zsp ?_ | (refine zsc ?_ ?_ <;> intro hc <;> first | exact znh | try simp only [znz] at hc) | simp (maxSteps := 1000000) only [go_sem, Nat.reduceAdd, Nat.reduceMul, Nat.reduceEqDiff, Nat.reduceLeDiff, Nat.reduceLT, Nat.reduceSub, Int.reduceEq, Int.reduceBEq, Int.reduceLT, Int.reduceLE, Int.reduceAdd, Int.reduceToNat, reduceIte, reduceCtorEq] | (refine hK _ ?_; clear hK K') | apply zan | (apply asb; (focus first | exact g3)) | (apply aoH; (focus first | exact g1)) | (apply QS; (focus first | exact g2 | exact g4)) | exact zsq | fail)
  all_goals first | exact zr | trace_state
def jO (l : List Int) : Nat → Nat → List Qa × Nat
  | 0, k => ([], k)
  | n + 1, k => ((ab2 l k).1 :: (jO l n (ab2 l k).2).1, (jO l n (ab2 l k).2).2)
def ac0 (l : List Int) (k : Nat) (most : Int) : List Qa × Nat :=
  (X9 (jO l (Yd l k (most + 1)).1.toNat (Yd l k (most + 1)).2).1, (jO l (Yd l k (most + 1)).1.toNat (Yd l k (most + 1)).2).2)
theorem akJ {l : List Int} {k : Nat} (h : k ≤ l.length) : (Yn l k).2 ≤ l.length := acs (W2 (ahJ (W2 (ahJ (acs (W2 h))))))
theorem apu {l : List Int} {f : Qa} {k : Nat} (h : k ≤ l.length) : (aoj l f k).2 ≤ l.length := by
  unfold aoj
  (repeat' split) <;> first | exact W2 h | exact W2 (ahJ h) | exact acs h
theorem alG {l : List Int} {k : Nat} (h : k ≤ l.length) : (ab2 l k).2 ≤ l.length := apu (akJ h)
theorem aiE {l : List Int} : ∀ (n : Nat) {k : Nat}, k ≤ l.length → (jO l n k).2 ≤ l.length
  | 0, _, h => h
  | n + 1, _, h => aiE n (alG h)
theorem agI (l : List Int) : ∀ (n k : Nat), (jO l n k).1.length = n
  | 0, _ => rfl
  | n + 1, k => by rw [jO, List.length_cons, agI l n]
theorem aat {l : List Int} {P : Qa → Prop} (h : ∀ k, k ≤ l.length → P (ab2 l k).1) : ∀ (n : Nat) {k : Nat}, k ≤ l.length → ∀ x ∈ (jO l n k).1, P x
  | 0, _, _, _, hx => by cases hx
  | n + 1, k, hk, x, hx => by
    rcases List.mem_cons.1 hx with rfl | hx
    · exact h k hk
    · exact aat h n (alG hk) x hx
theorem ahY (l : List Int) : ∀ (n k : Nat), jO l (n + 1) k = ((jO l n k).1 ++ [(ab2 l (jO l n k).2).1], (ab2 l (jO l n k).2).2)
  | 0, _ => rfl
  | n + 1, k => by
    have := ahY l n (ab2 l k).2
    rw [jO, this]; rfl
theorem arQ : Q5 [97] = true ∧ Q5 [98] = true ∧ Q5 [99] = true ∧ Q5 [115] = true ∧ Q5 [116] = true := by decide +kernel
theorem akI (l : List Int) (k : Nat) : ∃ h s, (Yn l k).1 = ⟨(Yn l k).1.src, h, (Yn l k).1.mach, (Yn l k).1.day, (Yn l k).1.conf, (Yn l k).1.kind, s, 0, 0, 0, []⟩ ∧ (h = [97] ∨ h = [98] ∨ h = [99]) ∧ (s = [115] ∨ s = [116]) ∧
    (1 ≤ (Yn l k).1.src ∧ (Yn l k).1.src ≤ 7) ∧ (0 ≤ (Yn l k).1.mach ∧ (Yn l k).1.mach ≤ 3) ∧ (0 ≤ (Yn l k).1.day ∧ (Yn l k).1.day ≤ 11) ∧ (1 ≤ (Yn l k).1.conf ∧ (Yn l k).1.conf ≤ 100) ∧ (1 ≤ (Yn l k).1.kind ∧ (Yn l k).1.kind ≤ 8) := by
  have r1 := QN (l := l) (k := k) (n := 7) (by omega) (by omega)
  simp only [Yn]
  generalize Yd l k 7 = x1 at *
  have r2 := afO (l := l) (k := x1.2) (xs := [[97], [98], [99]]) (by decide) (by decide)
  generalize vV l x1.2 [[97], [98], [99]] = x2 at *
  have r3 := akw (l := l) (k := x2.2) (xs := [0, 1, 2, 0, 3]) (by decide) (by decide)
  generalize ofD l x2.2 [0, 1, 2, 0, 3] = x3 at *
  have r4 := QN (l := l) (k := x3.2) (n := 12) (by omega) (by omega)
  generalize Yd l x3.2 12 = x4 at *
  have r5 := akw (l := l) (k := x4.2) (xs := [90, 50, 100, 1]) (by decide) (by decide)
  generalize ofD l x4.2 [90, 50, 100, 1] = x5 at *
  have r6 := QN (l := l) (k := x5.2) (n := 8) (by omega) (by omega)
  generalize Yd l x5.2 8 = x6 at *
  have r7 := afO (l := l) (k := x6.2) (xs := [[115], [116]]) (by decide) (by decide)
  generalize vV l x6.2 [[115], [116]] = x7 at *
  simp only [List.mem_cons, List.not_mem_nil, or_false] at r2 r3 r5 r7
  exact ⟨x2.1, x7.1, rfl, r2, r7, by omega, by omega, by omega, by omega, by omega⟩
theorem anj : Q4 1 0 > 0 ∧ Q4 2 0 > 0 ∧ Q4 5 1024 > 0 ∧ Q4 5 2048 > 0 ∧ Q4 14 128 > 0 ∧ (Uh 5).kind = 2 := by decide +kernel
theorem ama {c : Int} (h : 0 ≤ c ∧ c < 4) : Q4 (arw c).1 (arw c).2 > 0 := by
  obtain ⟨s1, s2, s3, s4, s5, _⟩ := anj
  obtain rfl | rfl | rfl | rfl : c = 0 ∨ c = 1 ∨ c = 2 ∨ c = 3 := by omega
  · exact s1
  · exact s2
  · exact s3
  · exact s5
theorem afL (l : List Int) (k : Nat) : WJ (ab2 l k).1 = true ∧ (ab2 l k).1.Sz := by
  obtain ⟨h, s, he, hh, hs, h1, h2, h3, h4, h5⟩ := akI l k
  obtain ⟨n1, n2, n3, n4, n5⟩ := arQ
  obtain ⟨_, _, s3, s4, _, c5⟩ := anj
  rw [ab2]
  generalize (Yn l k).2 = q
  revert he h1 h2 h3 h4 h5
  generalize (Yn l k).1 = f
  intro he h1 h2 h3 h4 h5
  have hn : Q5 h = true := by rcases hh with rfl | rfl | rfl <;> assumption
  have sn : Q5 s = true := by rcases hs with rfl | rfl <;> assumption
  have hl : h.length < 2 ^ 60 := by rcases hh with rfl | rfl | rfl <;> decide
  have sl : s.length < 2 ^ 60 := by rcases hs with rfl | rfl <;> decide
  obtain ⟨src, host, mach, day, conf, kind, subj, alg, bits, num, text⟩ := f
  simp only [Qa.mk.injEq, true_and] at he
  obtain ⟨rfl, rfl, rfl, rfl, rfl, rfl⟩ := he
  dsimp only at h1 h2 h3 h4 h5
  have head : ∀ g : Qa, g.src = src → g.host = host → g.mach = mach → g.day = day → g.conf = conf → g.subj = subj → g.text.length < 2 ^ 60 → vj g = true → WJ g = true ∧ g.Sz := by
    intro g e1 e2 e3 e4 e5 e6 e7 e8
    refine ⟨?_, by rw [e2]; exact hl, by rw [e6]; exact sl, e7⟩
    rw [WJ, e1, e2, e3, e4, e5, e6, e8, hn, sn]
    simp; omega
  have r4 := QN (l := l) (k := q) (n := 4) (by omega) (by omega)
  have r5 := QN (l := l) (k := q) (n := 5) (by omega) (by omega)
  have r3 := QN (l := l) (k := q) (n := 3) (by omega) (by omega)
  have ro := akw (l := l) (k := q) (xs := [1024, 2048]) (by decide) (by decide)
  have rp := QN (l := l) (k := (ofD l q [1024, 2048]).2) (n := 3) (by omega) (by omega)
  have rw_ := afO (l := l) (k := q) (xs := [[97], [98]]) (by decide) (by decide)
  have us := ama r4
  simp only [List.mem_cons, List.not_mem_nil, or_false] at ro rw_
  have hk : kind = 1 ∨ kind = 2 ∨ kind = 3 ∨ kind = 4 ∨ kind = 5 ∨ kind = 6 ∨ kind = 7 ∨ kind = 8 := by omega
  have wn : Q5 (vV l q [[97], [98]]).1 = true := by rcases rw_ with h | h <;> rw [h] <;> assumption
  have wl : (vV l q [[97], [98]]).1.length < 2 ^ 60 := by rcases rw_ with h | h <;> rw [h] <;> decide
  have os : Q4 5 (ofD l q [1024, 2048]).1 > 0 := by rcases ro with h | h <;> rw [h] <;> assumption
  rcases hk with rfl | rfl | rfl | rfl | rfl | rfl | rfl | rfl
  all_goals
    simp only [aoj, Int.reduceEq, or_true, true_or, or_self, if_true, if_false]
    refine head _ rfl rfl rfl rfl rfl rfl ?_ ?_
    · first | exact wl | (show (0 : Nat) < 2 ^ 60; decide)
    · simp only [vj, akx, Int.reduceEq, or_true, true_or, or_self, if_true, if_false]
      first | (simp [us]; done) | (simp [os, c5]; omega) | (simp [wn]; done) | (simp; omega)
theorem anJ {α : Type} {p : α → Bool} {q : α → α → Bool} (tr : ∀ a b c, q a b = true → q b c = true → q a c = true) (l : List α) : ∀ k, k ≤ l.length → (okP p q l k = true ↔ (∀ x ∈ l.take k, p x = true) ∧ (l.take k).Pairwise fun a b => q a b = true)
  | 0, _ => by simp [alr]
  | k + 1, h => by
    obtain ⟨x, hx⟩ : ∃ x, l[k]? = some x := ⟨_, List.getElem?_eq_getElem (by omega)⟩
    rw [afH, hx, List.take_add_one, hx, Option.toList_some, List.pairwise_append]
    dsimp only
    rw [Bool.and_eq_true, anJ tr l k (by omega), Bool.and_eq_true, Bool.or_eq_true]
    constructor
    · rintro ⟨⟨h1, h2⟩, h3, h4⟩
      refine ⟨fun y hy => (List.mem_append.1 hy).elim (h1 y) (fun e => by rw [List.mem_singleton.1 e]; exact h3), h2, List.pairwise_singleton _ _, fun y hy z hz => ?_⟩
      rw [List.mem_singleton.1 hz]
      rcases k with _ | j
      · simp at hy
      · obtain ⟨u, hu⟩ : ∃ u, l[j]? = some u := ⟨_, List.getElem?_eq_getElem (by omega)⟩
        rw [show j + 1 - 1 = j from rfl, hu] at h4
        have h4 : q u x = true := by rcases h4 with h4 | h4; simp at h4; exact h4
        rw [List.take_add_one, hu, Option.toList_some, List.pairwise_append] at h2
        rw [List.take_add_one, hu, Option.toList_some] at hy
        rcases List.mem_append.1 hy with hy | hy
        · exact tr y u x (h2.2.2 y hy u (List.mem_singleton.2 rfl)) h4
        · rw [List.mem_singleton.1 hy]; exact h4
    · rintro ⟨h1, h2, _, h3⟩
      refine ⟨⟨fun y hy => h1 y (List.mem_append_left _ hy), h2⟩, h1 x (List.mem_append_right _ (List.mem_singleton.2 rfl)), ?_⟩
      rcases k with _ | j
      · exact .inl rfl
      · obtain ⟨u, hu⟩ : ∃ u, l[j]? = some u := ⟨_, List.getElem?_eq_getElem (by omega)⟩
        rw [show j + 1 - 1 = j from rfl, hu]
        exact .inr (h3 u (by rw [List.take_add_one, hu]; exact List.mem_append_right _ (List.mem_singleton.2 rfl)) x (List.mem_singleton.2 rfl))
theorem akY : Cm ahG := by
  have h0 : Cm fun _ _ : Qa => (0 : Int) := ⟨fun _ _ => rfl, fun _ _ _ _ _ => Int.le_refl _, fun _ _ _ _ _ _ => rfl⟩
  exact (ajV.by Qa.host).lex ((vP.by Qa.mach).lex ((vP.by Qa.day).lex ((ajV.by Qa.subj).lex ((vP.by Qa.kind).lex ((vP.by Qa.alg).lex ((vP.by Qa.bits).lex ((vP.by Qa.num).lex ((ajV.by Qa.text).lex ((vP.by Qa.src).lex ((vP.by Qa.conf).lex h0))))))))))
theorem anX (a b c : Qa) (h1 : ltF a b = true) (h2 : ltF b c = true) : ltF a c = true := by
  simp only [ltF, decide_eq_true_eq] at *
  have t := akY.tr a b c (by omega) (by omega)
  have z := akY.ze a b c (by omega) (by omega)
  omega
theorem aji (l : List Qa) : anN l = true ↔ (∀ x ∈ l, WJ x = true) ∧ l.Pairwise fun a b => ltF a b = true := by
  rw [anN, anJ anX l _ (Nat.le_refl _), List.take_length]
theorem anO {l s : List Qa} (h : wR l = true) (hs : s.Sublist l) : wR s = true := by
  rw [wR, Bool.and_eq_true, aji, decide_eq_true_eq] at h ⊢
  refine ⟨⟨fun x hx => h.1.1 x (hs.subset hx), h.1.2.sublist hs⟩, ?_⟩
  have := hs.length_le; omega
theorem aje (l : List Qa) (x : Qa) : ∀ k, k ≤ l.length → (∀ i, aiW l x k ≤ i → i < k → ∃ y, l[i]? = some y ∧ ahG y x > 0) ∧ (∀ j, aiW l x k = j + 1 → ∃ y, l[j]? = some y ∧ ¬ ahG y x > 0)
  | 0, _ => ⟨fun i _ h => absurd h (Nat.not_lt_zero _), fun j h => by cases h⟩
  | k + 1, hk => by
    obtain ⟨y, hy⟩ : ∃ y, l[k]? = some y := ⟨_, List.getElem?_eq_getElem (by omega)⟩
    rw [aiW, hy]
    dsimp only
    by_cases h : ahG y x > 0
    · rw [if_pos h]
      obtain ⟨h1, h2⟩ := aje l x k (by omega)
      refine ⟨fun i hi hlt => ?_, h2⟩
      by_cases e : i = k
      · subst e; exact ⟨y, hy, h⟩
      · exact h1 i hi (by omega)
    · rw [if_neg h]
      exact ⟨fun i h1 h2 => by omega, fun j hj => by
        have e : k = j := by omega
        subst e
        exact ⟨y, hy, h⟩⟩
theorem akF {l : List Qa} {x : Qa} (hs : l.Pairwise fun a b => ltF a b = true) (hd : aoN l x = false) : (agd l x).Pairwise fun a b => ltF a b = true := by
  obtain ⟨h1, h2⟩ := aje l x l.length (Nat.le_refl _)
  have hple := akq l x l.length
  rw [agd]
  rw [aoN] at hd
  generalize aiW l x l.length = p at *
  have hb : ∀ y ∈ l.take p, ltF y x = true := by
    intro y hy
    rcases p with _ | j
    · simp at hy
    · obtain ⟨z, hz, hn⟩ := h2 j rfl
      dsimp only at hd
      rw [hz] at hd
      dsimp only at hd
      have hzx : ltF z x = true := by simp at hd; simp only [ltF, decide_eq_true_eq]; omega
      have hs2 := hs.sublist (List.take_sublist (j + 1) l)
      rw [List.take_add_one, hz, Option.toList_some] at hs2 hy
      rw [List.pairwise_append] at hs2
      rcases List.mem_append.1 hy with hy | hy
      · exact anX y z x (hs2.2.2 y hy z (List.mem_singleton.2 rfl)) hzx
      · rw [List.mem_singleton.1 hy]; exact hzx
  have ha : ∀ y ∈ l.drop p, ltF x y = true := by
    intro y hy
    obtain ⟨i, hi⟩ := List.mem_iff_getElem?.1 hy
    rw [List.getElem?_drop] at hi
    obtain ⟨z, hz, hp⟩ := h1 (p + i) (by omega) (List.getElem?_eq_some_iff.1 hi).1
    rw [hi] at hz
    cases hz
    have := akY.neg y x
    simp only [ltF, decide_eq_true_eq]; omega
  rw [List.pairwise_append]
  refine ⟨hs.sublist (List.take_sublist _ _), List.pairwise_cons.2 ⟨ha, hs.sublist (List.drop_sublist _ _)⟩, fun y hy z hz => ?_⟩
  rcases List.mem_cons.1 hz with rfl | hz
  · exact hb y hy
  · exact anX y x z (hb y hy) (ha z hz)
theorem apq {l : List Qa} {x y : Qa} (h : y ∈ agd l x) : y = x ∨ y ∈ l := by
  rw [agd] at h
  rcases List.mem_append.1 h with h | h
  · exact .inr (List.mem_of_mem_take h)
  · rcases List.mem_cons.1 h with h | h
    · exact .inl h
    · exact .inr (List.mem_of_mem_drop h)
theorem alF {P : Qa → Prop} : ∀ (l out : List Qa), (∀ x ∈ l, P x) → (∀ x ∈ out, P x) → (out.Pairwise fun a b => ltF a b = true) → (∀ x ∈ l.foldl afb out, P x) ∧ (l.foldl afb out).Pairwise fun a b => ltF a b = true
  | [], out, _, h2, h3 => ⟨h2, h3⟩
  | x :: r, out, h1, h2, h3 => by
    rw [List.foldl_cons]
    refine alF r _ (fun y hy => h1 y (List.mem_cons_of_mem _ hy)) ?_ ?_
    · rw [afb]; split
      · exact h2
      · intro y hy
        rcases apq hy with rfl | hy
        · exact h1 _ List.mem_cons_self
        · exact h2 y hy
    · rw [afb]; split
      · exact h3
      · rename_i hd; exact akF h3 (by simpa using hd)
theorem als {P : Qa → Prop} {l : List Qa} (h : ∀ x ∈ l, P x) : (∀ x ∈ X9 l, P x) ∧ (X9 l).Pairwise fun a b => ltF a b = true := alF l [] h (by simp) List.Pairwise.nil
theorem amu {l : List Qa} (h : ∀ x ∈ l, WJ x = true) (hl : l.length ≤ 400) : wR (X9 l) = true := by
  rw [wR, Bool.and_eq_true, aji, decide_eq_true_eq]
  have := af5 l
  exact ⟨als h, by omega⟩
theorem aoi {l : List Int} {k : Nat} {most : Int} (hk : k ≤ l.length) (hm : 0 ≤ most ∧ most ≤ 100) :
    (∀ x ∈ (ac0 l k most).1, x.Sz) ∧ wR (ac0 l k most).1 = true ∧ (ac0 l k most).1.length ≤ most.toNat ∧ (ac0 l k most).2 ≤ l.length := by
  have hr := QN (l := l) (k := k) (n := most + 1) (by omega) (by omega)
  have hq := W2 (n := most + 1) hk
  rw [ac0]
  generalize Yd l k (most + 1) = x at *
  have hlen := agI l x.1.toNat x.2
  have hn := af5 (jO l x.1.toNat x.2).1
  refine ⟨(als (aat (fun k _ => (afL l k).2) _ hq)).1, amu (aat (fun k _ => (afL l k).1) _ hq) (by omega), by dsimp only; omega, aiE _ hq⟩
def fnS (l : List Int) (m : Nat) (x : List Qa × Nat) : St := Wo [(0, .ptr 0 0), (5, .hd 1 0 x.1.length), (6, V.int m)] [(0, .box true (Vd l x.2)), (1, .buf true 11 (x.1.map Qa.v))] 2
def yu (Qf qB XR : Nat) : AC := Qb [0, 1] (.reg [xo 4 (.mknil 11)]) (Qb [0, 1, 5] (.reg [xo 5 (.mknil 11)]) (Qb [5] (Qb [0, 5, 6] (.reg [mv 9 0, mv 10 1, bc 11 .add 10 (V.int 1), cl 12 Qf [9, 11], mv 6 12]) (.block 0 (Y6 [0, 5, 6] (Qb [0, 5, 6] (Qb [0, 5, 6, 14] (.reg [mv 13 6, bc 14 .gtr 13 (V.int 0)]) (.cond (.t 14) .skip (.exit 0))) (Qb [0, 5, 6] (.block 1 (.reg [mv 17 5, mv 18 0, cl 19 qB [18], xo 20 (.bslice 1 11 true [vi0, vs0, vi0, vi0, vi0, vi0, vs0, vi0, vi0, vi0, vs0] [(0, (.t 19))]), xo 21 (.append 11 112 [vi0, vs0, vi0, vi0, vi0, vi0, vs0, vi0, vi0, vi0, vs0] (.t 17) (.t 20)), mv 5 21])) (.reg [mv 15 6, bc 16 .sub 15 (V.int 1), mv 6 16])))))) (Qb [7] (.reg [mv 23 5, cl 24 XR [23], mv 22 24, ex 25 22 0, ex 26 22 1, mv 7 25, mv 8 26]) (Qb [4] (.reg [mv 27 7, mv 4 27]) .ret)))) def r_make_Findings : List Jf := [.tmp 4]
def jp (Γ : Env) (f : Nat) : Prop := ∀ (l : List Int) (k : Nat) (most : Int) (hl : l.length ≤ 400) (hk : k ≤ l.length) (hm : 0 ≤ most ∧ most ≤ 100), EvD Γ f [V.int most] (Vd l k) (.sl 11 ((ac0 l k most).1.map Qa.v)) (Vd l (ac0 l k most).2)
attribute [local go_sem] Vd Wo in
theorem afs {Γ : Env} {f Qf qB XR : Nat} (h : Has Γ.P f 28 (yu Qf qB XR) r_make_Findings) (z0 : Yv Γ Qf) (z1 : yR Γ qB) (z2 : jR Γ XR) : jp Γ f := by
  intro l k most hl hk hm
  refine Uv h zsi zcl zc3 zc3 fun C hC hm => ?_
  subst hC
  unfold yu
  have n1 := z0 l k (most + 1) hl hk
  have r1 := QN (l := l) (k := k) (n := most + 1) (by omega) (by omega)
  have k1 := W2 (n := most + 1) hk
  have hwm : IntKind.i64.wrap (most + 1) = most + 1 := Ym (by omega) (by omega)
  simp only [ac0]
  generalize Yd l k (most + 1) = x1 at *
  obtain ⟨a1, q1⟩ := x1
  simp only at n1 r1 k1 ⊢
  obtain ⟨n, rfl⟩ : ∃ n : Nat, a1 = n := ⟨a1.toNat, by omega⟩
  rw [Int.toNat_natCast]
  simp only [Vd, List.map_cons, List.map_nil] at n1
  (have zx := hwm); refine zgo ?_; repeat' first | exact zt | apply zan | intro hc
  refine QH (ι := Nat) (fun j => j ≤ n) (fun j => fnS l (n - j) (jO l j q1)) (fun j => n - j) 0 (Nat.zero_le _) (Ql [(1, 1001)]) (Qu [(1, 1001)] (by simp only [go_sem, zwl, Nat.reduceAdd, Nat.reduceMul, Nat.reduceEqDiff, Nat.reduceLT, Int.reduceToNat, reduceIte, reduceCtorEq, fnS, jO, List.length_nil] <;> exact zcc) (by simp only [go_sem, zwl, Nat.reduceAdd, Nat.reduceMul, Nat.reduceEqDiff, Nat.reduceLT, Int.reduceToNat, reduceIte, reduceCtorEq, fnS, jO, Vd, List.map_nil, List.map_cons] <;> exact zcc) (by simp [fnS, Ql]) (by simp [fnS]; omega) (by omega)) fun j hj K' hL => ?_
  have hlen := agI l j q1
  have hle := aiE (l := l) j k1
  rcases Nat.lt_or_ge j n with hlt | hge
  rotate_left
  · obtain rfl : j = n := by omega
    have e1 : decide (((j - j : Nat) : Int) > 0) = false := by simp
    have gN := z2 (jO l j q1).1 (by omega) (aat (fun k _ => (afL l k).2) _ k1) (aat (fun k _ => (afL l k).1) _ k1)
    have htl : List.take (jO l j q1).1.length ((jO l j q1).1.map Qa.v) = (jO l j q1).1.map Qa.v := List.take_of_length_le (by simp)
    simp only [fnS]
    generalize jO l j q1 = x at *
    repeat' (first | (refine zsk ?_; intro K' hK) | refine zsp ?_ | (refine zsc ?_ ?_ <;> intro hc <;> first | exact znh | try simp only [znz] at hc) | simp (maxSteps := 1000000) only [go_sem, Nat.reduceAdd, Nat.reduceMul, Nat.reduceEqDiff, Nat.reduceLeDiff, Nat.reduceLT, Nat.reduceSub, Int.reduceEq, Int.reduceBEq, Int.reduceLT, Int.reduceLE, Int.reduceAdd, Int.reduceToNat, reduceIte, reduceCtorEq, Wo, e1, htl, Vd] | (refine hK _ ?_; clear hK K') | apply zan | (apply aoH; (focus first | exact gN)) | exact zsq | fail)
    all_goals first | (refine aeX _ rfl rfl zcd ?_; simp only [go_sem, Nat.reduceEqDiff, Nat.reduceAdd, reduceIte, reduceCtorEq]; done) | trace_state
  · have e1 : decide (((n - j : Nat) : Int) > 0) = true := by simp; omega
    have hw : IntKind.i64.wrap (((n - j : Nat) : Int) - 1) = ((n - (j + 1) : Nat) : Int) := by rw [Ym (by omega) (by omega)]; omega
    have hsn := ahY l j q1
    have nF := z1 l (jO l j q1).2 hl hle
    simp only [fnS]
    generalize jO l j q1 = x at *
    obtain ⟨out, q⟩ := x
    simp only at hlen hle hsn nF ⊢
    generalize ab2 l q = y at *
    obtain ⟨f, q2⟩ := y
    simp only [Qa.v, Qa.cells, Vd, List.map_cons, List.map_nil] at nF hsn
    have hol : (out.map Qa.v).length = out.length := List.length_map _
    have htl : List.take out.length (out.map Qa.v) = out.map Qa.v := List.take_of_length_le (by simp)
    (have zx := And.intro e1 (And.intro hw (And.intro hol htl))); refine zgo ?_; repeat' first | exact zt | apply zan | intro hc
    all_goals first | exact hL _ (j + 1) (Ql [(1, 6002)]) (by omega) (by omega) (Qu [(1, 6002)] (by simp only [go_sem, zwl, Nat.reduceAdd, Nat.reduceMul, Nat.reduceEqDiff, Nat.reduceLT, Int.reduceToNat, reduceIte, reduceCtorEq, fnS, hsn, List.length_append, List.length_cons, List.length_nil] <;> exact zcc) (by simp only [go_sem, zwl, Nat.reduceAdd, Nat.reduceMul, Nat.reduceEqDiff, Nat.reduceLT, Int.reduceToNat, reduceIte, reduceCtorEq, fnS, hsn, Vd, List.map_append, List.map_cons, List.map_nil, Qa.v, Qa.cells] <;> exact zcc) (by simp [fnS, Ql]) (by simp [fnS]; omega) (by omega)) | trace_state
theorem acz {x s : List Qa} {gap : Int} (hn : wR x = true) (hs : s.Sublist x) (hg : 0 ≤ gap ∧ gap ≤ 4000) : Yj s gap = 0 := by
  rw [Yj, if_pos (anO hn hs), if_neg (by omega)]
theorem ae1 : ∀ (x : List Qa), Qp x (List.range x.length) = x := by
  intro x
  have h : ∀ n, n ≤ x.length → Qp x (List.range n) = x.take n := by
    intro n
    induction n with
    | zero => intro _; rfl
    | succ n ih =>
      intro hn
      rw [List.range_succ, Qp, List.filterMap_append, List.take_add_one]
      have := ih (by omega)
      rw [Qp] at this
      rw [this]
      congr 1
  rw [h _ (Nat.le_refl _), List.take_length]
theorem aem {x : List Qa} {fs : List Nat} (h : fs.Sublist (List.range x.length)) : (Qp x fs).Sublist x := by
  have := h.filterMap (fun i => x[i]?)
  have e := ae1 x
  rw [Qp] at e ⊢
  rwa [e] at this
theorem ach {x : List Qa} {i : Nat} {r : List Nat} (h : i < x.length) : Qp x (i :: r) = x[i] :: Qp x r := by
  rw [Qp, List.filterMap_cons, List.getElem?_eq_getElem h]; rfl
theorem agL {x : List Qa} : ∀ {fs : List Nat} (k : Nat), (∀ i ∈ fs, i < x.length) → (Qp x fs).take k = Qp x (fs.take k)
  | [], k, _ => by simp [Qp]
  | i :: r, 0, _ => by simp [Qp]
  | i :: r, k + 1, h => by
    rw [ach (h i List.mem_cons_self), List.take_succ_cons, List.take_succ_cons, ach (h i List.mem_cons_self), agL k fun j hj => h j (List.mem_cons_of_mem _ hj)]
theorem agM {x : List Qa} : ∀ {fs : List Nat} (k : Nat), (∀ i ∈ fs, i < x.length) → (Qp x fs).drop k = Qp x (fs.drop k)
  | [], k, _ => by simp [Qp]
  | i :: r, 0, _ => by simp
  | i :: r, k + 1, h => by
    rw [ach (h i List.mem_cons_self), List.drop_succ_cons, List.drop_succ_cons, agM k fun j hj => h j (List.mem_cons_of_mem _ hj)]
theorem an0 {a : Nat} : ∀ {fs : List Nat} {i : Nat}, fs.Nodup → fs[i]? = some a → WN a fs = fs.take i ++ fs.drop (i + 1)
  | [], _, _, h => by simp at h
  | b :: r, 0, hn, h => by
    simp at h; subst h
    have hb := (List.nodup_cons.1 hn).1
    rw [WN]
    simp only [List.filter_cons, beq_self_eq_true, Bool.not_true, Bool.false_eq_true, if_false, List.take_zero, List.nil_append, List.drop_succ_cons, List.drop_zero]
    rw [List.filter_eq_self]
    intro y hy
    have : y ≠ b := fun e => hb (e ▸ hy)
    simp [this]
  | b :: r, i + 1, hn, h => by
    have h' : r[i]? = some a := by simpa using h
    have hb : b ≠ a := fun e => (List.nodup_cons.1 hn).1 (e ▸ List.mem_of_getElem? h')
    have ih := an0 (List.nodup_cons.1 hn).2 h'
    rw [WN] at ih ⊢
    rw [List.filter_cons, if_pos (by simp [hb]), ih]; rfl
theorem amV {x : List Qa} {fs : List Nat} {i a : Nat} (hb : ∀ i ∈ fs, i < x.length) (hn : fs.Nodup) (h : fs[i]? = some a) : (Qp x fs).take i ++ (Qp x fs).drop (i + 1) = Qp x (WN a fs) := by
  rw [an0 hn h, agL i hb, agM _ hb, Qp, Qp, Qp, List.filterMap_append]
structure art (x : List Qa) (gap day : Int) (f : Qi) (s : List Nat) : Prop where
  sub : s.Sublist (List.range x.length)
  early : Yj (Qp x s) gap = 0
  hold : yg (Qp x s) gap day 100 f = true
  less : ∀ i ∈ s, Yj (Qp x (WN i s)) gap = 0 ∧ yg (Qp x (WN i s)) gap day 100 f = false
  pos : s ≠ []
theorem atw {x : List Qa} {gap day : Int} {f : Qi} (hn : wR x = true) (hg : 0 ≤ gap ∧ gap ≤ 4000) (hh : yg x gap day 100 f = true) : art x gap day f (ajI x gap day 100 f) := by
  have h0 : ag8 x gap day 100 f (List.range x.length) = true := by
    rw [ag8, ae1, hh, acz hn (List.Sublist.refl _) hg]; rfl
  have hs := alL (h := ag8 x gap day 100 f) (x.length + 1) (List.range x.length)
  have hd := ajH (h := ag8 x gap day 100 f) (x.length + 1) (List.range x.length) h0
  have hm := alM (h := ag8 x gap day 100 f) (x.length + 1) (List.range x.length) List.nodup_range (by simp)
  rw [← ajI] at hs hd hm
  generalize ajI x gap day 100 f = s at *
  have e1 := acz (gap := gap) hn (aem hs) hg
  rw [ag8, e1] at hd
  have hd : yg (Qp x s) gap day 100 f = true := by simpa using hd
  refine ⟨hs, e1, hd, fun i hi => ?_, fun e => ?_⟩
  · have e2 := acz (gap := gap) hn (aem ((afI i s).trans hs)) hg
    have := hm i hi
    rw [ag8, e2] at this
    exact ⟨e2, by simpa using this⟩
  · subst e
    rw [yg, show Qp x [] = [] from rfl] at hd
    have := adr [] gap
    rw [List.length_eq_zero_iff.1 (Nat.le_zero.1 this)] at hd
    cases hd
theorem art.lt {x : List Qa} {gap day : Int} {f : Qi} {s : List Nat} (h : art x gap day f s) : ∀ i ∈ s, i < x.length := fun i hi => List.mem_range.1 (h.sub.subset hi)
theorem art.asc {x : List Qa} {gap day : Int} {f : Qi} {s : List Nat} (h : art x gap day f s) : s.Pairwise (· < ·) := List.pairwise_lt_range.sublist h.sub
theorem art.nd {x : List Qa} {gap day : Int} {f : Qi} {s : List Nat} (h : art x gap day f s) : s.Nodup := h.asc.imp fun h => Nat.ne_of_lt h
def aan (y : Qa) (t : List UInt8) : Qi := ⟨0, y.subj, y.kind, y.alg, y.bits, y.num, t, 0⟩
def akB (x : List Qa) (gap day : Int) (f : Qi) (s : List Nat) (k : Nat) : St := Wo [(6, .sl 11 (x.map Qa.v)), (7, V.int gap), (8, V.int day), (10, .ptr 0 0), (13, .sl 1 (QG s)), (15, .hd 1 0 k), (16, V.int k)] [(0, .box true f.cells), (1, .buf true 11 ((Qp x (s.take k)).map Qa.v))] 2
def anU (x : List Qa) (gap day : Int) (f : Qi) (s : List Nat) (k : Nat) : St := Wo [(7, V.int gap), (8, V.int day), (10, .ptr 0 0), (13, .sl 1 (QG s)), (15, .hd 1 0 s.length), (19, V.int k)] [(0, .box true f.cells), (1, .buf true 11 ((Qp x s).map Qa.v))] 2
def VY : List AO := [fa 46 6 9, ld 47 1 46, fa 48 5 9, ld 49 1 48, fa 50 7 9, xo 51 (.load true 2 (.t 50)), fa 52 9 9, ld 53 1 52, fa 54 1 9, ld 55 1 54, xo 56 (.bslice 2 1 false [vs0] [(0, (.t 55)), (1, (.c (V.str [])))]), mv 57 1, xo 58 (.convI .i64 (.t 57)), bc 59 .rem 58 (V.int 2), ia 60 1 56 59, ld 61 1 60, xo 62 (.build [vi0, vs0, vi0, vi0, vi0, vi0, vs0, vi0] [(1, 1, (.t 47)), (2, 1, (.t 49)), (3, 2, (.t 51)), (5, 1, (.t 53)), (6, 1, (.t 61))]), xo 10 (.alloc [.val vi0, .val vs0, .val vi0, .val vi0, .val vi0, .val vi0, .val vs0, .val vi0]), xs 8 10 62]
def V1 : List (List Nat) := [[], [0], [], [2], [], [4], [], [6], [], [8], [9], [], [11], [12], [10, 13], [14], [1, 3, 5, 7, 15], [], [17, 16, 0, 1, 2, 3, 4, 5, 6, 7, 8, 9, 10, 11, 12, 13, 14, 15, 16, 17]]
def VS : OT := .one 0 (.one 1 (.one 2 (.one 3 (.one 4 (.one 5 (.one 6 (.one 7 (.one 8 (.one 9 (.one 10 (.one 11 (.one 12 (.one 13 (.one 14 (.one 15 (.one 16 (.one 17 (.one 18 .done))))))))))))))))))
@[go_sem] def VV : OP := oN 0 (fa 46 6 9) (oN 1 (ld 47 1 46) (oN 2 (fa 48 5 9) (oN 3 (ld 49 1 48) (oN 4 (fa 50 7 9) (oN 5 (xo 51 (.load true 2 (.t 50))) (oN 6 (fa 52 9 9) (oN 7 (ld 53 1 52) (oN 8 (fa 54 1 9) (oN 9 (ld 55 1 54) (oN 10 (xo 56 (.bslice 2 1 false [vs0] [(0, (.t 55)), (1, (.c (V.str [])))])) (oN 11 (mv 57 1) (oN 12 (xo 58 (.convI .i64 (.t 57))) (oN 13 (bc 59 .rem 58 (V.int 2)) (.one 14 false [10] (ia 60 1 56 59) (.one 15 false [10] (ld 61 1 60) (oN 16 (xo 62 (.build [vi0, vs0, vi0, vi0, vi0, vi0, vs0, vi0] [(1, 1, (.t 47)), (2, 1, (.t 49)), (3, 2, (.t 51)), (5, 1, (.t 53)), (6, 1, (.t 61))])) (oN 17 (xo 10 (.alloc [.val vi0, .val vs0, .val vi0, .val vi0, .val vi0, .val vi0, .val vs0, .val vi0])) (.one 18 true [17, 10] (xs 8 10 62) .done))))))))))))))))))
instance : RG [] VS (VV) (VY) V1 19 (fun _ => true) := ⟨rfl, by kernel_rfl, by kernel_rfl⟩
def VX : List AO := [mv 105 13, mv 106 16, ia 107 1 105 106, ld 108 1 107, bc 109 .lss 108 (V.int 0), mv 110 109, mg 111 13 110 false, mg 112 16 110 false, xg 113 (.iaddr 1 (.t 111) (.t 112)) 110 false, xg 114 (.load false 1 (.t 113)) 110 false, mg 115 6 110 false, xg 116 (.lenL (.t 115)) 110 false, xg 117 (.bin .geq (.t 114) (.t 116)) 110 false, xo 118 (.pick (.t 110) (.c (V.bool true)) (.t 117)), mv 119 118, mg 120 16 119 false, xg 121 (.bin .gtr (.t 120) (.c (V.int 0))) 119 false, mg 122 121 119 false, mg 123 13 122 true, mg 124 16 122 true, xg 125 (.bin .sub (.t 124) (.c (V.int 1))) 122 true, xg 126 (.iaddr 1 (.t 123) (.t 125)) 122 true, xg 127 (.load false 1 (.t 126)) 122 true, mg 128 13 122 true, mg 129 16 122 true, xg 130 (.iaddr 1 (.t 128) (.t 129)) 122 true, xg 131 (.load false 1 (.t 130)) 122 true, xg 132 (.bin .geq (.t 127) (.t 131)) 122 true, xg 133 (.pick (.t 122) (.t 132) (.c (V.bool false))) 119 false, xo 134 (.pick (.t 119) (.c (V.bool true)) (.t 133))]
def V0 : List (List Nat) := [[], [], [0, 1], [2], [3], [4], [5], [5], [6, 7, 5], [8, 5], [5], [10, 5], [9, 11, 5], [5, 12], [13, 5], [14], [15, 14], [16, 14, 14], [17], [17], [19, 17], [18, 20, 17], [21, 17], [17], [17], [23, 24, 17], [25, 17], [22, 26, 17], [17, 27, 14], [14, 28]]
def VR : OT := .one 0 (.one 1 (.one 2 (.one 3 (.one 4 (.one 5 (.one 6 (.one 7 (.one 8 (.one 9 (.one 10 (.one 11 (.one 12 (.one 13 (.one 14 (.one 15 (.one 16 (.one 17 (.one 18 (.one 19 (.one 20 (.one 21 (.one 22 (.one 23 (.one 24 (.one 25 (.one 26 (.one 27 (.one 28 (.one 29 .done)))))))))))))))))))))))))))))
@[go_sem] def VU : OP := oN 0 (mv 105 13) (oN 1 (mv 106 16) (oN 2 (ia 107 1 105 106) (oN 3 (ld 108 1 107) (oN 4 (bc 109 .lss 108 (V.int 0)) (oN 5 (mv 110 109) (oN 6 (mg 111 13 110 false) (oN 7 (mg 112 16 110 false) (oN 8 (xg 113 (.iaddr 1 (.t 111) (.t 112)) 110 false) (oN 9 (xg 114 (.load false 1 (.t 113)) 110 false) (oN 10 (mg 115 6 110 false) (oN 11 (xg 116 (.lenL (.t 115)) 110 false) (oN 12 (xg 117 (.bin .geq (.t 114) (.t 116)) 110 false) (oN 13 (xo 118 (.pick (.t 110) (.c (V.bool true)) (.t 117))) (oN 14 (mv 119 118) (oN 15 (mg 120 16 119 false) (oN 16 (xg 121 (.bin .gtr (.t 120) (.c (V.int 0))) 119 false) (oN 17 (mg 122 121 119 false) (oN 18 (mg 123 13 122 true) (oN 19 (mg 124 16 122 true) (oN 20 (xg 125 (.bin .sub (.t 124) (.c (V.int 1))) 122 true) (oN 21 (xg 126 (.iaddr 1 (.t 123) (.t 125)) 122 true) (oN 22 (xg 127 (.load false 1 (.t 126)) 122 true) (oN 23 (mg 128 13 122 true) (oN 24 (mg 129 16 122 true) (oN 25 (xg 130 (.iaddr 1 (.t 128) (.t 129)) 122 true) (oN 26 (xg 131 (.load false 1 (.t 130)) 122 true) (oN 27 (xg 132 (.bin .geq (.t 127) (.t 131)) 122 true) (oN 28 (xg 133 (.pick (.t 122) (.t 132) (.c (V.bool false))) 119 false) (oN 29 (xo 134 (.pick (.t 119) (.c (V.bool true)) (.t 133))) .done)))))))))))))))))))))))))))))
instance : RG [] VR (VU) (VX) V0 30 (fun _ => true) := ⟨rfl, by kernel_rfl, by kernel_rfl⟩
def VW : List AO := [xo 165 (.bslice 0 11 true [vi0, vs0, vi0, vi0, vi0, vi0, vs0, vi0, vi0, vi0, vs0] []), mv 166 15, mv 167 19, xo 168 (.slsl 11 (.t 166) none (some (.t 167))), xo 169 (.append 11 112 [vi0, vs0, vi0, vi0, vi0, vi0, vs0, vi0, vi0, vi0, vs0] (.t 165) (.t 168)), mv 170 15, mv 171 19, bc 172 .add 171 (V.int 1), xo 173 (.slsl 11 (.t 170) (some (.t 172)) none), xo 174 (.append 11 112 [vi0, vs0, vi0, vi0, vi0, vi0, vs0, vi0, vi0, vi0, vs0] (.t 169) (.t 173)), mv 20 174]
def VZ : List (List Nat) := [[], [], [], [1, 2], [0, 3], [], [], [6], [5, 7], [4, 8, 4], [9, 9, 0, 1, 2, 3, 4, 5, 6, 7, 8, 9]]
def VQ : OT := .one 0 (.one 1 (.one 2 (.one 3 (.one 4 (.one 5 (.one 6 (.one 7 (.one 8 (.one 9 (.one 10 .done))))))))))
@[go_sem] def VT : OP := oN 0 (xo 165 (.bslice 0 11 true [vi0, vs0, vi0, vi0, vi0, vi0, vs0, vi0, vi0, vi0, vs0] [])) (oN 1 (mv 166 15) (oN 2 (mv 167 19) (oN 3 (xo 168 (.slsl 11 (.t 166) none (some (.t 167)))) (.one 4 true [0] (xo 169 (.append 11 112 [vi0, vs0, vi0, vi0, vi0, vi0, vs0, vi0, vi0, vi0, vs0] (.t 165) (.t 168))) (oN 5 (mv 170 15) (oN 6 (mv 171 19) (oN 7 (bc 172 .add 171 (V.int 1)) (oN 8 (xo 173 (.slsl 11 (.t 170) (some (.t 172)) none)) (.one 9 true [4, 0] (xo 174 (.append 11 112 [vi0, vs0, vi0, vi0, vi0, vi0, vs0, vi0, vi0, vi0, vs0] (.t 169) (.t 173))) (oN 10 (mv 20 174) .done))))))))))
instance : RG [] VQ (VT) (VW) VZ 11 (fun _ => true) := ⟨rfl, by kernel_rfl, by kernel_rfl⟩
def Wg (xE Ws vg U8 Qf Qq Jo : Nat) : AC := Qb [0, 1] (.reg [mc 4 (V.bool false)]) (Qb [0, 1] (Qb [0, 1, 25] (.reg [mv 23 0, cl 24 xE [23], xo 25 (.un .not (.t 24))]) (.cond (.t 25) (Qb [4] (.reg [cl 26 Ws [], mv 4 26]) .ret) .skip)) (Qb [1, 5] (.reg [mv 27 0, cl 28 vg [27], mv 5 28]) (Qb [1, 5, 6] (.reg [mv 29 5, xo 30 (.call U8 [(.t 29), (.c (V.int 10))]), mv 6 30]) (Qb [1, 5, 6, 7, 8] (.reg [mv 31 5, xo 32 (.call Qf [(.t 31), (.c (V.int 5))]), mv 33 5, xo 34 (.call Qf [(.t 33), (.c (V.int 14))]), mv 7 32, mv 8 34]) (Qb [1, 5, 6, 7, 8] (Qb [1, 5, 6, 7, 8, 37] (.reg [mv 35 6, ln 36 35, bc 37 .eql 36 (V.int 0)]) (.cond (.t 37) (Qb [4] (.reg [cl 38 Ws [], mv 4 38]) .ret) .skip)) (Qb [1, 6, 7, 8, 9] (.reg [mv 39 6, mv 40 5, mv 41 6, ln 42 41, cl 43 Qf [40, 42], ia 44 11 39 43, xo 45 (.load true 11 (.t 44)), xo 9 (.alloc [.val vi0, .val vs0, .val vi0, .val vi0, .val vi0, .val vi0, .val vs0, .val vi0, .val vi0, .val vi0, .val vs0]), xs 11 9 45]) (Qb [6, 7, 8, 10] (wP [] VS (VV) (VY) V1) (Qb [6, 7, 8, 10, 11, 12] (.reg [mv 64 6, mv 65 7, mv 66 8, xo 67 (.load true 8 (.t 10)), xo 68 (.call Qq [(.t 64), (.t 65), (.t 66), (.c (V.int 100)), (.t 67)]), mv 63 68, ex 69 63 0, ex 70 63 1, mv 11 69, mv 12 70]) (Qb [6, 7, 8, 10, 11, 12, 13, 14] (.reg [mv 72 6, mv 73 7, mv 74 8, xo 75 (.load true 8 (.t 10)), xo 76 (.call Jo [(.t 72), (.t 73), (.t 74), (.c (V.int 100)), (.t 75)]), mv 71 76, ex 77 71 0, ex 78 71 1, mv 13 77, mv 14 78]) (Qb [6, 7, 8, 10, 11, 13, 14] (Qb [6, 7, 8, 10, 11, 13, 14, 86] (.reg [mv 79 12, bc 80 .neq 79 (V.int 0), mv 81 80, mg 82 11 81 false, mg 83 14 81 false, xg 84 (.bin .eql (.t 83) (.c (V.int 0))) 81 false, xg 85 (.eqb true (.t 82) (.t 84)) 81 false, xo 86 (.pick (.t 81) (.c (V.bool true)) (.t 85))]) (.cond (.t 86) (Qb [4] (.reg [mc 4 (V.bool false)]) .ret) .skip)) (Qb [6, 7, 8, 10, 13] (Qb [6, 7, 8, 10, 13, 14, 88] (.reg [mv 87 11, xo 88 (.un .not (.t 87))]) (.cond (.t 88) (Qb [4] (.reg [mv 89 14, bc 90 .eql 89 (V.int 4), mv 91 90, mg 92 13 91 true, xg 93 (.lenL (.t 92)) 91 true, xg 94 (.bin .eql (.t 93) (.c (V.int 0))) 91 true, xo 95 (.pick (.t 91) (.t 94) (.c (V.bool false))), mv 96 95, xg 97 (.call Ws []) 96 true, xo 98 (.pick (.t 96) (.t 97) (.c (V.bool false))), mv 4 98]) .ret) .skip)) (Qb [6, 7, 8, 10, 13, 15] (.reg [xo 15 (.mknil 11)]) (Qb [7, 8, 10, 13, 15] (Qb [6, 7, 8, 10, 13, 15, 16] (.reg [mc 16 (V.int 0)]) (.block 0 (Y6 [6, 7, 8, 10, 13, 15, 16] (Qb [6, 7, 8, 10, 13, 15, 16] (Qb [6, 7, 8, 10, 13, 15, 16, 102] (.reg [mv 99 16, mv 100 13, ln 101 100, bn 102 .lss 99 101]) (.cond (.t 102) .skip (.exit 0))) (Qb [6, 7, 8, 10, 13, 15, 16] (.block 1 (Qb [6, 7, 8, 10, 13, 15, 16] (Qb [6, 7, 8, 10, 13, 15, 16, 134] (wP [] VR (VU) (VX) V0) (.cond (.t 134) (Qb [4] (.reg [mc 4 (V.bool false)]) .ret) .skip)) (.reg [mv 135 15, mv 136 6, mv 137 13, mv 138 16, ia 139 1 137 138, ld 140 1 139, ia 141 11 136 140, xo 142 (.load true 11 (.t 141)), xo 143 (.bslice 1 11 true [vi0, vs0, vi0, vi0, vi0, vi0, vs0, vi0, vi0, vi0, vs0] [(0, (.t 142))]), xo 144 (.append 11 112 [vi0, vs0, vi0, vi0, vi0, vi0, vs0, vi0, vi0, vi0, vs0] (.t 135) (.t 143)), mv 15 144]))) (.reg [mv 103 16, bc 104 .add 103 (V.int 1), mv 16 104])))))) (Qb [7, 8, 10, 13, 15, 17, 18] (.reg [mv 146 15, mv 147 7, mv 148 8, xo 149 (.load true 8 (.t 10)), xo 150 (.call Qq [(.t 146), (.t 147), (.t 148), (.c (V.int 100)), (.t 149)]), mv 145 150, ex 151 145 0, ex 152 145 1, mv 17 151, mv 18 152]) (Qb [7, 8, 10, 13, 15] (Qb [7, 8, 10, 13, 15, 158] (.reg [mv 153 18, bc 154 .neq 153 (V.int 0), mv 155 154, mg 156 17 155 false, xg 157 (.un .not (.t 156)) 155 false, xo 158 (.pick (.t 155) (.c (V.bool true)) (.t 157))]) (.cond (.t 158) (Qb [4] (.reg [mc 4 (V.bool false)]) .ret) .skip)) (Qb [13] (Qb [7, 8, 10, 13, 15, 19] (.reg [mc 19 (V.int 0)]) (.block 2 (Y6 [7, 8, 10, 13, 15, 19] (Qb [7, 8, 10, 13, 15, 19] (Qb [7, 8, 10, 13, 15, 19, 162] (.reg [mv 159 19, mv 160 15, ln 161 160, bn 162 .lss 159 161]) (.cond (.t 162) .skip (.exit 2))) (Qb [7, 8, 10, 13, 15, 19] (.block 3 (Qb [7, 8, 10, 13, 15, 19, 20] (wP [] VQ (VT) (VW) VZ) (Qb [7, 8, 10, 13, 15, 19, 21, 22] (.reg [mv 176 20, mv 177 7, mv 178 8, xo 179 (.load true 8 (.t 10)), xo 180 (.call Qq [(.t 176), (.t 177), (.t 178), (.c (V.int 100)), (.t 179)]), mv 175 180, ex 181 175 0, ex 182 175 1, mv 21 181, mv 22 182]) (Qb [7, 8, 10, 13, 15, 19, 187] (.reg [mv 183 22, bc 184 .neq 183 (V.int 0), mv 185 184, mg 186 21 185 false, xo 187 (.pick (.t 185) (.c (V.bool true)) (.t 186))]) (.cond (.t 187) (Qb [4] (.reg [mc 4 (V.bool false)]) .ret) .skip))))) (.reg [mv 163 19, bc 164 .add 163 (V.int 1), mv 19 164])))))) (Qb [4] (.reg [mv 188 13, ln 189 188, bc 190 .geq 189 (V.int 1), mv 191 190, xg 192 (.call Ws []) 191 true, xo 193 (.pick (.t 191) (.t 192) (.c (V.bool false))), mv 4 193]) .ret))))))))))))))))) def r_law23_ExposureExplains : List Jf := [.tmp 4]
def Uj (Γ : Env) (f : Nat) : Prop := ∀ (l : List Int) (c : Int) (h0 : 0 ≤ c) (h1 : c ≤ 255), EvN Γ f [.sl 1 (l.map V.int), .sc (.int .u8 c)] (V.bool true)
attribute [local go_sem] Nat.sub_zero Vd Wo in
theorem xQ {Γ : Env} {f xE Ws vg U8 Qf Qq Jo : Nat} (h : Has Γ.P f 194 (Wg xE Ws vg U8 Qf Qq Jo) r_law23_ExposureExplains) (z0 : vL Γ xE) (z1 : wg Γ Ws) (z2 : aaR Γ vg) (z3 : jp Γ U8) (z4 : Yv Γ Qf) (z5 : VP Γ Qq) (z6 : Wx Γ Jo) : Uj Γ f := by
  intro l c h0 h1
  refine Qd h zsi zcl zcl fun C hC hm => ?_
  subst hC
  unfold Wg
  have hm : C.m = 0 := by simpa using hm
  have aw := (EvN.b z1)
  have gL := z0 l
  by_cases hlen : l.length ≤ 400
  rotate_left
  · have e0 : decide ((l.length : Int) ≤ 400) = false := by simp; omega
    rw [e0] at gL
    (have zy0 := gL.b; have zx := e0); exact zg
  have e0 : decide ((l.length : Int) ≤ 400) = true := by simp; omega
  rw [e0] at gL
  have n1 := z2 l
  have n2 := z3 l 0 10 hlen (Nat.zero_le _) (by decide)
  obtain ⟨fS, fN, fl, k2⟩ := aoi (l := l) (k := 0) (most := 10) (Nat.zero_le _) (by decide)
  generalize ac0 l 0 10 = w at *
  obtain ⟨x, d1⟩ := w
  simp only at n2 fS fN fl k2
  have n3 := z4 l d1 5 hlen k2
  have r3 := QN (l := l) (k := d1) (n := 5) (by omega) (by omega)
  have k3 := W2 (n := 5) k2
  generalize Yd l d1 5 = w at *
  obtain ⟨gap, d2⟩ := w
  simp only at n3 r3 k3
  have n4 := z4 l d2 14 hlen k3
  have r4 := QN (l := l) (k := d2) (n := 14) (by omega) (by omega)
  have k4 := W2 (n := 14) k3
  generalize Yd l d2 14 = w at *
  obtain ⟨day, d3⟩ := w
  simp only at n4 r4 k4
  simp only [Vd, List.map_cons, List.map_nil] at n1 n2 n3 n4
  have hxl : (x.map Qa.v).length = x.length := List.length_map _
  rcases x with _ | ⟨x0, xr⟩
  · have ez : ((0 : Int) == 0) = true := by decide
    simp only [List.map_nil] at n2
    (have zy0 := gL.b; have zx := And.intro e0 ez); exact zg
  have hpos : 1 ≤ (x0 :: xr).length := by simp
  generalize x0 :: xr = x at *
  have ez : ((x.length : Int) == 0) = false := by rw [beq_eq_false_iff_ne]; omega
  have n5 := z4 l d3 x.length hlen k4
  have r5 := QN (l := l) (k := d3) (n := x.length) (by omega) (by omega)
  generalize Yd l d3 x.length = w at *
  obtain ⟨yi, d4⟩ := w
  simp only [Vd] at n5 r5
  obtain ⟨j, rfl⟩ : ∃ j : Nat, yi = j := ⟨yi.toNat, by omega⟩
  obtain ⟨y, hy⟩ : ∃ y, x[j]? = some y := ⟨_, List.getElem?_eq_getElem (by omega)⟩
  have vy : (x.map Qa.v)[j]? = some y.v := by rw [List.getElem?_map, hy]; rfl
  have hm2 : c.tmod 2 = c % 2 := Int.tmod_eq_emod_of_nonneg h0
  have hwc : IntKind.i64.wrap c = c := Ym (by omega) (by omega)
  have hw2 : IntKind.i64.wrap (c % 2) = c % 2 := Ym (by omega) (by omega)
  simp only [Qa.v, Qa.cells] at vy
  obtain ⟨t, ht⟩ : ∃ t, t = if c % 2 = 0 then y.host else [] := ⟨_, rfl⟩
  have hix : ([V.str y.host, V.str []] : List V)[(c % 2).toNat]? = some (V.str t) := by
    rcases (by omega : c % 2 = 0 ∨ c % 2 = 1) with h | h
    · rw [h] at ht ⊢; rw [if_pos rfl] at ht; subst ht; rfl
    · rw [h] at ht ⊢; rw [if_neg (by decide)] at ht; subst ht; rfl
  have q1 := (z5 x gap day 100 (aan y t) (by omega) fS (by omega) (by omega)).b
  have q2 := (z6 x gap day 100 (aan y t) (by omega) fS (by omega) (by omega)).b
  have he := acz (gap := gap) fN (List.Sublist.refl _) (by omega)
  rw [aag, if_pos he] at q1
  rw [amG, if_pos he] at q2
  rcases hho : yg x gap day 100 (aan y t) with _ | _
  · rw [hho] at q1
    rw [hho, if_neg (by decide)] at q2
    simp only [aan, Qi.v, Qi.cells] at q1 q2
    (have zy0 := gL.b; have zx := And.intro e0 (And.intro ez (And.intro hxl (And.intro vy (And.intro hm2 (And.intro hwc (And.intro hw2 hix))))))); exact zg
  rw [hho] at q1
  rw [hho, if_pos rfl] at q2
  have hX := atw fN (by omega) hho
  generalize ajI x gap day 100 (aan y t) = s at *
  have hsl : (QG s).length = s.length := List.length_map _
  simp only [aan, Qi.v, Qi.cells] at q1 q2
  (have zy0 := gL.b; have zx := And.intro e0 (And.intro ez (And.intro hxl (And.intro vy (And.intro hm2 (And.intro hwc (And.intro hw2 (And.intro hix hsl)))))))); refine zgo ?_; repeat' first | exact zt | apply zan | intro hc
  have hlt := hX.lt
  have hasc := hX.asc
  have hle : s.length ≤ x.length := by have := hX.sub.length_le; simpa using this
  have hcl := wB (l := x) (fs := s) hlt
  have hfl2 : ∀ fs : List Nat, fs.Sublist s → (Qp x fs).length ≤ 12 := fun fs h => by
    have h1 := (aem (h.trans hX.sub)).length_le
    omega
  have f00 : ((0 : Int) != 0) = false := by decide
  have cSz : ∀ fs, ∀ z ∈ Qp x fs, z.Sz := fun fs => ajX fS
  refine QH (ι := Nat) (fun k => k ≤ s.length) (fun k => akB x gap day (aan y t) s k) (fun k => s.length - k) 0 (Nat.zero_le _) (Ql [(0, 45000), (1, 77000)]) (Qu [(0, 45000), (1, 77000)] (by simp only [go_sem, zwl, Nat.reduceAdd, Nat.reduceMul, Nat.reduceEqDiff, Nat.reduceLT, Int.reduceToNat, reduceIte, reduceCtorEq, akB, List.length_map] <;> exact zcc) (by simp only [go_sem, zwl, Nat.reduceAdd, Nat.reduceMul, Nat.reduceEqDiff, Nat.reduceLT, Int.reduceToNat, reduceIte, reduceCtorEq, akB, Qp, List.take_zero, List.filterMap_nil, List.map_nil, aan, Qi.cells] <;> exact zcc) (by simp [akB, Ql]) (by simp [akB]; omega) (by omega)) fun k hk K' hL => ?_
  have hck := wB (l := x) (fs := s.take k) fun i hi => hlt i (List.mem_of_mem_take hi)
  rw [List.length_take, Nat.min_eq_left hk] at hck
  rcases hdr : s.drop k with _ | ⟨i, r⟩
  rotate_left
  · obtain ⟨hk', hget, hr⟩ := QJ hdr
    have hw := Qr (k := k) (by omega)
    have e1 : decide ((k : Int) < (s.length : Int)) = true := by simp; omega
    have hil := hlt i (List.mem_of_getElem? hget)
    have hvi := WC hget
    obtain ⟨z, hz⟩ : ∃ z, x[i]? = some z := ⟨_, List.getElem?_eq_getElem hil⟩
    have vz : (x.map Qa.v)[i]? = some z.v := by rw [List.getElem?_map, hz]; rfl
    have e2 : decide ((i : Int) < 0) = false := by simp
    have e3 : decide ((i : Int) ≥ (x.length : Int)) = false := by simp; omega
    have hnx : Qp x (s.take (k + 1)) = Qp x (s.take k) ++ [z] := by
      rw [Qp, List.take_add_one, hget, List.filterMap_append]
      simp [Qp, hz]
    simp only [akB]
    generalize Qp x (s.take k) = out at *
    have hol : (out.map Qa.v).length = k := by rw [List.length_map, hck]
    have htl : List.take k (out.map Qa.v) = out.map Qa.v := List.take_of_length_le (by omega)
    simp only [Qa.v, Qa.cells] at vz
    rcases k with _ | k
    · have e4 : decide (((0 : Nat) : Int) > 0) = false := by decide
      have hw0 : IntKind.i64.wrap 1 = ((1 : Nat) : Int) := by decide
      obtain rfl : out = [] := List.length_eq_zero_iff.1 hck
      rw [Nat.zero_add, List.nil_append] at hnx
      simp only [List.map_nil] at htl hol ⊢
      (have zx := And.intro e1 (And.intro e2 (And.intro e3 (And.intro e4 (And.intro hw (And.intro hw0 (And.intro hvi (And.intro vz (And.intro hol (And.intro htl (And.intro hxl hsl))))))))))); refine zgo ?_; repeat' first | exact zt | apply zan | intro hc
      all_goals first | exact hL _ 1 (Ql [(1, 43002)]) (by omega) (by omega) (Qu [(1, 43002)] (by simp only [go_sem, zwl, Nat.reduceAdd, Nat.reduceMul, Nat.reduceEqDiff, Nat.reduceLT, Int.reduceToNat, reduceIte, reduceCtorEq, akB] <;> exact zcc) (by simp only [go_sem, zwl, Nat.reduceAdd, Nat.reduceMul, Nat.reduceEqDiff, Nat.reduceLT, Int.reduceToNat, reduceIte, reduceCtorEq, akB, hnx, aan, Qi.cells, List.map_cons, List.map_nil, Qa.v, Qa.cells] <;> exact zcc) (by simp [akB, Ql]) (by simp [akB]; omega) (by omega)) | trace_state
    · have e4 : decide (((k + 1 : Nat) : Int) > 0) = true := decide_eq_true (by omega)
      obtain ⟨i', hi'⟩ : ∃ i', s[k]? = some i' := ⟨_, List.getElem?_eq_getElem (by omega)⟩
      have hvp := WC hi'
      have hw2 : IntKind.i64.wrap (((k + 1 : Nat) : Int) - 1) = (k : Int) := by rw [Ym (by omega) (by omega)]; omega
      have e5 : decide ((i' : Int) ≥ (i : Int)) = false := by
        have : i' < i := by
          obtain ⟨a1, rfl⟩ := List.getElem?_eq_some_iff.1 hi'
          obtain ⟨a2, rfl⟩ := List.getElem?_eq_some_iff.1 hget
          exact List.pairwise_iff_getElem.1 hasc k (k + 1) a1 a2 (by omega)
        simp; omega
      (have zx := And.intro e1 (And.intro e2 (And.intro e3 (And.intro e4 (And.intro e5 (And.intro hw (And.intro hw2 (And.intro hvi (And.intro hvp (And.intro vz (And.intro hol (And.intro htl (And.intro hxl hsl))))))))))))); refine zgo ?_; repeat' first | exact zt | apply zan | intro hc
      all_goals first | exact hL _ (k + 1 + 1) (Ql [(1, 43002)]) (by omega) (by omega) (Qu [(1, 43002)] (by simp only [go_sem, zwl, Nat.reduceAdd, Nat.reduceMul, Nat.reduceEqDiff, Nat.reduceLT, Int.reduceToNat, reduceIte, reduceCtorEq, akB] <;> exact zcc) (by simp only [go_sem, zwl, Nat.reduceAdd, Nat.reduceMul, Nat.reduceEqDiff, Nat.reduceLT, Int.reduceToNat, reduceIte, reduceCtorEq, akB, hnx, aan, Qi.cells, List.map_append, List.map_cons, List.map_nil, Qa.v, Qa.cells] <;> exact zcc) (by simp [akB, Ql]) (by simp [akB]; omega) (by omega)) | trace_state
  have hkl := Je hdr
  have e1 : decide ((k : Int) < (s.length : Int)) = false := by simp; omega
  obtain rfl : k = s.length := by omega
  have p1 := (z5 (Qp x s) gap day 100 (aan y t) (hfl2 s (List.Sublist.refl _)) (cSz s) (by omega) (by omega)).b
  rw [aag, if_pos hX.early, hX.hold] at p1
  have hol : ((Qp x s).map Qa.v).length = s.length := by rw [List.length_map, hcl]
  have htl : List.take s.length ((Qp x s).map Qa.v) = (Qp x s).map Qa.v := List.take_of_length_le (by omega)
  simp only [akB, List.take_length]
  simp only [aan, Qi.v, Qi.cells] at p1 ⊢
  (have zx := And.intro e1 (And.intro htl (And.intro hol (And.intro hsl f00)))); refine zgo ?_; repeat' first | exact zt | apply zan | intro hc
  refine QH (ι := Nat) (fun k => k ≤ s.length) (fun k => anU x gap day (aan y t) s k) (fun k => s.length - k) 0 (Nat.zero_le _) (Ql []) (Qu [] (by simp only [go_sem, zwl, Nat.reduceAdd, Nat.reduceMul, Nat.reduceEqDiff, Nat.reduceLT, Int.reduceToNat, reduceIte, reduceCtorEq, anU] <;> exact zcc) (by simp only [go_sem, zwl, Nat.reduceAdd, Nat.reduceMul, Nat.reduceEqDiff, Nat.reduceLT, Int.reduceToNat, reduceIte, reduceCtorEq, anU, aan, Qi.cells] <;> exact zcc) (by simp [anU, Ql]) (by simp [anU]) (by omega)) fun k hk K' hL => ?_
  rcases hdr : s.drop k with _ | ⟨i, r⟩
  · have hkl := Je hdr
    have g1 : decide ((k : Int) < (s.length : Int)) = false := by simp; omega
    have hps : 1 ≤ s.length := by rcases s with _ | ⟨_, _⟩; exact absurd rfl hX.pos; simp
    have g2 : decide ((s.length : Int) ≥ 1) = true := by simp; omega
    simp only [anU]
    (have zx := And.intro g1 (And.intro g2 (And.intro hol hsl))); exact zg
  obtain ⟨hk', hget, hr⟩ := QJ hdr
  have hw := Qr (k := k) (by omega)
  have g1 : decide ((k : Int) < (s.length : Int)) = true := by simp; omega
  obtain ⟨hE, hH⟩ := hX.less i (List.mem_of_getElem? hget)
  have p3 := (z5 (Qp x (WN i s)) gap day 100 (aan y t) (hfl2 _ (afI i s)) (cSz _) (by omega) (by omega)).b
  rw [aag, if_pos hE, hH, ← amV hlt hX.nd hget, List.map_append, List.map_take, List.map_drop] at p3
  have hMc : ∀ y ∈ (Qp x s).map Qa.v, y.cells.length = 11 := by intro y hy; obtain ⟨z, _, rfl⟩ := List.mem_map.1 hy; rfl
  simp only [anU]
  generalize hMe : (Qp x s).map Qa.v = M at *
  have hM1 : ∀ y ∈ M.take k, y.cells.length = 11 := fun y hy => hMc y (List.mem_of_mem_take hy)
  have hM2 : ∀ y ∈ M.drop (k + 1), y.cells.length = 11 := fun y hy => hMc y (List.mem_of_mem_drop hy)
  have hT : (M.take k).length = k := by rw [List.length_take]; omega
  have hD : (M.drop (k + 1)).length = s.length - (k + 1) := by rw [List.length_drop, hol]
  have hdt : (M.drop (k + 1)).take (s.length - (k + 1)) = M.drop (k + 1) := List.take_of_length_le (by omega)
  have hTT : (M.take k).take k = M.take k := List.take_of_length_le (by omega)
  have hall : (M.take k ++ M.drop (k + 1)).take (k + (s.length - (k + 1))) = M.take k ++ M.drop (k + 1) := List.take_of_length_le (by rw [List.length_append, hT, hD]; exact Nat.le_refl _)
  simp only [aan, Qi.v, Qi.cells] at p3 ⊢
  (have zx := And.intro g1 (And.intro hw (And.intro hol (And.intro hsl (And.intro f00 (And.intro hT (And.intro hD (And.intro hdt (And.intro hTT hall))))))))); refine zgo ?_; repeat' first | exact zt | apply zan | intro hc
  all_goals first | exact hL _ (k + 1) (Ql []) (by omega) (by omega) (Qu [] (by simp only [go_sem, zwl, Nat.reduceAdd, Nat.reduceMul, Nat.reduceEqDiff, Nat.reduceLT, Int.reduceToNat, reduceIte, reduceCtorEq, anU] <;> exact zcc) (by simp only [go_sem, zwl, Nat.reduceAdd, Nat.reduceMul, Nat.reduceEqDiff, Nat.reduceLT, Int.reduceToNat, reduceIte, reduceCtorEq, anU, hMe, aan, Qi.cells] <;> exact zcc) (by simp [anU, Ql]) (by simp [anU]) (by omega)) | trace_state
end Av
end

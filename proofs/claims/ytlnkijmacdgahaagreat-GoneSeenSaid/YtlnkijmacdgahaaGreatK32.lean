/- K32 -/
import Derived.Test.YtlnkijmacdgahaaGreatK29
import Derived.Test.YtlnkijmacdgahaaGreatK31
import Derived.Test.YtlnkijmacdgahaaGreatK12
set_option linter.unusedVariables false
set_option linter.unusedSimpArgs false
noncomputable section
set_option maxRecDepth 10000
set_option maxHeartbeats 4000000
namespace Av
open Go
attribute [local irreducible] AWp VA K4 jR awS awC aa9 awQ abD QZ V9 aay awR Ug awB okR jL ris
theorem aks (day od alg bits : Int) : ∀ x ∈ Kq day od alg bits, x.Sz := by
  intro x hx
  simp only [Kq, List.mem_cons, List.not_mem_nil, or_false] at hx
  rcases hx with rfl | rfl
  · exact ⟨by show (3 : Nat) < 2 ^ 60; omega, by show (3 : Nat) < 2 ^ 60; omega, by show (0 : Nat) < 2 ^ 60; omega⟩
  · exact ⟨by show (3 : Nat) < 2 ^ 60; omega, by show (3 : Nat) < 2 ^ 60; omega, by show (0 : Nat) < 2 ^ 60; omega⟩
theorem UJ {l : List Qa} {gap age alg : Int} {xs : List QF} {days : List Int} (he : Y2 l gap = 0) (ha : 0 ≤ age ∧ age ≤ 4000) (hd : ∀ d ∈ days, 0 ≤ d ∧ d ≤ 40000) (hal : 1 ≤ alg ∧ alg ≤ 22) (hx : ∀ x ∈ xs, yY x = true) : abb l gap age alg xs days = 0 := by
  have h1 : (decide (age < 0) || (decide (age > 4000) || days.any yx)) = false := by
    rw [Bool.or_eq_false_iff, Bool.or_eq_false_iff, decide_eq_false_iff_not, decide_eq_false_iff_not, List.any_eq_false]
    refine ⟨by omega, by omega, fun d h => ?_⟩
    have := hd d h
    rw [Bool.not_eq_true, yx, Bool.or_eq_false_iff, decide_eq_false_iff_not, decide_eq_false_iff_not]
    omega
  have h2 : (decide (alg < 1) || decide (alg > 22)) = false := by
    rw [Bool.or_eq_false_iff, decide_eq_false_iff_not, decide_eq_false_iff_not]; omega
  have h3 : xs.any (fun x => !yY x) = false := by
    rw [List.any_eq_false]; intro x h; simp [hx x h]
  rw [abb, if_neg (by simpa using he), h1, if_neg (by decide), h2, if_neg (by decide), h3, if_neg (by decide)]
theorem abK {day od alg bits D age gap : Int} (h1 : day < od) (hd : day ≤ D) (ha : D - age ≤ day) (ho : D ≤ od) (hal : 1 ≤ alg ∧ alg ≤ 22) (xs : List QF) (keys : List Int) (need : Int) : aal (Kq day od alg bits) gap D age alg xs keys need = if D < od then xs.any (xJ false (alg, bits) [[97, 112, 112]] D keys need) else true := by
  rw [aal, anY h1 hd ha ho hal]
  split <;> simp
def vH := qd Proofs.Tryz.f15 []
def xf (Γ : Env) (f : Nat) : Prop := ∀ (h0 : List UInt8) (d : Int), EvC Γ f [V.str h0, V.int d] ((Qa.v ⟨3, h0, 1, d, 90, 4, [116, 108, 115], 0, 0, 1, []⟩))
theorem ajU {Γ : Env} {f : Nat} (h : Has Γ.P f 8 vH.1.1.ac vH.1.2)  : xf Γ f := by
  intro h0 d
  refine Qm h zsi (by simp only [Qa.v, Qa.cells, V.closed, Qc, and_self, and_true]) fun C hC hm => ?_
  subst hC
  simp only [vH, qd, DC.ac]
  simp only [Qa.v, Qa.cells]
  refine zgo ?_; repeat' first | exact zt | apply zan | intro hc
  all_goals first | (refine Qi _ rfl ?_; simp only [go_sem, Nat.reduceEqDiff, Nat.reduceAdd, reduceIte, reduceCtorEq]; first | done | exact ⟨rfl, rfl⟩ | (simp; done)) | trace_state
def UF := qd Proofs.Tryz.f7 []
def Wq (Γ : Env) (f : Nat) : Prop := EvN Γ f [] (V.bool true)
theorem ado {Γ : Env} {f : Nat} (h : Has Γ.P f 44 UF.1.1.ac UF.1.2) (z0 : xf Γ 15) (z1 : WX Γ 11) : Wq Γ f := by
  refine Qb h zsi zcl zcl fun C hC hm => ?_
  subst hC
  simp only [UF, qd, DC.ac]
  have nA := (z0 [97, 112, 112] 3).b
  have s5 : Qn 1 0 > 0 := ag4.1
  have hE := afr (day := 3) (od := 5) (alg := 1) (bits := 0) (gap := 0) (by omega) (by omega) (by omega) (by omega) s5
  have q1 := UJ (xs := []) (days := [4]) hE (age := 10) (alg := 1) (by omega) (by simp) (by omega) (by simp)
  have q2 := UJ (xs := []) (days := [5]) hE (age := 10) (alg := 1) (by omega) (by simp) (by omega) (by simp)
  have v1 := abK (day := 3) (od := 5) (alg := 1) (bits := 0) (D := 4) (age := 10) (gap := 0) (by omega) (by omega) (by omega) (by omega) (by omega) [] [] 0
  have v2 := abK (day := 3) (od := 5) (alg := 1) (bits := 0) (D := 5) (age := 10) (gap := 0) (by omega) (by omega) (by omega) (by omega) (by omega) [] [] 0
  rw [if_pos (by omega), List.any_nil] at v1
  rw [if_neg (by omega)] at v2
  have g1 := (z1 (Kq 3 5 1 0) 0 4 10 1 [] [] 0 (by simp [Kq]) (aks _ _ _ _) (by simp) (by simp) (by simp)).b
  have g2 := (z1 (Kq 3 5 1 0) 0 5 10 1 [] [] 0 (by simp [Kq]) (aks _ _ _ _) (by simp) (by simp) (by simp)).b
  rw [amp, if_neg (by simpa using q1), v1] at g1
  rw [amp, if_neg (by simpa using q2), v2] at g2
  have hle : ∀ d : Int, ∀ i (h1 : i < 7) (h2 : i < 7), LeV ([.sl 11 ((Kq 3 5 1 0).map Qa.v), V.int 0, V.int d, V.int 10, V.int 1, KC, .agg [KC, V.int 0]] : List V)[i] ([.sl 11 ((Kq 3 5 1 0).map Qa.v), V.int 0, V.int d, V.int 10, V.int 1, .sl 7 (([] : List QF).map QF.v), .agg [.sl 1 (([] : List Int).map V.int), V.int 0]] : List V)[i] := fun d i h1 h2 => by
    match i, h1 with
    | 0, _ | 1, _ | 2, _ | 3, _ | 4, _ => exact LeV.refl _
    | 5, _ => exact LeV.nil 7
    | 6, _ => exact LeV.agg2 (LeV.nil 1) (LeV.refl _)
  have g1 := g1.le (args' := [.sl 11 ((Kq 3 5 1 0).map Qa.v), V.int 0, V.int 4, V.int 10, V.int 1, KC, .agg [KC, V.int 0]]) rfl (hle 4)
  have g2 := g2.le (args' := [.sl 11 ((Kq 3 5 1 0).map Qa.v), V.int 0, V.int 5, V.int 10, V.int 1, KC, .agg [KC, V.int 0]]) rfl (hle 5)
  clear hle v1 v2 q1 q2 hE s5
  have e0 : ((0 : Int) == 0) = true := rfl
  simp only [Kq, atF, List.map_cons, List.map_nil, Qa.v, Qa.cells] at nA g1 g2
  (have zx := e0); exact zg
theorem aad {l : List Qa} {gap : Int} (h : Ku l = true) (hg : 0 ≤ gap ∧ gap ≤ 4000) : Y2 l gap = 0 := by
  rw [Y2, if_pos h, if_neg (by omega)]
def adv (l : List Int) (k : Nat) : Int × Nat := Qz l k 15
def aoc (fs : List Qa) (xs : List QF) (a : Int) (days : List Int) (fn : Int) (fo : Bool) (k : Nat) : St := JY [(6, .sl 11 (fs.map Qa.v)), (7, .sl 7 (xs.map QF.v)), (8, .ptr 0 0), (9, V.int a), (12, V.int fn), (13, V.bool fo), (61, .hd 1 0 days.length), (62, V.int days.length), (63, V.int k)] [(0, .box true owC), (1, .buf true 1 (days.map V.int))] 2
def alu (l : List Int) (fs : List Qa) (xs : List QF) (a : Int) (m : Nat) (x : List Int × Nat) : St := JY [(5, .ptr 0 0), (6, .sl 11 (fs.map Qa.v)), (7, .sl 7 (xs.map QF.v)), (8, .ptr 1 0), (9, V.int a), (10, .hd 2 0 x.1.length), (11, V.int m)] [(0, .box true (JI l x.2)), (1, .box true owC), (2, .buf true 1 (x.1.map V.int))] 3
def XO := qd Proofs.Tryz.f4 []
def KZ (Γ : Env) (f : Nat) : Prop := ∀ (l : List Int) (c : Int) (h0 : 0 ≤ c) (h1 : c ≤ 255), EvN Γ f [.sl 1 (l.map V.int), .sc (.int .u8 c)] (V.bool true)
attribute [local go_sem] JI JY owC in
theorem wU {Γ : Env} {f : Nat} (h : Has Γ.P f 98 XO.1.1.ac XO.1.2) (z1 : Vf Γ 6) (z2 : Wq Γ 7) (z3 : Ua Γ 8) (z4 : UO Γ 9) (z5 : Y3 Γ 13) (z6 : QW Γ 10) (z7 : UP Γ 14) (z8 : WX Γ 11) : KZ Γ f := by
  intro l c h0 h1
  refine Qb h zsi zcl zcl fun C hC hm => ?_
  subst hC
  simp only [XO, qd, DC.ac]
  have hm : C.m = 0 := by simpa using hm
  have aw := (EvN.b z2)
  have gL := z1 l
  by_cases hlen : l.length ≤ 400
  rotate_left
  · have e0 : decide ((l.length : Int) ≤ 400) = false := by simp; omega
    rw [e0] at gL
    (have zy0 := gL.b; have zx := e0); exact zg
  have e0 : decide ((l.length : Int) ≤ 400) = true := by simp; omega
  rw [e0] at gL
  have n1 := z3 l
  have n2 := z4 l 0 hlen (Nat.zero_le _)
  obtain ⟨fz, fN, fl, xok, xl, k2⟩ := aim (l := l) (k := 0) (Nat.zero_le _)
  generalize vZ l 0 = w at *
  obtain ⟨fs, xs, d1⟩ := w
  simp only at n2 fz fN fl xok xl k2
  have hm2 : c.tmod 22 = c % 22 := Int.tmod_eq_emod_of_nonneg h0
  have hwc : IntKind.i64.wrap c = c := QE (by omega) (by omega)
  have hw2 : IntKind.i64.wrap (c % 22) = c % 22 := QE (by omega) (by omega)
  have hw3 : IntKind.i64.wrap (1 + c % 22) = 1 + c % 22 := QE (by omega) (by omega)
  have n3 := z5 l d1 [1, 14, 5, 20, 1 + c % 22] hlen k2 (by simp) (by simp)
  have k3 := j9 (xs := [1, 14, 5, 20, 1 + c % 22]) k2
  have r3 := aac (l := l) (k := d1) (xs := [1, 14, 5, 20, 1 + c % 22]) (by simp) (by simp)
  generalize ofD l d1 [1, 14, 5, 20, 1 + c % 22] = w at *
  obtain ⟨a, d2⟩ := w
  simp only [List.mem_cons, List.not_mem_nil, or_false] at n3 k3 r3
  have ha : 1 ≤ a ∧ a ≤ 22 := by omega
  have n4 := z6 l d2 6 hlen k3
  have r4 := Qk (l := l) (k := d2) (n := 6) (by omega) (by omega)
  have k4 := Jq (n := 6) k3
  generalize Qz l d2 6 = w at *
  obtain ⟨m0, d3⟩ := w
  simp only at n4 r4 k4
  obtain ⟨m, rfl⟩ : ∃ m : Nat, m0 = m := ⟨m0.toNat, by omega⟩
  simp only [JI, List.map_cons, List.map_nil, owC] at n1 n2 n3 n4
  (have zy0 := gL.b; have zx := And.intro e0 (And.intro hm2 (And.intro hwc (And.intro hw2 hw3)))); refine zgo ?_; repeat' first | exact zt | apply zan | intro hc
  refine Qp (ι := Nat) (fun j => j ≤ m) (fun j => alu l fs xs a (m - j) (Y8 adv l j d3)) (fun j => m - j) 0 (Nat.zero_le _) (Qd [(0, 5000), (1, 13000), (2, 25000)]) (Qh [(0, 5000), (1, 13000), (2, 25000)] (by simp only [go_sem, zwl, Nat.reduceAdd, Nat.reduceMul, Nat.reduceEqDiff, Nat.reduceLT, Int.reduceToNat, reduceIte, reduceCtorEq, alu, Y8, List.length_nil, Nat.sub_zero] <;> exact zcc) (by simp only [go_sem, zwl, Nat.reduceAdd, Nat.reduceMul, Nat.reduceEqDiff, Nat.reduceLT, Int.reduceToNat, reduceIte, reduceCtorEq, alu, Y8, JI, owC, List.map_nil, List.map_cons] <;> exact zcc) (by simp [alu, Qd]) (by simp [alu]; omega) (by omega)) fun j hj K' hL => ?_
  have dle0 : ∀ k, k ≤ l.length → (adv l k).2 ≤ l.length := fun k hk => Jq hk
  have dok : ∀ k, k ≤ l.length → 0 ≤ (adv l k).1 ∧ (adv l k).1 ≤ 14 := fun k hk => by
    have := Qk (l := l) (k := k) (n := 15) (by omega) (by omega)
    rw [adv]; omega
  have dlen := qF adv l j d3
  have dle := y0 (l := l) dle0 j k4
  rcases Nat.lt_or_ge j m with hlt | hge
  · have e1 : decide (((m - j : Nat) : Int) > 0) = true := by simp; omega
    have hw : IntKind.i64.wrap (((m - j : Nat) : Int) - 1) = ((m - (j + 1) : Nat) : Int) := by rw [QE (by omega) (by omega)]; omega
    have hsn := yZ adv l j d3
    simp only [alu]
    generalize Y8 adv l j d3 = x at *
    obtain ⟨out, q⟩ := x
    simp only at dlen dle hsn ⊢
    have nD := z6 l q 15 hlen dle
    have hdq : adv l q = Qz l q 15 := rfl
    rw [hdq] at hsn
    generalize Qz l q 15 = y at *
    obtain ⟨dd, q2⟩ := y
    simp only [JI, List.map_cons, List.map_nil] at nD hsn
    have hol : (out.map V.int).length = out.length := List.length_map _
    have htl : List.take out.length (out.map V.int) = out.map V.int := List.take_of_length_le (by simp)
    (have zx := And.intro e1 (And.intro hw (And.intro hol htl))); refine zgo ?_; repeat' first | exact zt | apply zan | intro hc
    all_goals first | exact hL _ (j + 1) (Qd [(2, 6003)]) (by omega) (by omega) (Qh [(2, 6003)] (by simp only [go_sem, zwl, Nat.reduceAdd, Nat.reduceMul, Nat.reduceEqDiff, Nat.reduceLT, Int.reduceToNat, reduceIte, reduceCtorEq, alu, hsn, List.length_append, List.length_cons, List.length_nil] <;> exact zcc) (by simp only [go_sem, zwl, Nat.reduceAdd, Nat.reduceMul, Nat.reduceEqDiff, Nat.reduceLT, Int.reduceToNat, reduceIte, reduceCtorEq, alu, hsn, JI, owC, W2, U0, List.map_append, List.map_cons, List.map_nil] <;> exact zcc) (by simp [alu, Qd]) (by simp [alu]; omega) (by omega)) | trace_state
  obtain rfl : j = m := by omega
  have e1 : decide (((j - j : Nat) : Int) > 0) = false := by simp
  clear hL
  have dmem := yw (P := fun d => 0 ≤ d ∧ d ≤ 14) (l := l) dle0 dok j k4
  simp only [alu]
  generalize Y8 adv l j d3 = x at *
  obtain ⟨days, d4⟩ := x
  simp only at dlen dmem ⊢
  have hE := aad (gap := 1) fN (by omega)
  have q1 := UJ (xs := xs) (days := []) hE (age := 20) (alg := a) (by omega) (by simp) ha fun x hx => (xok x hx).1
  have q2 := UJ (xs := xs) (days := days) hE (age := 20) (alg := a) (by omega) (fun d hd => by have := dmem d hd; omega) ha fun x hx => (xok x hx).1
  have q3 := fun d (hd : d ∈ days) => UJ (xs := xs) (days := [d]) hE (age := 20) (alg := a) (by omega) (fun d' hd' => by rw [List.mem_singleton.1 hd']; have := dmem d hd; omega) ha fun x hx => (xok x hx).1
  have gF := (z7 fs 1 20 a xs [51, 52] 1 days (by omega) fz (fun x hx => (xok x hx).2) (by omega) (by decide) (by omega)).b
  have gG := fun d => (z8 fs 1 d 20 a xs [51, 52] 1 (by omega) fz (fun x hx => (xok x hx).2) (by omega) (by decide)).b
  rw [ad4, if_neg (by simpa using q1), if_neg (by simpa using q2)] at gF
  have gG := fun d (hd : d ∈ days) => by
    have := gG d
    rw [amp, if_neg (by simpa using q3 d hd)] at this
    exact this
  obtain ⟨p, hp0⟩ : ∃ p : Int → Bool, p = fun d => aal fs 1 d 20 a xs [51, 52] 1 := ⟨_, rfl⟩
  have hpd : ∀ d, aal fs 1 d 20 a xs [51, 52] 1 = p d := fun d => (congrFun hp0 d).symm
  simp only [hpd] at gG
  rw [← hp0] at gF
  clear hp0 hpd q1 q2 q3 hE
  obtain ⟨fn, fo, gF, hfs, hfn⟩ : ∃ (fn : Int) (fo : Bool), EvB C.env 14 [.sl 11 (fs.map Qa.v), V.int 1, V.int 20, V.int a, .sl 7 (xs.map QF.v), .agg [.sl 1 (([51, 52] : List Int).map V.int), V.int 1], .sl 1 (days.map V.int)] (V.tup [V.int fn, V.bool fo, V.int 0]) none ∧ (∀ d, days.find? p = some d → fn = d ∧ fo = true) ∧ (days.find? p = none → fn = 0 ∧ fo = false) := by
    rcases hf : days.find? p with _ | d
    · rw [hf] at gF
      exact ⟨0, false, gF, fun d h => (by cases h), fun _ => ⟨rfl, rfl⟩⟩
    · rw [hf] at gF
      exact ⟨d, true, gF, fun d h => by cases h; exact ⟨rfl, rfl⟩, fun h => by cases h⟩
  have e00 : ((0 : Int) != 0) = false := rfl
  have hdl : (days.map V.int).length = days.length := List.length_map _
  have htd : List.take days.length (days.map V.int) = days.map V.int := List.take_of_length_le (by simp)
  simp only [List.map_cons, List.map_nil] at gF gG
  (have zx := And.intro e1 (And.intro e00 (And.intro hdl htd))); refine zgo ?_; repeat' first | exact zt | apply zan | intro hc
  refine Qp (ι := Nat) (fun k => k ≤ days.length ∧ (days.drop k).find? p = days.find? p) (fun k => aoc fs xs a days fn fo k) (fun k => days.length - k) 0 ⟨Nat.zero_le _, rfl⟩ (Qd [(0, 1), (1, 2)]) (Qh [(0, 1), (1, 2)] (by simp only [go_sem, zwl, Nat.reduceAdd, Nat.reduceMul, Nat.reduceEqDiff, Nat.reduceLT, Int.reduceToNat, reduceIte, reduceCtorEq, aoc] <;> exact zcc) (by simp only [go_sem, zwl, Nat.reduceAdd, Nat.reduceMul, Nat.reduceEqDiff, Nat.reduceLT, Int.reduceToNat, reduceIte, reduceCtorEq, aoc, owC, W2, U0] <;> exact zcc) (by simp [aoc, Qd]) (by simp [aoc]; omega) (by omega)) fun k hk K' hL => ?_
  obtain ⟨hk, hinv⟩ := hk
  rcases hds : days.drop k with _ | ⟨d, r⟩
  · have hkl := QB hds
    have f1 : decide ((k : Int) < (days.length : Int)) = false := by simp; omega
    rw [hds, List.find?_nil] at hinv
    obtain ⟨rfl, rfl⟩ := hfn hinv.symm
    have z0 : ((0 : Int) == 0) = true := rfl
    clear hL
    simp only [aoc]
    (have zx := And.intro f1 z0); exact zg
  obtain ⟨hk', hget, hr⟩ := Qo hds
  have hw := Qg (k := k) (by omega)
  have f1 : decide ((k : Int) < (days.length : Int)) = true := by simp; omega
  have vd : (days.map V.int)[k]? = some (V.int d) := by rw [List.getElem?_map, hget]; rfl
  have gd := gG d (List.mem_of_getElem? hget)
  rw [hds, List.find?_cons] at hinv
  clear gG gF
  rcases hp : p d with _ | _
  · rw [hp] at gd hinv
    have hnn := fun s' => hL s' (k + 1)
    simp only [aoc] at hnn ⊢
    (have zx := And.intro f1 (And.intro e00 (And.intro vd hw))); refine zgo ?_; repeat' first | exact zt | apply zan | intro hc
    all_goals first | exact hnn _ (Qd []) ⟨hk', by rw [hr]; exact hinv⟩ (by omega) (Qh [] zwa (by simp only [go_sem, zwl, Nat.reduceAdd, Nat.reduceMul, Nat.reduceEqDiff, Nat.reduceLT, Int.reduceToNat, reduceIte, reduceCtorEq, owC, W2, U0] <;> exact zcc) (by simp [Qd]) (by simp) (by omega)) | trace_state
  · rw [hp] at gd hinv
    obtain ⟨rfl, rfl⟩ := hfs d hinv.symm
    have z0 : ((fn : Int) == fn) = true := by simp
    clear hL
    simp only [aoc]
    (have zx := And.intro f1 (And.intro e00 (And.intro vd z0))); exact zg
theorem LeV.slC {sz : Nat} {xs ys : List V} (h : leC xs ys) : LeV (.sl sz xs) (.sl sz ys) := fun w Z μ v hv => by
  obtain ⟨l1, l2⟩ := ahu h
  cases hv with
  | sl0 =>
    have : ys = [] := List.length_eq_zero_iff.1 (by rw [← l1]; rfl)
    subst this; exact .sl0
  | sl f hcap hsz hc hr =>
    have hlen : ∀ i (h : i < ys.length) (h' : i < xs.length), xs[i].cells.length = ys[i].cells.length := fun i h h' => (aah (l2 i h' h)).1
    rw [l1]
    refine .sl f (by omega) (fun i hi => by rw [← hlen i hi (by omega)]; exact hsz i _) (fun i hi j hj => hc i (by omega) j (by rw [hlen i hi (by omega)]; exact hj)) (fun i hi j hj => ?_)
    have hj' : j < (xs[i]'(by omega)).cells.length := by rw [hlen i hi (by omega)]; exact hj
    exact (aah (l2 i (by omega) hi)).2 j hj' hj _ _ _ _ (hr i (by omega) j hj')
section
variable {Γ : Env} {b : Nat} {r : List AO} {s : St} {d : Option Nat} {f : FuncId} {acts : List V} {res : V} {K : St → Prop} {okf : Option (List Nat) → Prop}
theorem apC (l : List Nat) {args : List V} (h : EvC Γ f args res) (hc : okf (some l)) (hk : VA Γ (b + KK) r { t := (s.put d res).t, o := qz (some l) [] s.o, n := s.n } K) : agJ Γ b r s d f acts args okf K := by
  rintro rfl rfl
  unfold awC
  refine Ya ⟨_, _, _, _, [], some l, h.1, Jn _ _ _ hc, trivial, List.nodup_nil, by grind, by simp, by simp [KK], fun h => by simp at h, ?_⟩
  simp only [Yl, Yk, J6 _ _ h.2]
  unfold VA at hk
  exact hk
end
theorem am5 {l : List Qa} (h : Ku l = true) : ∀ x ∈ l, Yg x = true := by
  rw [Ku, Bool.and_eq_true, aci] at h
  exact h.1.1
theorem amv {c : Int} (h0 : 0 ≤ c) : ∃ alg bits : Int, ([.agg [V.int 1, V.int 0], .agg [V.int 14, V.int 128], .agg [V.int 5, V.int 1024]] : List V)[(c % 3).toNat]? = some (.agg [V.int alg, V.int bits]) ∧ Qn alg bits > 0 ∧ (1 ≤ alg ∧ alg ≤ 22) ∧ 0 ≤ bits ∧ bits ≤ 1024 := by
  obtain ⟨s1, s2, s3, _, _⟩ := ag4
  rcases (by omega : c % 3 = 0 ∨ c % 3 = 1 ∨ c % 3 = 2) with h | h | h
  · rw [h]; exact ⟨1, 0, rfl, s1, by omega, by omega, by omega⟩
  · rw [h]; exact ⟨14, 128, rfl, s2, by omega, by omega, by omega⟩
  · rw [h]; exact ⟨5, 1024, rfl, s3, by omega, by omega, by omega⟩
theorem ao6 {alg bits : Int} (ha : 1 ≤ alg ∧ alg ≤ 22) (hb : 0 ≤ bits ∧ bits ≤ 1024) : (aa2 alg bits).Sz := ⟨⟨by show _ ≤ alg; omega, by show alg < _; omega⟩, ⟨by show _ ≤ bits; omega, by show bits < _; omega⟩, by show (3 : Nat) < 2 ^ 60; omega⟩
def Wt := qd Proofs.Tryz.f5 [⟨fun y => !decide (y = 23000), [], zoc 0 7⟩]
def qO (Γ : Env) (f : Nat) : Prop := ∀ (l : List Int) (c : Int) (h0 : 0 ≤ c) (h1 : c ≤ 255), EvN Γ f [.sl 1 (l.map V.int), .sc (.int .u8 c)] (V.bool true)
theorem aaq {Γ : Env} {f : Nat} (h : Has Γ.P f 196 Wt.1.1.ac Wt.1.2) (z0 : Vf Γ 6) (z3 : Wq Γ 7) (z4 : Ua Γ 8) (z5 : QW Γ 10) (z6 : xf Γ 15) (z7 : UM Γ 16) (z8 : KY Γ 17) (z9 : WX Γ 11) (z10 : jF Γ 12) (z11 : UP Γ 14) : qO Γ f := by
  intro l c h0 h1
  refine Qb h zsi zcl zcl fun C hC hm => ?_
  subst hC
  simp only [Wt, qd, DC.ac]
  have hm : C.m = 0 := by simpa using hm
  have aw := (EvN.b z3)
  have gL := z0 l
  by_cases hlen : l.length ≤ 400
  rotate_left
  · have e0 : decide ((l.length : Int) ≤ 400) = false := by simp; omega
    rw [e0] at gL
    repeat' (first | (refine zsk ?_; intro K' hK) | (refine zrg ?_; intro K' hK) | refine zsp ?_ | (refine zsc ?_ ?_ <;> intro hc <;> first | exact znh | try simp only [znz] at hc) | simp (maxSteps := 1000000) only [go_sem, Nat.reduceAdd, Nat.reduceMul, Nat.reduceEqDiff, Nat.reduceLeDiff, Nat.reduceLT, Nat.reduceSub, Int.reduceEq, Int.reduceBEq, Int.reduceLT, Int.reduceLE, Int.reduceAdd, Int.reduceToNat, reduceIte, reduceCtorEq, e0] | (refine hK _ ?_; clear hK K') | apply zan | (apply U8; (focus exact rfl); (focus first | exact (z5 _ _ _ zsd zsd)); (focus exact rfl); (focus exact rfl)) | (apply VF; (focus exact rfl); (focus exact zrd); (focus exact zrd); (focus first | exact (z5 _ _ _ zsd zsd)); (focus exact rfl); (focus exact rfl); (focus exact zrd)) | (apply KW; (focus first | exact (z4 _))) | (apply Uh; (focus first | exact (z4 _)); (focus exact zrd)) | ((first | apply Qv | apply QQ); (focus first | exact gL.b | exact aw | exact (z0 _).b | exact (z6 zsd _).b)) | exact zsq | fail)
    all_goals first | exact zr | trace_state
  have e0 : decide ((l.length : Int) ≤ 400) = true := by simp; omega
  rw [e0] at gL
  have n1 := z4 l
  obtain ⟨alg, bits, hix, hs, hal, hbi⟩ := amv h0
  have hm3 : c.tmod 3 = c % 3 := Int.tmod_eq_emod_of_nonneg h0
  have hw8 : IntKind.u8.wrap (c % 3) = c % 3 := by
    have e1 : IntKind.u8.bits = 8 := rfl
    have e2 : IntKind.u8.signed = false := rfl
    simp only [IntKind.wrap, e1, e2, Bool.false_and]
    simp; omega
  have n3 := z5 l 0 9 hlen (Nat.zero_le _)
  have r3 := Qk (l := l) (k := 0) (n := 9) (by omega) (by omega)
  have k3 := Jq (n := 9) (l := l) (k := 0) (Nat.zero_le _)
  generalize Qz l 0 9 = w at *
  obtain ⟨a, d1⟩ := w
  simp only at n3 r3 k3
  have n4 := z5 l d1 3 hlen k3
  have r4 := Qk (l := l) (k := d1) (n := 3) (by omega) (by omega)
  generalize Qz l d1 3 = w at *
  obtain ⟨b, d2⟩ := w
  simp only at n4 r4
  obtain ⟨day, hday⟩ : ∃ day, day = 3 + a := ⟨_, rfl⟩
  obtain ⟨od, hod⟩ : ∃ od, od = day + 1 + b := ⟨_, rfl⟩
  have w1 : IntKind.i64.wrap (3 + a) = day := by rw [hday]; exact QE (by omega) (by omega)
  have w2 : IntKind.i64.wrap (day + 1) = day + 1 := QE (by omega) (by omega)
  have w3 : IntKind.i64.wrap (day + 1 + b) = od := by rw [hod]; exact QE (by omega) (by omega)
  have w4 : IntKind.i64.wrap (od - 1) = od - 1 := QE (by omega) (by omega)
  have w5 : IntKind.i64.wrap (od + 1) = od + 1 := QE (by omega) (by omega)
  have hE := afr (day := day) (od := od) (alg := alg) (bits := bits) (gap := 1) (by omega) (by omega) (by omega) (by omega) hs
  have hnB := aaw hE
  have tz := aks day od alg bits
  have tl : (Kq day od alg bits).length < 2 ^ 40 := by show (2 : Nat) < _; omega
  have nAt := (z6 [97, 112, 112] day).b
  have gN := z8 (Kq day od alg bits) (by show (2 : Nat) ≤ _; omega) tz (am5 hnB)
  rw [amx (by omega)] at gN
  have xo := alD (alg := alg) (bits := bits) hs
  have xz := ao6 (alg := alg) (bits := bits) hal hbi
  have so := ag7 (key := 51) xo rfl (by decide)
  have sz : (UV (aa2 alg bits) 51).Sz := ⟨xz.a, xz.b, xz.e⟩
  have gS := ((z7 (aa2 alg bits) 51 xz xo rfl (by decide)).b.le2 (x' := .agg [V.int alg, V.int bits, V.int 1, V.str [97, 112, 112], V.int 0, V.int 100, KC]) (LeV.agg rfl fun j hj hj' => by
    match j, hj with
    | 0, _ | 1, _ | 2, _ | 3, _ | 4, _ | 5, _ => exact LeV.refl _
    | 6, _ => exact LeV.nil 2) (LeV.refl _))
  have hlv : leC [.agg [V.int alg, V.int bits, V.int 1, V.str [97, 112, 112], V.int 0, V.int 100, KC]] [(aa2 alg bits).v] := ⟨⟨LeV.refl _, LeV.refl _, LeV.refl _, LeV.refl _, LeV.refl _, LeV.refl _, LeV.nil 2, trivial⟩, trivial⟩
  have p0 := ajf day alg bits (aa2 alg bits) [51] 1 rfl rfl rfl rfl (by show (0 : Int) ≤ day; omega) (by show day < 100; omega)
  have p1 := ajf day alg bits (UV (aa2 alg bits) 51) [51] 1 rfl rfl rfl rfl (by show (0 : Int) ≤ day; omega) (by show day < 100; omega)
  rw [anp] at p0
  rw [alC hs] at p1
  have qE := fun (xs : List QF) (days : List Int) (hx : ∀ x ∈ xs, yY x = true) (hd : ∀ d ∈ days, 0 ≤ d ∧ d ≤ 40000) => UJ (xs := xs) (days := days) hE (age := 50) (alg := alg) (by omega) hd hal hx
  have gG := fun (d : Int) (xs : List QF) (hd : day ≤ d ∧ d ≤ od) (hx : ∀ x ∈ xs, yY x = true) (hxz : ∀ x ∈ xs, x.Sz) (hxl : xs.length < 2 ^ 62) => by
    have := (z9 (Kq day od alg bits) 1 d 50 alg xs [51] 1 tl tz hxz hxl (by decide)).b
    rw [amp, if_neg (by simpa using qE xs [d] hx (fun d' hd' => by rw [List.mem_singleton.1 hd']; omega)), abK (by omega) hd.1 (by omega) hd.2 hal] at this
    exact this
  have a1 := gG day [] (by omega) (by simp) (by simp) (by decide)
  have a2 := gG od [] (by omega) (by simp) (by simp) (by decide)
  have a3 := gG day [aa2 alg bits] (by omega) (by simp [xo]) (by simp [xz]) (by simp)
  have a4 := gG day [aa2 alg bits, UV (aa2 alg bits) 51] (by omega) (by simp [xo, so]) (by simp [xz, sz]) (by simp)
  rw [if_pos (by omega), List.any_nil] at a1
  rw [if_neg (by omega)] at a2
  rw [if_pos (by omega), List.any_cons, List.any_nil, p0] at a3
  rw [if_pos (by omega), List.any_cons, List.any_cons, List.any_nil, p0, p1] at a4
  have a5 := z10 (Kq day od alg bits) 1 day 50 alg [UV (aa2 alg bits) 51] [51] 1 tl tz (by simp [sz]) (by simp) (by decide)
  rw [apM, if_neg (by simpa using qE [UV (aa2 alg bits) 51] [day] (by simp [so]) (by simp; omega)), anY (by omega) (by omega) (by omega) (by omega) hal, if_pos (by omega), List.any_cons, List.any_nil, p1] at a5
  have a6 := (z11 (Kq day od alg bits) 1 50 alg [] [51] 1 [day, od - 1, od, od + 1] tl tz (by simp) (by decide) (by decide) (by simp)).b
  have t1 := fun (d : Int) (hd : day ≤ d ∧ d ≤ od) => abK (day := day) (od := od) (alg := alg) (bits := bits) (D := d) (age := 50) (gap := 1) (by omega) hd.1 (by omega) hd.2 hal [] [51] 1
  have f1 := t1 day (by omega)
  have f2 := t1 (od - 1) (by omega)
  have f3 := t1 od (by omega)
  rw [if_pos (by omega), List.any_nil] at f1
  rw [if_pos (by omega), List.any_nil] at f2
  rw [if_neg (by omega)] at f3
  rw [ad4, if_neg (by simpa using qE [] [] (by simp) (by simp)), if_neg (by simpa using qE [] [day, od - 1, od, od + 1] (by simp) (by simp; omega)), List.find?_cons, f1] at a6
  simp only [List.find?_cons, f2, f3] at a6
  have a1 := a1.le (args' := [.sl 11 ((Kq day od alg bits).map Qa.v), V.int 1, V.int day, V.int 50, V.int alg, KC, .agg [.sl 1 (([51] : List Int).map V.int), V.int 1]]) rfl (fun i hi hi' => by
    match i, hi with
    | 0, _ | 1, _ | 2, _ | 3, _ | 4, _ | 6, _ => exact LeV.refl _
    | 5, _ => exact LeV.nil 7)
  have a2 := a2.le (args' := [.sl 11 ((Kq day od alg bits).map Qa.v), V.int 1, V.int od, V.int 50, V.int alg, KC, .agg [.sl 1 (([51] : List Int).map V.int), V.int 1]]) rfl (fun i hi hi' => by
    match i, hi with
    | 0, _ | 1, _ | 2, _ | 3, _ | 4, _ | 6, _ => exact LeV.refl _
    | 5, _ => exact LeV.nil 7)
  have a3 := a3.le (args' := [.sl 11 ((Kq day od alg bits).map Qa.v), V.int 1, V.int day, V.int 50, V.int alg, .sl 7 [.agg [V.int alg, V.int bits, V.int 1, V.str [97, 112, 112], V.int 0, V.int 100, KC]], .agg [.sl 1 (([51] : List Int).map V.int), V.int 1]]) rfl (fun i hi hi' => by
    match i, hi with
    | 0, _ | 1, _ | 2, _ | 3, _ | 4, _ | 6, _ => exact LeV.refl _
    | 5, _ => exact LeV.slC hlv)
  have a4 := a4.le (args' := [.sl 11 ((Kq day od alg bits).map Qa.v), V.int 1, V.int day, V.int 50, V.int alg, .sl 7 [.agg [V.int alg, V.int bits, V.int 1, V.str [97, 112, 112], V.int 0, V.int 100, KC], (UV (aa2 alg bits) 51).v], .agg [.sl 1 (([51] : List Int).map V.int), V.int 1]]) rfl (fun i hi hi' => by
    match i, hi with
    | 0, _ | 1, _ | 2, _ | 3, _ | 4, _ | 6, _ => exact LeV.refl _
    | 5, _ => exact LeV.slC ⟨hlv.1, abQ _, trivial⟩)
  have a6 := a6.le (args' := [.sl 11 ((Kq day od alg bits).map Qa.v), V.int 1, V.int 50, V.int alg, KC, .agg [.sl 1 (([51] : List Int).map V.int), V.int 1], .sl 1 (([day, od - 1, od, od + 1] : List Int).map V.int)]) rfl (fun i hi hi' => by
    match i, hi with
    | 0, _ | 1, _ | 2, _ | 3, _ | 5, _ | 6, _ => exact LeV.refl _
    | 4, _ => exact LeV.nil 7)
  have hsv : (UV (aa2 alg bits) 51).v = .agg [V.int alg, V.int bits, V.int 1, V.str [97, 112, 112], V.int 0, V.int 100, .sl 2 [.agg [V.int 51, V.int (Us (exP (aa2 alg bits)).pB)]]] := rfl
  rw [hsv] at gS a4
  simp only [hsv, List.map_cons, List.map_nil] at a5
  generalize Us (exP (aa2 alg bits)).pB = sm at *
  have z1 : ((od : Int) == od) = true := by simp
  have z2 : ((0 : Int) == 0) = true := rfl
  clear p0 p1 qE gG t1 f1 f2 f3 hlv hsv so xo xz sz hE hnB tz tl
  simp only [JI, List.map_cons, List.map_nil, Kq, atF, Qa.v, Qa.cells, evV] at n1 n3 n4 nAt gN gS a1 a2 a3 a4 a5 a6
  repeat' (first | (refine zsk ?_; intro K' hK) | (refine zrg ?_; intro K' hK) | refine zsp ?_ | (refine zsc ?_ ?_ <;> intro hc <;> first | exact znh | try simp only [znz] at hc) | simp (maxSteps := 1000000) only [go_sem, Nat.reduceAdd, Nat.reduceMul, Nat.reduceEqDiff, Nat.reduceLeDiff, Nat.reduceLT, Nat.reduceSub, Int.reduceEq, Int.reduceBEq, Int.reduceLT, Int.reduceLE, Int.reduceAdd, Int.reduceToNat, reduceIte, reduceCtorEq, e0, JI, hm3, hw8, hix, w1, w2, w3, w4, w5, z1, z2, Int.toNat_natCast, List.getElem?_cons_zero, V.shutOk0, XC, V.shut0, V2, ntL, not_false_eq_true] | (refine hK _ ?_; clear hK K') | apply zan | (apply agI; (focus first | exact gN)) | (apply ae6; (focus first | exact gN); (focus first | exact rfl | decide)) | (apply U8; (focus exact rfl); (focus first | exact n3 | exact n4 | exact (z5 _ _ _ zsd zsd)); (focus exact rfl); (focus exact rfl)) | (apply VF; (focus exact rfl); (focus exact zrd); (focus exact zrd); (focus first | exact n3 | exact n4 | exact (z5 _ _ _ zsd zsd)); (focus exact rfl); (focus exact rfl); (focus exact zrd)) | (apply KW; (focus first | exact n1 | exact (z4 _))) | (apply Uh; (focus first | exact n1 | exact (z4 _)); (focus exact zrd)) | ((first | apply Qv | apply QQ); (focus first | exact gL.b | exact aw | exact nAt | exact gS | exact a1 | exact a2 | exact a3 | exact a4 | exact (z0 _).b | exact (z6 zsd _).b)) | exact zsq | fail)
  refine apC [121000, 57000] a5 ?_ ?_
  · simp [Qj, V.shutOk0, XC, V.shut0, V2, okB, upd, qz]
  repeat' (first | (refine zsk ?_; intro K' hK) | (refine zrg ?_; intro K' hK) | refine zsp ?_ | (refine zsc ?_ ?_ <;> intro hc <;> first | exact znh | try simp only [znz] at hc) | simp (maxSteps := 1000000) only [go_sem, Nat.reduceAdd, Nat.reduceMul, Nat.reduceEqDiff, Nat.reduceLeDiff, Nat.reduceLT, Nat.reduceSub, Int.reduceEq, Int.reduceBEq, Int.reduceLT, Int.reduceLE, Int.reduceAdd, Int.reduceToNat, reduceIte, reduceCtorEq, z1, z2, w4, w5, Int.toNat_natCast, List.getElem?_cons_zero, List.length_cons, List.length_nil] | (refine hK _ ?_; clear hK K') | apply zan | (apply U8; (focus exact rfl); (focus first | exact (z5 _ _ _ zsd zsd)); (focus exact rfl); (focus exact rfl)) | (apply VF; (focus exact rfl); (focus exact zrd); (focus exact zrd); (focus first | exact (z5 _ _ _ zsd zsd)); (focus exact rfl); (focus exact rfl); (focus exact zrd)) | (apply KW; (focus first | exact (z4 _))) | (apply Uh; (focus first | exact (z4 _)); (focus exact zrd)) | ((first | apply Qv | apply QQ); (focus first | exact aw | exact a6 | exact (z0 _).b | exact (z6 zsd _).b)) | exact zsq | fail)
  all_goals first | exact zr | trace_state
theorem anj (gap day age alg : Int) (keys : List Int) (need : Int) : aal [] gap day age alg [] keys need = true := rfl
theorem aky (l : List Qa) (gap day age alg : Int) (xs : List QF) (keys : List Int) (need : Int) : aal l gap day age alg xs keys need = (aeh l gap day age alg xs keys need).all fun e => e.2 := by
  rw [aal]
  induction aeh l gap day age alg xs keys need with
  | nil => rfl
  | cons x r ih => rw [List.any_cons, List.all_cons, ← ih, Bool.not_or, Bool.not_not]
def ao1 (fs : List Qa) (xs : List QF) (a day : Int) (fw al : List (Int × Bool)) (k : Nat) : St := JY [(6, .sl 11 (fs.map Qa.v)), (7, .sl 7 (xs.map QF.v)), (8, .ptr 0 0), (9, V.int a), (10, V.int day), (13, .sl 2 (fw.map evV)), (15, .sl 2 (al.map evV)), (90, V.int fw.length), (91, V.int k)] [(0, .box true owC)] 1
def ao0 (g : Bool) (al : List (Int × Bool)) (k : Nat) : St := JY [(18, V.bool g), (19, V.int 0), (20, V.bool ((al.take k).all fun e => e.2)), (130, .sl 2 (al.map evV)), (131, V.int al.length), (132, V.int k)] [] 0
def Wu := qd Proofs.Tryz.f3 [zhn 26, ⟨fun y => !decide (y = 5000), [8], zoc 0 17⟩]
def qP (Γ : Env) (f : Nat) : Prop := ∀ (l : List Int) (c : Int) (h0 : 0 ≤ c) (h1 : c ≤ 255), EvN Γ f [.sl 1 (l.map V.int), .sc (.int .u8 c)] (V.bool true)
attribute [local go_sem] JI JY owC in
theorem aar {Γ : Env} {f : Nat} (h : Has Γ.P f 152 Wu.1.1.ac Wu.1.2) (z1 : Vf Γ 6) (z2 : Wq Γ 7) (z3 : Ua Γ 8) (z4 : UO Γ 9) (z5 : QW Γ 10) (z6 : WX Γ 11) (z7 : jF Γ 12) : qP Γ f := by
  intro l c h0 h1
  refine Qb h zsi zcl zcl fun C hC hm => ?_
  subst hC
  simp only [Wu, qd, DC.ac]
  have hm : C.m = 0 := by simpa using hm
  have aw := (EvN.b z2)
  have gL := z1 l
  by_cases hlen : l.length ≤ 400
  rotate_left
  · have e0 : decide ((l.length : Int) ≤ 400) = false := by simp; omega
    rw [e0] at gL
    (have zy0 := gL.b; have zx := e0); exact zg
  have e0 : decide ((l.length : Int) ≤ 400) = true := by simp; omega
  rw [e0] at gL
  have n1 := z3 l
  have n2 := z4 l 0 hlen (Nat.zero_le _)
  obtain ⟨fz, fN, fl, xok, xl, k2⟩ := aim (l := l) (k := 0) (Nat.zero_le _)
  generalize vZ l 0 = w at *
  obtain ⟨fs, xs, d1⟩ := w
  simp only at n2 fz fN fl xok xl k2
  have hm2 : c.tmod 22 = c % 22 := Int.tmod_eq_emod_of_nonneg h0
  have hwc : IntKind.i64.wrap c = c := QE (by omega) (by omega)
  have hw2 : IntKind.i64.wrap (c % 22) = c % 22 := QE (by omega) (by omega)
  have hw3 : IntKind.i64.wrap (1 + c % 22) = 1 + c % 22 := QE (by omega) (by omega)
  have ha : 1 ≤ 1 + c % 22 ∧ 1 + c % 22 ≤ 22 := by omega
  have n3 := z5 l d1 10 hlen k2
  have r3 := Qk (l := l) (k := d1) (n := 10) (by omega) (by omega)
  have k3 := Jq (n := 10) k2
  generalize Qz l d1 10 = w at *
  obtain ⟨day, d2⟩ := w
  simp only at n3 r3 k3
  have n4 := z5 l d2 (xs.length + 1) hlen k3
  have r4 := Qk (l := l) (k := d2) (n := xs.length + 1) (by omega) (by omega)
  generalize Qz l d2 (xs.length + 1) = w at *
  obtain ⟨q0, d3⟩ := w
  simp only at n4 r4
  obtain ⟨q, rfl⟩ : ∃ q : Nat, q0 = q := ⟨q0.toNat, by omega⟩
  have hwx : IntKind.i64.wrap ((xs.length : Int) + 1) = (xs.length : Int) + 1 := QE (by omega) (by omega)
  have hql : q ≤ xs.length := by omega
  have hxm : (xs.map QF.v).length = xs.length := List.length_map _
  have hE := aad (gap := 1) fN (by omega)
  have hE0 := aad (l := []) (gap := 1) rfl (by omega)
  have hsub : ∀ x ∈ xs.take q, x ∈ xs := fun x hx => List.mem_of_mem_take hx
  have q1 := UJ (xs := []) (days := [day]) hE0 (age := 50) (alg := 1 + c % 22) (by omega) (by simp; omega) ha (by simp)
  have q2 := UJ (xs := xs) (days := [day]) hE (age := 50) (alg := 1 + c % 22) (by omega) (by simp; omega) ha fun x hx => (xok x hx).1
  have q3 := UJ (xs := xs.take q) (days := [day]) hE (age := 50) (alg := 1 + c % 22) (by omega) (by simp; omega) ha fun x hx => (xok x (hsub x hx)).1
  have g1 := (z6 [] 1 day 50 (1 + c % 22) [] [51, 52] 1 (by decide) (by simp) (by simp) (by decide) (by decide)).b
  have g2 := (z6 fs 1 day 50 (1 + c % 22) xs [51, 52] 1 (by omega) fz (fun x hx => (xok x hx).2) (by omega) (by decide)).b
  have gA := (z7 fs 1 day 50 (1 + c % 22) xs [51, 52] 1 (by omega) fz (fun x hx => (xok x hx).2) (by omega) (by decide)).b
  have gF := (z7 fs 1 day 50 (1 + c % 22) (xs.take q) [51, 52] 1 (by omega) fz (fun x hx => (xok x (hsub x hx)).2) (by rw [List.length_take]; omega) (by decide)).b
  rw [amp, if_neg (by simpa using q1), anj] at g1
  rw [amp, if_neg (by simpa using q2), aky] at g2
  rw [apM, if_neg (by simpa using q2)] at gA
  rw [apM, if_neg (by simpa using q3), List.map_take] at gF
  obtain ⟨m1, m2⟩ := anT (l := fs) (gap := 1) (day := day) (age := 50) (alg := 1 + c % 22) (keys := [51, 52]) (need := 1) hsub
  have hsm := agK (day := day) (age := 50) (alg := 1 + c % 22) (xs := xs) (keys := [51, 52]) (need := 1) hE
  generalize aeh fs 1 day 50 (1 + c % 22) xs [51, 52] 1 = al at *
  generalize aeh fs 1 day 50 (1 + c % 22) (xs.take q) [51, 52] 1 = fw at *
  have g1 := g1.le (args' := [KC, V.int 1, V.int day, V.int 50, V.int (1 + c % 22), KC, .agg [.sl 1 (([51, 52] : List Int).map V.int), V.int 1]]) rfl (fun i hi hi' => by
    match i, hi with
    | 0, _ => exact LeV.nil 11
    | 1, _ | 2, _ | 3, _ | 4, _ | 6, _ => exact LeV.refl _
    | 5, _ => exact LeV.nil 7)
  clear q1 q2 q3 hE hE0
  have ef : ((0 : Int) != 0) = false := rfl
  have hfm : (fw.map evV).length = fw.length := List.length_map _
  have ham : (al.map evV).length = al.length := List.length_map _
  have e2 : ((fw.length : Int) != (al.length : Int)) = false := by simp; omega
  simp only [JI, List.map_cons, List.map_nil, owC] at n1 n2 n3 n4 g1 g2 gA gF
  (have zy0 := gL.b; have zx := And.intro e0 (And.intro hm2 (And.intro hwc (And.intro hw2 (And.intro hw3 (And.intro hwx (And.intro hxm (And.intro hql (And.intro ef (And.intro e2 (And.intro hfm ham))))))))))); refine zgo ?_; repeat' first | exact zt | apply zan | intro hc
  refine Qp (ι := Nat) (fun k => k ≤ fw.length) (fun k => ao1 fs xs (1 + c % 22) day fw al k) (fun k => fw.length - k) 0 (Nat.zero_le _) (Qd [(0, 13000)]) (Qh [(0, 13000)] (by simp only [go_sem, zwl, Nat.reduceAdd, Nat.reduceMul, Nat.reduceEqDiff, Nat.reduceLT, Int.reduceToNat, reduceIte, reduceCtorEq, ao1] <;> exact zcc) (by simp only [go_sem, zwl, Nat.reduceAdd, Nat.reduceMul, Nat.reduceEqDiff, Nat.reduceLT, Int.reduceToNat, reduceIte, reduceCtorEq, ao1, owC] <;> exact zcc) (by simp [ao1, Qd]) (by simp [ao1]; omega) (by omega)) fun k hk K' hL => ?_
  rcases hdf : fw.drop k with _ | ⟨u, r⟩
  rotate_left
  · obtain ⟨hk', hget, hr⟩ := Qo hdf
    have hw := Qg (k := k) (by omega)
    have f1 : decide ((k : Int) < (fw.length : Int)) = true := by simp; omega
    obtain ⟨v, hv⟩ : ∃ v, al[k]? = some v := ⟨_, List.getElem?_eq_getElem (by omega)⟩
    obtain ⟨m3, m4⟩ := m2 k u v hget hv
    obtain ⟨ui, ub⟩ := u
    obtain ⟨vi, vb⟩ := v
    simp only at m3 m4
    subst m3
    have nz : ((ui : Int) != ui) = false := by simp
    have vu : (fw.map evV)[k]? = some (evV (ui, ub)) := by rw [List.getElem?_map, hget]; rfl
    have vv : (al.map evV)[k]? = some (evV (ui, vb)) := by rw [List.getElem?_map, hv]; rfl
    simp only [evV] at vu vv
    have hnn := fun s' => hL s' (k + 1)
    clear gA gF g1 hL
    simp only [ao1] at hnn ⊢
    rcases ub with _ | _
    · (have zx := And.intro f1 (And.intro vu (And.intro vv (And.intro nz hw)))); refine zgo ?_; repeat' first | exact zt | apply zan | intro hc
      all_goals first | exact hnn _ (Qd []) hk' (by omega) (Qh [] zwa (by simp only [go_sem, zwl, Nat.reduceAdd, Nat.reduceMul, Nat.reduceEqDiff, Nat.reduceLT, Int.reduceToNat, reduceIte, reduceCtorEq, owC] <;> exact zcc) (by simp [Qd]) (by simp) (by omega)) | trace_state
    · obtain rfl := m4 rfl
      (have zx := And.intro f1 (And.intro vu (And.intro vv (And.intro nz hw)))); refine zgo ?_; repeat' first | exact zt | apply zan | intro hc
      all_goals first | exact hnn _ (Qd []) hk' (by omega) (Qh [] zwa (by simp only [go_sem, zwl, Nat.reduceAdd, Nat.reduceMul, Nat.reduceEqDiff, Nat.reduceLT, Int.reduceToNat, reduceIte, reduceCtorEq, owC] <;> exact zcc) (by simp [Qd]) (by simp) (by omega)) | trace_state
  have hkl := QB hdf
  have f1 : decide ((k : Int) < (fw.length : Int)) = false := by simp; omega
  clear hL
  simp only [ao1]
  (have zx := And.intro f1 ham); refine zgo ?_; repeat' first | exact zt | apply zan | intro hc
  refine Qp (ι := Nat) (fun k => k ≤ al.length) (fun k => ao0 (al.all fun e => e.2) al k) (fun k => al.length - k) 0 (Nat.zero_le _) (Qd []) (Qh [] (by simp only [go_sem, zwl, Nat.reduceAdd, Nat.reduceMul, Nat.reduceEqDiff, Nat.reduceLT, Int.reduceToNat, reduceIte, reduceCtorEq, ao0, List.take_zero, List.all_nil] <;> exact zcc) (by simp only [go_sem, zwl, Nat.reduceAdd, Nat.reduceMul, Nat.reduceEqDiff, Nat.reduceLT, Int.reduceToNat, reduceIte, reduceCtorEq, ao0] <;> exact zcc) (by simp [ao0, Qd]) (by simp [ao0]) (by omega)) fun k2 hk2 K2 hM => ?_
  rcases hda : al.drop k2 with _ | ⟨u, r⟩
  · have hkl2 := QB hda
    have f2 : decide ((k2 : Int) < (al.length : Int)) = false := by simp; omega
    obtain rfl : k2 = al.length := by omega
    have z0 : ((0 : Int) == 0) = true := rfl
    clear hM
    simp only [ao0, List.take_length]
    generalize (al.all fun e => e.2) = gb at *
    have zb : (gb == gb) = true := by simp
    (have zx := And.intro f2 (And.intro z0 zb)); exact zg
  obtain ⟨hk2', hget2, hr2⟩ := Qo hda
  have hw2' := Qg (k := k2) (by omega)
  have f2 : decide ((k2 : Int) < (al.length : Int)) = true := by simp; omega
  have vv : (al.map evV)[k2]? = some (evV u) := by rw [List.getElem?_map, hget2]; rfl
  have hst : (al.take (k2 + 1)).all (fun e => e.2) = ((al.take k2).all (fun e => e.2) && u.2) := by
    rw [List.take_add_one, hget2, List.all_append]; simp
  obtain ⟨ui, ub⟩ := u
  simp only [evV] at vv hst
  have hnn := fun s' => hM s' (k2 + 1)
  clear hM
  simp only [ao0, hst] at hnn ⊢
  generalize ((al.take k2).all fun e => e.2) = sb at *
  generalize (al.all fun e => e.2) = gb at *
  rcases sb with _ | _ <;> rcases ub with _ | _
  all_goals
    (have zx := And.intro f2 (And.intro vv hw2')); refine zgo ?_; repeat' first | exact zt | apply zan | intro hc
  all_goals first | exact hnn _ (Qd []) hk2' (by omega) (zwg []) | trace_state
end Av
end

/- K27 -/
import Derived.Test.YtlnkijmacdgahaaGreatK21
import Derived.Test.YtlnkijmacdgahaaGreatK12
import Derived.Test.YtlnkijmacdgahaaGreatK26
import Derived.Test.YtlnkijmacdgahaaGreatK23
import Derived.Test.YtlnkijmacdgahaaGreatK24
import Derived.Test.YtlnkijmacdgahaaGreatK25
import Derived.Test.YtlnkijmacdgahaaGreatK20
set_option linter.unusedVariables false
set_option linter.unusedSimpArgs false
noncomputable section
set_option maxRecDepth 10000
set_option maxHeartbeats 4000000
namespace Av
open Go
attribute [local irreducible] AWp VA K4 jR awS awC aa9 awQ abD QZ V9 aay awR Ug awB okR jL ris
structure aei where
  name : List UInt8
  least : Int
  most : Int
  suites : List Int
  own : Bool
  fall : Bool
def aei.cells (d : aei) : List V := [V.str d.name, V.int d.least, V.int d.most, .sl 1 (d.suites.map V.int), V.bool d.own, .sc (.slice none 0 0), .sc (.slice none 0 0), .sc (.slice none 0 0), V.bool d.fall, .sc (.slice none 0 0)]
theorem aei.cells_closed (d : aei) : Qc d.cells := by simp [aei.cells, V.closed, Qc]
theorem afX {α : Type} (p : α → Bool) : ∀ (xs : List α) (k : Nat), decide (jM p k xs ≥ 0) = xs.any p
  | [], k => by simp [jM]
  | x :: r, k => by
    have ih := afX p r (k + 1)
    rw [jM, List.any_cons]
    by_cases h : p x = true
    · rw [if_pos h, h]; simp
    · have h2 : p x = false := by simpa using h
      rw [if_neg h, h2, ih]; rfl
structure aqO where
  sec : List UInt8
  name : List UInt8
  val : List UInt8
  line : Int
def aqO.cells (x : aqO) : List V := [V.str x.sec, V.str x.name, V.str x.val, V.int x.line]
def aqO.v (x : aqO) : V := .agg x.cells
structure abc where
  kalg : Int
  kbits : Int
  kid : Int
  chain : List aaA
def abc.cells (x : abc) : List V := [V.int x.kalg, V.int x.kbits, V.int x.kid, .sl 15 (x.chain.map aaA.v)]
def abc.v (x : abc) : V := .agg x.cells
structure aqP where
  name : List UInt8
  least : Int
  most : Int
  suites : List Int
  own : Bool
  idents : List abc
  anchors : List Int
  hashes : List Int
  fall : Bool
def aqP.cells (e : aqP) : List V := [V.str e.name, V.int e.least, V.int e.most, .sl 1 (e.suites.map V.int), V.bool e.own, .sl 4 (e.idents.map abc.v), .sl 1 (e.anchors.map V.int), .sl 1 (e.hashes.map V.int), V.bool e.fall]
def aqP.v (e : aqP) : V := .agg e.cells
def abc.ok (x : abc) : Bool := aqW x.kalg x.kbits x.kid x.chain
def Jr := qd Proofs.Tryz.f56 []
def J0 (Γ : Env) (f : Nat) : Prop := ∀ (xs : List Int) (g : Nat) (cap : List V) (p : Int → Bool) (hp : ∀ x ∈ xs, EvN Γ g (V.int x :: cap) (V.bool (p x))) (hcap : Qc cap) (hl : xs.length < 2 ^ 62), EvN Γ f [.sl 1 (xs.map V.int), .clo g cap] (V.int (jM p 0 xs))
attribute [local go_sem] List.map_nil in
theorem Ue {Γ : Env} {f : Nat} (h : Has Γ.P f 19 Jr.1.1.ac Jr.1.2)  : J0 Γ f := by
  intro xs g cap p hp hcap hl
  refine Qb h zsi zcl zcl fun C hC hm => ?_
  subst hC
  simp only [Jr, qd, DC.ac]
  have s1 : ∀ o, Jv o cap = cap := fun o => QS o cap hcap
  have s2 : ∀ o B, Qj o B cap = True := fun o B => eq_true (Qy o B cap hcap)
  refine zgo ?_; repeat' first | exact zt | apply zan | intro hc
  refine Jz (ι := Nat) (fun k => k ≤ xs.length ∧ jM p k (xs.drop k) = jM p 0 xs) (fun k => [(8, V.int k)]) (fun k => xs.length - k) 0 (by omega) ⟨by simp, by simp⟩ zol (fun i hi => by simp only [ovT, Xs, Nat.reduceEqDiff, reduceIte]; (repeat' first | exact xM | refine ja ?_ ?_ | simp only [V.lt, ltL, and_self, and_true] | omega); exact JA _ _ hcap) (by simp only [Nat.reduceAdd, ovT, Xs, Nat.reduceEqDiff, reduceIte, KE, yq, amI, u32, u33, u34, u35, u36, u37, u38, u39, and_self, and_true, true_and]; first | rfl | exact QP _ _ hcap) fun k hk K' hL => ?_
  obtain ⟨hk, hinv⟩ := hk
  simp only [ovT, Xs, Nat.reduceEqDiff, reduceIte]
  rcases hd : xs.drop k with _ | ⟨y, r⟩
  · have := QB hd
    rw [hd] at hinv
    have e1 : decide ((k : Int) < (((xs.map V.int).length : Nat) : Int)) = false := by simp; omega
    (have zx := e1); refine zgo ?_; repeat' first | exact zt | apply zan | intro hc
    refine Qi _ rfl ?_
    simp only [go_sem, Nat.reduceEqDiff, Nat.reduceAdd, reduceIte, reduceCtorEq]
    rw [← hinv]; rfl
  · obtain ⟨hk, hget, hr⟩ := Qo hd
    rw [hd] at hinv
    have hw := Qg (k := k) (by omega)
    have e1 : decide ((k : Int) < (((xs.map V.int).length : Nat) : Int)) = true := by simp; omega
    have hpy := hp y (List.mem_of_getElem? hget)
    by_cases hy : p y = true
    · rw [hy] at hpy
      (have zy0 := hpy.b; have zx := And.intro hget (And.intro hw (And.intro e1 (And.intro s1 s2)))); refine zgo ?_; repeat' first | exact zt | apply zan | intro hc
      refine Qi _ rfl ?_; simp only [go_sem, Nat.reduceEqDiff, Nat.reduceAdd, reduceIte, reduceCtorEq]
      rw [← hinv]; simp [jM, hy]
    · have hy' : p y = false := by simpa using hy
      rw [hy'] at hpy
      (have zy0 := hpy.b; have zx := And.intro hget (And.intro hw (And.intro e1 (And.intro s1 s2)))); refine zgo ?_; repeat' first | exact zt | apply zan | intro hc
      refine hL _ (k + 1) zet ⟨by omega, ?_⟩ (by omega) zoe
      rw [hr, ← hinv, jM, if_neg hy]
def Jd := qd Proofs.Tryz.f29 []
def JE (Γ : Env) (f : Nat) : Prop := ∀ (xs : List Int) (g : Nat) (cap : List V) (p : Int → Bool) (hp : ∀ x ∈ xs, EvN Γ g (V.int x :: cap) (V.bool (p x))) (hcap : Qc cap) (hl : xs.length < 2 ^ 62), EvN Γ f [.sl 1 (xs.map V.int), .clo g cap] (V.bool (xs.any p))
theorem Vx {Γ : Env} {f : Nat} (h : Has Γ.P f 9 Jd.1.1.ac Jd.1.2) (z0 : J0 Γ 56) : JE Γ f := by
  intro xs g cap p hp hcap hl
  refine Qb h zsi zcl zcl fun C hC hm => ?_
  subst hC
  simp only [Jd, qd, DC.ac]
  have s1 : ∀ o, Jv o cap = cap := fun o => QS o cap hcap
  have s2 : ∀ o B, Qj o B cap = True := fun o B => eq_true (Qy o B cap hcap)
  have hi := (z0 xs g cap p hp hcap hl).b
  have e1 := afX p xs 0
  (have zx := And.intro s1 (And.intro s2 e1)); exact zg
def yx (d : Int) : Bool := decide (d < 0) || decide (d > 40000)
def Ye := qd Proofs.Tryz.f30 []
def YY (Γ : Env) (f : Nat) : Prop := ∀ (d : Int), EvN Γ f [V.int d] (V.bool (yx d))
theorem jf {Γ : Env} {f : Nat} (h : Has Γ.P f 9 Ye.1.1.ac Ye.1.2)  : YY Γ f := by
  intro d
  refine Qb h zsi zcl zcl fun C hC hm => ?_
  subst hC
  simp only [Ye, qd, DC.ac]
  rcases d1 : decide (d < 0) with _ | _
  · have e : yx d = decide (d > 40000) := by rw [yx, d1, Bool.false_or]
    rw [e]
    (have zx := d1); exact zg
  · have e : yx d = true := by rw [yx, d1, Bool.true_or]
    rw [e]
    (have zx := d1); exact zg
def Yd := qd Proofs.Tryz.f32 []
def YX (Γ : Env) (f : Nat) : Prop := ∀ (x : QF) (hn : x.ep.length < 2 ^ 60), EvN Γ f [x.v] (V.bool (!yY x))
theorem je {Γ : Env} {f : Nat} (h : Has Γ.P f 6 Yd.1.1.ac Yd.1.2) (z0 : Xq Γ 33) : YX Γ f := by
  intro x hn
  refine Qb h zsi zcl zcl fun C hC hm => ?_
  subst hC
  simp only [Yd, qd, DC.ac]
  have g := (z0 x hn).b
  rw [yi] at g
  rcases hk : yY x with _ | _
  · rw [hk, if_neg (by decide)] at g
    have h26 : ((26 : Int) != 0) = true := rfl
    simp only [QF.v, QF.cells] at *
    (have zx := h26); exact zg
  · rw [hk, if_pos rfl] at g
    have h26 : ((0 : Int) != 0) = false := rfl
    simp only [QF.v, QF.cells] at *
    (have zx := h26); exact zg
def abb (l : List Qa) (gap age alg : Int) (xs : List QF) (days : List Int) : Int := if Y2 l gap ≠ 0 then Y2 l gap else if (decide (age < 0) || (decide (age > 4000) || days.any yx)) = true then 2 else if (decide (alg < 1) || decide (alg > 22)) = true then 7 else if xs.any (fun x => !yY x) = true then 26 else 0
def YC := qd Proofs.Tryz.f22 []
def JM (Γ : Env) (f : Nat) : Prop := ∀ (l : List Qa) (gap day age alg : Int) (xs : List QF) (keys : List Int) (need : Int) (days : List Int) (hl : l.length < 2 ^ 40) (hz : ∀ x ∈ l, x.Sz) (hx : xs.length < 2 ^ 62) (hxz : ∀ x ∈ xs, x.Sz) (hdl : days.length < 2 ^ 62), EvN Γ f [.agg (srC gap day age alg xs keys need (.sl 11 (l.map Qa.v))), .sl 1 (days.map V.int)] (V.int (abb l gap age alg xs days))
theorem yj {Γ : Env} {f : Nat} (h : Has Γ.P f 51 YC.1.1.ac YC.1.2) (z0 : YG Γ 28) (z1 : JE Γ 29) (z2 : YY Γ 30) (z3 : Qq Γ 31) (z4 : YX Γ 32) : JM Γ f := by
  intro l gap day age alg xs keys need days hl hz hx hxz hdl
  refine Qb h zsi zcl zcl fun C hC hm => ?_
  subst hC
  simp only [YC, qd, DC.ac]
  have gE := (z0 l gap hl hz).b
  have gD := (z1 days 30 [] yx (fun d _ => z2 d) trivial hdl).b
  have gX := (z3 xs 32 [] (fun x => !yY x) (fun x hm => z4 x (hxz x hm).e) trivial hx).b
  rw [apK] at gE
  rw [abb]
  simp only [srC] at *
  by_cases he : Y2 l gap = 0
  rotate_left
  · rw [if_neg he] at gE
    rw [if_pos he]
    have hb : (Y2 l gap != 0) = true := by simpa using he
    generalize Y2 l gap = e at *
    (have zx := hb); exact zg
  rw [if_pos he] at gE
  rw [if_neg (by simpa using he)]
  rcases d1 : decide (age < 0) with _ | _
  rotate_left
  · rw [Bool.true_or, if_pos rfl]
    (have zx := d1); exact zg
  rcases d2 : decide (age > 4000) with _ | _
  rotate_left
  · rw [Bool.true_or, Bool.or_true, if_pos rfl]
    (have zx := And.intro d1 d2); exact zg
  rcases d3 : days.any yx with _ | _
  rotate_left
  · rw [d3] at gD
    rw [Bool.or_true, Bool.or_true, if_pos rfl]
    (have zx := And.intro d1 d2); exact zg
  rw [d3] at gD
  rw [if_neg (by decide)]
  rcases d4 : decide (alg < 1) with _ | _
  rotate_left
  · rw [Bool.true_or, if_pos rfl]
    (have zx := And.intro d1 (And.intro d2 d4)); exact zg
  rcases d5 : decide (alg > 22) with _ | _
  rotate_left
  · rw [Bool.or_true, if_pos rfl]
    (have zx := And.intro d1 (And.intro d2 (And.intro d4 d5))); exact zg
  rw [if_neg (by decide)]
  rcases d6 : xs.any (fun x => !yY x) with _ | _
  · rw [d6] at gX
    rw [if_neg (by decide)]
    (have zx := And.intro d1 (And.intro d2 (And.intro d4 d5))); exact zg
  · rw [d6] at gX
    rw [if_pos rfl]
    (have zx := And.intro d1 (And.intro d2 (And.intro d4 d5))); exact zg
structure Cm {α : Type} (c : α → α → Int) : Prop where
  neg : ∀ a b, c b a = - c a b
  tr : ∀ a b d, c a b ≤ 0 → c b d ≤ 0 → c a d ≤ 0
  ze : ∀ a b d, c a b ≤ 0 → c b d ≤ 0 → c a d = 0 → c a b = 0
def JV (Γ : Env) (f : Nat) : Prop := ∀ (xs : List Jb) (g : Nat) (c : Jb → Jb → Int) (hg : Own Γ.P g) (hcmp : ∀ x y, EvN Γ.T g [Jb.v x, Jb.v y] (V.int (c x y))) (hc : Cm c) (hd : ∀ a ∈ xs, ∀ b ∈ xs, c a b = 0 → a = b) (hx : xs.length < 2 ^ 40), EvL Γ f [.clo g []] 8 (xs.map Jb.v) (.tup []) (((U1 (fun x y => decide (c x y < 0)) xs).map Jb.v))
def YD := qd Proofs.Tryz.f42 []
def XA (Γ : Env) (f : Nat) : Prop := Own Γ.P f ∧ ∀ G : Env, G.P = Γ.P → ∀ a b : Int × Bool, EvN G f [evV a, evV b] (V.int (Xv a.1 b.1))
theorem ym {Γ : Env} {f : Nat} (h : Has Γ.P f 10 YD.1.1.ac YD.1.2) (z0 : JX Γ 43) : XA Γ f := by
  refine ⟨h.own, fun G hG a b => ?_⟩
  have p := z0 G hG a.1 b.1
  rw [← hG] at h
  refine Qb h (by simp) (by simp only [V.closed]) (by simp only [V.noSl]) fun C hC hm => ?_
  subst hC; simp only [YD, qd, DC.ac]
  have p := p.b
  simp only [evV]
  exact zg
def QV := qd Proofs.Tryz.f73 []
def Ji (Γ : Env) (f : Nat) : Prop := ∀ (xs : List (Int × Int)) (g : Nat) (cap : List V) (p : Int × Int → Bool) (hp : ∀ x ∈ xs, EvN Γ g (Yj x :: cap) (V.bool (p x))) (hcap : Qc cap) (hl : xs.length < 2 ^ 62), EvN Γ f [.sl 2 (xs.map Yj), .clo g cap] (V.int (jM p 0 xs))
attribute [local go_sem] Yj in
theorem Wb {Γ : Env} {f : Nat} (h : Has Γ.P f 19 QV.1.1.ac QV.1.2)  : Ji Γ f := by
  intro xs g cap p hp hcap hl
  refine Qb h zsi zcl zcl fun C hC hm => ?_
  subst hC
  simp only [QV, qd, DC.ac]
  have s1 : ∀ o, Jv o cap = cap := fun o => QS o cap hcap
  have s2 : ∀ o B, Qj o B cap = True := fun o B => eq_true (Qy o B cap hcap)
  refine zgo ?_; repeat' first | exact zt | apply zan | intro hc
  refine Jz (ι := Nat) (fun k => k ≤ xs.length ∧ jM p k (xs.drop k) = jM p 0 xs) (fun k => [(8, V.int k)]) (fun k => xs.length - k) 0 (by omega) ⟨by simp, by simp⟩ zol (fun i hi => by simp only [ovT, Xs, Nat.reduceEqDiff, reduceIte]; (repeat' first | exact xM | refine ja ?_ ?_ | simp only [V.lt, ltL, and_self, and_true] | omega); exact JA _ _ hcap) (by simp only [Nat.reduceAdd, ovT, Xs, Nat.reduceEqDiff, reduceIte, KE, yq, amI, u32, u33, u34, u35, u36, u37, u38, u39, and_self, and_true, true_and]; first | rfl | exact QP _ _ hcap) fun k hk K' hL => ?_
  obtain ⟨hk, hinv⟩ := hk
  simp only [ovT, Xs, Nat.reduceEqDiff, reduceIte]
  rcases hd : xs.drop k with _ | ⟨y, r⟩
  · have := QB hd
    rw [hd] at hinv
    have e1 : decide ((k : Int) < (((xs.map Yj).length : Nat) : Int)) = false := by simp; omega
    (have zx := e1); refine zgo ?_; repeat' first | exact zt | apply zan | intro hc
    refine Qi _ rfl ?_
    simp only [go_sem, Nat.reduceEqDiff, Nat.reduceAdd, reduceIte, reduceCtorEq]
    rw [← hinv]; rfl
  · obtain ⟨hk, hget, hr⟩ := Qo hd
    rw [hd] at hinv
    have hw := Qg (k := k) (by omega)
    have e1 : decide ((k : Int) < (((xs.map Yj).length : Nat) : Int)) = true := by simp; omega
    have hpy := hp y (List.mem_of_getElem? hget)
    simp only [Yj] at hpy
    obtain ⟨ya, yb⟩ := y
    by_cases hy : p (ya, yb) = true
    · rw [hy] at hpy
      (have zy0 := hpy.b; have zx := And.intro hget (And.intro hw (And.intro e1 (And.intro s1 s2)))); refine zgo ?_; repeat' first | exact zt | apply zan | intro hc
      refine Qi _ rfl ?_; simp only [go_sem, Nat.reduceEqDiff, Nat.reduceAdd, reduceIte, reduceCtorEq]
      rw [← hinv]; simp [jM, hy]
    · have hy' : p (ya, yb) = false := by simpa using hy
      rw [hy'] at hpy
      (have zy0 := hpy.b; have zx := And.intro hget (And.intro hw (And.intro e1 (And.intro s1 s2)))); refine zgo ?_; repeat' first | exact zt | apply zan | intro hc
      refine hL _ (k + 1) zet ⟨by omega, ?_⟩ (by omega) zoe
      rw [hr, ← hinv, jM, if_neg hy]
def QL := qd Proofs.Tryz.f40 []
def Q7 (Γ : Env) (f : Nat) : Prop := ∀ (xs : List (Int × Int)) (g : Nat) (cap : List V) (p : Int × Int → Bool) (hp : ∀ x ∈ xs, EvN Γ g (Yj x :: cap) (V.bool (p x))) (hcap : Qc cap) (hl : xs.length < 2 ^ 62), EvN Γ f [.sl 2 (xs.map Yj), .clo g cap] (V.bool (xs.any p))
theorem Xt {Γ : Env} {f : Nat} (h : Has Γ.P f 9 QL.1.1.ac QL.1.2) (z0 : Ji Γ 73) : Q7 Γ f := by
  intro xs g cap p hp hcap hl
  refine Qb h zsi zcl zcl fun C hC hm => ?_
  subst hC
  simp only [QL, qd, DC.ac]
  have s1 : ∀ o, Jv o cap = cap := fun o => QS o cap hcap
  have s2 : ∀ o B, Qj o B cap = True := fun o B => eq_true (Qy o B cap hcap)
  have hi := (z0 xs g cap p hp hcap hl).b
  have e1 := yW p xs 0
  (have zx := And.intro s1 (And.intro s2 e1)); exact zg
def Jl (Γ : Env) (f : Nat) : Prop := ∀ (xs : List (Int × Bool)) (g : Nat) (c : Int × Bool → Int × Bool → Int) (hg : Own Γ.P g) (hcmp : ∀ x y, EvN Γ.T g [evV x, evV y] (V.int (c x y))) (hc : Cm c) (hd : ∀ a ∈ xs, ∀ b ∈ xs, c a b = 0 → a = b) (hx : xs.length < 2 ^ 40), EvL Γ f [.clo g []] 2 (xs.map evV) (.tup []) (((U1 (fun x y => decide (c x y < 0)) xs).map evV))
def WW (Γ : Env) (f : Nat) : Prop := ∀ (xs : List Int) (hx : xs.length < 2 ^ 40), EvL Γ f [] 1 (xs.map V.int) (.tup []) (((U1 (fun x y : Int => decide (x < y)) xs).map V.int))
section
variable {α : Type}
def acv (eq : α → α → Bool) : α → List α → List α
  | _, [] => []
  | p, x :: r => if eq x p = true then acv eq x r else x :: acv eq x r
def acw (eq : α → α → Bool) : List α → List α
  | [] => []
  | x :: r => x :: acv eq x r
end
def JG := qd Proofs.Tryz.f95 [zhn 10, zhn 10]
def Yb (Γ : Env) (f : Nat) : Prop := ∀ (xs : List Int) (hx : xs.length < 2 ^ 34), EvZ Γ f [] 1 (xs.map V.int) ((acw (fun x y : Int ↦ x == y) xs).length) ((acw (fun x y : Int ↦ x == y) xs).map V.int ++ List.replicate (xs.length - (acw (fun x y : Int ↦ x == y) xs).length) (V.int 0))
theorem U2 {Γ : Env} {f : Nat} (h : Has Γ.P f 61 JG.1.1.ac JG.1.2)  : Yb Γ f := by
  intro xs hx
  refine ahP h (by simp) fun C hC hm => ?_
  subst hC
  simp only [JG, qd, DC.ac]
  have hlen : (xs.map V.int).length = xs.length := List.length_map _
  generalize heq : (fun x y : Int => x == y) = eq
  have heq2 : ∀ x y : Int, (x == y) = eq x y := fun x y => by rw [← heq]
  by_cases h2 : xs.length < 2
  · have e1 : decide (((xs.map V.int).length : Int) < 2) = true := decide_eq_true (by rw [hlen]; omega)
    have hg : acw eq xs = xs := by
      match xs, h2 with
      | [], _ => rfl
      | [x], _ => rfl
    rw [hg, Nat.sub_self]
    repeat' (first | (refine zsk ?_; intro K' hK) | (refine zrg ?_; intro K' hK) | refine zsp ?_ | (refine zsc ?_ ?_ <;> intro hc <;> first | exact znh | try simp only [znz] at hc) | simp (maxSteps := 1000000) only [go_sem, Nat.reduceAdd, Nat.reduceMul, Nat.reduceEqDiff, Nat.reduceLeDiff, Nat.reduceLT, Nat.reduceSub, Int.reduceEq, Int.reduceBEq, Int.reduceLT, Int.reduceLE, Int.reduceAdd, Int.reduceToNat, reduceIte, reduceCtorEq, e1] | (refine hK _ ?_; clear hK K') | apply zan | exact zsq | fail)
    all_goals first | (refine alN _ rfl rfl rfl ?_ ?_ <;> first | rfl | (simp; done)) | trace_state
  · have e1 : decide (((xs.map V.int).length : Int) < 2) = false := decide_eq_false (by rw [hlen]; omega)
    repeat' (first | (refine zsk ?_; intro K' hK) | (refine zrg ?_; intro K' hK) | refine zsp ?_ | (refine zsc ?_ ?_ <;> intro hc <;> first | exact znh | try simp only [znz] at hc) | simp (maxSteps := 1000000) only [go_sem, Nat.reduceAdd, Nat.reduceMul, Nat.reduceEqDiff, Nat.reduceLeDiff, Nat.reduceLT, Nat.reduceSub, Int.reduceEq, Int.reduceBEq, Int.reduceLT, Int.reduceLE, Int.reduceAdd, Int.reduceToNat, reduceIte, reduceCtorEq, e1] | (refine hK _ ?_; clear hK K') | apply zan | exact zsq | fail)
    refine Jz (ι := Nat) (fun k => 1 ≤ k ∧ k ≤ xs.length ∧ ∃ p, xs[k - 1]? = some p ∧ acw eq xs = xs.take k ++ acv eq p (xs.drop k)) (fun k => [(3, V.int k)]) (fun k => xs.length - k) 1 (by omega) ⟨by omega, by omega, ?_⟩ zol zlt zet fun k hk K' hL => ?_
    · match xs, h2 with
      | x :: r, _ => exact ⟨x, rfl, rfl⟩
      | [], h2 => exact absurd (by simp) h2
    obtain ⟨hk1, hk2, p, hp, hinv⟩ := hk
    simp only [ovT, Xs, Nat.reduceEqDiff, reduceIte]
    by_cases hke : k = xs.length
    · have e2 : decide ((k : Int) < ((xs.map V.int).length : Int)) = false := decide_eq_false (by rw [hlen]; omega)
      have hg : acw eq xs = xs := by rw [hinv, hke, List.take_length, List.drop_length]; simp [acv]
      rw [hg, Nat.sub_self]
      repeat' (first | (refine zsk ?_; intro K' hK) | (refine zrg ?_; intro K' hK) | refine zsp ?_ | (refine zsc ?_ ?_ <;> intro hc <;> first | exact znh | try simp only [znz] at hc) | simp (maxSteps := 1000000) only [go_sem, Nat.reduceAdd, Nat.reduceMul, Nat.reduceEqDiff, Nat.reduceLeDiff, Nat.reduceLT, Nat.reduceSub, Int.reduceEq, Int.reduceBEq, Int.reduceLT, Int.reduceLE, Int.reduceAdd, Int.reduceToNat, reduceIte, reduceCtorEq, e2] | (refine hK _ ?_; clear hK K') | apply zan | exact zsq | fail)
      all_goals first | (refine alN _ rfl rfl rfl ?_ ?_ <;> first | rfl | (simp; done)) | trace_state
    · have e2 : decide ((k : Int) < ((xs.map V.int).length : Int)) = true := decide_eq_true (by rw [hlen]; omega)
      obtain ⟨y, hy⟩ : ∃ y, xs[k]? = some y := ⟨_, List.getElem?_eq_getElem (by omega)⟩
      have hdy : xs.drop k = y :: xs.drop (k + 1) := by
        obtain ⟨h1, h2⟩ := List.getElem?_eq_some_iff.1 hy
        rw [List.drop_eq_getElem_cons h1, h2]
      rw [hdy, acv] at hinv
      have hw := Qg (k := k) (by omega)
      have hwm : IntKind.i64.wrap ((k : Int) - 1) = ((k - 1 : Nat) : Int) := by rw [QE (by omega) (by omega)]; omega
      have vy : (xs.map V.int)[k]? = some (V.int y) := by rw [List.getElem?_map, hy]; rfl
      have vp : (xs.map V.int)[k - 1]? = some (V.int p) := by rw [List.getElem?_map, hp]; rfl
      skip
      have hq := heq2 y p
      have r1 : ((k : Int) < ((xs.map V.int).length : Int)) = True := eq_true (by rw [hlen]; omega)
      have r2 : ((k - 1 : Nat) : Int) < ((xs.map V.int).length : Int) := by rw [hlen]; omega
      rcases hb : eq y p with _ | _
      · rw [hb] at hq
        simp only [hb, Bool.false_eq_true, if_false] at hinv
        repeat' (first | (refine zsk ?_; intro K' hK) | (refine zrg ?_; intro K' hK) | refine zsp ?_ | (refine zsc ?_ ?_ <;> intro hc <;> first | exact znh | try simp only [znz] at hc) | simp (maxSteps := 1000000) only [go_sem, Nat.reduceAdd, Nat.reduceMul, Nat.reduceEqDiff, Nat.reduceLeDiff, Nat.reduceLT, Nat.reduceSub, Int.reduceEq, Int.reduceBEq, Int.reduceLT, Int.reduceLE, Int.reduceAdd, Int.reduceToNat, reduceIte, reduceCtorEq, e2, hw, hwm, Int.toNat_natCast, vy, vp, hq] | (refine hK _ ?_; clear hK K') | apply zan | exact zsq | fail)
        all_goals first
          | exact hL _ (k + 1) zet ⟨by omega, by omega, y, by rw [Nat.add_sub_cancel]; exact hy, by rw [hinv, List.take_add_one, hy]; simp⟩ (by omega) zoe
          | exact r2
          | trace_state
      · rw [hb] at hq
        simp only [hb, if_true] at hinv
        repeat' (first | (refine zsk ?_; intro K' hK) | (refine zrg ?_; intro K' hK) | refine zsp ?_ | (refine zsc ?_ ?_ <;> intro hc <;> first | exact znh | try simp only [znz] at hc) | simp (maxSteps := 1000000) only [go_sem, Nat.reduceAdd, Nat.reduceMul, Nat.reduceEqDiff, Nat.reduceLeDiff, Nat.reduceLT, Nat.reduceSub, Int.reduceEq, Int.reduceBEq, Int.reduceLT, Int.reduceLE, Int.reduceAdd, Int.reduceToNat, reduceIte, reduceCtorEq, e2, hw, hwm, Int.toNat_natCast, vy, vp, hq] | (refine hK _ ?_; clear hK K') | apply zan | exact zsq | fail)
        all_goals first
          | exact r2
          | skip
        refine Qp (ι := List Int × Nat × Nat) (fun q => q.1.length = xs.length ∧ 1 ≤ q.2.2 ∧ k + q.2.2 ≤ xs.length ∧ k ≤ q.2.1 ∧ q.2.1 ≤ k + q.2.2 - 1 ∧ q.1.drop (k + q.2.2 - 1) = xs.drop (k + q.2.2 - 1) ∧ ∃ z, xs[k + q.2.2 - 1]? = some z ∧ acw eq xs = q.1.take q.2.1 ++ acv eq z (xs.drop (k + q.2.2)))
          (fun q => JY [(0, .hd 0 0 (xs.map V.int).length), (3, V.int q.2.1), (4, .hd 0 k (xs.length - k)), (5, V.int q.2.2)] [(0, .buf true 1 (q.1.map V.int))] 1) (fun q => xs.length - q.2.2) (xs, k, 1)
          ⟨rfl, by simp only; omega, by simp only; omega, by simp only; omega, by simp only; omega, rfl, y, by simp only [Nat.add_sub_cancel]; exact hy, by rw [hinv]⟩ (Qd []) (Qh [] (by simp only [go_sem, zwl, Nat.reduceAdd, Nat.reduceMul, Nat.reduceEqDiff, Nat.reduceLT, Int.reduceToNat, reduceIte, reduceCtorEq]; first | done | (simp only [List.length_map]; (repeat' (first | rfl | refine And.intro ?_ ?_ | omega | exact fun h => h | exact Exists.intro _ rfl))) | (repeat' (first | rfl | refine And.intro ?_ ?_ | omega | exact fun h => h | exact Exists.intro _ rfl))) zwa (by simp) (by simp) (by omega)) fun q hq K2 hL2 => ?_
        obtain ⟨B, w, j⟩ := q
        obtain ⟨hB, hj1, hj2, hw1, hw2, hdr, z, hz, hinv2⟩ := hq
        dsimp only at hB hj1 hj2 hw1 hw2 hdr hz hinv2
        have hBl : (B.map V.int).length = xs.length := by rw [List.length_map, hB]
        have hwj := Qg (k := j) (by omega)
        have hww := Qg (k := w) (by omega)
        by_cases hje : k + j = xs.length
        · have e3 : decide ((j : Int) < ((xs.length - k : Nat) : Int)) = false := decide_eq_false (by omega)
          have hg : acw eq xs = B.take w := by rw [hinv2, hje, List.drop_length]; simp [acv]
          have hgl : (acw eq xs).length = w := by rw [hg, List.length_take, hB]; omega
          have r3 : ((w : Int) ≤ ((xs.map V.int).length : Int)) = True := eq_true (by rw [hlen]; omega)
          rw [hgl, hg]
          repeat' (first | (refine zsk ?_; intro K' hK) | (refine zrg ?_; intro K' hK) | refine zsp ?_ | (refine zsc ?_ ?_ <;> intro hc <;> first | exact znh | try simp only [znz] at hc) | simp (maxSteps := 1000000) only [go_sem, Nat.reduceAdd, Nat.reduceMul, Nat.reduceEqDiff, Nat.reduceLeDiff, Nat.reduceLT, Nat.reduceSub, Int.reduceEq, Int.reduceBEq, Int.reduceLT, Int.reduceLE, Int.reduceAdd, Int.reduceToNat, reduceIte, reduceCtorEq, JY, e3, Int.toNat_natCast] | (refine hK _ ?_; clear hK K') | apply zan | exact zsq | fail)
          all_goals first
            | (rw [hlen]; omega)
            | (refine alN _ rfl rfl rfl ?_ ?_ <;> first | rfl | (rw [List.drop_eq_nil_of_le (by rw [hBl, hlen]; omega), List.append_nil, List.map_take, hlen]; first | done | rfl) | (simp; done))
            | trace_state
        · have e3 : decide ((j : Int) < ((xs.length - k : Nat) : Int)) = true := decide_eq_true (by omega)
          obtain ⟨u, hu⟩ : ∃ u, xs[k + j]? = some u := ⟨_, List.getElem?_eq_getElem (by omega)⟩
          have hdu : xs.drop (k + j) = u :: xs.drop (k + j + 1) := by
            obtain ⟨h1, h2⟩ := List.getElem?_eq_some_iff.1 hu
            rw [List.drop_eq_getElem_cons h1, h2]
          rw [hdu, acv] at hinv2
          have bz : B[k + (j - 1)]? = some z := by
            have : (B.drop (k + j - 1))[0]? = (xs.drop (k + j - 1))[0]? := by rw [hdr]
            rw [List.getElem?_drop, List.getElem?_drop, Nat.add_zero, hz] at this
            rw [← this]; congr 1; omega
          have bu : B[k + j]? = some u := by
            have : (B.drop (k + j - 1))[1]? = (xs.drop (k + j - 1))[1]? := by rw [hdr]
            rw [List.getElem?_drop, List.getElem?_drop, show k + j - 1 + 1 = k + j by omega, hu] at this
            exact this
          have vz : (B.map V.int)[k + (j - 1)]? = some (V.int z) := by rw [List.getElem?_map, bz]; rfl
          have vu : (B.map V.int)[k + j]? = some (V.int u) := by rw [List.getElem?_map, bu]; rfl
          have bw : ∃ t, B[w]? = some t := ⟨_, List.getElem?_eq_getElem (by omega)⟩
          obtain ⟨t, bw⟩ := bw
          have vt : (B.map V.int)[w]? = some (V.int t) := by rw [List.getElem?_map, bw]; rfl
          have hset : (B.map V.int).set w (V.int u) = (B.set w u).map V.int := List.map_set.symm
          have hwm2 : IntKind.i64.wrap ((j : Int) - 1) = ((j - 1 : Nat) : Int) := by rw [QE (by omega) (by omega)]; omega
          skip
          have hq := heq2 u z
          have r4 : (((w : Int)) < ((xs.map V.int).length : Int)) = True := eq_true (by rw [hlen]; omega)
          have r5 : ((j : Int) < ((xs.length - k : Nat) : Int)) = True := eq_true (by omega)
          have r6 : ((((j - 1 : Nat) : Int)) < ((xs.length - k : Nat) : Int)) = True := eq_true (by omega)
          rcases hb2 : eq u z with _ | _
          · rw [hb2] at hq
            simp only [hb2, Bool.false_eq_true, if_false] at hinv2
            repeat' (first | (refine zsk ?_; intro K' hK) | (refine zrg ?_; intro K' hK) | refine zsp ?_ | (refine zsc ?_ ?_ <;> intro hc <;> first | exact znh | try simp only [znz] at hc) | simp (maxSteps := 1000000) only [go_sem, Nat.reduceAdd, Nat.reduceMul, Nat.reduceEqDiff, Nat.reduceLeDiff, Nat.reduceLT, Nat.reduceSub, Int.reduceEq, Int.reduceBEq, Int.reduceLT, Int.reduceLE, Int.reduceAdd, Int.reduceToNat, reduceIte, reduceCtorEq, JY, e3, hwj, hww, hwm2, Int.toNat_natCast, vz, vu, vt, hset, hq, r4, r5, r6, bne] | (refine hK _ ?_; clear hK K') | apply zan | exact zsq | fail)
            all_goals first
              | exact hL2 _ (B.set w u, w + 1, j + 1) (Qd []) ⟨by simp only [List.length_set]; exact hB, by simp only; omega, by simp only; omega, by simp only; omega, by simp only; omega, by
                  simp only
                  rw [List.drop_set_of_lt (by omega), show k + (j + 1) - 1 = (k + j - 1) + 1 by omega, ← List.drop_drop, hdr, List.drop_drop], u, by simp only; rw [show k + (j + 1) - 1 = k + j by omega]; exact hu, by
                  simp only
                  rw [hinv2, show k + (j + 1) = k + j + 1 by omega, List.take_add_one, List.getElem?_set_self (by omega), List.take_set_of_le (Nat.le_refl _)]; simp⟩ (by simp only; omega) (zwg [])
              | (rw [hlen]; omega)
              | trace_state
          · rw [hb2] at hq
            simp only [hb2, if_true] at hinv2
            repeat' (first | (refine zsk ?_; intro K' hK) | (refine zrg ?_; intro K' hK) | refine zsp ?_ | (refine zsc ?_ ?_ <;> intro hc <;> first | exact znh | try simp only [znz] at hc) | simp (maxSteps := 1000000) only [go_sem, Nat.reduceAdd, Nat.reduceMul, Nat.reduceEqDiff, Nat.reduceLeDiff, Nat.reduceLT, Nat.reduceSub, Int.reduceEq, Int.reduceBEq, Int.reduceLT, Int.reduceLE, Int.reduceAdd, Int.reduceToNat, reduceIte, reduceCtorEq, JY, e3, hwj, hww, hwm2, Int.toNat_natCast, vz, vu, vt, hset, hq, r4, r5, r6, bne] | (refine hK _ ?_; clear hK K') | apply zan | exact zsq | fail)
            all_goals first
              | exact hL2 _ (B, w, j + 1) (Qd []) ⟨hB, by simp only; omega, by simp only; omega, by simp only; omega, by simp only; omega, by
                  simp only
                  rw [show k + (j + 1) - 1 = (k + j - 1) + 1 by omega, ← List.drop_drop, hdr, List.drop_drop], u, by simp only; rw [show k + (j + 1) - 1 = k + j by omega]; exact hu, by simp only; rw [hinv2, show k + (j + 1) = k + j + 1 by omega]⟩ (by simp only; omega) (zwg [])
              | trace_state
theorem aon {fs : List Nat} (h : fs.Pairwise (· < ·)) : U1 (fun x y : Int => decide (x < y)) (fs.map fun n : Nat => (n : Int)) = fs.map fun n : Nat => (n : Int) := by
  have h1 := wO (lt := fun x y : Int => decide (x < y)) (fun x y z h h' => by simp at *; omega) (fun x y h => by simp at *; omega) (fs.map fun n : Nat => (n : Int))
  refine List.Perm.eq_of_pairwise (le := fun x y : Int => x ≤ y) (fun a b _ _ h1 h2 => by omega) (h1.imp fun {a b} h => ?_) ?_ XE
  · simp at h; omega
  · rw [List.pairwise_map]; exact h.imp fun {a b} h => by omega
theorem aih : ∀ (r : List Nat) (p : Nat), (p :: r).Pairwise (· < ·) → acv (fun x y : Int => x == y) (p : Int) (r.map fun n : Nat => (n : Int)) = r.map fun n : Nat => (n : Int)
  | [], _, _ => rfl
  | x :: r, p, h => by
    have h1 : p < x := (List.pairwise_cons.1 h).1 x List.mem_cons_self
    have h2 := (List.pairwise_cons.1 h).2
    have e : ((x : Int) == (p : Int)) = false := by rw [beq_eq_false_iff_ne]; omega
    rw [List.map_cons, acv]
    simp only [e, Bool.false_eq_true, if_false]
    rw [aih r x h2]
theorem anD {fs : List Nat} (h : fs.Pairwise (· < ·)) : acw (fun x y : Int => x == y) (fs.map fun n : Nat => (n : Int)) = fs.map fun n : Nat => (n : Int) := by
  rcases fs with _ | ⟨p, r⟩
  · rfl
  · rw [List.map_cons, acw, aih r p h]
theorem akK (fs : List Nat) : (fs.map fun n : Nat => (n : Int)).map V.int = QX fs := by
  rw [List.map_map]; rfl
def Vb := qd Proofs.Tryz.f62 [zhn 23]
def Un (Γ : Env) (f : Nat) : Prop := ∀ (l : List Qa) (e : Q6) (ha : e.finds.Pairwise (· < ·)) (hb : ∀ i ∈ e.finds, i < l.length) (hn : e.finds.length < 2 ^ 30), EvC Γ f [.sl 11 (l.map Qa.v), e.v] (.tup [.sl 1 (QX e.finds), V.bool true])
attribute [local go_sem] List.length_map in
theorem abB {Γ : Env} {f : Nat} (h : Has Γ.P f 35 Vb.1.1.ac Vb.1.2) (z0 : Yt Γ 93) (z1 : WW Γ 94) (z2 : Yb Γ 95) : Un Γ f := by
  intro l e ha hb hn
  refine Qm h zsi (by simp only [V.closed, Qc, and_self]) fun C hC hm => ?_
  subst hC
  simp only [Vb, qd, DC.ac]
  obtain ⟨num, hosts, machs, fs⟩ := e
  dsimp only at ha hb hn
  simp only [Q6.v]
  have gC := z0 (fs.map fun n : Nat => (n : Int)) (by rw [List.length_map]; omega)
  have gS := z1 (fs.map fun n : Nat => (n : Int)) (by rw [List.length_map]; omega)
  have gZ := z2 (fs.map fun n : Nat => (n : Int)) (by rw [List.length_map]; omega)
  rw [aon ha] at gS
  rw [anD ha] at gZ
  simp only [akK, List.length_map, Nat.sub_self, List.replicate_zero, List.append_nil] at gC gS gZ
  have hl : (QX fs).length = fs.length := List.length_map _
  have htk : List.take fs.length (QX fs) = QX fs := List.take_of_length_le (by omega)
  by_cases hf : fs = []
  · subst hf
    have hp0 : QX [] = [] := rfl
    simp only [hp0, List.length_nil, List.take_nil] at *
    (have zx := htk); exact zg
  · have hpos : 0 < fs.length := List.length_pos_iff.2 hf
    obtain ⟨p, hp0⟩ : ∃ p, fs[0]? = some p := ⟨_, List.getElem?_eq_getElem hpos⟩
    obtain ⟨z, hz0⟩ : ∃ p, fs[fs.length - 1]? = some p := ⟨_, List.getElem?_eq_getElem (by omega)⟩
    have hlt := hb _ (List.mem_of_getElem? hz0)
    have vl : (QX fs)[fs.length - 1]? = some (V.int (z : Nat)) := by rw [QX, List.getElem?_map, hz0]; rfl
    have v0 : (QX fs)[0]? = some (V.int (p : Nat)) := by rw [QX, List.getElem?_map, hp0]; rfl
    have e0 : ((fs.length : Int) == 0) = false := by rw [beq_eq_false_iff_ne]; omega
    have e1 : decide ((p : Int) ≥ 0) = true := decide_eq_true (by omega)
    have e2 : decide ((z : Int) < (l.length : Int)) = true := decide_eq_true (by omega)
    have hw : IntKind.i64.wrap ((fs.length : Int) - 1) = ((fs.length - 1 : Nat) : Int) := by rw [QE (by omega) (by omega)]; omega
    (have zx := And.intro htk (And.intro hl (And.intro v0 (And.intro vl (And.intro e0 (And.intro e1 (And.intro e2 hw))))))); refine zgo ?_; repeat' first | exact zt | apply zan | intro hc
    all_goals first | (refine Qi _ rfl ?_; simp only [go_sem, Nat.reduceEqDiff, Nat.reduceAdd, reduceIte, reduceCtorEq]; rw [htk]; done) | (refine Qi _ rfl ?_; simp only [go_sem, Nat.reduceEqDiff, Nat.reduceAdd, reduceIte, reduceCtorEq]; rw [htk]; first | done | exact ⟨_, _, rfl⟩) | trace_state
end Av
end

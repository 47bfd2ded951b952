/- K23 -/
import Derived.Test.YtlnkijmacdgahaaGreatK22
import Derived.Test.YtlnkijmacdgahaaGreatK12
import Derived.Test.YtlnkijmacdgahaaGreatK14
import Derived.Test.YtlnkijmacdgahaaGreatK18
set_option linter.unusedVariables false
set_option linter.unusedSimpArgs false
noncomputable section
set_option maxRecDepth 10000
set_option maxHeartbeats 4000000
namespace Av
open Go
attribute [local irreducible] AWp VA K4 jR awS awC aa9 awQ abD QZ V9 aay awR Ug awB okR jL ris
def evV (e : Int × Bool) : V := .agg [V.int e.1, V.bool e.2]
def Qw := qd Proofs.Tryz.f61 []
def QR (Γ : Env) (f : Nat) : Prop := ∀ (xs : List (Int × Bool)) (g : Nat) (cap : List V) (p : Int × Bool → Bool) (hp : ∀ x ∈ xs, EvN Γ g (evV x :: cap) (V.bool (p x))) (hcap : Qc cap) (hl : xs.length < 2 ^ 62), EvN Γ f [.sl 2 (xs.map evV), .clo g cap] (V.int (jM p 0 xs))
attribute [local go_sem] evV in
theorem Ys {Γ : Env} {f : Nat} (h : Has Γ.P f 19 Qw.1.1.ac Qw.1.2)  : QR Γ f := by
  intro xs g cap p hp hcap hl
  refine Qb h zsi zcl zcl fun C hC hm => ?_
  subst hC
  simp only [Qw, qd, DC.ac]
  have s1 : ∀ o, Jv o cap = cap := fun o => QS o cap hcap
  have s2 : ∀ o B, Qj o B cap = True := fun o B => eq_true (Qy o B cap hcap)
  refine zgo ?_; repeat' first | exact zt | apply zan | intro hc
  refine Jz (ι := Nat) (fun k => k ≤ xs.length ∧ jM p k (xs.drop k) = jM p 0 xs) (fun k => [(8, V.int k)]) (fun k => xs.length - k) 0 (by omega) ⟨by simp, by simp⟩ zol (fun i hi => by simp only [ovT, Xs, Nat.reduceEqDiff, reduceIte]; (repeat' first | exact xM | refine ja ?_ ?_ | simp only [V.lt, ltL, and_self, and_true] | omega); exact JA _ _ hcap) (by simp only [Nat.reduceAdd, ovT, Xs, Nat.reduceEqDiff, reduceIte, KE, yq, amI, u32, u33, u34, u35, u36, u37, u38, u39, and_self, and_true, true_and]; first | rfl | exact QP _ _ hcap) fun k hk K' hL => ?_
  obtain ⟨hk, hinv⟩ := hk
  simp only [ovT, Xs, Nat.reduceEqDiff, reduceIte]
  rcases hd : xs.drop k with _ | ⟨y, r⟩
  · have := QB hd
    rw [hd] at hinv
    have e1 : decide ((k : Int) < (((xs.map evV).length : Nat) : Int)) = false := by simp; omega
    (have zx := e1); refine zgo ?_; repeat' first | exact zt | apply zan | intro hc
    refine Qi _ rfl ?_
    simp only [go_sem, Nat.reduceEqDiff, Nat.reduceAdd, reduceIte, reduceCtorEq]
    rw [← hinv]; rfl
  · obtain ⟨hk, hget, hr⟩ := Qo hd
    rw [hd] at hinv
    have hw := Qg (k := k) (by omega)
    have e1 : decide ((k : Int) < (((xs.map evV).length : Nat) : Int)) = true := by simp; omega
    have hpy := hp y (List.mem_of_getElem? hget)
    simp only [evV] at hpy
    obtain ⟨ya, yb⟩ := y
    by_cases hy : p (ya, yb) = true
    · rw [hy] at hpy
      (have zy0 := hpy.b; have zx := And.intro hget (And.intro hw (And.intro e1 (And.intro s1 s2)))); refine zgo ?_; repeat' first | exact zt | apply zan | intro hc
      refine Qi _ rfl ?_; simp only [go_sem, Nat.reduceEqDiff, Nat.reduceAdd, reduceIte, reduceCtorEq]
      rw [← hinv]; simp [jM, hy]
    · have hy' : p (ya, yb) = false := by simpa using hy
      rw [hy'] at hpy
      (have zy0 := hpy.b; have zx := And.intro hget (And.intro hw (And.intro e1 (And.intro s1 s2)))); refine zgo ?_; repeat' first | exact zt | apply zan | intro hc
      refine hL _ (k + 1) zet ⟨by omega, ?_⟩ (by omega) zoe
      rw [hr, ← hinv, jM, if_neg hy]
def Qs := qd Proofs.Tryz.f34 []
def QG (Γ : Env) (f : Nat) : Prop := ∀ (xs : List (Int × Bool)) (g : Nat) (cap : List V) (p : Int × Bool → Bool) (hp : ∀ x ∈ xs, EvN Γ g (evV x :: cap) (V.bool (p x))) (hcap : Qc cap) (hl : xs.length < 2 ^ 62), EvN Γ f [.sl 2 (xs.map evV), .clo g cap] (V.bool (xs.any p))
theorem Yf {Γ : Env} {f : Nat} (h : Has Γ.P f 9 Qs.1.1.ac Qs.1.2) (z0 : QR Γ 61) : QG Γ f := by
  intro xs g cap p hp hcap hl
  refine Qb h zsi zcl zcl fun C hC hm => ?_
  subst hC
  simp only [Qs, qd, DC.ac]
  have s1 : ∀ o, Jv o cap = cap := fun o => QS o cap hcap
  have s2 : ∀ o B, Qj o B cap = True := fun o B => eq_true (Qy o B cap hcap)
  have hi := (z0 xs g cap p hp hcap hl).b
  have e1 := yW p xs 0
  (have zx := And.intro s1 (And.intro s2 e1)); exact zg
def Yo := qd Proofs.Tryz.f35 []
def Xb (Γ : Env) (f : Nat) : Prop := ∀ (e : Int × Bool), EvN Γ f [evV e] (V.bool (!e.2))
theorem jU {Γ : Env} {f : Nat} (h : Has Γ.P f 6 Yo.1.1.ac Yo.1.2)  : Xb Γ f := by
  intro e
  refine Qb h zsi zcl zcl fun C hC hm => ?_
  subst hC
  simp only [Yo, qd, DC.ac]
  simp only [evV]
  exact zg
def YE := qd Proofs.Tryz.f38 []
def XB (Γ : Env) (f : Nat) : Prop := ∀ (u : Int × Int) (any : Bool) (gap day age alg : Int) (xs : List QF) (keys : List Int) (need : Int) (lv : V) (hlv : lv.closed) (hosts : List (List UInt8)) (en em ef : V) (hz : ∀ x ∈ xs, x.Sz) (hx : xs.length < 2 ^ 62) (hk : keys.length < 2 ^ 62) (hh : hosts.length < 2 ^ 62), EvN Γ f [Yj u, .ro (srC gap day age alg xs keys need lv) 0, .ro [V.bool any] 0, .ro [en, .sl 1 (hosts.map V.str), em, ef] 0] (V.bool (!xs.any (xJ any u hosts day keys need)))
theorem yo {Γ : Env} {f : Nat} (h : Has Γ.P f 13 YE.1.1.ac YE.1.2) (z0 : Yw Γ 39) : XB Γ f := by
  intro u any gap day age alg xs keys need lv hlv hosts en em ef hz hx hk hh
  refine Qb h zsi zcl zcl fun C hC hm => ?_
  subst hC
  simp only [YE, qd, DC.ac]
  have g := (z0 u any gap day age alg xs keys need lv hlv hosts hz hx hk hh).b
  have s1 : ∀ o, V.shut o lv = lv := fun o => by
    have := QS o [lv] ⟨hlv, trivial⟩
    simpa [Jv] using this
  have s2 : ∀ o B, V.shutOk o B lv = True := fun o B => by
    have := Qy o B [lv] ⟨hlv, trivial⟩
    simpa [Qj] using this
  simp only [srC, Yj, V.int] at *
  (have zx := And.intro s1 s2); exact zg
structure Qa where
  src : Int
  host : List UInt8
  mach : Int
  day : Int
  conf : Int
  kind : Int
  subj : List UInt8
  alg : Int
  bits : Int
  num : Int
  text : List UInt8
  deriving DecidableEq
def Qa.cells (f : Qa) : List V := [V.int f.src, V.str f.host, V.int f.mach, V.int f.day, V.int f.conf, V.int f.kind, V.str f.subj, V.int f.alg, V.int f.bits, V.int f.num, V.str f.text]
def Qa.v (f : Qa) : V := .agg f.cells
def Xv (x y : Int) : Int := if x < y then -1 else if x > y then 1 else 0
def jY (x y : List UInt8) : Int := if Op.bytesLess x y then -1 else if Op.bytesLess y x then 1 else 0
def JB : List Int → Int
  | [] => 0
  | x :: r => if x ≠ 0 then x else JB r
def an2 (a b : Qa) : List Int := [jY a.host b.host, Xv a.mach b.mach, Xv a.day b.day, jY a.subj b.subj, Xv a.kind b.kind, Xv a.alg b.alg, Xv a.bits b.bits, Xv a.num b.num, jY a.text b.text, Xv a.src b.src, Xv a.conf b.conf]
def acg (a b : Qa) : Int := JB (an2 a b)
def Vd (Γ : Env) (f : Nat) : Prop := ∀ G : Env, G.P = Γ.P → ∀ a b : List UInt8, EvN G f [V.str a, V.str b] (V.int (jY a b))
def W7 := qd Proofs.Tryz.f76 []
def Wy (Γ : Env) (f : Nat) : Prop := ∀ G : Env, G.P = Γ.P → ∀ x : Int, EvN G f [V.int x] (V.bool false)
theorem abx {Γ : Env} {f : Nat} (h : Has Γ.P f 6 W7.1.1.ac W7.1.2)  : Wy Γ f := by
  intro G hG x
  rw [← hG] at h
  refine Qb h (by simp) (by simp only [V.closed]) (by simp only [V.noSl]) fun C hC hm => ?_
  subst hC; simp only [W7, qd, DC.ac]
  refine zgo ?_; repeat' first | exact zt | apply zan | intro hc
  all_goals first | exact zr | (refine Qi _ rfl ?_; simp only [go_sem, Nat.reduceEqDiff, Nat.reduceAdd, reduceIte, reduceCtorEq]; simp; done) | trace_state
def X4 := qd Proofs.Tryz.f43 []
def JX (Γ : Env) (f : Nat) : Prop := ∀ G : Env, G.P = Γ.P → ∀ x y : Int, EvN G f [V.int x, V.int y] (V.int (Xv x y))
theorem vw {Γ : Env} {f : Nat} (h : Has Γ.P f 20 X4.1.1.ac X4.1.2) (z0 : Wy Γ 76) : JX Γ f := by
  intro G hG x y
  have n1 := (z0 G hG x).b
  have n2 := (z0 G hG y).b
  rw [← hG] at h
  refine Qb h (by simp) (by simp only [V.closed]) (by simp only [V.noSl]) fun C hC hm => ?_
  subst hC; simp only [X4, qd, DC.ac]
  by_cases h1 : x < y
  · have e1 : decide (x < y) = true := decide_eq_true h1
    rw [Xv, if_pos h1]
    repeat' (first | (refine zsk ?_; intro K' hK) | refine zsp ?_ | (refine zsc ?_ ?_ <;> intro hc <;> first | exact znh | try simp only [znz] at hc) | simp (maxSteps := 1000000) only [go_sem, Nat.reduceAdd, Nat.reduceMul, Nat.reduceEqDiff, Nat.reduceLeDiff, Nat.reduceLT, Nat.reduceSub, Int.reduceEq, Int.reduceBEq, Int.reduceLT, Int.reduceLE, Int.reduceAdd, Int.reduceToNat, reduceIte, reduceCtorEq, e1] | (refine hK _ ?_; clear hK K') | apply zan | (apply Qv; (focus first | exact n1 | exact n2)) | exact zsq | fail)
    all_goals first | exact zr | trace_state
  · have e1 : decide (x < y) = false := decide_eq_false h1
    by_cases h2 : x > y
    · have e2 : decide (x > y) = true := decide_eq_true h2
      rw [Xv, if_neg h1, if_pos h2]
      repeat' (first | (refine zsk ?_; intro K' hK) | refine zsp ?_ | (refine zsc ?_ ?_ <;> intro hc <;> first | exact znh | try simp only [znz] at hc) | simp (maxSteps := 1000000) only [go_sem, Nat.reduceAdd, Nat.reduceMul, Nat.reduceEqDiff, Nat.reduceLeDiff, Nat.reduceLT, Nat.reduceSub, Int.reduceEq, Int.reduceBEq, Int.reduceLT, Int.reduceLE, Int.reduceAdd, Int.reduceToNat, reduceIte, reduceCtorEq, e1, e2] | (refine hK _ ?_; clear hK K') | apply zan | (apply Qv; (focus first | exact n1 | exact n2)) | exact zsq | fail)
      all_goals first | exact zr | trace_state
    · have e2 : decide (x > y) = false := decide_eq_false h2
      rw [Xv, if_neg h1, if_neg h2]
      repeat' (first | (refine zsk ?_; intro K' hK) | refine zsp ?_ | (refine zsc ?_ ?_ <;> intro hc <;> first | exact znh | try simp only [znz] at hc) | simp (maxSteps := 1000000) only [go_sem, Nat.reduceAdd, Nat.reduceMul, Nat.reduceEqDiff, Nat.reduceLeDiff, Nat.reduceLT, Nat.reduceSub, Int.reduceEq, Int.reduceBEq, Int.reduceLT, Int.reduceLE, Int.reduceAdd, Int.reduceToNat, reduceIte, reduceCtorEq, e1, e2] | (refine hK _ ?_; clear hK K') | apply zan | (apply Qv; (focus first | exact n1 | exact n2)) | exact zsq | fail)
      all_goals first | exact zr | trace_state
def YU := qd Proofs.Tryz.f136 [⟨fun _ => true, [2, 5], zoc 0 8⟩]
def YJ (Γ : Env) (f : Nat) : Prop := ∀ (a b : Qa) (g : Nat) (p : Qa → Int) (hg : ∀ x : Qa, EvN Γ g [x.v] (V.int (p x))), EvN Γ f [.ro [.clo (.n g) []] 0, .ro a.cells 0, .ro b.cells 0] (V.int (Xv (p a) (p b)))
theorem xu {Γ : Env} {f : Nat} (h : Has Γ.P f 11 YU.1.1.ac YU.1.2) (z0 : JX Γ 43) : YJ Γ f := by
  intro a b g p hg
  refine Qb h zsi zcl zcl fun C hC hm => ?_
  subst hC
  simp only [YU, qd, DC.ac]
  have g1 := (hg a).b
  have g2 := (hg b).b
  have g3 := (z0 _ rfl (p a) (p b)).b
  simp only [Qa.v, Qa.cells] at g1 g2 ⊢
  exact zg
def YT := qd Proofs.Tryz.f138 [⟨fun _ => true, [2, 5], zoc 0 8⟩]
def YI (Γ : Env) (f : Nat) : Prop := ∀ (a b : Qa) (g : Nat) (p : Qa → List UInt8) (hg : ∀ x : Qa, EvN Γ g [x.v] (V.str (p x))), EvN Γ f [.ro [.clo (.n g) []] 0, .ro a.cells 0, .ro b.cells 0] (V.int (jY (p a) (p b)))
theorem xq {Γ : Env} {f : Nat} (h : Has Γ.P f 11 YT.1.1.ac YT.1.2) (z0 : Vd Γ 100) : YI Γ f := by
  intro a b g p hg
  refine Qb h zsi zcl zcl fun C hC hm => ?_
  subst hC
  simp only [YT, qd, DC.ac]
  have g1 := (hg a).b
  have g2 := (hg b).b
  have g3 := (z0 _ rfl (p a) (p b)).b
  simp only [Qa.v, Qa.cells] at g1 g2 ⊢
  exact zg
def XZ := qd Proofs.Tryz.f135 []
def Vq (Γ : Env) (f : Nat) : Prop := (∃ g1 : Nat, YJ Γ g1 ∧ ∀ (a b : Qa) (g : Nat), EvC Γ f [.clo (.n g) [], .ro a.cells 0, .ro b.cells 0] (.clo (.n g1) [.ro [.clo (.n g) []] 0, .ro a.cells 0, .ro b.cells 0]))
theorem vm {Γ : Env} {f : Nat} (h : Has Γ.P f 6 XZ.1.1.ac XZ.1.2) (z0 : YJ Γ 136) : Vq Γ f := by
  refine ⟨136, z0, fun a b g => ?_⟩
  refine Qm h (by simp) (by simp only [V.closed, Qc, and_self]) fun C hC hm => ?_
  subst hC
  simp only [XZ, qd, DC.ac]
  simp only [Qa.cells]
  exact zg
def XY := qd Proofs.Tryz.f137 []
def Vp (Γ : Env) (f : Nat) : Prop := (∃ g1 : Nat, YI Γ g1 ∧ ∀ (a b : Qa) (g : Nat), EvC Γ f [.clo (.n g) [], .ro a.cells 0, .ro b.cells 0] (.clo (.n g1) [.ro [.clo (.n g) []] 0, .ro a.cells 0, .ro b.cells 0]))
theorem vj {Γ : Env} {f : Nat} (h : Has Γ.P f 6 XY.1.1.ac XY.1.2) (z0 : YI Γ 138) : Vp Γ f := by
  refine ⟨138, z0, fun a b g => ?_⟩
  refine Qm h (by simp) (by simp only [V.closed, Qc, and_self]) fun C hC hm => ?_
  subst hC
  simp only [XY, qd, DC.ac]
  simp only [Qa.cells]
  exact zg
def XX := qd Proofs.Tryz.f139 []
def Vo (Γ : Env) (f : Nat) : Prop := ∀ (x : Qa), EvN Γ f [x.v] (V.str x.host)
theorem vh {Γ : Env} {f : Nat} (h : Has Γ.P f 5 XX.1.1.ac XX.1.2)  : Vo Γ f := by
  intro x
  refine Qb h zsi zcl zcl fun C hC hm => ?_
  subst hC
  simp only [XX, qd, DC.ac]
  simp only [Qa.v, Qa.cells]
  exact zg
def XW := qd Proofs.Tryz.f140 []
def Vn (Γ : Env) (f : Nat) : Prop := ∀ (x : Qa), EvN Γ f [x.v] (V.int x.mach)
theorem vg {Γ : Env} {f : Nat} (h : Has Γ.P f 5 XW.1.1.ac XW.1.2)  : Vn Γ f := by
  intro x
  refine Qb h zsi zcl zcl fun C hC hm => ?_
  subst hC
  simp only [XW, qd, DC.ac]
  simp only [Qa.v, Qa.cells]
  exact zg
def XV := qd Proofs.Tryz.f141 []
def Vm (Γ : Env) (f : Nat) : Prop := ∀ (x : Qa), EvN Γ f [x.v] (V.int x.day)
theorem ve {Γ : Env} {f : Nat} (h : Has Γ.P f 5 XV.1.1.ac XV.1.2)  : Vm Γ f := by
  intro x
  refine Qb h zsi zcl zcl fun C hC hm => ?_
  subst hC
  simp only [XV, qd, DC.ac]
  simp only [Qa.v, Qa.cells]
  exact zg
def XU := qd Proofs.Tryz.f142 []
def Vl (Γ : Env) (f : Nat) : Prop := ∀ (x : Qa), EvN Γ f [x.v] (V.str x.subj)
theorem w9 {Γ : Env} {f : Nat} (h : Has Γ.P f 5 XU.1.1.ac XU.1.2)  : Vl Γ f := by
  intro x
  refine Qb h zsi zcl zcl fun C hC hm => ?_
  subst hC
  simp only [XU, qd, DC.ac]
  simp only [Qa.v, Qa.cells]
  exact zg
def XT := qd Proofs.Tryz.f143 []
def Vk (Γ : Env) (f : Nat) : Prop := ∀ (x : Qa), EvN Γ f [x.v] (V.int x.kind)
theorem wZ {Γ : Env} {f : Nat} (h : Has Γ.P f 5 XT.1.1.ac XT.1.2)  : Vk Γ f := by
  intro x
  refine Qb h zsi zcl zcl fun C hC hm => ?_
  subst hC
  simp only [XT, qd, DC.ac]
  simp only [Qa.v, Qa.cells]
  exact zg
def XS := qd Proofs.Tryz.f144 []
def Vj (Γ : Env) (f : Nat) : Prop := ∀ (x : Qa), EvN Γ f [x.v] (V.int x.alg)
theorem wY {Γ : Env} {f : Nat} (h : Has Γ.P f 6 XS.1.1.ac XS.1.2)  : Vj Γ f := by
  intro x
  refine Qb h zsi zcl zcl fun C hC hm => ?_
  subst hC
  simp only [XS, qd, DC.ac]
  simp only [Qa.v, Qa.cells]
  exact zg
def XR := qd Proofs.Tryz.f145 []
def Vi (Γ : Env) (f : Nat) : Prop := ∀ (x : Qa), EvN Γ f [x.v] (V.int x.bits)
theorem wX {Γ : Env} {f : Nat} (h : Has Γ.P f 6 XR.1.1.ac XR.1.2)  : Vi Γ f := by
  intro x
  refine Qb h zsi zcl zcl fun C hC hm => ?_
  subst hC
  simp only [XR, qd, DC.ac]
  simp only [Qa.v, Qa.cells]
  exact zg
def Xj := qd Proofs.Tryz.f146 []
def WN (Γ : Env) (f : Nat) : Prop := ∀ (x : Qa), EvN Γ f [x.v] (V.int x.num)
theorem xV {Γ : Env} {f : Nat} (h : Has Γ.P f 5 Xj.1.1.ac Xj.1.2)  : WN Γ f := by
  intro x
  refine Qb h zsi zcl zcl fun C hC hm => ?_
  subst hC
  simp only [Xj, qd, DC.ac]
  simp only [Qa.v, Qa.cells]
  exact zg
def Xi := qd Proofs.Tryz.f147 []
def WM (Γ : Env) (f : Nat) : Prop := ∀ (x : Qa), EvN Γ f [x.v] (V.str x.text)
theorem xU {Γ : Env} {f : Nat} (h : Has Γ.P f 5 Xi.1.1.ac Xi.1.2)  : WM Γ f := by
  intro x
  refine Qb h zsi zcl zcl fun C hC hm => ?_
  subst hC
  simp only [Xi, qd, DC.ac]
  simp only [Qa.v, Qa.cells]
  exact zg
def Xh := qd Proofs.Tryz.f148 []
def WL (Γ : Env) (f : Nat) : Prop := ∀ (x : Qa), EvN Γ f [x.v] (V.int x.src)
theorem xT {Γ : Env} {f : Nat} (h : Has Γ.P f 5 Xh.1.1.ac Xh.1.2)  : WL Γ f := by
  intro x
  refine Qb h zsi zcl zcl fun C hC hm => ?_
  subst hC
  simp only [Xh, qd, DC.ac]
  simp only [Qa.v, Qa.cells]
  exact zg
def Xg := qd Proofs.Tryz.f149 []
def WJ (Γ : Env) (f : Nat) : Prop := ∀ (x : Qa), EvN Γ f [x.v] (V.int x.conf)
theorem xS {Γ : Env} {f : Nat} (h : Has Γ.P f 5 Xg.1.1.ac Xg.1.2)  : WJ Γ f := by
  intro x
  refine Qb h zsi zcl zcl fun C hC hm => ?_
  subst hC
  simp only [Xg, qd, DC.ac]
  simp only [Qa.v, Qa.cells]
  exact zg
def clC (a b : Qa) (q g : Nat) : V := .clo (.n q) [.ro [.clo (.n g) []] 0, .ro a.cells 0, .ro b.cells 0]
def ap1 (a b : Qa) (g1 g2 f3 f4 f5 f6 f7 f8 f9 f10 f11 f12 f13 : Nat) : List V := [clC a b g2 f3, clC a b g1 f4, clC a b g1 f5, clC a b g2 f6, clC a b g1 f7, clC a b g1 f8, clC a b g1 f9, clC a b g1 f10, clC a b g2 f11, clC a b g1 f12, clC a b g1 f13]
theorem U6 (a b : Qa) (g : Nat) : Qc [.ro [.clo (.n g) []] 0, .ro a.cells 0, .ro b.cells 0] := by simp only [V.closed, Qc, and_self]
theorem acy {l : List Int} {k : Nat} {v : Int} (h : l[k]? = some v) : JB (l.drop k) = if v ≠ 0 then v else JB (l.drop (k + 1)) := by
  obtain ⟨hk, he⟩ := List.getElem?_eq_some_iff.1 h
  rw [List.drop_eq_getElem_cons hk, he, JB]
def W5 := qd Proofs.Tryz.f97 []
def Uj (Γ : Env) (f : Nat) : Prop := ∀ (a b : Qa), EvN Γ f [a.v, b.v] (V.int (acg a b))
attribute [local go_sem] JY in
theorem abv {Γ : Env} {f : Nat} (h : Has Γ.P f 46 W5.1.1.ac W5.1.2) (z0 : Vq Γ 135) (z1 : Vp Γ 137) (z2 : Vo Γ 139) (z3 : Vn Γ 140) (z4 : Vm Γ 141) (z5 : Vl Γ 142) (z6 : Vk Γ 143) (z7 : Vj Γ 144) (z8 : Vi Γ 145) (z9 : WN Γ 146) (z10 : WM Γ 147) (z11 : WL Γ 148) (z12 : WJ Γ 149) : Uj Γ f := by
  intro a b
  refine Qb h zsi zcl zcl fun C hC hm => ?_
  subst hC
  simp only [W5, qd, DC.ac]
  obtain ⟨g1, c1, hO1⟩ := z0
  obtain ⟨g2, c2, hO2⟩ := z1
  have y3 := hO2 a b 139
  have y4 := hO1 a b 140
  have y5 := hO1 a b 141
  have y6 := hO2 a b 142
  have y7 := hO1 a b 143
  have y8 := hO1 a b 144
  have y9 := hO1 a b 145
  have y10 := hO1 a b 146
  have y11 := hO2 a b 147
  have y12 := hO1 a b 148
  have y13 := hO1 a b 149
  have hel : ∀ k, k < 11 → ∃ (g : Nat) (cap : List V) (v : Int), (ap1 a b g1 g2 139 140 141 142 143 144 145 146 147 148 149)[k]? = some (.clo (.n g) cap) ∧ Qc cap ∧ (an2 a b)[k]? = some v ∧ EvN C.env g cap (V.int v) := fun k hk => by
    match k, hk with
    | 0, _ => exact ⟨_, _, _, rfl, U6 a b _, rfl, c2 a b _ (fun x => x.host) z2⟩
    | 1, _ => exact ⟨_, _, _, rfl, U6 a b _, rfl, c1 a b _ (fun x => x.mach) z3⟩
    | 2, _ => exact ⟨_, _, _, rfl, U6 a b _, rfl, c1 a b _ (fun x => x.day) z4⟩
    | 3, _ => exact ⟨_, _, _, rfl, U6 a b _, rfl, c2 a b _ (fun x => x.subj) z5⟩
    | 4, _ => exact ⟨_, _, _, rfl, U6 a b _, rfl, c1 a b _ (fun x => x.kind) z6⟩
    | 5, _ => exact ⟨_, _, _, rfl, U6 a b _, rfl, c1 a b _ (fun x => x.alg) z7⟩
    | 6, _ => exact ⟨_, _, _, rfl, U6 a b _, rfl, c1 a b _ (fun x => x.bits) z8⟩
    | 7, _ => exact ⟨_, _, _, rfl, U6 a b _, rfl, c1 a b _ (fun x => x.num) z9⟩
    | 8, _ => exact ⟨_, _, _, rfl, U6 a b _, rfl, c2 a b _ (fun x => x.text) z10⟩
    | 9, _ => exact ⟨_, _, _, rfl, U6 a b _, rfl, c1 a b _ (fun x => x.src) z11⟩
    | 10, _ => exact ⟨_, _, _, rfl, U6 a b _, rfl, c1 a b _ (fun x => x.conf) z12⟩
  have hlen : (ap1 a b g1 g2 139 140 141 142 143 144 145 146 147 148 149).length = 11 := rfl
  have hoL : (an2 a b).length = 11 := rfl
  have hoF : acg a b = JB (an2 a b) := rfl
  simp only [Qa.v, Qa.cells] at y3 y4 y5 y6 y7 y8 y9 y10 y11 y12 y13 ⊢
  repeat' (first | (refine zsk ?_; intro K' hK) | refine zsp ?_ | (refine zsc ?_ ?_ <;> intro hc <;> first | exact znh | try simp only [znz] at hc) | simp (maxSteps := 1000000) only [go_sem, Nat.reduceAdd, Nat.reduceMul, Nat.reduceEqDiff, Nat.reduceLeDiff, Nat.reduceLT, Nat.reduceSub, Int.reduceEq, Int.reduceBEq, Int.reduceLT, Int.reduceLE, Int.reduceAdd, Int.reduceToNat, reduceIte, reduceCtorEq] | (refine hK _ ?_; clear hK K') | apply zan | (apply agI; (focus first | exact y3 | exact y4 | exact y5 | exact y6 | exact y7 | exact y8 | exact y9 | exact y10 | exact y11 | exact y12 | exact y13)) | (apply Qv; (focus first | exact (z2 _).b | exact (z3 _).b | exact (z4 _).b | exact (z5 _).b | exact (z6 _).b | exact (z7 _).b | exact (z8 _).b | exact (z9 _).b | exact (z10 _).b | exact (z11 _).b | exact (z12 _).b)) | exact zsq | fail)
  clear y3 y4 y5 y6 y7 y8 y9 y10 y11 y12 y13
  refine Qp (ι := Nat) (fun k => k ≤ 11 ∧ JB ((an2 a b).drop k) = acg a b) (fun k => JY [(34, .hd 0 0 11), (35, V.int 11), (36, V.int k)] [(0, .buf true 1 (ap1 a b g1 g2 139 140 141 142 143 144 145 146 147 148 149))] 1) (fun k => 11 - k) 0 ⟨by omega, rfl⟩ (Qd [(0, 29000)]) (Qh [(0, 29000)] zwa (by simp only [go_sem, zwl, Nat.reduceAdd, Nat.reduceMul, Nat.reduceEqDiff, Nat.reduceLT, Int.reduceToNat, reduceIte, reduceCtorEq, ap1, clC, Qa.cells] <;> exact zcc) (by simp) (by simp; omega) (by omega)) fun k hk K' hL => ?_
  obtain ⟨hk, hinv⟩ := hk
  generalize (ap1 a b g1 g2 139 140 141 142 143 144 145 146 147 148 149) = els at *
  by_cases hkk : k < 11
  · obtain ⟨g, cap, v, e1, e2, e3, e4⟩ := hel k hkk
    have s1 : ∀ o, Jv o cap = cap := fun o => QS o cap e2
    have s2 : ∀ o B, Qj o B cap = True := fun o B => eq_true (Qy o B cap e2)
    have hw := Qg (k := k) (by omega)
    have e5 : decide ((k : Int) < 11) = true := decide_eq_true (by omega)
    have e6 := acy e3
    rw [hinv] at e6
    by_cases hv : v = 0
    · subst hv
      rw [if_neg (by simp)] at e6
      (have zy0 := e4.b; have zx := And.intro e5 (And.intro e1 (And.intro s1 (And.intro s2 hw)))); refine zgo ?_; repeat' first | exact zt | apply zan | intro hc
      all_goals first | exact hL _ (k + 1) (Qd [(0, 0)]) ⟨by omega, e6.symm⟩ (by omega) (zwg [(0, 0)]) | trace_state
    · rw [if_pos hv] at e6
      have e7 : (v != 0) = true := by simpa using hv
      rw [e6]
      (have zy0 := e4.b; have zx := And.intro e5 (And.intro e1 (And.intro s1 (And.intro s2 (And.intro hw e7))))); exact zg
  · have e5 : decide ((k : Int) < 11) = false := decide_eq_false (by omega)
    have hk2 : k = 11 := by omega
    subst hk2
    have e6 : acg a b = 0 := by rw [← hinv]; rfl
    rw [e6]
    (have zx := e5); exact zg
def apf (f : Qa) : Prop := 0 ≤ f.day ∧ f.day ≤ 40000
def agv (a b : Qa) : Int := if a.day - b.day < b.day - a.day then b.day - a.day else a.day - b.day
def YQ := qd Proofs.Tryz.f87 []
def YF (Γ : Env) (f : Nat) : Prop := ∀ (a b : Qa) (ha : apf a) (hb : apf b), EvN Γ f [a.v, b.v] (V.int (agv a b))
theorem xm {Γ : Env} {f : Nat} (h : Has Γ.P f 16 YQ.1.1.ac YQ.1.2)  : YF Γ f := by
  intro a b ha hb
  refine Qb h zsi zcl zcl fun C hC hm => ?_
  subst hC
  simp only [YQ, qd, DC.ac]
  obtain ⟨a1, a2⟩ := ha
  obtain ⟨b1, b2⟩ := hb
  have w1 : IntKind.i64.wrap (a.day - b.day) = a.day - b.day := QE (by omega) (by omega)
  have w2 : IntKind.i64.wrap (b.day - a.day) = b.day - a.day := QE (by omega) (by omega)
  simp only [Qa.v, Qa.cells, agv]
  (have zx := And.intro w1 w2); refine zgo ?_; repeat' first | exact zt | apply zan | intro hc
  all_goals first | exact zr | (refine Qi _ rfl ?_; simp only [go_sem, Nat.reduceEqDiff, Nat.reduceAdd, reduceIte, reduceCtorEq]; simp; done) | trace_state
def KU := qd Proofs.Tryz.f99 []
def UQ (Γ : Env) (f : Nat) : Prop := ∀ G : Env, G.P = Γ.P → ∀ l : List Int, l.length < 2 ^ 60 → EvN G f [.sl 1 (l.map V.int)] (V.int (JB l))
theorem ae0 {Γ : Env} {f : Nat} (h : Has Γ.P f 18 KU.1.1.ac KU.1.2)  : UQ Γ f := by
  intro G hG l hl
  rw [← hG] at h
  refine Qb h (by simp) (by simp only [V.closed]) (by simp only [V.noSl]) fun C hC hm => ?_
  subst hC; simp only [KU, qd, DC.ac]
  refine zgo ?_; repeat' first | exact zt | apply zan | intro hc
  refine Jz (ι := Nat) (fun k => k ≤ l.length ∧ JB (l.drop k) = JB l) (fun k => [(8, V.int k)]) (fun k => l.length - k) 0 (by omega) ⟨Nat.zero_le _, rfl⟩ zol zlt zet fun k hk K' hL => ?_
  obtain ⟨hk, hinv⟩ := hk
  simp only [ovT, Xs, Nat.reduceEqDiff, reduceIte]
  rcases hd : l.drop k with _ | ⟨x, r⟩
  · have hkl := QB hd
    have e1 : decide ((k : Int) < (((l.map V.int).length : Nat) : Int)) = false := by simp; omega
    rw [hd] at hinv
    have e8 : JB l = 0 := by rw [← hinv]; rfl
    rw [e8]
    (have zx := e1); exact zg
  · obtain ⟨hk', hget, hr⟩ := Qo hd
    have hw := Qg (k := k) (by omega)
    have e1 : decide ((k : Int) < (((l.map V.int).length : Nat) : Int)) = true := by simp; omega
    have e6 := acy hget
    rw [hinv] at e6
    by_cases hx : x = 0
    · subst hx
      rw [if_neg (by simp)] at e6
      (have zx := And.intro e1 (And.intro hw hget)); refine zgo ?_; repeat' first | exact zt | apply zan | intro hc
      all_goals first | exact hL _ (k + 1) zet ⟨by omega, e6.symm⟩ (by omega) zoe | trace_state
    · have e7 : (x != 0) = true := by simpa using hx
      rw [if_pos hx] at e6
      rw [e6]
      (have zx := And.intro e1 (And.intro hw (And.intro hget e7))); exact zg
def qY (l : List Qa) (f : Qa) (gap best : Int) (i : Nat) : Int :=
  match l[i]? with
  | none => best
  | some g => if g.mach = 0 ∨ g.host ≠ f.host ∨ agv f g > gap then best else if best < 0 then (i : Int) else
    match l[best.toNat]? with
    | none => best
    | some h => if JB [Xv (agv f g) (agv f h), Xv g.day h.day, Xv g.mach h.mach] < 0 then (i : Int) else best
def xD (l : List Qa) (f : Qa) (gap : Int) (k : Nat) : Int := (List.range k).foldl (qY l f gap) (-1)
def aey (l : List Qa) (f : Qa) (gap : Int) : Int := xD l f gap l.length
theorem ack (l : List Qa) (f : Qa) (gap : Int) (k : Nat) : xD l f gap (k + 1) = qY l f gap (xD l f gap k) k := by
  rw [xD, List.range_succ, List.foldl_append]; rfl
theorem afM {l : List Qa} {f : Qa} {gap best : Int} {k : Nat} (h : best = -1 ∨ (0 ≤ best ∧ best < k)) : qY l f gap best k = -1 ∨ (0 ≤ qY l f gap best k ∧ qY l f gap best k < (k + 1 : Nat)) := by
  unfold qY
  split
  · omega
  · split
    · omega
    · split
      · omega
      · split
        · omega
        · split <;> omega
theorem aaf (l : List Qa) (f : Qa) (gap : Int) : ∀ k, xD l f gap k = -1 ∨ (0 ≤ xD l f gap k ∧ xD l f gap k < (k : Int))
  | 0 => .inl rfl
  | k + 1 => by rw [ack]; exact afM (aaf l f gap k)
def Xe := qd Proofs.Tryz.f86 [zhn 33]
def WI (Γ : Env) (f : Nat) : Prop := ∀ (l : List Qa) (f0 : Qa) (gap : Int) (hl : l.length < 2 ^ 40) (hd : ∀ x ∈ l, apf x) (hf : apf f0), EvN Γ f [.sl 11 (l.map Qa.v), f0.v, V.int gap] (V.int (aey l f0 gap))
attribute [local go_sem] Qa.cells Qa.v JY in
theorem xQ {Γ : Env} {f : Nat} (h : Has Γ.P f 70 Xe.1.1.ac Xe.1.2) (z0 : YF Γ 87) (z1 : JX Γ 43) (z2 : UQ Γ 99) : WI Γ f := by
  intro l f0 gap hl hd hf
  refine Qb h zsi zcl zcl fun C hC hm => ?_
  subst hC
  simp only [Xe, qd, DC.ac]
  simp only [Qa.v, Qa.cells]
  refine zgo ?_; repeat' first | exact zt | apply zan | intro hc
  refine Qp (ι := Nat) (fun k => k ≤ l.length) (fun k => JY [(0, .sl 11 (l.map Qa.v)), (2, V.int gap), (4, .ptr 0 0), (7, V.int (xD l f0 gap k)), (10, .sl 11 (l.map Qa.v)), (11, V.int l.length), (12, V.int k)] [(0, .box true f0.cells)] 1) (fun k => l.length - k) 0 (Nat.zero_le _) (Qd []) (Qh [] (by simp only [go_sem, zwl, Nat.reduceAdd, Nat.reduceMul, Nat.reduceEqDiff, Nat.reduceLT, Int.reduceToNat, reduceIte, reduceCtorEq, List.length_map] <;> exact zcc) (by simp only [go_sem, zwl, Nat.reduceAdd, Nat.reduceMul, Nat.reduceEqDiff, Nat.reduceLT, Int.reduceToNat, reduceIte, reduceCtorEq, Qa.cells] <;> exact zcc) (by simp) (by simp) (by omega)) fun k hk K' hL => ?_
  have hrng := aaf l f0 gap k
  have hsuc := ack l f0 gap k
  have hN : aey l f0 gap = xD l f0 gap l.length := rfl
  rcases hdr : l.drop k with _ | ⟨g, r⟩
  · have hkl := QB hdr
    have e1 : decide ((k : Int) < (l.length : Int)) = false := by simp; omega
    obtain rfl : k = l.length := by omega
    rw [hN]
    (have zx := e1); exact zg
  · obtain ⟨hk', hget, hr⟩ := Qo hdr
    have hw := Qg (k := k) (by omega)
    have e1 : decide ((k : Int) < (l.length : Int)) = true := by simp; omega
    have hg := hd g (List.mem_of_getElem? hget)
    have p1 := (z0 f0 g hf hg).b
    rw [qY, hget] at hsuc
    simp only at hsuc
    clear hN
    generalize xD l f0 gap k = best at *
    generalize agv f0 g = dg at *
    simp only [Qa.v, Qa.cells] at p1 hL ⊢
    by_cases c1 : g.mach = 0
    · rw [if_pos (.inl c1)] at hsuc
      have e2 : (g.mach == 0) = true := by simpa using c1
      (have zx := And.intro e1 (And.intro e2 (And.intro hw hget))); refine zgo ?_; repeat' first | exact zt | apply zan | intro hc
      all_goals first | exact hL _ (k + 1) (Qd []) (by omega) (by omega) (by rw [hsuc]; exact Qh [] zwa (by simp only [go_sem, zwl, Nat.reduceAdd, Nat.reduceMul, Nat.reduceEqDiff, Nat.reduceLT, Int.reduceToNat, reduceIte, reduceCtorEq, Qa.cells] <;> exact zcc) (by simp) (by simp) (by omega)) | trace_state
    have e2 : (g.mach == 0) = false := by simpa using c1
    by_cases c2 : g.host = f0.host
    · by_cases c3 : dg > gap
      · rw [if_pos (.inr (.inr c3))] at hsuc
        have e3 : (g.host == f0.host) = true := by simpa using c2
        have e4 : decide (dg > gap) = true := decide_eq_true c3
        (have zx := And.intro e1 (And.intro e2 (And.intro e3 (And.intro e4 (And.intro hw hget))))); refine zgo ?_; repeat' first | exact zt | apply zan | intro hc
        all_goals first | exact hL _ (k + 1) (Qd []) (by omega) (by omega) (by rw [hsuc]; exact Qh [] zwa (by simp only [go_sem, zwl, Nat.reduceAdd, Nat.reduceMul, Nat.reduceEqDiff, Nat.reduceLT, Int.reduceToNat, reduceIte, reduceCtorEq, Qa.cells] <;> exact zcc) (by simp) (by simp) (by omega)) | trace_state
      have e3 : (g.host == f0.host) = true := by simpa using c2
      have e4 : decide (dg > gap) = false := decide_eq_false c3
      rw [if_neg (by simp only [not_or, Decidable.not_not]; exact ⟨c1, c2, c3⟩)] at hsuc
      by_cases c4 : best < 0
      · rw [if_pos c4] at hsuc
        have e5 : decide (best < 0) = true := decide_eq_true c4
        (have zx := And.intro e1 (And.intro e2 (And.intro e3 (And.intro e4 (And.intro e5 (And.intro hw hget)))))); refine zgo ?_; repeat' first | exact zt | apply zan | intro hc
        all_goals first | exact hL _ (k + 1) (Qd []) (by omega) (by omega) (by rw [hsuc]; exact Qh [] zwa (by simp only [go_sem, zwl, Nat.reduceAdd, Nat.reduceMul, Nat.reduceEqDiff, Nat.reduceLT, Int.reduceToNat, reduceIte, reduceCtorEq, Qa.cells] <;> exact zcc) (by simp) (by simp) (by omega)) | trace_state
      · rw [if_neg c4] at hsuc
        have e5 : decide (best < 0) = false := decide_eq_false c4
        obtain ⟨j, rfl⟩ : ∃ j : Nat, best = j := ⟨best.toNat, by omega⟩
        have hj : j < l.length := by omega
        obtain ⟨q, hgq⟩ : ∃ q, l[j]? = some q := ⟨_, List.getElem?_eq_getElem hj⟩
        rw [Int.toNat_natCast, hgq] at hsuc
        simp only at hsuc
        have p2 := (z0 f0 q hf (hd q (List.mem_of_getElem? hgq))).b
        generalize agv f0 q = dq at *
        have p3 := (z1 _ rfl dg dq).b
        have p4 := (z1 _ rfl g.day q.day).b
        have p5 := (z1 _ rfl g.mach q.mach).b
        have p6 := (z2 _ rfl [Xv dg dq, Xv g.day q.day, Xv g.mach q.mach] (by simp)).b
        generalize JB [Xv dg dq, Xv g.day q.day, Xv g.mach q.mach] = ff at *
        simp only [Qa.v, Qa.cells, List.map_cons, List.map_nil] at p2 p6
        by_cases c5 : ff < 0
        · rw [if_pos c5] at hsuc
          have e6 : decide (ff < 0) = true := decide_eq_true c5
          (have zx := And.intro e1 (And.intro e2 (And.intro e3 (And.intro e4 (And.intro e5 (And.intro e6 (And.intro hw (And.intro hget hgq)))))))); refine zgo ?_; repeat' first | exact zt | apply zan | intro hc
          all_goals first | exact hL _ (k + 1) (Qd []) (by omega) (by omega) (by rw [hsuc]; exact Qh [] zwa (by simp only [go_sem, zwl, Nat.reduceAdd, Nat.reduceMul, Nat.reduceEqDiff, Nat.reduceLT, Int.reduceToNat, reduceIte, reduceCtorEq, Qa.cells] <;> exact zcc) (by simp) (by simp) (by omega)) | trace_state
        · rw [if_neg c5] at hsuc
          have e6 : decide (ff < 0) = false := decide_eq_false c5
          (have zx := And.intro e1 (And.intro e2 (And.intro e3 (And.intro e4 (And.intro e5 (And.intro e6 (And.intro hw (And.intro hget hgq)))))))); refine zgo ?_; repeat' first | exact zt | apply zan | intro hc
          all_goals first | exact hL _ (k + 1) (Qd []) (by omega) (by omega) (by rw [hsuc]; exact Qh [] zwa (by simp only [go_sem, zwl, Nat.reduceAdd, Nat.reduceMul, Nat.reduceEqDiff, Nat.reduceLT, Int.reduceToNat, reduceIte, reduceCtorEq, Qa.cells] <;> exact zcc) (by simp) (by simp) (by omega)) | trace_state
    · rw [if_pos (.inr (.inl c2))] at hsuc
      have e3 : (g.host == f0.host) = false := by simpa using c2
      (have zx := And.intro e1 (And.intro e2 (And.intro e3 (And.intro hw hget)))); refine zgo ?_; repeat' first | exact zt | apply zan | intro hc
      all_goals first | exact hL _ (k + 1) (Qd []) (by omega) (by omega) (by rw [hsuc]; exact Qh [] zwa (by simp only [go_sem, zwl, Nat.reduceAdd, Nat.reduceMul, Nat.reduceEqDiff, Nat.reduceLT, Int.reduceToNat, reduceIte, reduceCtorEq, Qa.cells] <;> exact zcc) (by simp) (by simp) (by omega)) | trace_state
structure Jb where
  ent : Int
  subj : List UInt8
  kind : Int
  alg : Int
  bits : Int
  num : Int
  text : List UInt8
  find : Int
  deriving DecidableEq
def Jb.cells (f : Jb) : List V := [V.int f.ent, V.str f.subj, V.int f.kind, V.int f.alg, V.int f.bits, V.int f.num, V.str f.text, V.int f.find]
def Jb.v (f : Jb) : V := .agg f.cells
structure PPl where
  subj : List UInt8
  text : List UInt8
  kind : Int
  num : Int
  alg : Int
  bits : Int
  deriving DecidableEq
def PPl.cells (p : PPl) : List V := [V.str p.subj, V.str p.text, V.int p.kind, V.int p.num, V.int p.alg, V.int p.bits]
def PPl.v (p : PPl) : V := .agg p.cells
def YK (f : Qa) : PPl :=
  if f.kind = 1 ∨ f.kind = 8 then ⟨f.subj, [], 1, 0, f.alg, f.bits⟩
  else if f.kind = 2 ∨ f.kind = 6 then ⟨f.subj, [], f.kind, f.num, 0, 0⟩
  else if f.kind = 7 then ⟨f.subj, f.text, f.kind, 0, 0, 0⟩
  else ⟨f.subj, [], f.kind, 0, 0, 0⟩
def aev (a b : Jb) : Int := JB [jY a.subj b.subj, Xv a.kind b.kind, Xv a.alg b.alg, Xv a.bits b.bits, Xv a.num b.num, jY a.text b.text]
def xe := qd Proofs.Tryz.f64 [⟨fun _ => false, [1], .one 0 (.one 2 (.or 1 (.one 3 (.one 4 (.one 5 (.done)))) (.or 3 (.one 1 (.one 4 (.one 5 (.done)))) (.done))))⟩]
def wm (Γ : Env) (f : Nat) : Prop := ∀ (f0 : Qa), EvN Γ f [f0.v] ((YK f0).v)
theorem ahO {Γ : Env} {f : Nat} (h : Has Γ.P f 30 xe.1.1.ac xe.1.2)  : wm Γ f := by
  intro f0
  refine Qb h zsi (by unfold YK; (repeat' split) <;> simp only [PPl.v, PPl.cells, V.closed, Qc, V.noSl, yc, and_self]) (by unfold YK; (repeat' split) <;> simp only [PPl.v, PPl.cells, V.closed, Qc, V.noSl, yc, and_self]) fun C hC hm => ?_
  subst hC
  simp only [xe, qd, DC.ac]
  obtain ⟨src, host, mach, day, conf, kind, subj, alg, bits, num, text⟩ := f0
  simp only [YK, Qa.v, Qa.cells, PPl.v, PPl.cells]
  have E : ∀ n : Int, kind ≠ n → (kind == n) = false := fun n h => by simpa using h
  by_cases k1 : kind = 1
  · subst k1
    rw [if_pos (.inl rfl)]
    exact zg
  by_cases k8 : kind = 8
  · subst k8
    rw [if_pos (.inr rfl)]
    exact zg
  rw [if_neg (by simp [k1, k8])]
  by_cases k2 : kind = 2
  · subst k2
    rw [if_pos (.inl rfl)]
    exact zg
  by_cases k6 : kind = 6
  · subst k6
    rw [if_pos (.inr rfl)]
    exact zg
  rw [if_neg (by simp [k2, k6])]
  have e1 := E 1 k1
  have e8 := E 8 k8
  have e2 := E 2 k2
  have e6 := E 6 k6
  by_cases k7 : kind = 7
  · subst k7
    rw [if_pos rfl]
    exact zg
  rw [if_neg k7]
  have e7 := E 7 k7
  (have zx := And.intro e1 (And.intro e8 (And.intro e2 (And.intro e6 e7)))); exact zg
def Vc := qd Proofs.Tryz.f66 [zhn 37]
def Uo (Γ : Env) (f : Nat) : Prop := Own Γ.P f ∧ ∀ G : Env, G.P = Γ.P → ∀ a b : Jb, EvN G f [a.v, b.v] (V.int (aev a b))
theorem abC {Γ : Env} {f : Nat} (h : Has Γ.P f 41 Vc.1.1.ac Vc.1.2) (z0 : Vd Γ 100) (z1 : JX Γ 43) (z2 : UQ Γ 99) : Uo Γ f := by
  refine ⟨h.own, fun G hG a b => ?_⟩
  have p1 := z0 G hG a.subj b.subj
  have p2 := z1 G hG a.kind b.kind
  have p3 := z1 G hG a.alg b.alg
  have p4 := z1 G hG a.bits b.bits
  have p5 := z1 G hG a.num b.num
  have p6 := z0 G hG a.text b.text
  have p7 := z2 G hG [jY a.subj b.subj, Xv a.kind b.kind, Xv a.alg b.alg, Xv a.bits b.bits, Xv a.num b.num, jY a.text b.text] (by simp)
  rw [← hG] at h
  refine Qb h (by simp) (by simp only [V.closed]) (by simp only [V.noSl]) fun C hC hm => ?_
  subst hC; simp only [Vc, qd, DC.ac]
  have p1 := p1.b
  have p2 := p2.b
  have p3 := p3.b
  have p4 := p4.b
  have p5 := p5.b
  have p6 := p6.b
  have p7 := p7.b
  simp only [Jb.v, Jb.cells, aev, List.map_cons, List.map_nil] at *
  exact zg
theorem arF (p q : PPl) : Jk [1, 1, 0, 0, 0, 0] p.cells q.cells = some (decide (p = q)) := by
  obtain ⟨a1, a2, a3, a4, a5, a6⟩ := p
  obtain ⟨b1, b2, b3, b4, b5, b6⟩ := q
  have hs : ∀ x y : List UInt8, ((⟨x.toArray⟩ : ByteArray) == ⟨y.toArray⟩) = decide (x = y) := fun x y => by
    rw [Bool.eq_iff_iff, agG]; simp
  simp only [PPl.cells, V.str, V.int, Jk, hs, if_true, Option.map_some, PPl.mk.injEq]
  congr 1
  rw [Bool.eq_iff_iff]
  simp
def aiF (p : PPl) : List PPl → Nat → Option Nat
  | [], _ => none
  | e :: r, i => if p = e then some i else aiF p r (i + 1)
theorem af9 (p : PPl) : ∀ (ks : List PPl) (i : Nat), Uq true [1, 1, 0, 0, 0, 0] p.v (ks.map PPl.v) i = some (aiF p ks i)
  | [], _ => rfl
  | e :: r, i => by
    have h : VE true [1, 1, 0, 0, 0, 0] p.v e.v = some (decide (p = e)) := arF p e
    rw [List.map_cons, Uq, h]
    by_cases hk : p = e
    · subst hk; simp [aiF]
    · rw [decide_eq_false hk]; simp only [aiF, if_neg hk]
      exact af9 p r (i + 1)
theorem ant (p : PPl) : VE true [1, 1, 0, 0, 0, 0] p.v p.v = some true := by
  have : VE true [1, 1, 0, 0, 0, 0] p.v p.v = some (decide (p = p)) := arF p p
  rw [this]; simp
def suU (c : JD) : List (Int × Int) := [(c.kx1, c.kx2), (c.sg1, c.sg2), (c.ci1, c.ci2), (c.mc1, c.mc2)]
def Xr (f : Jb) (a : Int) : List (Int × Int) := if a < 1 ∨ a > 22 then [] else if f.kind = 1 ∨ f.kind = 3 then (if f.alg = a then [(f.alg, f.bits)] else []) else if f.kind = 2 then (if 1 ≤ f.num ∧ f.num ≤ 16 then (suU (K1 f.num)).filter (fun u => u.1 == a) else []) else []
def K0 (f : Jb) (a : Int) : Bool := !decide (a < 1 ∨ a > 22) && (!decide (f.kind = 1 ∨ f.kind = 3) && (decide (f.kind = 2) && decide (1 ≤ f.num ∧ f.num ≤ 16)))
def ac7 (f : Jb) (a : Int) : V := .tup [.sl 2 ((Xr f a).map Yj), V.bool (K0 f a)]
def uSt (l : List (Int × Int)) (a : Int) (k : Nat) : St := JY [(1, V.int a), (4, .hd 0 0 ((l.take k).filter (fun u => u.1 == a)).length), (47, .hd 1 0 4), (48, V.int 4), (49, V.int k)] [(0, .buf true 2 (((l.take k).filter (fun u => u.1 == a)).map Yj)), (1, .buf true 2 (l.map Yj))] 2
theorem afz (f : Nat → Nat) (xs : List (Int × Int)) : US f (xs.map Yj) = xs.map Yj := QP _ _ (by induction xs with | nil => trivial | cons x r ih => exact ⟨by simp [Yj, V.closed, Qc], ih⟩)
theorem ain (n : Nat) (xs : List (Int × Int)) : ltL n (xs.map Yj) := JA _ _ (by induction xs with | nil => trivial | cons x r ih => exact ⟨by simp [Yj, V.closed, Qc], ih⟩)
def jo := qd Proofs.Tryz.f37 []
def yO (Γ : Env) (f : Nat) : Prop := ∀ (f0 : Jb) (a : Int), EvC Γ f [f0.v, V.int a] (ac7 f0 a)
attribute [local go_sem] JY Yj in
theorem agm {Γ : Env} {f : Nat} (h : Has Γ.P f 63 jo.1.1.ac jo.1.2) (z0 : Um Γ 67) : yO Γ f := by
  intro f0 a
  refine Qm h zsi (by simp only [ac7, V.closed, Qc, and_self]) fun C hC hm => ?_
  subst hC
  simp only [jo, qd, DC.ac]
  simp only [Jb.v, Jb.cells]
  rcases d1 : decide (a < 1) with _ | _
  rotate_left
  · have h1 : a < 1 := of_decide_eq_true d1
    have e1 : Xr f0 a = [] := by rw [Xr, if_pos (Or.inl h1)]
    have e2 : K0 f0 a = false := by rw [K0, decide_eq_true (Or.inl h1 : a < 1 ∨ a > 22)]; rfl
    rw [ac7, e1, e2]
    (have zx := d1); exact zg
  rcases d2 : decide (a > 22) with _ | _
  rotate_left
  · have h1 : a > 22 := of_decide_eq_true d2
    have e1 : Xr f0 a = [] := by rw [Xr, if_pos (Or.inr h1)]
    have e2 : K0 f0 a = false := by rw [K0, decide_eq_true (Or.inr h1 : a < 1 ∨ a > 22)]; rfl
    rw [ac7, e1, e2]
    (have zx := And.intro d1 d2); exact zg
  have hr : ¬ (a < 1 ∨ a > 22) := by
    have := of_decide_eq_false d1; have := of_decide_eq_false d2; omega
  by_cases hk : f0.kind = 1 ∨ f0.kind = 3
  · have e2 : K0 f0 a = false := by rw [K0, decide_eq_true hk]; simp
    by_cases ha : f0.alg = a
    · have e1 : Xr f0 a = [(f0.alg, f0.bits)] := by rw [Xr, if_neg hr, if_pos hk, if_pos ha]
      have c2 : (f0.alg == a) = true := by simpa using ha
      rw [ac7, e1, e2]
      rcases hk with hk | hk
      · have c1 : (f0.kind == 1) = true := by simpa using hk
        simp only [List.map_cons, List.map_nil, Yj]
        (have zx := And.intro d1 (And.intro d2 (And.intro c1 c2))); exact zg
      · have c1 : (f0.kind == 1) = false := by rw [hk]; rfl
        have c3 : (f0.kind == 3) = true := by simpa using hk
        simp only [List.map_cons, List.map_nil, Yj]
        (have zx := And.intro d1 (And.intro d2 (And.intro c1 (And.intro c3 c2)))); exact zg
    · have e1 : Xr f0 a = [] := by rw [Xr, if_neg hr, if_pos hk, if_neg ha]
      have c2 : (f0.alg == a) = false := by simpa using ha
      rw [ac7, e1, e2]
      rcases hk with hk | hk
      · have c1 : (f0.kind == 1) = true := by simpa using hk
        (have zx := And.intro d1 (And.intro d2 (And.intro c1 c2))); exact zg
      · have c1 : (f0.kind == 1) = false := by rw [hk]; rfl
        have c3 : (f0.kind == 3) = true := by simpa using hk
        (have zx := And.intro d1 (And.intro d2 (And.intro c1 (And.intro c3 c2)))); exact zg
  have c1 : (f0.kind == 1) = false := by simpa using fun h => hk (Or.inl h)
  have c3 : (f0.kind == 3) = false := by simpa using fun h => hk (Or.inr h)
  by_cases h2 : f0.kind = 2
  rotate_left
  · have e1 : Xr f0 a = [] := by rw [Xr, if_neg hr, if_neg hk, if_neg h2]
    have e2 : K0 f0 a = false := by rw [K0, decide_eq_false h2]; simp
    have c2 : (f0.kind == 2) = false := by simpa using h2
    rw [ac7, e1, e2]
    (have zx := And.intro d1 (And.intro d2 (And.intro c1 (And.intro c2 c3)))); exact zg
  have c2 : (f0.kind == 2) = true := by simpa using h2
  have gS := (z0 f0.num).b
  by_cases hn : 1 ≤ f0.num ∧ f0.num ≤ 16
  rotate_left
  · have e1 : Xr f0 a = [] := by rw [Xr, if_neg hr, if_neg hk, if_pos h2, if_neg hn]
    have e2 : K0 f0 a = false := by rw [K0, decide_eq_false hn]; simp
    rw [xA, if_neg hn] at gS
    rw [ac7, e1, e2]
    simp only [JD.v, JD.cells] at gS
    (have zx := And.intro d1 (And.intro d2 (And.intro c1 (And.intro c2 c3)))); exact zg
  have e1 : Xr f0 a = (suU (K1 f0.num)).filter (fun u => u.1 == a) := by rw [Xr, if_neg hr, if_neg hk, if_pos h2, if_pos hn]
  have e2 : K0 f0 a = true := by rw [K0, decide_eq_false hr, decide_eq_false hk, decide_eq_true h2, decide_eq_true hn]; rfl
  rw [xA, if_pos hn] at gS
  rw [ac7, e1, e2]
  generalize K1 f0.num = c at *
  simp only [JD.v, JD.cells] at gS
  (have zx := And.intro d1 (And.intro d2 (And.intro c1 (And.intro c2 c3)))); refine zgo ?_; repeat' first | exact zt | apply zan | intro hc
  have hl4 : (suU c).length = 4 := rfl
  have hsu : (suU c).map Yj = [V.agg [V.int c.kx1, V.int c.kx2], V.agg [V.int c.sg1, V.int c.sg2], V.agg [V.int c.ci1, V.int c.ci2], V.agg [V.int c.mc1, V.int c.mc2]] := rfl
  generalize suU c = l at *
  refine Qp (ι := Nat) (fun k => k ≤ 4) (fun k => uSt l a k) (fun k => 4 - k) 0 (Nat.zero_le _) (Qd [(0, 1000), (1, 36000)]) (Qh [(0, 1000), (1, 36000)] (by simp only [go_sem, zwl, Nat.reduceAdd, Nat.reduceMul, Nat.reduceEqDiff, Nat.reduceLT, Int.reduceToNat, reduceIte, reduceCtorEq, uSt, List.take_zero, List.filter_nil, List.length_nil] <;> exact zcc) (by simp only [go_sem, zwl, Nat.reduceAdd, Nat.reduceMul, Nat.reduceEqDiff, Nat.reduceLT, Int.reduceToNat, reduceIte, reduceCtorEq, uSt, List.take_zero, List.filter_nil, List.map_nil, hsu] <;> exact zcc) (by simp [uSt, Qd]) (by simp [uSt]; omega) (by omega)) fun k hk4 K' hL => ?_
  have hlm : (l.map Yj).length = 4 := by rw [List.length_map, hl4]
  rcases hd : l.drop k with _ | ⟨y, r⟩
  · have hkl := QB hd
    have ee : decide ((k : Int) < 4) = false := by simp; omega
    obtain rfl : k = 4 := by omega
    have htk : l.take 4 = l := List.take_of_length_le (by omega)
    clear hL
    simp only [uSt, htk]
    generalize l.filter (fun u => u.1 == a) = out at *
    have hto : List.take out.length (out.map Yj) = out.map Yj := List.take_of_length_le (by simp)
    (have zx := And.intro ee hto); refine zgo ?_; repeat' first | exact zt | apply zan | intro hc
    all_goals first | (refine Qi _ rfl ?_; simp only [go_sem, Nat.reduceEqDiff, Nat.reduceAdd, reduceIte, reduceCtorEq, hto]; done) | exact zr | trace_state
  · obtain ⟨hk', hget, hr⟩ := Qo hd
    have hw := Qg (k := k) (by omega)
    have ee : decide ((k : Int) < 4) = true := by simp; omega
    have t1 : l.take (k + 1) = l.take k ++ [y] := by rw [List.take_add_one, hget]; rfl
    obtain ⟨ya, yb⟩ := y
    rcases c4 : ya == a with _ | _
    · have hf : (l.take (k + 1)).filter (fun u => u.1 == a) = (l.take k).filter (fun u => u.1 == a) := by rw [t1, List.filter_append]; simp [c4]
      have hnn := fun s' => hL s' (k + 1) (Qd []) (by omega) (by omega)
      simp only [uSt, hf] at hnn ⊢
      generalize (l.take k).filter (fun u => u.1 == a) = out at *
      (have zx := And.intro ee (And.intro hw (And.intro hget (And.intro c4 hlm)))); refine zgo ?_; repeat' first | exact zt | apply zan | intro hc
      all_goals first | exact hnn _ (Qh [] zwa (by simp only [go_sem, zwl, Nat.reduceAdd, Nat.reduceMul, Nat.reduceEqDiff, Nat.reduceLT, Int.reduceToNat, reduceIte, reduceCtorEq, afz, ain] <;> exact zcc) (by simp [Qd]) (by simp) (by omega)) | trace_state
    · have hf : (l.take (k + 1)).filter (fun u => u.1 == a) = (l.take k).filter (fun u => u.1 == a) ++ [(ya, yb)] := by rw [t1, List.filter_append]; simp [c4]
      have hnn := fun s' => hL s' (k + 1) (Qd [(0, 12002)]) (by omega) (by omega)
      have hol : ((l.take k).filter (fun u => u.1 == a)).length ≤ 4 := by
        have := List.length_filter_le (fun u : Int × Int => u.1 == a) (l.take k)
        rw [List.length_take] at this; omega
      simp only [uSt, hf] at hnn ⊢
      generalize (l.take k).filter (fun u => u.1 == a) = out at *
      have hto : List.take out.length (out.map Yj) = out.map Yj := List.take_of_length_le (by simp)
      have hom : (out.map Yj).length = out.length := List.length_map _
      have q1 : (out.length + 1) * 2 ≤ 2 ^ 40 := by omega
      have q2 : out.length + 1 ≤ 2 ^ 40 := by omega
      (have zx := And.intro ee (And.intro hw (And.intro hget (And.intro c4 (And.intro hlm (And.intro hto (And.intro hom (And.intro q1 q2)))))))); refine zgo ?_; repeat' first | exact zt | apply zan | intro hc
      all_goals first | exact hnn _ (Qh [(0, 12002)] (by simp only [go_sem, zwl, Nat.reduceAdd, Nat.reduceMul, Nat.reduceEqDiff, Nat.reduceLT, Int.reduceToNat, reduceIte, reduceCtorEq, List.length_append, List.length_singleton] <;> exact zcc) (by simp only [go_sem, zwl, Nat.reduceAdd, Nat.reduceMul, Nat.reduceEqDiff, Nat.reduceLT, Int.reduceToNat, reduceIte, reduceCtorEq, List.map_append, List.map_cons, List.map_nil, afz, ain] <;> exact zcc) (by simp [Qd]) (by simp; omega) (by omega)) | trace_state
end Av
end

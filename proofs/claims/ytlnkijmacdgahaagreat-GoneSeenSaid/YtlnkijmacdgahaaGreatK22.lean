/- K22 -/
import Derived.Test.YtlnkijmacdgahaaGreatK21
import Derived.Test.YtlnkijmacdgahaaGreatK12
import Derived.Test.YtlnkijmacdgahaaGreatK18
import Derived.Test.YtlnkijmacdgahaaGreatK16
import Derived.Test.YtlnkijmacdgahaaGreatK15
set_option linter.unusedVariables false
set_option linter.unusedSimpArgs false
noncomputable section
set_option maxRecDepth 10000
set_option maxHeartbeats 4000000
namespace Av
open Go
attribute [local irreducible] AWp VA K4 jR awS awC aa9 awQ abD QZ V9 aay awR Ug awB okR jL ris
theorem akf {α : Type} {p : α → Bool} {l r : List α} {k : Nat} {x : α} (h : l.drop k = x :: r) : (l.drop k).any p = (p x || (l.drop (k + 1)).any p) := by
  obtain ⟨_, _, hr⟩ := Qo h
  rw [h, List.any_cons, hr]
def Up (c : UInt8) : Bool := decide ((c.toNat : Int) ≤ 32) || decide ((c.toNat : Int) > 126)
def Qx (s : List UInt8) : Bool := !s.any Up && (decide ((s.length : Int) ≥ 1) && decide ((s.length : Int) ≤ 32))
def KJ := qd Proofs.Tryz.f78 []
def UN (Γ : Env) (f : Nat) : Prop := ∀ (s : List UInt8) (hs : s.length < 2 ^ 60), EvN Γ f [V.str s] (V.bool (Qx s))
theorem aeO {Γ : Env} {f : Nat} (h : Has Γ.P f 28 KJ.1.1.ac KJ.1.2)  : UN Γ f := by
  intro s hs
  refine Qb h zsi zcl zcl fun C hC hm => ?_
  subst hC
  simp only [KJ, qd, DC.ac]
  by_cases h0 : s.length < 1
  · have e1 : decide ((s.length : Int) < 1) = true := decide_eq_true (by omega)
    have e2 : Qx s = false := by unfold Qx; rw [decide_eq_false (by omega : ¬ (s.length : Int) ≥ 1)]; simp
    rw [e2]
    (have zx := e1); exact zg
  have e1 : decide ((s.length : Int) < 1) = false := decide_eq_false (by omega)
  by_cases h1 : s.length > 32
  · have e3 : decide ((s.length : Int) > 32) = true := decide_eq_true (by omega)
    have e2 : Qx s = false := by unfold Qx; rw [decide_eq_false (by omega : ¬ (s.length : Int) ≤ 32)]; simp
    rw [e2]
    (have zx := And.intro e1 e3); exact zg
  have e3 : decide ((s.length : Int) > 32) = false := decide_eq_false (by omega)
  have e2 : Qx s = !s.any Up := by unfold Qx; rw [decide_eq_true (by omega : (s.length : Int) ≤ 32), decide_eq_true (by omega : (s.length : Int) ≥ 1)]; simp
  rw [e2]
  (have zx := And.intro e1 e3); refine zgo ?_; repeat' first | exact zt | apply zan | intro hc
  refine Jz (ι := Nat) (fun k => k ≤ s.length ∧ (s.drop k).any Up = s.any Up) (fun k => [(3, V.int k)]) (fun k => s.length - k) 0 (by omega) ⟨by simp, by simp⟩ zol zlt zet fun k hk K' hL => ?_
  obtain ⟨hk, hinv⟩ := hk
  simp only [ovT, Xs, Nat.reduceEqDiff, reduceIte]
  rcases hd : s.drop k with _ | ⟨c, r⟩
  · have := QB hd
    rw [hd] at hinv
    have e4 : decide ((k : Int) < ((s.length : Nat) : Int)) = false := by simp; omega
    rw [← hinv]
    (have zx := e4); refine zgo ?_; repeat' first | exact zt | apply zan | intro hc
    all_goals first | exact zr | (refine Qi _ rfl ?_; simp only [go_sem, Nat.reduceEqDiff, Nat.reduceAdd, reduceIte, reduceCtorEq]; simp; done) | trace_state
  · obtain ⟨hk', hget, hr⟩ := Qo hd
    have hst := akf (p := Up) hd
    rw [hinv] at hst
    have hw := Qg (k := k) (by omega)
    have e4 : decide ((k : Int) < ((s.length : Nat) : Int)) = true := by simp; omega
    have e5 : decide ((c.toNat : Int) < 33) = decide ((c.toNat : Int) ≤ 32) := decide_eq_decide.2 (by omega)
    rcases h2 : decide ((c.toNat : Int) ≤ 32) with _ | _
    · rcases h3 : decide ((c.toNat : Int) > 126) with _ | _
      · have hb : Up c = false := by unfold Up; rw [h2, h3]; rfl
        rw [hb, Bool.false_or] at hst
        (have zx := And.intro e4 (And.intro hw (And.intro hget (And.intro e5 (And.intro h2 h3))))); refine zgo ?_; repeat' first | exact zt | apply zan | intro hc
        all_goals first
          | exact hL _ (k + 1) zet ⟨by omega, hst.symm⟩ (by omega) zoe
          | trace_state
      · have hb : Up c = true := by unfold Up; rw [h3, Bool.or_true]
        rw [hb, Bool.true_or] at hst
        rw [hst]
        (have zx := And.intro e4 (And.intro hw (And.intro hget (And.intro e5 (And.intro h2 h3))))); exact zg
    · have hb : Up c = true := by unfold Up; rw [h2, Bool.true_or]
      rw [hb, Bool.true_or] at hst
      rw [hst]
      (have zx := And.intro e4 (And.intro hw (And.intro hget (And.intro e5 h2)))); exact zg
def okP {α : Type} (p : α → Bool) (q : α → α → Bool) (l : List α) (k : Nat) : Bool := (List.range k).all fun i => match l[i]? with | some x => p x && (i == 0 || match l[i - 1]? with | some y => q y x | none => false) | none => false
theorem aiy {α : Type} (p : α → Bool) (q : α → α → Bool) (l : List α) : okP p q l 0 = true := rfl
theorem abN {α : Type} (p : α → Bool) (q : α → α → Bool) (l : List α) (k : Nat) : okP p q l (k + 1) = (okP p q l k && match l[k]? with | some x => p x && (k == 0 || match l[k - 1]? with | some y => q y x | none => false) | none => false) := by
  rw [okP, okP, List.range_succ, List.all_append]; simp
theorem aoQ {α : Type} {p : α → Bool} {q : α → α → Bool} {l : List α} {k n : Nat} (h : okP p q l k = false) (hk : k ≤ n) : okP p q l n = false := by
  rw [okP, List.all_eq_false] at h ⊢
  obtain ⟨i, hi, h⟩ := h
  exact ⟨i, List.mem_range.2 (Nat.lt_of_lt_of_le (List.mem_range.1 hi) hk), h⟩
theorem aoN {α : Type} {p : α → Bool} {q : α → α → Bool} {l : List α} {x : α} (h : l[0]? = some x) : okP p q l 1 = p x := by
  rw [abN, aiy, h]; simp
theorem am2 {α : Type} {p : α → Bool} {q : α → α → Bool} {l : List α} {k : Nat} {x y : α} (h : l[k + 1]? = some x) (h' : l[k]? = some y) : okP p q l (k + 2) = (okP p q l (k + 1) && (p x && q y x)) := by
  rw [abN, h]; simp [h']
def aoi (a b k : Int) : Bool := decide (Qn a b > 0) && ((Wj a).kind == k)
def agX (n : Int) : Bool := decide (n ≥ 0) && decide (n ≤ 2147483648)
def arQ (n : Int) : Bool := decide (n ≥ 0) && decide (n < 4294967296)
def ap5 (l : List (List UInt8)) : Bool := okP Qx Op.bytesLess l l.length && decide ((l.length : Int) ≤ 8)
structure aaA where
  serial : Int
  issuer : List UInt8
  subject : List UInt8
  kalg : Int
  kbits : Int
  kid : Int
  halg : Int
  hbits : Int
  from_ : Int
  to_ : Int
  auth : Bool
  path : Int
  names : List (List UInt8)
  skey : Int
  ssum : Int
def aaA.cells (c : aaA) : List V := [V.int c.serial, V.str c.issuer, V.str c.subject, V.int c.kalg, V.int c.kbits, V.int c.kid, V.int c.halg, V.int c.hbits, V.int c.from_, V.int c.to_, V.bool c.auth, V.int c.path, .sl 1 (c.names.map V.str), V.int c.skey, V.int c.ssum]
def aaA.v (c : aaA) : V := .agg c.cells
def art (c : aaA) : Bool := decide (c.serial < 0) || (decide (c.serial > 1099511627776) || (!Qx c.issuer || (!Qx c.subject || !ap5 c.names)))
def ars (c : aaA) : Bool := !aoi c.kalg c.kbits 2 || (!agX c.kid || (!aoi c.halg c.hbits 1 || (!agX c.skey || !arQ c.ssum)))
def arq (c : aaA) : Bool := decide (c.from_ < 0) || (decide (c.from_ > c.to_) || decide (c.to_ > 40000))
def arp (c : aaA) : Bool := decide (c.path ≥ 0) && (decide (c.path ≤ 8) && (c.auth || (c.path == 0)))
def aro (c : aaA) : Bool := !art c && (!ars c && (!arq c && arp c))
def Va := qd Proofs.Tryz.f59 []
def Y4 (Γ : Env) (f : Nat) : Prop := ∀ (s : List UInt8) (hs : s.length < 2 ^ 60), EvN Γ f [V.str s] (V.bool (Qx s))
attribute [local go_sem] JY in
theorem abA {Γ : Env} {f : Nat} (h : Has Γ.P f 27 Va.1.1.ac Va.1.2)  : Y4 Γ f := by
  intro s hs
  refine Qb h zsi zcl zcl fun C hC hm => ?_
  subst hC
  simp only [Va, qd, DC.ac]
  refine zgo ?_; repeat' first | exact zt | apply zan | intro hc
  refine Qp (ι := Nat) (fun k => k ≤ s.length ∧ (s.drop k).any Up = s.any Up) (fun k => JY [(0, V.str s), (6, .hd 0 0 s.length), (7, V.int s.length), (8, V.int k)] [(0, .buf false 1 (s.map fun c => V.sc (.int .u8 c.toNat)))] 1) (fun k => s.length - k) 0 ⟨by omega, by simp⟩ (Qd [(0, 2000)]) (zwg [(0, 2000)]) fun k hk K' hL => ?_
  obtain ⟨hk, hinv⟩ := hk
  rcases hd : s.drop k with _ | ⟨c, r⟩
  · have hkl := QB hd
    rw [hd] at hinv
    have e1 : decide ((k : Int) < ((s.length : Nat) : Int)) = false := by simp; omega
    have hok : Qx s = (decide ((s.length : Int) ≥ 1) && decide ((s.length : Int) ≤ 32)) := by rw [Qx, ← hinv]; rfl
    rw [hok]
    rcases hq : decide ((s.length : Int) ≥ 1) with _ | _
    · (have zx := And.intro e1 hq); exact zg
    · (have zx := And.intro e1 hq); refine zgo ?_; repeat' first | exact zt | apply zan | intro hc
      all_goals first | exact zr | (refine Qi _ rfl ?_; simp only [go_sem, Nat.reduceEqDiff, Nat.reduceAdd, reduceIte, reduceCtorEq]; simp; done) | trace_state
  · obtain ⟨hk', hget, hr⟩ := Qo hd
    rw [hd] at hinv
    have hw := Qg (k := k) (by omega)
    have e1 : decide ((k : Int) < ((s.length : Nat) : Int)) = true := by simp; omega
    rcases h1 : decide ((c.toNat : Int) ≤ 32) with _ | _
    · rcases h2 : decide ((c.toNat : Int) > 126) with _ | _
      · (have zx := And.intro e1 (And.intro hw (And.intro hget (And.intro h1 h2)))); refine zgo ?_; repeat' first | exact zt | apply zan | intro hc
        all_goals first
          | exact hL _ (k + 1) (Qd [(0, 0)]) ⟨by omega, by rw [hr, ← hinv]; simp only [List.any_cons, Up, h1, h2, Bool.or_self, Bool.false_or]⟩ (by omega) (zwg [(0, 0)])
          | trace_state
      · have hok : Qx s = false := by rw [Qx, ← hinv]; simp only [List.any_cons, Up, h2, Bool.or_true, Bool.true_or, Bool.not_true, Bool.false_and]
        rw [hok]
        (have zx := And.intro e1 (And.intro hw (And.intro hget (And.intro h1 h2)))); exact zg
    · have hok : Qx s = false := by rw [Qx, ← hinv]; simp only [List.any_cons, Up, h1, Bool.or_true, Bool.true_or, Bool.not_true, Bool.false_and]
      rw [hok]
      (have zx := And.intro e1 (And.intro hw (And.intro hget h1))); exact zg
def X6 := qd Proofs.Tryz.f60 []
def Vv (Γ : Env) (f : Nat) : Prop := ∀ (n : Int), EvN Γ f [V.int n] (V.bool (agX n))
theorem vB {Γ : Env} {f : Nat} (h : Has Γ.P f 9 X6.1.1.ac X6.1.2)  : Vv Γ f := by
  intro n
  refine Qb h zsi zcl zcl fun C hC hm => ?_
  subst hC
  simp only [X6, qd, DC.ac]
  unfold agX
  refine zgo ?_; repeat' first | exact zt | apply zan | intro hc
  all_goals first | exact zr | (refine Qi _ rfl ?_; simp only [go_sem, Nat.reduceEqDiff, Nat.reduceAdd, reduceIte, reduceCtorEq]; simp [*]; done) | trace_state
def KT := qd Proofs.Tryz.f160 []
def jJ (Γ : Env) (f : Nat) : Prop := ∀ (x : Ql) (hx : x.siz < 2 ^ 35) (hp : x.pB.length < 65536), EvC Γ f [x.v] (aof x)
attribute [local go_sem] Xn in
theorem aeZ {Γ : Env} {f : Nat} (h : Has Γ.P f 17 KT.1.1.ac KT.1.2) (z0 : jH Γ 190) (z1 : yP Γ 191) (z2 : qr Γ 192) : jJ Γ f := by
  intro x hx hp
  refine Qm h zsi (acP _) fun C hC hm => ?_
  subst hC
  simp only [KT, qd, DC.ac]
  have hf := (z0 x (by omega)).b
  have hd := (z1 x (by omega)).b
  have hel := z2 x
  have he : aof x = if x.fB = false then .tup [.sl 1 [], V.int 1] else if x.dep > 16 then .tup [.sl 1 [], V.int 3] else if x.pB.length > 4096 then .tup [.sl 1 [], V.int 3] else .tup [.sl 1 (JC x.pB), V.int 0] := rfl
  rw [he]
  generalize x.dep = d at *
  generalize hq : x.fB = q at *
  rcases q with _ | _
  · rw [if_pos rfl]
    obtain ⟨t, b, n, es⟩ := x
    rw [Ql.v_eq] at *
    exact zg
  · rw [if_neg (by decide)]
    have hw := (hel rfl hx hp).2
    clear hel
    generalize x.pB = p at *
    obtain ⟨t, b, n, es⟩ := x
    rw [Ql.v_eq] at *
    by_cases h2 : d > 16
    · rw [if_pos h2]
      have e2 : decide ((d : Int) > 16) = true := by simp; omega
      (have zx := e2); exact zg
    · rw [if_neg h2]
      have e2 : decide ((d : Int) > 16) = false := by simp; omega
      have hpl : ((JC p).length : Int) = (p.length : Int) := by rw [Xn]
      have htk : List.take p.length (JC p) = JC p := List.take_of_length_le (by rw [Xn]; omega)
      by_cases h3 : p.length > 4096
      · rw [if_pos h3]
        have e3 : decide ((p.length : Int) > 4096) = true := by simp; omega
        (have zx := And.intro e2 (And.intro hpl e3)); exact zg
      · rw [if_neg h3]
        have e3 : decide ((p.length : Int) > 4096) = false := by simp; omega
        (have zx := And.intro e2 (And.intro hpl e3)); refine zgo ?_; repeat' first | exact zt | apply zan | intro hc
        all_goals first | (refine Qi _ rfl ?_; simp only [go_sem, Nat.reduceEqDiff, Nat.reduceAdd, reduceIte, reduceCtorEq, htk]; done) | exact zr | trace_state
def Yj (u : Int × Int) : V := .agg [V.int u.1, V.int u.2]
structure QF where
  alg : Int
  bits : Int
  pur : Int
  ep : List UInt8
  fr : Int
  to : Int
  seals : List (Int × Int)
def QF.cells (x : QF) : List V := [V.int x.alg, V.int x.bits, V.int x.pur, V.str x.ep, V.int x.fr, V.int x.to, .sl 2 (x.seals.map Yj)]
def QF.v (x : QF) : V := .agg x.cells
def Xc : Option Int → List (Int × Int) → Bool
  | _, [] => true
  | p, s :: r => agX s.1 && (!decide (s.2 < 0) && (!decide (s.2 ≥ 4294967296) && ((match p with | none => true | some q => !decide (q ≥ s.1)) && Xc (some s.1) r)))
def exA (x : QF) : Bool := decide (Qn x.alg x.bits > 0) && (!decide (x.pur < 1) && (!decide (x.pur > 4) && Qx x.ep))
def exD (x : QF) : Bool := !decide (x.fr < 0) && (!decide (x.fr ≥ x.to) && (!decide (x.to > 40001) && !decide ((x.seals.length : Int) > 8)))
def yY (x : QF) : Bool := exA x && (exD x && Xc none x.seals)
def yi (x : QF) : Int := if yY x = true then 0 else 26
def xi (l : List (Int × Int)) : Nat → Option Int
  | 0 => none
  | k + 1 => (l[k]?).map Prod.fst
def X1 := qd Proofs.Tryz.f33 [zhn 30]
def Xq (Γ : Env) (f : Nat) : Prop := ∀ (x : QF) (hn : x.ep.length < 2 ^ 60), EvN Γ f [x.v] (V.int (yi x))
attribute [local go_sem] JY Yj in
theorem vo {Γ : Env} {f : Nat} (h : Has Γ.P f 89 X1.1.1.ac X1.1.2) (z0 : Wz Γ 58) (z1 : Y4 Γ 59) (z2 : Vv Γ 60) : Xq Γ f := by
  intro x hn
  refine Qb h zsi zcl zcl fun C hC hm => ?_
  subst hC
  simp only [X1, qd, DC.ac]
  have gV := (z0 x.alg x.bits).b
  have gN := (z1 x.ep hn).b
  have hlm : (x.seals.map Yj).length = x.seals.length := List.length_map _
  simp only [QF.v, QF.cells]
  have hA : exA x = (decide (Qn x.alg x.bits > 0) && (!decide (x.pur < 1) && (!decide (x.pur > 4) && Qx x.ep))) := rfl
  have hD : exD x = (!decide (x.fr < 0) && (!decide (x.fr ≥ x.to) && (!decide (x.to > 40001) && !decide ((x.seals.length : Int) > 8)))) := rfl
  rcases hA0 : exA x with _ | _
  · have hE : yi x = 26 := by rw [yi, yY, hA0]; rfl
    rw [hE]
    rw [hA0] at hA
    rcases a1 : decide (Qn x.alg x.bits > 0) with _ | _
    · (have zx := a1); exact zg
    rcases a2 : decide (x.pur < 1) with _ | _
    rotate_left
    · (have zx := And.intro a1 a2); exact zg
    rcases a3 : decide (x.pur > 4) with _ | _
    rotate_left
    · (have zx := And.intro a1 (And.intro a2 a3)); exact zg
    have a4 : Qx x.ep = false := by rw [a1, a2, a3] at hA; exact hA.symm
    (have zx := And.intro a1 (And.intro a2 (And.intro a3 a4))); exact zg
  rw [hA0] at hA
  have hA' := hA.symm
  simp only [Bool.and_eq_true, Bool.not_eq_true'] at hA'
  obtain ⟨a1, a2, a3, a4⟩ := hA'
  rcases hD0 : exD x with _ | _
  · have hE : yi x = 26 := by rw [yi, yY, hA0, hD0]; rfl
    rw [hE]
    rw [hD0] at hD
    rcases b1 : decide (x.fr < 0) with _ | _
    rotate_left
    · (have zx := And.intro a1 (And.intro a2 (And.intro a3 (And.intro a4 b1)))); exact zg
    rcases b2 : decide (x.fr ≥ x.to) with _ | _
    rotate_left
    · (have zx := And.intro a1 (And.intro a2 (And.intro a3 (And.intro a4 (And.intro b1 b2))))); exact zg
    rcases b3 : decide (x.to > 40001) with _ | _
    rotate_left
    · (have zx := And.intro a1 (And.intro a2 (And.intro a3 (And.intro a4 (And.intro b1 (And.intro b2 b3)))))); exact zg
    have b4 : decide ((x.seals.length : Int) > 8) = true := by
      rw [b1, b2, b3] at hD
      simpa using hD.symm
    (have zx := And.intro a1 (And.intro a2 (And.intro a3 (And.intro a4 (And.intro b1 (And.intro b2 (And.intro b3 (And.intro b4 hlm)))))))); exact zg
  rw [hD0] at hD
  have hD' := hD.symm
  simp only [Bool.and_eq_true, Bool.not_eq_true'] at hD'
  obtain ⟨b1, b2, b3, b4⟩ := hD'
  have hE : yi x = if Xc none x.seals = true then 0 else 26 := by rw [yi, yY, hA0, hD0]; rfl
  rw [hE]
  have hl8 : x.seals.length ≤ 8 := by
    have := of_decide_eq_false b4; omega
  (have zx := And.intro a1 (And.intro a2 (And.intro a3 (And.intro a4 (And.intro b1 (And.intro b2 (And.intro b3 (And.intro b4 hlm)))))))); refine zgo ?_; repeat' first | exact zt | apply zan | intro hc
  clear gV gN hA hD hA0 hD0 hE
  generalize x.seals = l at *
  refine Qp (ι := Nat) (fun k => k ≤ l.length ∧ Xc (xi l k) (l.drop k) = Xc none l) (fun k => JY [(1, .ptr 0 0), (51, .sl 2 (l.map Yj)), (52, V.int l.length), (53, V.int k)] [(0, .box true [V.int x.alg, V.int x.bits, V.int x.pur, V.str x.ep, V.int x.fr, V.int x.to, .sl 2 (l.map Yj)])] 1) (fun k => l.length - k) 0 ⟨Nat.zero_le _, rfl⟩ (Qd []) (Qh [] (by simp only [go_sem, zwl, Nat.reduceAdd, Nat.reduceMul, Nat.reduceEqDiff, Nat.reduceLT, Int.reduceToNat, reduceIte, reduceCtorEq, hlm] <;> exact zcc) zwa (by simp [Qd]) (by simp) (by omega)) fun k hk K' hL => ?_
  obtain ⟨hk, hinv⟩ := hk
  rcases hd : l.drop k with _ | ⟨y, r⟩
  · have hkl := QB hd
    have e1 : decide ((k : Int) < ((l.length : Nat) : Int)) = false := by simp; omega
    rw [hd] at hinv
    have hs : Xc none l = true := by rw [← hinv]; cases xi l k <;> rfl
    rw [if_pos hs]
    clear hL
    (have zx := And.intro hlm e1); exact zg
  · obtain ⟨hk', hget, hr⟩ := Qo hd
    have hw := Qg (k := k) (by omega)
    have e1 : decide ((k : Int) < ((l.length : Nat) : Int)) = true := by simp; omega
    have gK := (z2 y.1).b
    rw [hd] at hinv
    have hgo : Xc (xi l k) (y :: r) = (agX y.1 && (!decide (y.2 < 0) && (!decide (y.2 ≥ 4294967296) && ((match xi l k with | none => true | some q => !decide (q ≥ y.1)) && Xc (some y.1) r)))) := rfl
    have hnx : xi l (k + 1) = some y.1 := by rw [xi, hget]; rfl
    obtain ⟨yk, ys⟩ := y
    simp only at hgo gK hnx
    rw [hinv] at hgo
    rcases c1 : agX yk with _ | _
    · rw [c1] at hgo gK
      rw [hgo, if_neg (by simp)]
      clear hL
      (have zx := And.intro hlm (And.intro e1 hget)); exact zg
    rw [c1] at hgo gK
    rcases c2 : decide (ys < 0) with _ | _
    rotate_left
    · rw [hgo, c2, if_neg (by simp)]
      clear hL
      (have zx := And.intro hlm (And.intro e1 (And.intro hget c2))); exact zg
    rcases c3 : decide (ys ≥ 4294967296) with _ | _
    rotate_left
    · rw [hgo, c2, c3, if_neg (by simp)]
      clear hL
      (have zx := And.intro hlm (And.intro e1 (And.intro hget (And.intro c2 c3)))); exact zg
    rw [c2, c3] at hgo
    simp only [Bool.not_false, Bool.true_and] at hgo
    rcases k with _ | j
    · have hgo' : Xc none l = Xc (some yk) r := hgo
      have e2 : decide ((((0 : Nat) : Nat) : Int) > 0) = false := rfl
      (have zx := And.intro hlm (And.intro e1 (And.intro hw (And.intro hget (And.intro c2 (And.intro c3 e2)))))); refine zgo ?_; repeat' first | exact zt | apply zan | intro hc
      all_goals first | exact hL _ 1 (Qd []) ⟨hk', by rw [hr, hnx]; exact hgo'.symm⟩ (by omega) (zwg []) | trace_state
    obtain ⟨⟨pk, ps⟩, hpg⟩ : ∃ q, l[j]? = some q := ⟨_, List.getElem?_eq_getElem (by omega)⟩
    have hpv : xi l (j + 1) = some pk := by rw [xi, hpg]; rfl
    have e2 : decide (((j + 1 : Nat) : Int) > 0) = true := by simp
    have hw2 : IntKind.i64.wrap (((j + 1 : Nat) : Int) - 1) = (j : Int) := by rw [show ((j + 1 : Nat) : Int) - 1 = (j : Int) by omega]; exact QE (by omega) (by omega)
    rw [hpv] at hgo
    simp only at hgo
    rcases c4 : decide (pk ≥ yk) with _ | _
    rotate_left
    · rw [hgo, c4, if_neg (by simp)]
      clear hL
      (have zx := And.intro hlm (And.intro e1 (And.intro hw2 (And.intro hget (And.intro hpg (And.intro c2 (And.intro c3 (And.intro c4 e2)))))))); exact zg
    rw [c4] at hgo
    simp only [Bool.not_false, Bool.true_and] at hgo
    (have zx := And.intro hlm (And.intro e1 (And.intro hw (And.intro hw2 (And.intro hget (And.intro hpg (And.intro c2 (And.intro c3 (And.intro c4 e2))))))))); refine zgo ?_; repeat' first | exact zt | apply zan | intro hc
    all_goals first | exact hL _ (j + 1 + 1) (Qd []) ⟨hk', by rw [hr, hnx]; exact hgo.symm⟩ (by omega) (zwg []) | trace_state
def exP (x : QF) : Ql := ajj [WC x.alg, WC x.bits, WC x.pur, aek x.ep, WC x.fr, WC x.to]
theorem amt (s : List UInt8) : (aek s).siz = 1 + s.length := by rw [aek, Ql.siz, xh]; omega
theorem ahK {x : QF} (h : x.ep.length ≤ 32) : (exP x).siz ≤ 120 := by
  have h1 := wN x.alg
  have h2 := wN x.bits
  have h3 := wN x.pur
  have h4 := wN x.fr
  have h5 := wN x.to
  have h6 := amt x.ep
  rw [exP, ajj, Ql.siz]
  simp only [xh, List.length_nil]
  omega
theorem aqa (n : Int) : (WC n).fB = true := by simp [WC, Ql.fB, fL, hdB, aii]
theorem apN (s : List UInt8) : (aek s).fB = true := by simp [aek, Ql.fB, fL, hdB, aii]
theorem ard (x : QF) : (exP x).fB = true := by simp [exP, ajj, Ql.fB, fL, hdB, aii, aqa, apN]
theorem ao9 (x : QF) : (exP x).dep = 2 := rfl
theorem aeH {x : QF} (h : x.ep.length ≤ 32) : (exP x).pB.length ≤ 1200 := by
  have := ais (exP x)
  have := ahK h
  omega
theorem alG {x : QF} (h : x.ep.length ≤ 32) : aof (exP x) = .tup [.sl 1 (JC (exP x).pB), V.int 0] := by
  have := aeH h
  rw [aof, ard, ao9, if_neg (by decide), if_neg (by decide), if_neg (by omega)]
def exV (x : QF) : V := if yY x = true then .tup [.sl 1 (JC (exP x).pB), V.int 0] else .tup [.sl 1 [], V.int 26]
theorem ad6 (x : QF) : (exV x).closed := by
  unfold exV; split <;> simp only [V.closed, Qc, and_self]
structure QF.Sz (x : QF) : Prop where
  a : -9223372036854775808 ≤ x.alg ∧ x.alg < 9223372036854775808
  b : -9223372036854775808 ≤ x.bits ∧ x.bits < 9223372036854775808
  e : x.ep.length < 2 ^ 60
theorem aeI {x : QF} (h : yY x = true) : x.ep.length ≤ 32 ∧ (1 ≤ x.pur ∧ x.pur ≤ 4) ∧ 0 ≤ x.fr ∧ x.fr < x.to ∧ x.to ≤ 40001 ∧ x.seals.length ≤ 8 ∧ Xc none x.seals = true := by
  simp only [yY, exA, exD, Qx, Bool.and_eq_true, Bool.not_eq_true', decide_eq_true_eq, decide_eq_false_iff_not] at h
  obtain ⟨⟨h1, h2, h3, h4, h5, h6⟩, ⟨h7, h8, h9, h10⟩, h11⟩ := h
  exact ⟨by omega, ⟨by omega, by omega⟩, by omega, by omega, by omega, by omega, h11⟩
def X2 := qd Proofs.Tryz.f102 [⟨fun _ => true, [23], zoc 0 29⟩]
def Vs (Γ : Env) (f : Nat) : Prop := ∀ (x : QF) (hz : x.Sz), EvC Γ f [x.v] (exV x)
theorem vq {Γ : Env} {f : Nat} (h : Has Γ.P f 37 X2.1.1.ac X2.1.2) (z0 : Xq Γ 33) (z1 : aaV Γ 162) (z2 : wj Γ 163) (z3 : ac5 Γ 161) (z4 : jJ Γ 160) : Vs Γ f := by
  intro x hz
  refine Qm h zsi (ad6 _) fun C hC hm => ?_
  subst hC
  simp only [X2, qd, DC.ac]
  have gC := (z0 x hz.e).b
  rw [yi] at gC
  rw [exV]
  by_cases hok : yY x = true
  rotate_left
  · rw [if_neg hok]
    rw [if_neg hok] at gC
    simp only [QF.v, QF.cells] at *
    exact zg
  rw [if_pos hok]
  rw [if_pos hok] at gC
  obtain ⟨o1, o2, o3, o4, o5, o6, o7⟩ := aeI hok
  have g1 := (z1 x.alg hz.a.1 hz.a.2).b
  have g2 := (z1 x.bits hz.b.1 hz.b.2).b
  have g3 := (z1 x.pur (by omega) (by omega)).b
  have g4 := (z2 x.ep (by omega)).b
  have g5 := (z1 x.fr (by omega) (by omega)).b
  have g6 := (z1 x.to (by omega) (by omega)).b
  have s1 := ahK o1
  have s2 : xh [WC x.alg, WC x.bits, WC x.pur, aek x.ep, WC x.fr, WC x.to] < 2 ^ 33 := by
    rw [exP, ajj, Ql.siz] at s1; omega
  have g7 := z3 [WC x.alg, WC x.bits, WC x.pur, aek x.ep, WC x.fr, WC x.to] s2
  have g8 := (z4 (exP x) (by omega) (by have := aeH o1; omega)).b
  rw [alG o1] at g8
  have hv : exP x = ajj [WC x.alg, WC x.bits, WC x.pur, aek x.ep, WC x.fr, WC x.to] := rfl
  generalize (exP x).pB = p at *
  rw [hv] at g8
  clear s1 s2 hv
  simp only [List.map_cons, List.map_nil] at g7
  generalize (ajj [WC x.alg, WC x.bits, WC x.pur, aek x.ep, WC x.fr, WC x.to]) = res at *
  generalize WC x.alg = a1 at *
  generalize WC x.bits = a2 at *
  generalize WC x.pur = a3 at *
  generalize WC x.fr = a4 at *
  generalize WC x.to = a5 at *
  generalize aek x.ep = a6 at *
  obtain ⟨_, _, _, _⟩ := res; obtain ⟨_, _, _, _⟩ := a1; obtain ⟨_, _, _, _⟩ := a2; obtain ⟨_, _, _, _⟩ := a3; obtain ⟨_, _, _, _⟩ := a4; obtain ⟨_, _, _, _⟩ := a5; obtain ⟨_, _, _, _⟩ := a6
  simp only [Ql.v_eq] at *
  simp only [QF.v, QF.cells] at *
  repeat' (first | (refine zsk ?_; intro K' hK) | (refine zrg ?_; intro K' hK) | refine zsp ?_ | (refine zsc ?_ ?_ <;> intro hc <;> first | exact znh | try simp only [znz] at hc) | simp (maxSteps := 1000000) only [go_sem, Nat.reduceAdd, Nat.reduceMul, Nat.reduceEqDiff, Nat.reduceLeDiff, Nat.reduceLT, Nat.reduceSub, Int.reduceEq, Int.reduceBEq, Int.reduceLT, Int.reduceLE, Int.reduceAdd, Int.reduceToNat, reduceIte, reduceCtorEq, V.shutOk0, XC, V.shut0, V2, ntL, not_false_eq_true, List.getElem?_cons_zero, List.getElem?_cons_succ] | (refine hK _ ?_; clear hK K') | apply zan | (apply agI; (focus first | exact g7)) | (apply ae6; (focus first | exact g7); (focus first | exact rfl | decide)) | ((first | apply Qv | apply QQ); (focus first | exact gC | exact g1 | exact g2 | exact g3 | exact g4 | exact g5 | exact g6 | exact g8 | exact (z0 _ zsd).b | exact (z1 _ zsd zsd).b | exact (z2 _ zsd).b | exact (z3 _ zsd).b | exact (z4 _ zsd zsd).b)) | exact zsq | fail)
  all_goals first | exact zr | trace_state
def Xk := qd Proofs.Tryz.f70 []
def WO (Γ : Env) (f : Nat) : Prop := ∀ (x : QF) (u : Int × Int) (pur : Int) (hst : List UInt8) (day : Int), EvN Γ f [x.v, Yj u, V.int pur, V.str hst, V.int day] (V.bool ((x.alg == u.1 && x.bits == u.2) && (x.pur == pur && (x.ep == hst && (decide (x.fr ≤ day) && decide (day < x.to))))))
theorem xW {Γ : Env} {f : Nat} (h : Has Γ.P f 41 Xk.1.1.ac Xk.1.2)  : WO Γ f := by
  intro x u pur hst day
  refine Qb h zsi zcl zcl fun C hC hm => ?_
  subst hC
  simp only [Xk, qd, DC.ac]
  simp only [QF.v, QF.cells, Yj]
  rcases a1 : x.alg == u.1 with _ | _ <;> rcases a2 : x.bits == u.2 with _ | _ <;> rcases a3 : x.pur == pur with _ | _ <;> rcases a4 : x.ep == hst with _ | _ <;> rcases a5 : decide (x.fr ≤ day) with _ | _
  all_goals
    (have zx := And.intro a1 (And.intro a2 (And.intro a3 (And.intro a4 a5)))); exact zg
theorem aa1 (k : Int) : ∀ (ks : List Int) (i : Nat), k ∉ ks → Uq false [0] (V.int k) (ks.map V.int) i = some none
  | [], _, _ => rfl
  | e :: r, i, hn => by
    have h : VE false [0] (V.int k) (V.int e) = some (k == e) := by simp [VE, Jk]
    rw [List.map_cons, Uq, h]
    have hk : (k == e) = false := by
      have : k ≠ e := fun he => hn (he ▸ List.mem_cons_self)
      simpa using this
    rw [hk]
    exact aa1 k r (i + 1) fun hm => hn (List.mem_cons_of_mem _ hm)
theorem akC : ∀ {l : List (Int × Int)} {p : Option Int}, Xc p l = true → (∀ q, p = some q → ∀ s ∈ l, q < s.1) ∧ l.Pairwise (fun a b => a.1 < b.1)
  | [], _, _ => ⟨fun _ _ _ h => (by simp at h), List.Pairwise.nil⟩
  | s :: r, p, h => by
    simp only [Xc, Bool.and_eq_true, Bool.not_eq_true', decide_eq_false_iff_not] at h
    obtain ⟨_, _, _, h4, h5⟩ := h
    obtain ⟨g1, g2⟩ := akC h5
    refine ⟨fun q hq t ht => ?_, List.pairwise_cons.2 ⟨fun t ht => g1 _ rfl t ht, g2⟩⟩
    subst hq
    have hqs : q < s.1 := by simpa using h4
    rcases List.mem_cons.1 ht with rfl | ht
    · exact hqs
    · have := g1 _ rfl t ht; omega
theorem ajo {l : List (Int × Int)} (h : l.Pairwise (fun a b => a.1 < b.1)) {k : Nat} {s : Int × Int} (hk : l[k]? = some s) : s.1 ∉ (l.take k).map Prod.fst := by
  intro hm
  obtain ⟨t, ht, he⟩ := List.mem_map.1 hm
  obtain ⟨j, hj⟩ := List.mem_iff_getElem?.1 ht
  rw [List.getElem?_take] at hj
  split at hj
  · rename_i hjk
    obtain ⟨h1, e1⟩ := List.getElem?_eq_some_iff.1 hj
    obtain ⟨h2, e2⟩ := List.getElem?_eq_some_iff.1 hk
    have := List.pairwise_iff_getElem.1 h j k h1 h2 hjk
    rw [e1, e2] at this; omega
  · cases hj
theorem W2 (f : Nat → Nat) (xs : List Int) : US f (xs.map V.int) = xs.map V.int := QP _ _ (by induction xs with | nil => trivial | cons x r ih => exact ⟨trivial, ih⟩)
theorem U0 (n : Nat) (xs : List Int) : ltL n (xs.map V.int) := JA _ _ (by induction xs with | nil => trivial | cons x r ih => exact ⟨trivial, ih⟩)
def alt {α : Type} (q : α → Bool) (l : List α) (is : List Nat) : Nat := is.countP fun i => (l[i]?.map q).getD false
theorem agx {α : Type} (q : α → Bool) : ∀ l : List α, (List.range l.length).countP (fun i => (l[i]?.map q).getD false) = l.countP q := by
  intro l
  induction l with
  | nil => rfl
  | cons x r ih =>
    rw [List.length_cons, List.range_succ_eq_map, List.countP_cons, List.countP_map, List.countP_cons, ← ih]
    simp [Function.comp_def]
theorem ani {α : Type} (q : α → Bool) {l : List α} {is : List Nat} (h1 : is.Nodup) (h2 : ∀ a ∈ is, a < l.length) (h3 : ∀ a, a < l.length → a ∈ is) : alt q l is = l.countP q := by
  have hp : is.Perm (List.range l.length) := (List.perm_ext_iff_of_nodup h1 List.nodup_range).2 fun a => by
    rw [List.mem_range]; exact ⟨h2 a, h3 a⟩
  rw [alt, hp.countP_eq, agx]
theorem aiH {α : Type} (q : α → Bool) {l : List α} (is : List Nat) {a : Nat} {s : α} (h : l[a]? = some s) : alt q l (is ++ [a]) = if q s = true then alt q l is + 1 else alt q l is := by
  rw [alt, List.countP_append, List.countP_singleton, h]
  by_cases hq : q s = true
  · rw [if_pos hq, Option.map_some, Option.getD_some, if_pos hq]; rfl
  · rw [if_neg hq, Option.map_some, Option.getD_some, if_neg hq]; rfl
theorem aoX {α : Type} (q : α → Bool) (l : List α) (is : List Nat) : alt q l is ≤ is.length := List.countP_le_length
def ajT (x : QF) (keys : List Int) (s : Int × Int) : Bool := s.2 == Us (exP x).pB && decide (Ud s.1 0 keys ≥ 0)
def xk (x : QF) (keys : List Int) (need : Int) : Bool := yY x && (!decide (need < 1) && decide (((x.seals.countP (ajT x keys) : Nat) : Int) ≥ need))
def vS1 (l : List (Int × Int)) (p : List UInt8) (keys : List Int) (need : Int) (k : Nat) : St := JY [(3, .ptr 0 0), (5, .sl 1 (JC p)), (7, .mp 1), (27, .sl 2 (l.map Yj)), (28, V.int l.length), (29, V.int k)] [(0, .box true [.sl 1 (keys.map V.int), V.int need]), (1, .map (((l.take k).map Prod.fst).map V.int) (((l.take k).map Prod.snd).map V.int) 0)] 2
def vS2 (l : List (Int × Int)) (p : List UInt8) (keys : List Int) (need : Int) (q : Int × Int → Bool) (is : List Nat) : St := JY [(3, .ptr 0 0), (5, .sl 1 (JC p)), (10, V.int (alt q l is : Nat)), (40, .ptr 2 0)] [(0, .box true [.sl 1 (keys.map V.int), V.int need]), (1, .map ((l.map Prod.fst).map V.int) ((l.map Prod.snd).map V.int) 0), (2, .iter 1 l.length is l.length)] 3
def X0 := qd Proofs.Tryz.f71 []
def Vr (Γ : Env) (f : Nat) : Prop := ∀ (x : QF) (keys : List Int) (need : Int) (hz : x.Sz) (hk : keys.length < 2 ^ 62), EvN Γ f [x.v, .agg [.sl 1 (keys.map V.int), V.int need]] (V.bool (xk x keys need))
theorem vn {Γ : Env} {f : Nat} (h : Has Γ.P f 62 X0.1.1.ac X0.1.2) (z0 : Vs Γ 102) (z1 : Vu Γ 103) (z2 : Jt Γ 104) : Vr Γ f := by
  intro x keys need hz hk
  refine Qb h zsi zcl zcl fun C hC hm => ?_
  subst hC
  simp only [X0, qd, DC.ac]
  have gB := (z0 x hz).b
  rw [exV] at gB
  by_cases hok : yY x = true
  rotate_left
  · rw [if_neg hok] at gB
    have hv : xk x keys need = false := by rw [xk, Bool.eq_false_iff.2 hok]; rfl
    rw [hv]
    simp only [QF.v, QF.cells] at *
    repeat' (first | (refine zsk ?_; intro K' hK) | refine zsp ?_ | (refine zsc ?_ ?_ <;> intro hc <;> first | exact znh | try simp only [znz] at hc) | simp (maxSteps := 1000000) only [go_sem, Nat.reduceAdd, Nat.reduceMul, Nat.reduceEqDiff, Nat.reduceLeDiff, Nat.reduceLT, Nat.reduceSub, Int.reduceEq, Int.reduceBEq, Int.reduceLT, Int.reduceLE, Int.reduceAdd, Int.reduceToNat, reduceIte, reduceCtorEq] | (refine hK _ ?_; clear hK K') | apply zan | (apply Qv; (focus first | exact gB | exact (z0 _ zsd).b | exact (z1 _ zsd).b | exact (z2 _ _ zsd).b)) | exact zsq | fail)
    all_goals first | exact zr | trace_state
  rw [if_pos hok] at gB
  have hv : xk x keys need = (!decide (need < 1) && decide (((x.seals.countP (ajT x keys) : Nat) : Int) ≥ need)) := by rw [xk, hok]; rfl
  rw [hv]
  rcases d1 : decide (need < 1) with _ | _
  rotate_left
  · simp only [QF.v, QF.cells] at *
    repeat' (first | (refine zsk ?_; intro K' hK) | refine zsp ?_ | (refine zsc ?_ ?_ <;> intro hc <;> first | exact znh | try simp only [znz] at hc) | simp (maxSteps := 1000000) only [go_sem, Nat.reduceAdd, Nat.reduceMul, Nat.reduceEqDiff, Nat.reduceLeDiff, Nat.reduceLT, Nat.reduceSub, Int.reduceEq, Int.reduceBEq, Int.reduceLT, Int.reduceLE, Int.reduceAdd, Int.reduceToNat, reduceIte, reduceCtorEq, d1] | (refine hK _ ?_; clear hK K') | apply zan | (apply Qv; (focus first | exact gB | exact (z0 _ zsd).b | exact (z1 _ zsd).b | exact (z2 _ _ zsd).b)) | exact zsq | fail)
    all_goals first | exact zr | trace_state
  obtain ⟨o1, o2, o3, o4, o5, o6, o7⟩ := aeI hok
  have hpw := (akC o7).2
  have hpl := aeH o1
  simp only [QF.v, QF.cells] at *
  have hq : ajT x keys = fun s => s.2 == Us (exP x).pB && decide (Ud s.1 0 keys ≥ 0) := rfl
  generalize ajT x keys = q at *
  generalize (exP x).pB = p at *
  generalize hl : x.seals = l at *
  have hlm : (l.map Yj).length = l.length := List.length_map _
  simp only [Bool.not_false, Bool.true_and]
  repeat' (first | (refine zsk ?_; intro K' hK) | refine zsp ?_ | (refine zsc ?_ ?_ <;> intro hc <;> first | exact znh | try simp only [znz] at hc) | simp (maxSteps := 1000000) only [go_sem, Nat.reduceAdd, Nat.reduceMul, Nat.reduceEqDiff, Nat.reduceLeDiff, Nat.reduceLT, Nat.reduceSub, Int.reduceEq, Int.reduceBEq, Int.reduceLT, Int.reduceLE, Int.reduceAdd, Int.reduceToNat, reduceIte, reduceCtorEq, d1, hlm] | (refine hK _ ?_; clear hK K') | apply zan | (apply Qv; (focus first | exact gB | exact (z0 _ zsd).b | exact (z1 _ zsd).b | exact (z2 _ _ zsd).b)) | exact zsq | fail)
  refine Qp (ι := Nat) (fun k => k ≤ l.length) (fun k => vS1 l p keys need k) (fun k => l.length - k) 0 (Nat.zero_le _) (Qd [(0, 1000), (1, 17000)]) (Qh [(0, 1000), (1, 17000)] (by simp only [go_sem, zwl, Nat.reduceAdd, Nat.reduceMul, Nat.reduceEqDiff, Nat.reduceLT, Int.reduceToNat, reduceIte, reduceCtorEq, vS1, hlm] <;> exact zcc) (by simp only [go_sem, zwl, Nat.reduceAdd, Nat.reduceMul, Nat.reduceEqDiff, Nat.reduceLT, Int.reduceToNat, reduceIte, reduceCtorEq, vS1, List.take_zero, List.map_nil] <;> exact zcc) (by simp [vS1, Qd]) (by simp [vS1]; omega) (by omega)) fun k hk2 K' hL => ?_
  rcases hd : l.drop k with _ | ⟨y, r⟩
  · have hkl := QB hd
    have e1 : decide ((k : Int) < ((l.length : Nat) : Int)) = false := by simp; omega
    obtain rfl : k = l.length := by omega
    clear hL
    simp only [vS1, List.take_length]
    have hkl1 : ((l.map Prod.fst).map V.int).length = l.length := by simp
    have hkl2 : (l.map Prod.fst).length = l.length := by simp
    repeat' (first | (refine zsk ?_; intro K' hK) | refine zsp ?_ | (refine zsc ?_ ?_ <;> intro hc <;> first | exact znh | try simp only [znz] at hc) | simp (maxSteps := 1000000) only [go_sem, Nat.reduceAdd, Nat.reduceMul, Nat.reduceEqDiff, Nat.reduceLeDiff, Nat.reduceLT, Nat.reduceSub, Int.reduceEq, Int.reduceBEq, Int.reduceLT, Int.reduceLE, Int.reduceAdd, Int.reduceToNat, reduceIte, reduceCtorEq, JY, hlm, e1, hkl1, hkl2, List.length_map, Nat.zero_add] | (refine hK _ ?_; clear hK K') | apply zan | (apply Qv; (focus first | exact (z0 _ zsd).b | exact (z1 _ zsd).b | exact (z2 _ _ zsd).b)) | exact zsq | fail)
    have hv0 : alt q l [] = 0 := rfl
    have gS := (z1 p (by omega)).b
    refine Qp (ι := List Nat) (fun is => is.Nodup ∧ ∀ a ∈ is, a < l.length) (fun is => vS2 l p keys need q is) (fun is => l.length - is.length) [] ⟨List.nodup_nil, by simp⟩ (Qd [(2, 3002)]) (Qh [(2, 3002)] (by simp only [go_sem, zwl, Nat.reduceAdd, Nat.reduceMul, Nat.reduceEqDiff, Nat.reduceLT, Int.reduceToNat, reduceIte, reduceCtorEq, vS2, hv0] <;> exact zcc) (by simp only [go_sem, zwl, Nat.reduceAdd, Nat.reduceMul, Nat.reduceEqDiff, Nat.reduceLT, Int.reduceToNat, reduceIte, reduceCtorEq, vS2, W2, U0] <;> exact zcc) (by simp [vS2, Qd]) (by simp [vS2]; omega) (by omega)) fun is his K' hL => ?_
    obtain ⟨his1, his2⟩ := his
    have hln : ∀ js : List Nat, js.Nodup → (∀ a ∈ js, a < l.length) → js.length ≤ l.length := fun js h1 h2 => by
      have := List.Nodup.length_le_of_subset h1 (fun a ha => List.mem_range.2 (h2 a ha))
      rwa [List.length_range] at this
    have hvl := aoX q l is
    have hil := hln is his1 his2
    rcases hun : wt 0 l.length is with _ | ⟨u, us⟩
    · have hall : ∀ a, a < l.length → a ∈ is := fun a ha => by
        by_cases hin : a ∈ is
        · exact hin
        · have : a ∈ wt 0 l.length is := UT.2 ⟨ha, by rwa [Nat.zero_add]⟩
          rw [hun] at this; cases this
      have hcn := ani q his1 his2 hall
      clear hL
      simp only [vS2, hcn]
      repeat' (first | (refine zsk ?_; intro K' hK) | refine zsp ?_ | (refine zsc ?_ ?_ <;> intro hc <;> first | exact znh | try simp only [znz] at hc) | simp (maxSteps := 1000000) only [go_sem, Nat.reduceAdd, Nat.reduceMul, Nat.reduceEqDiff, Nat.reduceLeDiff, Nat.reduceLT, Nat.reduceSub, Int.reduceEq, Int.reduceBEq, Int.reduceLT, Int.reduceLE, Int.reduceAdd, Int.reduceToNat, reduceIte, reduceCtorEq, JY, hkl1, hkl2, List.length_map, Nat.zero_add, hun] | (refine hK _ ?_; clear hK K') | apply zan | (apply Qv; (focus first | exact (z0 _ zsd).b | exact (z1 _ zsd).b | exact (z2 _ _ zsd).b)) | exact zsq | fail)
      all_goals first | exact zr | trace_state
    have hU : ∀ x, x ∈ u :: us → x < l.length ∧ x ∉ is ∧ ∃ s, l[x]? = some s := fun x hx => by
      have h1 := UT.1 (hun ▸ hx)
      rw [Nat.zero_add] at h1
      exact ⟨h1.1, h1.2, _, List.getElem?_eq_getElem h1.1⟩
    simp only [vS2]
    repeat' (first | (refine zsk ?_; intro K' hK) | refine zsp ?_ | (refine zsc ?_ ?_ <;> intro hc <;> first | exact znh | try simp only [znz] at hc) | simp (maxSteps := 1000000) only [go_sem, Nat.reduceAdd, Nat.reduceMul, Nat.reduceEqDiff, Nat.reduceLeDiff, Nat.reduceLT, Nat.reduceSub, Int.reduceEq, Int.reduceBEq, Int.reduceLT, Int.reduceLE, Int.reduceAdd, Int.reduceToNat, reduceIte, reduceCtorEq, JY, hkl1, hkl2, List.length_map, Nat.zero_add, hun] | (refine hK _ ?_; clear hK K') | apply zan | (apply Qv; (focus first | exact (z0 _ zsd).b | exact (z1 _ zsd).b | exact (z2 _ _ zsd).b)) | exact zsq | fail)
    · obtain ⟨x, hx0⟩ : ∃ x, x = u := ⟨u, rfl⟩
      have hx : x ∈ u :: us := hx0 ▸ List.mem_cons_self
      rw [← hx0]
      obtain ⟨hx1, hx2, ⟨yk, ys⟩, hsx⟩ := hU x hx
      have vk : ((l.map Prod.fst).map V.int)[x]? = some (V.int yk) := by rw [List.getElem?_map, List.getElem?_map, hsx]; rfl
      have vv : ((l.map Prod.snd).map V.int)[x]? = some (V.int ys) := by rw [List.getElem?_map, List.getElem?_map, hsx]; rfl
      have gT := (z2 keys yk hk).b
      have hap := aiH q is hsx
      have hnd : (is ++ [x]).Nodup := by rw [List.nodup_append]; exact ⟨his1, by simp, fun a ha b hb => by rw [List.mem_singleton.1 hb]; exact fun he => hx2 (he ▸ ha)⟩
      have hbd : ∀ a ∈ is ++ [x], a < l.length := fun a ha => by
        rcases List.mem_append.1 ha with h | h
        · exact his2 a h
        · rw [List.mem_singleton.1 h]; exact hx1
      have hln2 := hln _ hnd hbd
      rw [List.length_append, List.length_singleton] at hln2
      have hms : l.length - (is ++ [x]).length < l.length - is.length := by rw [List.length_append, List.length_singleton]; omega
      have hqv : q (yk, ys) = (ys == Us p && decide (Ud yk 0 keys ≥ 0)) := by rw [hq]
      rw [hqv] at hap
      rcases c1 : ys == Us p with _ | _
      · rw [c1, Bool.false_and, if_neg (by decide)] at hap
        repeat' (first | (refine zsk ?_; intro K' hK) | refine zsp ?_ | (refine zsc ?_ ?_ <;> intro hc <;> first | exact znh | try simp only [znz] at hc) | simp (maxSteps := 1000000) only [go_sem, Nat.reduceAdd, Nat.reduceMul, Nat.reduceEqDiff, Nat.reduceLeDiff, Nat.reduceLT, Nat.reduceSub, Int.reduceEq, Int.reduceBEq, Int.reduceLT, Int.reduceLE, Int.reduceAdd, Int.reduceToNat, reduceIte, reduceCtorEq, JY, hkl1, hkl2, vk, vv, c1, List.length_map, Nat.zero_add, List.getLast?_concat, Nat.sub_zero, Nat.zero_le] | (refine hK _ ?_; clear hK K') | apply zan | (apply Qv; (focus first | exact gS | exact (z0 _ zsd).b | exact (z1 _ zsd).b | exact (z2 _ _ zsd).b)) | exact zsq | fail)
        all_goals first | exact hL _ (is ++ [x]) (Qd []) ⟨hnd, hbd⟩ hms (Qh [] (by simp only [go_sem, zwl, Nat.reduceAdd, Nat.reduceMul, Nat.reduceEqDiff, Nat.reduceLT, Int.reduceToNat, reduceIte, reduceCtorEq, vS2, hap] <;> exact zcc) (by simp only [go_sem, zwl, Nat.reduceAdd, Nat.reduceMul, Nat.reduceEqDiff, Nat.reduceLT, Int.reduceToNat, reduceIte, reduceCtorEq, vS2, W2, U0] <;> exact zcc) (by simp [vS2, Qd]) (by simp [vS2]) (by omega)) | trace_state
      rw [c1, Bool.true_and] at hap
      rcases c2 : decide (Ud yk 0 keys ≥ 0) with _ | _
      · rw [c2] at gT
        rw [c2, if_neg (by decide)] at hap
        repeat' (first | (refine zsk ?_; intro K' hK) | refine zsp ?_ | (refine zsc ?_ ?_ <;> intro hc <;> first | exact znh | try simp only [znz] at hc) | simp (maxSteps := 1000000) only [go_sem, Nat.reduceAdd, Nat.reduceMul, Nat.reduceEqDiff, Nat.reduceLeDiff, Nat.reduceLT, Nat.reduceSub, Int.reduceEq, Int.reduceBEq, Int.reduceLT, Int.reduceLE, Int.reduceAdd, Int.reduceToNat, reduceIte, reduceCtorEq, JY, hkl1, hkl2, vk, vv, c1, List.length_map, Nat.zero_add, List.getLast?_concat, Nat.sub_zero, Nat.zero_le] | (refine hK _ ?_; clear hK K') | apply zan | (apply Qv; (focus first | exact gS | exact gT | exact (z0 _ zsd).b | exact (z1 _ zsd).b | exact (z2 _ _ zsd).b)) | exact zsq | fail)
        all_goals first | exact hL _ (is ++ [x]) (Qd []) ⟨hnd, hbd⟩ hms (Qh [] (by simp only [go_sem, zwl, Nat.reduceAdd, Nat.reduceMul, Nat.reduceEqDiff, Nat.reduceLT, Int.reduceToNat, reduceIte, reduceCtorEq, vS2, hap] <;> exact zcc) (by simp only [go_sem, zwl, Nat.reduceAdd, Nat.reduceMul, Nat.reduceEqDiff, Nat.reduceLT, Int.reduceToNat, reduceIte, reduceCtorEq, vS2, W2, U0] <;> exact zcc) (by simp [vS2, Qd]) (by simp [vS2]) (by omega)) | trace_state
      · rw [c2] at gT
        rw [c2, if_pos rfl] at hap
        have hw := Qg (k := alt q l is) (by omega)
        repeat' (first | (refine zsk ?_; intro K' hK) | refine zsp ?_ | (refine zsc ?_ ?_ <;> intro hc <;> first | exact znh | try simp only [znz] at hc) | simp (maxSteps := 1000000) only [go_sem, Nat.reduceAdd, Nat.reduceMul, Nat.reduceEqDiff, Nat.reduceLeDiff, Nat.reduceLT, Nat.reduceSub, Int.reduceEq, Int.reduceBEq, Int.reduceLT, Int.reduceLE, Int.reduceAdd, Int.reduceToNat, reduceIte, reduceCtorEq, JY, hkl1, hkl2, vk, vv, c1, hw, List.length_map, Nat.zero_add, List.getLast?_concat, Nat.sub_zero, Nat.zero_le] | (refine hK _ ?_; clear hK K') | apply zan | (apply Qv; (focus first | exact gS | exact gT | exact (z0 _ zsd).b | exact (z1 _ zsd).b | exact (z2 _ _ zsd).b)) | exact zsq | fail)
        all_goals first | exact hL _ (is ++ [x]) (Qd []) ⟨hnd, hbd⟩ hms (Qh [] (by simp only [go_sem, zwl, Nat.reduceAdd, Nat.reduceMul, Nat.reduceEqDiff, Nat.reduceLT, Int.reduceToNat, reduceIte, reduceCtorEq, vS2, hap] <;> exact zcc) (by simp only [go_sem, zwl, Nat.reduceAdd, Nat.reduceMul, Nat.reduceEqDiff, Nat.reduceLT, Int.reduceToNat, reduceIte, reduceCtorEq, vS2, W2, U0] <;> exact zcc) (by simp [vS2, Qd]) (by simp [vS2]) (by omega)) | trace_state
    · intro x hx
      have hx : x ∈ u :: us := List.mem_cons_of_mem _ hx
      obtain ⟨hx1, hx2, ⟨yk, ys⟩, hsx⟩ := hU x hx
      have vk : ((l.map Prod.fst).map V.int)[x]? = some (V.int yk) := by rw [List.getElem?_map, List.getElem?_map, hsx]; rfl
      have vv : ((l.map Prod.snd).map V.int)[x]? = some (V.int ys) := by rw [List.getElem?_map, List.getElem?_map, hsx]; rfl
      have gT := (z2 keys yk hk).b
      have hap := aiH q is hsx
      have hnd : (is ++ [x]).Nodup := by rw [List.nodup_append]; exact ⟨his1, by simp, fun a ha b hb => by rw [List.mem_singleton.1 hb]; exact fun he => hx2 (he ▸ ha)⟩
      have hbd : ∀ a ∈ is ++ [x], a < l.length := fun a ha => by
        rcases List.mem_append.1 ha with h | h
        · exact his2 a h
        · rw [List.mem_singleton.1 h]; exact hx1
      have hln2 := hln _ hnd hbd
      rw [List.length_append, List.length_singleton] at hln2
      have hms : l.length - (is ++ [x]).length < l.length - is.length := by rw [List.length_append, List.length_singleton]; omega
      have hqv : q (yk, ys) = (ys == Us p && decide (Ud yk 0 keys ≥ 0)) := by rw [hq]
      rw [hqv] at hap
      rcases c1 : ys == Us p with _ | _
      · rw [c1, Bool.false_and, if_neg (by decide)] at hap
        repeat' (first | (refine zsk ?_; intro K' hK) | refine zsp ?_ | (refine zsc ?_ ?_ <;> intro hc <;> first | exact znh | try simp only [znz] at hc) | simp (maxSteps := 1000000) only [go_sem, Nat.reduceAdd, Nat.reduceMul, Nat.reduceEqDiff, Nat.reduceLeDiff, Nat.reduceLT, Nat.reduceSub, Int.reduceEq, Int.reduceBEq, Int.reduceLT, Int.reduceLE, Int.reduceAdd, Int.reduceToNat, reduceIte, reduceCtorEq, JY, hkl1, hkl2, vk, vv, c1, List.length_map, Nat.zero_add, List.getLast?_concat, Nat.sub_zero, Nat.zero_le] | (refine hK _ ?_; clear hK K') | apply zan | (apply Qv; (focus first | exact gS | exact (z0 _ zsd).b | exact (z1 _ zsd).b | exact (z2 _ _ zsd).b)) | exact zsq | fail)
        all_goals first | exact hL _ (is ++ [x]) (Qd []) ⟨hnd, hbd⟩ hms (Qh [] (by simp only [go_sem, zwl, Nat.reduceAdd, Nat.reduceMul, Nat.reduceEqDiff, Nat.reduceLT, Int.reduceToNat, reduceIte, reduceCtorEq, vS2, hap] <;> exact zcc) (by simp only [go_sem, zwl, Nat.reduceAdd, Nat.reduceMul, Nat.reduceEqDiff, Nat.reduceLT, Int.reduceToNat, reduceIte, reduceCtorEq, vS2, W2, U0] <;> exact zcc) (by simp [vS2, Qd]) (by simp [vS2]) (by omega)) | trace_state
      rw [c1, Bool.true_and] at hap
      rcases c2 : decide (Ud yk 0 keys ≥ 0) with _ | _
      · rw [c2] at gT
        rw [c2, if_neg (by decide)] at hap
        repeat' (first | (refine zsk ?_; intro K' hK) | refine zsp ?_ | (refine zsc ?_ ?_ <;> intro hc <;> first | exact znh | try simp only [znz] at hc) | simp (maxSteps := 1000000) only [go_sem, Nat.reduceAdd, Nat.reduceMul, Nat.reduceEqDiff, Nat.reduceLeDiff, Nat.reduceLT, Nat.reduceSub, Int.reduceEq, Int.reduceBEq, Int.reduceLT, Int.reduceLE, Int.reduceAdd, Int.reduceToNat, reduceIte, reduceCtorEq, JY, hkl1, hkl2, vk, vv, c1, List.length_map, Nat.zero_add, List.getLast?_concat, Nat.sub_zero, Nat.zero_le] | (refine hK _ ?_; clear hK K') | apply zan | (apply Qv; (focus first | exact gS | exact gT | exact (z0 _ zsd).b | exact (z1 _ zsd).b | exact (z2 _ _ zsd).b)) | exact zsq | fail)
        all_goals first | exact hL _ (is ++ [x]) (Qd []) ⟨hnd, hbd⟩ hms (Qh [] (by simp only [go_sem, zwl, Nat.reduceAdd, Nat.reduceMul, Nat.reduceEqDiff, Nat.reduceLT, Int.reduceToNat, reduceIte, reduceCtorEq, vS2, hap] <;> exact zcc) (by simp only [go_sem, zwl, Nat.reduceAdd, Nat.reduceMul, Nat.reduceEqDiff, Nat.reduceLT, Int.reduceToNat, reduceIte, reduceCtorEq, vS2, W2, U0] <;> exact zcc) (by simp [vS2, Qd]) (by simp [vS2]) (by omega)) | trace_state
      · rw [c2] at gT
        rw [c2, if_pos rfl] at hap
        have hw := Qg (k := alt q l is) (by omega)
        repeat' (first | (refine zsk ?_; intro K' hK) | refine zsp ?_ | (refine zsc ?_ ?_ <;> intro hc <;> first | exact znh | try simp only [znz] at hc) | simp (maxSteps := 1000000) only [go_sem, Nat.reduceAdd, Nat.reduceMul, Nat.reduceEqDiff, Nat.reduceLeDiff, Nat.reduceLT, Nat.reduceSub, Int.reduceEq, Int.reduceBEq, Int.reduceLT, Int.reduceLE, Int.reduceAdd, Int.reduceToNat, reduceIte, reduceCtorEq, JY, hkl1, hkl2, vk, vv, c1, hw, List.length_map, Nat.zero_add, List.getLast?_concat, Nat.sub_zero, Nat.zero_le] | (refine hK _ ?_; clear hK K') | apply zan | (apply Qv; (focus first | exact gS | exact gT | exact (z0 _ zsd).b | exact (z1 _ zsd).b | exact (z2 _ _ zsd).b)) | exact zsq | fail)
        all_goals first | exact hL _ (is ++ [x]) (Qd []) ⟨hnd, hbd⟩ hms (Qh [] (by simp only [go_sem, zwl, Nat.reduceAdd, Nat.reduceMul, Nat.reduceEqDiff, Nat.reduceLT, Int.reduceToNat, reduceIte, reduceCtorEq, vS2, hap] <;> exact zcc) (by simp only [go_sem, zwl, Nat.reduceAdd, Nat.reduceMul, Nat.reduceEqDiff, Nat.reduceLT, Int.reduceToNat, reduceIte, reduceCtorEq, vS2, W2, U0] <;> exact zcc) (by simp [vS2, Qd]) (by simp [vS2]) (by omega)) | trace_state
  · obtain ⟨hk', hget, hr⟩ := Qo hd
    have hw := Qg (k := k) (by omega)
    have e1 : decide ((k : Int) < ((l.length : Nat) : Int)) = true := by simp; omega
    have hfr := aa1 y.1 _ 0 (ajo hpw hget)
    have t1 : l.take (k + 1) = l.take k ++ [y] := by rw [List.take_add_one, hget]; rfl
    have hek : VE false [0] (V.int y.1) (V.int y.1) = some true := by simp [VE, Jk]
    obtain ⟨yk, ys⟩ := y
    have f1 : ((l.take k).map Prod.fst).map V.int ++ [V.int yk] = ((l.take (k + 1)).map Prod.fst).map V.int := by rw [t1]; simp
    have f2 : ((l.take k).map Prod.snd).map V.int ++ [V.int ys] = ((l.take (k + 1)).map Prod.snd).map V.int := by rw [t1]; simp
    simp only [vS1] at *
    repeat' (first | (refine zsk ?_; intro K' hK) | refine zsp ?_ | (refine zsc ?_ ?_ <;> intro hc <;> first | exact znh | try simp only [znz] at hc) | simp (maxSteps := 1000000) only [go_sem, Nat.reduceAdd, Nat.reduceMul, Nat.reduceEqDiff, Nat.reduceLeDiff, Nat.reduceLT, Nat.reduceSub, Int.reduceEq, Int.reduceBEq, Int.reduceLT, Int.reduceLE, Int.reduceAdd, Int.reduceToNat, reduceIte, reduceCtorEq, JY, hlm, e1, hw, Int.toNat_natCast, List.getElem?_map, hget, Yj, hfr, hek] | (refine hK _ ?_; clear hK K') | apply zan | (apply Qv; (focus first | exact (z0 _ zsd).b | exact (z1 _ zsd).b | exact (z2 _ _ zsd).b)) | exact zsq | fail)
    all_goals first | exact hL _ (k + 1) (Qd []) hk' (by omega) (Qh [] (by simp only [go_sem, zwl, Nat.reduceAdd, Nat.reduceMul, Nat.reduceEqDiff, Nat.reduceLT, Int.reduceToNat, reduceIte, reduceCtorEq, vS1] <;> exact zcc) (by simp only [go_sem, zwl, Nat.reduceAdd, Nat.reduceMul, Nat.reduceEqDiff, Nat.reduceLT, Int.reduceToNat, reduceIte, reduceCtorEq, vS1, f1, f2, W2, U0] <;> exact zcc) (by simp [vS1, Qd]) (by simp [vS1]) (by omega)) | trace_state
def Qt := qd Proofs.Tryz.f57 []
def QJ (Γ : Env) (f : Nat) : Prop := ∀ (xs : List QF) (g : Nat) (cap : List V) (p : QF → Bool) (hp : ∀ x ∈ xs, EvN Γ g (QF.v x :: cap) (V.bool (p x))) (hcap : Qc cap) (hl : xs.length < 2 ^ 62), EvN Γ f [.sl 7 (xs.map QF.v), .clo g cap] (V.int (jM p 0 xs))
attribute [local go_sem] QF.cells QF.v in
theorem Yh {Γ : Env} {f : Nat} (h : Has Γ.P f 19 Qt.1.1.ac Qt.1.2)  : QJ Γ f := by
  intro xs g cap p hp hcap hl
  refine Qb h zsi zcl zcl fun C hC hm => ?_
  subst hC
  simp only [Qt, qd, DC.ac]
  have s1 : ∀ o, Jv o cap = cap := fun o => QS o cap hcap
  have s2 : ∀ o B, Qj o B cap = True := fun o B => eq_true (Qy o B cap hcap)
  refine zgo ?_; repeat' first | exact zt | apply zan | intro hc
  refine Jz (ι := Nat) (fun k => k ≤ xs.length ∧ jM p k (xs.drop k) = jM p 0 xs) (fun k => [(8, V.int k)]) (fun k => xs.length - k) 0 (by omega) ⟨by simp, by simp⟩ zol (fun i hi => by simp only [ovT, Xs, Nat.reduceEqDiff, reduceIte]; (repeat' first | exact xM | refine ja ?_ ?_ | simp only [V.lt, ltL, and_self, and_true] | omega); exact JA _ _ hcap) (by simp only [Nat.reduceAdd, ovT, Xs, Nat.reduceEqDiff, reduceIte, KE, yq, amI, u32, u33, u34, u35, u36, u37, u38, u39, and_self, and_true, true_and]; first | rfl | exact QP _ _ hcap) fun k hk K' hL => ?_
  obtain ⟨hk, hinv⟩ := hk
  simp only [ovT, Xs, Nat.reduceEqDiff, reduceIte]
  rcases hd : xs.drop k with _ | ⟨y, r⟩
  · have := QB hd
    rw [hd] at hinv
    have e1 : decide ((k : Int) < (((xs.map QF.v).length : Nat) : Int)) = false := by simp; omega
    (have zx := e1); refine zgo ?_; repeat' first | exact zt | apply zan | intro hc
    refine Qi _ rfl ?_
    simp only [go_sem, Nat.reduceEqDiff, Nat.reduceAdd, reduceIte, reduceCtorEq]
    rw [← hinv]; rfl
  · obtain ⟨hk, hget, hr⟩ := Qo hd
    rw [hd] at hinv
    have hw := Qg (k := k) (by omega)
    have e1 : decide ((k : Int) < (((xs.map QF.v).length : Nat) : Int)) = true := by simp; omega
    have hpy := hp y (List.mem_of_getElem? hget)
    simp only [QF.v, QF.cells] at hpy
    by_cases hy : p y = true
    · rw [hy] at hpy
      (have zy0 := hpy.b; have zx := And.intro hget (And.intro hw (And.intro e1 (And.intro s1 s2)))); refine zgo ?_; repeat' first | exact zt | apply zan | intro hc
      refine Qi _ rfl ?_; simp only [go_sem, Nat.reduceEqDiff, Nat.reduceAdd, reduceIte, reduceCtorEq]
      rw [← hinv]; simp [jM, hy]
    · have hy' : p y = false := by simpa using hy
      rw [hy'] at hpy
      (have zy0 := hpy.b; have zx := And.intro hget (And.intro hw (And.intro e1 (And.intro s1 s2)))); refine zgo ?_; repeat' first | exact zt | apply zan | intro hc
      refine hL _ (k + 1) zet ⟨by omega, ?_⟩ (by omega) zoe
      rw [hr, ← hinv, jM, if_neg hy]
def Qr := qd Proofs.Tryz.f31 []
def Qq (Γ : Env) (f : Nat) : Prop := ∀ (xs : List QF) (g : Nat) (cap : List V) (p : QF → Bool) (hp : ∀ x ∈ xs, EvN Γ g (QF.v x :: cap) (V.bool (p x))) (hcap : Qc cap) (hl : xs.length < 2 ^ 62), EvN Γ f [.sl 7 (xs.map QF.v), .clo g cap] (V.bool (xs.any p))
theorem J5 {Γ : Env} {f : Nat} (h : Has Γ.P f 9 Qr.1.1.ac Qr.1.2) (z0 : QJ Γ 57) : Qq Γ f := by
  intro xs g cap p hp hcap hl
  refine Qb h zsi zcl zcl fun C hC hm => ?_
  subst hC
  simp only [Qr, qd, DC.ac]
  have s1 : ∀ o, Jv o cap = cap := fun o => QS o cap hcap
  have s2 : ∀ o B, Qj o B cap = True := fun o B => eq_true (Qy o B cap hcap)
  have hi := (z0 xs g cap p hp hcap hl).b
  have e1 := yW p xs 0
  (have zx := And.intro s1 (And.intro s2 e1)); exact zg
def srC (gap day age alg : Int) (xs : List QF) (keys : List Int) (need : Int) (lv : V) : List V := [V.int gap, V.int day, V.int age, V.int alg, .sl 7 (xs.map QF.v), .sl 1 (keys.map V.int), V.int need, lv]
def alW (x : QF) (u : Int × Int) (host : List UInt8) (day : Int) : Bool := (x.alg == u.1 && x.bits == u.2) && (x.pur == 1 && (x.ep == host && (decide (x.fr ≤ day) && decide (day < x.to))))
def ac6 (any : Bool) (u : Int × Int) (x : QF) : Int × Int := if (any && (u.2 == 0 && x.alg == u.1)) = true then (x.alg, x.bits) else u
def xJ (any : Bool) (u : Int × Int) (hosts : List (List UInt8)) (day : Int) (keys : List Int) (need : Int) (x : QF) : Bool := xk x keys need && hosts.any fun h => alW x (ac6 any u x) h day
def Js := qd Proofs.Tryz.f69 []
def J1 (Γ : Env) (f : Nat) : Prop := ∀ (host : List UInt8) (x : QF) (u : Int × Int) (gap day age alg : Int) (xs : List QF) (keys : List Int) (need : Int) (lv : V), EvN Γ f [V.str host, .ro x.cells 0, .ro [V.int u.1, V.int u.2] 0, .ro (srC gap day age alg xs keys need lv) 0] (V.bool (alW x u host day))
theorem Uf {Γ : Env} {f : Nat} (h : Has Γ.P f 13 Js.1.1.ac Js.1.2) (z0 : WO Γ 70) : J1 Γ f := by
  intro host x u gap day age alg xs keys need lv
  refine Qb h zsi zcl zcl fun C hC hm => ?_
  subst hC
  simp only [Js, qd, DC.ac]
  have g := (z0 x u 1 host day).b
  simp only [QF.v, QF.cells, Yj, srC, alW] at *
  exact zg
def Q3 := qd Proofs.Tryz.f105 []
def Jm (Γ : Env) (f : Nat) : Prop := ∀ (xs : List (List UInt8)) (g : Nat) (cap : List V) (p : (List UInt8) → Bool) (hp : ∀ x ∈ xs, EvN Γ g (V.str x :: cap) (V.bool (p x))) (hcap : Qc cap) (hl : xs.length < 2 ^ 62), EvN Γ f [.sl 1 (xs.map V.str), .clo g cap] (V.int (jM p 0 xs))
attribute [local go_sem] List.map_nil in
theorem WD {Γ : Env} {f : Nat} (h : Has Γ.P f 19 Q3.1.1.ac Q3.1.2)  : Jm Γ f := by
  intro xs g cap p hp hcap hl
  refine Qb h zsi zcl zcl fun C hC hm => ?_
  subst hC
  simp only [Q3, qd, DC.ac]
  have s1 : ∀ o, Jv o cap = cap := fun o => QS o cap hcap
  have s2 : ∀ o B, Qj o B cap = True := fun o B => eq_true (Qy o B cap hcap)
  refine zgo ?_; repeat' first | exact zt | apply zan | intro hc
  refine Jz (ι := Nat) (fun k => k ≤ xs.length ∧ jM p k (xs.drop k) = jM p 0 xs) (fun k => [(8, V.int k)]) (fun k => xs.length - k) 0 (by omega) ⟨by simp, by simp⟩ zol (fun i hi => by simp only [ovT, Xs, Nat.reduceEqDiff, reduceIte]; (repeat' first | exact xM | refine ja ?_ ?_ | simp only [V.lt, ltL, and_self, and_true] | omega); exact JA _ _ hcap) (by simp only [Nat.reduceAdd, ovT, Xs, Nat.reduceEqDiff, reduceIte, KE, yq, amI, u32, u33, u34, u35, u36, u37, u38, u39, and_self, and_true, true_and]; first | rfl | exact QP _ _ hcap) fun k hk K' hL => ?_
  obtain ⟨hk, hinv⟩ := hk
  simp only [ovT, Xs, Nat.reduceEqDiff, reduceIte]
  rcases hd : xs.drop k with _ | ⟨y, r⟩
  · have := QB hd
    rw [hd] at hinv
    have e1 : decide ((k : Int) < (((xs.map V.str).length : Nat) : Int)) = false := by simp; omega
    (have zx := e1); refine zgo ?_; repeat' first | exact zt | apply zan | intro hc
    refine Qi _ rfl ?_
    simp only [go_sem, Nat.reduceEqDiff, Nat.reduceAdd, reduceIte, reduceCtorEq]
    rw [← hinv]; rfl
  · obtain ⟨hk, hget, hr⟩ := Qo hd
    rw [hd] at hinv
    have hw := Qg (k := k) (by omega)
    have e1 : decide ((k : Int) < (((xs.map V.str).length : Nat) : Int)) = true := by simp; omega
    have hpy := hp y (List.mem_of_getElem? hget)
    by_cases hy : p y = true
    · rw [hy] at hpy
      (have zy0 := hpy.b; have zx := And.intro hget (And.intro hw (And.intro e1 (And.intro s1 s2)))); refine zgo ?_; repeat' first | exact zt | apply zan | intro hc
      refine Qi _ rfl ?_; simp only [go_sem, Nat.reduceEqDiff, Nat.reduceAdd, reduceIte, reduceCtorEq]
      rw [← hinv]; simp [jM, hy]
    · have hy' : p y = false := by simpa using hy
      rw [hy'] at hpy
      (have zy0 := hpy.b; have zx := And.intro hget (And.intro hw (And.intro e1 (And.intro s1 s2)))); refine zgo ?_; repeat' first | exact zt | apply zan | intro hc
      refine hL _ (k + 1) zet ⟨by omega, ?_⟩ (by omega) zoe
      rw [hr, ← hinv, jM, if_neg hy]
def QT := qd Proofs.Tryz.f72 []
def Jf (Γ : Env) (f : Nat) : Prop := ∀ (xs : List (List UInt8)) (g : Nat) (cap : List V) (p : (List UInt8) → Bool) (hp : ∀ x ∈ xs, EvN Γ g (V.str x :: cap) (V.bool (p x))) (hcap : Qc cap) (hl : xs.length < 2 ^ 62), EvN Γ f [.sl 1 (xs.map V.str), .clo g cap] (V.bool (xs.any p))
theorem XF {Γ : Env} {f : Nat} (h : Has Γ.P f 9 QT.1.1.ac QT.1.2) (z0 : Jm Γ 105) : Jf Γ f := by
  intro xs g cap p hp hcap hl
  refine Qb h zsi zcl zcl fun C hC hm => ?_
  subst hC
  simp only [QT, qd, DC.ac]
  have s1 : ∀ o, Jv o cap = cap := fun o => QS o cap hcap
  have s2 : ∀ o B, Qj o B cap = True := fun o B => eq_true (Qy o B cap hcap)
  have hi := (z0 xs g cap p hp hcap hl).b
  have e1 := yW p xs 0
  (have zx := And.intro s1 (And.intro s2 e1)); exact zg
def JH := qd Proofs.Tryz.f68 []
def Yc (Γ : Env) (f : Nat) : Prop := ∀ (x : QF) (u : Int × Int) (any : Bool) (gap day age alg : Int) (xs : List QF) (keys : List Int) (need : Int) (lv : V) (hlv : lv.closed) (hosts : List (List UInt8)) (hz : x.Sz) (hk : keys.length < 2 ^ 62) (hh : hosts.length < 2 ^ 62), EvN Γ f [x.v, .ro [V.int u.1, V.int u.2] 0, .ro [V.bool any] 0, .ro (srC gap day age alg xs keys need lv) 0, .ro [.sl 1 (hosts.map V.str)] 0] (V.bool (xJ any u hosts day keys need x))
theorem U3 {Γ : Env} {f : Nat} (h : Has Γ.P f 37 JH.1.1.ac JH.1.2) (z0 : J1 Γ 69) (z1 : Vr Γ 71) (z2 : Jf Γ 72) : Yc Γ f := by
  intro x u any gap day age alg xs keys need lv hlv hosts hz hk hh
  refine Qb h zsi zcl zcl fun C hC hm => ?_
  subst hC
  simp only [JH, qd, DC.ac]
  have gV := (z1 x keys need hz hk).b
  have h1 := fun (v : Int × Int) (y : List UInt8) => z0 y x v gap day age alg xs keys need lv
  have hC := fun v : Int × Int => z2 hosts 69 [.ro x.cells 0, .ro [V.int v.1, V.int v.2] 0, .ro (srC gap day age alg xs keys need lv) 0] (fun y => alW x v y day) (fun y _ => h1 v y) (by simp [V.closed, Qc, QF.cells, srC, hlv]) hh
  have hp : xJ any u hosts day keys need x = (xk x keys need && hosts.any fun h => alW x (ac6 any u x) h day) := rfl
  rw [hp]
  rcases any with _ | _
  · have hw : ac6 false u x = u := rfl
    rw [hw]
    have g := (hC u).b
    generalize (hosts.any fun h => alW x u h day) = r at *
    rcases hv : xk x keys need with _ | _
    · rw [hv] at gV
      simp only [QF.v, QF.cells, srC] at *
      (have zx := hw); exact zg
    · rw [hv] at gV
      simp only [QF.v, QF.cells, srC] at *
      (have zx := hw); exact zg
  rcases a2 : u.2 == 0 with _ | _
  · have hw : ac6 true u x = u := by rw [ac6, a2]; rfl
    rw [hw]
    have g := (hC u).b
    generalize (hosts.any fun h => alW x u h day) = r at *
    rcases hv : xk x keys need with _ | _
    · rw [hv] at gV
      simp only [QF.v, QF.cells, srC] at *
      (have zx := a2); exact zg
    · rw [hv] at gV
      simp only [QF.v, QF.cells, srC] at *
      (have zx := a2); exact zg
  rcases a3 : x.alg == u.1 with _ | _
  · have hw : ac6 true u x = u := by rw [ac6, a2, a3]; rfl
    rw [hw]
    have g := (hC u).b
    generalize (hosts.any fun h => alW x u h day) = r at *
    rcases hv : xk x keys need with _ | _
    · rw [hv] at gV
      simp only [QF.v, QF.cells, srC] at *
      (have zx := And.intro a2 a3); exact zg
    · rw [hv] at gV
      simp only [QF.v, QF.cells, srC] at *
      (have zx := And.intro a2 a3); exact zg
  have hw : ac6 true u x = (x.alg, x.bits) := by rw [ac6, a2, a3]; rfl
  rw [hw]
  have g := (hC (x.alg, x.bits)).b
  generalize (hosts.any fun h => alW x (x.alg, x.bits) h day) = r at *
  rcases hv : xk x keys need with _ | _
  · rw [hv] at gV
    simp only [QF.v, QF.cells, srC] at *
    (have zx := And.intro a2 a3); exact zg
  · rw [hv] at gV
    simp only [QF.v, QF.cells, srC] at *
    (have zx := And.intro a2 a3); exact zg
def JU := qd Proofs.Tryz.f39 []
def Yw (Γ : Env) (f : Nat) : Prop := ∀ (u : Int × Int) (any : Bool) (gap day age alg : Int) (xs : List QF) (keys : List Int) (need : Int) (lv : V) (hlv : lv.closed) (hosts : List (List UInt8)) (hz : ∀ x ∈ xs, x.Sz) (hx : xs.length < 2 ^ 62) (hk : keys.length < 2 ^ 62) (hh : hosts.length < 2 ^ 62), EvN Γ f [.agg (srC gap day age alg xs keys need lv), .agg [V.int u.1, V.int u.2], V.bool any, .sl 1 (hosts.map V.str)] (V.bool (xs.any (xJ any u hosts day keys need)))
theorem qe {Γ : Env} {f : Nat} (h : Has Γ.P f 14 JU.1.1.ac JU.1.2) (z0 : Yc Γ 68) (z1 : Qq Γ 31) : Yw Γ f := by
  intro u any gap day age alg xs keys need lv hlv hosts hz hx hk hh
  refine Qb h zsi zcl zcl fun C hC hm => ?_
  subst hC
  simp only [JU, qd, DC.ac]
  have g := (z1 xs 68 [.ro [V.int u.1, V.int u.2] 0, .ro [V.bool any] 0, .ro (srC gap day age alg xs keys need lv) 0, .ro [.sl 1 (hosts.map V.str)] 0] (xJ any u hosts day keys need) (fun x hm => z0 x u any gap day age alg xs keys need lv hlv hosts (hz x hm) hk hh) (by simp [V.closed, Qc, srC, hlv]) hx).b
  simp only [srC] at *
  exact zg
end Av
end

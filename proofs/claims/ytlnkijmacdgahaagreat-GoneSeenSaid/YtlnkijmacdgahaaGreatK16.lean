/- K16 -/
import Derived.Test.YtlnkijmacdgahaaGreatK15
import Derived.Lib.ItoaLen
import Derived.Lib.IndexMore
import Derived.Lib.AtoiAll
import Derived.Test.YtlnkijmacdgahaaGreatK12
import Derived.Test.YtlnkijmacdgahaaGreatK13
set_option linter.unusedVariables false
set_option linter.unusedSimpArgs false
noncomputable section
set_option maxRecDepth 10000
set_option maxHeartbeats 4000000
namespace Av
open Go
attribute [local irreducible] AWp VA K4 jR awS awC aa9 awQ abD QZ V9 aay awR Ug awB okR jL ris
def W8 := qd Proofs.Tryz.f58 []
def Wz (Γ : Env) (f : Nat) : Prop := ∀ (a b : Int), EvN Γ f [.agg [V.int a, V.int b]] (V.bool (decide (Qn a b > 0)))
theorem aby {Γ : Env} {f : Nat} (h : Has Γ.P f 6 W8.1.1.ac W8.1.2) (z0 : WQ Γ 92) : Wz Γ f := by
  intro a b
  refine Qb h zsi zcl zcl fun C hC hm => ?_
  subst hC
  simp only [W8, qd, DC.ac]
  refine zgo ?_; repeat' first | exact zt | apply zan | intro hc
  refine Qi _ rfl ?_; simp only [go_sem, Nat.reduceEqDiff, Nat.reduceAdd, reduceIte, reduceCtorEq]
def ahD (name : List UInt8) : Nat → List ac4 → Int
  | _, [] => 0
  | k, r :: rs => if 0 < k ∧ r.name = name then k else ahD name (k + 1) rs
def UG := qd Proofs.Tryz.f159 []
def qu (Γ : Env) (f : Nat) : Prop := ∀ (a b : Int), EvN Γ f [V.int a, V.int b] (.agg [V.int a, V.int b])
theorem adq {Γ : Env} {f : Nat} (h : Has Γ.P f 8 UG.1.1.ac UG.1.2)  : qu Γ f := by
  intro a b
  refine Qb h zsi zcl zcl fun C hC hm => ?_
  subst hC
  simp only [UG, qd, DC.ac]
  refine zgo ?_; repeat' first | exact zt | apply zan | intro hc
  refine Qi _ rfl ?_; simp only [go_sem, Nat.reduceEqDiff, Nat.reduceAdd, reduceIte, reduceCtorEq]
structure JD where
  code : Int
  name : List UInt8
  kx1 : Int
  kx2 : Int
  sg1 : Int
  sg2 : Int
  ci1 : Int
  ci2 : Int
  mc1 : Int
  mc2 : Int
  lo : Int
  hi : Int
  deriving DecidableEq
def JD.cells (s : JD) : List V := [V.int s.code, V.str s.name, V.int s.kx1, V.int s.kx2, V.int s.sg1, V.int s.sg2, V.int s.ci1, V.int s.ci2, V.int s.mc1, V.int s.mc2, V.int s.lo, V.int s.hi]
def JD.v (s : JD) : V := .agg s.cells
def WZ : List JD := [⟨1, [114, 115, 97, 45, 114, 99, 52, 45, 109, 100, 53], 10, 0, 5, 0, 14, 128, 19, 0, 1, 2⟩, ⟨2, [114, 115, 97, 45, 114, 99, 52, 45, 115, 104, 97], 10, 0, 5, 0, 14, 128, 20, 0, 1, 3⟩, ⟨3, [114, 115, 97, 45, 100, 101, 115, 51, 45, 115, 104, 97], 10, 0, 5, 0, 15, 168, 20, 0, 1, 3⟩, ⟨4, [100, 104, 101, 45, 100, 115, 97, 45, 100, 101, 115, 51, 45, 115, 104, 97], 11, 1024, 6, 0, 15, 168, 20, 0, 1, 3⟩, ⟨5, [100, 104, 101, 45, 114, 115, 97, 45, 100, 101, 115, 51, 45, 115, 104, 97], 11, 1024, 5, 0, 15, 168, 20, 0, 1, 3⟩, ⟨6, [114, 115, 97, 45, 97, 101, 115, 49, 50, 56, 45, 115, 104, 97], 10, 0, 5, 0, 16, 128, 20, 0, 1, 3⟩, ⟨7, [100, 104, 101, 45, 114, 115, 97, 45, 97, 101, 115, 49, 50, 56, 45, 115, 104, 97], 11, 2048, 5, 0, 16, 128, 20, 0, 1, 3⟩, ⟨8, [101, 99, 100, 104, 101, 45, 114, 115, 97, 45, 97, 101, 115, 49, 50, 56, 45, 115, 104, 97], 12, 256, 5, 0, 16, 128, 20, 0, 1, 3⟩, ⟨9, [101, 99, 100, 104, 101, 45, 101, 99, 100, 115, 97, 45, 97, 101, 115, 50, 53, 54, 45, 115, 104, 97, 50, 53, 54], 12, 256, 7, 0, 16, 256, 21, 0, 3, 3⟩, ⟨10, [101, 99, 100, 104, 101, 45, 114, 115, 97, 45, 97, 101, 115, 49, 50, 56, 45, 103, 99, 109], 12, 256, 5, 0, 17, 128, 22, 0, 3, 3⟩, ⟨11, [101, 99, 100, 104, 101, 45, 101, 99, 100, 115, 97, 45, 97, 101, 115, 50, 53, 54, 45, 103, 99, 109], 12, 384, 7, 0, 17, 256, 22, 0, 3, 3⟩, ⟨12, [101, 99, 100, 104, 101, 45, 114, 115, 97, 45, 99, 104, 97, 99, 104, 97], 12, 256, 5, 0, 18, 0, 22, 0, 3, 3⟩, ⟨13, [114, 115, 97, 45, 97, 101, 115, 50, 53, 54, 45, 103, 99, 109], 10, 0, 5, 0, 17, 256, 22, 0, 3, 3⟩, ⟨14, [97, 101, 115, 49, 50, 56, 45, 103, 99, 109], 12, 256, 0, 0, 17, 128, 22, 0, 4, 4⟩, ⟨15, [99, 104, 97, 99, 104, 97], 12, 256, 0, 0, 18, 0, 22, 0, 4, 4⟩, ⟨16, [109, 108, 107, 101, 109, 45, 97, 101, 115, 50, 53, 54, 45, 103, 99, 109], 13, 768, 0, 0, 17, 256, 22, 0, 4, 4⟩]
def aen (k : Nat) : List V := (WZ.take k).map JD.v ++ (WZ.drop k).map fun s => JD.v { s with code := 0 }
theorem ag1 (k : Nat) (h : k < 16) : ∃ cs, (aen k)[k]? = some (.agg (V.int 0 :: cs)) ∧ cs.length = 11 ∧ (aen k).set k (.agg (V.int ((k + 1 : Nat) : Int) :: cs)) = aen (k + 1) := by
  rcases (by omega : k = 0 ∨ k = 1 ∨ k = 2 ∨ k = 3 ∨ k = 4 ∨ k = 5 ∨ k = 6 ∨ k = 7 ∨ k = 8 ∨ k = 9 ∨ k = 10 ∨ k = 11 ∨ k = 12 ∨ k = 13 ∨ k = 14 ∨ k = 15) with rfl | rfl | rfl | rfl | rfl | rfl | rfl | rfl | rfl | rfl | rfl | rfl | rfl | rfl | rfl | rfl
  all_goals exact ⟨_, rfl, rfl, rfl⟩
def Wx := qd Proofs.Tryz.f101 [zhn 82]
def VN (Γ : Env) (f : Nat) : Prop := EvC Γ f [] (.sl 12 (WZ.map JD.v))
theorem aau {Γ : Env} {f : Nat} (h : Has Γ.P f 125 Wx.1.1.ac Wx.1.2) (z0 : qu Γ 159) : VN Γ f := by
  refine Qm h zsi (by simp only [V.closed]) fun C hC hm => ?_
  subst hC
  simp only [Wx, qd, DC.ac]
  repeat' (first | (refine zsk ?_; intro K' hK) | (refine zrg ?_; intro K' hK) | refine zsp ?_ | (refine zsc ?_ ?_ <;> intro hc <;> first | exact znh | try simp only [znz] at hc) | simp (maxSteps := 1000000) only [go_sem, Nat.reduceAdd, Nat.reduceMul, Nat.reduceEqDiff, Nat.reduceLeDiff, Nat.reduceLT, Nat.reduceSub, Int.reduceEq, Int.reduceBEq, Int.reduceLT, Int.reduceLE, Int.reduceAdd, Int.reduceToNat, reduceIte, reduceCtorEq] | (refine hK _ ?_; clear hK K') | apply zan | ((first | apply Qv | apply QQ); (focus first | exact (z0 _ _).b)) | exact zsq | fail)
  refine Qp (ι := Nat) (fun k => k ≤ 16) (fun k => JY [(15, .hd 0 0 16), (113, V.int 16), (114, V.int k)] [(0, .buf true 12 (aen k))] 1) (fun k => 16 - k) 0 (by omega) (Qd [(0, 123000)]) (Qh _ zwa zwa (by simp) (by simp; omega) (by omega)) fun k hk K' hL => ?_
  by_cases hk' : k < 16
  · obtain ⟨cs, hget, hcs, hset⟩ := ag1 k hk'
    have hw := Qg (k := k) (by omega)
    have hs : (1 : Int) ≤ 1 := by omega
    repeat' (first | (refine zsk ?_; intro K' hK) | (refine zrg ?_; intro K' hK) | refine zsp ?_ | (refine zsc ?_ ?_ <;> intro hc <;> first | exact znh | try simp only [znz] at hc) | simp (maxSteps := 1000000) only [go_sem, Nat.reduceAdd, Nat.reduceMul, Nat.reduceEqDiff, Nat.reduceLeDiff, Nat.reduceLT, Nat.reduceSub, Int.reduceEq, Int.reduceBEq, Int.reduceLT, Int.reduceLE, Int.reduceAdd, Int.reduceToNat, reduceIte, reduceCtorEq, JY, hget, hw] | (refine hK _ ?_; clear hK K') | apply zan | ((first | apply Qv | apply QQ); (focus first | exact (z0 _ _).b)) | exact zsq | fail)
    refine hL _ (k + 1) (Qd []) (by omega) (by omega) (Qh [] zwa (by simp only [go_sem, zwl, Nat.reduceAdd, Nat.reduceMul, Nat.reduceEqDiff, Nat.reduceLT, Int.reduceToNat, reduceIte, reduceCtorEq]; (try simp only [Nat.zero_add, Int.toNat_natCast, List.take_zero, List.nil_append, hset]); (repeat' (first | rfl | refine And.intro ?_ ?_ | omega | exact fun h => h | exact Exists.intro _ rfl))) (by simp) (by simp) (by omega))
  · obtain rfl : k = 16 := by omega
    repeat' (first | (refine zsk ?_; intro K' hK) | (refine zrg ?_; intro K' hK) | refine zsp ?_ | (refine zsc ?_ ?_ <;> intro hc <;> first | exact znh | try simp only [znz] at hc) | simp (maxSteps := 1000000) only [go_sem, Nat.reduceAdd, Nat.reduceMul, Nat.reduceEqDiff, Nat.reduceLeDiff, Nat.reduceLT, Nat.reduceSub, Int.reduceEq, Int.reduceBEq, Int.reduceLT, Int.reduceLE, Int.reduceAdd, Int.reduceToNat, reduceIte, reduceCtorEq, JY] | (refine hK _ ?_; clear hK K') | apply zan | ((first | apply Qv | apply QQ); (focus first | exact (z0 _ _).b)) | exact zsq | fail)
    refine Qi _ rfl ?_; simp only [go_sem, Nat.reduceEqDiff, Nat.reduceAdd, reduceIte, reduceCtorEq]
    rfl
def akI (r : ac4) : V := .agg [V.str r.name, V.int r.kind]
def ahf : List V := Kt.map akI
theorem ahe {k : Nat} {r : ac4} (h : Kt[k]? = some r) : ahf[k]? = some (akI r) := by
  rw [ahf, List.getElem?_map, h]; rfl
theorem ajY {a : Int} (ha : 1 ≤ a ∧ a ≤ 22) : Kt[a.toNat]? = some (Wj a) := by
  have hl : Kt.length = 23 := rfl
  have hk : a.toNat < Kt.length := by omega
  rw [Wj, if_pos ha, List.getD_eq_getElem?_getD, List.getElem?_eq_getElem hk, Option.getD_some]
def KL := qd Proofs.Tryz.f172 []
def jB (Γ : Env) (f : Nat) : Prop := EvC Γ f [] (.sl 2 ahf)
theorem aeP {Γ : Env} {f : Nat} (h : Has Γ.P f 25 KL.1.1.ac KL.1.2)  : jB Γ f := by
  refine Qm h zsi (by simp only [V.closed]) fun C hC hm => ?_
  subst hC
  simp only [KL, qd, DC.ac]
  refine zgo ?_; repeat' first | exact zt | apply zan | intro hc
  refine Qi _ rfl ?_; simp only [go_sem, Nat.reduceEqDiff, Nat.reduceAdd, reduceIte, reduceCtorEq]
  rfl
def KM := qd Proofs.Tryz.f119 []
def jC (Γ : Env) (f : Nat) : Prop := ∀ (a : Int), EvN Γ f [V.int a] (V.int (Wj a).kind)
attribute [local go_sem] akI in
theorem aeQ {Γ : Env} {f : Nat} (h : Has Γ.P f 14 KM.1.1.ac KM.1.2) (z0 : jB Γ 172) : jC Γ f := by
  intro a
  refine Qb h zsi zcl zcl fun C hC hm => ?_
  subst hC
  simp only [KM, qd, DC.ac]
  by_cases ha : 1 ≤ a ∧ a ≤ 22
  · have hg := ahe (ajY ha)
    (have zx := hg); refine zgo ?_; repeat' first | exact zt | apply zan | intro hc
    all_goals first | (refine Qi _ rfl ?_; simp only [go_sem, Nat.reduceEqDiff, Nat.reduceAdd, reduceIte, reduceCtorEq]; done) | (refine Qi _ rfl ?_; simp only [go_sem, Nat.reduceEqDiff, Nat.reduceAdd, reduceIte, reduceCtorEq]; simp [*]; done) | (subst hc; refine Qi _ rfl ?_; simp only [go_sem, Nat.reduceEqDiff, Nat.reduceAdd, reduceIte, reduceCtorEq]; simp [*]; done) | trace_state
  · have hc0 : Wj a = amG := by rw [Wj, if_neg ha]
    refine zgo ?_; repeat' first | exact zt | apply zan | intro hc
    all_goals first | (refine Qi _ rfl ?_; simp only [go_sem, Nat.reduceEqDiff, Nat.reduceAdd, reduceIte, reduceCtorEq]; done) | (refine Qi _ rfl ?_; simp only [go_sem, Nat.reduceEqDiff, Nat.reduceAdd, reduceIte, reduceCtorEq]; simp [hc0, amG, *]; done) | (subst hc; refine Qi _ rfl ?_; simp only [go_sem, Nat.reduceEqDiff, Nat.reduceAdd, reduceIte, reduceCtorEq]; simp [hc0, amG, *]; done) | trace_state
def U9 (b : Int) : List Int → List Int → Int
  | x :: xs, y :: ys => if x = b then y else U9 b xs ys
  | _, _ => 0
def UD := qd Proofs.Tryz.f170 []
def qp (Γ : Env) (f : Nat) : Prop := ∀ (b : Int) (xs ys : List Int) (hs : xs.length ≤ ys.length) (h2 : xs.length < 2 ^ 62), EvN Γ f [V.int b, .sl 1 (xs.map V.int), .sl 1 (ys.map V.int)] (V.int (U9 b xs ys))
theorem adl {Γ : Env} {f : Nat} (h : Has Γ.P f 24 UD.1.1.ac UD.1.2)  : qp Γ f := by
  intro b xs ys hs h2
  refine Qb h zsi zcl zcl fun C hC hm => ?_
  subst hC
  simp only [UD, qd, DC.ac]
  refine zgo ?_; repeat' first | exact zt | apply zan | intro hc
  refine Jz (ι := Nat) (fun k => k ≤ xs.length ∧ U9 b (xs.drop k) (ys.drop k) = U9 b xs ys) (fun k => [(7, V.int k)]) (fun k => xs.length - k) 0 (by omega) ⟨by simp, by simp⟩ zol zlt zet fun k hk K' hL => ?_
  obtain ⟨hk, hinv⟩ := hk
  simp only [ovT, Xs, Nat.reduceEqDiff, reduceIte]
  rcases hd : xs.drop k with _ | ⟨x, r⟩
  · have := QB hd
    rw [hd] at hinv
    refine zgo ?_; repeat' first | exact zt | apply zan | intro hc
    refine Qi _ rfl ?_; simp only [go_sem, Nat.reduceEqDiff, Nat.reduceAdd, reduceIte, reduceCtorEq]
    rw [← hinv]; simp [U9]
  · obtain ⟨hk', hget, hr⟩ := Qo hd
    rcases hd2 : ys.drop k with _ | ⟨y, r2⟩
    · have := QB hd2; omega
    · obtain ⟨hk2, hget2, hr2⟩ := Qo hd2
      rw [hd, hd2] at hinv
      have hw := Qg (k := k) (by omega)
      (have zx := And.intro hget (And.intro hget2 hw)); refine zgo ?_; repeat' first | exact zt | apply zan | intro hc
      · refine Qi _ rfl ?_; simp only [go_sem, Nat.reduceEqDiff, Nat.reduceAdd, reduceIte, reduceCtorEq]
        rw [← hinv]; simp [U9, hc]
      · refine hL _ (k + 1) zet ⟨by omega, ?_⟩ (by omega) zoe
        rw [hr, hr2, ← hinv, U9, if_neg hc]
def xF (a : Int) : Int := if a = 1 then 18 else if a = 2 then 60 else if a = 3 ∨ a = 8 ∨ a = 21 then 128 else if a = 4 then 192 else if a = 18 ∨ a = 22 then 256 else if a = 19 then 64 else if a = 20 then 80 else 0
def aqL (b : Int) : Int := if b < 512 ∨ 16384 < b then 0 else ajM b akj
def VV := qd Proofs.Tryz.f171 []
def Kf (Γ : Env) (f : Nat) : Prop := ∀ (a : Int), EvN Γ f [V.int a] (V.int (xF a))
theorem acB {Γ : Env} {f : Nat} (h : Has Γ.P f 21 VV.1.1.ac VV.1.2)  : Kf Γ f := by
  intro a
  refine Qb h zsi zcl zcl fun C hC hm => ?_
  subst hC
  simp only [VV, qd, DC.ac]
  refine zgo ?_; repeat' first | exact zt | apply zan | intro hc
  all_goals (refine Qi _ rfl ?_; simp only [go_sem, Nat.reduceEqDiff, Nat.reduceAdd, reduceIte, reduceCtorEq]; simp [xF, *])
def W3 := qd Proofs.Tryz.f169 []
def Ui (Γ : Env) (f : Nat) : Prop := ∀ (b : Int), EvN Γ f [V.int b] (V.int (aqL b))
theorem abt {Γ : Env} {f : Nat} (h : Has Γ.P f 25 W3.1.1.ac W3.1.2)  : Ui Γ f := by
  intro b
  refine Qb h zsi zcl zcl fun C hC hm => ?_
  subst hC
  simp only [W3, qd, DC.ac]
  refine zgo ?_; repeat' first | exact zt | apply zan | intro hc
  all_goals (refine Qi _ rfl ?_; simp only [go_sem, Nat.reduceEqDiff, Nat.reduceAdd, reduceIte, reduceCtorEq]; simp only [aqL, ajM, akj]; repeat' split) <;> omega
def qU (a b : Int) : Int :=
  if a = 5 ∨ a = 6 ∨ a = 10 ∨ a = 11 then aqL b
  else if a = 7 ∨ a = 12 then (if b = 160 ∨ b = 224 ∨ b = 256 ∨ b = 384 ∨ b = 521 then IntKind.i64.wrap (b.tdiv 2) else 0)
  else if a = 9 then U9 b [44, 65, 87] [128, 192, 256]
  else if a = 13 then U9 b [512, 768, 1024] [128, 192, 256]
  else if a = 14 then U9 b [40, 128] [40, 60]
  else if a = 15 then U9 b [112, 168] [80, 112]
  else if a = 16 ∨ a = 17 then U9 b [128, 256] [128, 256]
  else U9 b [0] [xF a]
theorem ajn (a : Int) (ha : ¬ (1 ≤ a ∧ a ≤ 22)) : xF a = 0 := by
  simp only [xF]; repeat' split
  all_goals omega
theorem ac9 (a b : Int) : qU a b = Qn a b := by
  by_cases ha : 1 ≤ a ∧ a ≤ 22
  · rcases (by omega : a = 1 ∨ a = 2 ∨ a = 3 ∨ a = 4 ∨ a = 5 ∨ a = 6 ∨ a = 7 ∨ a = 8 ∨ a = 9 ∨ a = 10 ∨ a = 11 ∨ a = 12 ∨ a = 13 ∨ a = 14 ∨ a = 15 ∨ a = 16 ∨ a = 17 ∨ a = 18 ∨ a = 19 ∨ a = 20 ∨ a = 21 ∨ a = 22) with rfl | rfl | rfl | rfl | rfl | rfl | rfl | rfl | rfl | rfl | rfl | rfl | rfl | rfl | rfl | rfl | rfl | rfl | rfl | rfl | rfl | rfl
    all_goals simp [qU, Qn, UU, Wj, Kt, U9, xF, Ud, aqL]
    all_goals (repeat' split) <;> first | omega | rfl | simp_all
  · have hs := ajn a ha
    rw [Qn, UU, if_pos (by simp [ha])]
    simp only [qU]
    rw [if_neg (by omega), if_neg (by omega), if_neg (by omega), if_neg (by omega), if_neg (by omega), if_neg (by omega), if_neg (by omega), hs]
    simp [U9]
def Wr := qd Proofs.Tryz.f116 []
def VK (Γ : Env) (f : Nat) : Prop := ∀ (a b : Int), EvN Γ f [.agg [V.int a, V.int b]] (V.int (Qn a b))
theorem aao {Γ : Env} {f : Nat} (h : Has Γ.P f 76 Wr.1.1.ac Wr.1.2) (z0 : Ui Γ 169) (z1 : qp Γ 170) (z2 : Kf Γ 171) : VK Γ f := by
  intro a b
  refine Qb h zsi zcl zcl fun C hC hm => ?_
  subst hC
  simp only [Wr, qd, DC.ac]
  rw [← ac9]
  have k1 := z1 b [44, 65, 87] [128, 192, 256] (by simp) (by simp)
  have k2 := z1 b [512, 768, 1024] [128, 192, 256] (by simp) (by simp)
  have k3 := z1 b [40, 128] [40, 60] (by simp) (by simp)
  have k4 := z1 b [112, 168] [80, 112] (by simp) (by simp)
  have k5 := z1 b [128, 256] [128, 256] (by simp) (by simp)
  have k6 := z1 b [0] [xF a] (by simp) (by simp)
  (have zy0 := k1.b; have zy1 := k2.b; have zy2 := k3.b; have zy3 := k4.b; have zy4 := k5.b; have zy5 := k6.b); refine zgo ?_; repeat' first | exact zt | apply zan | intro hc
  all_goals (refine Qi _ rfl ?_; simp only [go_sem, Nat.reduceEqDiff, Nat.reduceAdd, reduceIte, reduceCtorEq]; simp [qU, *])
def UE := qd Proofs.Tryz.f77 []
def Wp (Γ : Env) (f : Nat) : Prop := ∀ (a b : Int), EvN Γ f [.agg [V.int a, V.int b]] (V.bool (decide (Qn a b > 0)))
theorem adm {Γ : Env} {f : Nat} (h : Has Γ.P f 6 UE.1.1.ac UE.1.2) (z0 : VK Γ 116) : Wp Γ f := by
  intro a b
  refine Qb h zsi zcl zcl fun C hC hm => ?_
  subst hC
  simp only [UE, qd, DC.ac]
  refine zgo ?_; repeat' first | exact zt | apply zan | intro hc
  refine Qi _ rfl ?_; simp only [go_sem, Nat.reduceEqDiff, Nat.reduceAdd, reduceIte, reduceCtorEq]
end Av
end

/- K11 -/
import Derived.Test.YtlpaikjhphkioaaGreatK10
import Derived.Lib.ItoaLen
import Derived.Lib.IndexMore
import Derived.Lib.AtoiAll
import Derived.Test.YtlpaikjhphkioaaGreatK9
set_option linter.unusedVariables false
set_option linter.unusedSimpArgs false
section
set_option maxRecDepth 10000
set_option maxHeartbeats 4000000
namespace Av
open Go
attribute [local irreducible] AWp wo acE afd awS awC al0 awQ am3 YI adu ak3 awR aeq awB okR afY ris
def yB (W5 : Nat) : AC := Qb [1] (.reg [xo 1 (.box true 2 (.t 0)), mc 2 (V.bool false)]) (Qb [2] (.reg [xo 3 (.load true 2 (.t 1)), cl 4 W5 [3], bc 5 .gtr 4 (V.int 0), mv 2 5]) .ret) def r_catalog_Valid : List Jf := [.tmp 2]
def Up (Γ : Env) (f : Nat) : Prop := ∀ (a b : Int), EvN Γ f [.agg [V.int a, V.int b]] (V.bool (decide (Q4 a b > 0)))
theorem afz {Γ : Env} {f W5 : Nat} (h : Has Γ.P f 6 (yB W5) r_catalog_Valid) (z0 : UJ Γ W5) : Up Γ f := by
  intro a b
  refine Qd h zsi zcl zcl fun C hC hm => ?_
  subst hC
  unfold yB
  refine zgo ?_; repeat' first | exact zt | apply zan | intro hc
  refine Qv _ rfl ?_; simp only [go_sem, Nat.reduceEqDiff, Nat.reduceAdd, reduceIte, reduceCtorEq]
def akH (name : List UInt8) : Nat → List ag4 → Int
  | _, [] => 0
  | k, r :: rs => if 0 < k ∧ r.name = name then k else akH name (k + 1) rs
structure yN where
  code : Int
  name : List UInt8
  kx1 : Int
  kx2 : Int
  sg1 : Int
  sg2 : Int
  ci1 : Int
  ci2 : Int
  mc1 : Int
  mc2 : Int
  lo : Int
  hi : Int
  deriving DecidableEq
def yN.cells (s : yN) : List V := [V.int s.code, V.str s.name, V.int s.kx1, V.int s.kx2, V.int s.sg1, V.int s.sg2, V.int s.ci1, V.int s.ci2, V.int s.mc1, V.int s.mc2, V.int s.lo, V.int s.hi]
def yN.v (s : yN) : V := .agg s.cells
def adI : List yN := [⟨1, [114, 115, 97, 45, 114, 99, 52, 45, 109, 100, 53], 10, 0, 5, 0, 14, 128, 19, 0, 1, 2⟩, ⟨2, [114, 115, 97, 45, 114, 99, 52, 45, 115, 104, 97], 10, 0, 5, 0, 14, 128, 20, 0, 1, 3⟩, ⟨3, [114, 115, 97, 45, 100, 101, 115, 51, 45, 115, 104, 97], 10, 0, 5, 0, 15, 168, 20, 0, 1, 3⟩, ⟨4, [100, 104, 101, 45, 100, 115, 97, 45, 100, 101, 115, 51, 45, 115, 104, 97], 11, 1024, 6, 0, 15, 168, 20, 0, 1, 3⟩, ⟨5, [100, 104, 101, 45, 114, 115, 97, 45, 100, 101, 115, 51, 45, 115, 104, 97], 11, 1024, 5, 0, 15, 168, 20, 0, 1, 3⟩, ⟨6, [114, 115, 97, 45, 97, 101, 115, 49, 50, 56, 45, 115, 104, 97], 10, 0, 5, 0, 16, 128, 20, 0, 1, 3⟩, ⟨7, [100, 104, 101, 45, 114, 115, 97, 45, 97, 101, 115, 49, 50, 56, 45, 115, 104, 97], 11, 2048, 5, 0, 16, 128, 20, 0, 1, 3⟩, ⟨8, [101, 99, 100, 104, 101, 45, 114, 115, 97, 45, 97, 101, 115, 49, 50, 56, 45, 115, 104, 97], 12, 256, 5, 0, 16, 128, 20, 0, 1, 3⟩, ⟨9, [101, 99, 100, 104, 101, 45, 101, 99, 100, 115, 97, 45, 97, 101, 115, 50, 53, 54, 45, 115, 104, 97, 50, 53, 54], 12, 256, 7, 0, 16, 256, 21, 0, 3, 3⟩, ⟨10, [101, 99, 100, 104, 101, 45, 114, 115, 97, 45, 97, 101, 115, 49, 50, 56, 45, 103, 99, 109], 12, 256, 5, 0, 17, 128, 22, 0, 3, 3⟩, ⟨11, [101, 99, 100, 104, 101, 45, 101, 99, 100, 115, 97, 45, 97, 101, 115, 50, 53, 54, 45, 103, 99, 109], 12, 384, 7, 0, 17, 256, 22, 0, 3, 3⟩, ⟨12, [101, 99, 100, 104, 101, 45, 114, 115, 97, 45, 99, 104, 97, 99, 104, 97], 12, 256, 5, 0, 18, 0, 22, 0, 3, 3⟩, ⟨13, [114, 115, 97, 45, 97, 101, 115, 50, 53, 54, 45, 103, 99, 109], 10, 0, 5, 0, 17, 256, 22, 0, 3, 3⟩, ⟨14, [97, 101, 115, 49, 50, 56, 45, 103, 99, 109], 12, 256, 0, 0, 17, 128, 22, 0, 4, 4⟩, ⟨15, [99, 104, 97, 99, 104, 97], 12, 256, 0, 0, 18, 0, 22, 0, 4, 4⟩, ⟨16, [109, 108, 107, 101, 109, 45, 97, 101, 115, 50, 53, 54, 45, 103, 99, 109], 13, 768, 0, 0, 17, 256, 22, 0, 4, 4⟩]
def ans (r : ag4) : V := .agg [V.str r.name, V.int r.kind]
def akn : List V := yW.map ans
theorem akm {k : Nat} {r : ag4} (h : yW[k]? = some r) : akn[k]? = some (ans r) := by
  rw [akn, List.getElem?_map, h]; rfl
theorem amM {a : Int} (ha : 1 ≤ a ∧ a ≤ 22) : yW[a.toNat]? = some (Uh a) := by
  have hl : yW.length = 23 := rfl
  have hk : a.toNat < yW.length := by omega
  rw [Uh, if_pos ha, List.getD_eq_getElem?_getD, List.getElem?_eq_getElem hk, Option.getD_some]
def aaB : AC := Qb [] (.reg [xo 0 (.mknil 2)]) (Qb [0] (.reg [xo 1 (.build [vs0, vi0] []), xo 2 (.build [vs0, vi0] [(0, 1, (.c (V.str [109, 100, 53]))), (1, 1, (.c (V.int 1)))]), xo 3 (.build [vs0, vi0] [(0, 1, (.c (V.str [115, 104, 97, 49]))), (1, 1, (.c (V.int 1)))]), xo 4 (.build [vs0, vi0] [(0, 1, (.c (V.str [115, 104, 97, 50, 53, 54]))), (1, 1, (.c (V.int 1)))]), xo 5 (.build [vs0, vi0] [(0, 1, (.c (V.str [115, 104, 97, 51, 56, 52]))), (1, 1, (.c (V.int 1)))]), xo 6 (.build [vs0, vi0] [(0, 1, (.c (V.str [114, 115, 97]))), (1, 1, (.c (V.int 2)))]), xo 7 (.build [vs0, vi0] [(0, 1, (.c (V.str [100, 115, 97]))), (1, 1, (.c (V.int 2)))]), xo 8 (.build [vs0, vi0] [(0, 1, (.c (V.str [101, 99, 100, 115, 97]))), (1, 1, (.c (V.int 2)))]), xo 9 (.build [vs0, vi0] [(0, 1, (.c (V.str [101, 100, 50, 53, 53, 49, 57]))), (1, 1, (.c (V.int 2)))]), xo 10 (.build [vs0, vi0] [(0, 1, (.c (V.str [109, 108, 100, 115, 97]))), (1, 1, (.c (V.int 2)))]), xo 11 (.build [vs0, vi0] [(0, 1, (.c (V.str [114, 115, 97, 107, 120]))), (1, 1, (.c (V.int 3)))]), xo 12 (.build [vs0, vi0] [(0, 1, (.c (V.str [100, 104, 101]))), (1, 1, (.c (V.int 3)))]), xo 13 (.build [vs0, vi0] [(0, 1, (.c (V.str [101, 99, 100, 104, 101]))), (1, 1, (.c (V.int 3)))]), xo 14 (.build [vs0, vi0] [(0, 1, (.c (V.str [109, 108, 107, 101, 109]))), (1, 1, (.c (V.int 3)))]), xo 15 (.build [vs0, vi0] [(0, 1, (.c (V.str [114, 99, 52]))), (1, 1, (.c (V.int 4)))]), xo 16 (.build [vs0, vi0] [(0, 1, (.c (V.str [100, 101, 115, 51]))), (1, 1, (.c (V.int 4)))]), xo 17 (.build [vs0, vi0] [(0, 1, (.c (V.str [97, 101, 115, 99, 98, 99]))), (1, 1, (.c (V.int 4)))]), xo 18 (.build [vs0, vi0] [(0, 1, (.c (V.str [97, 101, 115, 103, 99, 109]))), (1, 1, (.c (V.int 4)))]), xo 19 (.build [vs0, vi0] [(0, 1, (.c (V.str [99, 104, 97, 99, 104, 97]))), (1, 1, (.c (V.int 4)))]), xo 20 (.build [vs0, vi0] [(0, 1, (.c (V.str [104, 109, 97, 99, 109, 100, 53]))), (1, 1, (.c (V.int 5)))]), xo 21 (.build [vs0, vi0] [(0, 1, (.c (V.str [104, 109, 97, 99, 115, 104, 97, 49]))), (1, 1, (.c (V.int 5)))]), xo 22 (.build [vs0, vi0] [(0, 1, (.c (V.str [104, 109, 97, 99, 115, 104, 97, 50, 53, 54]))), (1, 1, (.c (V.int 5)))]), xo 23 (.build [vs0, vi0] [(0, 1, (.c (V.str [97, 101, 97, 100]))), (1, 1, (.c (V.int 5)))]), xo 24 (.bslice 23 2 true [vs0, vi0] [(0, (.t 1)), (1, (.t 2)), (2, (.t 3)), (3, (.t 4)), (4, (.t 5)), (5, (.t 6)), (6, (.t 7)), (7, (.t 8)), (8, (.t 9)), (9, (.t 10)), (10, (.t 11)), (11, (.t 12)), (12, (.t 13)), (13, (.t 14)), (14, (.t 15)), (15, (.t 16)), (16, (.t 17)), (17, (.t 18)), (18, (.t 19)), (19, (.t 20)), (20, (.t 21)), (21, (.t 22)), (22, (.t 23))]), mv 0 24]) .ret) def r_ref02_rows : List Jf := [.tmp 0]
def vJ (Γ : Env) (f : Nat) : Prop := EvC Γ f [] (.sl 2 akn)
theorem aiy {Γ : Env} {f : Nat} (h : Has Γ.P f 25 aaB r_ref02_rows)  : vJ Γ f := by
  refine Y8 h zsi (by simp only [V.closed]) fun C hC hm => ?_
  subst hC
  unfold aaB
  refine zgo ?_; repeat' first | exact zt | apply zan | intro hc
  refine Qv _ rfl ?_; simp only [go_sem, Nat.reduceEqDiff, Nat.reduceAdd, reduceIte, reduceCtorEq]
  rfl
def aaC (xC : Nat) : AC := Qb [0] (.reg [mc 2 (V.int 0)]) (Qb [0] (Qb [0, 8] (.reg [mv 3 0, bc 4 .lss 3 (V.int 1), mv 5 4, mg 6 0 5 false, xg 7 (.bin .gtr (.t 6) (.c (V.int 22))) 5 false, xo 8 (.pick (.t 5) (.c (V.bool true)) (.t 7))]) (.cond (.t 8) (Qb [2] (.reg [mc 2 (V.int 0)]) .ret) .skip)) (Qb [2] (.reg [cl 9 xC [], mv 10 0, ia 11 2 9 10, fa 12 1 11, ld 13 1 12, mv 2 13]) .ret)) def r_ref02_Kind : List Jf := [.tmp 2]
def vK (Γ : Env) (f : Nat) : Prop := ∀ (a : Int), EvN Γ f [V.int a] (V.int (Uh a).kind)
attribute [local go_sem] ans in
theorem aiz {Γ : Env} {f xC : Nat} (h : Has Γ.P f 14 (aaC xC) r_ref02_Kind) (z0 : vJ Γ xC) : vK Γ f := by
  intro a
  refine Qd h zsi zcl zcl fun C hC hm => ?_
  subst hC
  unfold aaC
  by_cases ha : 1 ≤ a ∧ a ≤ 22
  · have hg := akm (amM ha)
    (have zx := hg); refine zgo ?_; repeat' first | exact zt | apply zan | intro hc
    all_goals first | (refine Qv _ rfl ?_; simp only [go_sem, Nat.reduceEqDiff, Nat.reduceAdd, reduceIte, reduceCtorEq]; done) | (refine Qv _ rfl ?_; simp only [go_sem, Nat.reduceEqDiff, Nat.reduceAdd, reduceIte, reduceCtorEq]; simp [*]; done) | (subst hc; refine Qv _ rfl ?_; simp only [go_sem, Nat.reduceEqDiff, Nat.reduceAdd, reduceIte, reduceCtorEq]; simp [*]; done) | trace_state
  · have hc0 : Uh a = aoU := by rw [Uh, if_neg ha]
    refine zgo ?_; repeat' first | exact zt | apply zan | intro hc
    all_goals first | (refine Qv _ rfl ?_; simp only [go_sem, Nat.reduceEqDiff, Nat.reduceAdd, reduceIte, reduceCtorEq]; done) | (refine Qv _ rfl ?_; simp only [go_sem, Nat.reduceEqDiff, Nat.reduceAdd, reduceIte, reduceCtorEq]; simp [hc0, aoU, *]; done) | (subst hc; refine Qv _ rfl ?_; simp only [go_sem, Nat.reduceEqDiff, Nat.reduceAdd, reduceIte, reduceCtorEq]; simp [hc0, aoU, *]; done) | trace_state
def yF (b : Int) : List Int → List Int → Int
  | x :: xs, y :: ys => if x = b then y else yF b xs ys
  | _, _ => 0
def vw : AC := Qb [0, 1, 2] (.reg [mc 6 (V.int 0)]) (Qb [] (Qb [0, 1, 2, 7] (.reg [mc 7 (V.int 0)]) (.block 0 (Y6 [0, 1, 2, 7] (Qb [0, 1, 2, 7] (Qb [0, 1, 2, 7, 11] (.reg [mv 8 7, mv 9 1, ln 10 9, bn 11 .lss 8 10]) (.cond (.t 11) .skip (.exit 0))) (Qb [0, 1, 2, 7] (.block 1 (Qb [0, 1, 2, 7, 19] (.reg [mv 14 1, mv 15 7, ia 16 1 14 15, ld 17 1 16, mv 18 0, bn 19 .eql 17 18]) (.cond (.t 19) (Qb [6] (.reg [mv 20 2, mv 21 7, ia 22 1 20 21, ld 23 1 22, mv 6 23]) .ret) .skip))) (.reg [mv 12 7, bc 13 .add 12 (V.int 1), mv 7 13])))))) (Qb [6] (.reg [mc 6 (V.int 0)]) .ret)) def r_ref02_among : List Jf := [.tmp 6]
def we (Γ : Env) (f : Nat) : Prop := ∀ (b : Int) (xs ys : List Int) (hs : xs.length ≤ ys.length) (h2 : xs.length < 2 ^ 62), EvN Γ f [V.int b, .sl 1 (xs.map V.int), .sl 1 (ys.map V.int)] (V.int (yF b xs ys))
theorem ahm {Γ : Env} {f : Nat} (h : Has Γ.P f 24 vw r_ref02_among)  : we Γ f := by
  intro b xs ys hs h2
  refine Qd h zsi zcl zcl fun C hC hm => ?_
  subst hC
  unfold vw
  refine zgo ?_; repeat' first | exact zt | apply zan | intro hc
  refine Y2 (ι := Nat) (fun k => k ≤ xs.length ∧ yF b (xs.drop k) (ys.drop k) = yF b xs ys) (fun k => [(7, V.int k)]) (fun k => xs.length - k) 0 (by omega) ⟨by simp, by simp⟩ (by repeat' first | exact X2 | refine WM (by omega) (by simp only [Ob.lt, ltL, V.lt, and_self, and_true]; try omega) ?_) (fun i hi => by simp only [ovT, X0, Nat.reduceEqDiff, reduceIte]; (repeat' first | exact Ve | refine XO ?_ ?_ | simp only [V.lt, ltL, and_self, and_true] | omega)) zet fun k hk K' hL => ?_
  obtain ⟨hk, hinv⟩ := hk
  simp only [ovT, X0, Nat.reduceEqDiff, reduceIte]
  rcases hd : xs.drop k with _ | ⟨x, r⟩
  · have := Je hd
    rw [hd] at hinv
    refine zgo ?_; repeat' first | exact zt | apply zan | intro hc
    refine Qv _ rfl ?_; simp only [go_sem, Nat.reduceEqDiff, Nat.reduceAdd, reduceIte, reduceCtorEq]
    rw [← hinv]; simp [yF]
  · obtain ⟨hk', hget, hr⟩ := QJ hd
    rcases hd2 : ys.drop k with _ | ⟨y, r2⟩
    · have := Je hd2; omega
    · obtain ⟨hk2, hget2, hr2⟩ := QJ hd2
      rw [hd, hd2] at hinv
      have hw := Qr (k := k) (by omega)
      (have zx := And.intro hget (And.intro hget2 hw)); refine zgo ?_; repeat' first | exact zt | apply zan | intro hc
      · refine Qv _ rfl ?_; simp only [go_sem, Nat.reduceEqDiff, Nat.reduceAdd, reduceIte, reduceCtorEq]
        rw [← hinv]; simp [yF, hc]
      · refine hL _ (k + 1) zet ⟨by omega, ?_⟩ (by omega) (fun a ha => by simp only [u32, u33, u34, u35, u36, u37, u38, u39]; repeat rw [if_neg (by omega)])
        rw [hr, hr2, ← hinv, yF, if_neg hc]
def abz (a : Int) : Int := if a = 1 then 18 else if a = 2 then 60 else if a = 3 ∨ a = 8 ∨ a = 21 then 128 else if a = 4 then 192 else if a = 18 ∨ a = 22 then 256 else if a = 19 then 64 else if a = 20 then 80 else 0
def asr (b : Int) : Int := if b < 512 ∨ 16384 < b then 0 else amy b am9
def xW : AC := Qb [0] (.reg [mc 2 (V.int 0)]) (Qb [] (Qb [3] (.reg [mv 3 0]) (.block 0 (Qb [3, 4] (.reg [bc 5 .eql 3 (V.int 1), mv 4 5]) (.cond (.t 4) (Qb [2] (.reg [mc 2 (V.int 18)]) .ret) (Qb [3, 6] (.reg [bc 7 .eql 3 (V.int 2), mv 6 7]) (.cond (.t 6) (Qb [2] (.reg [mc 2 (V.int 60)]) .ret) (Qb [3, 8] (Qb [3, 8] (.reg [bc 9 .eql 3 (V.int 3), mv 8 9]) (.cond (.t 8) .skip (Qb [3, 8] (.reg [bc 10 .eql 3 (V.int 8), mv 8 10]) (.cond (.t 8) .skip (.reg [bc 11 .eql 3 (V.int 21), mv 8 11]))))) (.cond (.t 8) (Qb [2] (.reg [mc 2 (V.int 128)]) .ret) (Qb [3, 12] (.reg [bc 13 .eql 3 (V.int 4), mv 12 13]) (.cond (.t 12) (Qb [2] (.reg [mc 2 (V.int 192)]) .ret) (Qb [3, 14] (Qb [3, 14] (.reg [bc 15 .eql 3 (V.int 18), mv 14 15]) (.cond (.t 14) .skip (.reg [bc 16 .eql 3 (V.int 22), mv 14 16]))) (.cond (.t 14) (Qb [2] (.reg [mc 2 (V.int 256)]) .ret) (Qb [3, 17] (.reg [bc 18 .eql 3 (V.int 19), mv 17 18]) (.cond (.t 17) (Qb [2] (.reg [mc 2 (V.int 64)]) .ret) (Qb [19] (.reg [bc 20 .eql 3 (V.int 20), mv 19 20]) (.cond (.t 19) (Qb [2] (.reg [mc 2 (V.int 80)]) .ret) .skip)))))))))))))))) (Qb [2] (.reg [mc 2 (V.int 0)]) .ret)) def r_ref02_single : List Jf := [.tmp 2]
def yQ (Γ : Env) (f : Nat) : Prop := ∀ (a : Int), EvN Γ f [V.int a] (V.int (abz a))
theorem agx {Γ : Env} {f : Nat} (h : Has Γ.P f 21 xW r_ref02_single)  : yQ Γ f := by
  intro a
  refine Qd h zsi zcl zcl fun C hC hm => ?_
  subst hC
  unfold xW
  refine zgo ?_; repeat' first | exact zt | apply zan | intro hc
  all_goals (refine Qv _ rfl ?_; simp only [go_sem, Nat.reduceEqDiff, Nat.reduceAdd, reduceIte, reduceCtorEq]; simp [abz, *])
def yq : AC := Qb [0] (.reg [mc 2 (V.int 0)]) (Qb [] (.block 0 (Qb [0, 3] (.reg [mv 4 0, bc 5 .lss 4 (V.int 512), mv 6 5, mg 7 0 6 false, xg 8 (.bin .gtr (.t 7) (.c (V.int 16384))) 6 false, xo 9 (.pick (.t 6) (.c (V.bool true)) (.t 8)), mv 3 9]) (.cond (.t 3) (Qb [2] (.reg [mc 2 (V.int 0)]) .ret) (Qb [0, 10] (.reg [mv 11 0, bc 12 .lss 11 (V.int 1024), mv 10 12]) (.cond (.t 10) (Qb [2] (.reg [mc 2 (V.int 56)]) .ret) (Qb [0, 13] (.reg [mv 14 0, bc 15 .lss 14 (V.int 2048), mv 13 15]) (.cond (.t 13) (Qb [2] (.reg [mc 2 (V.int 80)]) .ret) (Qb [0, 16] (.reg [mv 17 0, bc 18 .lss 17 (V.int 3072), mv 16 18]) (.cond (.t 16) (Qb [2] (.reg [mc 2 (V.int 112)]) .ret) (Qb [0, 19] (.reg [mv 20 0, bc 21 .lss 20 (V.int 7680), mv 19 21]) (.cond (.t 19) (Qb [2] (.reg [mc 2 (V.int 128)]) .ret) (Qb [22] (.reg [mv 23 0, bc 24 .lss 23 (V.int 15360), mv 22 24]) (.cond (.t 22) (Qb [2] (.reg [mc 2 (V.int 192)]) .ret) .skip))))))))))))) (Qb [2] (.reg [mc 2 (V.int 256)]) .ret)) def r_ref02_modulus : List Jf := [.tmp 2]
def jo (Γ : Env) (f : Nat) : Prop := ∀ (b : Int), EvN Γ f [V.int b] (V.int (asr b))
theorem afq {Γ : Env} {f : Nat} (h : Has Γ.P f 25 yq r_ref02_modulus)  : jo Γ f := by
  intro b
  refine Qd h zsi zcl zcl fun C hC hm => ?_
  subst hC
  unfold yq
  refine zgo ?_; repeat' first | exact zt | apply zan | intro hc
  all_goals (refine Qv _ rfl ?_; simp only [go_sem, Nat.reduceEqDiff, Nat.reduceAdd, reduceIte, reduceCtorEq]; simp only [asr, amy, am9]; repeat' split) <;> omega
def wQ (a b : Int) : Int :=
  if a = 5 ∨ a = 6 ∨ a = 10 ∨ a = 11 then asr b
  else if a = 7 ∨ a = 12 then (if b = 160 ∨ b = 224 ∨ b = 256 ∨ b = 384 ∨ b = 521 then IntKind.i64.wrap (b.tdiv 2) else 0)
  else if a = 9 then yF b [44, 65, 87] [128, 192, 256]
  else if a = 13 then yF b [512, 768, 1024] [128, 192, 256]
  else if a = 14 then yF b [40, 128] [40, 60]
  else if a = 15 then yF b [112, 168] [80, 112]
  else if a = 16 ∨ a = 17 then yF b [128, 256] [128, 256]
  else yF b [0] [abz a]
theorem amc (a : Int) (ha : ¬ (1 ≤ a ∧ a ≤ 22)) : abz a = 0 := by
  simp only [abz]; repeat' split
  all_goals omega
theorem ag6 (a b : Int) : wQ a b = Q4 a b := by
  by_cases ha : 1 ≤ a ∧ a ≤ 22
  · rcases (by omega : a = 1 ∨ a = 2 ∨ a = 3 ∨ a = 4 ∨ a = 5 ∨ a = 6 ∨ a = 7 ∨ a = 8 ∨ a = 9 ∨ a = 10 ∨ a = 11 ∨ a = 12 ∨ a = 13 ∨ a = 14 ∨ a = 15 ∨ a = 16 ∨ a = 17 ∨ a = 18 ∨ a = 19 ∨ a = 20 ∨ a = 21 ∨ a = 22) with rfl | rfl | rfl | rfl | rfl | rfl | rfl | rfl | rfl | rfl | rfl | rfl | rfl | rfl | rfl | rfl | rfl | rfl | rfl | rfl | rfl | rfl
    all_goals simp [wQ, Q4, jY, Uh, yW, yF, abz, vY, asr]
    all_goals (repeat' split) <;> first | omega | rfl | simp_all
  · have hs := amc a ha
    rw [Q4, jY, if_pos (by simp [ha])]
    simp only [wQ]
    rw [if_neg (by omega), if_neg (by omega), if_neg (by omega), if_neg (by omega), if_neg (by omega), if_neg (by omega), if_neg (by omega), hs]
    simp [yF]
def jg (U7 Xk qA : Nat) : AC := Qb [1] (.reg [xo 1 (.box true 2 (.t 0)), mc 2 (V.int 0)]) (Qb [1, 3] (.reg [fa 4 1 1, ld 5 1 4, mv 3 5]) (Qb [1, 3] (Qb [1, 3, 7] (.reg [fa 6 0 1, ld 7 1 6]) (.block 0 (Qb [1, 3, 7, 8] (Qb [1, 3, 7, 8] (.reg [bc 9 .eql 7 (V.int 5), mv 8 9]) (.cond (.t 8) .skip (Qb [1, 3, 7, 8] (.reg [bc 10 .eql 7 (V.int 6), mv 8 10]) (.cond (.t 8) .skip (Qb [1, 3, 7, 8] (.reg [bc 11 .eql 7 (V.int 10), mv 8 11]) (.cond (.t 8) .skip (.reg [bc 12 .eql 7 (V.int 11), mv 8 12]))))))) (.cond (.t 8) (Qb [2] (.reg [mv 13 3, cl 14 U7 [13], mv 2 14]) .ret) (Qb [1, 3, 7, 15] (Qb [1, 3, 7, 15] (.reg [bc 16 .eql 7 (V.int 7), mv 15 16]) (.cond (.t 15) .skip (.reg [bc 17 .eql 7 (V.int 12), mv 15 17]))) (.cond (.t 15) (Qb [] (Qb [3, 35] (.reg [mv 18 3, bc 19 .eql 18 (V.int 160), mv 20 19, mg 21 3 20 false, xg 22 (.bin .eql (.t 21) (.c (V.int 224))) 20 false, xo 23 (.pick (.t 20) (.c (V.bool true)) (.t 22)), mv 24 23, mg 25 3 24 false, xg 26 (.bin .eql (.t 25) (.c (V.int 256))) 24 false, xo 27 (.pick (.t 24) (.c (V.bool true)) (.t 26)), mv 28 27, mg 29 3 28 false, xg 30 (.bin .eql (.t 29) (.c (V.int 384))) 28 false, xo 31 (.pick (.t 28) (.c (V.bool true)) (.t 30)), mv 32 31, mg 33 3 32 false, xg 34 (.bin .eql (.t 33) (.c (V.int 521))) 32 false, xo 35 (.pick (.t 32) (.c (V.bool true)) (.t 34))]) (.cond (.t 35) (Qb [2] (.reg [mv 36 3, bc 37 .quo 36 (V.int 2), mv 2 37]) .ret) .skip)) (Qb [2] (.reg [mc 2 (V.int 0)]) .ret)) (Qb [1, 3, 7, 38] (.reg [bc 39 .eql 7 (V.int 9), mv 38 39]) (.cond (.t 38) (Qb [2] (.reg [mv 40 3, xo 41 (.bslice 3 1 false [vi0] [(0, (.c (V.int 44))), (1, (.c (V.int 65))), (2, (.c (V.int 87)))]), xo 42 (.bslice 3 1 false [vi0] [(0, (.c (V.int 128))), (1, (.c (V.int 192))), (2, (.c (V.int 256)))]), cl 43 Xk [40, 41, 42], mv 2 43]) .ret) (Qb [1, 3, 7, 44] (.reg [bc 45 .eql 7 (V.int 13), mv 44 45]) (.cond (.t 44) (Qb [2] (.reg [mv 46 3, xo 47 (.bslice 3 1 false [vi0] [(0, (.c (V.int 512))), (1, (.c (V.int 768))), (2, (.c (V.int 1024)))]), xo 48 (.bslice 3 1 false [vi0] [(0, (.c (V.int 128))), (1, (.c (V.int 192))), (2, (.c (V.int 256)))]), cl 49 Xk [46, 47, 48], mv 2 49]) .ret) (Qb [1, 3, 7, 50] (.reg [bc 51 .eql 7 (V.int 14), mv 50 51]) (.cond (.t 50) (Qb [2] (.reg [mv 52 3, xo 53 (.bslice 2 1 false [vi0] [(0, (.c (V.int 40))), (1, (.c (V.int 128)))]), xo 54 (.bslice 2 1 false [vi0] [(0, (.c (V.int 40))), (1, (.c (V.int 60)))]), cl 55 Xk [52, 53, 54], mv 2 55]) .ret) (Qb [1, 3, 7, 56] (.reg [bc 57 .eql 7 (V.int 15), mv 56 57]) (.cond (.t 56) (Qb [2] (.reg [mv 58 3, xo 59 (.bslice 2 1 false [vi0] [(0, (.c (V.int 112))), (1, (.c (V.int 168)))]), xo 60 (.bslice 2 1 false [vi0] [(0, (.c (V.int 80))), (1, (.c (V.int 112)))]), cl 61 Xk [58, 59, 60], mv 2 61]) .ret) (Qb [1, 3, 62] (Qb [1, 3, 7, 62] (.reg [bc 63 .eql 7 (V.int 16), mv 62 63]) (.cond (.t 62) .skip (.reg [bc 64 .eql 7 (V.int 17), mv 62 64]))) (.cond (.t 62) (Qb [2] (.reg [mv 65 3, xo 66 (.bslice 2 1 false [vi0] [(0, (.c (V.int 128))), (1, (.c (V.int 256)))]), xo 67 (.bslice 2 1 false [vi0] [(0, (.c (V.int 128))), (1, (.c (V.int 256)))]), cl 68 Xk [65, 66, 67], mv 2 68]) .ret) .skip)))))))))))))))) (Qb [2] (.reg [mv 69 3, xo 70 (.bslice 1 1 false [vi0] [(0, (.c (V.int 0)))]), fa 71 0 1, ld 72 1 71, cl 73 qA [72], xo 74 (.bslice 1 1 false [vi0] [(0, (.t 73))]), cl 75 Xk [69, 70, 74], mv 2 75]) .ret))) def r_ref02_Strength : List Jf := [.tmp 2]
def qv (Γ : Env) (f : Nat) : Prop := ∀ (a b : Int), EvN Γ f [.agg [V.int a, V.int b]] (V.int (Q4 a b))
theorem aec {Γ : Env} {f U7 Xk qA : Nat} (h : Has Γ.P f 76 (jg U7 Xk qA) r_ref02_Strength) (z0 : jo Γ U7) (z1 : we Γ Xk) (z2 : yQ Γ qA) : qv Γ f := by
  intro a b
  refine Qd h zsi zcl zcl fun C hC hm => ?_
  subst hC
  unfold jg
  rw [← ag6]
  have k1 := z1 b [44, 65, 87] [128, 192, 256] (by simp) (by simp)
  have k2 := z1 b [512, 768, 1024] [128, 192, 256] (by simp) (by simp)
  have k3 := z1 b [40, 128] [40, 60] (by simp) (by simp)
  have k4 := z1 b [112, 168] [80, 112] (by simp) (by simp)
  have k5 := z1 b [128, 256] [128, 256] (by simp) (by simp)
  have k6 := z1 b [0] [abz a] (by simp) (by simp)
  (have zy0 := k1.b; have zy1 := k2.b; have zy2 := k3.b; have zy3 := k4.b; have zy4 := k5.b; have zy5 := k6.b); refine zgo ?_; repeat' first | exact zt | apply zan | intro hc
  all_goals (refine Qv _ rfl ?_; simp only [go_sem, Nat.reduceEqDiff, Nat.reduceAdd, reduceIte, reduceCtorEq]; simp [wQ, *])
def vA (Uk : Nat) : AC := Qb [1] (.reg [xo 1 (.box true 2 (.t 0)), mc 2 (V.bool false)]) (Qb [2] (.reg [xo 3 (.load true 2 (.t 1)), cl 4 Uk [3], bc 5 .gtr 4 (V.int 0), mv 2 5]) .ret) def r_ref02_Valid : List Jf := [.tmp 2]
def qF (Γ : Env) (f : Nat) : Prop := ∀ (a b : Int), EvN Γ f [.agg [V.int a, V.int b]] (V.bool (decide (Q4 a b > 0)))
theorem ahn {Γ : Env} {f Uk : Nat} (h : Has Γ.P f 6 (vA Uk) r_ref02_Valid) (z0 : qv Γ Uk) : qF Γ f := by
  intro a b
  refine Qd h zsi zcl zcl fun C hC hm => ?_
  subst hC
  unfold vA
  refine zgo ?_; repeat' first | exact zt | apply zan | intro hc
  refine Qv _ rfl ?_; simp only [go_sem, Nat.reduceEqDiff, Nat.reduceAdd, reduceIte, reduceCtorEq]
theorem aqk {n : Int} (h0 : 0 ≤ n) (h1 : n < 256) : IntKind.u8.wrap n = n := by
  have e1 : IntKind.u8.bits = 8 := rfl
  have e2 : IntKind.u8.signed = false := rfl
  simp only [IntKind.wrap, e1, e2, Bool.false_and]
  simp; omega
end Av
end

/- K11 -/
import Derived.Test.YtalpffbofjlfgaaDoorK9
import Derived.KernelRfl
set_option linter.unusedVariables false
set_option linter.unusedSimpArgs false
section
set_option linter.unusedSimpArgs false
set_option linter.unusedVariables false
set_option maxRecDepth 10000
namespace Av
open Go
attribute [local irreducible] AWp Y0 Xe Xo awS awC Wo awQ Wp QS JT Wm awR JV awB okR Y6 ris
def acJ (a n : Int) : Int := if n < 1 then 0 else (IntKind.i64.wrap (a.tmod n + n)).tmod n
def qT : AC := QP [0, 1] (.reg [mc 4 (V.int 0)]) (QP [0, 1] (QP [0, 1, 6] (.reg [mv 5 1, bc 6 .lss 5 (V.int 1)]) (.cond (.t 6) (QP [4] (.reg [mc 4 (V.int 0)]) (.ret)) (.skip))) (QP [4] (.reg [mv 7 0, mv 8 1, bn 9 .rem 7 8, mv 10 1, bn 11 .add 9 10, mv 12 1, bn 13 .rem 11 12, mv 4 13]) (.ret))) def r_make_Mod : List Xq := [.tmp 4]
def KJ (Γ : Env) (f : Nat) : Prop := ∀ (a n : Int), EvN Γ f [V.int a, V.int n] (V.int (acJ a n))
theorem wP {Γ : Env} {f : Nat} (h : Has Γ.P f 14 qT r_make_Mod)  : KJ Γ f := by
  intro a n
  refine Q1 h (by simp) (by simp only [V.closed, Qg, V.noSl, Jw, and_self, and_true, true_and]) (by simp only [V.closed, Qg, V.noSl, Jw, and_self, and_true, true_and]) fun C hC hm => ?_
  subst hC
  unfold qT
  repeat' (first | refine Qe fun K' hK => ?_ | refine Qk fun K' hK => ?_ | refine Qf ?_ | refine Qj ?_ | refine Qa ?_ | ((first | refine Qi ⟨_, rfl, fun hc => ?_, fun hc => ?_⟩ | refine QY (fun hc => ?_) (fun hc => ?_) | refine QZ (fun hc => ?_) (fun hc => ?_)) <;> first | exact Bool.noConfusion hc | ((try simp only [znz] at hc); first | exact znf | skip)) | refine Qn ?_ | refine Qh ?_ | simp (maxSteps := 1000000) only [go_sem, Nat.reduceAdd, Nat.reduceMul, Nat.reduceEqDiff, Nat.reduceLeDiff, Nat.reduceLT, Nat.reduceSub, Int.reduceEq, Int.reduceBEq, Int.reduceLT, Int.reduceLE, Int.reduceAdd, Int.reduceToNat, reduceIte, reduceCtorEq] | (refine hK _ ?_; clear hK; clear K') | refine And.intro ?_ ?_ | exact zlo | omega | exact zms)
  · refine Q5 _ rfl ?_
    simp only [go_sem, Nat.reduceEqDiff, Nat.reduceAdd, reduceIte, reduceCtorEq]
    simp [acJ, hc]
  · refine Q5 _ rfl ?_
    simp only [go_sem, Nat.reduceEqDiff, Nat.reduceAdd, reduceIte, reduceCtorEq]
    simp [acJ, hc]
def ace (x : Int) : Nat → List Int → Int
  | _, [] => -1
  | k, y :: r => if x = y then k else ace x (k + 1) r
end Av
end
section
set_option linter.unusedSimpArgs false
set_option linter.unusedVariables false
set_option maxRecDepth 10000
namespace Av
open Go
attribute [local irreducible] AWp Y0 Xe Xo awS awC Wo awQ Wp QS JT Wm awR JV awB okR Y6 ris
structure acA where
  name : List UInt8
  kind : Int
  way : Int
  sizes : List Int
  strengths : List Int
  deriving DecidableEq
def acA.v (r : acA) : List V := [V.str r.name, V.int r.kind, V.int r.way, .sl 1 (r.sizes.map V.int), .sl 1 (r.strengths.map V.int)]
def aeo : acA := ⟨[], 0, 0, [], []⟩
def wz : List acA := [aeo, ⟨[109, 100, 53], 1, 0, [], [18]⟩, ⟨[115, 104, 97, 49], 1, 0, [], [60]⟩, ⟨[115, 104, 97, 50, 53, 54], 1, 0, [], [128]⟩, ⟨[115, 104, 97, 51, 56, 52], 1, 0, [], [192]⟩, ⟨[114, 115, 97], 2, 1, [], []⟩, ⟨[100, 115, 97], 2, 1, [], []⟩, ⟨[101, 99, 100, 115, 97], 2, 2, [], []⟩, ⟨[101, 100, 50, 53, 53, 49, 57], 2, 0, [], [128]⟩, ⟨[109, 108, 100, 115, 97], 2, 3, [44, 65, 87], [128, 192, 256]⟩, ⟨[114, 115, 97, 107, 120], 3, 1, [], []⟩, ⟨[100, 104, 101], 3, 1, [], []⟩, ⟨[101, 99, 100, 104, 101], 3, 2, [], []⟩, ⟨[109, 108, 107, 101, 109], 3, 3, [512, 768, 1024], [128, 192, 256]⟩, ⟨[114, 99, 52], 4, 3, [40, 128], [40, 60]⟩, ⟨[100, 101, 115, 51], 4, 3, [112, 168], [80, 112]⟩, ⟨[97, 101, 115, 99, 98, 99], 4, 3, [128, 256], [128, 256]⟩, ⟨[97, 101, 115, 103, 99, 109], 4, 3, [128, 256], [128, 256]⟩, ⟨[99, 104, 97, 99, 104, 97], 4, 0, [], [256]⟩, ⟨[104, 109, 97, 99, 109, 100, 53], 5, 0, [], [64]⟩, ⟨[104, 109, 97, 99, 115, 104, 97, 49], 5, 0, [], [80]⟩, ⟨[104, 109, 97, 99, 115, 104, 97, 50, 53, 54], 5, 0, [], [128]⟩, ⟨[97, 101, 97, 100], 5, 0, [], [256]⟩]
def ad1 (a : Int) : acA := if 1 ≤ a ∧ a ≤ 22 then wz.getD a.toNat aeo else aeo
end Av
end
section
set_option linter.unusedSimpArgs false
set_option linter.unusedVariables false
set_option maxRecDepth 10000
namespace Av
open Go
attribute [local irreducible] AWp Y0 Xe Xo awS awC Wo awQ Wp QS JT Wm awR JV awB okR Y6 ris
def aeM (b : Int) : List (Int × Int) → Int
  | [] => 256
  | (x, y) :: r => if b < x then y else aeM b r
def aeT : List (Int × Int) := [(1024, 56), (2048, 80), (3072, 112), (7680, 128), (15360, 192)]
def aaF (R : acA) (ok : Bool) (b : Int) : Int :=
  if ok = false then 0
  else if R.way = 0 then (if b = 0 then R.strengths.headD 0 else 0)
  else if R.way = 1 then (if 512 ≤ b ∧ b ≤ 16384 then aeM b aeT else 0)
  else if R.way = 2 then (if ace b 0 [160, 224, 256, 384, 521] ≥ 0 then IntKind.i64.wrap (b.tdiv 2) else 0)
  else if R.way = 3 then (if ace b 0 R.sizes ≥ 0 then R.strengths.getD (ace b 0 R.sizes).toNat 0 else 0)
  else 0
def aaE (a b : Int) : Int := aaF (ad1 a) (decide (1 ≤ a ∧ a ≤ 22)) b
def acA.ok (r : acA) : Bool := (r.way != 0 || !r.strengths.isEmpty) && (r.way != 3 || r.sizes.length == r.strengths.length) && decide (r.sizes.length < 10)
end Av
end

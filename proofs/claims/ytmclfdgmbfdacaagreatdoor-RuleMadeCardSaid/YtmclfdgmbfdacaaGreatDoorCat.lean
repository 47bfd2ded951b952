/- Cat -/
import Derived.Test.YtmclfdgmbfdacaaGreatDoorAv3
import Derived.KernelRfl
import Derived.Lib.ItoaLen
import Derived.Lib.IndexMore
import Derived.Lib.AtoiAll
import Derived.Test.YtmclfdgmbfdacaaGreatDoorAvM
set_option linter.unusedVariables false
set_option linter.unusedSimpArgs false
section
set_option linter.unusedSimpArgs false
set_option linter.unusedVariables false
set_option maxRecDepth 10000
namespace Av
open Go
attribute [local irreducible] AWp XV WG WJ awS awC VK awQ V4 Jq Xf VH awR Xk awB okR XT ris
def ahb (a n : Int) : Int := if n < 1 then 0 else (IntKind.i64.wrap (a.tmod n + n)).tmod n
def wa : AC := QR [0, 1] (.reg [mc 4 (V.int 0)]) (QR [0, 1] (QR [0, 1, 6] (.reg [mv 5 1, bc 6 .lss 5 (V.int 1)]) (.cond (.t 6) (QR [4] (.reg [mc 4 (V.int 0)]) (.ret)) (.skip))) (QR [4] (.reg [mv 7 0, mv 8 1, bn 9 .rem 7 8, mv 10 1, bn 11 .add 9 10, mv 12 1, bn 13 .rem 11 12, mv 4 13]) (.ret))) def r_make_Mod : List XY := [.tmp 4]
def y8 (Γ : Env) (f : Nat) : Prop := ∀ (a n : Int), EvN Γ f [V.int a, V.int n] (V.int (ahb a n))
theorem adj {Γ : Env} {f : Nat} (h : Has Γ.P f 14 wa r_make_Mod)  : y8 Γ f := by
  intro a n
  refine JD h (by simp) (by simp only [V.closed, Qq, V.noSl, Yq, and_self, and_true, true_and]) (by simp only [V.closed, Qq, V.noSl, Yq, and_self, and_true, true_and]) fun C hC hm => ?_
  subst hC
  unfold wa
  repeat' (first | refine Qf fun K' hK => ?_ | refine Qi fun K' hK => ?_ | refine Qg ?_ | refine Qh ?_ | refine Qa ?_ | ((first | refine Qk ⟨_, rfl, fun hc => ?_, fun hc => ?_⟩ | refine QM (fun hc => ?_) (fun hc => ?_) | refine QN (fun hc => ?_) (fun hc => ?_)) <;> first | exact Bool.noConfusion hc | ((try simp only [znz] at hc); first | exact znf | skip)) | refine Qo ?_ | refine Qj ?_ | simp (maxSteps := 1000000) only [go_sem, Nat.reduceAdd, Nat.reduceMul, Nat.reduceEqDiff, Nat.reduceLeDiff, Nat.reduceLT, Nat.reduceSub, Int.reduceEq, Int.reduceBEq, Int.reduceLT, Int.reduceLE, Int.reduceAdd, Int.reduceToNat, reduceIte, reduceCtorEq] | (refine hK _ ?_; clear hK; clear K') | refine And.intro ?_ ?_ | exact zlo | omega | exact zms)
  · refine QQ _ rfl ?_
    simp only [go_sem, Nat.reduceEqDiff, Nat.reduceAdd, reduceIte, reduceCtorEq]
    simp [ahb, hc]
  · refine QQ _ rfl ?_
    simp only [go_sem, Nat.reduceEqDiff, Nat.reduceAdd, reduceIte, reduceCtorEq]
    simp [ahb, hc]
def agJ (x : Int) : Nat → List Int → Int
  | _, [] => -1
  | k, y :: r => if x = y then k else agJ x (k + 1) r
end Av
end
section
set_option linter.unusedSimpArgs false
set_option linter.unusedVariables false
set_option maxRecDepth 10000
namespace Av
open Go
attribute [local irreducible] AWp XV WG WJ awS awC VK awQ V4 Jq Xf VH awR Xk awB okR XT ris
structure wX where
  name : List UInt8
  kind : Int
  way : Int
  sizes : List Int
  strengths : List Int
  deriving DecidableEq
def wX.v (r : wX) : List V := [V.str r.name, V.int r.kind, V.int r.way, .sl 1 (r.sizes.map V.int), .sl 1 (r.strengths.map V.int)]
def agh : wX := ⟨[], 0, 0, [], []⟩
def Vq : List wX := [agh, ⟨[109, 100, 53], 1, 0, [], [18]⟩, ⟨[115, 104, 97, 49], 1, 0, [], [60]⟩, ⟨[115, 104, 97, 50, 53, 54], 1, 0, [], [128]⟩, ⟨[115, 104, 97, 51, 56, 52], 1, 0, [], [192]⟩, ⟨[114, 115, 97], 2, 1, [], []⟩, ⟨[100, 115, 97], 2, 1, [], []⟩, ⟨[101, 99, 100, 115, 97], 2, 2, [], []⟩, ⟨[101, 100, 50, 53, 53, 49, 57], 2, 0, [], [128]⟩, ⟨[109, 108, 100, 115, 97], 2, 3, [44, 65, 87], [128, 192, 256]⟩, ⟨[114, 115, 97, 107, 120], 3, 1, [], []⟩, ⟨[100, 104, 101], 3, 1, [], []⟩, ⟨[101, 99, 100, 104, 101], 3, 2, [], []⟩, ⟨[109, 108, 107, 101, 109], 3, 3, [512, 768, 1024], [128, 192, 256]⟩, ⟨[114, 99, 52], 4, 3, [40, 128], [40, 60]⟩, ⟨[100, 101, 115, 51], 4, 3, [112, 168], [80, 112]⟩, ⟨[97, 101, 115, 99, 98, 99], 4, 3, [128, 256], [128, 256]⟩, ⟨[97, 101, 115, 103, 99, 109], 4, 3, [128, 256], [128, 256]⟩, ⟨[99, 104, 97, 99, 104, 97], 4, 0, [], [256]⟩, ⟨[104, 109, 97, 99, 109, 100, 53], 5, 0, [], [64]⟩, ⟨[104, 109, 97, 99, 115, 104, 97, 49], 5, 0, [], [80]⟩, ⟨[104, 109, 97, 99, 115, 104, 97, 50, 53, 54], 5, 0, [], [128]⟩, ⟨[97, 101, 97, 100], 5, 0, [], [256]⟩]
def aa4 : List V := Vq.flatMap wX.v
def Kg (a : Int) : wX := if 1 ≤ a ∧ a ≤ 22 then Vq.getD a.toNat agh else agh
theorem xW {α β : Type} {f : α → List β} {n : Nat} (h : ∀ x, (f x).length = n) : ∀ (l : List α) (k : Nat) (hk : k < l.length), ((l.flatMap f).drop (k * n)).take n = f l[k]
  | [], k, hk => by simp at hk
  | x :: l, 0, _ => by simp [List.take_append_of_le_length, h x]
  | x :: l, k + 1, hk => by
    have e : (k + 1) * n = (f x).length + k * n := by rw [h x, Nat.add_mul]; omega
    rw [List.flatMap_cons, e, ← List.drop_drop, List.drop_left]
    exact xW h l k (by simpa using hk)
theorem abV : aa4.length = 115 := rfl
theorem adI (a : Int) (h1 : 1 ≤ a) (h2 : a ≤ 22) : (aa4.drop (a.toNat * 5)).take 5 = (Kg a).v := by
  have hl : Vq.length = 23 := rfl
  have hk : a.toNat < Vq.length := by omega
  rw [aa4, xW (f := wX.v) (n := 5) (fun _ => rfl) Vq a.toNat hk, Kg, if_pos ⟨h1, h2⟩, List.getD_eq_getElem?_getD, List.getElem?_eq_getElem hk, Option.getD_some]
theorem aeM (r : wX) : Qq r.v := by simp [wX.v, Qq, V.closed]
theorem vR : Qq aa4 := aeN (by
  simp only [aa4, List.mem_flatMap]
  rintro v ⟨r, _, hr⟩
  simp [wX.v] at hr
  rcases hr with rfl | rfl | rfl | rfl | rfl <;> trivial)
def qt : AC := QR [0] (.reg [xo 0 (.alloc [.val (.string ⟨#[]⟩), .val (.int .i64 0), .val (.int .i64 0), .nil 1, .nil 1, .val (.string ⟨#[]⟩), .val (.int .i64 0), .val (.int .i64 0), .nil 1, .nil 1, .val (.string ⟨#[]⟩), .val (.int .i64 0), .val (.int .i64 0), .nil 1, .nil 1, .val (.string ⟨#[]⟩), .val (.int .i64 0), .val (.int .i64 0), .nil 1, .nil 1, .val (.string ⟨#[]⟩), .val (.int .i64 0), .val (.int .i64 0), .nil 1, .nil 1, .val (.string ⟨#[]⟩), .val (.int .i64 0), .val (.int .i64 0), .nil 1, .nil 1, .val (.string ⟨#[]⟩), .val (.int .i64 0), .val (.int .i64 0), .nil 1, .nil 1, .val (.string ⟨#[]⟩), .val (.int .i64 0), .val (.int .i64 0), .nil 1, .nil 1, .val (.string ⟨#[]⟩), .val (.int .i64 0), .val (.int .i64 0), .nil 1, .nil 1, .val (.string ⟨#[]⟩), .val (.int .i64 0), .val (.int .i64 0), .nil 1, .nil 1, .val (.string ⟨#[]⟩), .val (.int .i64 0), .val (.int .i64 0), .nil 1, .nil 1, .val (.string ⟨#[]⟩), .val (.int .i64 0), .val (.int .i64 0), .nil 1, .nil 1, .val (.string ⟨#[]⟩), .val (.int .i64 0), .val (.int .i64 0), .nil 1, .nil 1, .val (.string ⟨#[]⟩), .val (.int .i64 0), .val (.int .i64 0), .nil 1, .nil 1, .val (.string ⟨#[]⟩), .val (.int .i64 0), .val (.int .i64 0), .nil 1, .nil 1, .val (.string ⟨#[]⟩), .val (.int .i64 0), .val (.int .i64 0), .nil 1, .nil 1, .val (.string ⟨#[]⟩), .val (.int .i64 0), .val (.int .i64 0), .nil 1, .nil 1, .val (.string ⟨#[]⟩), .val (.int .i64 0), .val (.int .i64 0), .nil 1, .nil 1, .val (.string ⟨#[]⟩), .val (.int .i64 0), .val (.int .i64 0), .nil 1, .nil 1, .val (.string ⟨#[]⟩), .val (.int .i64 0), .val (.int .i64 0), .nil 1, .nil 1, .val (.string ⟨#[]⟩), .val (.int .i64 0), .val (.int .i64 0), .nil 1, .nil 1, .val (.string ⟨#[]⟩), .val (.int .i64 0), .val (.int .i64 0), .nil 1, .nil 1, .val (.string ⟨#[]⟩), .val (.int .i64 0), .val (.int .i64 0), .nil 1, .nil 1])]) (QR [0] (.reg [xo 1 (.bslice 1 1 false [(.int .i64 0)] [(0, (.c (V.int 18)))]), xo 2 (.build [(.string ⟨#[]⟩), (.int .i64 0), (.int .i64 0), (.slice none 0 0), (.slice none 0 0)] [(0, 1, (.c (V.str [109, 100, 53]))), (1, 1, (.c (V.int 1))), (2, 1, (.c (V.int 0))), (3, 1, (.c (.sc (.slice none 0 0)))), (4, 1, (.t 1))]), xo 3 (.bslice 1 1 false [(.int .i64 0)] [(0, (.c (V.int 60)))]), xo 4 (.build [(.string ⟨#[]⟩), (.int .i64 0), (.int .i64 0), (.slice none 0 0), (.slice none 0 0)] [(0, 1, (.c (V.str [115, 104, 97, 49]))), (1, 1, (.c (V.int 1))), (2, 1, (.c (V.int 0))), (3, 1, (.c (.sc (.slice none 0 0)))), (4, 1, (.t 3))]), xo 5 (.bslice 1 1 false [(.int .i64 0)] [(0, (.c (V.int 128)))]), xo 6 (.build [(.string ⟨#[]⟩), (.int .i64 0), (.int .i64 0), (.slice none 0 0), (.slice none 0 0)] [(0, 1, (.c (V.str [115, 104, 97, 50, 53, 54]))), (1, 1, (.c (V.int 1))), (2, 1, (.c (V.int 0))), (3, 1, (.c (.sc (.slice none 0 0)))), (4, 1, (.t 5))]), xo 7 (.bslice 1 1 false [(.int .i64 0)] [(0, (.c (V.int 192)))]), xo 8 (.build [(.string ⟨#[]⟩), (.int .i64 0), (.int .i64 0), (.slice none 0 0), (.slice none 0 0)] [(0, 1, (.c (V.str [115, 104, 97, 51, 56, 52]))), (1, 1, (.c (V.int 1))), (2, 1, (.c (V.int 0))), (3, 1, (.c (.sc (.slice none 0 0)))), (4, 1, (.t 7))]), xo 9 (.build [(.string ⟨#[]⟩), (.int .i64 0), (.int .i64 0), (.slice none 0 0), (.slice none 0 0)] [(0, 1, (.c (V.str [114, 115, 97]))), (1, 1, (.c (V.int 2))), (2, 1, (.c (V.int 1))), (3, 1, (.c (.sc (.slice none 0 0)))), (4, 1, (.c (.sc (.slice none 0 0))))]), xo 10 (.build [(.string ⟨#[]⟩), (.int .i64 0), (.int .i64 0), (.slice none 0 0), (.slice none 0 0)] [(0, 1, (.c (V.str [100, 115, 97]))), (1, 1, (.c (V.int 2))), (2, 1, (.c (V.int 1))), (3, 1, (.c (.sc (.slice none 0 0)))), (4, 1, (.c (.sc (.slice none 0 0))))]), xo 11 (.build [(.string ⟨#[]⟩), (.int .i64 0), (.int .i64 0), (.slice none 0 0), (.slice none 0 0)] [(0, 1, (.c (V.str [101, 99, 100, 115, 97]))), (1, 1, (.c (V.int 2))), (2, 1, (.c (V.int 2))), (3, 1, (.c (.sc (.slice none 0 0)))), (4, 1, (.c (.sc (.slice none 0 0))))]), xo 12 (.bslice 1 1 false [(.int .i64 0)] [(0, (.c (V.int 128)))]), xo 13 (.build [(.string ⟨#[]⟩), (.int .i64 0), (.int .i64 0), (.slice none 0 0), (.slice none 0 0)] [(0, 1, (.c (V.str [101, 100, 50, 53, 53, 49, 57]))), (1, 1, (.c (V.int 2))), (2, 1, (.c (V.int 0))), (3, 1, (.c (.sc (.slice none 0 0)))), (4, 1, (.t 12))]), xo 14 (.bslice 3 1 false [(.int .i64 0)] [(0, (.c (V.int 44))), (1, (.c (V.int 65))), (2, (.c (V.int 87)))]), xo 15 (.bslice 3 1 false [(.int .i64 0)] [(0, (.c (V.int 128))), (1, (.c (V.int 192))), (2, (.c (V.int 256)))]), xo 16 (.build [(.string ⟨#[]⟩), (.int .i64 0), (.int .i64 0), (.slice none 0 0), (.slice none 0 0)] [(0, 1, (.c (V.str [109, 108, 100, 115, 97]))), (1, 1, (.c (V.int 2))), (2, 1, (.c (V.int 3))), (3, 1, (.t 14)), (4, 1, (.t 15))]), xo 17 (.build [(.string ⟨#[]⟩), (.int .i64 0), (.int .i64 0), (.slice none 0 0), (.slice none 0 0)] [(0, 1, (.c (V.str [114, 115, 97, 107, 120]))), (1, 1, (.c (V.int 3))), (2, 1, (.c (V.int 1))), (3, 1, (.c (.sc (.slice none 0 0)))), (4, 1, (.c (.sc (.slice none 0 0))))]), xo 18 (.build [(.string ⟨#[]⟩), (.int .i64 0), (.int .i64 0), (.slice none 0 0), (.slice none 0 0)] [(0, 1, (.c (V.str [100, 104, 101]))), (1, 1, (.c (V.int 3))), (2, 1, (.c (V.int 1))), (3, 1, (.c (.sc (.slice none 0 0)))), (4, 1, (.c (.sc (.slice none 0 0))))]), xo 19 (.build [(.string ⟨#[]⟩), (.int .i64 0), (.int .i64 0), (.slice none 0 0), (.slice none 0 0)] [(0, 1, (.c (V.str [101, 99, 100, 104, 101]))), (1, 1, (.c (V.int 3))), (2, 1, (.c (V.int 2))), (3, 1, (.c (.sc (.slice none 0 0)))), (4, 1, (.c (.sc (.slice none 0 0))))]), xo 20 (.bslice 3 1 false [(.int .i64 0)] [(0, (.c (V.int 512))), (1, (.c (V.int 768))), (2, (.c (V.int 1024)))]), xo 21 (.bslice 3 1 false [(.int .i64 0)] [(0, (.c (V.int 128))), (1, (.c (V.int 192))), (2, (.c (V.int 256)))]), xo 22 (.build [(.string ⟨#[]⟩), (.int .i64 0), (.int .i64 0), (.slice none 0 0), (.slice none 0 0)] [(0, 1, (.c (V.str [109, 108, 107, 101, 109]))), (1, 1, (.c (V.int 3))), (2, 1, (.c (V.int 3))), (3, 1, (.t 20)), (4, 1, (.t 21))]), xo 23 (.bslice 2 1 false [(.int .i64 0)] [(0, (.c (V.int 40))), (1, (.c (V.int 128)))]), xo 24 (.bslice 2 1 false [(.int .i64 0)] [(0, (.c (V.int 40))), (1, (.c (V.int 60)))]), xo 25 (.build [(.string ⟨#[]⟩), (.int .i64 0), (.int .i64 0), (.slice none 0 0), (.slice none 0 0)] [(0, 1, (.c (V.str [114, 99, 52]))), (1, 1, (.c (V.int 4))), (2, 1, (.c (V.int 3))), (3, 1, (.t 23)), (4, 1, (.t 24))]), xo 26 (.bslice 2 1 false [(.int .i64 0)] [(0, (.c (V.int 112))), (1, (.c (V.int 168)))]), xo 27 (.bslice 2 1 false [(.int .i64 0)] [(0, (.c (V.int 80))), (1, (.c (V.int 112)))]), xo 28 (.build [(.string ⟨#[]⟩), (.int .i64 0), (.int .i64 0), (.slice none 0 0), (.slice none 0 0)] [(0, 1, (.c (V.str [100, 101, 115, 51]))), (1, 1, (.c (V.int 4))), (2, 1, (.c (V.int 3))), (3, 1, (.t 26)), (4, 1, (.t 27))]), xo 29 (.bslice 2 1 false [(.int .i64 0)] [(0, (.c (V.int 128))), (1, (.c (V.int 256)))]), xo 30 (.bslice 2 1 false [(.int .i64 0)] [(0, (.c (V.int 128))), (1, (.c (V.int 256)))]), xo 31 (.build [(.string ⟨#[]⟩), (.int .i64 0), (.int .i64 0), (.slice none 0 0), (.slice none 0 0)] [(0, 1, (.c (V.str [97, 101, 115, 99, 98, 99]))), (1, 1, (.c (V.int 4))), (2, 1, (.c (V.int 3))), (3, 1, (.t 29)), (4, 1, (.t 30))]), xo 32 (.bslice 2 1 false [(.int .i64 0)] [(0, (.c (V.int 128))), (1, (.c (V.int 256)))]), xo 33 (.bslice 2 1 false [(.int .i64 0)] [(0, (.c (V.int 128))), (1, (.c (V.int 256)))]), xo 34 (.build [(.string ⟨#[]⟩), (.int .i64 0), (.int .i64 0), (.slice none 0 0), (.slice none 0 0)] [(0, 1, (.c (V.str [97, 101, 115, 103, 99, 109]))), (1, 1, (.c (V.int 4))), (2, 1, (.c (V.int 3))), (3, 1, (.t 32)), (4, 1, (.t 33))]), xo 35 (.bslice 1 1 false [(.int .i64 0)] [(0, (.c (V.int 256)))]), xo 36 (.build [(.string ⟨#[]⟩), (.int .i64 0), (.int .i64 0), (.slice none 0 0), (.slice none 0 0)] [(0, 1, (.c (V.str [99, 104, 97, 99, 104, 97]))), (1, 1, (.c (V.int 4))), (2, 1, (.c (V.int 0))), (3, 1, (.c (.sc (.slice none 0 0)))), (4, 1, (.t 35))]), xo 37 (.bslice 1 1 false [(.int .i64 0)] [(0, (.c (V.int 64)))]), xo 38 (.build [(.string ⟨#[]⟩), (.int .i64 0), (.int .i64 0), (.slice none 0 0), (.slice none 0 0)] [(0, 1, (.c (V.str [104, 109, 97, 99, 109, 100, 53]))), (1, 1, (.c (V.int 5))), (2, 1, (.c (V.int 0))), (3, 1, (.c (.sc (.slice none 0 0)))), (4, 1, (.t 37))]), xo 39 (.bslice 1 1 false [(.int .i64 0)] [(0, (.c (V.int 80)))]), xo 40 (.build [(.string ⟨#[]⟩), (.int .i64 0), (.int .i64 0), (.slice none 0 0), (.slice none 0 0)] [(0, 1, (.c (V.str [104, 109, 97, 99, 115, 104, 97, 49]))), (1, 1, (.c (V.int 5))), (2, 1, (.c (V.int 0))), (3, 1, (.c (.sc (.slice none 0 0)))), (4, 1, (.t 39))]), xo 41 (.bslice 1 1 false [(.int .i64 0)] [(0, (.c (V.int 128)))]), xo 42 (.build [(.string ⟨#[]⟩), (.int .i64 0), (.int .i64 0), (.slice none 0 0), (.slice none 0 0)] [(0, 1, (.c (V.str [104, 109, 97, 99, 115, 104, 97, 50, 53, 54]))), (1, 1, (.c (V.int 5))), (2, 1, (.c (V.int 0))), (3, 1, (.c (.sc (.slice none 0 0)))), (4, 1, (.t 41))]), xo 43 (.bslice 1 1 false [(.int .i64 0)] [(0, (.c (V.int 256)))]), xo 44 (.build [(.string ⟨#[]⟩), (.int .i64 0), (.int .i64 0), (.slice none 0 0), (.slice none 0 0)] [(0, 1, (.c (V.str [97, 101, 97, 100]))), (1, 1, (.c (V.int 5))), (2, 1, (.c (V.int 0))), (3, 1, (.c (.sc (.slice none 0 0)))), (4, 1, (.t 43))]), xo 45 (.build [(.string ⟨#[]⟩), (.int .i64 0), (.int .i64 0), (.slice none 0 0), (.slice none 0 0), (.string ⟨#[]⟩), (.int .i64 0), (.int .i64 0), (.slice none 0 0), (.slice none 0 0), (.string ⟨#[]⟩), (.int .i64 0), (.int .i64 0), (.slice none 0 0), (.slice none 0 0), (.string ⟨#[]⟩), (.int .i64 0), (.int .i64 0), (.slice none 0 0), (.slice none 0 0), (.string ⟨#[]⟩), (.int .i64 0), (.int .i64 0), (.slice none 0 0), (.slice none 0 0), (.string ⟨#[]⟩), (.int .i64 0), (.int .i64 0), (.slice none 0 0), (.slice none 0 0), (.string ⟨#[]⟩), (.int .i64 0), (.int .i64 0), (.slice none 0 0), (.slice none 0 0), (.string ⟨#[]⟩), (.int .i64 0), (.int .i64 0), (.slice none 0 0), (.slice none 0 0), (.string ⟨#[]⟩), (.int .i64 0), (.int .i64 0), (.slice none 0 0), (.slice none 0 0), (.string ⟨#[]⟩), (.int .i64 0), (.int .i64 0), (.slice none 0 0), (.slice none 0 0), (.string ⟨#[]⟩), (.int .i64 0), (.int .i64 0), (.slice none 0 0), (.slice none 0 0), (.string ⟨#[]⟩), (.int .i64 0), (.int .i64 0), (.slice none 0 0), (.slice none 0 0), (.string ⟨#[]⟩), (.int .i64 0), (.int .i64 0), (.slice none 0 0), (.slice none 0 0), (.string ⟨#[]⟩), (.int .i64 0), (.int .i64 0), (.slice none 0 0), (.slice none 0 0), (.string ⟨#[]⟩), (.int .i64 0), (.int .i64 0), (.slice none 0 0), (.slice none 0 0), (.string ⟨#[]⟩), (.int .i64 0), (.int .i64 0), (.slice none 0 0), (.slice none 0 0), (.string ⟨#[]⟩), (.int .i64 0), (.int .i64 0), (.slice none 0 0), (.slice none 0 0), (.string ⟨#[]⟩), (.int .i64 0), (.int .i64 0), (.slice none 0 0), (.slice none 0 0), (.string ⟨#[]⟩), (.int .i64 0), (.int .i64 0), (.slice none 0 0), (.slice none 0 0), (.string ⟨#[]⟩), (.int .i64 0), (.int .i64 0), (.slice none 0 0), (.slice none 0 0), (.string ⟨#[]⟩), (.int .i64 0), (.int .i64 0), (.slice none 0 0), (.slice none 0 0), (.string ⟨#[]⟩), (.int .i64 0), (.int .i64 0), (.slice none 0 0), (.slice none 0 0), (.string ⟨#[]⟩), (.int .i64 0), (.int .i64 0), (.slice none 0 0), (.slice none 0 0)] [(5, 5, (.t 2)), (10, 5, (.t 4)), (15, 5, (.t 6)), (20, 5, (.t 8)), (25, 5, (.t 9)), (30, 5, (.t 10)), (35, 5, (.t 11)), (40, 5, (.t 13)), (45, 5, (.t 16)), (50, 5, (.t 17)), (55, 5, (.t 18)), (60, 5, (.t 19)), (65, 5, (.t 22)), (70, 5, (.t 25)), (75, 5, (.t 28)), (80, 5, (.t 31)), (85, 5, (.t 34)), (90, 5, (.t 36)), (95, 5, (.t 38)), (100, 5, (.t 40)), (105, 5, (.t 42)), (110, 5, (.t 44))]), xs 115 0 45]) (.ret)) def r_catalog_rows : List XY := [.cell 0 true 115]
def Ud (Γ : Env) (f : Nat) : Prop := EvC Γ f [] (.agg aa4)
theorem vI {Γ : Env} {f : Nat} (h : Has Γ.P f 46 qt r_catalog_rows)  : Ud Γ f := by
  refine jo h (by simp) (vR) fun C hC hm => ?_
  subst hC
  unfold qt
  repeat' (first | refine Qf fun K' hK => ?_ | refine Qi fun K' hK => ?_ | refine Qg ?_ | refine Qh ?_ | refine Qa ?_ | ((first | refine Qk ⟨_, rfl, fun hc => ?_, fun hc => ?_⟩ | refine QM (fun hc => ?_) (fun hc => ?_) | refine QN (fun hc => ?_) (fun hc => ?_)) <;> first | exact Bool.noConfusion hc | ((try simp only [znz] at hc); first | exact znf | skip)) | refine Qo ?_ | refine Qj ?_ | simp (maxSteps := 1000000) only [go_sem, Nat.reduceAdd, Nat.reduceMul, Nat.reduceEqDiff, Nat.reduceLeDiff, Nat.reduceLT, Nat.reduceSub, Int.reduceEq, Int.reduceBEq, Int.reduceLT, Int.reduceLE, Int.reduceAdd, Int.reduceToNat, reduceIte, reduceCtorEq] | (refine hK _ ?_; clear hK; clear K') | refine And.intro ?_ ?_ | exact zlo | omega | exact zms)
  refine QQ _ rfl ?_
  simp only [aa4, Vq, agh, wX.v, List.flatMap_cons, List.flatMap_nil, go_sem, Nat.reduceAdd, Nat.reduceMul, Nat.reduceEqDiff, Nat.reduceLeDiff, Nat.reduceLT, Nat.reduceSub, Int.reduceEq, Int.reduceBEq, Int.reduceLT, Int.reduceLE, Int.reduceAdd, Int.reduceToNat, reduceIte, reduceCtorEq]
def yg (Xz : Nat) : AC := QR [0, 2] (.reg [xo 2 (.alloc [.val (.string ⟨#[]⟩), .val (.int .i64 0), .val (.int .i64 0), .nil 1, .nil 1]), mc 3 (V.bool false)]) (QR [0, 2] (QR [0, 2, 9] (.reg [mv 4 0, bc 5 .lss 4 (V.int 1), mv 6 5, mg 7 0 6 false, xg 8 (.bin .gtr (.t 7) (.c (V.int 22))) 6 false, xo 9 (.pick (.t 6) (.c (V.bool true)) (.t 8))]) (.cond (.t 9) (QR [2, 3] (.reg [xo 10 (.build [(.string ⟨#[]⟩), (.int .i64 0), (.int .i64 0), (.slice none 0 0), (.slice none 0 0)] []), xs 5 2 10, mc 3 (V.bool false)]) (.ret)) (.skip))) (QR [2, 3] (.reg [cl 11 Xz [], mv 12 0, xo 13 (.idxA true 23 5 (.t 11) (.t 12)), xs 5 2 13, mc 3 (V.bool true)]) (.ret))) def r_catalog_of : List XY := [.cell 2 true 5, .tmp 3]
def jJ (Γ : Env) (f : Nat) : Prop := ∀ (a : Int), EvC Γ f [V.int a] (.tup [.agg (Kg a).v, V.bool (decide (1 ≤ a ∧ a ≤ 22))])
theorem abz {Γ : Env} {f Xz : Nat} (h : Has Γ.P f 14 (yg Xz) r_catalog_of) (Ve : Ud Γ Xz) : jJ Γ f := by
  intro a
  refine jo h (by simp) (⟨aeM _, trivial, trivial⟩) fun C hC hm => ?_
  subst hC
  unfold yg
  repeat' (first | refine Qf fun K' hK => ?_ | refine Qi fun K' hK => ?_ | refine Qg ?_ | refine Qh ?_ | refine Qa ?_ | ((first | refine Qk ⟨_, rfl, fun hc => ?_, fun hc => ?_⟩ | refine QM (fun hc => ?_) (fun hc => ?_) | refine QN (fun hc => ?_) (fun hc => ?_)) <;> first | exact Bool.noConfusion hc | ((try simp only [znz] at hc); first | exact znf | skip)) | refine Qo ?_ | refine Qj ?_ | simp (maxSteps := 1000000) only [go_sem, Nat.reduceAdd, Nat.reduceMul, Nat.reduceEqDiff, Nat.reduceLeDiff, Nat.reduceLT, Nat.reduceSub, Int.reduceEq, Int.reduceBEq, Int.reduceLT, Int.reduceLE, Int.reduceAdd, Int.reduceToNat, reduceIte, reduceCtorEq] | (refine hK _ ?_; clear hK; clear K') | refine And.intro ?_ ?_ | (apply QS; (focus first | exact EvC.b Ve)) | exact zlo | omega | exact zms)
  · refine QQ _ rfl ?_
    rw [Kg, if_neg (by omega)]
    simp only [go_sem, Nat.reduceEqDiff, Nat.reduceAdd, reduceIte, reduceCtorEq, wX.v, agh, List.map_nil, and_self]
    simp; omega
  · rw [abV]; omega
  · rw [adI a (by omega) (by omega)]; rfl
  · rw [adI a (by omega) (by omega)]
    refine QQ _ rfl ?_
    simp only [go_sem, Nat.reduceEqDiff, Nat.reduceAdd, reduceIte, reduceCtorEq, wX.v, List.length_cons, List.length_nil, go_sem, Nat.reduceAdd, Nat.reduceMul, Nat.reduceEqDiff, Nat.reduceLeDiff, Nat.reduceLT, Nat.reduceSub, Int.reduceEq, Int.reduceBEq, Int.reduceLT, Int.reduceLE, Int.reduceAdd, Int.reduceToNat, reduceIte, reduceCtorEq]
    simp; omega
  · refine QQ _ rfl ?_
    rw [Kg, if_neg (by omega)]
    simp only [go_sem, Nat.reduceEqDiff, Nat.reduceAdd, reduceIte, reduceCtorEq, wX.v, agh, List.map_nil, and_self]
    simp; omega
end Av
end
section
set_option linter.unusedSimpArgs false
set_option linter.unusedVariables false
set_option maxRecDepth 10000
namespace Av
open Go
attribute [local irreducible] AWp XV WG WJ awS awC VK awQ V4 Jq Xf VH awR Xk awB okR XT ris
def ajv (b : Int) : List (Int × Int) → Int
  | [] => 256
  | (x, y) :: r => if b < x then y else ajv b r
def ajE : List (Int × Int) := [(1024, 56), (2048, 80), (3072, 112), (7680, 128), (15360, 192)]
def qu (K8 : Nat) : AC := QR [0] (.reg [mc 2 (V.str [])]) (QR [3] (.reg [mv 6 0, cl 7 K8 [6], mv 5 7, ex 8 5 0, ex 9 5 1, xo 3 (.alloc [.val (.string ⟨#[]⟩), .val (.int .i64 0), .val (.int .i64 0), .nil 1, .nil 1]), xs 5 3 8, mv 4 9]) (QR [2] (.reg [fa 10 0 3, ld 11 1 10, mv 2 11]) (.ret))) def r_catalog_Name : List XY := [.tmp 2]
def KP (Γ : Env) (f : Nat) : Prop := ∀ (a : Int), EvN Γ f [V.int a] (V.str (Kg a).name)
theorem vJ {Γ : Env} {f K8 : Nat} (h : Has Γ.P f 12 (qu K8) r_catalog_Name) (aci : jJ Γ K8) : KP Γ f := by
  intro a
  refine JD h (by simp) (by simp only [V.closed, Qq, V.noSl, Yq, and_self, and_true, true_and]) (by simp only [V.closed, Qq, V.noSl, Yq, and_self, and_true, true_and]) fun C hC hm => ?_
  subst hC
  unfold qu
  repeat' (first | refine Qf fun K' hK => ?_ | refine Qi fun K' hK => ?_ | refine Qg ?_ | refine Qh ?_ | refine Qa ?_ | ((first | refine Qk ⟨_, rfl, fun hc => ?_, fun hc => ?_⟩ | refine QM (fun hc => ?_) (fun hc => ?_) | refine QN (fun hc => ?_) (fun hc => ?_)) <;> first | exact Bool.noConfusion hc | ((try simp only [znz] at hc); first | exact znf | skip)) | refine Qo ?_ | refine Qj ?_ | simp (maxSteps := 1000000) only [go_sem, Nat.reduceAdd, Nat.reduceMul, Nat.reduceEqDiff, Nat.reduceLeDiff, Nat.reduceLT, Nat.reduceSub, Int.reduceEq, Int.reduceBEq, Int.reduceLT, Int.reduceLE, Int.reduceAdd, Int.reduceToNat, reduceIte, reduceCtorEq, wX.v] | (refine hK _ ?_; clear hK; clear K') | refine And.intro ?_ ?_ | (apply QS; (focus first | exact (aci _).b)) | exact zlo | omega | exact zms)
  refine QQ _ rfl ?_; simp only [go_sem, Nat.reduceEqDiff, Nat.reduceAdd, reduceIte, reduceCtorEq]
def afc (R : wX) (ok : Bool) (b : Int) : Int :=
  if ok = false then 0
  else if R.way = 0 then (if b = 0 then R.strengths.headD 0 else 0)
  else if R.way = 1 then (if 512 ≤ b ∧ b ≤ 16384 then ajv b ajE else 0)
  else if R.way = 2 then (if agJ b 0 [160, 224, 256, 384, 521] ≥ 0 then IntKind.i64.wrap (b.tdiv 2) else 0)
  else if R.way = 3 then (if agJ b 0 R.sizes ≥ 0 then R.strengths.getD (agJ b 0 R.sizes).toNat 0 else 0)
  else 0
def afb (a b : Int) : Int := afc (Kg a) (decide (1 ≤ a ∧ a ≤ 22)) b
def wX.ok (r : wX) : Bool := (r.way != 0 || !r.strengths.isEmpty) && (r.way != 3 || r.sizes.length == r.strengths.length) && decide (r.sizes.length < 10)
end Av
end
section
set_option linter.unusedSimpArgs false
set_option linter.unusedVariables false
set_option maxRecDepth 10000
namespace Av
open Go
attribute [local irreducible] AWp XV WG WJ awS awC VK awQ V4 Jq Xf VH awR Xk awB okR XT ris
def acH (s : List UInt8) : Int := match Lib.atoiAll s with | .ok v => v | .range => Lib.atoiSat s | _ => 0
def ahl (s : List UInt8) : V := match Lib.atoiAll s with | .ok _ => .sc .nilIface | _ => .nn
def yl (Γ : Env) (f : Nat) : Prop := ∀ (s : List UInt8) (hs : s.length < 4294967281), EvN Γ f [V.str s] (.tup [V.int (acH s), ahl s])
def KJ (Γ : Env) (f : Nat) : Prop := ∀ (n : Int) (h0 : -9223372036854775808 ≤ n) (h1 : n ≤ 9223372036854775807), EvN Γ f [V.int n] (V.str (Lib.itoa n))
def xl (name : List UInt8) : Nat → List wX → Int
  | _, [] => 0
  | k, r :: rs => if 0 < k ∧ r.name = name then k else xl name (k + 1) rs
theorem afh (k : Nat) (h : k < 23) {r : wX} (hr : Vq[k]? = some r) : (aa4.drop (k * 5)).take 5 = r.v := by
  have hk : k < Vq.length := h
  rw [aa4, xW (f := wX.v) (n := 5) (fun _ => rfl) Vq k hk]
  rw [List.getElem?_eq_getElem hk] at hr
  cases hr; rfl
def qv (Xz : Nat) : AC := QR [0] (.reg [mc 2 (V.int 0)]) (QR [] (QR [0, 5, 6] (.reg [cl 5 Xz [], mc 6 (V.int 0)]) (.block 0 (Kv [0, 5, 6] (QR [0, 5, 6, 7] (.reg [bc 7 .lss 6 (V.int 23)]) (QR [0, 5, 6] (.cond (.t 7) (.skip) (.exit 0)) (QR [0, 5, 6] (.block 1 (QR [0, 3, 4, 5, 6] (.reg [mv 8 6, xo 9 (.idxA true 23 5 (.t 5) (.t 6)), xo 4 (.alloc [.val (.string ⟨#[]⟩), .val (.int .i64 0), .val (.int .i64 0), .nil 1, .nil 1]), mv 3 8, xs 5 4 9]) (QR [0, 3, 5, 6, 17] (.reg [mv 10 3, bc 11 .gtr 10 (V.int 0), mv 12 11, xg 13 (.faddr 0 (.t 4)) 12 true, xg 14 (.load false 1 (.t 13)) 12 true, mg 15 0 12 true, xg 16 (.bin .eql (.t 14) (.t 15)) 12 true, xo 17 (.pick (.t 12) (.t 16) (.c (V.bool false)))]) (.cond (.t 17) (QR [2] (.reg [mv 18 3, mv 2 18]) (.ret)) (.skip))))) (.reg [bc 19 .add 6 (V.int 1), mv 6 19]))))))) (QR [2] (.reg [mc 2 (V.int 0)]) (.ret))) def r_catalog_Find : List XY := [.tmp 2]
def KQ (Γ : Env) (f : Nat) : Prop := ∀ (s : List UInt8), EvN Γ f [V.str s] (V.int (xl s 0 Vq))
theorem vK {Γ : Env} {f Xz : Nat} (h : Has Γ.P f 20 (qv Xz) r_catalog_Find) (Ve : Ud Γ Xz) : KQ Γ f := by
  intro s
  refine JD h (by simp) (by simp only [V.closed, Qq, V.noSl, Yq, and_self, and_true, true_and]) (by simp only [V.closed, Qq, V.noSl, Yq, and_self, and_true, true_and]) fun C hC hm => ?_
  subst hC
  unfold qv
  repeat' (first | refine Qf fun K' hK => ?_ | refine Qi fun K' hK => ?_ | refine Qg ?_ | refine Qh ?_ | refine Qa ?_ | ((first | refine Qk ⟨_, rfl, fun hc => ?_, fun hc => ?_⟩ | refine QM (fun hc => ?_) (fun hc => ?_) | refine QN (fun hc => ?_) (fun hc => ?_)) <;> first | exact Bool.noConfusion hc | ((try simp only [znz] at hc); first | exact znf | skip)) | refine Qo ?_ | refine Qj ?_ | simp (maxSteps := 1000000) only [go_sem, Nat.reduceAdd, Nat.reduceMul, Nat.reduceEqDiff, Nat.reduceLeDiff, Nat.reduceLT, Nat.reduceSub, Int.reduceEq, Int.reduceBEq, Int.reduceLT, Int.reduceLE, Int.reduceAdd, Int.reduceToNat, reduceIte, reduceCtorEq] | (refine hK _ ?_; clear hK; clear K') | refine And.intro ?_ ?_ | (apply QS; (focus first | exact EvC.b Ve)) | exact zlo | omega | exact zms)
  refine Vk (ι := Nat) (fun k => k ≤ 23 ∧ xl s k (Vq.drop k) = xl s 0 Vq) (fun k => [(6, V.int k)]) (fun k => 23 - k) 0 (by omega) ⟨by simp, by simp⟩ (by repeat' first | exact Uu | refine qm (by omega) (by simp only [Ob.lt, ltL, V.lt, and_self, and_true]; try omega) ?_) (fun i hi => by simp only [ovT, XS, Nat.reduceEqDiff, reduceIte]; (repeat' first | exact ql | refine Ut ?_ ?_ | simp only [V.lt, ltL, and_self, and_true] | omega); exact qM _ _ vR) (by simp only [Nat.reduceAdd, ovT, XS, Nat.reduceEqDiff, reduceIte, YW, XB, xJ, u32, u33, u34, u35, u36, u37, u38, u39, and_self, and_true, true_and]; rfl) fun k hk K' hL => ?_
  obtain ⟨hk, hinv⟩ := hk
  simp only [ovT, XS, Nat.reduceEqDiff, reduceIte]
  rcases hd : Vq.drop k with _ | ⟨r, rs⟩
  · have hk' := XU hd
    have hl : Vq.length = 23 := rfl
    rw [hd] at hinv
    repeat' (first | refine Qf fun K' hK => ?_ | refine Qi fun K' hK => ?_ | refine Qg ?_ | refine Qh ?_ | refine Qa ?_ | ((first | refine Qk ⟨_, rfl, fun hc => ?_, fun hc => ?_⟩ | refine QM (fun hc => ?_) (fun hc => ?_) | refine QN (fun hc => ?_) (fun hc => ?_)) <;> first | exact Bool.noConfusion hc | ((try simp only [znz] at hc); first | exact znf | skip)) | refine Qo ?_ | refine Qj ?_ | simp (maxSteps := 1000000) only [go_sem, Nat.reduceAdd, Nat.reduceMul, Nat.reduceEqDiff, Nat.reduceLeDiff, Nat.reduceLT, Nat.reduceSub, Int.reduceEq, Int.reduceBEq, Int.reduceLT, Int.reduceLE, Int.reduceAdd, Int.reduceToNat, reduceIte, reduceCtorEq] | (refine hK _ ?_; clear hK; clear K') | refine And.intro ?_ ?_ | (apply QS; (focus first | exact EvC.b Ve)) | exact zlo | omega | exact zms)
    refine QQ _ rfl ?_; simp only [go_sem, Nat.reduceEqDiff, Nat.reduceAdd, reduceIte, reduceCtorEq]
    rw [← hinv]; rfl
  · obtain ⟨hk', hget, hr⟩ := Xq hd
    have hl : Vq.length = 23 := rfl
    rw [hd] at hinv
    have hw := Xh (k := k) (by omega)
    have hrow := afh k (by omega) hget
    repeat' (first | refine Qf fun K' hK => ?_ | refine Qi fun K' hK => ?_ | refine Qg ?_ | refine Qh ?_ | refine Qa ?_ | ((first | refine Qk ⟨_, rfl, fun hc => ?_, fun hc => ?_⟩ | refine QM (fun hc => ?_) (fun hc => ?_) | refine QN (fun hc => ?_) (fun hc => ?_)) <;> first | exact Bool.noConfusion hc | ((try simp only [znz] at hc); first | exact znf | skip)) | refine Qo ?_ | refine Qj ?_ | simp (maxSteps := 1000000) only [go_sem, Nat.reduceAdd, Nat.reduceMul, Nat.reduceEqDiff, Nat.reduceLeDiff, Nat.reduceLT, Nat.reduceSub, Int.reduceEq, Int.reduceBEq, Int.reduceLT, Int.reduceLE, Int.reduceAdd, Int.reduceToNat, reduceIte, reduceCtorEq, Int.toNat_natCast, hrow, abV, hw, wX.v] | (refine hK _ ?_; clear hK; clear K') | refine And.intro ?_ ?_ | (apply QS; (focus first | exact EvC.b Ve)) | exact zlo | omega | exact zms)
    all_goals first
      | (refine QQ _ rfl ?_; simp only [go_sem, Nat.reduceEqDiff, Nat.reduceAdd, reduceIte, reduceCtorEq]; rw [← hinv]; simp [xl, hc]; omega)
      | (refine hL _ (k + 1) (by simp only [Nat.reduceAdd, ovT, XS, Nat.reduceEqDiff, reduceIte, YW, XB, xJ, u32, u33, u34, u35, u36, u37, u38, u39, and_self, and_true, true_and]) ⟨by omega, ?_⟩ (by omega) (fun a ha => by simp only [u32, u33, u34, u35, u36, u37, u38, u39]; repeat rw [if_neg (by omega)]); rw [hr, ← hinv, xl, if_neg (by first | omega | simp [hc])])
      | trace_state
end Av
end
section
set_option linter.unusedSimpArgs false
set_option linter.unusedVariables false
set_option maxRecDepth 10000
namespace Av
open Go
attribute [local irreducible] AWp XV WG WJ awS awC VK awQ V4 Jq Xf VH awR Xk awB okR XT ris
structure KI where
  code : Int
  name : List UInt8
  kx1 : Int
  kx2 : Int
  sg1 : Int
  sg2 : Int
  ci1 : Int
  ci2 : Int
  mc1 : Int
  mc2 : Int
  lo : Int
  hi : Int
  deriving DecidableEq
def KI.cells (s : KI) : List V := [V.int s.code, V.str s.name, V.int s.kx1, V.int s.kx2, V.int s.sg1, V.int s.sg2, V.int s.ci1, V.int s.ci2, V.int s.mc1, V.int s.mc2, V.int s.lo, V.int s.hi]
def KI.v (s : KI) : V := .agg s.cells
def xz : List KI := [⟨1, [114, 115, 97, 45, 114, 99, 52, 45, 109, 100, 53], 10, 0, 5, 0, 14, 128, 19, 0, 1, 2⟩, ⟨2, [114, 115, 97, 45, 114, 99, 52, 45, 115, 104, 97], 10, 0, 5, 0, 14, 128, 20, 0, 1, 3⟩, ⟨3, [114, 115, 97, 45, 100, 101, 115, 51, 45, 115, 104, 97], 10, 0, 5, 0, 15, 168, 20, 0, 1, 3⟩, ⟨4, [100, 104, 101, 45, 100, 115, 97, 45, 100, 101, 115, 51, 45, 115, 104, 97], 11, 1024, 6, 0, 15, 168, 20, 0, 1, 3⟩, ⟨5, [100, 104, 101, 45, 114, 115, 97, 45, 100, 101, 115, 51, 45, 115, 104, 97], 11, 1024, 5, 0, 15, 168, 20, 0, 1, 3⟩, ⟨6, [114, 115, 97, 45, 97, 101, 115, 49, 50, 56, 45, 115, 104, 97], 10, 0, 5, 0, 16, 128, 20, 0, 1, 3⟩, ⟨7, [100, 104, 101, 45, 114, 115, 97, 45, 97, 101, 115, 49, 50, 56, 45, 115, 104, 97], 11, 2048, 5, 0, 16, 128, 20, 0, 1, 3⟩, ⟨8, [101, 99, 100, 104, 101, 45, 114, 115, 97, 45, 97, 101, 115, 49, 50, 56, 45, 115, 104, 97], 12, 256, 5, 0, 16, 128, 20, 0, 1, 3⟩, ⟨9, [101, 99, 100, 104, 101, 45, 101, 99, 100, 115, 97, 45, 97, 101, 115, 50, 53, 54, 45, 115, 104, 97, 50, 53, 54], 12, 256, 7, 0, 16, 256, 21, 0, 3, 3⟩, ⟨10, [101, 99, 100, 104, 101, 45, 114, 115, 97, 45, 97, 101, 115, 49, 50, 56, 45, 103, 99, 109], 12, 256, 5, 0, 17, 128, 22, 0, 3, 3⟩, ⟨11, [101, 99, 100, 104, 101, 45, 101, 99, 100, 115, 97, 45, 97, 101, 115, 50, 53, 54, 45, 103, 99, 109], 12, 384, 7, 0, 17, 256, 22, 0, 3, 3⟩, ⟨12, [101, 99, 100, 104, 101, 45, 114, 115, 97, 45, 99, 104, 97, 99, 104, 97], 12, 256, 5, 0, 18, 0, 22, 0, 3, 3⟩, ⟨13, [114, 115, 97, 45, 97, 101, 115, 50, 53, 54, 45, 103, 99, 109], 10, 0, 5, 0, 17, 256, 22, 0, 3, 3⟩, ⟨14, [97, 101, 115, 49, 50, 56, 45, 103, 99, 109], 12, 256, 0, 0, 17, 128, 22, 0, 4, 4⟩, ⟨15, [99, 104, 97, 99, 104, 97], 12, 256, 0, 0, 18, 0, 22, 0, 4, 4⟩, ⟨16, [109, 108, 107, 101, 109, 45, 97, 101, 115, 50, 53, 54, 45, 103, 99, 109], 13, 768, 0, 0, 17, 256, 22, 0, 4, 4⟩]
end Av
end
section
set_option linter.unusedSimpArgs false
set_option linter.unusedVariables false
set_option maxRecDepth 10000
namespace Av
open Go
attribute [local irreducible] AWp XV WG WJ awS awC VK awQ V4 Jq Xf VH awR Xk awB okR XT ris
end Av
end
section
set_option linter.unusedSimpArgs false
set_option linter.unusedVariables false
set_option maxRecDepth 10000
set_option maxHeartbeats 4000000
namespace Av
open Go
attribute [local irreducible] AWp XV WG WJ awS awC VK awQ V4 Jq Xf VH awR Xk awB okR XT ris
end Av
end

/- Ref -/
import Derived.Test.YtmclfdgmbfdacaaGreatDoorCat
set_option linter.unusedVariables false
set_option linter.unusedSimpArgs false
section
set_option linter.unusedSimpArgs false
set_option linter.unusedVariables false
set_option maxHeartbeats 4000000
set_option maxRecDepth 10000
namespace Av
open Go
attribute [local irreducible] AWp XV WG WJ awS awC VK awQ V4 Jq Xf VH awR Xk awB okR XT ris
def afk (r : wX) : V := .agg [V.str r.name, V.int r.kind]
def ac0 : List V := Vq.map afk
theorem acZ {k : Nat} {r : wX} (h : Vq[k]? = some r) : ac0[k]? = some (afk r) := by
  rw [ac0, List.getElem?_map, h]; rfl
theorem aeG {a : Int} (ha : 1 ≤ a ∧ a ≤ 22) : Vq[a.toNat]? = some (Kg a) := by
  have hl : Vq.length = 23 := rfl
  have hk : a.toNat < Vq.length := by omega
  rw [Kg, if_pos ha, List.getD_eq_getElem?_getD, List.getElem?_eq_getElem hk, Option.getD_some]
def yc : AC := QR [] (.reg [xo 0 (.mknil 2)]) (QR [0] (.reg [xo 1 (.build [(.string ⟨#[]⟩), (.int .i64 0)] []), xo 2 (.build [(.string ⟨#[]⟩), (.int .i64 0)] [(0, 1, (.c (V.str [109, 100, 53]))), (1, 1, (.c (V.int 1)))]), xo 3 (.build [(.string ⟨#[]⟩), (.int .i64 0)] [(0, 1, (.c (V.str [115, 104, 97, 49]))), (1, 1, (.c (V.int 1)))]), xo 4 (.build [(.string ⟨#[]⟩), (.int .i64 0)] [(0, 1, (.c (V.str [115, 104, 97, 50, 53, 54]))), (1, 1, (.c (V.int 1)))]), xo 5 (.build [(.string ⟨#[]⟩), (.int .i64 0)] [(0, 1, (.c (V.str [115, 104, 97, 51, 56, 52]))), (1, 1, (.c (V.int 1)))]), xo 6 (.build [(.string ⟨#[]⟩), (.int .i64 0)] [(0, 1, (.c (V.str [114, 115, 97]))), (1, 1, (.c (V.int 2)))]), xo 7 (.build [(.string ⟨#[]⟩), (.int .i64 0)] [(0, 1, (.c (V.str [100, 115, 97]))), (1, 1, (.c (V.int 2)))]), xo 8 (.build [(.string ⟨#[]⟩), (.int .i64 0)] [(0, 1, (.c (V.str [101, 99, 100, 115, 97]))), (1, 1, (.c (V.int 2)))]), xo 9 (.build [(.string ⟨#[]⟩), (.int .i64 0)] [(0, 1, (.c (V.str [101, 100, 50, 53, 53, 49, 57]))), (1, 1, (.c (V.int 2)))]), xo 10 (.build [(.string ⟨#[]⟩), (.int .i64 0)] [(0, 1, (.c (V.str [109, 108, 100, 115, 97]))), (1, 1, (.c (V.int 2)))]), xo 11 (.build [(.string ⟨#[]⟩), (.int .i64 0)] [(0, 1, (.c (V.str [114, 115, 97, 107, 120]))), (1, 1, (.c (V.int 3)))]), xo 12 (.build [(.string ⟨#[]⟩), (.int .i64 0)] [(0, 1, (.c (V.str [100, 104, 101]))), (1, 1, (.c (V.int 3)))]), xo 13 (.build [(.string ⟨#[]⟩), (.int .i64 0)] [(0, 1, (.c (V.str [101, 99, 100, 104, 101]))), (1, 1, (.c (V.int 3)))]), xo 14 (.build [(.string ⟨#[]⟩), (.int .i64 0)] [(0, 1, (.c (V.str [109, 108, 107, 101, 109]))), (1, 1, (.c (V.int 3)))]), xo 15 (.build [(.string ⟨#[]⟩), (.int .i64 0)] [(0, 1, (.c (V.str [114, 99, 52]))), (1, 1, (.c (V.int 4)))]), xo 16 (.build [(.string ⟨#[]⟩), (.int .i64 0)] [(0, 1, (.c (V.str [100, 101, 115, 51]))), (1, 1, (.c (V.int 4)))]), xo 17 (.build [(.string ⟨#[]⟩), (.int .i64 0)] [(0, 1, (.c (V.str [97, 101, 115, 99, 98, 99]))), (1, 1, (.c (V.int 4)))]), xo 18 (.build [(.string ⟨#[]⟩), (.int .i64 0)] [(0, 1, (.c (V.str [97, 101, 115, 103, 99, 109]))), (1, 1, (.c (V.int 4)))]), xo 19 (.build [(.string ⟨#[]⟩), (.int .i64 0)] [(0, 1, (.c (V.str [99, 104, 97, 99, 104, 97]))), (1, 1, (.c (V.int 4)))]), xo 20 (.build [(.string ⟨#[]⟩), (.int .i64 0)] [(0, 1, (.c (V.str [104, 109, 97, 99, 109, 100, 53]))), (1, 1, (.c (V.int 5)))]), xo 21 (.build [(.string ⟨#[]⟩), (.int .i64 0)] [(0, 1, (.c (V.str [104, 109, 97, 99, 115, 104, 97, 49]))), (1, 1, (.c (V.int 5)))]), xo 22 (.build [(.string ⟨#[]⟩), (.int .i64 0)] [(0, 1, (.c (V.str [104, 109, 97, 99, 115, 104, 97, 50, 53, 54]))), (1, 1, (.c (V.int 5)))]), xo 23 (.build [(.string ⟨#[]⟩), (.int .i64 0)] [(0, 1, (.c (V.str [97, 101, 97, 100]))), (1, 1, (.c (V.int 5)))]), xo 24 (.bslice 23 2 true [(.string ⟨#[]⟩), (.int .i64 0)] [(0, (.t 1)), (1, (.t 2)), (2, (.t 3)), (3, (.t 4)), (4, (.t 5)), (5, (.t 6)), (6, (.t 7)), (7, (.t 8)), (8, (.t 9)), (9, (.t 10)), (10, (.t 11)), (11, (.t 12)), (12, (.t 13)), (13, (.t 14)), (14, (.t 15)), (15, (.t 16)), (16, (.t 17)), (17, (.t 18)), (18, (.t 19)), (19, (.t 20)), (20, (.t 21)), (21, (.t 22)), (22, (.t 23))]), mv 0 24]) (.ret)) def r_ref02_rows : List XY := [.tmp 0]
def jG (Γ : Env) (f : Nat) : Prop := EvC Γ f [] (.sl 2 ac0)
theorem abw {Γ : Env} {f : Nat} (h : Has Γ.P f 25 yc r_ref02_rows)  : jG Γ f := by
  refine jo h (by simp) (by simp only [V.closed]) fun C hC hm => ?_
  subst hC
  unfold yc
  repeat' (first | refine Qf fun K' hK => ?_ | refine Qi fun K' hK => ?_ | refine Qg ?_ | refine Qh ?_ | refine Qa ?_ | ((first | refine Qk ⟨_, rfl, fun hc => ?_, fun hc => ?_⟩ | refine QM (fun hc => ?_) (fun hc => ?_) | refine QN (fun hc => ?_) (fun hc => ?_)) <;> first | exact Bool.noConfusion hc | ((try simp only [znz] at hc); first | exact znf | skip)) | refine Qo ?_ | refine Qj ?_ | simp (maxSteps := 1000000) only [go_sem, Nat.reduceAdd, Nat.reduceMul, Nat.reduceEqDiff, Nat.reduceLeDiff, Nat.reduceLT, Nat.reduceSub, Int.reduceEq, Int.reduceBEq, Int.reduceLT, Int.reduceLE, Int.reduceAdd, Int.reduceToNat, reduceIte, reduceCtorEq] | (refine hK _ ?_; clear hK; clear K') | refine And.intro ?_ ?_ | exact zlo | omega | exact zms)
  refine QQ _ rfl ?_; simp only [go_sem, Nat.reduceEqDiff, Nat.reduceAdd, reduceIte, reduceCtorEq]
  rfl
def ye (K5 : Nat) : AC := QR [0] (.reg [mc 2 (V.str [])]) (QR [0] (QR [0, 8] (.reg [mv 3 0, bc 4 .lss 3 (V.int 1), mv 5 4, mg 6 0 5 false, xg 7 (.bin .gtr (.t 6) (.c (V.int 22))) 5 false, xo 8 (.pick (.t 5) (.c (V.bool true)) (.t 7))]) (.cond (.t 8) (QR [2] (.reg [mc 2 (V.str [])]) (.ret)) (.skip))) (QR [2] (.reg [cl 9 K5 [], mv 10 0, ia 11 2 9 10, fa 12 0 11, ld 13 1 12, mv 2 13]) (.ret))) def r_ref02_Name : List XY := [.tmp 2]
def jH (Γ : Env) (f : Nat) : Prop := ∀ (a : Int), EvN Γ f [V.int a] (V.str (Kg a).name)
theorem abx {Γ : Env} {f K5 : Nat} (h : Has Γ.P f 14 (ye K5) r_ref02_Name) (wj : jG Γ K5) : jH Γ f := by
  intro a
  refine JD h (by simp) (by simp only [V.closed, Qq, V.noSl, Yq, and_self, and_true, true_and]) (by simp only [V.closed, Qq, V.noSl, Yq, and_self, and_true, true_and]) fun C hC hm => ?_
  subst hC
  unfold ye
  by_cases ha : 1 ≤ a ∧ a ≤ 22
  · have hg := acZ (aeG ha)
    repeat' (first | refine Qf fun K' hK => ?_ | refine Qi fun K' hK => ?_ | refine Qg ?_ | refine Qh ?_ | refine Qa ?_ | ((first | refine Qk ⟨_, rfl, fun hc => ?_, fun hc => ?_⟩ | refine QM (fun hc => ?_) (fun hc => ?_) | refine QN (fun hc => ?_) (fun hc => ?_)) <;> first | exact Bool.noConfusion hc | ((try simp only [znz] at hc); first | exact znf | skip)) | refine Qo ?_ | refine Qj ?_ | simp (maxSteps := 1000000) only [go_sem, Nat.reduceAdd, Nat.reduceMul, Nat.reduceEqDiff, Nat.reduceLeDiff, Nat.reduceLT, Nat.reduceSub, Int.reduceEq, Int.reduceBEq, Int.reduceLT, Int.reduceLE, Int.reduceAdd, Int.reduceToNat, reduceIte, reduceCtorEq, hg, afk] | (refine hK _ ?_; clear hK; clear K') | refine And.intro ?_ ?_ | (apply QS; (focus first | exact EvC.b wj)) | exact zlo | omega | exact zms)
    all_goals first | (refine QQ _ rfl ?_; simp only [go_sem, Nat.reduceEqDiff, Nat.reduceAdd, reduceIte, reduceCtorEq]; done) | (refine QQ _ rfl ?_; simp only [go_sem, Nat.reduceEqDiff, Nat.reduceAdd, reduceIte, reduceCtorEq]; simp [*]; done) | (subst hc; refine QQ _ rfl ?_; simp only [go_sem, Nat.reduceEqDiff, Nat.reduceAdd, reduceIte, reduceCtorEq]; simp [*]; done) | trace_state
  · have hc0 : Kg a = agh := by rw [Kg, if_neg ha]
    repeat' (first | refine Qf fun K' hK => ?_ | refine Qi fun K' hK => ?_ | refine Qg ?_ | refine Qh ?_ | refine Qa ?_ | ((first | refine Qk ⟨_, rfl, fun hc => ?_, fun hc => ?_⟩ | refine QM (fun hc => ?_) (fun hc => ?_) | refine QN (fun hc => ?_) (fun hc => ?_)) <;> first | exact Bool.noConfusion hc | ((try simp only [znz] at hc); first | exact znf | skip)) | refine Qo ?_ | refine Qj ?_ | simp (maxSteps := 1000000) only [go_sem, Nat.reduceAdd, Nat.reduceMul, Nat.reduceEqDiff, Nat.reduceLeDiff, Nat.reduceLT, Nat.reduceSub, Int.reduceEq, Int.reduceBEq, Int.reduceLT, Int.reduceLE, Int.reduceAdd, Int.reduceToNat, reduceIte, reduceCtorEq] | (refine hK _ ?_; clear hK; clear K') | refine And.intro ?_ ?_ | (apply QS; (focus first | exact EvC.b wj)) | exact zlo | omega | exact zms)
    all_goals first | (refine QQ _ rfl ?_; simp only [go_sem, Nat.reduceEqDiff, Nat.reduceAdd, reduceIte, reduceCtorEq]; done) | (refine QQ _ rfl ?_; simp only [go_sem, Nat.reduceEqDiff, Nat.reduceAdd, reduceIte, reduceCtorEq]; simp [hc0, agh, *]; done) | (subst hc; refine QQ _ rfl ?_; simp only [go_sem, Nat.reduceEqDiff, Nat.reduceAdd, reduceIte, reduceCtorEq]; simp [hc0, agh, *]; done) | trace_state
end Av
end
section
set_option linter.unusedSimpArgs false
set_option linter.unusedVariables false
set_option maxRecDepth 10000
set_option maxHeartbeats 4000000
namespace Av
open Go
attribute [local irreducible] AWp XV WG WJ awS awC VK awQ V4 Jq Xf VH awR Xk awB okR XT ris
theorem aeA {n : Int} (h0 : 0 ≤ n) (h1 : n < 10) : Lib.itoa n = [UInt8.ofNat (48 + n.toNat)] := by
  rw [Lib.itoa, if_neg (by omega), Lib.decDigits_one (by omega)]
theorem agG {n : Int} (h1 : 10 ≤ n) : Lib.itoa n = Lib.itoa (n / 10) ++ [UInt8.ofNat (48 + (n % 10).toNat)] := by
  have e : (n / 10).toNat = n.toNat / 10 := by omega
  have e2 : (n % 10).toNat = n.toNat % 10 := by omega
  rw [Lib.itoa, if_neg (by omega), Lib.itoa, if_neg (by omega), Lib.decDigits, dif_neg (by omega), e, e2]
theorem ad2 {d : Int} (h0 : 0 ≤ d) (h1 : d < 10) : IntKind.u8.wrap (IntKind.i64.wrap (48 + d)) = 48 + d := by
  rcases (by omega : d = 0 ∨ d = 1 ∨ d = 2 ∨ d = 3 ∨ d = 4 ∨ d = 5 ∨ d = 6 ∨ d = 7 ∨ d = 8 ∨ d = 9) with rfl | rfl | rfl | rfl | rfl | rfl | rfl | rfl | rfl | rfl <;> rfl
theorem afS {d : Int} (h0 : 0 ≤ d) (h1 : d < 10) : V.sc (.int .u8 (48 + d)) = V.sc (.int .u8 ((UInt8.ofNat (48 + d.toNat)).toNat)) := by
  rcases (by omega : d = 0 ∨ d = 1 ∨ d = 2 ∨ d = 3 ∨ d = 4 ∨ d = 5 ∨ d = 6 ∨ d = 7 ∨ d = 8 ∨ d = 9) with rfl | rfl | rfl | rfl | rfl | rfl | rfl | rfl | rfl | rfl <;> rfl
theorem ab4 (c : UInt8) : (∃ l : List UInt8, [V.sc (.int .u8 c.toNat)] = l.map fun c => .sc (.int .u8 c.toNat)) = True := by
  simp only [eq_iff_iff, iff_true]; exact ⟨[c], rfl⟩
theorem aa0 (c : UInt8) : ad6 (.sc (.int .u8 c.toNat)) = c := by simp [ad6]
def Ui (Jb : Nat) : List AO := [mv 10 0, bc 11 .quo 10 (V.int 10), cl 12 Jb [11], mv 13 0, bc 14 .rem 13 (V.int 10), xo 15 (.bin .add (.c (V.int 48)) (.t 14)), xo 16 (.convI .u8 (.t 15)), xo 17 (.bslice 1 1 false [(.int .u8 0)] [(0, (.t 16))]), xo 18 (.convBS (.t 17)), bn 19 .add 12 18, mv 2 19]
def Up : List (List Nat) := [[], [0], [1], [], [3], [4], [5], [6], [7], [2, 8], [9, 2, 0, 1, 2, 3, 4, 5, 6, 7, 8, 9]]
def Ug : OT := .one 0 (.one 1 (.one 2 (.one 3 (.one 4 (.one 5 (.one 6 (.or 7 (.one 8 (.one 9 (.one 10 (.done)))) (.done))))))))
def WW (Jb : Nat) : OP := .one 0 false [] (mv 10 0) (.one 1 false [] (bc 11 .quo 10 (V.int 10)) (.one 2 false [] (cl 12 Jb [11]) (.one 3 false [] (mv 13 0) (.one 4 false [] (bc 14 .rem 13 (V.int 10)) (.one 5 false [] (xo 15 (.bin .add (.c (V.int 48)) (.t 14))) (.one 6 false [] (xo 16 (.convI .u8 (.t 15))) (.or 7 false [] (xo 17 (.bslice 1 1 false [(.int .u8 0)] [(0, (.t 16))])) (.one 8 false [7] (xo 18 (.convBS (.t 17))) (.one 9 false [7, 2] (bn 19 .add 12 18) (.one 10 false [7, 2] (mv 2 19) (.done)))) (.done))))))))
theorem WZ (Jb : Nat) : okR (Ui Jb) Up [] Ug = true := by kernel_rfl
theorem WU (Jb : Nat) : XT (ris (Ui Jb) Up []) Ug = WW Jb := by kernel_rfl def c_ref02_Decimal (Jb : Nat) : AC := QR [0] (.reg [mc 2 (V.str [])]) (QR [0] (QR [0, 4] (.reg [mv 3 0, bc 4 .lss 3 (V.int 10)]) (.cond (.t 4) (QR [2] (.reg [mv 5 0, xo 6 (.bin .add (.c (V.int 48)) (.t 5)), xo 7 (.convI .u8 (.t 6)), xo 8 (.bslice 1 1 false [(.int .u8 0)] [(0, (.t 7))]), xo 9 (.convBS (.t 8)), mv 2 9]) (.ret)) (.skip))) (QR [2] (yO [] Ug (WW Jb) (Ui Jb) Up) (.ret))) def r_ref02_Decimal : List XY := [.tmp 2]
def Ke (Γ : Env) (f : Nat) : Prop := ∀ (n : Int) (h0 : 0 ≤ n) (h1 : n ≤ 9223372036854775807), EvN Γ f [V.int n] (V.str (Lib.itoa n))
theorem wM {Γ : Env} {f : Nat} (h : Has Γ.P f 20 (c_ref02_Decimal f) r_ref02_Decimal)  : Ke Γ f := by
  suffices H : ∀ (kk : Nat), ∀ (n : Int) (h0 : 0 ≤ n) (h1 : n ≤ 9223372036854775807), n.toNat < kk → EvN Γ f [V.int n] (V.str (Lib.itoa n)) from fun n h0 h1 => H _ n h0 h1 (Nat.lt_succ_self _)
  intro kk; induction kk with
  | zero => intros; rename_i hk; exact absurd hk (Nat.not_lt_zero _)
  | succ kk ih =>
  intro n h0 h1 hk
  refine JD h (by simp) (by simp only [V.closed, Qq, V.noSl, Yq, and_self, and_true, true_and]) (by simp only [V.closed, Qq, V.noSl, Yq, and_self, and_true, true_and]) fun C hC hm => ?_
  subst hC
  unfold c_ref02_Decimal
  by_cases hn : n < 10
  · have e1 := ad2 h0 hn
    have e2 := afS h0 hn
    have e3 := aeA h0 hn
    have e4 : decide (n < 10) = true := by simp [hn]
    repeat' (first | refine Qf fun K' hK => ?_ | refine Qi fun K' hK => ?_ | refine Qb 11 (fun _ => true) rfl (WZ _) (WU _) fun K' hK => ?_ | refine Qc 11 (fun _ => true) rfl (WZ _) (WU _) fun K' hK => ?_ | refine Qg ?_ | refine Qh ?_ | refine Qa ?_ | ((first | refine Qk ⟨_, rfl, fun hc => ?_, fun hc => ?_⟩ | refine QM (fun hc => ?_) (fun hc => ?_) | refine QN (fun hc => ?_) (fun hc => ?_)) <;> first | exact Bool.noConfusion hc | ((try simp only [znz] at hc); first | exact znf | skip)) | refine Qo ?_ | refine Qj ?_ | simp (maxSteps := 1000000) only [go_sem, Nat.reduceAdd, Nat.reduceMul, Nat.reduceEqDiff, Nat.reduceLeDiff, Nat.reduceLT, Nat.reduceSub, Int.reduceEq, Int.reduceBEq, Int.reduceLT, Int.reduceLE, Int.reduceAdd, Int.reduceToNat, reduceIte, reduceCtorEq, e1, e2, e4, ab4, aa0, WW] | (refine hK _ ?_; clear hK; clear K') | refine And.intro ?_ ?_ | ((first | apply QS | apply QT); (focus first | exact (ih _ zsd zsd zsd).b)) | exact zlo | omega | exact zms)
    all_goals first | (refine QQ _ rfl ?_; simp only [go_sem, Nat.reduceEqDiff, Nat.reduceAdd, reduceIte, reduceCtorEq]; done) | (refine QQ _ rfl ?_; simp only [go_sem, Nat.reduceEqDiff, Nat.reduceAdd, reduceIte, reduceCtorEq]; simp [e3, *]; done) | (subst hc; refine QQ _ rfl ?_; simp only [go_sem, Nat.reduceEqDiff, Nat.reduceAdd, reduceIte, reduceCtorEq]; simp [e3, *]; done) | trace_state
  · have e0 : n.tdiv 10 = n / 10 := by rw [Int.tdiv_eq_ediv_of_nonneg h0]
    have e00 : n.tmod 10 = n % 10 := by rw [Int.tmod_eq_emod_of_nonneg h0]
    have e1 := ad2 (d := n % 10) (by omega) (by omega)
    have e2 := afS (d := n % 10) (by omega) (by omega)
    have e3 := agG (n := n) (by omega)
    have e4 : decide (n < 10) = false := by simp [hn]
    have e5 : IntKind.i64.wrap (n / 10) = n / 10 := VL (by omega) (by omega)
    have hl := Lib.itoa_length_le (n / 10) (by omega) (by omega)
    repeat' (first | refine Qf fun K' hK => ?_ | refine Qi fun K' hK => ?_ | refine Qb 11 (fun _ => true) rfl (WZ _) (WU _) fun K' hK => ?_ | refine Qc 11 (fun _ => true) rfl (WZ _) (WU _) fun K' hK => ?_ | refine Qg ?_ | refine Qh ?_ | refine Qa ?_ | ((first | refine Qk ⟨_, rfl, fun hc => ?_, fun hc => ?_⟩ | refine QM (fun hc => ?_) (fun hc => ?_) | refine QN (fun hc => ?_) (fun hc => ?_)) <;> first | exact Bool.noConfusion hc | ((try simp only [znz] at hc); first | exact znf | skip)) | refine Qo ?_ | refine Qj ?_ | simp (maxSteps := 1000000) only [go_sem, Nat.reduceAdd, Nat.reduceMul, Nat.reduceEqDiff, Nat.reduceLeDiff, Nat.reduceLT, Nat.reduceSub, Int.reduceEq, Int.reduceBEq, Int.reduceLT, Int.reduceLE, Int.reduceAdd, Int.reduceToNat, reduceIte, reduceCtorEq, e0, e00, e1, e2, e4, e5, ab4, aa0, WW] | (refine hK _ ?_; clear hK; clear K') | refine And.intro ?_ ?_ | ((first | apply QS | apply QT); (focus first | exact (ih _ zsd zsd zsd).b)) | exact zlo | omega | exact zms)
    all_goals first | (refine QQ _ rfl ?_; simp only [go_sem, Nat.reduceEqDiff, Nat.reduceAdd, reduceIte, reduceCtorEq]; done) | (refine QQ _ rfl ?_; simp only [go_sem, Nat.reduceEqDiff, Nat.reduceAdd, reduceIte, reduceCtorEq]; simp [e3, *]; done) | (subst hc; refine QQ _ rfl ?_; simp only [go_sem, Nat.reduceEqDiff, Nat.reduceAdd, reduceIte, reduceCtorEq]; simp [e3, *]; done) | trace_state
def aac (acc : Int) : List UInt8 → Option Int
  | [] => some acc
  | c :: r => if c.toNat < 48 ∨ 57 < c.toNat then none else aac (acc * 10 + ((c.toNat : Int) - 48)) r
def jV (s : List UInt8) : Int × Bool :=
  if s = [] ∨ 15 < s.length ∨ (1 < s.length ∧ s[0]? = some 48) then (0, false)
  else match aac 0 s with | none => (0, false) | some n => (n, true)
def acS (p : Int × Bool) : V := .tup [V.int p.1, V.bool p.2]
theorem ail {k : Nat} (h : k ≤ 15) : (10 : Nat) ^ k ≤ 1000000000000000 := Nat.le_trans (Nat.pow_le_pow_right (by omega) h) (by omega)
end Av
end

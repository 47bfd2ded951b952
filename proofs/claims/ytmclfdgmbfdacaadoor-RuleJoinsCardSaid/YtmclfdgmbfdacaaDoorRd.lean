/- Rd -/
import Derived.Test.YtmclfdgmbfdacaaDoorRc
import Derived.KernelRfl
import Derived.Test.YtmclfdgmbfdacaaDoorDice
set_option linter.unusedVariables false
set_option linter.unusedSimpArgs false
section
-- ALL all2.txt
set_option linter.unusedSimpArgs false
set_option linter.unusedVariables false
set_option maxRecDepth 10000
set_option maxHeartbeats 4000000
namespace Av
open Go
attribute [local irreducible] AWp runO runP runG awS awC awCv awQ awRd awCallR awCvR awQR awR awRdR awB okR plan ris
def eqR (a b : PRule) : Bool := (a.allow == b.allow) && ((a.alg == b.alg) && ((a.below == b.below) && ((a.purp == b.purp) && ((a.frm == b.frm) && (a.til == b.til)))))
def eqK (a b : PKeep) : Bool := (a.purp == b.purp) && (a.days == b.days)
def sameL {α : Type} (eq : α → α → Bool) : List α → List α → Bool
  | [], [] => true
  | x :: xs, y :: ys => eq x y && sameL eq xs ys
  | _, _ => false
theorem sameL_len {α : Type} {eq : α → α → Bool} : ∀ {xs ys : List α}, xs.length ≠ ys.length → sameL eq xs ys = false
  | [], [], h => absurd rfl h
  | [], _ :: _, _ => rfl
  | _ :: _, [], _ => rfl
  | x :: xs, y :: ys, h => by rw [sameL, sameL_len (fun e => h (by simp [e]))]; simp
theorem sameL_refl {α : Type} {eq : α → α → Bool} (h : ∀ x, eq x x = true) : ∀ xs : List α, sameL eq xs xs = true
  | [] => rfl
  | x :: xs => by rw [sameL, h, sameL_refl h xs]; rfl
theorem eqR_refl (r : PRule) : eqR r r = true := by simp [eqR]
theorem eqK_refl (r : PKeep) : eqK r r = true := by simp [eqK]
def samePol (rs : List PRule) (ks : List PKeep) (rs2 : List PRule) (ks2 : List PKeep) : Bool := sameL eqR rs rs2 && sameL eqK ks ks2
theorem samePol_refl (rs : List PRule) (ks : List PKeep) : samePol rs ks rs ks = true := by rw [samePol, sameL_refl eqR_refl, sameL_refl eqK_refl]; rfl

-- REGION ref17_Same 0: 11 operations, 1 orders, L [], X false, ok true
theorem aw17 : parseP [102, 111, 114, 98, 105, 100, 32, 114, 115, 97, 32, 98, 101, 108, 111, 119, 32, 50, 48, 52, 56, 32, 102, 111, 114, 32, 115, 105, 103, 110, 32, 102, 114, 111, 109, 32, 49, 48, 48, 10, 107, 101, 101, 112, 32, 98, 97, 99, 107, 117, 112, 32, 51, 48, 10] = ([⟨false, 5, 2048, 2, 100, 40001⟩], [⟨3, 30⟩], 0, 0) := by kernel_rfl
def c_law17_awake (f_rule_Parse : Nat) : AC := seqK [] (.reg [mc 0 (V.bool false)]) (seqK [1, 2, 3] (.reg [xo 5 (.call f_rule_Parse [(.c (V.str [102, 111, 114, 98, 105, 100, 32, 114, 115, 97, 32, 98, 101, 108, 111, 119, 32, 50, 48, 52, 56, 32, 102, 111, 114, 32, 115, 105, 103, 110, 32, 102, 114, 111, 109, 32, 49, 48, 48, 10, 107, 101, 101, 112, 32, 98, 97, 99, 107, 117, 112, 32, 51, 48, 10]))]), mv 4 5, ex 6 4 0, ex 7 4 1, ex 8 4 2, xo 1 (.alloc [.nil 6, .nil 2]), xs 2 1 6, mv 2 7, mv 3 8]) (seqK [0] (.reg [mv 9 3, bc 10 .eql 9 (V.int 0), mv 11 10, mg 12 2 11 true, xg 13 (.bin .eql (.t 12) (.c (V.int 0))) 11 true, xo 14 (.pick (.t 11) (.t 13) (.c (V.bool false))), mv 15 14, xg 16 (.faddr 0 (.t 1)) 15 true, xg 17 (.load false 1 (.t 16)) 15 true, xg 18 (.lenL (.t 17)) 15 true, xg 19 (.bin .eql (.t 18) (.c (V.int 1))) 15 true, xo 20 (.pick (.t 15) (.t 19) (.c (V.bool false))), mv 21 20, xg 22 (.faddr 0 (.t 1)) 21 true, xg 23 (.load false 1 (.t 22)) 21 true, xg 24 (.iaddr 6 (.t 23) (.c (V.int 0))) 21 true, xg 25 (.load true 6 (.t 24)) 21 true, xg 26 (.build [(.bool false), (.int .i64 0), (.int .i64 0), (.int .i64 0), (.int .i64 0), (.int .i64 0)] [(1, 1, (.c (V.int 5))), (2, 1, (.c (V.int 2048))), (3, 1, (.c (V.int 2))), (4, 1, (.c (V.int 100))), (5, 1, (.c (V.int 40001)))]) 21 true, xg 27 (.eqagg false [2, 0, 0, 0, 0, 0] (.t 25) (.t 26)) 21 true, xo 28 (.pick (.t 21) (.t 27) (.c (V.bool false))), mv 29 28, xg 30 (.faddr 1 (.t 1)) 29 true, xg 31 (.load false 1 (.t 30)) 29 true, xg 32 (.lenL (.t 31)) 29 true, xg 33 (.bin .eql (.t 32) (.c (V.int 1))) 29 true, xo 34 (.pick (.t 29) (.t 33) (.c (V.bool false))), mv 0 34]) (.ret))) def r_law17_awake : List ARes := [.tmp 0]
def CE_law17_awake (Γ : Env) (f : Nat) : Prop := EvN Γ f [] (V.bool true)
theorem ev_law17_awake {Γ : Env} {f f_rule_Parse : Nat} (h : Has Γ.P f 35 (c_law17_awake f_rule_Parse) r_law17_awake) (h_rule_Parse : CE_rule_Parse Γ f_rule_Parse) : CE_law17_awake Γ f := by
  refine evN_of_body h (by simp) (by simp only [V.closed, closedL, V.noSl, noSlL, and_self, and_true, true_and]) (by simp only [V.closed, closedL, V.noSl, noSlL, and_self, and_true, true_and]) fun C hC hm => ?_
  subst hC
  unfold c_law17_awake
  have n1 := (h_rule_Parse [102, 111, 114, 98, 105, 100, 32, 114, 115, 97, 32, 98, 101, 108, 111, 119, 32, 50, 48, 52, 56, 32, 102, 111, 114, 32, 115, 105, 103, 110, 32, 102, 114, 111, 109, 32, 49, 48, 48, 10, 107, 101, 101, 112, 32, 98, 97, 99, 107, 117, 112, 32, 51, 48, 10] (by simp)).b
  rw [aw17] at n1
  simp only [resV, polV, List.map_cons, List.map_nil, PRule.v, PRule.cells, PKeep.v, PKeep.cells] at n1
  repeat' (first | refine awp_seqR fun K' hK => ?_ | refine awp_regR fun K' hK => ?_ | refine awp_seqK ?_ | refine awp_skip ?_ | refine awp_block ?_ | ((first | refine awp_cond ⟨_, rfl, fun hc => ?_, fun hc => ?_⟩ | refine awB_t (fun hc => ?_) (fun hc => ?_) | refine awB_f (fun hc => ?_) (fun hc => ?_)) <;> first | exact Bool.noConfusion hc | ((try simp only [decide_eq_true_eq, decide_eq_false_iff_not, beq_iff_eq, beq_eq_false_iff_ne, ne_eq, Bool.not_eq_true', Bool.not_eq_false'] at hc); first | (exfalso; simp only [List.length_map] at hc; omega) | (exfalso; omega) | skip)) | refine awp_ret ?_ | refine awp_exit ?_ | simp (maxSteps := 1000000) only [go_sem, Nat.reduceAdd, Nat.reduceMul, Nat.reduceEqDiff, Nat.reduceLeDiff, Nat.reduceLT, Nat.reduceSub, Int.reduceEq, Int.reduceBEq, Int.reduceLT, Int.reduceLE, Int.reduceAdd, Int.reduceToNat, reduceIte, reduceCtorEq] | (refine hK _ ?_; clear hK; clear K') | refine And.intro ?_ ?_ | (apply awCs_A; (focus (first | exact n1 | exact (h_rule_Parse _ (by first | assumption | omega | (simp; done))).b))) | (simp only [List.length_append, List.length_cons, List.length_nil, List.length_map, Nat.reducePow, Nat.reduceAdd]; omega) | omega | exact List.mem_singleton_self _)
  all_goals first | (refine ends_r _ rfl ?_; simp only [go_sem, Nat.reduceEqDiff, Nat.reduceAdd, reduceIte, reduceCtorEq]; done) | trace_state
end Av
end
section
-- ALL all2.txt
set_option linter.unusedSimpArgs false
set_option linter.unusedVariables false
set_option maxRecDepth 10000
set_option maxHeartbeats 4000000
namespace Av
open Go
attribute [local irreducible] AWp runO runP runG awS awC awCv awQ awRd awCallR awCvR awQR awR awRdR awB okR plan ris
def tw0 : List (List UInt8) := [[], [35, 32, 120], [107, 101, 101, 112, 32, 98, 97, 99, 107, 117, 112, 32, 51, 48], [107, 101, 101, 112, 32, 115, 105, 103, 110, 32, 52, 48, 48, 48, 49], [107, 101, 101, 112, 32, 99, 111, 100, 101], [114, 117, 108, 101]]
theorem tw0_len : ∀ x ∈ tw0, x.length ≤ 15 := by decide
def tw1 : List (List UInt8) := [[102, 111, 114, 98, 105, 100], [97, 108, 108, 111, 119]]
theorem tw1_len : ∀ x ∈ tw1, x.length ≤ 6 := by decide
def tw2 : List (List UInt8) := [[97, 110, 121], [114, 115, 97], [109, 100, 53], [97, 101, 115, 99, 98, 99], [114, 115, 97], [120]]
theorem tw2_len : ∀ x ∈ tw2, x.length ≤ 6 := by decide
def tw3 : List (List UInt8) := [[], [32, 98, 101, 108, 111, 119, 32, 50, 48, 52, 56], [32, 98, 101, 108, 111, 119, 32, 48], [32, 98, 101, 108, 111, 119, 32, 49, 54, 51, 56, 53]]
theorem tw3_len : ∀ x ∈ tw3, x.length ≤ 12 := by decide
def tw4 : List (List UInt8) := [[], [32, 102, 111, 114, 32, 115, 105, 103, 110], [32, 102, 111, 114, 32, 116, 114, 97, 110, 115, 112, 111, 114, 116], [32, 102, 111, 114, 32, 120]]
theorem tw4_len : ∀ x ∈ tw4, x.length ≤ 14 := by decide
def tw5 : List (List UInt8) := [[], [32, 102, 114, 111, 109, 32, 49, 48, 48], [32, 102, 114, 111, 109, 32, 48], [32, 102, 114, 111, 109, 32, 48, 53, 48]]
theorem tw5_len : ∀ x ∈ tw5, x.length ≤ 9 := by decide
def tw6 : List (List UInt8) := [[], [32, 117, 110, 116, 105, 108, 32, 50, 48, 48], [32, 117, 110, 116, 105, 108, 32, 52, 48, 48, 48, 49], [32, 117, 110, 116, 105, 108, 32, 53, 48], [32, 117, 110, 116, 105, 108, 32, 52, 48, 48, 48, 50]]
theorem tw6_len : ∀ x ∈ tw6, x.length ≤ 12 := by decide
def tw7 : List (List UInt8) := [[10], [10], [10], [32, 10], []]
theorem tw7_len : ∀ x ∈ tw7, x.length ≤ 2 := by decide
def wcD (l : List Int) (xs : List (List UInt8)) (p : List UInt8 × Nat) : List UInt8 × Nat := (p.1 ++ (wordD l p.2 xs).1, (wordD l p.2 xs).2)
def pieceB (l : List Int) (s : List UInt8) (k : Nat) (c : Int) : List UInt8 × Nat :=
  if c = 0 then wcD l tw0 (s, k) else wcD l tw6 (wcD l tw5 (wcD l tw4 (wcD l tw3 (wcD l tw2 ((wcD l tw1 (s, k)).1 ++ [32], (wcD l tw1 (s, k)).2)))))
def pieceD (l : List Int) (s : List UInt8) (k : Nat) : List UInt8 × Nat := wcD l tw7 (pieceB l s (nextD l k 8).2 (nextD l k 8).1)
def textGo17 (l : List Int) : Nat → List UInt8 → Nat → List UInt8 × Nat
  | 0, s, k => (s, k)
  | i + 1, s, k => textGo17 l i (pieceD l s k).1 (pieceD l s k).2
def textD (l : List Int) (k : Nat) : List UInt8 × Nat := textGo17 l (nextD l k 7).1.toNat [] (nextD l k 7).2
theorem wcD_le {l : List Int} {xs : List (List UInt8)} {p : List UInt8 × Nat} (h : p.2 ≤ l.length) : (wcD l xs p).2 ≤ l.length := wordD_le h
theorem wcD_len {l : List Int} {xs : List (List UInt8)} {p : List UInt8 × Nat} {n : Nat} (h : ∀ x ∈ xs, x.length ≤ n) (h1 : 1 ≤ xs.length) (h2 : xs.length < 2 ^ 62) : (wcD l xs p).1.length ≤ p.1.length + n := by
  have := h _ (wordD_mem (l := l) (k := p.2) h1 h2)
  rw [wcD]; simp only [List.length_append]; omega
theorem pieceB_le {l : List Int} {s : List UInt8} {k : Nat} {c : Int} (h : k ≤ l.length) : (pieceB l s k c).2 ≤ l.length := by
  rw [pieceB]; split
  · exact wcD_le h
  · exact wcD_le (wcD_le (wcD_le (wcD_le (wcD_le (wcD_le (p := (s, k)) h)))))
theorem pieceD_le {l : List Int} {s : List UInt8} {k : Nat} (h : k ≤ l.length) : (pieceD l s k).2 ≤ l.length := wcD_le (pieceB_le (nextD_le h))
theorem pieceB_len {l : List Int} {s : List UInt8} {k : Nat} {c : Int} : (pieceB l s k c).1.length ≤ s.length + 66 := by
  rw [pieceB]; split
  · have := wcD_len (l := l) (p := (s, k)) tw0_len (by decide) (by decide)
    simp only at this; omega
  · have h1 := wcD_len (l := l) (p := (s, k)) tw1_len (by decide) (by decide)
    have h2 := wcD_len (l := l) (p := ((wcD l tw1 (s, k)).1 ++ [32], (wcD l tw1 (s, k)).2)) tw2_len (by decide) (by decide)
    have h3 := wcD_len (l := l) (p := wcD l tw2 ((wcD l tw1 (s, k)).1 ++ [32], (wcD l tw1 (s, k)).2)) tw3_len (by decide) (by decide)
    have h4 := wcD_len (l := l) (p := wcD l tw3 (wcD l tw2 ((wcD l tw1 (s, k)).1 ++ [32], (wcD l tw1 (s, k)).2))) tw4_len (by decide) (by decide)
    have h5 := wcD_len (l := l) (p := wcD l tw4 (wcD l tw3 (wcD l tw2 ((wcD l tw1 (s, k)).1 ++ [32], (wcD l tw1 (s, k)).2)))) tw5_len (by decide) (by decide)
    have h6 := wcD_len (l := l) (p := wcD l tw5 (wcD l tw4 (wcD l tw3 (wcD l tw2 ((wcD l tw1 (s, k)).1 ++ [32], (wcD l tw1 (s, k)).2))))) tw6_len (by decide) (by decide)
    simp only [List.length_append, List.length_singleton] at h1 h2
    omega
theorem pieceD_len {l : List Int} {s : List UInt8} {k : Nat} : (pieceD l s k).1.length ≤ s.length + 68 := by
  have h1 := pieceB_len (l := l) (s := s) (k := (nextD l k 8).2) (c := (nextD l k 8).1)
  have h2 := wcD_len (l := l) (p := pieceB l s (nextD l k 8).2 (nextD l k 8).1) tw7_len (by decide) (by decide)
  rw [pieceD]; omega
theorem textGo_len17 (l : List Int) : ∀ (i : Nat) (s : List UInt8) (k : Nat), (textGo17 l i s k).1.length ≤ s.length + 68 * i
  | 0, s, k => by simp [textGo17]
  | i + 1, s, k => by
    have h1 := textGo_len17 l i (pieceD l s k).1 (pieceD l s k).2
    have h2 := pieceD_len (l := l) (s := s) (k := k)
    rw [textGo17]; omega
theorem textD_len (l : List Int) (k : Nat) : (textD l k).1.length ≤ 500 := by
  have h := textGo_len17 l (nextD l k 7).1.toNat [] (nextD l k 7).2
  have hr := nextD_range (l := l) (k := k) (n := 7) (by omega) (by omega)
  rw [textD]
  simp only [List.length_nil] at h
  omega
def c_law17_text (f_make_Dice__Next f_make_Dice__Word : Nat) : AC := seqK [0] (.reg [mc 2 (V.str [])]) (seqK [0, 3] (.reg [mc 3 (V.str [])]) (seqK [3] (seqK [0, 3, 4] (.reg [mv 5 0, xo 6 (.call f_make_Dice__Next [(.t 5), (.c (V.int 7))]), mv 4 6]) (.block 0 (loopK [0, 3, 4] (seqK [0, 3, 4] (seqK [0, 3, 4, 8] (.reg [mv 7 4, bc 8 .gtr 7 (V.int 0)]) (.cond (.t 8) (.skip) (.exit 0))) (seqK [0, 3, 4] (.block 1 (seqK [0, 3, 4] (seqK [0, 3, 4, 12] (.reg [mv 11 0, xo 12 (.call f_make_Dice__Next [(.t 11), (.c (V.int 8))])]) (.block 2 (seqK [0, 3, 4, 39] (.reg [bc 40 .eql 12 (V.int 0), mv 39 40]) (.cond (.t 39) (.reg [mv 41 3, mv 42 0, xo 43 (.bslice 6 1 false [(.string ⟨#[]⟩)] [(0, (.c (V.str []))), (1, (.c (V.str [35, 32, 120]))), (2, (.c (V.str [107, 101, 101, 112, 32, 98, 97, 99, 107, 117, 112, 32, 51, 48]))), (3, (.c (V.str [107, 101, 101, 112, 32, 115, 105, 103, 110, 32, 52, 48, 48, 48, 49]))), (4, (.c (V.str [107, 101, 101, 112, 32, 99, 111, 100, 101]))), (5, (.c (V.str [114, 117, 108, 101])))]), cl 44 f_make_Dice__Word [42, 43], bn 45 .add 41 44, mv 3 45]) (.reg [mv 13 3, mv 14 0, xo 15 (.bslice 2 1 false [(.string ⟨#[]⟩)] [(0, (.c (V.str [102, 111, 114, 98, 105, 100]))), (1, (.c (V.str [97, 108, 108, 111, 119])))]), cl 16 f_make_Dice__Word [14, 15], bn 17 .add 13 16, bc 18 .add 17 (V.str [32]), mv 19 0, xo 20 (.bslice 6 1 false [(.string ⟨#[]⟩)] [(0, (.c (V.str [97, 110, 121]))), (1, (.c (V.str [114, 115, 97]))), (2, (.c (V.str [109, 100, 53]))), (3, (.c (V.str [97, 101, 115, 99, 98, 99]))), (4, (.c (V.str [114, 115, 97]))), (5, (.c (V.str [120])))]), cl 21 f_make_Dice__Word [19, 20], bn 22 .add 18 21, mv 23 0, xo 24 (.bslice 4 1 false [(.string ⟨#[]⟩)] [(0, (.c (V.str []))), (1, (.c (V.str [32, 98, 101, 108, 111, 119, 32, 50, 48, 52, 56]))), (2, (.c (V.str [32, 98, 101, 108, 111, 119, 32, 48]))), (3, (.c (V.str [32, 98, 101, 108, 111, 119, 32, 49, 54, 51, 56, 53])))]), cl 25 f_make_Dice__Word [23, 24], bn 26 .add 22 25, mv 27 0, xo 28 (.bslice 4 1 false [(.string ⟨#[]⟩)] [(0, (.c (V.str []))), (1, (.c (V.str [32, 102, 111, 114, 32, 115, 105, 103, 110]))), (2, (.c (V.str [32, 102, 111, 114, 32, 116, 114, 97, 110, 115, 112, 111, 114, 116]))), (3, (.c (V.str [32, 102, 111, 114, 32, 120])))]), cl 29 f_make_Dice__Word [27, 28], bn 30 .add 26 29, mv 31 0, xo 32 (.bslice 4 1 false [(.string ⟨#[]⟩)] [(0, (.c (V.str []))), (1, (.c (V.str [32, 102, 114, 111, 109, 32, 49, 48, 48]))), (2, (.c (V.str [32, 102, 114, 111, 109, 32, 48]))), (3, (.c (V.str [32, 102, 114, 111, 109, 32, 48, 53, 48])))]), cl 33 f_make_Dice__Word [31, 32], bn 34 .add 30 33, mv 35 0, xo 36 (.bslice 5 1 false [(.string ⟨#[]⟩)] [(0, (.c (V.str []))), (1, (.c (V.str [32, 117, 110, 116, 105, 108, 32, 50, 48, 48]))), (2, (.c (V.str [32, 117, 110, 116, 105, 108, 32, 52, 48, 48, 48, 49]))), (3, (.c (V.str [32, 117, 110, 116, 105, 108, 32, 53, 48]))), (4, (.c (V.str [32, 117, 110, 116, 105, 108, 32, 52, 48, 48, 48, 50])))]), cl 37 f_make_Dice__Word [35, 36], bn 38 .add 34 37, mv 3 38]))))) (.reg [mv 46 3, mv 47 0, xo 48 (.bslice 5 1 false [(.string ⟨#[]⟩)] [(0, (.c (V.str [10]))), (1, (.c (V.str [10]))), (2, (.c (V.str [10]))), (3, (.c (V.str [32, 10]))), (4, (.c (V.str [])))]), cl 49 f_make_Dice__Word [47, 48], bn 50 .add 46 49, mv 3 50]))) (.reg [mv 9 4, bc 10 .sub 9 (V.int 1), mv 4 10])))))) (seqK [2] (.reg [mv 51 3, mv 2 51]) (.ret)))) def r_law17_text : List ARes := [.tmp 2]
def CE_law17_text (Γ : Env) (f : Nat) : Prop := ∀ (l : List Int) (k : Nat) (hl : l.length ≤ 400) (hk : k ≤ l.length), EvD Γ f [] (dcell l k) (V.str (textD l k).1) (dcell l (textD l k).2)
theorem ev_law17_text {Γ : Env} {f f_make_Dice__Next f_make_Dice__Word : Nat} (h : Has Γ.P f 52 (c_law17_text f_make_Dice__Next f_make_Dice__Word) r_law17_text) (h_make_Dice__Next : CE_make_Dice__Next Γ f_make_Dice__Next) (h_make_Dice__Word : CE_make_Dice__Word Γ f_make_Dice__Word) : CE_law17_text Γ f := by
  intro l k hl hk
  refine evD_of_body h (by simp) (by simp only [V.closed, closedL, V.noSl, noSlL, and_self, and_true, true_and]) (by first | exact dcell_closed _ _ | simp only [V.closed, closedL, and_self, and_true, true_and]) (by first | exact dcell_closed _ _ | simp only [V.closed, closedL, and_self, and_true, true_and]) fun C hC hm => ?_
  subst hC
  unfold c_law17_text
  have n0 := h_make_Dice__Next l k 7 hl hk
  have hr := nextD_range (l := l) (k := k) (n := 7) (by omega) (by omega)
  have hk0 := nextD_le (n := 7) hk
  have e2 : textD l k = textGo17 l (nextD l k 7).1.toNat [] (nextD l k 7).2 := rfl
  rw [e2]
  generalize nextD l k 7 = w at *
  obtain ⟨i0, k0⟩ := w
  obtain ⟨i0, rfl⟩ : ∃ j : Nat, i0 = (j : Int) := ⟨i0.toNat, by simp only at hr; omega⟩
  simp only [dcell, Int.toNat_natCast] at n0 hr hk0 ⊢
  generalize hR : textGo17 l i0 [] k0 = R at *
  repeat' (first | refine awp_seqR fun K' hK => ?_ | refine awp_regR fun K' hK => ?_ | refine awp_seqK ?_ | refine awp_skip ?_ | refine awp_block ?_ | ((first | refine awp_cond ⟨_, rfl, fun hc => ?_, fun hc => ?_⟩ | refine awB_t (fun hc => ?_) (fun hc => ?_) | refine awB_f (fun hc => ?_) (fun hc => ?_)) <;> first | exact Bool.noConfusion hc | ((try simp only [decide_eq_true_eq, decide_eq_false_iff_not, beq_iff_eq, beq_eq_false_iff_ne, ne_eq, Bool.not_eq_true', Bool.not_eq_false'] at hc); first | (exfalso; simp only [List.length_map] at hc; omega) | (exfalso; omega) | skip)) | refine awp_ret ?_ | refine awp_exit ?_ | simp (maxSteps := 1000000) only [go_sem, Nat.reduceAdd, Nat.reduceMul, Nat.reduceEqDiff, Nat.reduceLeDiff, Nat.reduceLT, Nat.reduceSub, Int.reduceEq, Int.reduceBEq, Int.reduceLT, Int.reduceLE, Int.reduceAdd, Int.reduceToNat, reduceIte, reduceCtorEq, dcell] | (refine hK _ ?_; clear hK; clear K') | refine And.intro ?_ ?_ | (apply awCs_D; (focus (exact rfl)); (focus (first | exact n0 | exact (h_make_Dice__Next _ _ _ (by first | assumption | omega | (simp; done)) (by first | assumption | omega | (simp; done))) | exact (h_make_Dice__Word _ _ _ (by first | assumption | omega | (simp; done)) (by first | assumption | omega | (simp; done)) (by first | assumption | omega | (simp; done)) (by first | assumption | omega | (simp; done))))); (focus (exact rfl)); (focus (exact rfl))) | (simp only [List.length_append, List.length_cons, List.length_nil, List.length_map, Nat.reducePow, Nat.reduceAdd]; omega) | omega | exact List.mem_singleton_self _)
  refine awp_loopV (ι := Nat × List UInt8 × Nat) (fun p => p.1 ≤ 6 ∧ p.2.2 ≤ l.length ∧ p.2.1.length + p.1 * 68 ≤ 500 ∧ textGo17 l p.1 p.2.1 p.2.2 = R) (fun p => mkSt [(0, .ptr 0 0), (3, V.str p.2.1), (4, V.int p.1)] [(0, .box true [.sl 1 (l.map V.int), V.int p.2.2])] 1) (fun p => p.1) (i0, [], k0) ⟨(by show i0 ≤ 6; omega), hk0, (by show 0 + i0 * 68 ≤ 500; omega), hR⟩ (lookN []) (weak_g [] (by simp only [go_sem, Nat.reduceAdd, Nat.reduceMul, Nat.reduceEqDiff, Nat.reduceLT, Int.reduceToNat, reduceIte, reduceCtorEq, and_true, true_and, implies_true, Option.some.injEq, exists_eq_left', closedL_ren, closed_ren]; (repeat' (first | rfl | refine And.intro ?_ ?_ | omega | exact fun h => h | exact Exists.intro _ rfl))) (by simp only [go_sem, Nat.reduceAdd, Nat.reduceMul, Nat.reduceEqDiff, Nat.reduceLT, Int.reduceToNat, reduceIte, reduceCtorEq, and_true, true_and, implies_true, Option.some.injEq, exists_eq_left', closedL_ren, closed_ren]; (repeat' (first | rfl | refine And.intro ?_ ?_ | omega | exact fun h => h | exact Exists.intro _ rfl))) (by simp) (by simp) (by omega)) fun p hp K' hL => ?_
  obtain ⟨i, s, k⟩ := p
  obtain ⟨hi, hk, hs, hinv⟩ := hp
  simp only at hi hk hs hinv
  rcases i with _ | i
  · rw [← hinv]
    repeat' (first | refine awp_seqR fun K' hK => ?_ | refine awp_regR fun K' hK => ?_ | refine awp_seqK ?_ | refine awp_skip ?_ | refine awp_block ?_ | ((first | refine awp_cond ⟨_, rfl, fun hc => ?_, fun hc => ?_⟩ | refine awB_t (fun hc => ?_) (fun hc => ?_) | refine awB_f (fun hc => ?_) (fun hc => ?_)) <;> first | exact Bool.noConfusion hc | ((try simp only [decide_eq_true_eq, decide_eq_false_iff_not, beq_iff_eq, beq_eq_false_iff_ne, ne_eq, Bool.not_eq_true', Bool.not_eq_false'] at hc); first | (exfalso; simp only [List.length_map] at hc; omega) | (exfalso; omega) | skip)) | refine awp_ret ?_ | refine awp_exit ?_ | simp (maxSteps := 1000000) only [go_sem, Nat.reduceAdd, Nat.reduceMul, Nat.reduceEqDiff, Nat.reduceLeDiff, Nat.reduceLT, Nat.reduceSub, Int.reduceEq, Int.reduceBEq, Int.reduceLT, Int.reduceLE, Int.reduceAdd, Int.reduceToNat, reduceIte, reduceCtorEq, mkSt, dcell, textGo17] | (refine hK _ ?_; clear hK; clear K') | refine And.intro ?_ ?_ | (apply awCs_D; (focus (exact rfl)); (focus (first | exact (h_make_Dice__Next _ _ _ (by first | assumption | omega | (simp; done)) (by first | assumption | omega | (simp; done))) | exact (h_make_Dice__Word _ _ _ (by first | assumption | omega | (simp; done)) (by first | assumption | omega | (simp; done)) (by first | assumption | omega | (simp; done)) (by first | assumption | omega | (simp; done))))); (focus (exact rfl)); (focus (exact rfl))) | (simp only [List.length_append, List.length_cons, List.length_nil, List.length_map, Nat.reducePow, Nat.reduceAdd]; omega) | omega | exact List.mem_singleton_self _)
    all_goals (refine ends_d _ rfl rfl (by simp only [V.closed, closedL, and_self, and_true, true_and]) ?_; simp only [go_sem, Nat.reduceEqDiff, Nat.reduceAdd, reduceIte, reduceCtorEq])
  have n1 := h_make_Dice__Next l k 8 hl hk
  have hr8 := nextD_range (l := l) (k := k) (n := 8) (by omega) (by omega)
  have hk1 := nextD_le (n := 8) hk
  have hpl := pieceD_len (l := l) (s := s) (k := k)
  have hpk := pieceD_le (s := s) hk
  rw [textGo17] at hinv
  have e1 : decide (((i + 1 : Nat) : Int) > 0) = true := decide_eq_true (by omega)
  have ew : IntKind.i64.wrap (((i + 1 : Nat) : Int) - 1) = (i : Int) := by rw [wrap_id (by omega) (by omega)]; omega
  have hback : ∀ (s2 : List UInt8) (k2 : Nat), pieceD l s k = (s2, k2) → ∀ st : St, Weak C.m (lookN []) st (mkSt [(0, .ptr 0 0), (3, V.str s2), (4, V.int i)] [(0, .box true [.sl 1 (l.map V.int), V.int k2])] 1) → K' st := by
    intro s2 k2 h st hw
    rw [h] at hinv hpl hpk
    simp only at hinv hpl hpk
    exact hL st (i, s2, k2) (lookN []) ⟨by show i ≤ 6; omega, hpk, by show s2.length + i * 68 ≤ 500; omega, hinv⟩ (by show i < i + 1; omega) hw
  simp only [pieceD] at hback
  clear hpl hpk hinv hL
  generalize nextD l k 8 = u at *
  obtain ⟨c, k1⟩ := u
  simp only [dcell] at n1 hr8 hk1 hback
  rcases (by omega : c = 0 ∨ c ≠ 0) with rfl | hc
  · have hb : pieceB l s k1 0 = wcD l tw0 (s, k1) := if_pos rfl
    rw [hb] at hback
    simp only [wcD] at hback
    have w0 := h_make_Dice__Word l k1 tw0 hl hk1 (by decide) (by decide)
    have l0 := tw0_len _ (wordD_mem (l := l) (k := k1) (xs := tw0) (by decide) (by decide))
    have m0 := wordD_le (xs := tw0) hk1
    generalize wordD l k1 tw0 = q0 at *
    obtain ⟨t0, k2⟩ := q0
    simp only at w0 l0 m0 hback
    have w7 := h_make_Dice__Word l k2 tw7 hl m0 (by decide) (by decide)
    have l7 := tw7_len _ (wordD_mem (l := l) (k := k2) (xs := tw7) (by decide) (by decide))
    generalize wordD l k2 tw7 = q7 at *
    obtain ⟨t7, k7⟩ := q7
    simp only [dcell, tw0, tw7, List.map_cons, List.map_nil] at w0 w7 l7 hback
    repeat' (first | refine awp_seqR fun K' hK => ?_ | refine awp_regR fun K' hK => ?_ | refine awp_seqK ?_ | refine awp_skip ?_ | refine awp_block ?_ | ((first | refine awp_cond ⟨_, rfl, fun hc => ?_, fun hc => ?_⟩ | refine awB_t (fun hc => ?_) (fun hc => ?_) | refine awB_f (fun hc => ?_) (fun hc => ?_)) <;> first | exact Bool.noConfusion hc | ((try simp only [decide_eq_true_eq, decide_eq_false_iff_not, beq_iff_eq, beq_eq_false_iff_ne, ne_eq, Bool.not_eq_true', Bool.not_eq_false'] at hc); first | (exfalso; simp only [List.length_map] at hc; omega) | (exfalso; omega) | skip)) | refine awp_ret ?_ | refine awp_exit ?_ | simp (maxSteps := 1000000) only [go_sem, Nat.reduceAdd, Nat.reduceMul, Nat.reduceEqDiff, Nat.reduceLeDiff, Nat.reduceLT, Nat.reduceSub, Int.reduceEq, Int.reduceBEq, Int.reduceLT, Int.reduceLE, Int.reduceAdd, Int.reduceToNat, reduceIte, reduceCtorEq, mkSt, e1, ew] | (refine hK _ ?_; clear hK; clear K') | refine And.intro ?_ ?_ | (apply awCs_D; (focus (exact rfl)); (focus (first | exact n1 | exact w0 | exact w7 | exact (h_make_Dice__Next _ _ _ (by first | assumption | omega | (simp; done)) (by first | assumption | omega | (simp; done))) | exact (h_make_Dice__Word _ _ _ (by first | assumption | omega | (simp; done)) (by first | assumption | omega | (simp; done)) (by first | assumption | omega | (simp; done)) (by first | assumption | omega | (simp; done))))); (focus (exact rfl)); (focus (exact rfl))) | (simp only [List.length_append, List.length_cons, List.length_nil, List.length_map, Nat.reducePow, Nat.reduceAdd]; omega) | omega | exact List.mem_singleton_self _)
    all_goals first
      | exact hback _ _ rfl _ (weak_g [] (by simp only [go_sem, Nat.reduceAdd, Nat.reduceMul, Nat.reduceEqDiff, Nat.reduceLT, Int.reduceToNat, reduceIte, reduceCtorEq, and_true, true_and, implies_true, Option.some.injEq, exists_eq_left', closedL_ren, closed_ren]; (repeat' (first | rfl | refine And.intro ?_ ?_ | omega | exact fun h => h | exact Exists.intro _ rfl))) (by simp only [go_sem, Nat.reduceAdd, Nat.reduceMul, Nat.reduceEqDiff, Nat.reduceLT, Int.reduceToNat, reduceIte, reduceCtorEq, and_true, true_and, implies_true, Option.some.injEq, exists_eq_left', closedL_ren, closed_ren]; (repeat' (first | rfl | refine And.intro ?_ ?_ | omega | exact fun h => h | exact Exists.intro _ rfl))) (by simp) (by simp) (by omega))
      | trace_state
  · have hb : pieceB l s k1 c = wcD l tw6 (wcD l tw5 (wcD l tw4 (wcD l tw3 (wcD l tw2 ((wcD l tw1 (s, k1)).1 ++ [32], (wcD l tw1 (s, k1)).2))))) := if_neg hc
    rw [hb] at hback
    simp only [wcD] at hback
    have c0 : (c == 0) = false := by simpa using hc
    have w1 := h_make_Dice__Word l k1 tw1 hl hk1 (by decide) (by decide)
    have l1 := tw1_len _ (wordD_mem (l := l) (k := k1) (xs := tw1) (by decide) (by decide))
    have m1 := wordD_le (xs := tw1) hk1
    generalize wordD l k1 tw1 = q1 at *
    obtain ⟨t1, j1⟩ := q1
    simp only [dcell, tw1, List.map_cons, List.map_nil] at w1 l1 m1 hback
    have w2 := h_make_Dice__Word l j1 tw2 hl m1 (by decide) (by decide)
    have l2 := tw2_len _ (wordD_mem (l := l) (k := j1) (xs := tw2) (by decide) (by decide))
    have m2 := wordD_le (xs := tw2) m1
    generalize wordD l j1 tw2 = q2 at *
    obtain ⟨t2, j2⟩ := q2
    simp only [dcell, tw2, List.map_cons, List.map_nil] at w2 l2 m2 hback
    have w3 := h_make_Dice__Word l j2 tw3 hl m2 (by decide) (by decide)
    have l3 := tw3_len _ (wordD_mem (l := l) (k := j2) (xs := tw3) (by decide) (by decide))
    have m3 := wordD_le (xs := tw3) m2
    generalize wordD l j2 tw3 = q3 at *
    obtain ⟨t3, j3⟩ := q3
    simp only [dcell, tw3, List.map_cons, List.map_nil] at w3 l3 m3 hback
    have w4 := h_make_Dice__Word l j3 tw4 hl m3 (by decide) (by decide)
    have l4 := tw4_len _ (wordD_mem (l := l) (k := j3) (xs := tw4) (by decide) (by decide))
    have m4 := wordD_le (xs := tw4) m3
    generalize wordD l j3 tw4 = q4 at *
    obtain ⟨t4, j4⟩ := q4
    simp only [dcell, tw4, List.map_cons, List.map_nil] at w4 l4 m4 hback
    have w5 := h_make_Dice__Word l j4 tw5 hl m4 (by decide) (by decide)
    have l5 := tw5_len _ (wordD_mem (l := l) (k := j4) (xs := tw5) (by decide) (by decide))
    have m5 := wordD_le (xs := tw5) m4
    generalize wordD l j4 tw5 = q5 at *
    obtain ⟨t5, j5⟩ := q5
    simp only [dcell, tw5, List.map_cons, List.map_nil] at w5 l5 m5 hback
    have w6 := h_make_Dice__Word l j5 tw6 hl m5 (by decide) (by decide)
    have l6 := tw6_len _ (wordD_mem (l := l) (k := j5) (xs := tw6) (by decide) (by decide))
    have m6 := wordD_le (xs := tw6) m5
    generalize wordD l j5 tw6 = q6 at *
    obtain ⟨t6, j6⟩ := q6
    simp only [dcell, tw6, List.map_cons, List.map_nil] at w6 l6 m6 hback
    have w7 := h_make_Dice__Word l j6 tw7 hl m6 (by decide) (by decide)
    have l7 := tw7_len _ (wordD_mem (l := l) (k := j6) (xs := tw7) (by decide) (by decide))
    have m7 := wordD_le (xs := tw7) m6
    generalize wordD l j6 tw7 = q7 at *
    obtain ⟨t7, j7⟩ := q7
    simp only [dcell, tw7, List.map_cons, List.map_nil] at w7 l7 m7 hback
    repeat' (first | refine awp_seqR fun K' hK => ?_ | refine awp_regR fun K' hK => ?_ | refine awp_seqK ?_ | refine awp_skip ?_ | refine awp_block ?_ | ((first | refine awp_cond ⟨_, rfl, fun hc => ?_, fun hc => ?_⟩ | refine awB_t (fun hc => ?_) (fun hc => ?_) | refine awB_f (fun hc => ?_) (fun hc => ?_)) <;> first | exact Bool.noConfusion hc | ((try simp only [decide_eq_true_eq, decide_eq_false_iff_not, beq_iff_eq, beq_eq_false_iff_ne, ne_eq, Bool.not_eq_true', Bool.not_eq_false'] at hc); first | (exfalso; simp only [List.length_map] at hc; omega) | (exfalso; omega) | skip)) | refine awp_ret ?_ | refine awp_exit ?_ | simp (maxSteps := 1000000) only [go_sem, Nat.reduceAdd, Nat.reduceMul, Nat.reduceEqDiff, Nat.reduceLeDiff, Nat.reduceLT, Nat.reduceSub, Int.reduceEq, Int.reduceBEq, Int.reduceLT, Int.reduceLE, Int.reduceAdd, Int.reduceToNat, reduceIte, reduceCtorEq, mkSt, e1, ew, c0] | (refine hK _ ?_; clear hK; clear K') | refine And.intro ?_ ?_ | (apply awCs_D; (focus (exact rfl)); (focus (first | exact n1 | exact w1 | exact w2 | exact w3 | exact w4 | exact w5 | exact w6 | exact w7 | exact (h_make_Dice__Next _ _ _ (by first | assumption | omega | (simp; done)) (by first | assumption | omega | (simp; done))) | exact (h_make_Dice__Word _ _ _ (by first | assumption | omega | (simp; done)) (by first | assumption | omega | (simp; done)) (by first | assumption | omega | (simp; done)) (by first | assumption | omega | (simp; done))))); (focus (exact rfl)); (focus (exact rfl))) | (simp only [List.length_append, List.length_cons, List.length_nil, List.length_map, Nat.reducePow, Nat.reduceAdd]; omega) | omega | exact List.mem_singleton_self _)
    all_goals first
      | exact hback _ _ rfl _ (weak_g [] (by simp only [go_sem, Nat.reduceAdd, Nat.reduceMul, Nat.reduceEqDiff, Nat.reduceLT, Int.reduceToNat, reduceIte, reduceCtorEq, and_true, true_and, implies_true, Option.some.injEq, exists_eq_left', closedL_ren, closed_ren]; (repeat' (first | rfl | refine And.intro ?_ ?_ | omega | exact fun h => h | exact Exists.intro _ rfl))) (by simp only [go_sem, Nat.reduceAdd, Nat.reduceMul, Nat.reduceEqDiff, Nat.reduceLT, Int.reduceToNat, reduceIte, reduceCtorEq, and_true, true_and, implies_true, Option.some.injEq, exists_eq_left', closedL_ren, closed_ren]; (repeat' (first | rfl | refine And.intro ?_ ?_ | omega | exact fun h => h | exact Exists.intro _ rfl))) (by simp) (by simp) (by omega))
      | trace_state
end Av
end

/- Fb -/
import Derived.Test.YtheehngibnbflaaGreatDoorFa
import Derived.Test.YtheehngibnbflaaGreatDoorPb
set_option linter.unusedVariables false
set_option linter.unusedSimpArgs false
section
set_option linter.unusedSimpArgs false
set_option linter.unusedVariables false
set_option maxRecDepth 10000
set_option maxHeartbeats 4000000
namespace Av
open Go
attribute [local irreducible] AWp Yd Yy YK awS awC XQ awQ XW Qr Jj XP awR Jk awB okR Yk ris
def aaC (c : Int) : Int × Int := if c = 0 then (1, 0) else if c = 1 then (2, 0) else if c = 2 then (5, 1024) else (14, 128)
theorem aaF {c : Int} (h : 0 ≤ c ∧ c < 4) : ([.agg [V.int 1, V.int 0], .agg [V.int 2, V.int 0], .agg [V.int 5, V.int 1024], .agg [V.int 14, V.int 128]] : List V)[c.toNat]? = some (.agg [V.int (aaC c).1, V.int (aaC c).2]) := by
  obtain rfl | rfl | rfl | rfl : c = 0 ∨ c = 1 ∨ c = 2 ∨ c = 3 := by omega
  all_goals rfl
def ab0 (l : List Int) (f : JH) (k : Nat) : JH × Nat :=
  if f.kind = 1 ∨ f.kind = 8 then ({ f with alg := (aaC (JB l k 4).1).1, bits := (aaC (JB l k 4).1).2 }, (JB l k 4).2)
  else if f.kind = 2 then ({ f with num := 1 + (JB l k 5).1 }, (JB l k 5).2)
  else if f.kind = 3 then ({ f with alg := 5, bits := (ofD l k [1024, 2048]).1, num := 100 + (JB l (ofD l k [1024, 2048]).2 3).1 }, (JB l (ofD l k [1024, 2048]).2 3).2)
  else if f.kind = 4 ∨ f.kind = 5 then ({ f with num := 1 + (JB l k 4).1 }, (JB l k 4).2)
  else if f.kind = 6 then ({ f with num := (JB l k 3).1 }, (JB l k 3).2)
  else ({ f with text := (Vh l k [[97], [98]]).1 }, (Vh l k [[97], [98]]).2)
def qi (l : List Int) (k : Nat) : JH × Nat :=
  let n1 := JB l k 7
  let w1 := Vh l n1.2 [[97], [98], [99]]
  let o1 := ofD l w1.2 [0, 1, 2, 0, 3]
  let n2 := JB l o1.2 12
  let o2 := ofD l n2.2 [90, 50, 100, 1]
  let n3 := JB l o2.2 8
  let w2 := Vh l n3.2 [[115], [116]]
  (⟨1 + n1.1, w1.1, o1.1, n2.1, o2.1, 1 + n3.1, w2.1, 0, 0, 0, []⟩, w2.2)
def wO (l : List Int) (k : Nat) : JH × Nat := ab0 l (qi l k).1 (qi l k).2
def W2 (Qp JE JS : Nat) : AC := Qt [0, 2] (.reg [xo 2 (.alloc [.val (.int .i64 0), .val (.string ⟨#[]⟩), .val (.int .i64 0), .val (.int .i64 0), .val (.int .i64 0), .val (.int .i64 0), .val (.string ⟨#[]⟩), .val (.int .i64 0), .val (.int .i64 0), .val (.int .i64 0), .val (.string ⟨#[]⟩)])]) (Qt [0, 2, 3] (.reg [mv 4 0, xo 5 (.call Qp [(.t 4), (.c (V.int 7))]), xo 6 (.bin .add (.c (V.int 1)) (.t 5)), mv 7 0, xo 8 (.bslice 3 1 false [(.string ⟨#[]⟩)] [(0, (.c (V.str [97]))), (1, (.c (V.str [98]))), (2, (.c (V.str [99])))]), cl 9 JE [7, 8], mv 10 0, xo 11 (.bslice 5 1 false [(.int .i64 0)] [(0, (.c (V.int 0))), (1, (.c (V.int 1))), (2, (.c (V.int 2))), (3, (.c (V.int 0))), (4, (.c (V.int 3)))]), cl 12 JS [10, 11], mv 13 0, xo 14 (.call Qp [(.t 13), (.c (V.int 12))]), mv 15 0, xo 16 (.bslice 4 1 false [(.int .i64 0)] [(0, (.c (V.int 90))), (1, (.c (V.int 50))), (2, (.c (V.int 100))), (3, (.c (V.int 1)))]), cl 17 JS [15, 16], mv 18 0, xo 19 (.call Qp [(.t 18), (.c (V.int 8))]), xo 20 (.bin .add (.c (V.int 1)) (.t 19)), mv 21 0, xo 22 (.bslice 2 1 false [(.string ⟨#[]⟩)] [(0, (.c (V.str [115]))), (1, (.c (V.str [116])))]), cl 23 JE [21, 22], xo 24 (.build [(.int .i64 0), (.string ⟨#[]⟩), (.int .i64 0), (.int .i64 0), (.int .i64 0), (.int .i64 0), (.string ⟨#[]⟩), (.int .i64 0), (.int .i64 0), (.int .i64 0), (.string ⟨#[]⟩)] [(0, 1, (.t 6)), (1, 1, (.t 9)), (2, 1, (.t 12)), (3, 1, (.t 14)), (4, 1, (.t 17)), (5, 1, (.t 20)), (6, 1, (.t 23))]), xo 3 (.alloc [.val (.int .i64 0), .val (.string ⟨#[]⟩), .val (.int .i64 0), .val (.int .i64 0), .val (.int .i64 0), .val (.int .i64 0), .val (.string ⟨#[]⟩), .val (.int .i64 0), .val (.int .i64 0), .val (.int .i64 0), .val (.string ⟨#[]⟩)]), xs 11 3 24]) (Qt [2, 3] (Qt [0, 2, 3, 26] (.reg [fa 25 5 3, ld 26 1 25]) (.block 0 (Qt [0, 2, 3, 26, 27] (Qt [0, 2, 3, 26, 27] (.reg [bc 28 .eql 26 (V.int 1), mv 27 28]) (.cond (.t 27) (.skip) (.reg [bc 29 .eql 26 (V.int 8), mv 27 29]))) (.cond (.t 27) (.reg [xo 30 (.build [(.int .i64 0), (.int .i64 0)] [(0, 1, (.c (V.int 1)))]), xo 31 (.build [(.int .i64 0), (.int .i64 0)] [(0, 1, (.c (V.int 2)))]), xo 32 (.build [(.int .i64 0), (.int .i64 0)] [(0, 1, (.c (V.int 5))), (1, 1, (.c (V.int 1024)))]), xo 33 (.build [(.int .i64 0), (.int .i64 0)] [(0, 1, (.c (V.int 14))), (1, 1, (.c (V.int 128)))]), xo 34 (.bslice 4 2 true [(.int .i64 0), (.int .i64 0)] [(0, (.t 30)), (1, (.t 31)), (2, (.t 32)), (3, (.t 33))]), mv 35 0, xo 36 (.call Qp [(.t 35), (.c (V.int 4))]), ia 37 2 34 36, xo 38 (.load true 2 (.t 37)), fa 39 7 3, xs 2 39 38]) (Qt [0, 2, 3, 26, 40] (.reg [bc 41 .eql 26 (V.int 2), mv 40 41]) (.cond (.t 40) (.reg [mv 42 0, xo 43 (.call Qp [(.t 42), (.c (V.int 5))]), xo 44 (.bin .add (.c (V.int 1)) (.t 43)), fa 45 9 3, xs 1 45 44]) (Qt [0, 2, 3, 26, 46] (.reg [bc 47 .eql 26 (V.int 3), mv 46 47]) (.cond (.t 46) (.reg [mv 48 0, xo 49 (.bslice 2 1 false [(.int .i64 0)] [(0, (.c (V.int 1024))), (1, (.c (V.int 2048)))]), cl 50 JS [48, 49], xo 51 (.build [(.int .i64 0), (.int .i64 0)] [(0, 1, (.c (V.int 5))), (1, 1, (.t 50))]), mv 52 0, xo 53 (.call Qp [(.t 52), (.c (V.int 3))]), xo 54 (.bin .add (.c (V.int 100)) (.t 53)), fa 55 7 3, xs 2 55 51, fa 56 9 3, xs 1 56 54]) (Qt [0, 2, 3, 26, 57] (Qt [0, 2, 3, 26, 57] (.reg [bc 58 .eql 26 (V.int 4), mv 57 58]) (.cond (.t 57) (.skip) (.reg [bc 59 .eql 26 (V.int 5), mv 57 59]))) (.cond (.t 57) (.reg [mv 60 0, xo 61 (.call Qp [(.t 60), (.c (V.int 4))]), xo 62 (.bin .add (.c (V.int 1)) (.t 61)), fa 63 9 3, xs 1 63 62]) (Qt [0, 2, 3, 26, 64] (.reg [bc 65 .eql 26 (V.int 6), mv 64 65]) (.cond (.t 64) (.reg [mv 66 0, xo 67 (.call Qp [(.t 66), (.c (V.int 3))]), fa 68 9 3, xs 1 68 67]) (Qt [0, 2, 3, 69] (.reg [bc 70 .eql 26 (V.int 7), mv 69 70]) (.cond (.t 69) (.reg [mv 71 0, xo 72 (.bslice 2 1 false [(.string ⟨#[]⟩)] [(0, (.c (V.str [97]))), (1, (.c (V.str [98])))]), cl 73 JE [71, 72], fa 74 10 3, xs 1 74 73]) (.skip))))))))))))))) (Qt [2] (.reg [xo 75 (.load true 11 (.t 3)), xs 11 2 75]) (.ret)))) def r_make_Finding : List YJ := [.cell 2 true 11]
def WJ (Γ : Env) (f : Nat) : Prop := ∀ (l : List Int) (k : Nat) (hl : l.length ≤ 400) (hk : k ≤ l.length), EvD Γ f [] (X9 l k) ((wO l k).1.v) (X9 l (wO l k).2)
theorem qR {Γ : Env} {f Qp JE JS : Nat} (h : Has Γ.P f 76 (W2 Qp JE JS) r_make_Finding) (Qx : JM Γ Qp) (Yz : XJ Γ JE) (Xv : Wh Γ JS) : WJ Γ f := by
  intro l k hl hk
  refine Vw h (by simp) (by first | exact JL _ _ | simp only [JH.v, JH.cells, V.closed, Qc, and_self, and_true]) (by first | exact JL _ _ | simp only [V.closed, Qc, and_self, and_true, true_and]) (by first | exact JL _ _ | simp only [V.closed, Qc, and_self, and_true, true_and]) fun C hC hm => ?_
  subst hC
  unfold W2
  have n1 := Qx l k 7 hl hk
  have r1 := Q1 (l := l) (k := k) (n := 7) (by omega) (by omega)
  have k1 := U1 (n := 7) hk
  simp only [wO, qi]
  generalize JB l k 7 = x1 at *
  obtain ⟨a1, q1⟩ := x1
  simp only at n1 r1 k1 ⊢
  have n2 := Yz l q1 [[97], [98], [99]] hl k1 (by decide) (by decide)
  have k2 := xI (xs := [[97], [98], [99]]) k1
  generalize Vh l q1 [[97], [98], [99]] = x2 at *
  obtain ⟨a2, q2⟩ := x2
  simp only at n2 k2 ⊢
  have n3 := Xv l q2 [0, 1, 2, 0, 3] hl k2 (by decide) (by decide)
  have k3 := vP (xs := [0, 1, 2, 0, 3]) k2
  generalize ofD l q2 [0, 1, 2, 0, 3] = x3 at *
  obtain ⟨a3, q3⟩ := x3
  simp only at n3 k3 ⊢
  have n4 := Qx l q3 12 hl k3
  have k4 := U1 (n := 12) k3
  generalize JB l q3 12 = x4 at *
  obtain ⟨a4, q4⟩ := x4
  simp only at n4 k4 ⊢
  have n5 := Xv l q4 [90, 50, 100, 1] hl k4 (by decide) (by decide)
  have k5 := vP (xs := [90, 50, 100, 1]) k4
  generalize ofD l q4 [90, 50, 100, 1] = x5 at *
  obtain ⟨a5, q5⟩ := x5
  simp only at n5 k5 ⊢
  have n6 := Qx l q5 8 hl k5
  have r6 := Q1 (l := l) (k := q5) (n := 8) (by omega) (by omega)
  have k6 := U1 (n := 8) k5
  generalize JB l q5 8 = x6 at *
  obtain ⟨a6, q6⟩ := x6
  simp only at n6 r6 k6 ⊢
  have n7 := Yz l q6 [[115], [116]] hl k6 (by decide) (by decide)
  have k7 := xI (xs := [[115], [116]]) k6
  generalize Vh l q6 [[115], [116]] = x7 at *
  obtain ⟨a7, q7⟩ := x7
  simp only at n7 k7 ⊢
  have e1 : IntKind.i64.wrap (1 + a1) = 1 + a1 := Wp (by omega) (by omega)
  have m4 := Qx l q7 4 hl k7
  have s4 := Q1 (l := l) (k := q7) (n := 4) (by omega) (by omega)
  have g4 := aaF s4
  have e4 : IntKind.i64.wrap (1 + (JB l q7 4).1) = 1 + (JB l q7 4).1 := Wp (by omega) (by omega)
  have m5 := Qx l q7 5 hl k7
  have s5 := Q1 (l := l) (k := q7) (n := 5) (by omega) (by omega)
  have e5 : IntKind.i64.wrap (1 + (JB l q7 5).1) = 1 + (JB l q7 5).1 := Wp (by omega) (by omega)
  have mo := Xv l q7 [1024, 2048] hl k7 (by decide) (by decide)
  have ko := vP (xs := [1024, 2048]) k7
  have mp := Qx l (ofD l q7 [1024, 2048]).2 3 hl ko
  have sp := Q1 (l := l) (k := (ofD l q7 [1024, 2048]).2) (n := 3) (by omega) (by omega)
  have ep : IntKind.i64.wrap (100 + (JB l (ofD l q7 [1024, 2048]).2 3).1) = 100 + (JB l (ofD l q7 [1024, 2048]).2 3).1 := Wp (by omega) (by omega)
  have m3 := Qx l q7 3 hl k7
  have mw := Yz l q7 [[97], [98]] hl k7 (by decide) (by decide)
  have w1 : IntKind.i64.wrap 1 = 1 := by decide
  have w2 : IntKind.i64.wrap 2 = 2 := by decide
  have w3 : IntKind.i64.wrap 3 = 3 := by decide
  have w4 : IntKind.i64.wrap 4 = 4 := by decide
  have w5 : IntKind.i64.wrap 5 = 5 := by decide
  have w6 : IntKind.i64.wrap 6 = 6 := by decide
  have w7 : IntKind.i64.wrap 7 = 7 := by decide
  have w8 : IntKind.i64.wrap 8 = 8 := by decide
  simp only [X9, List.map_cons, List.map_nil] at n1 n2 n3 n4 n5 n6 n7 m4 m5 mo mp m3 mw
  obtain rfl | rfl | rfl | rfl | rfl | rfl | rfl | rfl : a6 = 0 ∨ a6 = 1 ∨ a6 = 2 ∨ a6 = 3 ∨ a6 = 4 ∨ a6 = 5 ∨ a6 = 6 ∨ a6 = 7 := by omega
  all_goals
    simp only [ab0, Int.reduceAdd, Int.reduceEq, or_true, true_or, or_self, if_true, if_false, JH.v, JH.cells]
    repeat' (first | refine Qi fun K' hK => ?_ | refine Ql fun K' hK => ?_ | refine Qj ?_ | refine Qk ?_ | refine Qd ?_ | ((first | refine Qn ⟨_, rfl, fun hc => ?_, fun hc => ?_⟩ | refine QV (fun hc => ?_) (fun hc => ?_) | refine QW (fun hc => ?_) (fun hc => ?_)) <;> first | exact Bool.noConfusion hc | ((try simp only [znz] at hc); first | exact znf | skip)) | refine Qq ?_ | refine Qm ?_ | simp (maxSteps := 1000000) only [go_sem, Nat.reduceAdd, Nat.reduceMul, Nat.reduceEqDiff, Nat.reduceLeDiff, Nat.reduceLT, Nat.reduceSub, Int.reduceEq, Int.reduceBEq, Int.reduceLT, Int.reduceLE, Int.reduceAdd, Int.reduceToNat, reduceIte, reduceCtorEq, X9, e1, e4, e5, ep, g4, w1, w2, w3, w4, w5, w6, w7, w8] | (refine hK _ ?_; clear hK; clear K') | refine And.intro ?_ ?_ | (apply y3; (focus exact rfl); (focus first | exact n1 | exact n2 | exact n3 | exact n4 | exact n5 | exact n6 | exact n7 | exact m4 | exact m5 | exact mo | exact mp | exact m3 | exact mw | exact (Qx _ _ _ zsd zsd) | exact (Yz _ _ _ zsd zsd zsd zsd) | exact (Xv _ _ _ zsd zsd zsd zsd)); (focus exact rfl); (focus exact rfl)) | exact zlo | omega | exact zms)
  all_goals first | (refine yR _ rfl rfl (by simp only [V.closed, Qc, and_self, and_true, true_and]) ?_; simp only [go_sem, Nat.reduceEqDiff, Nat.reduceAdd, reduceIte, reduceCtorEq]; done) | trace_state
end Av
end
section
set_option linter.unusedSimpArgs false
set_option linter.unusedVariables false
set_option maxRecDepth 10000
set_option maxHeartbeats 4000000
namespace Av
open Go
attribute [local irreducible] AWp Yd Yy YK awS awC XQ awQ XW Qr Jj XP awR Jk awB okR Yk ris
theorem aa6 (c : UInt8) (hc : ∀ d : Nat, d < 10 → c ≠ UInt8.ofNat (48 + d)) : ∀ (m : Nat) (n : Int), 0 ≤ n → n.toNat = m → c ∉ Lib.itoa n := by
  intro m
  induction m using Nat.strongRecOn with
  | _ m ih =>
    intro n h0 hm
    by_cases h : n < 10
    · rw [wM h0 h]
      simp only [List.mem_singleton]
      exact hc _ (by omega)
    · rw [aa7 (by omega)]
      simp only [List.mem_append, List.mem_singleton, not_or]
      exact ⟨ih (n / 10).toNat (by omega) _ (by omega) rfl, hc _ (by omega)⟩
theorem yJ {n : Int} (h : 0 ≤ n) : (32 : UInt8) ∉ Lib.itoa n := aa6 32 (by decide) _ n h rfl
theorem abH (c : Int) (h : 0 ≤ c ∧ c < 4) : Jx (aaC c).1 (aaC c).2 > 0 ∧ (32 : UInt8) ∉ WY (aaC c).1 (aaC c).2 ∧ (WY (aaC c).1 (aaC c).2).length ≤ 40 := by
  obtain rfl | rfl | rfl | rfl : c = 0 ∨ c = 1 ∨ c = 2 ∨ c = 3 := by omega
  all_goals decide +kernel
theorem abG (b : Int) (h : b ∈ ([1024, 2048] : List Int)) : Jx 5 b > 0 ∧ (32 : UInt8) ∉ WY 5 b ∧ (WY 5 b).length ≤ 40 := by
  simp only [List.mem_cons, List.not_mem_nil, or_false] at h
  rcases h with rfl | rfl
  all_goals decide +kernel
theorem acE : (YR 5).kind = 2 := by decide +kernel
theorem xV {n : Int} (h : 0 ≤ n) (h2 : n ≤ 2147483648) : (Lib.itoa n).length ≤ 40 := Nat.le_trans (Lib.itoa_length_le n (by omega) (by omega)) (by decide)
structure wm (f : JH) : Prop where
  ck : Vf f = true
  ho : f.host ∈ [[97], [98], [99]]
  su : f.subj ∈ [[115], [116]]
  bo : ∀ w ∈ vh f, (32 : UInt8) ∉ w ∧ w.length ≤ 40
  tx : f.text.length ≤ 40
theorem abb (l : List Int) (k : Nat) : wm (wO l k).1 := by
  unfold wO qi
  have r1 := Q1 (l := l) (k := k) (n := 7) (by omega) (by omega)
  generalize JB l k 7 = x1 at *
  obtain ⟨a1, q1⟩ := x1
  have r2 := ql (l := l) (k := q1) (xs := [[97], [98], [99]]) (by decide) (by decide)
  simp only at r1 r2 ⊢
  generalize Vh l q1 [[97], [98], [99]] = x2 at *
  obtain ⟨a2, q2⟩ := x2
  have r3 := xj (l := l) (k := q2) (xs := [0, 1, 2, 0, 3]) (by decide) (by decide)
  simp only at r2 r3 ⊢
  generalize ofD l q2 [0, 1, 2, 0, 3] = x3 at *
  obtain ⟨a3, q3⟩ := x3
  have r4 := Q1 (l := l) (k := q3) (n := 12) (by omega) (by omega)
  simp only at r3 r4 ⊢
  generalize JB l q3 12 = x4 at *
  obtain ⟨a4, q4⟩ := x4
  have r5 := xj (l := l) (k := q4) (xs := [90, 50, 100, 1]) (by decide) (by decide)
  simp only at r4 r5 ⊢
  generalize ofD l q4 [90, 50, 100, 1] = x5 at *
  obtain ⟨a5, q5⟩ := x5
  have r6 := Q1 (l := l) (k := q5) (n := 8) (by omega) (by omega)
  simp only at r5 r6 ⊢
  generalize JB l q5 8 = x6 at *
  obtain ⟨a6, q6⟩ := x6
  have r7 := ql (l := l) (k := q6) (xs := [[115], [116]]) (by decide) (by decide)
  simp only at r6 r7 ⊢
  generalize Vh l q6 [[115], [116]] = x7 at *
  obtain ⟨a7, q7⟩ := x7
  simp only at r7 ⊢
  have h2 : Ye a2 = true := by
    simp only [List.mem_cons, List.not_mem_nil, or_false] at r2
    rcases r2 with rfl | rfl | rfl <;> decide
  have h7 : Ye a7 = true := by
    simp only [List.mem_cons, List.not_mem_nil, or_false] at r7
    rcases r7 with rfl | rfl <;> decide
  have h3 : 0 ≤ a3 ∧ a3 ≤ 3 := by simp only [List.mem_cons, List.not_mem_nil, or_false] at r3; omega
  have h5 : 1 ≤ a5 ∧ a5 ≤ 100 := by simp only [List.mem_cons, List.not_mem_nil, or_false] at r5; omega
  have ck : ∀ f : JH, f.src = 1 + a1 → f.host = a2 → f.mach = a3 → f.day = a4 → f.conf = a5 → f.subj = a7 → X6 f = true → Vf f = true := by
    intro f e1 e2 e3 e4 e5 e6 e7
    simp only [Vf, e1, e2, e3, e4, e5, e6, e7, h2, h7, Bool.and_eq_true, decide_eq_true_eq, Bool.not_eq_true', decide_eq_false_iff_not, true_and, and_true]
    omega
  have s4 := abH _ (Q1 (l := l) (k := q7) (n := 4) (by omega) (by omega))
  have t4 := Q1 (l := l) (k := q7) (n := 4) (by omega) (by omega)
  have t5 := Q1 (l := l) (k := q7) (n := 5) (by omega) (by omega)
  have t3 := Q1 (l := l) (k := q7) (n := 3) (by omega) (by omega)
  have so := abG _ (xj (l := l) (k := q7) (xs := [1024, 2048]) (by decide) (by decide))
  have sp := Q1 (l := l) (k := (ofD l q7 [1024, 2048]).2) (n := 3) (by omega) (by omega)
  have sw := ql (l := l) (k := q7) (xs := [[97], [98]]) (by decide) (by decide)
  have sw2 : Ye (Vh l q7 [[97], [98]]).1 = true ∧ (32 : UInt8) ∉ (Vh l q7 [[97], [98]]).1 ∧ (Vh l q7 [[97], [98]]).1.length ≤ 40 := by
    simp only [List.mem_cons, List.not_mem_nil, or_false] at sw
    rcases sw with e | e <;> rw [e] <;> decide
  obtain rfl | rfl | rfl | rfl | rfl | rfl | rfl | rfl : a6 = 0 ∨ a6 = 1 ∨ a6 = 2 ∨ a6 = 3 ∨ a6 = 4 ∨ a6 = 5 ∨ a6 = 6 ∨ a6 = 7 := by omega
  all_goals simp only [ab0, Int.reduceAdd, Int.reduceEq, or_true, true_or, or_self, if_true, if_false]
  all_goals refine ⟨ck _ rfl rfl rfl rfl rfl rfl ?_, r2, r7, ?_, ?_⟩
  all_goals first
    | exact sw2.2.2
    | exact Nat.zero_le _
    | (simp [X6, yC, s4, so, sw2, acE]; done)
    | (simp [X6, yC, s4, so, sw2, acE]; omega)
    | (intro w hw; simp only [vh, Int.reduceEq, or_true, true_or, or_self, if_true, if_false, List.mem_cons, List.not_mem_nil, or_false] at hw; first | (subst hw; first | exact s4.2 | exact sw2.2 | exact ⟨yJ (by omega), xV (by omega) (by omega)⟩) | (rcases hw with rfl | rfl <;> first | exact so.2 | exact ⟨yJ (by omega), xV (by omega) (by omega)⟩))
    | trace_state
end Av
end
section
set_option linter.unusedSimpArgs false
set_option linter.unusedVariables false
set_option maxRecDepth 10000
set_option maxHeartbeats 4000000
namespace Av
open Go
attribute [local irreducible] AWp Yd Yy YK awS awC XQ awQ XW Qr Jj XP awR Jk awB okR Yk ris
theorem aa8 : ∀ ws : List (List UInt8), (∀ w ∈ ws, w.length ≤ 40) → (([32] : List UInt8).intercalate ws).length ≤ 41 * ws.length
  | [], _ => by simp [List.intercalate]
  | x :: r, h => by
    rw [Kv]
    have hx := h x (by simp)
    have hr : ∀ r : List (List UInt8), (∀ w ∈ r, w.length ≤ 40) → ((r.map fun y => (32 : UInt8) :: y).flatten).length ≤ 41 * r.length := by
      intro r
      induction r with
      | nil => intro _; simp
      | cons y t ih =>
        intro h
        have h1 := h y (by simp)
        have h2 := ih fun w hw => h w (by simp [hw])
        simp only [List.map_cons, List.flatten_cons, List.length_append, List.length_cons]
        omega
    have := hr r fun w hw => h w (by simp [hw])
    simp only [List.length_append, List.length_cons]
    omega
theorem vq (s : List UInt8) : Lib.trimSuffix (s ++ [10]) [10] = s := by
  simp [Lib.trimSuffix, Lib.hasSuffix]
theorem aba (s : List UInt8) : Lib.hasSuffix (s ++ [10]) [10] = true := by
  simp [Lib.hasSuffix]
theorem aa5 (k : Int) (h : 1 ≤ k ∧ k ≤ 8) : (32 : UInt8) ∉ VI Wv k ∧ (VI Wv k).length ≤ 40 := by
  obtain rfl | rfl | rfl | rfl | rfl | rfl | rfl | rfl : k = 1 ∨ k = 2 ∨ k = 3 ∨ k = 4 ∨ k = 5 ∨ k = 6 ∨ k = 7 ∨ k = 8 := by omega
  all_goals decide
theorem v8 {f : JH} (h : wm f) : ∀ w ∈ Ku f, (32 : UInt8) ∉ w ∧ w.length ≤ 40 := by
  obtain ⟨ck, ho, su, bo, -⟩ := h
  obtain ⟨r1, r2, r3, hco, -, -⟩ := qY ck
  obtain ⟨r4, r5⟩ := UO hco
  intro w hw
  simp only [Ku, List.mem_append, List.mem_cons, List.not_mem_nil, or_false] at hw
  rcases hw with ((e | e | e | e | e) | hw) | e
  · rw [e]; exact ⟨yJ (by omega), xV (by omega) (by omega)⟩
  · rw [e]
    generalize f.host = x at ho
    simp only [List.mem_cons, List.not_mem_nil, or_false] at ho
    rcases ho with rfl | rfl | rfl <;> decide
  · rw [e]; exact ⟨yJ (by omega), Nat.le_trans (Lib.itoa_length_le f.mach (by omega) (by omega)) (by decide)⟩
  · rw [e]
    generalize f.subj = x at su
    simp only [List.mem_cons, List.not_mem_nil, or_false] at su
    rcases su with rfl | rfl <;> decide
  · rw [e]; exact aa5 _ r4
  · exact bo w hw
  · rw [e]; exact ⟨yJ (by omega), xV (by omega) (by omega)⟩
theorem aa3 {f : JH} (h : wm f) : (KC f).length ≤ 400 := by
  have h1 := aa8 (Ku f) fun w hw => (v8 h w hw).2
  have h2 : (Ku f).length ≤ 8 := by
    unfold Ku vh
    split
    · simp
    split
    · simp
    split <;> simp
  unfold KC
  simp only [List.length_append, List.length_singleton]
  omega
theorem wK {f : JH} (h : wm f) : Ys 32 (([32] : List UInt8).intercalate (Ku f)) = Ku f := by
  have hl := v8 h
  unfold Ku at hl ⊢
  exact qp 32 _ _ fun w hw => (hl w hw).1
def VB (Kd Jb Wm : Nat) : AC := Qt [] (.reg [mc 0 (V.bool false)]) (Qt [1, 2] (.reg [xo 6 (.call Kd [(.c (V.str [97, 112, 112])), (.c (V.int 3))]), cl 7 Jb [6], mv 5 7, ex 8 5 0, ex 9 5 1, mv 1 8, mv 2 9]) (Qt [1, 2, 4] (.reg [xo 11 (.build [(.slice none 0 0), (.slice none 0 0), (.slice none 0 0)] []), xo 12 (.build [(.int .i64 0), (.int .i64 0), (.int .i64 0)] [(0, 1, (.c (V.int 1)))]), cl 13 Wm [11, 12], mv 10 13, ex 14 10 0, ex 15 10 1, mv 3 14, mv 4 15]) (Qt [0] (.reg [mv 16 2, bc 17 .eql 16 (V.int 0), mv 18 17, mg 19 1 18 true, xg 20 (.bin .eql (.t 19) (.c (V.str [51, 32, 97, 112, 112, 32, 49, 32, 116, 108, 115, 32, 109, 111, 115, 116, 32, 49, 32, 57, 48, 10]))) 18 true, xo 21 (.pick (.t 18) (.t 20) (.c (V.bool false))), mv 22 21, mg 23 4 22 true, xg 24 (.bin .eql (.t 23) (.c (V.int 2))) 22 true, xo 25 (.pick (.t 22) (.t 24) (.c (V.bool false))), mv 0 25]) (.ret)))) def r_law43_awake : List YJ := [.tmp 0]
def W8 (Γ : Env) (f : Nat) : Prop := EvN Γ f [] (V.bool true)
theorem jr {Γ : Env} {f Kd Jb Wm : Nat} (h : Has Γ.P f 26 (VB Kd Jb Wm) r_law43_awake) (yL : KR Γ Kd) (JI : YI Γ Jb) (Ka : W7 Γ Wm) : W8 Γ f := by
  refine QA h (by simp) (by simp only [V.closed, Qc, V.noSl, Jh, and_self, and_true, true_and]) (by simp only [V.closed, Qc, V.noSl, Jh, and_self, and_true, true_and]) fun C hC hm => ?_
  subst hC
  unfold VB
  have hA := (yL [97, 112, 112] 3).b
  have hF := (JI ⟨3, [97, 112, 112], 1, 3, 90, 4, [116, 108, 115], 0, 0, 1, []⟩ ⟨by decide, by decide, by decide⟩ (fun _ => by decide +kernel)).b
  rw [show Vf ⟨3, [97, 112, 112], 1, 3, 90, 4, [116, 108, 115], 0, 0, 1, []⟩ = true by decide +kernel, show KC ⟨3, [97, 112, 112], 1, 3, 90, 4, [116, 108, 115], 0, 0, 1, []⟩ = [51, 32, 97, 112, 112, 32, 49, 32, 116, 108, 115, 32, 109, 111, 115, 116, 32, 49, 32, 57, 48] ++ [10] by decide +kernel] at hF
  simp only [cond_true, JH.v, JH.cells, List.cons_append, List.nil_append] at hA hF
  have hR := Ka.b
  repeat' (first | refine Qi fun K' hK => ?_ | refine Ql fun K' hK => ?_ | refine Qj ?_ | refine Qk ?_ | refine Qd ?_ | ((first | refine Qn ⟨_, rfl, fun hc => ?_, fun hc => ?_⟩ | refine QV (fun hc => ?_) (fun hc => ?_) | refine QW (fun hc => ?_) (fun hc => ?_)) <;> first | exact Bool.noConfusion hc | ((try simp only [znz] at hc); first | exact znf | skip)) | refine Qq ?_ | refine Qm ?_ | simp (maxSteps := 1000000) only [go_sem, Nat.reduceAdd, Nat.reduceMul, Nat.reduceEqDiff, Nat.reduceLeDiff, Nat.reduceLT, Nat.reduceSub, Int.reduceEq, Int.reduceBEq, Int.reduceLT, Int.reduceLE, Int.reduceAdd, Int.reduceToNat, reduceIte, reduceCtorEq] | (refine hK _ ?_; clear hK; clear K') | refine And.intro ?_ ?_ | (apply QY; (focus first | exact hA | exact hF | exact hR | exact (yL zsd _).b | exact (JI _ zsd zsd).b | exact EvN.b Ka)) | exact zlo | omega | exact zms)
  all_goals first | (refine QF _ rfl ?_; simp only [go_sem, Nat.reduceEqDiff, Nat.reduceAdd, reduceIte, reduceCtorEq]; done) | trace_state
def Wb (Γ : Env) (f : Nat) : Prop := ∀ (s p : List UInt8) (hs : s.length < 2 ^ 60), EvN Γ f [V.str s, V.str p] (V.str (Lib.trimSuffix s p))
def Wk (Γ : Env) (f : Nat) : Prop := ∀ (s p : List UInt8) (hs : s.length < 2 ^ 60), EvN Γ f [V.str s, V.str p] (V.bool (Lib.hasSuffix s p))
def JR (Qu QQ : Nat) : List AO := [mv 28 5, bc 29 .eql 28 (V.int 0), mv 30 29, mg 31 4 30 true, xg 32 (.call Qu [(.t 31), (.c (V.str [10]))]) 30 true, xo 33 (.pick (.t 30) (.t 32) (.c (V.bool false))), mv 34 33, mg 35 6 34 true, xg 36 (.lenL (.t 35)) 34 true, mg 37 7 34 true, xg 38 (.bin .eql (.t 36) (.t 37)) 34 true, xo 39 (.pick (.t 34) (.t 38) (.c (V.bool false))), mv 40 39, mg 41 6 40 true, xg 42 (.iaddr 1 (.t 41) (.c (V.int 1))) 40 true, xg 43 (.load false 1 (.t 42)) 40 true, xg 44 (.faddr 1 (.t 3)) 40 true, xg 45 (.load false 1 (.t 44)) 40 true, xg 46 (.bin .eql (.t 43) (.t 45)) 40 true, xo 47 (.pick (.t 40) (.t 46) (.c (V.bool false))), mv 48 47, mg 49 6 48 true, xg 50 (.iaddr 1 (.t 49) (.c (V.int 3))) 48 true, xg 51 (.load false 1 (.t 50)) 48 true, xg 52 (.faddr 6 (.t 3)) 48 true, xg 53 (.load false 1 (.t 52)) 48 true, xg 54 (.bin .eql (.t 51) (.t 53)) 48 true, xo 55 (.pick (.t 48) (.t 54) (.c (V.bool false))), mv 56 55, mg 57 6 56 true, xg 58 (.iaddr 1 (.t 57) (.c (V.int 4))) 56 true, xg 59 (.load false 1 (.t 58)) 56 true, mg 60 8 56 true, xg 61 (.faddr 5 (.t 3)) 56 true, xg 62 (.load false 1 (.t 61)) 56 true, xg 63 (.bin .sub (.t 62) (.c (V.int 1))) 56 true, xg 64 (.iaddr 1 (.t 60) (.t 63)) 56 true, xg 65 (.load false 1 (.t 64)) 56 true, xg 66 (.bin .eql (.t 59) (.t 65)) 56 true, xo 67 (.pick (.t 56) (.t 66) (.c (V.bool false))), mv 68 67, xg 69 (.call QQ []) 68 true, xo 70 (.pick (.t 68) (.t 69) (.c (V.bool false))), mv 2 70]
def JV : List (List Nat) := [[], [0], [1], [2], [3, 2, 2], [2, 4], [5, 4], [6], [7, 6], [6], [8, 9, 6], [6, 10], [11, 6], [12], [13, 12], [14, 12], [12], [16, 12], [15, 17, 12], [12, 18], [19, 12], [20], [21, 20], [22, 20], [20], [24, 20], [23, 25, 20], [20, 26], [27, 20], [28], [29, 28], [30, 28], [28], [28], [33, 28], [34, 28], [32, 35, 28], [36, 28], [31, 37, 28], [28, 38], [39, 28], [40, 40], [40, 41], [42, 41, 0, 1, 2, 3, 4, 5, 6, 7, 8, 9, 10, 11, 12, 13, 14, 15, 16, 17, 18, 19, 20, 21, 22, 23, 24, 25, 26, 27, 28, 29, 30, 31, 32, 33, 34, 35, 36, 37, 38, 39, 40, 41, 42]]
def JQ : OT := .one 0 (.one 1 (.one 2 (.one 3 (.or 4 (.one 5 (.one 6 (.one 7 (.one 8 (.one 9 (.one 10 (.one 11 (.one 12 (.one 13 (.one 14 (.one 15 (.one 16 (.one 17 (.one 18 (.one 19 (.one 20 (.one 21 (.one 22 (.one 23 (.one 24 (.one 25 (.one 26 (.one 27 (.one 28 (.one 29 (.one 30 (.one 31 (.one 32 (.one 33 (.one 34 (.one 35 (.one 36 (.one 37 (.one 38 (.one 39 (.one 40 (.one 41 (.one 42 (.one 43 (.done)))))))))))))))))))))))))))))))))))))))) (.done)))))
def Js (Qu QQ : Nat) : OP := .one 0 false [] (mv 28 5) (.one 1 false [] (bc 29 .eql 28 (V.int 0)) (.one 2 false [] (mv 30 29) (.one 3 false [] (mg 31 4 30 true) (.or 4 false [] (xg 32 (.call Qu [(.t 31), (.c (V.str [10]))]) 30 true) (.one 5 false [4] (xo 33 (.pick (.t 30) (.t 32) (.c (V.bool false)))) (.one 6 false [4] (mv 34 33) (.one 7 false [4] (mg 35 6 34 true) (.one 8 false [4] (xg 36 (.lenL (.t 35)) 34 true) (.one 9 false [4] (mg 37 7 34 true) (.one 10 false [4] (xg 38 (.bin .eql (.t 36) (.t 37)) 34 true) (.one 11 false [4] (xo 39 (.pick (.t 34) (.t 38) (.c (V.bool false)))) (.one 12 false [4] (mv 40 39) (.one 13 false [4] (mg 41 6 40 true) (.one 14 false [4] (xg 42 (.iaddr 1 (.t 41) (.c (V.int 1))) 40 true) (.one 15 false [4] (xg 43 (.load false 1 (.t 42)) 40 true) (.one 16 false [4] (xg 44 (.faddr 1 (.t 3)) 40 true) (.one 17 false [4] (xg 45 (.load false 1 (.t 44)) 40 true) (.one 18 false [4] (xg 46 (.bin .eql (.t 43) (.t 45)) 40 true) (.one 19 false [4] (xo 47 (.pick (.t 40) (.t 46) (.c (V.bool false)))) (.one 20 false [4] (mv 48 47) (.one 21 false [4] (mg 49 6 48 true) (.one 22 false [4] (xg 50 (.iaddr 1 (.t 49) (.c (V.int 3))) 48 true) (.one 23 false [4] (xg 51 (.load false 1 (.t 50)) 48 true) (.one 24 false [4] (xg 52 (.faddr 6 (.t 3)) 48 true) (.one 25 false [4] (xg 53 (.load false 1 (.t 52)) 48 true) (.one 26 false [4] (xg 54 (.bin .eql (.t 51) (.t 53)) 48 true) (.one 27 false [4] (xo 55 (.pick (.t 48) (.t 54) (.c (V.bool false)))) (.one 28 false [4] (mv 56 55) (.one 29 false [4] (mg 57 6 56 true) (.one 30 false [4] (xg 58 (.iaddr 1 (.t 57) (.c (V.int 4))) 56 true) (.one 31 false [4] (xg 59 (.load false 1 (.t 58)) 56 true) (.one 32 false [4] (mg 60 8 56 true) (.one 33 false [4] (xg 61 (.faddr 5 (.t 3)) 56 true) (.one 34 false [4] (xg 62 (.load false 1 (.t 61)) 56 true) (.one 35 false [4] (xg 63 (.bin .sub (.t 62) (.c (V.int 1))) 56 true) (.one 36 false [4] (xg 64 (.iaddr 1 (.t 60) (.t 63)) 56 true) (.one 37 false [4] (xg 65 (.load false 1 (.t 64)) 56 true) (.one 38 false [4] (xg 66 (.bin .eql (.t 59) (.t 65)) 56 true) (.one 39 false [4] (xo 67 (.pick (.t 56) (.t 66) (.c (V.bool false)))) (.one 40 false [4] (mv 68 67) (.one 41 false [4] (xg 69 (.call QQ []) 68 true) (.one 42 false [41, 4] (xo 70 (.pick (.t 68) (.t 69) (.c (V.bool false)))) (.one 43 false [41, 4] (mv 2 70) (.done)))))))))))))))))))))))))))))))))))))))) (.done)))))
theorem Jt (Qu QQ : Nat) : okR (JR Qu QQ) JV [] JQ = true := by kernel_rfl
theorem Jq (Qu QQ : Nat) : Yk (ris (JR Qu QQ) JV []) JQ = Js Qu QQ := by kernel_rfl def c_law43_ReportFindings (WT QQ Vu X3 Jb JP Xw Qu : Nat) : AC := Qt [0] (.reg [mc 2 (V.bool false)]) (Qt [0] (Qt [0, 11] (.reg [mv 9 0, cl 10 WT [9], xo 11 (.un .not (.t 10))]) (.cond (.t 11) (Qt [2] (.reg [cl 12 QQ [], mv 2 12]) (.ret)) (.skip))) (Qt [3] (.reg [mv 13 0, cl 14 Vu [13], cl 15 X3 [14], xo 3 (.alloc [.val (.int .i64 0), .val (.string ⟨#[]⟩), .val (.int .i64 0), .val (.int .i64 0), .val (.int .i64 0), .val (.int .i64 0), .val (.string ⟨#[]⟩), .val (.int .i64 0), .val (.int .i64 0), .val (.int .i64 0), .val (.string ⟨#[]⟩)]), xs 11 3 15]) (Qt [3, 4, 5] (.reg [xo 17 (.load true 11 (.t 3)), cl 18 Jb [17], mv 16 18, ex 19 16 0, ex 20 16 1, mv 4 19, mv 5 20]) (Qt [3, 4, 5, 6] (.reg [mv 21 4, xo 22 (.call JP [(.t 21), (.c (V.str [10]))]), xo 23 (.call Xw [(.t 22), (.c (V.str [32]))]), mv 6 23]) (Qt [3, 4, 5, 6, 7] (.reg [mc 7 (V.int 7)]) (Qt [3, 4, 5, 6, 7] (Qt [3, 4, 5, 6, 7, 26] (.reg [fa 24 5 3, ld 25 1 24, bc 26 .eql 25 (V.int 3)]) (.cond (.t 26) (.reg [mc 7 (V.int 8)]) (.skip))) (Qt [3, 4, 5, 6, 7, 8] (.reg [xo 27 (.bslice 8 1 false [(.string ⟨#[]⟩)] [(0, (.c (V.str [117, 115, 101]))), (1, (.c (V.str [115, 117, 105, 116, 101]))), (2, (.c (V.str [107, 101, 121]))), (3, (.c (V.str [109, 111, 115, 116]))), (4, (.c (V.str [108, 101, 97, 115, 116]))), (5, (.c (V.str [116, 114, 117, 115, 116]))), (6, (.c (V.str [112, 101, 101, 114]))), (7, (.c (V.str [111, 102, 102])))]), mv 8 27]) (Qt [2] (ww [] JQ (Js Qu QQ) (JR Qu QQ) JV) (.ret))))))))) def r_law43_ReportFindings : List YJ := [.tmp 2]
def XK (Γ : Env) (f : Nat) : Prop := ∀ (l : List Int), EvN Γ f [.sl 1 (l.map V.int)] (V.bool true)
theorem Vv {Γ : Env} {f WT QQ Vu X3 Jb JP Xw Qu : Nat} (h : Has Γ.P f 71 (c_law43_ReportFindings WT QQ Vu X3 Jb JP Xw Qu) r_law43_ReportFindings) (KT : VE Γ WT) (Vs : W8 Γ QQ) (Wx : Ud Γ Vu) (YP : WJ Γ X3) (JI : YI Γ Jb) (YM : Wb Γ JP) (Ww : VN Γ Xw) (Y8 : Wk Γ Qu) : XK Γ f := by
  intro l
  refine QA h (by simp) (by simp only [V.closed, Qc, V.noSl, Jh, and_self, and_true, true_and]) (by simp only [V.closed, Qc, V.noSl, Jh, and_self, and_true, true_and]) fun C hC hm => ?_
  subst hC
  unfold c_law43_ReportFindings
  have gA := (Vs).b
  by_cases hlen : l.length ≤ 400
  · have e0 : decide ((l.length : Int) ≤ 400) = true := by simp; omega
    have n1 := Wx l
    have n2 := YP l 0 hlen (Nat.zero_le _)
    have ok := abb l 0
    generalize wO l 0 = u at *
    obtain ⟨f1, k⟩ := u
    simp only at n2 ok
    have hlen2 := aa3 ok
    have hF := (JI f1 ⟨by
      have := ok.ho
      generalize f1.host = x at this
      simp only [List.mem_cons, List.not_mem_nil, or_false] at this
      rcases this with rfl | rfl | rfl <;> decide, by
      have := ok.su
      generalize f1.subj = x at this
      simp only [List.mem_cons, List.not_mem_nil, or_false] at this
      rcases this with rfl | rfl <;> decide, Nat.lt_of_le_of_lt ok.tx (by decide)⟩ (fun _ => by omega)).b
    have hT := (YM (KC f1) [10] (by omega)).b
    have hS := (Ww (([32] : List UInt8).intercalate (Ku f1)) 32 (by unfold KC at hlen2; simp only [List.length_append, List.length_singleton] at hlen2; omega)).b
    have hH := (Y8 (KC f1) [10] (by omega)).b
    rw [ok.ck, cond_true] at hF
    rw [wK ok] at hS
    rw [KC, vq] at hT
    rw [KC, aba] at hH
    rw [KC] at hF
    obtain ⟨-, -, -, hco, -, -⟩ := qY ok.ck
    obtain ⟨r4, -⟩ := UO hco
    clear hco ok hlen2
    generalize ([32] : List UInt8).intercalate (Ku f1) = S at *
    obtain ⟨src, host, mach, day, conf, kind, subj, alg, bits, num, text⟩ := f1
    simp only at r4
    simp only [Ku, JH.v, JH.cells, X9] at *
    generalize Lib.itoa day = sd at *
    generalize Lib.itoa mach = sm at *
    generalize Lib.itoa conf = sc at *
    have w1 : IntKind.i64.wrap (1 - 1) = 0 := by decide
    have w2 : IntKind.i64.wrap (2 - 1) = 1 := by decide
    have w3 : IntKind.i64.wrap (3 - 1) = 2 := by decide
    have w4 : IntKind.i64.wrap (4 - 1) = 3 := by decide
    have w5 : IntKind.i64.wrap (5 - 1) = 4 := by decide
    have w6 : IntKind.i64.wrap (6 - 1) = 5 := by decide
    have w7 : IntKind.i64.wrap (7 - 1) = 6 := by decide
    have w8 : IntKind.i64.wrap (8 - 1) = 7 := by decide
    obtain rfl | rfl | rfl | rfl | rfl | rfl | rfl | rfl : kind = 1 ∨ kind = 2 ∨ kind = 3 ∨ kind = 4 ∨ kind = 5 ∨ kind = 6 ∨ kind = 7 ∨ kind = 8 := by omega
    all_goals
      simp only [vh, Int.reduceEq, or_true, true_or, or_self, if_true, if_false, List.cons_append, List.nil_append, List.map_cons, List.map_nil] at hS
      repeat' (first | refine Qi fun K' hK => ?_ | refine Ql fun K' hK => ?_ | refine QZ 44 (fun _ => true) rfl (Jt _ _) (Jq _ _) fun K' hK => ?_ | refine Q0 44 (fun _ => true) rfl (Jt _ _) (Jq _ _) fun K' hK => ?_ | refine Qj ?_ | refine Qk ?_ | refine Qd ?_ | ((first | refine Qn ⟨_, rfl, fun hc => ?_, fun hc => ?_⟩ | refine QV (fun hc => ?_) (fun hc => ?_) | refine QW (fun hc => ?_) (fun hc => ?_)) <;> first | exact Bool.noConfusion hc | ((try simp only [znz] at hc); first | exact znf | skip)) | refine Qq ?_ | refine Qm ?_ | simp (maxSteps := 1000000) only [go_sem, Nat.reduceAdd, Nat.reduceMul, Nat.reduceEqDiff, Nat.reduceLeDiff, Nat.reduceLT, Nat.reduceSub, Int.reduceEq, Int.reduceBEq, Int.reduceLT, Int.reduceLE, Int.reduceAdd, Int.reduceToNat, reduceIte, reduceCtorEq, e0, w1, w2, w3, w4, w5, w6, w7, w8, Js] | (refine hK _ ?_; clear hK; clear K') | refine And.intro ?_ ?_ | (apply y3; (focus exact rfl); (focus first | exact n2 | exact (YP _ _ zsd zsd)); (focus exact rfl); (focus exact rfl)) | (apply aaw; (focus exact rfl); (focus first | exact rfl | decide); (focus first | exact rfl | decide); (focus first | exact n2 | exact (YP _ _ zsd zsd)); (focus exact rfl); (focus exact rfl); (focus first | exact rfl | decide)) | (apply abD; (focus first | exact n1 | exact (Wx _))) | (apply aav; (focus first | exact n1 | exact (Wx _)); (focus first | exact rfl | decide)) | ((first | apply QY | apply Yg); (focus first | exact gA | exact hF | exact hT | exact hS | exact hH | exact (KT _).b | exact EvN.b Vs | exact (JI _ zsd zsd).b | exact (YM _ _ zsd).b | exact (Ww _ _ zsd).b | exact (Y8 _ _ zsd).b)) | exact zlo | omega | exact zms)
    all_goals first | (refine QF _ rfl ?_; simp only [go_sem, Nat.reduceEqDiff, Nat.reduceAdd, reduceIte, reduceCtorEq]; done) | trace_state
  · have e0 : decide ((l.length : Int) ≤ 400) = false := by simp; omega
    repeat' (first | refine Qi fun K' hK => ?_ | refine Ql fun K' hK => ?_ | refine QZ 44 (fun _ => true) rfl (Jt _ _) (Jq _ _) fun K' hK => ?_ | refine Q0 44 (fun _ => true) rfl (Jt _ _) (Jq _ _) fun K' hK => ?_ | refine Qj ?_ | refine Qk ?_ | refine Qd ?_ | ((first | refine Qn ⟨_, rfl, fun hc => ?_, fun hc => ?_⟩ | refine QV (fun hc => ?_) (fun hc => ?_) | refine QW (fun hc => ?_) (fun hc => ?_)) <;> first | exact Bool.noConfusion hc | ((try simp only [znz] at hc); first | exact znf | skip)) | refine Qq ?_ | refine Qm ?_ | simp (maxSteps := 1000000) only [go_sem, Nat.reduceAdd, Nat.reduceMul, Nat.reduceEqDiff, Nat.reduceLeDiff, Nat.reduceLT, Nat.reduceSub, Int.reduceEq, Int.reduceBEq, Int.reduceLT, Int.reduceLE, Int.reduceAdd, Int.reduceToNat, reduceIte, reduceCtorEq, e0, Js] | (refine hK _ ?_; clear hK; clear K') | refine And.intro ?_ ?_ | (apply y3; (focus exact rfl); (focus first | exact (YP _ _ zsd zsd)); (focus exact rfl); (focus exact rfl)) | (apply aaw; (focus exact rfl); (focus first | exact rfl | decide); (focus first | exact rfl | decide); (focus first | exact (YP _ _ zsd zsd)); (focus exact rfl); (focus exact rfl); (focus first | exact rfl | decide)) | (apply abD; (focus first | exact (Wx _))) | (apply aav; (focus first | exact (Wx _)); (focus first | exact rfl | decide)) | ((first | apply QY | apply Yg); (focus first | exact gA | exact (KT _).b | exact EvN.b Vs | exact (JI _ zsd zsd).b | exact (YM _ _ zsd).b | exact (Ww _ _ zsd).b | exact (Y8 _ _ zsd).b)) | exact zlo | omega | exact zms)
    all_goals first | (refine QF _ rfl ?_; simp only [go_sem, Nat.reduceEqDiff, Nat.reduceAdd, reduceIte, reduceCtorEq]; done) | trace_state
end Av
end

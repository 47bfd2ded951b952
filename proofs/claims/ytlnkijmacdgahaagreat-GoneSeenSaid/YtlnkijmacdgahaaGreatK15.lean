/- K15 -/
import Derived.Test.YtlnkijmacdgahaaGreatK14
import Derived.Test.YtlnkijmacdgahaaGreatK12
import Derived.KernelRfl
set_option linter.unusedVariables false
set_option linter.unusedSimpArgs false
noncomputable section
set_option maxRecDepth 10000
set_option maxHeartbeats 4000000
namespace Av
open Go
attribute [local irreducible] AWp VA K4 jR awS awC aa9 awQ abD QZ V9 aay awR Ug awB okR jL ris
def wd (ahH : Nat) : AC := Yq [1] (.reg [xo 1 (.box true 4 (.t 0)), mc 2 (V.int 0)]) (Yq [1, 3] (.reg [mc 3 (V.int 0)]) (Yq [3] (Yq [3, 7, 8, 9] (.reg [fa 6 3 1, ld 7 1 6, ln 8 7, mc 9 (V.int 0)]) (.block 0 (abl [3, 7, 8, 9] (Yq [3, 7, 8, 9, 10] (.reg [bn 10 .lss 9 8]) (Yq [3, 7, 8, 9] (.cond (.t 10) .skip (.exit 0)) (Yq [3, 7, 8, 9] (.block 1 (Yq [3, 5, 7, 8, 9] (.reg [ia 11 4 7 9, xo 12 (.load true 4 (.t 11)), xo 5 (.alloc [.val vi0, .nil 1, .val (.bool false), .nil 4]), xs 4 5 12]) (.reg [mv 13 3, xo 14 (.load true 4 (.t 5)), cl 15 ahH [14], xo 16 (.mm true [(.t 13), (.t 15)]), mv 3 16]))) (.reg [bc 17 .add 9 (V.int 1), mv 9 17]))))))) (Yq [2] (.reg [mv 18 3, bc 19 .add 18 (V.int 1), mv 2 19]) .ret))) def r_der_depth : List Vz := [.tmp 2]
def yP (Γ : Env) (f : Nat) : Prop := ∀ (x : Ql) (hx : x.siz < 2 ^ 40), EvN Γ f [x.v] (V.int x.dep)
attribute [local go_sem] Ql.v_eq JY in
theorem ago {Γ : Env} {f : Nat} (h : Has Γ.P f 20 (wd f) r_der_depth)  : yP Γ f := by
  suffices H : ∀ (kk : Nat), ∀ (x : Ql) (hx : x.siz < 2 ^ 40), x.siz < kk → EvN Γ f [x.v] (V.int x.dep) from fun x hx => H _ x hx (Nat.lt_succ_self _)
  intro kk; induction kk with
  | zero => intros; rename_i hk; exact absurd hk (Nat.not_lt_zero _)
  | succ kk ih =>
  intro x hx hk
  refine Qb h zsi zcl zcl fun C hC hm => ?_
  subst hC
  unfold wd
  obtain ⟨t, b, n, es⟩ := x
  simp only [Ql.v_eq, Ql.dep]
  have hsz : xh es < (Ql.mk t b n es).siz := by rw [Ql.siz]; omega
  have hle := qS es
  have hdl := abV es
  have hwe : IntKind.i64.wrap ((afl es : Int) + 1) = ((afl es + 1 : Nat) : Int) := Qg (by omega)
  have hlm : (es.map Ql.v).length = es.length := List.length_map _
  refine zgo ?_; repeat' first | exact zt | apply zan | intro hc
  refine Qp (ι := Nat × Nat) (fun q => q.1 ≤ es.length ∧ max q.2 (afl (es.drop q.1)) = afl es) (fun q => JY [(3, V.int q.2), (7, .sl 4 (es.map Ql.v)), (8, V.int es.length), (9, V.int q.1)] [] 0) (fun q => es.length - q.1) (0, 0) ⟨Nat.zero_le _, by simp⟩ (Qd []) (Qh [] (by simp only [go_sem, zwl, Nat.reduceAdd, Nat.reduceMul, Nat.reduceEqDiff, Nat.reduceLT, Int.reduceToNat, reduceIte, reduceCtorEq, hlm] <;> exact zcc) zwa (by simp [Qd]) (by simp) (by omega)) fun q hq K' hL => ?_
  obtain ⟨k, d⟩ := q
  simp only at hq hL ⊢
  obtain ⟨hk, hinv⟩ := hq
  rcases hd : es.drop k with _ | ⟨y, r⟩
  · have hkl := QB hd
    have e1 : decide ((k : Int) < (es.length : Int)) = false := by simp; omega
    rw [hd] at hinv
    have hde : d = afl es := by rw [← hinv, afl]; omega
    subst hde
    (have zx := And.intro e1 hwe); exact zg
  · obtain ⟨hk', hget, hr⟩ := Qo hd
    rw [hd] at hinv
    have hw := Qg (k := k) (by omega)
    have e1 : decide ((k : Int) < (es.length : Int)) = true := by simp; omega
    have hys := j0 hget
    obtain ⟨yt, yb, yn, ye⟩ := y
    have hi := (ih (.mk yt yb yn ye) (by omega) (by omega)).b
    rw [Ql.v_eq] at hi
    have hmx : (if (d : Int) < (((Ql.mk yt yb yn ye).dep : Nat) : Int) then (((Ql.mk yt yb yn ye).dep : Nat) : Int) else (d : Int)) = ((max d (Ql.mk yt yb yn ye).dep : Nat) : Int) := by split <;> omega
    have hsk : ([V.int ((Ql.mk yt yb yn ye).dep : Nat)].all (VP IntKind.i64)) = true := rfl
    (have zx := And.intro e1 (And.intro hw (And.intro hget (And.intro hmx hsk)))); refine zgo ?_; repeat' first | exact zt | apply zan | intro hc
    all_goals first | exact hL _ (k + 1, max d (Ql.mk yt yb yn ye).dep) (Qd []) ⟨hk', by rw [hr, ← hinv]; simp only [afl]; omega⟩ (by simp only; omega) (zwg []) | trace_state
def X5 := qd Proofs.Tryz.f103 []
def Vu (Γ : Env) (f : Nat) : Prop := ∀ (b : List UInt8) (hb : b.length < 2 ^ 60), EvN Γ f [.sl 1 (JC b)] (V.int (Us b))
attribute [local go_sem] JY in
theorem vA {Γ : Env} {f : Nat} (h : Has Γ.P f 20 X5.1.1.ac X5.1.2)  : Vu Γ f := by
  intro b hb
  refine Qb h zsi zcl zcl fun C hC hm => ?_
  subst hC
  simp only [X5, qd, DC.ac]
  have hln : (JC b).length = b.length := Xn b
  have hst : ∀ h c, vX h c = IntKind.u32.wrap (IntKind.u32.wrap ((BitVec.ofInt IntKind.u32.bits h ^^^ BitVec.ofInt IntKind.u32.bits (IntKind.u32.wrap (c.toNat : Int))).toNat : Nat) * 16777619) := fun _ _ => rfl
  (have zx := hln); refine zgo ?_; repeat' first | exact zt | apply zan | intro hc
  refine Qp (ι := Nat × Int) (fun q => q.1 ≤ b.length ∧ aem q.2 (b.drop q.1) = aem 2166136261 b) (fun q => JY [(3, .sc (.int .u32 q.2)), (6, .sl 1 (JC b)), (7, V.int b.length), (8, V.int q.1)] [] 0) (fun q => b.length - q.1) (0, 2166136261) ⟨Nat.zero_le _, rfl⟩ (Qd []) (zwg []) fun q hq K' hL => ?_
  obtain ⟨k, h⟩ := q
  simp only at hq hL ⊢
  obtain ⟨hk, hinv⟩ := hq
  rcases hd : b.drop k with _ | ⟨y, r⟩
  · have hkl := QB hd
    have e1 : decide ((k : Int) < ((b.length : Nat) : Int)) = false := by simp; omega
    rw [hd] at hinv
    have hs : Us b = IntKind.i64.wrap h := by rw [Us, ← hinv]; rfl
    rw [hs]
    (have zx := And.intro hln e1); exact zg
  · obtain ⟨hk', hget, hr⟩ := Qo hd
    have hw := Qg (k := k) (by omega)
    have e1 : decide ((k : Int) < ((b.length : Nat) : Int)) = true := by simp; omega
    have hg2 : (JC b)[k]? = some (.sc (.int .u8 y.toNat)) := by rw [List.getElem?_map, hget]; rfl
    rw [hd] at hinv
    repeat' (first | (refine zsk ?_; intro K' hK) | refine zsp ?_ | (refine zsc ?_ ?_ <;> intro hc <;> first | exact znh | try simp only [znz] at hc) | simp (maxSteps := 1000000) only [go_sem, Nat.reduceAdd, Nat.reduceMul, Nat.reduceEqDiff, Nat.reduceLeDiff, Nat.reduceLT, Nat.reduceSub, Int.reduceEq, Int.reduceBEq, Int.reduceLT, Int.reduceLE, Int.reduceAdd, Int.reduceToNat, reduceIte, reduceCtorEq, JY, hln, e1, hw, Int.toNat_natCast, hg2, ← hst] | (refine hK _ ?_; clear hK K') | apply zan | exact zsq | fail)
    all_goals first | exact hL _ (k + 1, vX h y) (Qd []) ⟨hk', by rw [hr, ← hinv]; rfl⟩ (by simp only; omega) (zwg []) | trace_state
def jh (n : Nat) : Nat := if n < 256 then 1 else 2
theorem ajN {n : Nat} (h1 : 128 ≤ n) (h2 : n < 65536) : aaZ n = u8i ((128 + jh n : Nat) : Int) :: (if n < 256 then [u8i (n : Int)] else [u8i ((n / 256 : Nat) : Int), u8i (n : Int)]) := by
  have hu : ∀ m : Nat, u8i ((m % 256 : Nat) : Int) = u8i (m : Int) := fun m => by
    unfold u8i; congr 2; omega
  rw [aaZ, if_neg (by omega), beB, jh]
  by_cases h : n < 256
  · rw [if_pos h, if_pos h]
    have hb : ah2 8 n [] = [u8i (n : Int)] := by
      rw [ah2, if_neg (by omega), ah2, if_pos (by omega), hu]
    rw [hb]; rfl
  · rw [if_neg h, if_neg h]
    have hb : ah2 8 n [] = [u8i ((n / 256 : Nat) : Int), u8i (n : Int)] := by
      rw [ah2, if_neg (by omega), ah2, if_neg (by omega), ah2, if_pos (by omega), hu, hu]
    rw [hb]; rfl
def tlN (n : Nat) : List UInt8 := if n < 256 then [u8i (n : Int)] else [u8i ((n / 256 : Nat) : Int), u8i (n : Int)]
theorem aoj (n : Nat) : (tlN n).length = jh n := by unfold tlN jh; split <;> rfl
theorem aok {n t : Nat} (h : t < jh n) : (tlN n)[t]? = some (u8i ((n / 256 ^ (jh n - 1 - t) : Nat) : Int)) := by
  unfold tlN jh at *
  split at h
  · obtain rfl : t = 0 := by omega
    rename_i h1; simp [h1]
  · rename_i h1
    have : t = 0 ∨ t = 1 := by omega
    rcases this with rfl | rfl <;> simp [h1]
def alQ (n t : Nat) (xs : List V) : St := JY [(0, .hd 1 0 (xs.length + 1 + t)), (1, V.int n), (7, V.int ((jh n : Int) - 1 - (t : Int)))] [(0, .dead), (1, .buf true 1 (xs ++ JC (u8i ((128 + jh n : Nat) : Int) :: (tlN n).take t)))] 2
def alR (n k : Nat) (xs : List V) : St := JY [(0, .hd 0 0 xs.length), (1, V.int n), (5, V.int k), (6, V.int (n / 256 ^ k : Nat))] [(0, .buf true 1 xs)] 1
def KS := qd Proofs.Tryz.f205 []
def jG (Γ : Env) (f : Nat) : Prop := ∀ (xs : List V) (n : Nat), n < 65536 → xs.length < 2 ^ 39 → EvI Γ f [V.int n] 1 xs (xs ++ JC (aaZ n))
attribute [local go_sem] JY in
theorem aeW {Γ : Env} {f : Nat} (h : Has Γ.P f 43 KS.1.1.ac KS.1.2)  : jG Γ f := by
  intro xs n hn hxs
  refine jg h (by simp) fun C hC hm => ?_
  subst hC
  simp only [KS, qd, DC.ac]
  have hu := Ky
  have htx : List.take xs.length xs = xs := List.take_length
  by_cases h1 : n < 128
  · have e1 : decide ((n : Int) < 128) = true := by simp; omega
    have hl : aaZ n = [u8i n] := by rw [aaZ, if_pos h1]
    rw [hl]
    (have zx := And.intro e1 (And.intro hu htx)); refine zgo ?_; repeat' first | exact zt | apply zan | intro hc
    all_goals first | (refine ags _ _ rfl ⟨_, rfl⟩ rfl (by omega) rfl ?_; first | rfl | (simp; done)) | trace_state
  · have e1 : decide ((n : Int) < 128) = false := by simp; omega
    (have zx := e1); refine zgo ?_; repeat' first | exact zt | apply zan | intro hc
    refine Qp (ι := Nat) (fun k => k ≤ jh n) (fun k => alR n k xs) (fun k => 2 - k) 0 (Nat.zero_le _) (Qd []) (Qh [] (by simp only [go_sem, zwl, Nat.reduceAdd, Nat.reduceMul, Nat.reduceEqDiff, Nat.reduceLT, Int.reduceToNat, reduceIte, reduceCtorEq, alR, Nat.pow_zero, Nat.div_one] <;> exact zcc) (by simp only [go_sem, zwl, Nat.reduceAdd, Nat.reduceMul, Nat.reduceEqDiff, Nat.reduceLT, Int.reduceToNat, reduceIte, reduceCtorEq, alR] <;> exact zcc) (by simp [alR, Qd]) (by simp [alR]) (by omega)) fun k hk K' hL => ?_
    have hc2 : jh n = 1 ∨ jh n = 2 := by unfold jh; split <;> omega
    have hcn : (jh n = 1 ↔ n < 256) := by unfold jh; split <;> omega
    have hk3 : k = 0 ∨ k = 1 ∨ k = 2 := by omega
    have s8 : (8 : Int).toNat ≤ IntKind.i64.bits := by decide
    have s9 : (2 : Int) ^ 8 = 256 := by decide
    by_cases hm0 : n / 256 ^ k = 0
    rotate_left
    · have hkc : k < jh n := by
        rcases hk3 with rfl | rfl | rfl
        · omega
        · rw [Nat.pow_one] at hm0; omega
        · rw [show 256 ^ 2 = 65536 by decide] at hm0; omega
      have e2 : decide (((n / 256 ^ k : Nat) : Int) > 0) = true := by
        have : 0 < n / 256 ^ k := Nat.pos_of_ne_zero hm0
        exact decide_eq_true (by omega)
      have hw := Qg (k := k) (by omega)
      have hdv : (((n / 256 ^ k : Nat) : Int)).fdiv 256 = ((n / 256 ^ (k + 1) : Nat) : Int) := by
        rw [Int.fdiv_eq_ediv_of_nonneg _ (by decide), Nat.pow_succ, ← Nat.div_div_eq_div_mul]; rfl
      simp only [alR]
      (have zx := And.intro e2 (And.intro hw (And.intro s8 (And.intro s9 hdv)))); refine zgo ?_; repeat' first | exact zt | apply zan | intro hc
      all_goals first | exact hL _ (k + 1) (Qd []) (by omega) (by omega) (Qh [] (by simp only [go_sem, zwl, Nat.reduceAdd, Nat.reduceMul, Nat.reduceEqDiff, Nat.reduceLT, Int.reduceToNat, reduceIte, reduceCtorEq, alR] <;> exact zcc) (by simp only [go_sem, zwl, Nat.reduceAdd, Nat.reduceMul, Nat.reduceEqDiff, Nat.reduceLT, Int.reduceToNat, reduceIte, reduceCtorEq, alR] <;> exact zcc) (by simp [alR, Qd]) (by simp [alR]) (by omega)) | trace_state
    have hkc : k = jh n := by
      rcases hk3 with rfl | rfl | rfl
      · rw [Nat.pow_zero, Nat.div_one] at hm0; omega
      · rw [Nat.pow_one] at hm0; omega
      · omega
    subst hkc
    clear hL
    have e2 : decide (((n / 256 ^ (jh n) : Nat) : Int) > 0) = false := by rw [hm0]; rfl
    have hw1 : IntKind.i64.wrap (128 + (jh n : Int)) = ((128 + jh n : Nat) : Int) := by rw [QE (by omega) (by omega)]; omega
    have hw2 : IntKind.i64.wrap ((jh n : Int) - 1) = (jh n : Int) - 1 := QE (by omega) (by omega)
    simp only [alR]
    (have zx := And.intro e2 (And.intro hw1 (And.intro hw2 (And.intro hu htx)))); refine zgo ?_; repeat' first | exact zt | apply zan | intro hc
    have h0t : (jh n : Int) - 1 - ((0 : Nat) : Int) = (jh n : Int) - 1 := by omega
    refine Qp (ι := Nat) (fun t => t ≤ jh n) (fun t => alQ n t xs) (fun t => jh n - t) 0 (Nat.zero_le _) (Qd [(1, 7001)]) (Qh [(1, 7001)] (by simp only [go_sem, zwl, Nat.reduceAdd, Nat.reduceMul, Nat.reduceEqDiff, Nat.reduceLT, Int.reduceToNat, reduceIte, reduceCtorEq, alQ, h0t, Int.sub_zero, Nat.add_zero] <;> exact zcc) (by simp only [go_sem, zwl, Nat.reduceAdd, Nat.reduceMul, Nat.reduceEqDiff, Nat.reduceLT, Int.reduceToNat, reduceIte, reduceCtorEq, alQ, List.take_zero, JC, List.map_cons, List.map_nil] <;> exact zcc) (by simp [alQ, Qd]) (by simp [alQ]; omega) (by omega)) fun t ht K' hL => ?_
    have htl := aoj n
    by_cases hte : t = jh n
    · subst hte
      have e3 : decide (((jh n : Int) - 1 - (jh n : Int)) ≥ 0) = false := by simp; omega
      have hfin : xs ++ JC (u8i ((128 + jh n : Nat) : Int) :: (tlN n).take (jh n)) = xs ++ JC (aaZ n) := by
        rw [ajN (by omega) hn, List.take_of_length_le (by omega)]; rfl
      simp only [alQ, hfin]
      have hlf := congrArg List.length hfin
      have hlf2 : xs.length + 1 + jh n = (xs ++ JC (aaZ n)).length := by rw [← hlf]; simp [JC, htl]; omega
      clear hL
      (have zx := e3); refine zgo ?_; repeat' first | exact zt | apply zan | intro hc
      all_goals first | (refine ags _ _ rfl ⟨_, rfl⟩ rfl (by omega) rfl ?_; exact hlf2) | trace_state
    obtain ⟨i, hi⟩ : ∃ i : Nat, i = jh n - 1 - t := ⟨_, rfl⟩
    have hi2 : i = 0 ∨ i = 1 := by omega
    have hic : (jh n : Int) - 1 - (t : Int) = (i : Int) := by omega
    have hnx := aok (n := n) (t := t) (by omega)
    rw [← hi] at hnx
    have hta : xs ++ JC (u8i ((128 + jh n : Nat) : Int) :: (tlN n).take (t + 1)) = (xs ++ JC (u8i ((128 + jh n : Nat) : Int) :: (tlN n).take t)) ++ [V.sc (.int .u8 (u8i ((n / 256 ^ i : Nat) : Int)).toNat)] := by
      rw [List.take_add_one, hnx]; simp [JC]
    have hlt : (xs ++ JC (u8i ((128 + jh n : Nat) : Int) :: (tlN n).take t)).length = xs.length + 1 + t := by
      simp [JC, htl]; omega
    have g1 : decide ((i : Int) ≥ 0) = true := by simp
    have g2 : IntKind.i64.wrap (8 * (i : Int)) = 8 * (i : Int) := QE (by omega) (by omega)
    have g3 : (0 : Int) ≤ 8 * (i : Int) := by omega
    have g4 : (8 * (i : Int)).toNat ≤ 64 := by omega
    have g5 : IntKind.u8.wrap ((n : Int).fdiv (2 ^ (8 * (i : Int)).toNat)) = ((u8i ((n / 256 ^ i : Nat) : Int)).toNat : Int) := by
      rw [Ky]; rcases hi2 with rfl | rfl
      · simp
      · rw [show (8 * ((1 : Nat) : Int)).toNat = 8 from rfl, show (2 : Int) ^ 8 = 256 by decide, Int.fdiv_eq_ediv_of_nonneg _ (by decide), Nat.pow_one]; rfl
    have g6 : IntKind.i64.wrap ((i : Int) - 1) = (jh n : Int) - 1 - ((t + 1 : Nat) : Int) := by rw [QE (by omega) (by omega)]; omega
    simp only [alQ, hic]
    generalize xs ++ JC (u8i ((128 + jh n : Nat) : Int) :: (tlN n).take t) = out at *
    have hto : List.take (xs.length + 1 + t) out = out := List.take_of_length_le (by omega)
    have hta2 := hta
    simp only [JC, List.map_cons] at hta2
    have q1 : (xs.length + 1 + t + 1) * 1 ≤ 2 ^ 40 := by omega
    have q2 : xs.length + 1 + t + 1 ≤ 2 ^ 40 := by omega
    (have zx := And.intro g1 (And.intro g2 (And.intro g3 (And.intro g4 (And.intro g5 (And.intro g6 (And.intro hlt (And.intro hto (And.intro q1 q2))))))))); refine zgo ?_; repeat' first | exact zt | apply zan | intro hc
    all_goals first | omega | exact hL _ (t + 1) (Qd [(1, 9002)]) (by omega) (by omega) (Qh [(1, 9002)] (by simp only [go_sem, zwl, Nat.reduceAdd, Nat.reduceMul, Nat.reduceEqDiff, Nat.reduceLT, Int.reduceToNat, reduceIte, reduceCtorEq, alQ, ← Nat.add_assoc] <;> exact zcc) (by simp only [go_sem, zwl, Nat.reduceAdd, Nat.reduceMul, Nat.reduceEqDiff, Nat.reduceLT, Int.reduceToNat, reduceIte, reduceCtorEq, alQ, hta, hta2] <;> exact zcc) (by simp [alQ, Qd]) (by simp [alQ]; omega) (by omega)) | trace_state
def Ql.eL : Ql → List Ql
  | .mk _ _ _ es => es
def Ql.cB : Ql → List UInt8
  | .mk _ b _ es => b ++ pL es
theorem aqf {es : List Ql} {y : Ql} (h : fL es = true) (hy : y ∈ es) : y.fB = true := by
  induction es with
  | nil => cases hy
  | cons x r ih =>
    rw [fL, Bool.and_eq_true] at h
    rcases List.mem_cons.1 hy with rfl | hy
    · exact h.1
    · exact ih h.2 hy
theorem apX {es : List Ql} {y : Ql} (hy : y ∈ es) : y.pB.length ≤ (pL es).length := by
  induction es with
  | nil => cases hy
  | cons x r ih =>
    rw [pL, List.length_append]
    rcases List.mem_cons.1 hy with rfl | hy
    · omega
    · have := ih hy; omega
theorem ahk (es : List Ql) (k : Nat) : (pL (es.take k)).length ≤ (pL es).length := by
  induction es generalizing k with
  | nil => simp [pL]
  | cons x r ih =>
    cases k with
    | zero => simp [pL]
    | succ k => have := ih k; rw [List.take_succ_cons, pL, pL, List.length_append, List.length_append]; omega
def aqS (Γ : Env) (e : Nat) (y : Ql) : Prop := ∀ xs : List UInt8, xs.length < 2 ^ 38 → EvI Γ e [y.v] 1 (JC xs) (JC (xs ++ y.pB))
def dcS (es : List Ql) (k : Nat) : St := JY [(3, .hd 0 0 (pL (es.take k)).length), (12, .sl 4 (es.map Ql.v)), (13, V.int es.length), (14, V.int k)] [(0, .buf true 1 (JC (pL (es.take k))))] 1
def Wm (jd : Nat) : AC := Yq [1] (.reg [xo 1 (.box true 4 (.t 0)), xo 2 (.mknil 1)]) (Yq [1] (Yq [1, 8] (.reg [fa 6 2 1, ld 7 1 6, xo 8 (.un .not (.t 7))]) (.cond (.t 8) (Yq [2] (.reg [fa 9 1 1, ld 10 1 9, mv 2 10]) .ret) .skip)) (Yq [1, 3] (.reg [xo 3 (.mknil 1)]) (Yq [3] (Yq [3, 12, 13, 14] (.reg [fa 11 3 1, ld 12 1 11, ln 13 12, mc 14 (V.int 0)]) (.block 0 (abl [3, 12, 13, 14] (Yq [3, 12, 13, 14, 15] (.reg [bn 15 .lss 14 13]) (Yq [3, 12, 13, 14] (.cond (.t 15) .skip (.exit 0)) (Yq [3, 12, 13, 14] (.block 1 (Yq [3, 5, 12, 13, 14] (.reg [ia 16 4 12 14, xo 17 (.load true 4 (.t 16)), xo 5 (.alloc [.val vi0, .nil 1, .val (.bool false), .nil 4]), xs 4 5 17]) (.reg [mv 18 3, xo 19 (.load true 4 (.t 5)), cl 20 jd [18, 19], mv 3 20]))) (.reg [bc 21 .add 14 (V.int 1), mv 14 21]))))))) (Yq [2] (.reg [mv 22 3, mv 2 22]) .ret)))) def r_der_contents : List Vz := [.tmp 2]
def Km (Γ : Env) (f : Nat) : Prop := ∀ (e : Nat), Has Γ.P f 23 (Wm e) r_der_contents → ∀ x : Ql, x.fB = true → x.siz < 2 ^ 35 → x.pB.length < 65536 → (∀ y ∈ x.eL, aqS Γ e y) → EvC Γ f [x.v] (.sl 1 (JC x.cB))
attribute [local go_sem] JY in
theorem acI {Γ : Env} {f jd : Nat} (h : Has Γ.P f 23 (Wm jd) r_der_contents)  : Km Γ f := by
  clear h
  intro e h x hf hx hp he
  refine Qm h (by simp) (by simp only [V.closed]) fun C hC hm => ?_
  subst hC
  unfold Wm
  obtain ⟨t, b, n, es⟩ := x
  have hss : (Ql.mk t b n es).siz = 1 + b.length + xh es := by rw [Ql.siz]
  have hle := qS es
  simp only [Ql.v_eq, Ql.cB]
  rw [Ql.fB, Bool.and_eq_true] at hf
  obtain ⟨hh, hfl⟩ := hf
  simp only [Ql.eL] at he
  have hpp : (pL es).length < 65536 := by
    rw [Ql.pB, List.length_cons, List.length_append, List.length_append] at hp; omega
  simp only [hdB, Bool.and_eq_true, Bool.not_eq_true', Bool.and_eq_false_iff, Bool.not_eq_false', decide_eq_false_iff_not] at hh
  obtain ⟨_, _, hb, hn⟩ := hh
  rcases n with _ | _
  · have hes : es = [] := by
      rcases hn with hn | hn
      · cases hn
      · exact List.length_eq_zero_iff.1 (by omega)
    subst hes
    have e0 : b ++ pL [] = b := by simp [pL]
    rw [e0]
    exact zg
  · have hbn : b = [] := by
      rcases hb with hb | hb
      · cases hb
      · exact List.length_eq_zero_iff.1 (by omega)
    subst hbn
    rw [List.nil_append]
    have hlm : (es.map Ql.v).length = es.length := List.length_map _
    refine zgo ?_; repeat' first | exact zt | apply zan | intro hc
    refine Qp (ι := Nat) (fun k => k ≤ es.length) (fun k => dcS es k) (fun k => es.length - k) 0 (Nat.zero_le _) (Qd [(0, 5000)]) (Qh [(0, 5000)] (by simp only [go_sem, zwl, Nat.reduceAdd, Nat.reduceMul, Nat.reduceEqDiff, Nat.reduceLT, Int.reduceToNat, reduceIte, reduceCtorEq, dcS, hlm, List.take_zero, pL, List.length_nil] <;> exact zcc) (by simp only [go_sem, zwl, Nat.reduceAdd, Nat.reduceMul, Nat.reduceEqDiff, Nat.reduceLT, Int.reduceToNat, reduceIte, reduceCtorEq, dcS, List.take_zero, pL, JC, List.map_nil] <;> exact zcc) (by simp [dcS, Qd]) (by simp [dcS]; omega) (by omega)) fun k hk K' hL => ?_
    rcases hd : es.drop k with _ | ⟨y, r⟩
    · have hkl := QB hd
      have e1 : decide ((k : Int) < (es.length : Int)) = false := by simp; omega
      rw [dcS, List.take_of_length_le hkl]
      have htk := VO (pL es)
      (have zx := e1); refine zgo ?_; repeat' first | exact zt | apply zan | intro hc
      all_goals first | (refine Qi _ rfl ?_; simp only [go_sem, Nat.reduceEqDiff, Nat.reduceAdd, reduceIte, reduceCtorEq, List.drop_zero, JC, htk]; done) | (refine Qi _ rfl ?_; simp only [go_sem, Nat.reduceEqDiff, Nat.reduceAdd, reduceIte, reduceCtorEq]; trace_state)
    · obtain ⟨hk', hget, hr⟩ := Qo hd
      have hw := Qg (k := k) (by omega)
      have e1 : decide ((k : Int) < (es.length : Int)) = true := by simp; omega
      have hpt := ahk es k
      have htk := akL hget
      have hI := he y (List.mem_of_getElem? hget) (pL (es.take k)) (by omega)
      rw [← htk] at hI
      obtain ⟨yt, yb, yn, ye⟩ := y
      rw [Ql.v_eq] at hI
      have hl0 := Xn (pL (es.take k))
      have hl1 := Xn (pL (es.take (k + 1)))
      simp only [dcS]
      repeat' (first | (refine zsk ?_; intro K' hK) | refine zsp ?_ | (refine zsc ?_ ?_ <;> intro hc <;> first | exact znh | try simp only [znz] at hc) | simp (maxSteps := 1000000) only [go_sem, Nat.reduceAdd, Nat.reduceMul, Nat.reduceEqDiff, Nat.reduceLeDiff, Nat.reduceLT, Nat.reduceSub, Int.reduceEq, Int.reduceBEq, Int.reduceLT, Int.reduceLE, Int.reduceAdd, Int.reduceToNat, reduceIte, reduceCtorEq, JY, e1, hw, Int.toNat_natCast, List.getElem?_map, hget, Ql.v_eq, hl0, hl1] | (refine hK _ ?_; clear hK K') | apply zan | (apply aba; (focus exact rfl); (focus first | exact hI); (focus exact rfl); (focus exact rfl); (focus (first | exact rfl | (simp; done)))) | (apply yB; (focus exact rfl); (focus exact rfl); (focus first | exact hI); (focus exact rfl); (focus (first | exact rfl | (simp; done))); (focus (first | exact rfl | (simp; done)))) | exact zsq | fail)
      all_goals exact hL _ (k + 1) (Qd [(0, 7001)]) hk' (by omega) (Qh [(0, 7001)] (by simp only [go_sem, zwl, Nat.reduceAdd, Nat.reduceMul, Nat.reduceEqDiff, Nat.reduceLT, Int.reduceToNat, reduceIte, reduceCtorEq, dcS] <;> exact zcc) (by simp only [go_sem, zwl, Nat.reduceAdd, Nat.reduceMul, Nat.reduceEqDiff, Nat.reduceLT, Int.reduceToNat, reduceIte, reduceCtorEq, dcS] <;> exact zcc) (by simp [dcS, Qd]) (by simp [dcS]; omega) (by omega))
def jq (Y5 KD : Nat) : AC := Yq [0, 3] (.reg [xo 3 (.box true 4 (.t 1)), xo 4 (.mknil 1)]) (Yq [0, 3, 5] (.reg [xo 6 (.load true 4 (.t 3)), cl 7 Y5 [6], mv 5 7]) (Yq [4] (.reg [mv 8 0, fa 9 0 3, ld 10 1 9, xo 11 (.convI .u8 (.t 10)), xo 12 (.bslice 1 1 false [(.int .u8 0)] [(0, (.t 11))]), xo 13 (.append 1 1 [(.int .u8 0)] (.t 8) (.t 12)), mv 14 5, ln 15 14, cl 16 KD [13, 15], mv 17 5, xo 18 (.append 1 1 [(.int .u8 0)] (.t 16) (.t 17)), mv 4 18]) .ret)) def r_der_element : List Vz := [.tmp 4]
def qr (Γ : Env) (f : Nat) : Prop := ∀ x : Ql, x.fB = true → x.siz < 2 ^ 35 → x.pB.length < 65536 → aqS Γ f x ∧ EvW Γ f [aq5, x.v] 1 (JC x.pB)
theorem adp {Γ : Env} {f Y5 KD : Nat} (h : Has Γ.P f 19 (jq Y5 KD) r_der_element) (z0 : Km Γ Y5) (z1 : jG Γ KD) (hH_der_contents : Has Γ.P Y5 23 (Wm f) r_der_contents) : qr Γ f := by
  have H : ∀ (kk : Nat) (x : Ql), x.siz < kk → x.fB = true → x.siz < 2 ^ 35 → x.pB.length < 65536 → EvC Γ Y5 [x.v] (.sl 1 (JC x.cB)) ∧ aqS Γ f x := by
    intro kk
    induction kk with
    | zero => intro x hk; omega
    | succ kk ih =>
      intro x hk hf hx hp
      have hch : ∀ y ∈ x.eL, aqS Γ f y := by
        obtain ⟨t, b, n, es⟩ := x
        simp only [Ql.eL]
        intro y hy
        rw [Ql.fB, Bool.and_eq_true] at hf
        obtain ⟨i, hi⟩ := List.mem_iff_getElem?.1 hy
        have h1 := j0 hi
        have h2 := apX hy
        rw [Ql.siz] at hk hx
        rw [Ql.pB, List.length_cons, List.length_append, List.length_append] at hp
        exact (ih y (by omega) (aqf hf.2 hy) (by omega) (by omega)).2
      have hc := z0 f hH_der_contents x hf hx hp hch
      refine ⟨hc, fun xs hxs => ?_⟩
      refine jg h (by simp) fun C hC hm => ?_
      subst hC
      unfold jq
      have hc := hc.b
      obtain ⟨t, b, n, es⟩ := x
      simp only [Ql.v_eq] at hc ⊢
      have hpb : (Ql.mk t b n es).pB = u8i t :: (aaZ (Ql.mk t b n es).cB.length ++ (Ql.mk t b n es).cB) := by rw [Ql.pB]; rfl
      rw [hpb] at hp ⊢
      generalize (Ql.mk t b n es).cB = cb at *
      rw [List.length_cons, List.length_append] at hp
      have hl0 := Xn xs
      have hlc := Xn cb
      have hu := Ky
      have hI := z1 (JC xs ++ [V.sc (.int .u8 (u8i t).toNat)]) cb.length (by omega) (by rw [List.length_append, hl0, List.length_singleton]; omega)
      have htx : List.take xs.length (JC xs) = JC xs := List.take_of_length_le (by omega)
      repeat' (first | (refine zsk ?_; intro K' hK) | refine zsp ?_ | (refine zsc ?_ ?_ <;> intro hc <;> first | exact znh | try simp only [znz] at hc) | simp (maxSteps := 1000000) only [go_sem, Nat.reduceAdd, Nat.reduceMul, Nat.reduceEqDiff, Nat.reduceLeDiff, Nat.reduceLT, Nat.reduceSub, Int.reduceEq, Int.reduceBEq, Int.reduceLT, Int.reduceLE, Int.reduceAdd, Int.reduceToNat, reduceIte, reduceCtorEq, hl0, hlc, hu, htx, WF] | (refine hK _ ?_; clear hK K') | apply zan | (apply aba; (focus exact rfl); (focus first | exact hI); (focus exact rfl); (focus exact rfl); (focus (first | exact rfl | (simp; done)))) | (apply yB; (focus exact rfl); (focus exact rfl); (focus first | exact hI); (focus exact rfl); (focus (first | exact rfl | (simp; done))); (focus (first | exact rfl | (simp; done)))) | (apply Qv; (focus first | exact hc)) | exact zsq | fail)
      have hfin : List.take (JC xs ++ [V.sc (.int .u8 (u8i t).toNat)] ++ JC (aaZ cb.length)).length (JC xs ++ [V.sc (.int .u8 (u8i t).toNat)] ++ JC (aaZ cb.length)) ++ JC cb = JC (xs ++ u8i t :: (aaZ cb.length ++ cb)) := by
        rw [List.take_length]; simp [JC]
      all_goals first | (refine ags _ _ rfl ⟨_, rfl⟩ rfl (by omega) hfin ?_; simp [JC]; omega) | trace_state
  intro x hf hx hp
  obtain ⟨hc, hE⟩ := H _ x (Nat.lt_succ_self _) hf hx hp
  refine ⟨hE, ?_⟩
  refine VC h (by simp) (by intro y hy; obtain ⟨c, _, rfl⟩ := List.mem_map.1 hy; trivial) fun C hC hm => ?_
  subst hC
  unfold jq
  have hc := hc.b
  obtain ⟨t, b, n, es⟩ := x
  simp only [Ql.v_eq] at hc ⊢
  have hpb : (Ql.mk t b n es).pB = u8i t :: (aaZ (Ql.mk t b n es).cB.length ++ (Ql.mk t b n es).cB) := by rw [Ql.pB]; rfl
  rw [hpb] at hp ⊢
  generalize (Ql.mk t b n es).cB = cb at *
  rw [List.length_cons, List.length_append] at hp
  have hlc := Xn cb
  have hu := Ky
  have hI := z1 [V.sc (.int .u8 (u8i t).toNat)] cb.length (by omega) (by simp)
  repeat' (first | (refine zsk ?_; intro K' hK) | refine zsp ?_ | (refine zsc ?_ ?_ <;> intro hc <;> first | exact znh | try simp only [znz] at hc) | simp (maxSteps := 1000000) only [go_sem, Nat.reduceAdd, Nat.reduceMul, Nat.reduceEqDiff, Nat.reduceLeDiff, Nat.reduceLT, Nat.reduceSub, Int.reduceEq, Int.reduceBEq, Int.reduceLT, Int.reduceLE, Int.reduceAdd, Int.reduceToNat, reduceIte, reduceCtorEq, hlc, hu, WF] | (refine hK _ ?_; clear hK K') | apply zan | (apply aba; (focus exact rfl); (focus first | exact hI); (focus exact rfl); (focus exact rfl); (focus (first | exact rfl | (simp; done)))) | (apply yB; (focus exact rfl); (focus exact rfl); (focus first | exact hI); (focus exact rfl); (focus (first | exact rfl | (simp; done))); (focus (first | exact rfl | (simp; done)))) | (apply Qv; (focus first | exact hc)) | exact zsq | fail)
  all_goals (refine yr (xs := V.sc (.int .u8 (u8i t).toNat) :: JC (aaZ cb.length ++ cb)) 15000 _ rfl ?_ ?_)
  · simp [JC]; omega
  · show some (Ob.buf true 1 _) = _
    rw [List.take_length]; simp [JC]
def an7 (a n : Int) : Int := if n < 1 then 0 else (IntKind.i64.wrap (a.tmod n + n)).tmod n
def xb := qd Proofs.Tryz.f21 []
def wi (Γ : Env) (f : Nat) : Prop := ∀ (a n : Int), EvN Γ f [V.int a, V.int n] (V.int (an7 a n))
theorem ahL {Γ : Env} {f : Nat} (h : Has Γ.P f 14 xb.1.1.ac xb.1.2)  : wi Γ f := by
  intro a n
  refine Qb h zsi zcl zcl fun C hC hm => ?_
  subst hC
  simp only [xb, qd, DC.ac]
  refine zgo ?_; repeat' first | exact zt | apply zan | intro hc
  · refine Qi _ rfl ?_
    simp only [go_sem, Nat.reduceEqDiff, Nat.reduceAdd, reduceIte, reduceCtorEq]
    simp [an7, hc]
  · refine Qi _ rfl ?_
    simp only [go_sem, Nat.reduceEqDiff, Nat.reduceAdd, reduceIte, reduceCtorEq]
    simp [an7, hc]
def Ud (x : Int) : Nat → List Int → Int
  | _, [] => -1
  | k, y :: r => if x = y then k else Ud x (k + 1) r
def JP := qd Proofs.Tryz.f132 []
def JJ (Γ : Env) (f : Nat) : Prop := ∀ (l : List Int) (x : Int) (hl : l.length < 2 ^ 62), EvN Γ f [.sl 1 (l.map V.int), V.int x] (V.int (Ud x 0 l))
theorem K6 {Γ : Env} {f : Nat} (h : Has Γ.P f 19 JP.1.1.ac JP.1.2)  : JJ Γ f := by
  intro l x hl
  refine Qb h zsi zcl zcl fun C hC hm => ?_
  subst hC
  simp only [JP, qd, DC.ac]
  refine zgo ?_; repeat' first | exact zt | apply zan | intro hc
  refine Jz (ι := Nat) (fun k => k ≤ l.length ∧ Ud x k (l.drop k) = Ud x 0 l) (fun k => [(8, V.int k)]) (fun k => l.length - k) 0 (by omega) ⟨by simp, by simp⟩ zol zlt zet fun k hk K' hL => ?_
  obtain ⟨hk, hinv⟩ := hk
  simp only [ovT, Xs, Nat.reduceEqDiff, reduceIte]
  rcases hd : l.drop k with _ | ⟨y, r⟩
  · have := QB hd
    rw [hd] at hinv
    refine zgo ?_; repeat' first | exact zt | apply zan | intro hc
    refine Qi _ rfl ?_
    simp only [go_sem, Nat.reduceEqDiff, Nat.reduceAdd, reduceIte, reduceCtorEq]
    rw [← hinv]; rfl
  · obtain ⟨hk, hget, hr⟩ := Qo hd
    rw [hd] at hinv
    have hw := Qg (k := k) (by omega)
    (have zx := And.intro hget hw); refine zgo ?_; repeat' first | exact zt | apply zan | intro hc
    · refine Qi _ rfl ?_
      simp only [go_sem, Nat.reduceEqDiff, Nat.reduceAdd, reduceIte, reduceCtorEq]
      rw [← hinv]; simp [Ud, hc]
    · refine hL _ (k + 1) zet ⟨by omega, ?_⟩ (by omega) (fun a ha => rfl)
      rw [hr, ← hinv]; simp [Ud, hc]
def Jy := qd Proofs.Tryz.f104 []
def Jt (Γ : Env) (f : Nat) : Prop := ∀ (l : List Int) (x : Int) (hl : l.length < 2 ^ 62), EvN Γ f [.sl 1 (l.map V.int), V.int x] (V.bool (decide (Ud x 0 l ≥ 0)))
theorem Uv {Γ : Env} {f : Nat} (h : Has Γ.P f 9 Jy.1.1.ac Jy.1.2) (z0 : JJ Γ 132) : Jt Γ f := by
  intro l x hl
  refine Qb h zsi zcl zcl fun C hC hm => ?_
  subst hC
  simp only [Jy, qd, DC.ac]
  refine zgo ?_; repeat' first | exact zt | apply zan | intro hc
  refine Qi _ rfl ?_
  simp only [go_sem, Nat.reduceEqDiff, Nat.reduceAdd, reduceIte, reduceCtorEq]
structure ac4 where
  name : List UInt8
  kind : Int
  way : Int
  sizes : List Int
  strengths : List Int
  deriving DecidableEq
def ac4.v (r : ac4) : List V := [V.str r.name, V.int r.kind, V.int r.way, .sl 1 (r.sizes.map V.int), .sl 1 (r.strengths.map V.int)]
def amG : ac4 := ⟨[], 0, 0, [], []⟩
def Kt : List ac4 := [amG, ⟨[109, 100, 53], 1, 0, [], [18]⟩, ⟨[115, 104, 97, 49], 1, 0, [], [60]⟩, ⟨[115, 104, 97, 50, 53, 54], 1, 0, [], [128]⟩, ⟨[115, 104, 97, 51, 56, 52], 1, 0, [], [192]⟩, ⟨[114, 115, 97], 2, 1, [], []⟩, ⟨[100, 115, 97], 2, 1, [], []⟩, ⟨[101, 99, 100, 115, 97], 2, 2, [], []⟩, ⟨[101, 100, 50, 53, 53, 49, 57], 2, 0, [], [128]⟩, ⟨[109, 108, 100, 115, 97], 2, 3, [44, 65, 87], [128, 192, 256]⟩, ⟨[114, 115, 97, 107, 120], 3, 1, [], []⟩, ⟨[100, 104, 101], 3, 1, [], []⟩, ⟨[101, 99, 100, 104, 101], 3, 2, [], []⟩, ⟨[109, 108, 107, 101, 109], 3, 3, [512, 768, 1024], [128, 192, 256]⟩, ⟨[114, 99, 52], 4, 3, [40, 128], [40, 60]⟩, ⟨[100, 101, 115, 51], 4, 3, [112, 168], [80, 112]⟩, ⟨[97, 101, 115, 99, 98, 99], 4, 3, [128, 256], [128, 256]⟩, ⟨[97, 101, 115, 103, 99, 109], 4, 3, [128, 256], [128, 256]⟩, ⟨[99, 104, 97, 99, 104, 97], 4, 0, [], [256]⟩, ⟨[104, 109, 97, 99, 109, 100, 53], 5, 0, [], [64]⟩, ⟨[104, 109, 97, 99, 115, 104, 97, 49], 5, 0, [], [80]⟩, ⟨[104, 109, 97, 99, 115, 104, 97, 50, 53, 54], 5, 0, [], [128]⟩, ⟨[97, 101, 97, 100], 5, 0, [], [256]⟩]
def ahb : List V := Kt.flatMap ac4.v
def Wj (a : Int) : ac4 := if 1 ≤ a ∧ a ≤ 22 then Kt.getD a.toNat amG else amG
theorem ad3 {α β : Type} {f : α → List β} {n : Nat} (h : ∀ x, (f x).length = n) : ∀ (l : List α) (k : Nat) (hk : k < l.length), ((l.flatMap f).drop (k * n)).take n = f l[k]
  | [], k, hk => by simp at hk
  | x :: l, 0, _ => by simp [List.take_append_of_le_length, h x]
  | x :: l, k + 1, hk => by
    have e : (k + 1) * n = (f x).length + k * n := by rw [h x, Nat.add_mul]; omega
    rw [List.flatMap_cons, e, ← List.drop_drop, List.drop_left]
    exact ad3 h l k (by simpa using hk)
theorem akF : ahb.length = 115 := rfl
theorem aio (a : Int) (h1 : 1 ≤ a) (h2 : a ≤ 22) : (ahb.drop (a.toNat * 5)).take 5 = (Wj a).v := by
  have hl : Kt.length = 23 := rfl
  have hk : a.toNat < Kt.length := by omega
  rw [ahb, ad3 (f := ac4.v) (n := 5) (fun _ => rfl) Kt a.toNat hk, Wj, if_pos ⟨h1, h2⟩, List.getD_eq_getElem?_getD, List.getElem?_eq_getElem hk, Option.getD_some]
theorem aj6 (r : ac4) : Qc r.v := by simp [ac4.v, Qc, V.closed]
theorem ahZ : Qc ahb := aj7 (by
  simp only [ahb, List.mem_flatMap]
  rintro v ⟨r, _, hr⟩
  simp [ac4.v] at hr
  rcases hr with rfl | rfl | rfl | rfl | rfl <;> trivial)
def V0 := qd Proofs.Tryz.f176 []
def Ko (Γ : Env) (f : Nat) : Prop := EvC Γ f [] (.agg ahb)
theorem acK {Γ : Env} {f : Nat} (h : Has Γ.P f 46 V0.1.1.ac V0.1.2)  : Ko Γ f := by
  refine Qm h zsi (ahZ) fun C hC hm => ?_
  subst hC
  simp only [V0, qd, DC.ac]
  refine zgo ?_; repeat' first | exact zt | apply zan | intro hc
  refine Qi _ rfl ?_
  simp only [ahb, Kt, amG, ac4.v, List.flatMap_cons, List.flatMap_nil, go_sem, Nat.reduceAdd, Nat.reduceMul, Nat.reduceEqDiff, Nat.reduceLeDiff, Nat.reduceLT, Nat.reduceSub, Int.reduceEq, Int.reduceBEq, Int.reduceLT, Int.reduceLE, Int.reduceAdd, Int.reduceToNat, reduceIte, reduceCtorEq]
def KV := qd Proofs.Tryz.f130 []
def UR (Γ : Env) (f : Nat) : Prop := ∀ (a : Int), EvC Γ f [V.int a] (.tup [.agg (Wj a).v, V.bool (decide (1 ≤ a ∧ a ≤ 22))])
theorem ae1 {Γ : Env} {f : Nat} (h : Has Γ.P f 14 KV.1.1.ac KV.1.2) (z0 : Ko Γ 176) : UR Γ f := by
  intro a
  refine Qm h zsi (⟨aj6 _, trivial, trivial⟩) fun C hC hm => ?_
  subst hC
  simp only [KV, qd, DC.ac]
  repeat' (first | (refine zsk ?_; intro K' hK) | refine zsp ?_ | (refine zsc ?_ ?_ <;> intro hc <;> first | exact znh | try simp only [znz] at hc) | simp (maxSteps := 1000000) only [go_sem, Nat.reduceAdd, Nat.reduceMul, Nat.reduceEqDiff, Nat.reduceLeDiff, Nat.reduceLT, Nat.reduceSub, Int.reduceEq, Int.reduceBEq, Int.reduceLT, Int.reduceLE, Int.reduceAdd, Int.reduceToNat, reduceIte, reduceCtorEq] | (refine hK _ ?_; clear hK K') | apply zan | (apply Qv; (focus first | exact EvC.b z0)) | exact zsq | fail)
  · refine Qi _ rfl ?_
    rw [Wj, if_neg (by omega)]
    simp only [go_sem, Nat.reduceEqDiff, Nat.reduceAdd, reduceIte, reduceCtorEq, ac4.v, amG, List.map_nil, and_self]
    simp; omega
  · rw [akF]; omega
  · rw [aio a (by omega) (by omega)]; rfl
  · rw [aio a (by omega) (by omega)]
    refine Qi _ rfl ?_
    simp only [go_sem, Nat.reduceEqDiff, Nat.reduceAdd, reduceIte, reduceCtorEq, ac4.v, List.length_cons, List.length_nil, go_sem, Nat.reduceAdd, Nat.reduceMul, Nat.reduceEqDiff, Nat.reduceLeDiff, Nat.reduceLT, Nat.reduceSub, Int.reduceEq, Int.reduceBEq, Int.reduceLT, Int.reduceLE, Int.reduceAdd, Int.reduceToNat, reduceIte, reduceCtorEq]
    simp; omega
  · refine Qi _ rfl ?_
    rw [Wj, if_neg (by omega)]
    simp only [go_sem, Nat.reduceEqDiff, Nat.reduceAdd, reduceIte, reduceCtorEq, ac4.v, amG, List.map_nil, and_self]
    simp; omega
def ajM (b : Int) : List (Int × Int) → Int
  | [] => 256
  | (x, y) :: r => if b < x then y else ajM b r
def akj : List (Int × Int) := [(1024, 56), (2048, 80), (3072, 112), (7680, 128), (15360, 192)]
def X7 := qd Proofs.Tryz.f131 []
def Vw (Γ : Env) (f : Nat) : Prop := ∀ (b : Int), EvN Γ f [V.int b] (V.int (ajM b akj))
attribute [local go_sem] Int.reduceLE Int.reduceLT Int.reduceToNat in
theorem vC {Γ : Env} {f : Nat} (h : Has Γ.P f 21 X7.1.1.ac X7.1.2)  : Vw Γ f := by
  intro b
  refine Qb h zsi zcl zcl fun C hC hm => ?_
  subst hC
  simp only [X7, qd, DC.ac]
  refine zgo ?_; repeat' first | exact zt | apply zan | intro hc
  refine Jz (ι := Int) (fun k => 0 ≤ k ∧ k ≤ 5 ∧ ajM b (akj.drop k.toNat) = ajM b akj) (fun k => [(11, V.int k)]) (fun k => (5 - k).toNat) 0 (by omega) ⟨by simp, by simp, rfl⟩ zol zlt zet fun k hk K' hL => ?_
  obtain ⟨hk0, hk, hinv⟩ := hk
  simp only [ovT, Xs, Nat.reduceEqDiff, reduceIte]
  rcases (by omega : k = 0 ∨ k = 1 ∨ k = 2 ∨ k = 3 ∨ k = 4 ∨ k = 5) with rfl | rfl | rfl | rfl | rfl | rfl
  all_goals refine zgo ?_; repeat' first | exact zt | apply zan | intro hc
  all_goals first
    | (refine Qi _ rfl ?_; simp only [go_sem, Nat.reduceEqDiff, Nat.reduceAdd, reduceIte, reduceCtorEq]; rw [← hinv]; first | rfl | simp [akj, ajM, hc])
    | (refine hL _ 1 zet ⟨by omega, by omega, ?_⟩ (by decide) zoe; rw [← hinv]; simp [akj, ajM, hc])
    | (refine hL _ 2 zet ⟨by omega, by omega, ?_⟩ (by decide) zoe; rw [← hinv]; simp [akj, ajM, hc])
    | (refine hL _ 3 zet ⟨by omega, by omega, ?_⟩ (by decide) zoe; rw [← hinv]; simp [akj, ajM, hc])
    | (refine hL _ 4 zet ⟨by omega, by omega, ?_⟩ (by decide) zoe; rw [← hinv]; simp [akj, ajM, hc])
    | (refine hL _ 5 zet ⟨by omega, by omega, ?_⟩ (by decide) zoe; rw [← hinv]; simp [akj, ajM, hc])
    | trace_state
def V1 := qd Proofs.Tryz.f185 []
def Kp (Γ : Env) (f : Nat) : Prop := ∀ (a : Int), EvN Γ f [V.int a] (V.int (Wj a).kind)
attribute [local go_sem] ac4.v in
theorem acL {Γ : Env} {f : Nat} (h : Has Γ.P f 12 V1.1.1.ac V1.1.2) (z0 : UR Γ 130) : Kp Γ f := by
  intro a
  refine Qb h zsi zcl zcl fun C hC hm => ?_
  subst hC
  simp only [V1, qd, DC.ac]
  refine zgo ?_; repeat' first | exact zt | apply zan | intro hc
  refine Qi _ rfl ?_; simp only [go_sem, Nat.reduceEqDiff, Nat.reduceAdd, reduceIte, reduceCtorEq]
def UU (R : ac4) (ok : Bool) (b : Int) : Int :=
  if ok = false then 0
  else if R.way = 0 then (if b = 0 then R.strengths.headD 0 else 0)
  else if R.way = 1 then (if 512 ≤ b ∧ b ≤ 16384 then ajM b akj else 0)
  else if R.way = 2 then (if Ud b 0 [160, 224, 256, 384, 521] ≥ 0 then IntKind.i64.wrap (b.tdiv 2) else 0)
  else if R.way = 3 then (if Ud b 0 R.sizes ≥ 0 then R.strengths.getD (Ud b 0 R.sizes).toNat 0 else 0)
  else 0
def Qn (a b : Int) : Int := UU (Wj a) (decide (1 ≤ a ∧ a ≤ 22)) b
def ac4.ok (r : ac4) : Bool := (r.way != 0 || !r.strengths.isEmpty) && (r.way != 3 || r.sizes.length == r.strengths.length) && decide (r.sizes.length < 10)
theorem aph (a : Int) (ha : 1 ≤ a ∧ a ≤ 22) : (Wj a).ok = true := by
  have h : ∀ r ∈ Kt.drop 1, r.ok = true := by decide
  have hl : Kt.length = 23 := rfl
  have hk : a.toNat < Kt.length := by omega
  rw [Wj, if_pos ha, List.getD_eq_getElem?_getD, List.getElem?_eq_getElem hk, Option.getD_some]
  have hk' : a.toNat - 1 < (Kt.drop 1).length := by simp; omega
  have := h _ (List.getElem_mem hk')
  rw [List.getElem_drop] at this
  have e : 1 + (a.toNat - 1) = a.toNat := by omega
  simp only [e] at this
  exact this
theorem aiP (x : Int) : ∀ (l : List Int) (k : Nat), Ud x k l = -1 ∨ (k ≤ Ud x k l ∧ Ud x k l < k + l.length)
  | [], k => .inl rfl
  | y :: r, k => by
    unfold Ud
    split
    · right; simp; omega
    · rcases aiP x r (k + 1) with h | ⟨h1, h2⟩
      · exact .inl h
      · right; simp only [List.length_cons]; omega
def Xm := qd Proofs.Tryz.f92 []
def WQ (Γ : Env) (f : Nat) : Prop := ∀ (a b : Int), EvN Γ f [.agg [V.int a, V.int b]] (V.int (Qn a b))
attribute [local go_sem] ac4.v in
theorem xY {Γ : Env} {f : Nat} (h : Has Γ.P f 61 Xm.1.1.ac Xm.1.2) (z0 : UR Γ 130) (z1 : Vw Γ 131) (z2 : Jt Γ 104) (z3 : JJ Γ 132) : WQ Γ f := by
  intro a b
  refine Qb h zsi zcl zcl fun C hC hm => ?_
  subst hC
  simp only [Xm, qd, DC.ac]
  have hc5 := z2 [160, 224, 256, 384, 521] b (by simp)
  by_cases ha : 1 ≤ a ∧ a ≤ 22
  · have hd : decide (1 ≤ a ∧ a ≤ 22) = true := by simp [ha]
    have ok := aph a ha
    have fl := aiP b (Wj a).sizes 0
    rcases hR : Wj a with ⟨nm, kd, wy, sz, st⟩
    rw [hR] at ok fl
    simp only [ac4.ok, Bool.and_eq_true, Bool.or_eq_true, decide_eq_true_eq, bne_iff_ne, beq_iff_eq] at ok
    rcases st with _ | ⟨x, st⟩
    · (have zy0 := hc5.b; have zx := And.intro hR hd); refine zgo ?_; repeat' first | exact zt | apply zan | intro hc
      all_goals first
        | (refine Qi _ rfl ?_; simp only [go_sem, Nat.reduceEqDiff, Nat.reduceAdd, reduceIte, reduceCtorEq]; simp [Qn, UU, hR, *]; done)
        | (exfalso; simp only [List.getElem?_eq_none_iff, List.length_cons, List.length_nil, List.isEmpty_nil] at hst fl ok; omega)
        | (exfalso; simp only [List.length_nil] at fl ok; omega)
        | (exfalso; simp_all; done)
    · rcases hst : (x :: st)[(Ud b 0 sz).toNat]? with _ | v
      · have hs2 : (V.int x :: List.map V.int st)[(Ud b 0 sz).toNat]? = none := by rw [← List.map_cons, List.getElem?_map, hst]; rfl
        (have zy0 := hc5.b; have zx := And.intro hR (And.intro hd hs2)); refine zgo ?_; repeat' first | exact zt | apply zan | intro hc
        all_goals first
          | (refine Qi _ rfl ?_; simp only [go_sem, Nat.reduceEqDiff, Nat.reduceAdd, reduceIte, reduceCtorEq]; simp [Qn, UU, hR, *]; done)
          | (exfalso; simp only [List.getElem?_eq_none_iff, List.length_cons, List.length_nil, List.isEmpty_nil] at hst fl ok; omega)
          | (exfalso; simp_all; done)
      · have hs2 : (V.int x :: List.map V.int st)[(Ud b 0 sz).toNat]? = some (V.int v) := by rw [← List.map_cons, List.getElem?_map, hst]; rfl
        (have zy0 := hc5.b; have zx := And.intro hR (And.intro hd hs2)); refine zgo ?_; repeat' first | exact zt | apply zan | intro hc
        all_goals first
          | (refine Qi _ rfl ?_; simp only [go_sem, Nat.reduceEqDiff, Nat.reduceAdd, reduceIte, reduceCtorEq]; simp [Qn, UU, hR, *]; done)
          | (exfalso; simp only [List.getElem?_eq_none_iff, List.length_cons, List.length_nil, List.isEmpty_nil] at hst fl ok; omega)
          | (exfalso; simp_all; done)
  · have hd : decide (1 ≤ a ∧ a ≤ 22) = false := by simp [ha]
    (have zx := hd); refine zgo ?_; repeat' first | exact zt | apply zan | intro hc
    refine Qi _ rfl ?_; simp only [go_sem, Nat.reduceEqDiff, Nat.reduceAdd, reduceIte, reduceCtorEq]
    simp [Qn, UU, hd]
end Av
end

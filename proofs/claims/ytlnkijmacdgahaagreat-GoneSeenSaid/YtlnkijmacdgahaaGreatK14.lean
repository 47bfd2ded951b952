/- Calls whose arguments show objects from within. -/
import Derived.Test.YtlnkijmacdgahaaGreatK13
import Derived.KernelRfl
import Derived.Test.YtlnkijmacdgahaaGreatK12
set_option linter.unusedVariables false
set_option linter.unusedSimpArgs false
noncomputable section
set_option maxRecDepth 10000
set_option maxHeartbeats 4000000
namespace Av
open Go
attribute [local irreducible] AWp VA K4 jR awS awC aa9 awQ abD QZ V9 aay awR Ug awB okR jL ris
inductive Ql where
  | mk (tag : Int) (bytes : List UInt8) (nest : Bool) (els : List Ql)
abbrev JC (b : List UInt8) : List V := b.map fun c => V.sc (.int .u8 c.toNat)
mutual
def Ql.v : Ql → V
  | .mk t b n es => .agg [V.int t, .sl 1 (JC b), V.bool n, .sl 4 (ams es)]
def ams : List Ql → List V
  | [] => []
  | x :: r => x.v :: ams r
end
theorem afq : ∀ es, ams es = es.map Ql.v
  | [] => rfl
  | x :: r => by rw [ams, afq r]; rfl
theorem Ql.v_eq (t : Int) (b : List UInt8) (n : Bool) (es : List Ql) : (Ql.mk t b n es).v = .agg [V.int t, .sl 1 (JC b), V.bool n, .sl 4 (es.map Ql.v)] := by rw [Ql.v, afq]
theorem Ql.v_closed (x : Ql) : x.v.closed := by cases x; rw [Ql.v_eq]; simp only [V.closed, Qc, and_self]
def u8i (x : Int) : UInt8 := UInt8.ofNat (x % 256).toNat
theorem Ky (x : Int) : IntKind.u8.wrap x = ((u8i x).toNat : Int) := by
  have e1 : IntKind.u8.bits = 8 := rfl
  have e2 : IntKind.u8.signed = false := rfl
  simp only [IntKind.wrap, e1, e2, Bool.false_and, u8i]
  simp [UInt8.toNat_ofNat']; omega
def qB (x : Int) (b : List UInt8) : Bool := (!(x == 0) && !(x == -1)) || ((x == 0 && decide ((128 : Int) ≤ ((b.headD 0).toNat : Int))) || (x == -1 && decide (((b.headD 0).toNat : Int) < 128)))
def abm : Nat → Int → List UInt8 → List UInt8
  | 0, _, b => b
  | k + 1, x, b => if qB x b then abm k (x.fdiv 256) (u8i x :: b) else b
def anf (n : Int) : List UInt8 := abm 9 (n.fdiv 256) [u8i n]
def WC (n : Int) : Ql := .mk 2 (anf n) false []
theorem amK {j : Nat} {x : Int} (h1 : -(256 : Int) ^ (j + 1) ≤ x) (h2 : x < (256 : Int) ^ (j + 1)) : -(256 : Int) ^ j ≤ x.fdiv 256 ∧ x.fdiv 256 < (256 : Int) ^ j := by
  rw [Int.fdiv_eq_ediv_of_nonneg _ (by decide)]
  rw [Int.pow_succ] at h1 h2
  generalize (256 : Int) ^ j = P at *
  constructor <;> omega
def alq (n : Int) (j : Nat) (x : Int) (b : List UInt8) : Prop :=
  b ≠ [] ∧ b.length ≤ 10 - j ∧ j ≤ 9 ∧ abm j x b = anf n ∧ (-9223372036854775808 ≤ x ∧ x < 9223372036854775808) ∧ (j = 0 → qB x b = false) ∧ (∀ i, j = i + 1 → -(256 : Int) ^ i ≤ x ∧ x < (256 : Int) ^ i)
theorem ahy {n : Int} (h0 : -9223372036854775808 ≤ n) (h1 : n < 9223372036854775808) : alq n 9 (n.fdiv 256) [u8i n] := by
  have h2 : -(256 : Int) ^ 8 ≤ n.fdiv 256 ∧ n.fdiv 256 < (256 : Int) ^ 8 := by
    rw [Int.fdiv_eq_ediv_of_nonneg _ (by decide)]
    have : (256 : Int) ^ 8 = 18446744073709551616 := by decide
    rw [this]; constructor <;> omega
  refine ⟨by simp, by simp, by omega, rfl, ?_, by omega, fun i hi => ?_⟩
  · rw [Int.fdiv_eq_ediv_of_nonneg _ (by decide)]; constructor <;> omega
  · obtain rfl : i = 8 := by omega
    exact h2
theorem ajO {n : Int} {j : Nat} {x : Int} {b : List UInt8} (h : alq n j x b) (hm : qB x b = true) : ∃ i, j = i + 1 ∧ alq n i (x.fdiv 256) (u8i x :: b) := by
  obtain ⟨h1, h2, h3, h4, h5, h6, h7⟩ := h
  rcases j with _ | i
  · rw [h6 rfl] at hm; cases hm
  refine ⟨i, rfl, by simp, by simp; omega, by omega, ?_, ?_, fun hi => ?_, fun k hk => ?_⟩
  · rw [← h4, abm, if_pos hm]
  · rw [Int.fdiv_eq_ediv_of_nonneg _ (by decide)]; constructor <;> omega
  · subst hi
    have := h7 0 rfl
    simp only [Int.pow_zero] at this
    have hx : x = 0 ∨ x = -1 := by omega
    rcases hx with rfl | rfl <;> rfl
  · subst hk
    exact amK (h7 _ rfl).1 (h7 _ rfl).2
theorem alp {n : Int} {j : Nat} {x : Int} {b : List UInt8} (h : alq n j x b) (hm : qB x b = false) : b = anf n := by
  obtain ⟨h1, h2, h3, h4, h5, h6, h7⟩ := h
  rw [← h4]
  cases j with
  | zero => rfl
  | succ i => rw [abm, if_neg (by rw [hm]; decide)]
abbrev aq5 : V := .sc (.slice none 0 0)
theorem afN {x : Int} {c : UInt8} {t : List UInt8} {p q r : Bool} (hp : (x == 0) = p) (hq : (x == -1) = q) (hr : decide ((c.toNat : Int) < 128) = r) : qB x (c :: t) = ((!p && !q) || ((p && !r) || (q && r))) := by
  have h2 : (decide ((128 : Int) ≤ (c.toNat : Int))) = !r := by rw [← hr]; by_cases h : (c.toNat : Int) < 128 <;> simp [h] <;> omega
  unfold qB
  rw [hp, hq]
  show ((!p && !q) || ((p && decide ((128 : Int) ≤ (c.toNat : Int))) || (q && decide ((c.toNat : Int) < 128)))) = _
  rw [h2, hr]
theorem aeE {c : UInt8} {r : Bool} (hr : decide ((c.toNat : Int) < 128) = r) : decide ((c.toNat : Int) ≥ 128) = !r := by rw [← hr]; by_cases h : (c.toNat : Int) < 128 <;> simp [h] <;> omega
def jl := qd Proofs.Tryz.f45 []
def yN (Γ : Env) (f : Nat) : Prop := ∀ (n : Int) (h0 : -9223372036854775808 ≤ n) (h1 : n < 9223372036854775808), EvC Γ f [V.int n] ((WC n).v)
attribute [local go_sem] WF JY Ky in
theorem agj {Γ : Env} {f : Nat} (h : Has Γ.P f 45 jl.1.1.ac jl.1.2)  : yN Γ f := by
  intro n h0 h1
  refine Qm h zsi (Ql.v_closed _) fun C hC hm => ?_
  subst hC
  simp only [jl, qd, DC.ac]
  simp only [WC, Ql.v_eq]
  have s8 : (8 : Int).toNat ≤ IntKind.i64.bits := by decide
  have s9 : (2 : Int) ^ 8 = 256 := by decide
  (have zx := And.intro s8 s9); refine zgo ?_; repeat' first | exact zt | apply zan | intro hc
  refine Qp (ι := Nat × Int × List UInt8) (fun q => alq n q.1 q.2.1 q.2.2) (fun q => JY [(2, .ptr 0 0), (3, .hd 1 0 q.2.2.length), (4, V.int q.2.1)] [(0, .box true [V.int 0, .hd 2 0 0, V.bool false, .hd 3 0 0]), (1, .buf true 1 (JC q.2.2)), (2, .buf true 1 []), (3, .buf true 4 [])] 4) (fun q => q.1) (9, n.fdiv 256, [u8i n]) (ahy h0 h1) (Qd [(1, 3000), (3, 4)]) (Qh [(1, 3000), (3, 4)] (by simp only [go_sem, zwl, Nat.reduceAdd, Nat.reduceMul, Nat.reduceEqDiff, Nat.reduceLT, Int.reduceToNat, reduceIte, reduceCtorEq, JC, List.map_cons, List.map_nil, List.length_cons, List.length_nil] <;> exact zcc) (by simp only [go_sem, zwl, Nat.reduceAdd, Nat.reduceMul, Nat.reduceEqDiff, Nat.reduceLT, Int.reduceToNat, reduceIte, reduceCtorEq, JC, List.map_cons, List.map_nil, List.length_cons, List.length_nil] <;> exact zcc) (by simp [Qd]) (by simp; omega) (by omega)) fun q hq K' hL => ?_
  obtain ⟨j, x, b⟩ := q
  simp only at hq hL ⊢
  rcases b with _ | ⟨c, t⟩
  · exact absurd rfl hq.1
  have hlen := hq.2.1
  rw [List.length_cons] at hlen
  have htl : t.length ≤ 10 := by omega
  have hbnd := hq.2.2.2.2.1
  have tk : List.take t.length (t.map fun c => V.sc (.int .u8 c.toNat)) = t.map fun c => V.sc (.int .u8 c.toNat) := List.take_of_length_le (by simp)
  have hgo := hq.2.2.2.1
  rcases hmm : qB x (c :: t) with _ | _
  · have hbe := alp hq hmm
    rcases hp : (x == 0) with _ | _ <;> rcases hv : (x == -1) with _ | _ <;> rcases hr : decide ((c.toNat : Int) < 128) with _ | _
    all_goals
      have hm := afN (t := t) hp hv hr
      have hge := aeE hr
      have hp2 : (x != 0) = !(x == 0) := rfl
      have hv2 : (x != -1) = !(x == -1) := rfl
      rw [hp] at hp2
      rw [hv] at hv2
      rw [hmm] at hm
      simp only [Bool.not_true, Bool.not_false, Bool.and_true, Bool.and_false, Bool.or_true, Bool.or_false, Bool.and_self, Bool.or_self, Bool.true_eq_false, Bool.false_eq_true] at hm hge hp2 hv2
    all_goals
      (have zx := And.intro s8 (And.intro s9 (And.intro hge (And.intro hr (And.intro hp (And.intro hv (And.intro hp2 (And.intro hv2 tk)))))))); refine zgo ?_; repeat' first | exact zt | apply zan | intro hc
    all_goals first | (rw [← hbe]; refine Qi _ rfl ?_; simp only [go_sem, Nat.reduceEqDiff, Nat.reduceAdd, reduceIte, reduceCtorEq, JC, List.map_cons, List.take_succ_cons, List.drop_zero, tk]; done) | (rw [← hbe]; refine Qi _ rfl ?_; simp only [go_sem, Nat.reduceEqDiff, Nat.reduceAdd, reduceIte, reduceCtorEq, JC, List.map_cons, List.take_succ_cons, List.drop_zero, tk]; trace_state)
  · obtain ⟨i, rfl, hn⟩ := ajO hq hmm
    rcases hp : (x == 0) with _ | _ <;> rcases hv : (x == -1) with _ | _ <;> rcases hr : decide ((c.toNat : Int) < 128) with _ | _
    all_goals
      have hm := afN (t := t) hp hv hr
      have hge := aeE hr
      have hp2 : (x != 0) = !(x == 0) := rfl
      have hv2 : (x != -1) = !(x == -1) := rfl
      rw [hp] at hp2
      rw [hv] at hv2
      rw [hmm] at hm
      simp only [Bool.not_true, Bool.not_false, Bool.and_true, Bool.and_false, Bool.or_true, Bool.or_false, Bool.and_self, Bool.or_self, Bool.true_eq_false, Bool.false_eq_true] at hm hge hp2 hv2
    all_goals
      (have zx := And.intro s8 (And.intro s9 (And.intro hge (And.intro hr (And.intro hp (And.intro hv (And.intro hp2 (And.intro hv2 tk)))))))); refine zgo ?_; repeat' first | exact zt | apply zan | intro hc
    all_goals first | exact hL _ (i, x.fdiv 256, u8i x :: c :: t) (Qd [(1, 30004)]) hn (Nat.lt_succ_self _) (Qh [(1, 30004)] (by simp only [go_sem, zwl, Nat.reduceAdd, Nat.reduceMul, Nat.reduceEqDiff, Nat.reduceLT, Int.reduceToNat, reduceIte, reduceCtorEq, JC, List.map_cons, List.length_cons, List.length_map, Nat.add_comm 1] <;> exact zcc) (by simp only [go_sem, zwl, Nat.reduceAdd, Nat.reduceMul, Nat.reduceEqDiff, Nat.reduceLT, Int.reduceToNat, reduceIte, reduceCtorEq, JC, List.map_cons] <;> exact zcc) (by simp [Qd]) (by simp; omega) (by omega)) | trace_state
def hiI (n : Int) : Nat → Int
  | 0 => n
  | k + 1 => (hiI n k).fdiv 256
def tbI (n : Int) : Nat → List UInt8
  | 0 => []
  | k + 1 => u8i (hiI n k) :: tbI n k
def aqc (c d : UInt8) : Bool := ((c.toNat : Int) == 0 && decide ((d.toNat : Int) < 128)) || ((c.toNat : Int) == 255 && decide ((d.toNat : Int) ≥ 128))
def aft : List UInt8 → List UInt8
  | c :: d :: r => if aqc c d then aft (d :: r) else c :: d :: r
  | l => l
theorem vW (x : Int) : ((u8i x).toNat : Int) = x % 256 := by
  unfold u8i
  simp [UInt8.toNat_ofNat']; omega
theorem ael (n : Int) : ∀ k, (tbI n k).length = k
  | 0 => rfl
  | k + 1 => by rw [tbI, List.length_cons, ael n k]
theorem abO (n : Int) (k : Nat) : qB (hiI n (k + 1)) (tbI n (k + 1)) = false ↔ (hiI n (k + 1) = 0 ∧ ((u8i (hiI n k)).toNat : Int) < 128) ∨ (hiI n (k + 1) = -1 ∧ (128 : Int) ≤ ((u8i (hiI n k)).toNat : Int)) := by
  rw [tbI, qB]
  generalize hiI n (k + 1) = x
  generalize u8i (hiI n k) = c
  simp only [List.headD_cons]
  rcases h1 : x == 0 with _ | _ <;> rcases h2 : x == -1 with _ | _ <;> simp only [beq_iff_eq, beq_eq_false_iff_ne, ne_eq] at h1 h2 <;> simp only [Bool.not_true, Bool.not_false, Bool.true_and, Bool.false_and, Bool.or_false, Bool.false_or, Bool.true_or, decide_eq_false_iff_not, reduceCtorEq, false_iff] <;> first | omega | grind | trace_state
theorem aiI (n : Int) (k : Nat) : hiI n k = 256 * hiI n (k + 1) + ((u8i (hiI n k)).toNat : Int) := by
  rw [vW, hiI, Int.fdiv_eq_ediv_of_nonneg _ (by decide)]; omega
theorem aoT {n : Int} {k : Nat} (h : qB (hiI n (k + 1)) (tbI n (k + 1)) = false) : qB (hiI n (k + 2)) (tbI n (k + 2)) = false := by
  rw [abO] at h ⊢
  have h1 := aiI n (k + 1)
  have h2 := vW (hiI n (k + 1))
  have h3 : hiI n (k + 2) = (hiI n (k + 1)).fdiv 256 := rfl
  rw [Int.fdiv_eq_ediv_of_nonneg _ (by decide)] at h3
  show (hiI n (k + 2) = 0 ∧ ((u8i (hiI n (k + 1))).toNat : Int) < 128) ∨ (hiI n (k + 2) = -1 ∧ (128 : Int) ≤ ((u8i (hiI n (k + 1))).toNat : Int))
  rcases h with ⟨h, _⟩ | ⟨h, _⟩
  · left; rw [h] at h2 h3; exact ⟨by omega, by rw [h]; omega⟩
  · right; rw [h] at h2 h3; exact ⟨by omega, by rw [h]; omega⟩
theorem afs {n : Int} {k : Nat} (h : qB (hiI n (k + 2)) (tbI n (k + 2)) = false) : aft (tbI n (k + 2)) = if qB (hiI n (k + 1)) (tbI n (k + 1)) = false then aft (tbI n (k + 1)) else tbI n (k + 2) := by
  rw [abO] at h
  have h1 := aiI n (k + 1)
  have hk : (aqc (u8i (hiI n (k + 1))) (u8i (hiI n k)) = true) ↔ qB (hiI n (k + 1)) (tbI n (k + 1)) = false := by
    rw [abO, aqc]
    have a1 := (u8i (hiI n (k + 1))).toNat_lt
    have a2 := (u8i (hiI n k)).toNat_lt
    simp only [Bool.or_eq_true, Bool.and_eq_true, beq_iff_eq, decide_eq_true_eq]
    constructor <;> intro h' <;> omega
  have e : tbI n (k + 2) = u8i (hiI n (k + 1)) :: u8i (hiI n k) :: tbI n k := rfl
  have e' : tbI n (k + 1) = u8i (hiI n k) :: tbI n k := rfl
  rw [e, aft]
  by_cases hi : aqc (u8i (hiI n (k + 1))) (u8i (hiI n k)) = true
  · rw [if_pos hi, if_pos (hk.1 hi), e']
  · rw [if_neg hi, if_neg (fun h' => hi (hk.2 h'))]
theorem ag0 {n : Int} : ∀ (m k j : Nat), m ≤ j → (k = 0 ∨ qB (hiI n k) (tbI n k) = true) → qB (hiI n (k + 1 + m)) (tbI n (k + 1 + m)) = false → aft (tbI n (k + 1 + m)) = abm j (hiI n (k + 1)) (tbI n (k + 1))
  | 0, k, j, _, hk, h => by
    have e : abm j (hiI n (k + 1)) (tbI n (k + 1)) = tbI n (k + 1) := by
      cases j with
      | zero => rfl
      | succ i => rw [abm, if_neg (by rw [h]; decide)]
    rw [Nat.add_zero] at h ⊢
    rw [e]
    rcases k with _ | k
    · rfl
    · rw [afs h, if_neg]
      rcases hk with hk | hk
      · omega
      · rw [hk]; decide
  | m + 1, k, j, hj, hk, h => by
    have up : ∀ m, qB (hiI n (k + 1)) (tbI n (k + 1)) = false → qB (hiI n (k + 1 + m)) (tbI n (k + 1 + m)) = false := fun m h0 => by
      induction m with
      | zero => exact h0
      | succ m ih => rw [show k + 1 + (m + 1) = k + m + 2 by omega]; exact aoT (by rw [show k + m + 1 = k + 1 + m by omega]; exact ih)
    obtain ⟨i, rfl⟩ : ∃ i, j = i + 1 := ⟨j - 1, by omega⟩
    rcases hm : qB (hiI n (k + 1)) (tbI n (k + 1)) with _ | _
    · have h1 := up m hm
      have h2 := ag0 m k (i + 1) (by omega) hk h1
      rw [← h2]
      have h3 : qB (hiI n (k + m + 2)) (tbI n (k + m + 2)) = false := by rw [show k + m + 2 = k + 1 + (m + 1) by omega]; exact h
      rw [show k + 1 + (m + 1) = k + m + 2 by omega, afs h3, show k + m + 1 = k + 1 + m by omega, if_pos h1]
    · rw [abm, if_pos hm]
      have h2 := ag0 m (k + 1) i (by omega) (.inr hm) (by rw [show k + 1 + 1 + m = k + 1 + (m + 1) by omega]; exact h)
      rw [show k + 1 + 1 + m = k + 1 + (m + 1) by omega] at h2
      exact h2
theorem amA {n : Int} (h0 : -9223372036854775808 ≤ n) (h1 : n < 9223372036854775808) : aft (tbI n 8) = anf n := by
  have h := ag0 (n := n) 7 0 9 (by omega) (.inl rfl) (by
    rw [abO, vW]
    simp only [hiI]
    simp only [Int.fdiv_eq_ediv_of_nonneg _ (show (0 : Int) ≤ 256 by decide)]
    have := vW ((((((((n / 256) / 256) / 256) / 256) / 256) / 256) / 256))
    omega)
  exact h
mutual
def Ql.siz : Ql → Nat
  | .mk _ b _ es => 1 + b.length + xh es
def xh : List Ql → Nat
  | [] => 0
  | x :: r => x.siz + xh r
end
mutual
def Ql.dep : Ql → Nat
  | .mk _ _ _ es => afl es + 1
def afl : List Ql → Nat
  | [] => 0
  | x :: r => max x.dep (afl r)
end
theorem aoq : ∀ x : Ql, 1 ≤ x.siz
  | .mk _ _ _ _ => by rw [Ql.siz]; omega
theorem qS : ∀ es : List Ql, es.length ≤ xh es
  | [] => Nat.le_refl _
  | x :: r => by have := qS r; have := aoq x; rw [xh, List.length_cons]; omega
theorem j0 {es : List Ql} {x : Ql} : ∀ {k : Nat}, es[k]? = some x → x.siz ≤ xh es := by
  induction es with
  | nil => intro k h; simp at h
  | cons y r ih =>
    intro k h
    rw [xh]
    cases k with
    | zero => simp at h; subst h; omega
    | succ k => have := ih (k := k) (by simpa using h); omega
mutual
theorem apd : ∀ x : Ql, x.dep ≤ x.siz
  | .mk _ b _ es => by have := abV es; rw [Ql.dep, Ql.siz]; omega
theorem abV : ∀ es : List Ql, afl es ≤ xh es
  | [] => Nat.le_refl _
  | x :: r => by have := apd x; have := abV r; rw [afl, xh]; omega
end
def aii (n : Int) : Bool := decide (n ≥ 1) && (decide (n ≤ 255) && (n.tmod 32 != 31))
def jj := qd Proofs.Tryz.f117 []
def yL (Γ : Env) (f : Nat) : Prop := ∀ (n : Int), EvN Γ f [V.int n] (V.bool (aii n))
theorem agh {Γ : Env} {f : Nat} (h : Has Γ.P f 14 jj.1.1.ac jj.1.2)  : yL Γ f := by
  intro n
  refine Qb h zsi zcl zcl fun C hC hm => ?_
  subst hC
  simp only [jj, qd, DC.ac]
  rcases h1 : decide (n ≥ 1) with _ | _ <;> rcases h2 : decide (n ≤ 255) with _ | _
  all_goals
    have e : aii n = (decide (n ≥ 1) && (decide (n ≤ 255) && (n.tmod 32 != 31))) := rfl
    rw [h1, h2] at e
    simp only [Bool.false_and, Bool.true_and] at e
    rw [e]
    (have zx := And.intro h1 h2); exact zg
def jk (aeG : Nat) : AC := Yq [1] (.reg [xo 1 (.box true 4 (.t 0)), mc 2 (V.int 0)]) (Yq [1, 3] (.reg [mc 3 (V.int 0)]) (Yq [3] (Yq [1, 3, 4] (.reg [mc 4 (V.int 0)]) (.block 0 (abl [1, 3, 4] (Yq [1, 3, 4] (Yq [1, 3, 4, 9] (.reg [mv 5 4, fa 6 3 1, ld 7 1 6, ln 8 7, bn 9 .lss 5 8]) (.cond (.t 9) .skip (.exit 0))) (Yq [1, 3, 4] (.block 1 (.reg [mv 12 3, fa 13 3 1, ld 14 1 13, mv 15 4, ia 16 4 14 15, xo 17 (.load true 4 (.t 16)), cl 18 aeG [17], xo 19 (.mm true [(.t 12), (.t 18)]), mv 3 19])) (.reg [mv 10 4, bc 11 .add 10 (V.int 1), mv 4 11])))))) (Yq [2] (.reg [mv 20 3, bc 21 .add 20 (V.int 1), mv 2 21]) .ret))) def r_ref01_depth : List Vz := [.tmp 2]
def qq (Γ : Env) (f : Nat) : Prop := ∀ (x : Ql) (hx : x.siz < 2 ^ 40), EvN Γ f [x.v] (V.int x.dep)
attribute [local go_sem] Ql.v_eq in
theorem adn {Γ : Env} {f : Nat} (h : Has Γ.P f 22 (jk f) r_ref01_depth)  : qq Γ f := by
  suffices H : ∀ (kk : Nat), ∀ (x : Ql) (hx : x.siz < 2 ^ 40), x.siz < kk → EvN Γ f [x.v] (V.int x.dep) from fun x hx => H _ x hx (Nat.lt_succ_self _)
  intro kk; induction kk with
  | zero => intros; rename_i hk; exact absurd hk (Nat.not_lt_zero _)
  | succ kk ih =>
  intro x hx hk
  refine Qb h zsi zcl zcl fun C hC hm => ?_
  subst hC
  unfold jk
  obtain ⟨t, b, n, es⟩ := x
  simp only [Ql.v_eq, Ql.dep]
  have hsz : xh es < (Ql.mk t b n es).siz := by rw [Ql.siz]; omega
  have hle := qS es
  have hdl := abV es
  have hwe : IntKind.i64.wrap ((afl es : Int) + 1) = ((afl es + 1 : Nat) : Int) := Qg (by omega)
  refine zgo ?_; repeat' first | exact zt | apply zan | intro hc
  refine Jz (ι := Nat × Nat) (fun q => q.1 ≤ es.length ∧ max q.2 (afl (es.drop q.1)) = afl es) (fun q => [(3, V.int q.2), (4, V.int q.1)]) (fun q => es.length - q.1) (0, 0) (by omega) ⟨Nat.zero_le _, by simp⟩ zol zlt zet fun q hq K' hL => ?_
  obtain ⟨k, d⟩ := q
  simp only at hq hL ⊢
  obtain ⟨hk, hinv⟩ := hq
  simp only [ovT, Xs, Nat.reduceEqDiff, reduceIte]
  rcases hd : es.drop k with _ | ⟨y, r⟩
  · have hkl := QB hd
    have e1 : decide ((k : Int) < (((es.map Ql.v).length : Nat) : Int)) = false := by simp; omega
    rw [hd] at hinv
    have hde : d = afl es := by rw [← hinv, afl]; omega
    subst hde
    (have zx := And.intro e1 hwe); exact zg
  · obtain ⟨hk', hget, hr⟩ := Qo hd
    rw [hd] at hinv
    have hw := Qg (k := k) (by omega)
    have e1 : decide ((k : Int) < (((es.map Ql.v).length : Nat) : Int)) = true := by simp; omega
    have hys := j0 hget
    obtain ⟨yt, yb, yn, ye⟩ := y
    have hi := (ih (.mk yt yb yn ye) (by omega) (by omega)).b
    rw [Ql.v_eq] at hi
    have hmx : (if (d : Int) < (((Ql.mk yt yb yn ye).dep : Nat) : Int) then (((Ql.mk yt yb yn ye).dep : Nat) : Int) else (d : Int)) = ((max d (Ql.mk yt yb yn ye).dep : Nat) : Int) := by split <;> omega
    have hsk : ([V.int ((Ql.mk yt yb yn ye).dep : Nat)].all (VP IntKind.i64)) = true := rfl
    (have zx := And.intro e1 (And.intro hw (And.intro hget (And.intro hmx hsk)))); refine zgo ?_; repeat' first | exact zt | apply zan | intro hc
    all_goals first | exact hL _ (k + 1, max d (Ql.mk yt yb yn ye).dep) zet ⟨hk', by rw [hr, ← hinv]; simp only [afl]; omega⟩ (by simp only; omega) zoe | trace_state
def hdB (t : Int) (b : List UInt8) (n : Bool) (es : List Ql) : Bool := aii t && (!(n != ((t.tdiv 32).tmod 2 == 1)) && (!(n && decide ((b.length : Int) > 0)) && !(!n && decide ((es.length : Int) > 0))))
mutual
def Ql.fB : Ql → Bool
  | .mk t b n es => hdB t b n es && fL es
def fL : List Ql → Bool
  | [] => true
  | x :: r => x.fB && fL r
end
theorem aku {t : Int} (h : aii t = true) : 1 ≤ t ∧ t ≤ 255 := by
  simp only [aii, Bool.and_eq_true, decide_eq_true_eq] at h
  exact ⟨h.1, h.2.1⟩
theorem Xn (b : List UInt8) : (JC b).length = b.length := List.length_map _
theorem ao5 {es : List Ql} {k : Nat} {y : Ql} (h : es[k]? = some y) (hf : y.fB = false) : fL es = false := by
  induction es generalizing k with
  | nil => simp at h
  | cons x r ih =>
    rw [fL]
    cases k with
    | zero => simp at h; subst h; rw [hf]; rfl
    | succ k => rw [ih (k := k) (by simpa using h), Bool.and_false]
def qg (jc ade : Nat) : AC := Yq [1] (.reg [xo 1 (.box true 4 (.t 0)), mc 2 (V.bool false)]) (Yq [1] (Yq [1, 38] (.reg [fa 4 0 1, ld 5 1 4, cl 6 jc [5], xo 7 (.un .not (.t 6)), mv 8 7, xg 9 (.faddr 2 (.t 1)) 8 false, xg 10 (.load false 1 (.t 9)) 8 false, xg 11 (.faddr 0 (.t 1)) 8 false, xg 12 (.load false 1 (.t 11)) 8 false, xg 13 (.bin .quo (.t 12) (.c (V.int 32))) 8 false, xg 14 (.bin .rem (.t 13) (.c (V.int 2))) 8 false, xg 15 (.bin .eql (.t 14) (.c (V.int 1))) 8 false, xg 16 (.eqb true (.t 10) (.t 15)) 8 false, xo 17 (.pick (.t 8) (.c (V.bool true)) (.t 16)), mv 18 17, xg 19 (.faddr 2 (.t 1)) 18 false, xg 20 (.load false 1 (.t 19)) 18 false, mg 21 20 18 false, xg 22 (.faddr 1 (.t 1)) 21 true, xg 23 (.load false 1 (.t 22)) 21 true, xg 24 (.lenL (.t 23)) 21 true, xg 25 (.bin .gtr (.t 24) (.c (V.int 0))) 21 true, xg 26 (.pick (.t 21) (.t 25) (.c (V.bool false))) 18 false, xo 27 (.pick (.t 18) (.c (V.bool true)) (.t 26)), mv 28 27, xg 29 (.faddr 2 (.t 1)) 28 false, xg 30 (.load false 1 (.t 29)) 28 false, xg 31 (.un .not (.t 30)) 28 false, mg 32 31 28 false, xg 33 (.faddr 3 (.t 1)) 32 true, xg 34 (.load false 1 (.t 33)) 32 true, xg 35 (.lenL (.t 34)) 32 true, xg 36 (.bin .gtr (.t 35) (.c (V.int 0))) 32 true, xg 37 (.pick (.t 32) (.t 36) (.c (V.bool false))) 28 false, xo 38 (.pick (.t 28) (.c (V.bool true)) (.t 37))]) (.cond (.t 38) (Yq [2] (.reg [mc 2 (V.bool false)]) .ret) .skip)) (Yq [] (Yq [1, 3] (.reg [mc 3 (V.int 0)]) (.block 0 (abl [1, 3] (Yq [1, 3] (Yq [1, 3, 43] (.reg [mv 39 3, fa 40 3 1, ld 41 1 40, ln 42 41, bn 43 .lss 39 42]) (.cond (.t 43) .skip (.exit 0))) (Yq [1, 3] (.block 1 (Yq [1, 3, 52] (.reg [fa 46 3 1, ld 47 1 46, mv 48 3, ia 49 4 47 48, xo 50 (.load true 4 (.t 49)), cl 51 ade [50], xo 52 (.un .not (.t 51))]) (.cond (.t 52) (Yq [2] (.reg [mc 2 (V.bool false)]) .ret) .skip))) (.reg [mv 44 3, bc 45 .add 44 (V.int 1), mv 3 45])))))) (Yq [2] (.reg [mc 2 (V.bool true)]) .ret))) def r_ref01_formed : List Vz := [.tmp 2]
def Kh (Γ : Env) (f : Nat) : Prop := ∀ (x : Ql) (hx : x.siz < 2 ^ 40), EvN Γ f [x.v] (V.bool x.fB)
attribute [local go_sem] Ql.v_eq in
theorem acD {Γ : Env} {f jc : Nat} (h : Has Γ.P f 53 (qg jc f) r_ref01_formed) (z0 : yL Γ jc) : Kh Γ f := by
  suffices H : ∀ (kk : Nat), ∀ (x : Ql) (hx : x.siz < 2 ^ 40), x.siz < kk → EvN Γ f [x.v] (V.bool x.fB) from fun x hx => H _ x hx (Nat.lt_succ_self _)
  intro kk; induction kk with
  | zero => intros; rename_i hk; exact absurd hk (Nat.not_lt_zero _)
  | succ kk ih =>
  intro x hx hk
  refine Qb h zsi zcl zcl fun C hC hm => ?_
  subst hC
  unfold qg
  obtain ⟨t, b, n, es⟩ := x
  simp only [Ql.v_eq, Ql.fB]
  have hsz : xh es < (Ql.mk t b n es).siz := by rw [Ql.siz]; omega
  have hle := qS es
  have htg := (z0 t).b
  have hlb : ((JC b).length : Int) = (b.length : Int) := by rw [Xn]
  have hle2 : ((es.map Ql.v).length : Int) = (es.length : Int) := by rw [List.length_map]
  have hdl : hdB t b n es = (aii t && (!(n != ((t.tdiv 32).tmod 2 == 1)) && (!(n && decide ((b.length : Int) > 0)) && !(!n && decide ((es.length : Int) > 0))))) := rfl
  refine ai6 fun K' hK => ?_
  simp (maxSteps := 1000000) only [go_sem, Nat.reduceAdd, Nat.reduceMul, Nat.reduceEqDiff, Nat.reduceLeDiff, Nat.reduceLT, Nat.reduceSub, Int.reduceEq, Int.reduceBEq, Int.reduceLT, Int.reduceLE, Int.reduceAdd, Int.reduceToNat, reduceIte, reduceCtorEq]
  refine hK _ ?_
  clear hK
  clear K'
  (try simp only [go_sem, Nat.reduceAdd, Nat.reduceMul, Nat.reduceEqDiff, Nat.reduceLeDiff, Nat.reduceLT, Nat.reduceSub, Int.reduceEq, Int.reduceBEq, Int.reduceLT, Int.reduceLE, Int.reduceAdd, Int.reduceToNat, reduceIte, reduceCtorEq])
  refine anP (ι := Unit) (fun _ => hdB t b n es = true) (fun _ => JY [(1, .ptr 0 0)] [(0, .box true [V.int t, .sl 1 (JC b), V.bool n, .sl 4 (es.map Ql.v)])] 1) (fun K' hK' => ?_) (fun _ hgood => ?_)
  · rcases h1 : aii t with _ | _
    · have hf : hdB t b n es = false := by rw [hdl, h1]; rfl
      rw [hf]
      rw [h1] at htg
      exact zg
    · rw [h1] at htg
      have htb := aku h1
      have hwq : IntKind.i64.wrap (t.tdiv 32) = t.tdiv 32 := by
        rw [Int.tdiv_eq_ediv_of_nonneg (by omega)]; exact QE (by omega) (by omega)
      rcases n with _ | _ <;> rcases h3 : ((t.tdiv 32).tmod 2 == 1) with _ | _ <;> rcases h4 : decide ((b.length : Int) > 0) with _ | _ <;> rcases h5 : decide ((es.length : Int) > 0) with _ | _
      all_goals
        rw [h1, h3, h4, h5] at hdl
        simp only [Bool.not_true, Bool.not_false, Bool.and_true, Bool.and_false, Bool.true_and, Bool.false_and, Bool.bne_true, Bool.bne_false, Bool.true_bne, Bool.false_bne, bne_self_eq_false] at hdl
        (have zx := And.intro hlb (And.intro hle2 (And.intro hwq (And.intro h3 (And.intro h4 h5))))); refine zgo ?_; repeat' first | exact zt | apply zan | intro hc
      all_goals first | (rw [hdl]; refine Qi _ rfl ?_; simp only [go_sem, Nat.reduceEqDiff, Nat.reduceAdd, reduceIte, reduceCtorEq]; done) | exact hK' _ () (Qd []) hdl (zwg []) | trace_state
  · rw [hgood, Bool.true_and]
    simp only [JY]
    refine zgo ?_; repeat' first | exact zt | apply zan | intro hc
    refine Jz (ι := Nat) (fun k => k ≤ es.length ∧ fL (es.drop k) = fL es) (fun k => [(3, V.int k)]) (fun k => es.length - k) 0 (by omega) ⟨Nat.zero_le _, by simp⟩ zol zlt zet fun k hk K' hL => ?_
    obtain ⟨hk, hinv⟩ := hk
    simp only [ovT, Xs, Nat.reduceEqDiff, reduceIte]
    rcases hd : es.drop k with _ | ⟨y, r⟩
    · have hkl := QB hd
      have e1 : decide ((k : Int) < (((es.map Ql.v).length : Nat) : Int)) = false := by simp; omega
      rw [hd] at hinv
      rw [← hinv, fL]
      (have zx := e1); exact zg
    · obtain ⟨hk', hget, hr⟩ := Qo hd
      rw [hd, fL] at hinv
      have hw := Qg (k := k) (by omega)
      have e1 : decide ((k : Int) < (((es.map Ql.v).length : Nat) : Int)) = true := by simp; omega
      have hys := j0 hget
      obtain ⟨yt, yb, yn, ye⟩ := y
      have hi := (ih (.mk yt yb yn ye) (by omega) (by omega)).b
      rw [Ql.v_eq] at hi
      rcases hy : (Ql.mk yt yb yn ye).fB with _ | _
      · rw [hy] at hi
        rw [ao5 hget hy]
        (have zx := And.intro e1 (And.intro hw hget)); exact zg
      · rw [hy, Bool.true_and] at hinv
        rw [hy] at hi
        (have zx := And.intro e1 (And.intro hw hget)); refine zgo ?_; repeat' first | exact zt | apply zan | intro hc
        all_goals first | exact hL _ (k + 1) zet ⟨hk', by rw [hr, ← hinv]⟩ (by omega) zoe | trace_state
def ah2 : Nat → Nat → List UInt8 → List UInt8
  | 0, _, b => b
  | k + 1, n, b => if n = 0 then b else ah2 k (n / 256) (u8i ((n % 256 : Nat) : Int) :: b)
def beB (n : Nat) : List UInt8 := ah2 8 n []
def aaZ (n : Nat) : List UInt8 := if n < 128 then [u8i n] else u8i ((128 + (beB n).length : Nat) : Int) :: beB n
theorem ai5 : ∀ (k n : Nat) (b : List UInt8), (ah2 k n b).length ≤ k + b.length
  | 0, _, b => by rw [ah2]; omega
  | k + 1, n, b => by
    rw [ah2]; split
    · omega
    · have := ai5 k (n / 256) (u8i ((n % 256 : Nat) : Int) :: b)
      rw [List.length_cons] at this; omega
theorem apy (n : Nat) : (beB n).length ≤ 8 := ai5 8 n []
theorem aiB (n : Nat) : (aaZ n).length ≤ 9 := by
  have := apy n
  rw [aaZ]; split
  · simp
  · rw [List.length_cons]; omega
theorem VO (t : List UInt8) : List.take t.length (t.map fun c => V.sc (.int .u8 c.toNat)) = t.map fun c => V.sc (.int .u8 c.toNat) := List.take_of_length_le (by simp)
def VW := qd Proofs.Tryz.f118 []
def Kg (Γ : Env) (f : Nat) : Prop := ∀ (n : Nat) (hn : n < 2 ^ 60), EvC Γ f [V.int n] (.sl 1 (JC (aaZ n)))
attribute [local go_sem] WF JY in
theorem acC {Γ : Env} {f : Nat} (h : Has Γ.P f 26 VW.1.1.ac VW.1.2)  : Kg Γ f := by
  intro n hn
  refine Qm h zsi zcl fun C hC hm => ?_
  subst hC
  simp only [VW, qd, DC.ac]
  have hu := Ky
  by_cases h1 : n < 128
  · have e1 : decide ((n : Int) < 128) = true := by simp; omega
    have hl : aaZ n = [u8i n] := by rw [aaZ, if_pos h1]
    rw [hl]
    (have zx := And.intro e1 hu); exact zg
  · have e1 : decide ((n : Int) < 128) = false := by simp; omega
    have hl : aaZ n = u8i ((128 + (beB n).length : Nat) : Int) :: beB n := by rw [aaZ, if_neg h1]
    rw [hl]
    (have zx := e1); refine zgo ?_; repeat' first | exact zt | apply zan | intro hc
    have hp8 : (256 : Nat) ^ 8 = 18446744073709551616 := by decide
    refine Qp (ι := Nat × Nat × List UInt8) (fun q => ah2 q.1 q.2.1 q.2.2 = beB n ∧ q.2.1 < 256 ^ q.1 ∧ q.2.2.length + q.1 = 8 ∧ q.2.1 ≤ n) (fun q => JY [(0, V.int q.2.1), (3, .hd 0 0 q.2.2.length)] [(0, .buf true 1 (JC q.2.2))] 1) (fun q => q.1) (8, n, []) ⟨rfl, by simp only [hp8]; omega, rfl, Nat.le_refl _⟩ (Qd [(0, 3000)]) (Qh [(0, 3000)] (by simp only [go_sem, zwl, Nat.reduceAdd, Nat.reduceMul, Nat.reduceEqDiff, Nat.reduceLT, Int.reduceToNat, reduceIte, reduceCtorEq, List.length_nil] <;> exact zcc) (by simp only [go_sem, zwl, Nat.reduceAdd, Nat.reduceMul, Nat.reduceEqDiff, Nat.reduceLT, Int.reduceToNat, reduceIte, reduceCtorEq, JC, List.map_nil] <;> exact zcc) (by simp [Qd]) (by simp; omega) (by omega)) fun q hq K' hL => ?_
    obtain ⟨j, m, c⟩ := q
    simp only at hq hL ⊢
    obtain ⟨g1, g2, g3, g4⟩ := hq
    have htk := VO c
    by_cases hm0 : m = 0
    · subst hm0
      have g1 : c = beB n := by
        rw [← g1]
        cases j with
        | zero => rfl
        | succ j => rw [ah2, if_pos rfl]
      subst g1
      have hgt : decide (((0 : Nat) : Int) > 0) = false := rfl
      have hlb : (128 : Int) + ((beB n).length : Int) = ((128 + (beB n).length : Nat) : Int) := by omega
      have hw1 : IntKind.i64.wrap ((128 + (beB n).length : Nat) : Int) = ((128 + (beB n).length : Nat) : Int) := QE (by omega) (by omega)
      (have zx := And.intro hgt (And.intro hlb (And.intro hw1 (And.intro hu htk)))); refine zgo ?_; repeat' first | exact zt | apply zan | intro hc
      all_goals first | (refine Qi _ rfl ?_; simp only [go_sem, Nat.reduceEqDiff, Nat.reduceAdd, reduceIte, reduceCtorEq, JC, List.map_cons, Nat.add_comm 1, List.length_map, List.take_succ_cons, List.drop_zero, htk]; done) | trace_state
    · rcases j with _ | j
      · rw [Nat.pow_zero] at g2; omega
      have hgt : decide ((m : Int) > 0) = true := by simp; omega
      have e3 : ((m : Int).tmod 256) = ((m % 256 : Nat) : Int) := by rw [Int.tmod_eq_emod_of_nonneg (by omega)]; omega
      have e4 : IntKind.i64.wrap ((m : Int).tdiv 256) = ((m / 256 : Nat) : Int) := by rw [Int.tdiv_eq_ediv_of_nonneg (by omega)]; rw [QE (by omega) (by omega)]; omega
      rw [ah2, if_neg hm0] at g1
      rw [Nat.pow_succ] at g2
      (have zx := And.intro hgt (And.intro e3 (And.intro e4 (And.intro hu htk)))); refine zgo ?_; repeat' first | exact zt | apply zan | intro hc
      all_goals exact hL _ (j, m / 256, u8i ((m % 256 : Nat) : Int) :: c) (Qd [(0, 7001)]) ⟨g1, Nat.div_lt_of_lt_mul (by rw [Nat.mul_comm]; exact g2), by simp only [List.length_cons]; omega, Nat.le_trans (Nat.div_le_self _ _) g4⟩ (Nat.lt_succ_self _) (Qh [(0, 7001)] (by simp only [go_sem, zwl, Nat.reduceAdd, Nat.reduceMul, Nat.reduceEqDiff, Nat.reduceLT, Int.reduceToNat, reduceIte, reduceCtorEq, JC, List.map_cons, List.length_cons, List.length_map, Nat.add_comm 1] <;> exact zcc) (by simp only [go_sem, zwl, Nat.reduceAdd, Nat.reduceMul, Nat.reduceEqDiff, Nat.reduceLT, Int.reduceToNat, reduceIte, reduceCtorEq, JC, List.map_cons] <;> exact zcc) (by simp [Qd]) (by simp; omega) (by omega))
mutual
def Ql.pB : Ql → List UInt8
  | .mk t b _ es => u8i t :: (aaZ (b ++ pL es).length ++ (b ++ pL es))
def pL : List Ql → List UInt8
  | [] => []
  | x :: r => x.pB ++ pL r
end
mutual
theorem ais : ∀ x : Ql, x.pB.length ≤ 10 * x.siz
  | .mk t b _ es => by
    have := an1 es
    have h2 := aiB (b ++ pL es).length
    rw [Ql.pB, Ql.siz, List.length_cons, List.length_append]
    rw [List.length_append] at *
    omega
theorem an1 : ∀ es : List Ql, (pL es).length ≤ 10 * xh es
  | [] => Nat.le_refl _
  | x :: r => by have := ais x; have := an1 r; rw [pL, xh, List.length_append]; omega
end
theorem akL {es : List Ql} {k : Nat} {y : Ql} (h : es[k]? = some y) : pL (es.take (k + 1)) = pL (es.take k) ++ y.pB := by
  induction es generalizing k with
  | nil => simp at h
  | cons x r ih =>
    cases k with
    | zero => simp at h; subst h; simp [pL]
    | succ k => rw [List.take_succ_cons, List.take_succ_cons, pL, pL, ih (by simpa using h), List.append_assoc]
theorem ajw (es : List Ql) (k : Nat) : (pL (es.take k)).length ≤ 10 * xh es := by
  induction es generalizing k with
  | nil => simp [pL]
  | cons x r ih =>
    cases k with
    | zero => simp [pL]
    | succ k => have := ih k; have := ais x; rw [List.take_succ_cons, pL, xh, List.length_append]; omega
def vK : List (List Nat) := [[], [0], [1], [2], [], [4], [5], [3, 6, 6], [], [7, 8, 7], [9, 9, 0, 1, 2, 3, 4, 5, 6, 7, 8, 9]]
def wv : OT := och 0 11
@[go_sem] def qV (Ja : Nat) : OP := oN 0 (fa 24 0 1) (oN 1 (ld 25 1 24) (oN 2 (xo 26 (.convI .u8 (.t 25))) (oN 3 (xo 27 (.bslice 1 1 false [(.int .u8 0)] [(0, (.t 26))])) (oN 4 (mv 28 3) (oN 5 (ln 29 28) (oN 6 (cl 30 Ja [29]) (.one 7 true [6, 3] (xo 31 (.append 1 1 [(.int .u8 0)] (.t 27) (.t 30))) (oN 8 (mv 32 3) (.one 9 true [7, 6, 3] (xo 33 (.append 1 1 [(.int .u8 0)] (.t 31) (.t 32))) (oN 10 (mv 2 33) .done))))))))))
def wI (Ja : Nat) : List AO := aoO (qV Ja)
instance (Ja : Nat) : RG [] wv (qV Ja) (wI Ja) vK 11 (fun _ => true) := ⟨rfl, by kernel_rfl, by kernel_rfl⟩
def wc (ahG Ja : Nat) : AC := Yq [1] (.reg [xo 1 (.box true 4 (.t 0)), xo 2 (.mknil 1)]) (Yq [1, 3] (.reg [xo 5 (.bslice 0 1 false [(.int .u8 0)] []), fa 6 1 1, ld 7 1 6, xo 8 (.append 1 1 [(.int .u8 0)] (.t 5) (.t 7)), mv 3 8]) (Yq [1, 3] (Yq [1, 3, 4] (.reg [mc 4 (V.int 0)]) (.block 0 (abl [1, 3, 4] (Yq [1, 3, 4] (Yq [1, 3, 4, 13] (.reg [mv 9 4, fa 10 3 1, ld 11 1 10, ln 12 11, bn 13 .lss 9 12]) (.cond (.t 13) .skip (.exit 0))) (Yq [1, 3, 4] (.block 1 (.reg [mv 16 3, fa 17 3 1, ld 18 1 17, mv 19 4, ia 20 4 18 19, xo 21 (.load true 4 (.t 20)), cl 22 ahG [21], xo 23 (.append 1 1 [(.int .u8 0)] (.t 16) (.t 22)), mv 3 23])) (.reg [mv 14 4, bc 15 .add 14 (V.int 1), mv 4 15])))))) (Yq [2] (aoB [] wv (qV Ja) (wI Ja) vK) .ret))) def r_ref01_put : List Vz := [.tmp 2]
def yM (Γ : Env) (f : Nat) : Prop := ∀ (x : Ql) (hx : x.siz < 2 ^ 35), EvC Γ f [x.v] (.sl 1 (JC x.pB))
attribute [local go_sem] List.length_map Ql.v_eq WF JY in
theorem agi {Γ : Env} {f Ja : Nat} (h : Has Γ.P f 34 (wc f Ja) r_ref01_put) (z0 : Kg Γ Ja) : yM Γ f := by
  suffices H : ∀ (kk : Nat), ∀ (x : Ql) (hx : x.siz < 2 ^ 35), x.siz < kk → EvC Γ f [x.v] (.sl 1 (JC x.pB)) from fun x hx => H _ x hx (Nat.lt_succ_self _)
  intro kk; induction kk with
  | zero => intros; rename_i hk; exact absurd hk (Nat.not_lt_zero _)
  | succ kk ih =>
  intro x hx hk
  refine Qm h zsi zcl fun C hC hm => ?_
  subst hC
  unfold wc
  obtain ⟨t, b, n, es⟩ := x
  simp only [Ql.v_eq]
  have hss : (Ql.mk t b n es).siz = 1 + b.length + xh es := by rw [Ql.siz]
  have hle := qS es
  have hu := Ky
  have htb := VO b
  (have zx := htb); refine zgo ?_; repeat' first | exact zt | apply zan | intro hc
  refine Qp (ι := Nat) (fun k => k ≤ es.length) (fun k => JY [(1, .ptr 0 0), (3, .hd 1 0 (b ++ pL (es.take k)).length), (4, V.int k)] [(0, .box true [V.int t, .sl 1 (JC b), V.bool n, .sl 4 (es.map Ql.v)]), (1, .buf true 1 (JC (b ++ pL (es.take k))))] 2) (fun k => es.length - k) 0 (Nat.zero_le _) (Qd [(1, 5000)]) (Qh [(1, 5000)] (by simp only [go_sem, zwl, Nat.reduceAdd, Nat.reduceMul, Nat.reduceEqDiff, Nat.reduceLT, Int.reduceToNat, reduceIte, reduceCtorEq, JC, List.length_map, List.take_zero, pL, List.append_nil] <;> exact zcc) (by simp only [go_sem, zwl, Nat.reduceAdd, Nat.reduceMul, Nat.reduceEqDiff, Nat.reduceLT, Int.reduceToNat, reduceIte, reduceCtorEq, JC, List.take_zero, pL, List.append_nil] <;> exact zcc) (by simp [Qd]) (by simp; omega) (by omega)) fun k hk K' hL => ?_
  have hab := ajw es k
  have hll : (b ++ pL (es.take k)).length = b.length + (pL (es.take k)).length := List.length_append
  rcases hd : es.drop k with _ | ⟨y, r⟩
  · have hkl := QB hd
    have e1 : decide ((k : Int) < (((es.map Ql.v).length : Nat) : Int)) = false := by simp; omega
    rw [List.take_of_length_le hkl] at *
    have hlg := (z0 (b ++ pL es).length (by omega)).b
    have hl9 := aiB (b ++ pL es).length
    have hpb : (Ql.mk t b n es).pB = u8i t :: (aaZ (b ++ pL es).length ++ (b ++ pL es)) := by rw [Ql.pB]
    rw [hpb]
    generalize b ++ pL es = a at *
    have hta := VO a
    have htl := VO (aaZ a.length)
    have hT1 : ∀ v : V, List.take (1 + (aaZ a.length).length) (v :: JC (aaZ a.length)) = v :: JC (aaZ a.length) := fun v => List.take_of_length_le (by simp [Nat.add_comm])
    (have zx := And.intro e1 (And.intro hu (And.intro hta (And.intro htl hT1)))); refine zgo ?_; repeat' first | exact zt | apply zan | intro hc
    all_goals (refine Qi _ rfl ?_; simp only [go_sem, Nat.reduceEqDiff, Nat.reduceAdd, reduceIte, reduceCtorEq, List.drop_zero]; rw [List.take_of_length_le (by simp; omega)]; simp [JC])
  · obtain ⟨hk', hget, hr⟩ := Qo hd
    have hw := Qg (k := k) (by omega)
    have e1 : decide ((k : Int) < (((es.map Ql.v).length : Nat) : Int)) = true := by simp; omega
    have hys := j0 hget
    have htk := akL hget
    have hyl := ais y
    obtain ⟨yt, yb, yn, ye⟩ := y
    have hi := (ih (.mk yt yb yn ye) (by omega) (by omega)).b
    rw [Ql.v_eq] at hi
    generalize (Ql.mk yt yb yn ye).pB = p at *
    have hnx : b ++ pL (es.take (k + 1)) = (b ++ pL (es.take k)) ++ p := by rw [htk, List.append_assoc]
    generalize hA : b ++ pL (es.take k) = a at *
    have hta := VO a
    (have zx := And.intro e1 (And.intro hw (And.intro hget hta))); refine zgo ?_; repeat' first | exact zt | apply zan | intro hc
    all_goals exact hL _ (k + 1) (Qd [(1, 12002)]) hk' (by omega) (Qh [(1, 12002)] (by simp only [go_sem, zwl, Nat.reduceAdd, Nat.reduceMul, Nat.reduceEqDiff, Nat.reduceLT, Int.reduceToNat, reduceIte, reduceCtorEq, hnx, List.length_append] <;> exact zcc) (by simp only [go_sem, zwl, Nat.reduceAdd, Nat.reduceMul, Nat.reduceEqDiff, Nat.reduceLT, Int.reduceToNat, reduceIte, reduceCtorEq, hnx, JC, List.map_append] <;> exact zcc) (by simp [Qd]) (by simp; omega) (by omega))
section
variable {C : Ctx} {nt : Nat} {s : St} {K : St → Prop} {E : Nat → St → Prop} {R : St → Prop}
theorem aef {ks : List Nat} {x : AC} {ι : Type} (good : ι → Prop) (inv : ι → St) (msr : ι → Nat) (i0 : ι) (h0 : good i0) (hw : Cl C.m s (inv i0))
    (h : ∀ i, good i → ∀ K' : St → Prop, (∀ s' i', good i' → msr i' < msr i → Cl C.m s' (inv i') → K' s') → AWp C nt x (inv i) K' E R) : AWp C nt (abl ks x) s K E R :=
  ama good inv msr ⟨i0, h0, hw⟩ fun i hi => h i hi _ fun _ i' h1 h2 h3 => ⟨i', h1, h2, h3⟩
end
def arl (l : List Ql) (k : Nat) : St := stL [(0, .sl 4 (l.map Ql.v)), (3, .hd 0 0 k), (4, V.int k)] [.buf true 4 ((l.take k).map Ql.v)]
theorem vU {o : Nat → Option Ob} {br : List Nat} {B : Option (List Nat)} {ys zs : List V} (h : yy o br B ys zs) : ∀ l : List Ql, yy o br B (l.map Ql.v ++ ys) (l.map Ql.v ++ zs)
  | [] => h
  | x :: r => ⟨by obtain ⟨t, b, n, es⟩ := x; rw [Ql.v_eq]; exact Q4 _ _ _ _ (by simp [V.cells, Qc, V.closed]), vU h r⟩
theorem agt {o : Nat → Option Ob} {br : List Nat} {n : Nat} {t : Int} {b : List UInt8} {q : Bool} {es : List V} (h : o n = some (.buf true 1 (JC b))) (hn : n ∉ br) :
    Jh o br none [V.int t, .hd n 0 (JC b).length, V.bool q, .sl 4 es] [V.int t, .sl 1 (JC b), V.bool q, .sl 4 es] := by
  refine ⟨by simp [conv, V.int], ?_, by simp [conv, V.bool], by simp [conv], trivial⟩
  simp only [conv]
  exact ⟨trivial, hn, .inl ⟨true, _, h, by rw [List.drop_zero, List.take_of_length_le (Nat.le_refl _)]⟩⟩
theorem jZ : ∀ l : List Ql, wa (l.map Ql.v)
  | [] => trivial
  | x :: r => ⟨by obtain ⟨t, b, n, es⟩ := x; rw [Ql.v_eq]; simp [V.cells, Qc, V.closed], jZ r⟩
def qh (adf : Nat) : AC := Yq [0] (.reg [xo 2 (.mknil 4)]) (Yq [0, 3] (.reg [xo 3 (.mknil 4)]) (Yq [3] (Yq [0, 3, 4] (.reg [mc 4 (V.int 0)]) (.block 0 (abl [0, 3, 4] (Yq [0, 3, 4] (Yq [0, 3, 4, 9] (.reg [mv 6 4, mv 7 0, ln 8 7, bn 9 .lss 6 8]) (.cond (.t 9) .skip (.exit 0))) (Yq [0, 3, 4] (.block 1 (Yq [0, 3, 4, 5] (.reg [mv 12 0, mv 13 4, ia 14 4 12 13, xo 15 (.load true 4 (.t 14)), xo 5 (.alloc [.val vi0, .nil 1, .val (.bool false), .nil 4]), xs 4 5 15]) (Yq [0, 3, 4, 5] (.reg [xo 16 (.bslice 0 1 false [(.int .u8 0)] []), fa 17 1 5, ld 18 1 17, xo 19 (.append 1 1 [(.int .u8 0)] (.t 16) (.t 18)), fa 20 1 5, xs 1 20 19]) (Yq [0, 3, 4, 5] (.reg [fa 21 3 5, ld 22 1 21, cl 23 adf [22], fa 24 3 5, xs 1 24 23]) (.reg [mv 25 3, xo 26 (.load true 4 (.t 5)), xo 27 (.obslice 1 4 true [vi0, vn0, (.bool false), vn0] [(0, (.t 26))]), xo 28 (.append 4 64 [vi0, vn0, (.bool false), vn0] (.t 25) (.t 27)), mv 3 28]))))) (.reg [mv 10 4, bc 11 .add 10 (V.int 1), mv 4 11])))))) (Yq [2] (.reg [mv 29 3, mv 2 29]) .ret))) def r_ref01_copies : List Vz := [.tmp 2]
def Ki (Γ : Env) (f : Nat) : Prop := ∀ (l : List Ql) (hx : xh l < 2 ^ 33), EvC Γ f [.sl 4 (l.map Ql.v)] (.sl 4 (l.map Ql.v))
attribute [local go_sem] Ql.v_eq WF in
theorem acE {Γ : Env} {f : Nat} (h : Has Γ.P f 30 (qh f) r_ref01_copies)  : Ki Γ f := by
  suffices H : ∀ (kk : Nat), ∀ (l : List Ql) (hx : xh l < 2 ^ 33), xh l < kk → EvC Γ f [.sl 4 (l.map Ql.v)] (.sl 4 (l.map Ql.v)) from fun l hx => H _ l hx (Nat.lt_succ_self _)
  intro kk; induction kk with
  | zero => intros; rename_i hk; exact absurd hk (Nat.not_lt_zero _)
  | succ kk ih =>
  intro l hx hk
  refine Qm h zsi zcl fun C hC hm => ?_
  subst hC
  unfold qh
  have hle := qS l
  refine zgo ?_; repeat' first | exact zt | apply zan | intro hc
  refine aef (ι := Nat) (fun k => k ≤ l.length) (fun k => arl l k) (fun k => l.length - k) 0 (Nat.zero_le _) ?_ fun k hk K' hL => ?_
  · refine anF [1000] none (fun p hp => ?_) ?_ (by simp) (by rw [hm]; rfl)
    · simp only [List.mem_cons, List.not_mem_nil, or_false] at hp
      rcases hp with rfl | rfl | rfl
      · exact J9 _ _ _ (.sl 4 _) trivial
      · show conv _ _ _ (.hd 1000 0 0) (.hd 0 0 0)
        simp [conv]
      · exact J9 _ _ _ (V.int 0) trivial
    · exact ⟨⟨_, rfl, fun h => h, rfl, rfl⟩, trivial⟩
  have hlm : (l.map Ql.v).length = l.length := List.length_map _
  rcases hd : l.drop k with _ | ⟨y, r⟩
  · have hkl := QB hd
    have e1 : decide ((k : Int) < ((l.length : Nat) : Int)) = false := by simp; omega
    obtain rfl : k = l.length := by omega
    simp only [arl, stL, List.take_length]
    (have zx := And.intro e1 hlm); refine zgo ?_; repeat' first | exact zt | apply zan | intro hc
    all_goals
      refine Qi _ rfl ?_
      show conv _ _ _ (.hd 0 0 l.length) (.sl 4 _)
      simp only [conv]
      exact ⟨trivial, by simp, .inl ⟨true, _, rfl, by rw [List.drop_zero, List.take_of_length_le (by simp)]⟩⟩
  · obtain ⟨hk', hget, hr⟩ := Qo hd
    have hw := Qg (k := k) (by omega)
    have e1 : decide ((k : Int) < ((l.length : Nat) : Int)) = true := by simp; omega
    have hys := j0 hget
    obtain ⟨yt, yb, yn, ye⟩ := y
    have hss : (Ql.mk yt yb yn ye).siz = 1 + yb.length + xh ye := by rw [Ql.siz]
    have hi := (ih ye (by omega) (by omega)).b
    have htb := VO yb
    simp only [arl, stL]
    (have zx := And.intro e1 (And.intro hlm (And.intro hw (And.intro hget htb)))); refine zgo ?_; repeat' first | exact zt | apply zan | intro hc
    all_goals
      refine hL _ (k + 1) hk' (by omega) (anF [24001] none (fun p hp => ?_) ?_ (by simp) (by rw [hm]; rfl))
      · simp only [List.mem_cons, List.not_mem_nil, or_false] at hp
        rcases hp with rfl | rfl | rfl
        · exact J9 _ _ _ (.sl 4 _) trivial
        · show conv _ _ _ (.hd 24001 0 (k + 1)) (.hd 0 0 (k + 1))
          simp [conv]
        · exact J9 _ _ _ (V.int (k + 1 : Nat)) trivial
      · refine ⟨⟨_, rfl, fun h => h, rfl, ?_, jZ _⟩, trivial⟩
        have hA : List.take k ((l.take k).map Ql.v) = (l.take k).map Ql.v := List.take_of_length_le (by rw [List.length_map, List.length_take]; omega)
        have hB : l.take (k + 1) = l.take k ++ [.mk yt yb yn ye] := by rw [List.take_add_one, hget]; rfl
        rw [hB, List.map_append]
        show yy _ _ _ (List.take k ((l.take k).map Ql.v) ++ [V.agg [V.int yt, .hd 13001 0 (JC yb).length, V.bool yn, .sl 4 (ye.map Ql.v)]]) _
        rw [hA]
        refine vU ?_ _
        show yy _ _ _ [V.agg [V.int yt, .hd 13001 0 (JC yb).length, V.bool yn, .sl 4 (ye.map Ql.v)]] [Ql.v (.mk yt yb yn ye)]
        rw [Ql.v_eq]
        exact ⟨agt rfl (by decide), trivial⟩
def ajj (l : List Ql) : Ql := .mk 48 [] true l
def aek (s : List UInt8) : Ql := .mk 12 s false []
def KO := qd Proofs.Tryz.f48 []
def jE (Γ : Env) (f : Nat) : Prop := ∀ (l : List Ql) (hx : xh l < 2 ^ 33), EvC Γ f [.sl 4 (l.map Ql.v)] ((ajj l).v)
theorem aeS {Γ : Env} {f : Nat} (h : Has Γ.P f 6 KO.1.1.ac KO.1.2) (z0 : Ki Γ 82) : jE Γ f := by
  intro l hx
  refine Qm h zsi (Ql.v_closed _) fun C hC hm => ?_
  subst hC
  simp only [KO, qd, DC.ac]
  simp only [ajj, Ql.v_eq]
  exact zg
def KN := qd Proofs.Tryz.f46 []
def jD (Γ : Env) (f : Nat) : Prop := ∀ (s : List UInt8) (hs : s.length < 2 ^ 33), EvC Γ f [V.str s] ((aek s).v)
theorem aeR {Γ : Env} {f : Nat} (h : Has Γ.P f 6 KN.1.1.ac KN.1.2)  : jD Γ f := by
  intro s hs
  refine Qm h zsi (Ql.v_closed _) fun C hC hm => ?_
  subst hC
  simp only [KN, qd, DC.ac]
  simp only [aek, Ql.v_eq]
  have htk := VO s
  refine zgo ?_; repeat' first | exact zt | apply zan | intro hc
  all_goals first | exact zr | (refine Qi _ rfl ?_; simp only [go_sem, Nat.reduceEqDiff, Nat.reduceAdd, reduceIte, reduceCtorEq, htk]; done) | trace_state
def aof (x : Ql) : V := if x.fB = false then .tup [.sl 1 [], V.int 1] else if x.dep > 16 then .tup [.sl 1 [], V.int 3] else if x.pB.length > 4096 then .tup [.sl 1 [], V.int 3] else .tup [.sl 1 (JC x.pB), V.int 0]
theorem acP (x : Ql) : (aof x).closed := by
  unfold aof
  repeat' split
  all_goals simp only [V.closed, Qc, and_self]
def VX := qd Proofs.Tryz.f47 []
def Kj (Γ : Env) (f : Nat) : Prop := ∀ (x : Ql) (hx : x.siz < 2 ^ 35), EvC Γ f [x.v] (aof x)
theorem acF {Γ : Env} {f : Nat} (h : Has Γ.P f 17 VX.1.1.ac VX.1.2) (z0 : Kh Γ 79) (z1 : qq Γ 80) (z2 : yM Γ 81) : Kj Γ f := by
  intro x hx
  refine Qm h zsi (acP _) fun C hC hm => ?_
  subst hC
  simp only [VX, qd, DC.ac]
  have hf := (z0 x (by omega)).b
  have hd := (z1 x (by omega)).b
  have hp := (z2 x hx).b
  have he : aof x = if x.fB = false then .tup [.sl 1 [], V.int 1] else if x.dep > 16 then .tup [.sl 1 [], V.int 3] else if x.pB.length > 4096 then .tup [.sl 1 [], V.int 3] else .tup [.sl 1 (JC x.pB), V.int 0] := rfl
  rw [he]
  generalize x.pB = p at *
  generalize x.dep = d at *
  generalize x.fB = q at *
  obtain ⟨t, b, n, es⟩ := x
  rw [Ql.v_eq] at *
  rcases q with _ | _
  · rw [if_pos rfl]
    exact zg
  · rw [if_neg (by decide)]
    by_cases h2 : d > 16
    · rw [if_pos h2]
      have e2 : decide ((d : Int) > 16) = true := by simp; omega
      (have zx := e2); exact zg
    · rw [if_neg h2]
      have e2 : decide ((d : Int) > 16) = false := by simp; omega
      have hpl : ((JC p).length : Int) = (p.length : Int) := by rw [Xn]
      by_cases h3 : p.length > 4096
      · rw [if_pos h3]
        have e3 : decide ((p.length : Int) > 4096) = true := by simp; omega
        (have zx := And.intro e2 (And.intro hpl e3)); exact zg
      · rw [if_neg h3]
        have e3 : decide ((p.length : Int) > 4096) = false := by simp; omega
        (have zx := And.intro e2 (And.intro hpl e3)); exact zg
theorem arS {n : Int} {k : Nat} (hk : k < 8) : IntKind.u8.wrap ((IntKind.u64.wrap n).fdiv (2 ^ ((56 : Int) - 8 * (k : Int)).toNat)) = ((u8i (hiI n (7 - k))).toNat : Int) := by
  have e : IntKind.u64.wrap n = n % 18446744073709551616 := by
    have e1 : IntKind.u64.bits = 64 := rfl
    have e2 : IntKind.u64.signed = false := rfl
    simp only [IntKind.wrap, e1, e2, Bool.false_and]; simp
  rw [Ky, vW, vW, e]
  have hq : k = 0 ∨ k = 1 ∨ k = 2 ∨ k = 3 ∨ k = 4 ∨ k = 5 ∨ k = 6 ∨ k = 7 := by omega
  rcases hq with rfl | rfl | rfl | rfl | rfl | rfl | rfl | rfl
  all_goals
    simp only [Nat.reduceSub, hiI, Int.fdiv_eq_ediv_of_nonneg _ (show (0 : Int) ≤ 256 by decide)]
    rw [Int.fdiv_eq_ediv_of_nonneg _ (by decide)]
    simp
    try omega
theorem akt (n : Int) : ∀ (m k : Nat), k < m → (tbI n m)[k]? = some (u8i (hiI n (m - 1 - k)))
  | m + 1, 0, _ => rfl
  | m + 1, k + 1, h => by
    rw [tbI, List.getElem?_cons_succ, akt n m k (by omega)]
    congr 3; omega
def arm (l : List Ql) (k : Nat) : St := stL [(3, .hd 0 0 k), (6, .sl 4 (l.map Ql.v)), (7, V.int (l.map Ql.v).length), (8, V.int k)] [.buf true 4 ((l.take k).map Ql.v)]
def alU (n : Int) (k : Nat) : St := JY [(0, V.int n), (2, .ptr 0 0), (3, .hd 1 0 k), (4, V.int (56 - 8 * (k : Int)))] [(0, .box true [V.int 0, .hd 2 0 0, V.bool false, .hd 3 0 0]), (1, .buf true 1 (JC ((tbI n 8).take k))), (2, .buf true 1 []), (3, .buf true 4 [])] 4
def alT (n : Int) (j : Nat) : St := JY [(2, .ptr 0 0), (3, .hd 1 j (8 - j))] [(0, .box true [V.int 0, .hd 2 0 0, V.bool false, .hd 3 0 0]), (1, .buf true 1 (JC (tbI n 8))), (2, .buf true 1 []), (3, .buf true 4 [])] 4
def vJ := qd Proofs.Tryz.f162 []
def aaV (Γ : Env) (f : Nat) : Prop := ∀ (n : Int) (h0 : -9223372036854775808 ≤ n) (h1 : n < 9223372036854775808), EvC Γ f [V.int n] ((WC n).v)
attribute [local go_sem] JY in
theorem ajW {Γ : Env} {f : Nat} (h : Has Γ.P f 48 vJ.1.1.ac vJ.1.2)  : aaV Γ f := by
  intro n h0 h1
  refine Qm h zsi (Ql.v_closed _) fun C hC hm => ?_
  subst hC
  simp only [vJ, qd, DC.ac]
  simp only [WC, Ql.v_eq]
  have h56 : (56 : Int) - 8 * ((0 : Nat) : Int) = 56 := by decide
  refine zgo ?_; repeat' first | exact zt | apply zan | intro hc
  refine Qp (ι := Nat) (fun k => k ≤ 8) (fun k => alU n k) (fun k => 8 - k) 0 (Nat.zero_le _) (Qd [(1, 1000), (3, 4)]) (Qh [(1, 1000), (3, 4)] (by simp only [go_sem, zwl, Nat.reduceAdd, Nat.reduceMul, Nat.reduceEqDiff, Nat.reduceLT, Int.reduceToNat, reduceIte, reduceCtorEq, alU, h56] <;> exact zcc) (by simp only [go_sem, zwl, Nat.reduceAdd, Nat.reduceMul, Nat.reduceEqDiff, Nat.reduceLT, Int.reduceToNat, reduceIte, reduceCtorEq, alU, JC, List.take_zero, List.map_nil] <;> exact zcc) (by simp [alU, Qd]) (by simp [alU]; omega) (by omega)) fun k hk K' hL => ?_
  by_cases h8 : k = 8
  · subst h8
    have e1 : decide ((56 - 8 * ((8 : Nat) : Int)) ≥ 0) = false := by decide
    have e9 : (tbI n 8).take 8 = tbI n 8 := List.take_of_length_le (by rw [ael]; omega)
    clear hL
    simp only [alU, e9]
    (have zx := e1); refine zgo ?_; repeat' first | exact zt | apply zan | intro hc
    refine Qp (ι := Nat) (fun j => j ≤ 7 ∧ aft ((tbI n 8).drop j) = anf n) (fun j => alT n j) (fun j => 8 - j) 0 ⟨by omega, amA h0 h1⟩ (Qd []) (Qh [] (by simp only [go_sem, zwl, Nat.reduceAdd, Nat.reduceMul, Nat.reduceEqDiff, Nat.reduceLT, Int.reduceToNat, reduceIte, reduceCtorEq, alT] <;> exact zcc) (by simp only [go_sem, zwl, Nat.reduceAdd, Nat.reduceMul, Nat.reduceEqDiff, Nat.reduceLT, Int.reduceToNat, reduceIte, reduceCtorEq, alT] <;> exact zcc) (by simp [alT, Qd]) (by simp [alT]) (by omega)) fun j hj K' hL => ?_
    obtain ⟨hj, ht⟩ := hj
    have hlen := ael n 8
    rcases hd : (tbI n 8).drop j with _ | ⟨c, _ | ⟨d, r⟩⟩
    · have := congrArg List.length hd; rw [List.length_drop, hlen, List.length_nil] at this; omega
    · have hl2 := congrArg List.length hd; rw [List.length_drop, hlen, List.length_singleton] at hl2
      obtain rfl : j = 7 := by omega
      rw [hd] at ht
      have e2 : decide (((8 - 7 : Nat) : Int) > 1) = false := by decide
      have hb : List.take 1 ((JC (tbI n 8)).drop 7) = JC (anf n) := by rw [← ht, JC, ← List.map_drop, hd]; rfl
      clear hL
      simp only [alT]
      (have zx := e2); refine zgo ?_; repeat' first | exact zt | apply zan | intro hc
      all_goals first | (refine Qi _ rfl ?_; simp only [go_sem, Nat.reduceEqDiff, Nat.reduceAdd, reduceIte, reduceCtorEq, hb]; done) | (refine Qi _ rfl ?_; simp only [go_sem, Nat.reduceEqDiff, Nat.reduceAdd, reduceIte, reduceCtorEq, hb]; trace_state)
    · have hl2 := congrArg List.length hd; rw [List.length_drop, hlen, List.length_cons, List.length_cons] at hl2
      have e2 : decide (((8 - j : Nat) : Int) > 1) = true := by simp; omega
      have v0 : (JC (tbI n 8))[j]? = some (V.sc (.int .u8 c.toNat)) := by
        have := congrArg (fun l => l[0]?) hd; simp only [List.getElem?_drop, Nat.add_zero, List.getElem?_cons_zero] at this
        rw [JC, List.getElem?_map, this]; rfl
      have v1 : (JC (tbI n 8))[j + 1]? = some (V.sc (.int .u8 d.toNat)) := by
        have := congrArg (fun l => l[1]?) hd; simp only [List.getElem?_drop, List.getElem?_cons_succ, List.getElem?_cons_zero] at this
        rw [JC, List.getElem?_map, this]; rfl
      have hsub : 8 - j - 1 = 8 - (j + 1) := by omega
      have hd1 : (tbI n 8).drop (j + 1) = d :: r := by rw [← List.drop_drop, hd]; rfl
      have hbt : c :: d :: r = anf n → List.take (8 - j) ((JC (tbI n 8)).drop j) = JC (anf n) := fun h => by
        rw [List.take_of_length_le (by simp [JC, hlen]), JC, ← List.map_drop, hd, h]
      rw [hd, aft, aqc] at ht
      have hs1 : (1 : Nat) ≤ 8 - j := by omega
      simp only [alT]
      rcases q1 : ((c.toNat : Int) == 0) with _ | _ <;> rcases q2 : decide ((d.toNat : Int) < 128) with _ | _ <;> rcases q3 : ((c.toNat : Int) == 255) with _ | _
      all_goals
        have hge := aeE q2
        rw [q1, q2, q3, hge] at ht
        simp only [Bool.not_true, Bool.not_false, Bool.and_true, Bool.and_false, Bool.or_true, Bool.or_false, Bool.and_self, Bool.or_self, Bool.true_eq_false, Bool.false_eq_true, if_true, if_false] at hge ht
      all_goals
        (have zx := And.intro e2 (And.intro v0 (And.intro v1 (And.intro q1 (And.intro q2 (And.intro q3 (And.intro hge hs1))))))); refine zgo ?_; repeat' first | exact zt | apply zan | intro hc
      all_goals first | (have hb := hbt ht; refine Qi _ rfl ?_; simp only [go_sem, Nat.reduceEqDiff, Nat.reduceAdd, reduceIte, reduceCtorEq, hb]; done) | exact hL _ (j + 1) (Qd []) ⟨by omega, by rw [hd1]; exact ht⟩ (by omega) (Qh [] (by simp only [go_sem, zwl, Nat.reduceAdd, Nat.reduceMul, Nat.reduceEqDiff, Nat.reduceLT, Int.reduceToNat, reduceIte, reduceCtorEq, alT, hsub] <;> exact zcc) (by simp only [go_sem, zwl, Nat.reduceAdd, Nat.reduceMul, Nat.reduceEqDiff, Nat.reduceLT, Int.reduceToNat, reduceIte, reduceCtorEq, alT] <;> exact zcc) (by simp [alT, Qd]) (by simp [alT]) (by omega)) | trace_state
  have hs := arS (n := n) (k := k) (by omega)
  have hw : IntKind.i64.wrap ((56 - 8 * (k : Int)) - 8) = 56 - 8 * ((k + 1 : Nat) : Int) := by rw [QE (by omega) (by omega)]; omega
  have e1 : decide ((56 - 8 * (k : Int)) ≥ 0) = true := by simp; omega
  have s1 : (0 : Int) ≤ 56 - 8 * (k : Int) := by omega
  have s2 : (56 - 8 * (k : Int)).toNat ≤ 64 := by omega
  have hnx : JC ((tbI n 8).take (k + 1)) = JC ((tbI n 8).take k) ++ [V.sc (.int .u8 (u8i (hiI n (7 - k))).toNat)] := by
    rw [List.take_add_one, akt n 8 k (by omega)]
    simp [JC]
  have hl : (JC ((tbI n 8).take k)).length = k := by simp [JC, ael]; omega
  have htk : List.take k (JC ((tbI n 8).take k)) = JC ((tbI n 8).take k) := List.take_of_length_le (by omega)
  simp only [alU]
  generalize (56 - 8 * (k : Int)) = i at *
  generalize JC ((tbI n 8).take k) = out at *
  (have zx := And.intro e1 (And.intro s1 (And.intro s2 (And.intro hs (And.intro hw (And.intro hl htk)))))); refine zgo ?_; repeat' first | exact zt | apply zan | intro hc
  all_goals first | exact hL _ (k + 1) (Qd [(1, 9004)]) (by omega) (by omega) (Qh [(1, 9004)] (by simp only [go_sem, zwl, Nat.reduceAdd, Nat.reduceMul, Nat.reduceEqDiff, Nat.reduceLT, Int.reduceToNat, reduceIte, reduceCtorEq, alU] <;> exact zcc) (by simp only [go_sem, zwl, Nat.reduceAdd, Nat.reduceMul, Nat.reduceEqDiff, Nat.reduceLT, Int.reduceToNat, reduceIte, reduceCtorEq, alU, hnx] <;> exact zcc) (by simp [alU, Qd]) (by simp [alU]; omega) (by omega)) | trace_state
def xd := qd Proofs.Tryz.f163 []
def wj (Γ : Env) (f : Nat) : Prop := ∀ (s : List UInt8) (hs : s.length < 2 ^ 33), EvC Γ f [V.str s] ((aek s).v)
theorem ahN {Γ : Env} {f : Nat} (h : Has Γ.P f 6 xd.1.1.ac xd.1.2)  : wj Γ f := by
  intro s hs
  refine Qm h zsi (Ql.v_closed _) fun C hC hm => ?_
  subst hC
  simp only [xd, qd, DC.ac]
  simp only [aek, Ql.v_eq]
  have htk := VO s
  refine zgo ?_; repeat' first | exact zt | apply zan | intro hc
  all_goals first | exact zr | (refine Qi _ rfl ?_; simp only [go_sem, Nat.reduceEqDiff, Nat.reduceAdd, reduceIte, reduceCtorEq, htk]; done) | trace_state
def UH := qd Proofs.Tryz.f206 []
def qv (Γ : Env) (f : Nat) : Prop := ∀ (b : List UInt8) (hb : b.length < 2 ^ 33), EvW Γ f [.sl 1 (JC b)] 1 (JC b)
theorem adr {Γ : Env} {f : Nat} (h : Has Γ.P f 8 UH.1.1.ac UH.1.2)  : qv Γ f := by
  intro b hb
  refine VC h (by simp) (by first | exact afU _ | exact afv _ | (intro x hx; obtain ⟨c, _, rfl⟩ := List.mem_map.1 hx; trivial)) fun C hC hm => ?_
  subst hC
  simp only [UH, qd, DC.ac]
  have hbl := Xn b
  rcases b with _ | ⟨x, r⟩
  · simp only [JC, List.map_nil]
    repeat' (first | (refine zsk ?_; intro K' hK) | refine zsp ?_ | (refine zsc ?_ ?_ <;> intro hc <;> first | exact znh | try simp only [znz] at hc) | simp (maxSteps := 1000000) only [go_sem, Nat.reduceAdd, Nat.reduceMul, Nat.reduceEqDiff, Nat.reduceLeDiff, Nat.reduceLT, Nat.reduceSub, Int.reduceEq, Int.reduceBEq, Int.reduceLT, Int.reduceLE, Int.reduceAdd, Int.reduceToNat, reduceIte, reduceCtorEq] | (refine hK _ ?_; clear hK K') | apply zan | exact zsq | fail)
    intro t
    rcases t with _ | _
    · repeat' (first | (refine zsk ?_; intro K' hK) | refine zsp ?_ | (refine zsc ?_ ?_ <;> intro hc <;> first | exact znh | try simp only [znz] at hc) | simp (maxSteps := 1000000) only [go_sem, Nat.reduceAdd, Nat.reduceMul, Nat.reduceEqDiff, Nat.reduceLeDiff, Nat.reduceLT, Nat.reduceSub, Int.reduceEq, Int.reduceBEq, Int.reduceLT, Int.reduceLE, Int.reduceAdd, Int.reduceToNat, reduceIte, reduceCtorEq] | (refine hK _ ?_; clear hK K') | apply zan | exact zsq | fail)
      all_goals (refine yr (xs := []) _ _ rfl ?_ ?_ <;> first | rfl | (simp; done))
    · repeat' (first | (refine zsk ?_; intro K' hK) | refine zsp ?_ | (refine zsc ?_ ?_ <;> intro hc <;> first | exact znh | try simp only [znz] at hc) | simp (maxSteps := 1000000) only [go_sem, Nat.reduceAdd, Nat.reduceMul, Nat.reduceEqDiff, Nat.reduceLeDiff, Nat.reduceLT, Nat.reduceSub, Int.reduceEq, Int.reduceBEq, Int.reduceLT, Int.reduceLE, Int.reduceAdd, Int.reduceToNat, reduceIte, reduceCtorEq] | (refine hK _ ?_; clear hK K') | apply zan | exact zsq | fail)
      all_goals (refine yr (xs := []) _ _ rfl ?_ ?_ <;> first | rfl | (simp; done))
  · simp only [JC, List.map_cons] at hbl ⊢
    repeat' (first | (refine zsk ?_; intro K' hK) | refine zsp ?_ | (refine zsc ?_ ?_ <;> intro hc <;> first | exact znh | try simp only [znz] at hc) | simp (maxSteps := 1000000) only [go_sem, Nat.reduceAdd, Nat.reduceMul, Nat.reduceEqDiff, Nat.reduceLeDiff, Nat.reduceLT, Nat.reduceSub, Int.reduceEq, Int.reduceBEq, Int.reduceLT, Int.reduceLE, Int.reduceAdd, Int.reduceToNat, reduceIte, reduceCtorEq] | (refine hK _ ?_; clear hK K') | apply zan | exact zsq | fail)
    all_goals first
      | (simp only [List.length_map, List.length_cons] at hb hbl ⊢; omega)
      | (intro y hy; obtain ⟨c, _, rfl⟩ := List.mem_map.1 hy; rfl)
      | (refine yr (xs := V.sc (.int .u8 x.toNat) :: List.map (fun c : UInt8 => V.sc (.int .u8 c.toNat)) r) _ _ rfl ?_ ?_ <;> first | rfl | (simp; done))
      | trace_state
def xC (Jc J4 : Nat) : List AO := [fa 12 1 5, ld 13 1 12, cl 14 Jc [13], fa 15 3 5, ld 16 1 15, cl 17 J4 [16], fa 18 1 5, xs 1 18 14, fa 19 3 5, xs 1 19 17]
def xE : List (List Nat) := [[], [0], [1], [], [3], [4, 2], [0, 1, 2, 3, 4], [6, 2, 5, 0, 1, 2, 3, 4], [0, 1, 2, 3, 4, 5, 6, 7], [8, 5, 7, 0, 1, 2, 3, 4, 5, 6, 7]]
def xy : OT := .one 0 (.one 3 (.or 1 (.one 2 (.one 4 (.one 5 (.one 6 (.one 7 (.one 8 (.one 9 .done))))))) (.or 4 (.one 1 (.one 2 (.one 5 (.one 6 (.one 7 (.one 8 (.one 9 .done))))))) .done)))
@[go_sem] def xB (Jc J4 : Nat) : OP := oN 0 (fa 12 1 5) (oN 3 (fa 15 3 5) (.or 1 true [] (ld 13 1 12) (oN 2 (cl 14 Jc [13]) (.one 4 true [] (ld 16 1 15) (oN 5 (cl 17 J4 [16]) (oN 6 (fa 18 1 5) (.one 7 true [2] (xs 1 18 14) (oN 8 (fa 19 3 5) (.one 9 true [5] (xs 1 19 17) .done))))))) (.or 4 true [] (ld 16 1 15) (.one 1 true [] (ld 13 1 12) (oN 2 (cl 14 Jc [13]) (oN 5 (cl 17 J4 [16]) (oN 6 (fa 18 1 5) (.one 7 true [2] (xs 1 18 14) (oN 8 (fa 19 3 5) (.one 9 true [5] (xs 1 19 17) .done))))))) .done)))
instance (Jc J4 : Nat) : RG [1, 4] xy (xB Jc J4) (xC Jc J4) xE 10 (fun _ => false) := ⟨rfl, by kernel_rfl, by kernel_rfl⟩
def yA (Jc J4 : Nat) : AC := Yq [0] (.reg [xo 2 (.mknil 4)]) (Yq [0, 3] (.reg [xo 3 (.mknil 4)]) (Yq [3] (Yq [3, 6, 7, 8] (.reg [mv 6 0, ln 7 6, mc 8 (V.int 0)]) (.block 0 (abl [3, 6, 7, 8] (Yq [3, 6, 7, 8, 9] (.reg [bn 9 .lss 8 7]) (Yq [3, 6, 7, 8] (.cond (.t 9) .skip (.exit 0)) (Yq [3, 6, 7, 8] (.block 1 (Yq [3, 5, 6, 7, 8] (.reg [ia 10 4 6 8, xo 11 (.load true 4 (.t 10)), xo 5 (.alloc [.val vi0, .nil 1, .val (.bool false), .nil 4]), xs 4 5 11]) (Yq [3, 5, 6, 7, 8] (aoB [1, 4] xy (xB Jc J4) (xC Jc J4) xE) (.reg [mv 20 3, xo 21 (.load true 4 (.t 5)), xo 22 (.obslice 1 4 true [vi0, vn0, (.bool false), vn0] [(0, (.t 21))]), xo 23 (.append 4 64 [vi0, vn0, (.bool false), vn0] (.t 20) (.t 22)), mv 3 23])))) (.reg [bc 24 .add 8 (V.int 1), mv 8 24]))))))) (Yq [2] (.reg [mv 25 3, mv 2 25]) .ret))) def r_der_copied : List Vz := [.tmp 2]
def jI (Γ : Env) (f : Nat) : Prop := ∀ (l : List Ql) (hx : xh l < 2 ^ 33), EvC Γ f [.sl 4 (l.map Ql.v)] (.sl 4 (l.map Ql.v))
attribute [local go_sem] Ql.v_eq WF in
theorem aeY {Γ : Env} {f Jc : Nat} (h : Has Γ.P f 26 (yA Jc f) r_der_copied) (z0 : qv Γ Jc) : jI Γ f := by
  suffices H : ∀ (kk : Nat), ∀ (l : List Ql) (hx : xh l < 2 ^ 33), xh l < kk → EvC Γ f [.sl 4 (l.map Ql.v)] (.sl 4 (l.map Ql.v)) from fun l hx => H _ l hx (Nat.lt_succ_self _)
  intro kk; induction kk with
  | zero => intros; rename_i hk; exact absurd hk (Nat.not_lt_zero _)
  | succ kk ih =>
  intro l hx hk
  refine Qm h zsi zcl fun C hC hm => ?_
  subst hC
  unfold yA
  have hle := qS l
  refine zgo ?_; repeat' first | exact zt | apply zan | intro hc
  refine aef (ι := Nat) (fun k => k ≤ l.length) (fun k => arm l k) (fun k => l.length - k) 0 (Nat.zero_le _) ?_ fun k hk K' hL => ?_
  · refine anF [1000] none (fun p hp => ?_) ?_ (by simp) (by rw [hm]; rfl)
    · simp only [List.mem_cons, List.not_mem_nil, or_false] at hp
      rcases hp with rfl | rfl | rfl | rfl
      · show conv _ _ _ (.hd 1000 0 0) (.hd 0 0 0)
        simp [conv]
      · exact J9 _ _ _ (.sl 4 _) trivial
      · exact J9 _ _ _ (V.int _) trivial
      · exact J9 _ _ _ (V.int 0) trivial
    · exact ⟨⟨_, rfl, fun h => h, rfl, rfl⟩, trivial⟩
  have hlm : (l.map Ql.v).length = l.length := List.length_map _
  rcases hd : l.drop k with _ | ⟨y, r⟩
  · have hkl := QB hd
    have e1 : decide ((k : Int) < ((l.length : Nat) : Int)) = false := by simp; omega
    obtain rfl : k = l.length := by omega
    simp only [arm, stL, List.take_length]
    (have zx := And.intro e1 hlm); refine zgo ?_; repeat' first | exact zt | apply zan | intro hc
    all_goals
      refine Qi _ rfl ?_
      show conv _ _ _ (.hd 0 0 l.length) (.sl 4 _)
      simp only [conv]
      exact ⟨trivial, by simp, .inl ⟨true, _, rfl, by rw [List.drop_zero, List.take_of_length_le (by simp)]⟩⟩
  · obtain ⟨hk', hget, hr⟩ := Qo hd
    have hw := Qg (k := k) (by omega)
    have e1 : decide ((k : Int) < ((l.length : Nat) : Int)) = true := by simp; omega
    have hys := j0 hget
    obtain ⟨yt, yb, yn, ye⟩ := y
    have hss : (Ql.mk yt yb yn ye).siz = 1 + yb.length + xh ye := by rw [Ql.siz]
    have hi := (ih ye (by omega) (by omega)).b
    have hcl := z0 yb (by omega)
    have htb := VO yb
    simp only [arm, stL]
    (have zx := And.intro e1 (And.intro hlm (And.intro hw (And.intro hget htb)))); refine zgo ?_; repeat' first | exact zt | apply zan | intro hc
    all_goals
      refine hL _ (k + 1) hk' (by omega) (anF [18001] none (fun p hp => ?_) ?_ (by simp) (by rw [hm]; rfl))
      · simp only [List.mem_cons, List.not_mem_nil, or_false] at hp
        rcases hp with rfl | rfl | rfl | rfl
        · show conv _ _ _ (.hd 18001 0 (k + 1)) (.hd 0 0 (k + 1))
          simp [conv]
        · exact J9 _ _ _ (.sl 4 _) trivial
        · show conv _ _ _ (V.int l.length) (V.int (l.map Ql.v).length)
          rw [hlm]; exact J9 _ _ _ (V.int _) trivial
        · exact J9 _ _ _ (V.int (k + 1 : Nat)) trivial
      · refine ⟨⟨_, rfl, fun h => h, rfl, ?_, jZ _⟩, trivial⟩
        have hA : List.take k ((l.take k).map Ql.v) = (l.take k).map Ql.v := List.take_of_length_le (by rw [List.length_map, List.length_take]; omega)
        have hB : l.take (k + 1) = l.take k ++ [.mk yt yb yn ye] := by rw [List.take_add_one, hget]; rfl
        rw [hB, List.map_append]
        show yy _ _ _ (List.take k ((l.take k).map Ql.v) ++ [V.agg [V.int yt, .hd 7001 0 (JC yb).length, V.bool yn, .sl 4 (ye.map Ql.v)]]) _
        rw [hA]
        refine vU ?_ _
        show yy _ _ _ [V.agg [V.int yt, .hd 7001 0 (JC yb).length, V.bool yn, .sl 4 (ye.map Ql.v)]] [Ql.v (.mk yt yb yn ye)]
        rw [Ql.v_eq]
        exact ⟨agt rfl (by decide), trivial⟩
def abW := qd Proofs.Tryz.f161 []
def ac5 (Γ : Env) (f : Nat) : Prop := ∀ (l : List Ql) (hx : xh l < 2 ^ 33), EvC Γ f [.sl 4 (l.map Ql.v)] ((ajj l).v)
theorem alH {Γ : Env} {f : Nat} (h : Has Γ.P f 6 abW.1.1.ac abW.1.2) (z0 : jI Γ 193) : ac5 Γ f := by
  intro l hx
  refine Qm h zsi (Ql.v_closed _) fun C hC hm => ?_
  subst hC
  simp only [abW, qd, DC.ac]
  simp only [ajj, Ql.v_eq]
  exact zg
def vX (h : Int) (c : UInt8) : Int := IntKind.u32.wrap (IntKind.u32.wrap ((BitVec.ofInt IntKind.u32.bits h ^^^ BitVec.ofInt IntKind.u32.bits (IntKind.u32.wrap (c.toNat : Int))).toNat : Nat) * 16777619)
def aem : Int → List UInt8 → Int
  | h, [] => h
  | h, c :: r => aem (vX h c) r
def Us (b : List UInt8) : Int := IntKind.i64.wrap (aem 2166136261 b)
def ji := qd Proofs.Tryz.f26 []
def yK (Γ : Env) (f : Nat) : Prop := ∀ (b : List UInt8) (hb : b.length < 2 ^ 60), EvN Γ f [.sl 1 (JC b)] (V.int (Us b))
theorem agf {Γ : Env} {f : Nat} (h : Has Γ.P f 21 ji.1.1.ac ji.1.2)  : yK Γ f := by
  intro b hb
  refine Qb h zsi zcl zcl fun C hC hm => ?_
  subst hC
  simp only [ji, qd, DC.ac]
  have hln : (JC b).length = b.length := Xn b
  have hst : ∀ h c, vX h c = IntKind.u32.wrap (IntKind.u32.wrap ((BitVec.ofInt IntKind.u32.bits h ^^^ BitVec.ofInt IntKind.u32.bits (IntKind.u32.wrap (c.toNat : Int))).toNat : Nat) * 16777619) := fun _ _ => rfl
  (have zx := hln); refine zgo ?_; repeat' first | exact zt | apply zan | intro hc
  refine Jz (ι := Nat × Int) (fun q => q.1 ≤ b.length ∧ aem q.2 (b.drop q.1) = aem 2166136261 b) (fun q => [(3, .sc (.int .u32 q.2)), (4, V.int q.1)]) (fun q => b.length - q.1) (0, 2166136261) (by omega) ⟨Nat.zero_le _, rfl⟩ zol zlt zet fun q hq K' hL => ?_
  obtain ⟨k, h⟩ := q
  simp only at hq hL ⊢
  obtain ⟨hk, hinv⟩ := hq
  simp only [ovT, Xs, Nat.reduceEqDiff, reduceIte]
  rcases hd : b.drop k with _ | ⟨y, r⟩
  · have hkl := QB hd
    have e1 : decide ((k : Int) < ((b.length : Nat) : Int)) = false := by simp; omega
    rw [hd] at hinv
    have hs : Us b = IntKind.i64.wrap h := by rw [Us, ← hinv]; rfl
    rw [hs]
    (have zx := And.intro hln e1); exact zg
  · obtain ⟨hk', hget, hr⟩ := Qo hd
    have hw := Qg (k := k) (by omega)
    have e1 : decide ((k : Int) < ((b.length : Nat) : Int)) = true := by simp; omega
    have hg2 : (JC b)[k]? = some (.sc (.int .u8 y.toNat)) := by rw [List.getElem?_map, hget]; rfl
    rw [hd] at hinv
    repeat' (first | (refine zsk ?_; intro K' hK) | refine zsp ?_ | (refine zsc ?_ ?_ <;> intro hc <;> first | exact znh | try simp only [znz] at hc) | simp (maxSteps := 1000000) only [go_sem, Nat.reduceAdd, Nat.reduceMul, Nat.reduceEqDiff, Nat.reduceLeDiff, Nat.reduceLT, Nat.reduceSub, Int.reduceEq, Int.reduceBEq, Int.reduceLT, Int.reduceLE, Int.reduceAdd, Int.reduceToNat, reduceIte, reduceCtorEq, hln, e1, hw, Int.toNat_natCast, hg2, ← hst] | (refine hK _ ?_; clear hK K') | apply zan | exact zsq | fail)
    all_goals first | exact hL _ (k + 1, vX h y) zet ⟨hk', by rw [hr, ← hinv]; rfl⟩ (by simp only; omega) zoe | trace_state
theorem ane (n : Int) : (anf n).length ≤ 10 := by
  have : ∀ (k : Nat) (x : Int) (b : List UInt8), (abm k x b).length ≤ k + b.length := by
    intro k
    induction k with
    | zero => intro x b; rw [abm]; omega
    | succ k ih =>
      intro x b
      rw [abm]
      split
      · have := ih (x.fdiv 256) (u8i x :: b); rw [List.length_cons] at this; omega
      · omega
  have h := this 9 (n.fdiv 256) [u8i n]
  rw [List.length_singleton] at h
  exact h
theorem wN (n : Int) : (WC n).siz ≤ 11 := by have := ane n; rw [WC, Ql.siz, xh]; omega
end Av
end
section
namespace Av
open Go
mutual
def V.deep : V → List Nat
  | .hd a _ _ => [a]
  | .ptr a _ => [a]
  | .agg cs => agw cs
  | .tup cs => agw cs
  | .clo _ cs => agw cs
  | .top => []
  | .sc _ => []
  | .nn => []
  | .sl _ _ => []
  | .ept _ _ _ => []
  | .mp _ => []
  | .ro _ _ => []
def agw : List V → List Nat
  | [] => []
  | v :: r => v.deep ++ agw r
end
attribute [go_sem] V.deep agw List.nil_append List.append_nil List.cons_append
section
variable {Γ : Env} {b : Nat} {r : List AO} {s : St} {d : Option Nat} {f : FuncId} {acts args : List V} {res : V} {K : St → Prop} {okf : Option (List Nat) → Prop}
theorem arG (h : EvC Γ f args res) (hc : okf (some (agw acts))) (hk : VA Γ (b + KK) r { t := (s.put d res).t, o := qz (some (agw acts)) [] s.o, n := s.n } K) : agJ Γ b r s d f acts args okf K := by
  rintro rfl rfl
  refine Ya ⟨_, _, _, _, [], some (agw acts), h.1, Jn _ _ _ hc, trivial, List.nodup_nil, by grind, by simp, by simp [KK], fun h => by simp at h, ?_⟩
  simp only [Yl, Yk, J6 _ _ h.2]
  exact hk
end
end Av
end
section
namespace Av
open Go
structure EvI (Γ : Env) (f : FuncId) (args : List V) (sx : Nat) (xs ys : List V) : Prop where
  ev : Ev Γ f (.hd 0 0 xs.length :: args) [.buf true sx xs] (.hd 1 0 ys.length) [.dead, .buf true sx ys]
structure EvX (Γ : Env) (f : FuncId) (args : List V) (sx : Nat) (xs : List V) : Prop where
  ev : Ev Γ f (.hd 0 0 xs.length :: args) [.buf true sx xs] (.hd 0 0 xs.length) [.buf true sx xs]
section
variable {Γ : Env} {A W : Nat → Bool} {b : Nat} {r : List AO} {s : St} {d : Option Nat} {f : FuncId} {acts args : List V} {okf : Option (List Nat) → Prop} {J K : St → Prop} {a n sx : Nat} {xs ys : List V} {x : V}
theorem aba (ha : s.o a = some (.buf true sx xs)) (h : EvI Γ f args sx xs ys) (hal : (Q0 acts).contains a = false) (hd : decide (a < b) = true) (hn : n = xs.length) (hc : Qj s.o (some (Q0 acts)) acts)
    (hk : VA Γ (b + KK) r { t := (s.put d (.hd b 0 ys.length)).t, o := upd (upd (qz (some (Q0 acts)) [a] s.o) b (some (.buf true sx ys))) a (some .dead), n := s.n } K) : agJ Γ b r s d f (.hd a 0 n :: acts) (x :: args) okf K := by
  intro h1 _
  simp only [Jv, List.cons.injEq] at h1
  obtain ⟨_, rfl⟩ := h1
  subst hn
  have hal' : a ∉ Q0 acts := by simpa using hal
  refine Ya ⟨_, _, _, _, [a], some (Q0 acts), h.ev, ⟨?_, JZ s.o [a] _ (fun y hy => ?_) acts hc⟩, ⟨⟨_, ha, rfl, rfl⟩, trivial⟩, by simp, by simpa using of_decide_eq_true hd, by simp, by simp [KK], fun h => by simp at h, ?_⟩
  · simp [conv]
  · intro e
    rw [List.mem_singleton.1 e] at hy
    exact hal' hy
  · simp only [Yl, Yk, Ob.ren, V.ren, sig]
    exact hk
theorem ajd (ha : s.o a = some (.buf true sx xs)) (h : EvX Γ f args sx xs) (hal : (Q0 acts).contains a = false) (hd : decide (a < b) = true) (hn : n = xs.length) (hc : Qj s.o (some (Q0 acts)) acts)
    (hk : VA Γ (b + KK) r { t := (s.put d (.hd a 0 n)).t, o := upd (qz (some (Q0 acts)) [a] s.o) a (some (.buf true sx xs)), n := s.n } K) : agJ Γ b r s d f (.hd a 0 n :: acts) (x :: args) okf K := by
  intro h1 _
  simp only [Jv, List.cons.injEq] at h1
  obtain ⟨_, rfl⟩ := h1
  subst hn
  have hal' : a ∉ Q0 acts := by simpa using hal
  refine Ya ⟨_, _, _, _, [a], some (Q0 acts), h.ev, ⟨?_, JZ s.o [a] _ (fun y hy => ?_) acts hc⟩, ⟨⟨_, ha, rfl, rfl⟩, trivial⟩, by simp, by simpa using of_decide_eq_true hd, by simp, by simp [KK], fun h => by simp at h, ?_⟩
  · simp [conv]
  · intro e
    rw [List.mem_singleton.1 e] at hy
    exact hal' hy
  · simp only [Yl, Yk, Ob.ren, V.ren, sig]
    exact hk
theorem jg {nt : Nat} {ac : AC} {rs : List Vz} (hb : Has Γ.P f nt ac rs) (ha : args.length + 1 ≤ nt)
    (h : ∀ C : Ctx, C.env = Γ → C.m = 1 → AWp C nt ac (Xx (.hd 0 0 xs.length :: args) [.buf true sx xs]) (wo 1 rs (.hd 1 0 ys.length) [.dead, .buf true sx ys]) (fun _ _ => False) (wo 1 rs (.hd 1 0 ys.length) [.dead, .buf true sx ys])) : EvI Γ f args sx xs ys :=
  ⟨by grind [XH]⟩
theorem xZ {nt : Nat} {ac : AC} {rs : List Vz} (hb : Has Γ.P f nt ac rs) (ha : args.length + 1 ≤ nt)
    (h : ∀ C : Ctx, C.env = Γ → C.m = 1 → AWp C nt ac (Xx (.hd 0 0 xs.length :: args) [.buf true sx xs]) (wo 1 rs (.hd 0 0 xs.length) [.buf true sx xs]) (fun _ _ => False) (wo 1 rs (.hd 0 0 xs.length) [.buf true sx xs])) : EvX Γ f args sx xs :=
  ⟨by grind [XH]⟩
end
def apU (n : Nat) (v : Value) : List Value := List.replicate n v
theorem arX {x y n : Nat} {o : Nat → Option Ob} : qz (some [x, y]) [] o n = if n = x then (o n).map Ob.frz else if n = y then (o n).map Ob.frz else o n := by
  simp only [qz, List.mem_cons, List.not_mem_nil, or_false, not_false_eq_true, and_true]
  by_cases h1 : n = x <;> by_cases h2 : n = y <;> simp [h1, h2]
theorem arW {x y : Nat} : (x ∈ [x, y]) = True := by simp
theorem arV {x y : Nat} : (y ∈ [x, y]) = True := by simp
theorem ar6 {n : Int} : ([V.sc (Value.int IntKind.i64 n)].all (VP IntKind.i64) = true) = True := by simp [VP]
attribute [go_sem] arX arW arV ar6
theorem ags {rs : List Vz} {s : St} {xs' ys : List V} {sx : Nat} (i n : Nat) (h : abs s rs = some [.hd i 0 n]) (h0 : ∃ x, s.o 0 = some x) (hi : s.o i = some (.buf true sx xs')) (hi1 : 1 ≤ i) (hx : xs' = ys) (hn : n = ys.length) :
    wo 1 rs (.hd 1 0 ys.length) [.dead, .buf true sx ys] s := by
  subst hn; subst hx
  obtain ⟨x0, e0⟩ := h0
  refine Uu rs _ _ h ⟨[0, i], none, by simp [afk, conv], ⟨⟨_, e0, ?_⟩, ⟨_, hi, fun h => h, rfl, rfl⟩, trivial⟩, ?_, rfl⟩
  · simp [aox]
  · simp; omega
theorem alO {rs : List Vz} {s : St} {xs' ys : List V} {sx : Nat} (n : Nat) (h : abs s rs = some [.hd 0 0 n]) (hi : s.o 0 = some (.buf true sx xs')) (hx : xs' = ys) (hn : n = ys.length) :
    wo 1 rs (.hd 0 0 ys.length) [.buf true sx ys] s := by
  subst hn; subst hx
  exact Uu rs _ _ h ⟨[0], none, by simp [afk, conv], ⟨⟨_, hi, fun h => h, rfl, rfl⟩, trivial⟩, by simp, rfl⟩
end Av
end
section
namespace Av
open Go
section
variable {Γ : Env} {A W : Nat → Bool} {b : Nat} {s : St} {d : Option Nat} {f : FuncId} {acts args : List V} {okf : Option (List Nat) → Prop} {J : St → Prop} {a n sx : Nat} {xs ys : List V} {x : V}
theorem ah5 (ha : s.o a = some (.buf true sx xs)) (hA : A a = true) (hW : W a = true) (h : EvI Γ f args sx xs ys) (hal : (Q0 acts).contains a = false) (hd : decide (a < b) = true) (hn : n = xs.length) (hl : ((Q0 acts).all fun x => A x && W x) = true) (hc : Qj (Jw A s.o) (some (Q0 acts)) acts)
    (hk : J { t := (s.put d (.hd b 0 ys.length)).t, o := upd (upd (qz (some (Q0 acts)) [a] s.o) b (some (.buf true sx ys))) a (some .dead), n := s.n }) : adw Γ A W b s d f (.hd a 0 n :: acts) (x :: args) okf J := by
  intro h1 _
  simp only [Jv, List.cons.injEq] at h1
  obtain ⟨_, rfl⟩ := h1
  subst hn
  have hal' : a ∉ Q0 acts := by simpa using hal
  have hra : Jw A s.o a = some (.buf true sx xs) := by rw [v6, if_pos hA, ha]
  refine ⟨_, _, _, _, [a], some (Q0 acts), h.ev, ⟨?_, JZ _ [a] _ (fun y hy => ?_) acts hc⟩, ⟨⟨_, hra, rfl, rfl⟩, trivial⟩, by simp, ?_, by simp, by simp [KK], fun h => by simp at h, fun l h x hx => (by cases h; simpa using List.all_eq_true.1 hl x hx), ?_⟩
  · simp [conv]
  · intro e
    rw [List.mem_singleton.1 e] at hy
    exact hal' hy
  · intro y hy
    rw [List.mem_singleton.1 hy]
    exact ⟨of_decide_eq_true hd, hW⟩
  · simp only [Yl, Yk, Ob.ren, V.ren, sig]
    exact hk
theorem ah3 (ha : s.o a = some (.buf true sx xs)) (hA : A a = true) (hW : W a = true) (h : EvX Γ f args sx xs) (hal : (Q0 acts).contains a = false) (hd : decide (a < b) = true) (hn : n = xs.length) (hl : ((Q0 acts).all fun x => A x && W x) = true) (hc : Qj (Jw A s.o) (some (Q0 acts)) acts)
    (hk : J { t := (s.put d (.hd a 0 n)).t, o := upd (qz (some (Q0 acts)) [a] s.o) a (some (.buf true sx xs)), n := s.n }) : adw Γ A W b s d f (.hd a 0 n :: acts) (x :: args) okf J := by
  intro h1 _
  simp only [Jv, List.cons.injEq] at h1
  obtain ⟨_, rfl⟩ := h1
  subst hn
  have hal' : a ∉ Q0 acts := by simpa using hal
  have hra : Jw A s.o a = some (.buf true sx xs) := by rw [v6, if_pos hA, ha]
  refine ⟨_, _, _, _, [a], some (Q0 acts), h.ev, ⟨?_, JZ _ [a] _ (fun y hy => ?_) acts hc⟩, ⟨⟨_, hra, rfl, rfl⟩, trivial⟩, by simp, ?_, by simp, by simp [KK], fun h => by simp at h, fun l h x hx => (by cases h; simpa using List.all_eq_true.1 hl x hx), ?_⟩
  · simp [conv]
  · intro e
    rw [List.mem_singleton.1 e] at hy
    exact hal' hy
  · intro y hy
    rw [List.mem_singleton.1 hy]
    exact ⟨of_decide_eq_true hd, hW⟩
  · simp only [Yl, Yk, Ob.ren, V.ren, sig]
    exact hk
end
end Av
end

/- K26 -/
import Derived.Test.YtlnkijmacdgahaaGreatK24
import Derived.Test.YtlnkijmacdgahaaGreatK25
import Derived.Test.YtlnkijmacdgahaaGreatK12
set_option linter.unusedVariables false
set_option linter.unusedSimpArgs false
noncomputable section
set_option maxRecDepth 10000
set_option maxHeartbeats 4000000
namespace Av
open Go
attribute [local irreducible] AWp VA K4 jR awS awC aa9 awQ abD QZ V9 aay awR Ug awB okR jL ris
section
variable {C : Ctx} {nt : Nat} {s : St} {K : St → Prop} {E : Nat → St → Prop} {R : St → Prop}
theorem ajb {x : AC} {ι : Type} (good : ι → Prop) (mid : ι → St) (pre : St → St) (h : ∀ K' : St → Prop, (∀ s' i τ, good i → ah7 C.m τ (pre s') (mid i) → K' s') → AWp C nt x s K' E R) (h' : ∀ i, good i → ∀ s' τ, ah7 C.m τ (pre s') (mid i) → K s') : AWp C nt x s K E R := h K fun s' i τ g w => h' i g s' τ w
end
def xv (f : Qa) (e : Q6) : Q6 := { e with machs := if f.mach = 0 then e.machs else aak ltJ e.machs f.mach }
def arD (l : List Qa) (p : List Nat) (k : Nat) (f : Qa) (q : List Q6 × Nat × Q6) : Prop := q.1[q.2.1]? = some q.2.2 ∧ q.1.set q.2.1 (xv f q.2.2) = JO l p (k + 1) ∧ q.1.length ≤ 400 ∧ q.2.2.machs.length ≤ 400
def nmS (N a H M F q : Nat) : Nat := if q = 3 * a then H else if q = 3 * a + 1 then M else if q = 3 * a + 2 then F else N + q
theorem acn {s : St} {ts : List (Nat × V)} {p K W : List Nat} {fx : List Ob} {es0 es1 : List Q6} {e1 : Q6} {N a H M F : Nat} {els : List V} (x : List Nat) (hes : es1 = es0.set a e1) (hx : x.length = 3 + fx.length) (ha : a < es0.length) (hlen : es0.length ≤ 400)
    (ht : ∀ q ∈ ts, s.t q.1 = q.2.ren (aaX x (nmS N a H M F)) ∧ q.2.lt 2000) (hfl : fx.length ≤ 1)
    (h0 : s.o (x.getD 0 0) = some (.box true (QX p))) (h1 : s.o (x.getD 1 0) = some (.map (QX K) (QX W) 0)) (h2 : s.o (x.getD 2 0) = some (.obuf true 4 els))
    (hfx : ∀ k y, fx[k]? = some y → ∃ z, s.o (x.getD (3 + k) 0) = some z ∧ z.weak (aaX x (nmS N a H M F)) 2000 y)
    (hels : ∀ j, els[j]? = if j = a then some (.agg [V.int e1.num, .hd H 0 e1.hosts.length, mhd M e1.machs, .hd F 0 e1.finds.length]) else (V6 N es0)[j]?)
    (hfar : ∀ q y, q < 3 * es0.length → q / 3 ≠ a → (aaW es0)[q]? = some y → s.o (N + q) = some y)
    (hH : s.o H = some (.buf true 1 (e1.hosts.map V.str))) (hM : ∃ y, s.o M = some y ∧ (e1.machs ≠ [] → y = .buf true 1 (e1.machs.map V.int))) (hF : s.o F = some (.buf true 1 (QX e1.finds)))
    (hn : x.Nodup) (hxn : ∀ q, q < 3 * es0.length → N + q ∉ x) (hHx : H ∉ x ∧ M ∉ x ∧ F ∉ x) (hd : H ≠ M ∧ H ≠ F ∧ M ≠ F)
    (hHN : H = N + 3 * a ∨ H < N ∨ N + 3 * es0.length ≤ H) (hMN : M = N + (3 * a + 1) ∨ M < N ∨ N + 3 * es0.length ≤ M) (hFN : F = N + (3 * a + 2) ∨ F < N ∨ N + 3 * es0.length ≤ F) :
    ah7 0 (aaX x (nmS N a H M F)) s { t := Ut ts, o := fun k => (eO p K W fx es1)[k]?, n := 2000 } := by
  subst hes
  have a0 : nmS N a H M F (3 * a) = H := by rw [nmS, if_pos rfl]
  have a1 : nmS N a H M F (3 * a + 1) = M := by rw [nmS, if_neg (by omega), if_pos rfl]
  have a2 : nmS N a H M F (3 * a + 2) = F := by rw [nmS, if_neg (by omega), if_neg (by omega), if_pos rfl]
  have a3 : ∀ q, q / 3 ≠ a → nmS N a H M F q = N + q := fun q hq => by rw [nmS, if_neg (by omega), if_neg (by omega), if_neg (by omega)]
  have b1 : ∀ q, q / 3 = a → (q = 3 * a ∨ q = 3 * a + 1 ∨ q = 3 * a + 2) := fun q hq => by omega
  have gt : ∀ j, (es0.set a e1)[j]? = if j = a then some e1 else es0[j]? := fun j => by
    rw [List.getElem?_set]
    by_cases hj : a = j
    · subst hj; rw [if_pos rfl, if_pos ha, if_pos rfl]
    · rw [if_neg hj, if_neg (fun e => hj e.symm)]
  refine aif (n := 2000) (by rw [List.length_set]; omega) x _ els hx ht h0 h1 (.inl h2) hfx (fun j => ?_) (fun j e he => ?_) hn (fun q hq => ?_) (fun c d hc hd' hcd => ?_)
  · rw [hels, gt]
    by_cases hj : j = a
    · subst hj; rw [if_pos rfl, if_pos rfl, a0, a1, a2]; rfl
    · rw [if_neg hj, if_neg hj, W1, a3 _ (by omega), a3 _ (by omega), a3 _ (by omega)]
      cases es0[j]? with
      | none => rfl
      | some e => simp only [Option.map_some, Q6.own, Nat.add_assoc]
  · rw [gt] at he
    by_cases hj : j = a
    · subst hj
      rw [if_pos rfl] at he; cases he
      rw [a0, a1, a2]
      exact ⟨hH, hM, hF⟩
    · rw [if_neg hj] at he
      have hjl := (List.getElem?_eq_some_iff.1 he).1
      rw [a3 _ (by omega), a3 _ (by omega), a3 _ (by omega)]
      refine ⟨hfar _ _ (by omega) (by omega) (by rw [Y1, he]; rfl), ⟨mob e.machs, hfar _ _ (by omega) (by omega) (by rw [W0, he]; rfl), fun hne => by rw [mob, if_neg hne]⟩, hfar _ _ (by omega) (by omega) (by rw [Y0, he]; rfl)⟩
  · rw [List.length_set] at hq
    by_cases hqa : q / 3 = a
    · rcases b1 q hqa with rfl | rfl | rfl
      · rw [a0]; exact hHx.1
      · rw [a1]; exact hHx.2.1
      · rw [a2]; exact hHx.2.2
    · rw [a3 q hqa]; exact hxn q hq
  · rw [List.length_set] at hc hd'
    obtain ⟨d1, d2, d3⟩ := hd
    by_cases hca : c / 3 = a <;> by_cases hda : d / 3 = a
    · rcases b1 c hca with rfl | rfl | rfl <;> rcases b1 d hda with rfl | rfl | rfl <;> simp only [a0, a1, a2] at hcd <;> omega
    · rw [a3 d hda] at hcd
      rcases b1 c hca with rfl | rfl | rfl <;> simp only [a0, a1, a2] at hcd <;> omega
    · rw [a3 c hca] at hcd
      rcases b1 d hda with rfl | rfl | rfl <;> simp only [a0, a1, a2] at hcd <;> omega
    · rw [a3 c hca, a3 d hda] at hcd; omega
def apK (l : List Qa) (gap : Int) : V := if Y2 l gap = 0 then .tup [.sl 4 ((Y7 l gap).map Q6.v), V.int 0] else .tup [.sl 4 [], V.int (Y2 l gap)]
def eTs (l : List Qa) (n k : Nat) : List (Nat × V) := [(7, .ptr 0 0), (8, .hd 2 0 n), (9, .mp 1), (24, .sl 11 (l.map Qa.v)), (25, V.int l.length), (26, V.int k)]
def eSt (l : List Qa) (p : List Nat) (es : List Q6) (k : Nat) : St := { t := Ut (eTs l es.length k), o := fun a => (eO p (es.map Q6.num) (List.range es.length) [] es)[a]?, n := 2000 }
def mTs (l : List Qa) (n a k : Nat) : List (Nat × V) := [(7, .ptr 0 0), (8, .hd 2 0 n), (9, .mp 1), (11, .ptr 3 0), (13, .ept 2 a 0), (24, .sl 11 (l.map Qa.v)), (25, V.int l.length), (26, V.int k)]
def mSt (l : List Qa) (p : List Nat) (es : List Q6) (f : Qa) (a k : Nat) : St := { t := Ut (mTs l es.length a k), o := fun x => (eO p (es.map Q6.num) (List.range es.length) [.box true f.cells] es)[x]?, n := 2000 }
theorem ait {o : Nat → Option Ob} : ∀ (es : List Q6) (n : Nat), (∀ q y, (aaW es)[q]? = some y → o (n + q) = some y) → Jh o [] none (V6 n es) (es.map Q6.v)
  | [], _, _ => trivial
  | e :: r, n, h => by
    have h0 := h 0 _ rfl
    have h1 := h 1 _ rfl
    have h2 := h 2 _ rfl
    refine ⟨⟨rfl, ?_, ?_, ?_, trivial⟩, ait r (n + 3) fun q y hq => ?_⟩
    · rw [ahV]; exact ⟨trivial, by simp, .inl ⟨true, _, h0, by rw [List.drop_zero, List.take_of_length_le (by simp)]⟩⟩
    · unfold mhd
      split
      · rename_i hm; rw [hm]; rfl
      · rename_i hm
        rw [mob, if_neg hm] at h1
        rw [ahV]; exact ⟨trivial, by simp, .inl ⟨true, _, h1, by rw [List.drop_zero, List.take_of_length_le (by simp)]⟩⟩
    · rw [ahV]; exact ⟨trivial, by simp, .inl ⟨true, _, h2, by rw [List.drop_zero, List.take_of_length_le (by rw [V4]; exact Nat.le_refl _)]⟩⟩
    · rw [show n + 3 + q = n + (q + 1 + 1 + 1) by omega]
      exact h (q + 1 + 1 + 1) y (by simpa [aaW] using hq)
theorem alL : ∀ es : List Q6, ntL (es.map Q6.v)
  | [] => trivial
  | e :: r => ⟨by simp [Q6.v], alL r⟩
theorem aa3 : ∀ es : List Q6, Qc (es.map Q6.v)
  | [] => trivial
  | e :: r => ⟨by simp only [Q6.v, V.closed, Qc, and_self], aa3 r⟩
theorem ald {t : Nat → V} {l : List Qa} {n a k : Nat} {τ : Nat → Nat} (h7 : t 7 = .ptr (τ 0) 0) (h8 : t 8 = .hd (τ 2) 0 n) (h9 : t 9 = .mp (τ 1)) (h11 : t 11 = .ptr (τ 3) 0) (h13 : t 13 = .ept (τ 2) a 0) (h24 : t 24 = .sl 11 (l.map Qa.v)) (h25 : t 25 = V.int l.length) (h26 : t 26 = V.int k) : ∀ q ∈ mTs l n a k, t q.1 = q.2.ren τ ∧ q.2.lt 2000 := by
  intro q hq
  simp only [mTs, List.mem_cons, List.not_mem_nil, or_false] at hq
  rcases hq with rfl | rfl | rfl | rfl | rfl | rfl | rfl | rfl
  · exact ⟨h7, by show 0 < 2000; omega⟩
  · exact ⟨h8, by show 2 < 2000; omega⟩
  · exact ⟨h9, by show 1 < 2000; omega⟩
  · exact ⟨h11, by show 3 < 2000; omega⟩
  · exact ⟨h13, by show 2 < 2000; omega⟩
  · exact ⟨h24, trivial⟩
  · exact ⟨h25, trivial⟩
  · exact ⟨h26, trivial⟩
theorem aa4 {t : Nat → V} {l : List Qa} {n k : Nat} {τ : Nat → Nat} (h7 : t 7 = .ptr (τ 0) 0) (h8 : t 8 = .hd (τ 2) 0 n) (h9 : t 9 = .mp (τ 1)) (h24 : t 24 = .sl 11 (l.map Qa.v)) (h25 : t 25 = V.int l.length) (h26 : t 26 = V.int k) : ∀ q ∈ eTs l n k, t q.1 = q.2.ren τ ∧ q.2.lt 2000 := by
  intro q hq
  simp only [eTs, List.mem_cons, List.not_mem_nil, or_false] at hq
  rcases hq with rfl | rfl | rfl | rfl | rfl | rfl
  · exact ⟨h7, by show 0 < 2000; omega⟩
  · exact ⟨h8, by show 2 < 2000; omega⟩
  · exact ⟨h9, by show 1 < 2000; omega⟩
  · exact ⟨h24, trivial⟩
  · exact ⟨h25, trivial⟩
  · exact ⟨h26, trivial⟩
theorem ao3 {o : Nat → Option Ob} {f : Qa} {τ : Nat → Nat} {n x3 : Nat} {x : List Nat} (hx : x.getD 3 0 = x3) (h : o x3 = some (.box true f.cells)) : ∀ k y, [Ob.box true f.cells][k]? = some y → ∃ z, o (x.getD (3 + k) 0) = some z ∧ z.weak τ n y := by
  intro k y hy
  match k, hy with
  | 0, hy =>
    simp only [List.getElem?_cons_zero, Option.some.injEq] at hy
    subst hy
    rw [hx]
    exact ⟨_, h, id, (QP _ _ (by simp only [Qa.cells, V.closed, Qc, and_self])).symm, JA _ _ (by simp only [Qa.cells, V.closed, Qc, and_self])⟩
def YR := qd Proofs.Tryz.f28 [⟨fun _ => false, [4, 6, 7], .one 0 (.one 1 (.one 2 (.one 3 (.one 5 (.or 4 (.one 6 (.one 7 (.one 8 (.one 9 (.one 10 (.done)))))) (.or 6 (.one 4 (.one 7 (.one 8 (.one 9 (.one 10 (.done)))))) (.done)))))))⟩, ⟨fun _ => false, [5, 7, 8, 12], .one 0 (.one 1 (.one 2 (.one 3 (.one 4 (.one 6 (.one 9 (.one 10 (.one 11 (.one 13 (.one 14 (.or 5 (.or 7 (.or 8 (.one 12 (.one 15 (.one 16 (.one 17 (.one 18 (.one 19 (.one 20 (.one 21 (.done))))))))) (.or 12 (.one 8 (.one 15 (.one 16 (.one 17 (.one 18 (.one 19 (.one 20 (.one 21 (.done))))))))) (.done))) (.or 12 (.one 7 (.one 8 (.one 15 (.one 16 (.one 17 (.one 18 (.one 19 (.one 20 (.one 21 (.done)))))))))) (.done))) (.or 7 (.or 5 (.or 8 (.one 12 (.one 15 (.one 16 (.one 17 (.one 18 (.one 19 (.one 20 (.one 21 (.done))))))))) (.or 12 (.one 8 (.one 15 (.one 16 (.one 17 (.one 18 (.one 19 (.one 20 (.one 21 (.done))))))))) (.done))) (.or 12 (.one 5 (.one 8 (.one 15 (.one 16 (.one 17 (.one 18 (.one 19 (.one 20 (.one 21 (.done)))))))))) (.done))) (.or 12 (.or 5 (.one 7 (.one 8 (.one 15 (.one 16 (.one 17 (.one 18 (.one 19 (.one 20 (.one 21 (.done)))))))))) (.or 7 (.one 5 (.one 8 (.one 15 (.one 16 (.one 17 (.one 18 (.one 19 (.one 20 (.one 21 (.done)))))))))) (.done))) (.done))))))))))))))⟩]
def YG (Γ : Env) (f : Nat) : Prop := ∀ (l : List Qa) (gap : Int) (hl : l.length < 2 ^ 40) (hz : ∀ x ∈ l, x.Sz), EvC Γ f [.sl 11 (l.map Qa.v), V.int gap] (apK l gap)
attribute [local go_sem] eSt eTs mTs in
theorem xn {Γ : Env} {f : Nat} (h : Has Γ.P f 86 YR.1.1.ac YR.1.2) (z0 : VM Γ 51) (z2 : Vg Γ 52) (z3 : JK Γ 53) (z4 : Yv Γ 54) (z5 : Xa Γ 55) : YG Γ f := by
  intro l gap hl hz
  refine Qm h zsi (by unfold apK; split <;> simp only [V.closed, Qc, and_self]) fun C hC hm => ?_
  subst hC
  simp only [YR, qd, DC.ac]
  have hm : C.m = 0 := by simpa using hm
  obtain ⟨sX, sI, sW⟩ := z4
  obtain ⟨iX, iI, iW⟩ := z5
  have p0 := (z0 l gap hl hz).b
  by_cases hE : Y2 l gap = 0
  rotate_left
  · rw [apK, if_neg hE]
    have e01 : (Y2 l gap != 0) = true := by simpa using hE
    generalize Y2 l gap = er at *
    (have zx := e01); refine zgo ?_; repeat' first | exact zt | apply zan | intro hc
    all_goals first | exact zr | trace_state
  obtain ⟨hl4, hd⟩ := anx hE
  rw [hE] at p0
  have p1 := z2 l gap hl4 hd
  have hp := abR l gap
  have hent : Y7 l gap = JO l (afT l gap) l.length := rfl
  rw [apK, if_pos hE, hent]
  generalize afT l gap = p at *
  have e00 : ((0 : Int) != 0) = false := by decide
  (have zx := e00); refine zgo ?_; repeat' first | exact zt | apply zan | intro hc
  have t0 : aaX [10000, 13000, 12000] id 0 = 10000 := rfl
  have t1 : aaX [10000, 13000, 12000] id 1 = 13000 := rfl
  have t2 : aaX [10000, 13000, 12000] id 2 = 12000 := rfl
  refine Qp (ι := Nat) (fun k => k ≤ l.length) (fun k => eSt l p (JO l p k) k) (fun k => l.length - k) 0 (Nat.zero_le _) (aaX [10000, 13000, 12000] id) ?_ fun k hk K' hL => ?_
  · rw [hm]
    refine aif (by simp [JO]) [10000, 13000, 12000] id [] rfl ?_ rfl rfl (.inr ⟨rfl, rfl⟩) (fun k y h => by simp at h) (fun j => by simp [JO]) (fun j e h => by simp [JO] at h) (by simp) (fun q hq => by simp [JO] at hq) (fun a b ha => by simp [JO] at ha)
    simp only [go_sem, zwl, Nat.reduceAdd, Nat.reduceMul, Nat.reduceEqDiff, Nat.reduceLT, Int.reduceToNat, reduceIte, reduceCtorEq, eTs, JO, t0, t1, t2, List.length_map]
  clear t0 t1 t2
  have hI := qD (l := l) hp k hk
  rcases hdr : l.drop k with _ | ⟨f, r⟩
  · have hkl := QB hdr
    have e1 : decide ((k : Int) < (l.length : Int)) = false := by simp; omega
    obtain rfl : k = l.length := by omega
    generalize JO l p l.length = es at *
    (have zx := e1); refine zgo ?_; repeat' first | exact zt | apply zan | intro hc
    all_goals
      refine Qi _ rfl ⟨?_, rfl, trivial⟩
      show conv _ _ _ (.hd 2 0 es.length) (.sl 4 (es.map Q6.v))
      rw [ahV]
      refine ⟨trivial, by simp, .inr ⟨true, V6 3 es, rfl, ?_, alL es, aa3 es⟩⟩
      rw [List.drop_zero, List.take_of_length_le (by rw [WB]; exact Nat.le_refl _)]
      exact ait es 3 fun q y hq => (yv p _ _ [] es q).trans hq
  obtain ⟨hk', hget, hr⟩ := Qo hdr
  have hw := Qg (k := k) (by omega)
  have e1 : decide ((k : Int) < (l.length : Int)) = true := by simp; omega
  have hsu := ahS (p := p) hget
  generalize JO l p k = es at *
  have n1 := z3 p k hp (by omega)
  by_cases hk0 : YO p k = k
  · rw [hk0] at n1
    have e2 : ((k : Int) == (k : Int)) = true := by simp
    have g0 : (eO p (es.map Q6.num) (List.range es.length) [] es)[0]? = some (.box true (QX p)) := rfl
    have g1 : (eO p (es.map Q6.num) (List.range es.length) [] es)[1]? = some (.map (QX (es.map Q6.num)) (QX (List.range es.length)) 0) := rfl
    have g2 : (eO p (es.map Q6.num) (List.range es.length) [] es)[2]? = some (.obuf true 4 (V6 3 es)) := rfl
    have hnum : ∀ x ∈ es.map Q6.num, x ≠ k := fun x hx => by
      obtain ⟨e, he, rfl⟩ := List.mem_map.1 hx
      have := (hI.sz e he).num
      omega
    have f1 := yX k (es.map Q6.num) 0
    rw [afW hnum] at f1
    have f2 := yX k (es.map Q6.num ++ [k]) 0
    rw [aeA hnum, Nat.zero_add, List.length_map] at f2
    have f3 := acO (k : Int)
    have f4 := j6 (es.map Q6.num) k
    have f5 := j6 (List.range es.length) es.length
    have f6 : (QX (List.range es.length ++ [es.length]))[es.length]? = some (V.int (es.length : Nat)) := V5 (by simp)
    have f7 : List.take es.length (V6 3 es) = V6 3 es := List.take_of_length_le (by rw [WB]; exact Nat.le_refl _)
    have f8 := WB es 3
    have hel := hI.len
    repeat' (first | (refine zsk ?_; intro K' hK) | refine zsp ?_ | (refine zsc ?_ ?_ <;> intro hc <;> first | exact znh | try simp only [znz] at hc) | simp (maxSteps := 1000000) only [go_sem, Nat.reduceAdd, Nat.reduceMul, Nat.reduceEqDiff, Nat.reduceLeDiff, Nat.reduceLT, Nat.reduceSub, Int.reduceEq, Int.reduceBEq, Int.reduceLT, Int.reduceLE, Int.reduceAdd, Int.reduceToNat, reduceIte, reduceCtorEq, eSt, eTs, e1, e2, g0, g1, g2, f1, f2, f3, f4, f5, f6, f7, f8, Int.toNat_natCast, List.getElem?_map, hget, Qa.v, Qa.cells] | (refine hK _ ?_; clear hK K') | apply zan | (apply U8; (focus exact rfl); (focus first | exact n1 | exact (z3 _ _ zsd zsd)); (focus exact rfl); (focus exact rfl)) | (apply KW; (focus first | exact (z2 _ _ zsd zsd))) | (apply Qv; (focus first | exact (z0 _ _ zsd zsd).b)) | exact zsq | fail)
    refine ajb (ι := List Q6 × Nat × Q6) (arD l p k f) (fun q => mSt l p q.1 f q.2.1 k) (fun s => s.keep [7, 8, 9, 11, 13, 24, 25, 26]) (fun K2 hK2 => ?_) (fun q hq s' τ hwk => ?_)
    · have f9 := sW f.host
      have f10 : (V6 3 es ++ [V.agg [V.int k, KC, KC, KC]])[es.length]? = some (V.agg [V.int k, KC, KC, KC]) := by
        rw [List.getElem?_append_right (by rw [f8]; exact Nat.le_refl _), f8, Nat.sub_self]; rfl
      have f13 : ∀ v : V, ((V6 3 es ++ [V.agg [V.int k, KC, KC, KC]]).set es.length v)[es.length]? = some v := fun v => by rw [List.getElem?_set]; simp [f8]
      have f14 : ∀ j v, ((V6 3 es ++ [V.agg [V.int k, KC, KC, KC]]).set es.length v)[j]? = if j = es.length then some v else (V6 3 es)[j]? := fun j v => by
        rw [List.getElem?_set]
        by_cases hj : es.length = j
        · subst hj; simp [f8]
        · rw [if_neg hj, if_neg (fun e => hj e.symm)]
          by_cases hj2 : j < es.length
          · rw [List.getElem?_append_left (by rw [f8]; exact hj2)]
          · rw [List.getElem?_eq_none (by simp [f8]; omega), List.getElem?_eq_none (by rw [f8]; omega)]
      generalize V6 3 es ++ [V.agg [V.int k, KC, KC, KC]] = L at *
      have f15 : ∀ v w : V, (L.set es.length v).set es.length w = L.set es.length w := fun v w => List.set_set ..
      repeat' (first | (refine zsk ?_; intro K' hK) | (refine zrg ?_; intro K' hK) | refine zsp ?_ | (refine zsc ?_ ?_ <;> intro hc <;> first | exact znh | try simp only [znz] at hc) | simp (maxSteps := 1000000) only [go_sem, Nat.reduceAdd, Nat.reduceMul, Nat.reduceEqDiff, Nat.reduceLeDiff, Nat.reduceLT, Nat.reduceSub, Int.reduceEq, Int.reduceBEq, Int.reduceLT, Int.reduceLE, Int.reduceAdd, Int.reduceToNat, reduceIte, reduceCtorEq, f8, f10, f13, f15, Int.toNat_natCast] | (refine hK _ ?_; clear hK K') | apply zan | (apply U8; (focus exact rfl); (focus first | exact (z3 _ _ zsd zsd)); (focus exact rfl); (focus exact rfl)) | (apply VF; (focus exact rfl); (focus exact zrd); (focus exact zrd); (focus first | exact (z3 _ _ zsd zsd)); (focus exact rfl); (focus exact rfl); (focus exact zrd)) | (apply KW; (focus first | exact (z2 _ _ zsd zsd))) | ((first | apply amd | apply ah4); (focus first | exact f9)) | (apply Uh; (focus first | exact (z2 _ _ zsd zsd)); (focus exact zrd)) | ((first | apply Qv | apply QQ); (focus first | exact (z0 _ _ zsd zsd).b)) | exact zsq | fail)
      all_goals
        refine hK2 _ (es ++ [QK k f ⟨k, [], [], []⟩], es.length, QK k f ⟨k, [], [], []⟩) (aaX [0, 1, 25000, 6000] (nmS 3 es.length 41000 2 48000)) ⟨?_, ?_, ?_, ?_⟩ ?_
        · simp only; rw [List.getElem?_append_right (Nat.le_refl _), Nat.sub_self]; rfl
        · simp only; rw [hsu, adt, if_pos hk0, List.set_append_right _ _ (Nat.le_refl _), Nat.sub_self]; rfl
        · simp only [List.length_append, List.length_singleton]; omega
        · simp only [QK, List.length_nil]; omega
        rw [hm]
        refine acn (es0 := es ++ [⟨k, [], [], []⟩]) (e1 := QK k f ⟨k, [], [], []⟩) (els := L.set es.length (V.agg [V.int k, V.hd 41000 0 1, KC, V.hd 48000 0 1])) [0, 1, 25000, 6000] ?_ rfl (by simp) (by simp; omega) (ald rfl (by rw [List.length_append]; rfl) rfl rfl rfl rfl rfl rfl) (by simp) rfl ?_ rfl (ao3 rfl rfl) (fun j => ?_) (fun q y hq hq3 hy => ?_) ?_ ⟨_, rfl, fun hne => (hne rfl).elim⟩ rfl (by simp) (fun q hq => ?_) (by simp) (by omega) ?_ ?_ ?_
        · simp only; rw [List.set_append_right _ _ (Nat.le_refl _), Nat.sub_self]; rfl
        · rw [List.map_append, List.length_append, List.length_singleton, List.range_succ]; rfl
        · rw [f14]
          by_cases hj : j = es.length
          · rw [if_pos hj, if_pos hj]
            simp only [QK, abT, mhd]; rfl
          · rw [if_neg hj, if_neg hj, W1, W1]
            by_cases hj2 : j < es.length
            · rw [List.getElem?_append_left hj2]
            · rw [List.getElem?_eq_none (by omega), List.getElem?_eq_none (by simp; omega)]
        · have hj : q / 3 < es.length := by simp only [List.length_append, List.length_singleton] at hq; omega
          simp only [St.keep, upd]
          repeat rw [if_neg (by omega)]
          rw [show 3 + q = 3 + ([] : List Ob).length + q from rfl, yv]
          rw [← hy, aip, List.getElem?_append_left (by rw [xH]; omega)]
        · simp only [QK, abT]; rfl
        · simp only [List.mem_cons, List.not_mem_nil, or_false, List.length_append, List.length_singleton] at hq ⊢; omega
        · right; right; simp; omega
        · right; left; omega
        · right; right; simp; omega
    · obtain ⟨es2, a2, e2⟩ := q
      obtain ⟨q1, q2, q3, q4⟩ := hq
      simp only at q1 q2 q3 q4 hwk ⊢
      refine abX hwk ?_
      clear hwk
      have q5 := (List.getElem?_eq_some_iff.1 q1).1
      have g0 : (eO p (es2.map Q6.num) (List.range es2.length) [.box true f.cells] es2)[0]? = some (.box true (QX p)) := rfl
      have g1 : (eO p (es2.map Q6.num) (List.range es2.length) [.box true f.cells] es2)[1]? = some (.map (QX (es2.map Q6.num)) (QX (List.range es2.length)) 0) := rfl
      have g2 : (eO p (es2.map Q6.num) (List.range es2.length) [.box true f.cells] es2)[2]? = some (.obuf true 4 (V6 4 es2)) := rfl
      have g3 : (eO p (es2.map Q6.num) (List.range es2.length) [.box true f.cells] es2)[3]? = some (.box true f.cells) := rfl
      simp only [mSt]
      generalize hEO : eO p (es2.map Q6.num) (List.range es2.length) [.box true f.cells] es2 = EO at g0 g1 g2 g3 ⊢
      simp only [Qa.cells] at g3
      have hrow : ∀ q y, (aaW es2)[q]? = some y → EO[4 + q]? = some y := fun q y h => by
        rw [← hEO, show 4 + q = 3 + [Ob.box true f.cells].length + q from rfl, yv]; exact h
      have wEO : ZW (eO p (es2.map Q6.num) (List.range es2.length) [.box true f.cells] es2 = EO) := ⟨hEO⟩
      clear hEO
      by_cases hm0 : f.mach = 0
      · have e5 : (f.mach != 0) = false := by simpa using hm0
        (have zx := And.intro g0 (And.intro g1 (And.intro g2 (And.intro g3 (And.intro e5 hw))))); refine zgo ?_; repeat' first | exact zt | apply zan | intro hc
        all_goals
          refine hL _ (k + 1) (aaX [0, 1, 2] (nmS 4 a2 (4 + 3 * a2) (4 + 3 * a2 + 1) (4 + 3 * a2 + 2))) (by omega) (by omega) ?_
          rw [hm, ← q2]
          refine acn (N := 4) (es0 := es2) (e1 := xv f e2) (els := V6 4 es2) [0, 1, 2] rfl rfl q5 (by omega) (aa4 rfl (by rw [List.length_set]; rfl) rfl rfl rfl rfl) (by simp) ?_ ?_ ?_ (fun k y h => by simp at h) (fun j => ?_) (fun q y hq hq3 hy => ?_) ?_ ⟨mob e2.machs, hrow _ _ (by rw [W0, q1]; rfl), fun hne => by rw [xv, if_pos hm0] at hne ⊢; rw [mob, if_neg hne]⟩ ?_ (by simp) (fun q hq => ?_) ?_ ?_ ?_ ?_ ?_
          · exact g0
          · rw [K3 (e1 := xv f e2) q1 rfl, List.length_set]; exact g1
          · first | exact g2 | rfl
          · rw [W1]
            by_cases hj : j = a2
            · rw [if_pos hj, hj, q1]; simp only [Option.map_some, Q6.own, xv, if_pos hm0]
            · rw [if_neg hj]
          · exact hrow q y hy
          · exact hrow _ _ (by rw [Y1, q1]; rfl)
          · exact hrow _ _ (by rw [Y0, q1]; rfl)
          · simp only [List.mem_cons, List.not_mem_nil, or_false] at hq ⊢; omega
          · simp only [List.mem_cons, List.not_mem_nil, or_false]; omega
          · omega
          · omega
          · omega
          · omega
      · have e5 : (f.mach != 0) = true := by simpa using hm0
        have f8 := WB es2 4
        have f13 : ∀ v : V, ((V6 4 es2).set a2 v)[a2]? = some v := fun v => by rw [List.getElem?_set, if_pos rfl, if_pos (by rw [f8]; exact q5)]
        have f14 : ∀ j (v : V), ((V6 4 es2).set a2 v)[j]? = if j = a2 then some v else (V6 4 es2)[j]? := fun j v => by
          rw [List.getElem?_set]
          by_cases hj : a2 = j
          · subst hj; rw [if_pos rfl, if_pos (by rw [f8]; exact q5), if_pos rfl]
          · rw [if_neg hj, if_neg (fun e => hj e.symm)]
        by_cases hne2 : e2.machs = []
        · have f10 : (V6 4 es2)[a2]? = some (.agg [V.int e2.num, .hd (4 + 3 * a2) 0 e2.hosts.length, KC, .hd (4 + 3 * a2 + 2) 0 e2.finds.length]) := by rw [W1, q1]; simp only [Option.map_some, Q6.own, mhd, if_pos hne2]
          have f9 := iW f.mach
          have hins : aak ltJ e2.machs f.mach = [f.mach] := by rw [hne2, abT]
          have hne3 : ¬ ([f.mach] : List Int) = [] := by simp
          (have zx := And.intro g0 (And.intro g1 (And.intro g2 (And.intro g3 (And.intro e5 (And.intro hw (And.intro f10 f13))))))); refine zgo ?_; repeat' first | exact zt | apply zan | intro hc
          all_goals
            refine hL _ (k + 1) (aaX [0, 1, 2] (nmS 4 a2 (4 + 3 * a2) 12000 (4 + 3 * a2 + 2))) (by omega) (by omega) ?_
            rw [hm, ← q2]
            refine acn (N := 4) (es0 := es2) (e1 := xv f e2) (els := (V6 4 es2).set a2 (.agg [V.int e2.num, .hd (4 + 3 * a2) 0 e2.hosts.length, .hd 12000 0 1, .hd (4 + 3 * a2 + 2) 0 e2.finds.length])) [0, 1, 2] rfl rfl q5 (by omega) (aa4 rfl (by rw [List.length_set]; rfl) rfl rfl rfl rfl) (by simp) ?_ ?_ ?_ (fun k y h => by simp at h) (fun j => ?_) (fun q y hq hq3 hy => ?_) ?_ ⟨_, rfl, fun _ => by simp only [xv, if_neg hm0, hins]; rfl⟩ ?_ (by simp) (fun q hq => ?_) ?_ ?_ ?_ ?_ ?_
            · simp only [List.getD_cons_zero, List.getD_cons_succ, upd, Nat.reduceEqDiff, if_false, if_true]; first | done | exact g0
            · rw [K3 (e1 := xv f e2) q1 rfl, List.length_set]; simp only [List.getD_cons_zero, List.getD_cons_succ, upd, Nat.reduceEqDiff, if_false, if_true]; first | done | exact g1
            · simp only [List.getD_cons_zero, List.getD_cons_succ, upd, Nat.reduceEqDiff, if_false, if_true]; first | done | rfl
            · rw [f14]
              by_cases hj : j = a2
              · rw [if_pos hj, if_pos hj]; simp only [xv, if_neg hm0, hins, mhd]; first | rfl | (rw [if_neg hne2]; done) | (rw [if_neg hne3]; done)
              · rw [if_neg hj, if_neg hj]
            · simp only [upd]; (repeat rw [if_neg (by omega)]); exact hrow q y hy
            · simp only [upd]; (repeat rw [if_neg (by omega)]); exact hrow _ _ (by rw [Y1, q1]; rfl)
            · simp only [upd]; (repeat rw [if_neg (by omega)]); exact hrow _ _ (by rw [Y0, q1]; rfl)
            · simp only [List.mem_cons, List.not_mem_nil, or_false] at hq ⊢; omega
            · simp only [List.mem_cons, List.not_mem_nil, or_false]; omega
            · omega
            · omega
            · omega
            · omega
        · have f10 : (V6 4 es2)[a2]? = some (.agg [V.int e2.num, .hd (4 + 3 * a2) 0 e2.hosts.length, .hd (4 + 3 * a2 + 1) 0 e2.machs.length, .hd (4 + 3 * a2 + 2) 0 e2.finds.length]) := by rw [W1, q1]; simp only [Option.map_some, Q6.own, mhd, if_neg hne2]
          have gM : EO[4 + 3 * a2 + 1]? = some (.buf true 1 (e2.machs.map V.int)) := by
            rw [show 4 + 3 * a2 + 1 = 4 + (3 * a2 + 1) by omega]
            exact hrow _ _ (by rw [W0, q1]; simp only [Option.map_some, mob, if_neg hne2])
          have hml : 0 < e2.machs.length := List.length_pos_iff.2 hne2
          obtain ⟨nM, hnM⟩ : ∃ n, n = 4 + 3 * a2 + 1 := ⟨_, rfl⟩
          rw [← hnM] at f10 gM
          have hM2 : nM < 2000 := by omega
          have hM3 : 3 ≤ nM := by omega
          have u1 : ∀ q, (nM = q + 2000) = False := fun q => eq_false (by omega)
          have u3 : ∀ q, (q + 2000 = nM) = False := fun q => eq_false (by omega)
          have u5 : (nM = 2) = False := eq_false (by omega)
          have u6 : (2 = nM) = False := eq_false (by omega)
          have u7 : (0 = nM) = False := eq_false (by omega)
          have u8 : (1 = nM) = False := eq_false (by omega)
          have v1 : ∀ q, decide (nM < q + 2000) = true := fun q => decide_eq_true (by omega)
          have wM : ZW (nM = 4 + 3 * a2 + 1) := ⟨hnM⟩
          clear hnM
          rcases hfo : WS e2.machs (bsI ltJ e2.machs f.mach) f.mach with _ | _
          · have f9 := iI e2.machs f.mach hml (by omega) hfo
            obtain ⟨hh, hins⟩ : ∃ hh, aak ltJ e2.machs f.mach = hh := ⟨_, rfl⟩
            have hne3 : ¬ hh = [] := by
              have := (aaj (lt := ltJ) e2.machs f.mach).2
              rw [hins] at this
              exact List.length_pos_iff.1 this
            rw [hins] at f9
            have hlm : (List.map V.int hh).length = hh.length := List.length_map _
            repeat' (first | (refine zsk ?_; intro K' hK) | (refine zrg ?_; intro K' hK) | refine zsp ?_ | (refine zsc ?_ ?_ <;> intro hc <;> first | exact znh | try simp only [znz] at hc) | simp (maxSteps := 1000000) only [go_sem, Nat.reduceAdd, Nat.reduceMul, Nat.reduceEqDiff, Nat.reduceLeDiff, Nat.reduceLT, Nat.reduceSub, Int.reduceEq, Int.reduceBEq, Int.reduceLT, Int.reduceLE, Int.reduceAdd, Int.reduceToNat, reduceIte, reduceCtorEq, mTs, g0, g1, g2, g3, e5, hw, f10, f13, hlm, gM, v1, u1, u3, u5, u6, Int.toNat_natCast] | (refine hK _ ?_; clear hK K') | apply zan | (apply aba; (focus exact rfl); (focus first | exact f9); (focus exact rfl); (focus exact rfl); (focus (first | exact rfl | (simp; done)))) | (apply yB; (focus exact rfl); (focus exact rfl); (focus first | exact f9); (focus exact rfl); (focus (first | exact rfl | (simp; done))); (focus (first | exact rfl | (simp; done)))) | (apply ah5; (focus first | exact rfl | (simp only [upd, if_false, *]; exact rfl)); (focus first | exact rfl | decide | (simp [rA, rW]; done) | (simp [rA, rW]; omega) | omega); (focus first | exact rfl | decide | (simp [rA, rW]; done) | (simp [rA, rW]; omega) | omega); (focus first | exact f9); (focus exact rfl); (focus first | exact rfl | decide | (simp [rA, rW]; done) | (simp [rA, rW]; omega) | omega); (focus (first | exact rfl | (simp; done))); (focus exact rfl)) | (apply U8; (focus exact rfl); (focus first | exact (z3 _ _ zsd zsd)); (focus exact rfl); (focus exact rfl)) | (apply VF; (focus exact rfl); (focus exact zrd); (focus exact zrd); (focus first | exact (z3 _ _ zsd zsd)); (focus exact rfl); (focus exact rfl); (focus exact zrd)) | (apply KW; (focus first | exact (z2 _ _ zsd zsd))) | (apply Uh; (focus first | exact (z2 _ _ zsd zsd)); (focus exact zrd)) | ((first | apply Qv | apply QQ); (focus first | exact (z0 _ _ zsd zsd).b)) | exact zsq | fail)
            all_goals
              have wM' := wM.h
              refine hL _ (k + 1) (aaX [0, 1, 2] (nmS 4 a2 (4 + 3 * a2) 12000 (4 + 3 * a2 + 2))) (by omega) (by omega) ?_
              rw [hm, ← q2]
              refine acn (N := 4) (es0 := es2) (e1 := xv f e2) (els := (V6 4 es2).set a2 (.agg [V.int e2.num, .hd (4 + 3 * a2) 0 e2.hosts.length, .hd 12000 0 hh.length, .hd (4 + 3 * a2 + 2) 0 e2.finds.length])) [0, 1, 2] rfl rfl q5 (by omega) (aa4 rfl (by rw [List.length_set]; rfl) rfl rfl rfl rfl) (by simp) ?_ ?_ ?_ (fun k y h => by simp at h) (fun j => ?_) (fun q y hq hq3 hy => ?_) ?_ ⟨.buf true 1 (hh.map V.int), by simp only [upd, u3, Nat.reduceEqDiff, if_false, if_true], fun _ => by simp only [xv, if_neg hm0, hins]⟩ ?_ (by simp) (fun q hq => ?_) ?_ ?_ ?_ ?_ ?_
              · simp only [List.getD_cons_zero, List.getD_cons_succ, upd, Nat.reduceEqDiff, if_false, if_true, u6, u7, u8]; first | done | exact g0
              · rw [K3 (e1 := xv f e2) q1 rfl, List.length_set]; simp only [List.getD_cons_zero, List.getD_cons_succ, upd, Nat.reduceEqDiff, if_false, if_true, u6, u7, u8]; first | done | exact g1
              · simp only [List.getD_cons_zero, List.getD_cons_succ, upd, Nat.reduceEqDiff, if_false, if_true, u6, u7, u8]; first | done | rfl
              · rw [f14]
                by_cases hj : j = a2
                · rw [if_pos hj, if_pos hj]; simp only [xv, if_neg hm0, hins, mhd]; first | rfl | (rw [if_neg hne2]; done) | (rw [if_neg hne3]; done)
                · rw [if_neg hj, if_neg hj]
              · simp only [upd]; (repeat rw [if_neg (by omega)]); exact hrow q y hy
              · simp only [upd]; (repeat rw [if_neg (by omega)]); exact hrow _ _ (by rw [Y1, q1]; rfl)
              · simp only [upd]; (repeat rw [if_neg (by omega)]); exact hrow _ _ (by rw [Y0, q1]; rfl)
              · simp only [List.mem_cons, List.not_mem_nil, or_false] at hq ⊢; omega
              · simp only [List.mem_cons, List.not_mem_nil, or_false]; omega
              · omega
              · omega
              · omega
              · omega
          · have f9 := iX e2.machs f.mach hml (by omega) hfo
            have hins : aak ltJ e2.machs f.mach = e2.machs := by rw [aak, if_pos hfo]
            repeat' (first | (refine zsk ?_; intro K' hK) | (refine zrg ?_; intro K' hK) | refine zsp ?_ | (refine zsc ?_ ?_ <;> intro hc <;> first | exact znh | try simp only [znz] at hc) | simp (maxSteps := 1000000) only [go_sem, Nat.reduceAdd, Nat.reduceMul, Nat.reduceEqDiff, Nat.reduceLeDiff, Nat.reduceLT, Nat.reduceSub, Int.reduceEq, Int.reduceBEq, Int.reduceLT, Int.reduceLE, Int.reduceAdd, Int.reduceToNat, reduceIte, reduceCtorEq, mTs, g0, g1, g2, g3, e5, hw, f10, f13, gM, v1, u1, u3, u5, u6, Int.toNat_natCast] | (refine hK _ ?_; clear hK K') | apply zan | (apply ajd; (focus exact rfl); (focus first | exact f9); (focus exact rfl); (focus exact rfl); (focus (first | exact rfl | (simp; done)))) | (apply ah3; (focus first | exact rfl | (simp only [upd, if_false, *]; exact rfl)); (focus first | exact rfl | decide | (simp [rA, rW]; done) | (simp [rA, rW]; omega) | omega); (focus first | exact rfl | decide | (simp [rA, rW]; done) | (simp [rA, rW]; omega) | omega); (focus first | exact f9); (focus exact rfl); (focus first | exact rfl | decide | (simp [rA, rW]; done) | (simp [rA, rW]; omega) | omega); (focus (first | exact rfl | (simp; done))); (focus exact rfl)) | (apply U8; (focus exact rfl); (focus first | exact (z3 _ _ zsd zsd)); (focus exact rfl); (focus exact rfl)) | (apply VF; (focus exact rfl); (focus exact zrd); (focus exact zrd); (focus first | exact (z3 _ _ zsd zsd)); (focus exact rfl); (focus exact rfl); (focus exact zrd)) | (apply KW; (focus first | exact (z2 _ _ zsd zsd))) | (apply Uh; (focus first | exact (z2 _ _ zsd zsd)); (focus exact zrd)) | ((first | apply Qv | apply QQ); (focus first | exact (z0 _ _ zsd zsd).b)) | exact zsq | fail)
            all_goals
              have wM' := wM.h
              refine hL _ (k + 1) (aaX [0, 1, 2] (nmS 4 a2 (4 + 3 * a2) nM (4 + 3 * a2 + 2))) (by omega) (by omega) ?_
              rw [hm, ← q2]
              refine acn (N := 4) (es0 := es2) (e1 := xv f e2) (els := (V6 4 es2).set a2 (.agg [V.int e2.num, .hd (4 + 3 * a2) 0 e2.hosts.length, .hd nM 0 e2.machs.length, .hd (4 + 3 * a2 + 2) 0 e2.finds.length])) [0, 1, 2] rfl rfl q5 (by omega) (aa4 rfl (by rw [List.length_set]; rfl) rfl rfl rfl rfl) (by simp) ?_ ?_ ?_ (fun k y h => by simp at h) (fun j => ?_) (fun q y hq hq3 hy => ?_) ?_ ⟨.buf true 1 (e2.machs.map V.int), by simp only [upd, u5, if_false, if_true, gM], fun _ => by simp only [xv, if_neg hm0, hins]⟩ ?_ (by simp) (fun q hq => ?_) ?_ ?_ ?_ ?_ ?_
              · simp only [List.getD_cons_zero, List.getD_cons_succ, upd, Nat.reduceEqDiff, if_false, if_true, u6, u7, u8]; first | done | exact g0
              · rw [K3 (e1 := xv f e2) q1 rfl, List.length_set]; simp only [List.getD_cons_zero, List.getD_cons_succ, upd, Nat.reduceEqDiff, if_false, if_true, u6, u7, u8]; first | done | exact g1
              · simp only [List.getD_cons_zero, List.getD_cons_succ, upd, Nat.reduceEqDiff, if_false, if_true, u6, u7, u8]; first | done | rfl
              · rw [f14]
                by_cases hj : j = a2
                · rw [if_pos hj, if_pos hj]; simp only [xv, if_neg hm0, hins, mhd]; first | rfl | (rw [if_neg hne2]; done) | (rw [if_neg hne3]; done)
                · rw [if_neg hj, if_neg hj]
              · simp only [upd]; (repeat rw [if_neg (by omega)]); exact hrow q y hy
              · simp only [upd]; (repeat rw [if_neg (by omega)]); exact hrow _ _ (by rw [Y1, q1]; rfl)
              · simp only [upd]; (repeat rw [if_neg (by omega)]); exact hrow _ _ (by rw [Y0, q1]; rfl)
              · simp only [List.mem_cons, List.not_mem_nil, or_false] at hq ⊢; omega
              · simp only [List.mem_cons, List.not_mem_nil, or_false]; omega
              · omega
              · omega
              · omega
              · omega
  · obtain ⟨a, e, hia, hea, hen⟩ := hI.find hp hk0
    have hal := (List.getElem?_eq_some_iff.1 hea).1
    have hsz := hI.sz e (List.mem_of_getElem? hea)
    have hel := hI.len
    have hrk := abM hp k
    have e2 : (((YO p k : Nat) : Int) == (k : Int)) = false := by simp; omega
    have g0 : (eO p (es.map Q6.num) (List.range es.length) [] es)[0]? = some (.box true (QX p)) := rfl
    have g1 : (eO p (es.map Q6.num) (List.range es.length) [] es)[1]? = some (.map (QX (es.map Q6.num)) (QX (List.range es.length)) 0) := rfl
    have g2 : (eO p (es.map Q6.num) (List.range es.length) [] es)[2]? = some (.obuf true 4 (V6 3 es)) := rfl
    have f1 := yX (YO p k) (es.map Q6.num) 0
    rw [hia] at f1
    have f3 := acO ((YO p k : Nat) : Int)
    have f6 : (QX (List.range es.length))[a]? = some (V.int (a : Nat)) := V5 (by simp [hal])
    have f8 := WB es 3
    have hes : JO l p (k + 1) = es.set a (Yx k f e) := by rw [hsu, adt, if_neg hk0, hia]; simp only [hea]
    clear hsu
    generalize YO p k = rt at *
    repeat' (first | (refine zsk ?_; intro K' hK) | refine zsp ?_ | (refine zsc ?_ ?_ <;> intro hc <;> first | exact znh | try simp only [znz] at hc) | simp (maxSteps := 1000000) only [go_sem, Nat.reduceAdd, Nat.reduceMul, Nat.reduceEqDiff, Nat.reduceLeDiff, Nat.reduceLT, Nat.reduceSub, Int.reduceEq, Int.reduceBEq, Int.reduceLT, Int.reduceLE, Int.reduceAdd, Int.reduceToNat, reduceIte, reduceCtorEq, eSt, eTs, e1, e2, g0, g1, g2, f1, f3, f6, f8, Int.toNat_natCast, List.getElem?_map, hget, Qa.v, Qa.cells] | (refine hK _ ?_; clear hK K') | apply zan | (apply U8; (focus exact rfl); (focus first | exact n1 | exact (z3 _ _ zsd zsd)); (focus exact rfl); (focus exact rfl)) | (apply KW; (focus first | exact (z2 _ _ zsd zsd))) | (apply Qv; (focus first | exact (z0 _ _ zsd zsd).b)) | exact zsq | fail)
    refine ajb (ι := List Q6 × Nat × Q6) (arD l p k f) (fun q => mSt l p q.1 f q.2.1 k) (fun s => s.keep [7, 8, 9, 11, 13, 24, 25, 26]) (fun K2 hK2 => ?_) (fun q hq s' τ hwk => ?_)
    · have f10 : (V6 3 es)[a]? = some (.agg [V.int e.num, .hd (3 + 3 * a) 0 e.hosts.length, mhd (3 + 3 * a + 1) e.machs, .hd (3 + 3 * a + 2) 0 e.finds.length]) := by rw [W1, hea]; rfl
      have gH : (eO p (es.map Q6.num) (List.range es.length) [] es)[3 + 3 * a]? = some (.buf true 1 (e.hosts.map V.str)) := by
        rw [show 3 + 3 * a = 3 + ([] : List Ob).length + 3 * a from rfl, yv, Y1, hea]; rfl
      have gF : (eO p (es.map Q6.num) (List.range es.length) [] es)[3 + 3 * a + 2]? = some (.buf true 1 (QX e.finds)) := by
        rw [show 3 + 3 * a + 2 = 3 + ([] : List Ob).length + (3 * a + 2) by simp; omega, yv, Y0, hea]; rfl
      obtain ⟨nH, hnH⟩ : ∃ n, n = 3 + 3 * a := ⟨_, rfl⟩
      obtain ⟨nF, hnF⟩ : ∃ n, n = 3 + 3 * a + 2 := ⟨_, rfl⟩
      rw [← hnF] at f10 gF
      rw [← hnH] at f10 gH
      have hF2 : nF < 2000 := by omega
      have hH2 : nH < 2000 := by omega
      have v1 : ∀ q, decide (nH < q + 2000) = true := fun q => decide_eq_true (by omega)
      have v2 : ∀ q, decide (nF < q + 2000) = true := fun q => decide_eq_true (by omega)
      have u1 : ∀ q, (nH = q + 2000) = False := fun q => eq_false (by omega)
      have u2 : ∀ q, (nF = q + 2000) = False := fun q => eq_false (by omega)
      have u3 : ∀ q, (q + 2000 = nH) = False := fun q => eq_false (by omega)
      have u4 : ∀ q, (q + 2000 = nF) = False := fun q => eq_false (by omega)
      have u5 : (nH = nF) = False := eq_false (by omega)
      have u6 : (nF = nH) = False := eq_false (by omega)
      have u7 : (nH = 0) = False := eq_false (by omega)
      have u8 : (nF = 0) = False := eq_false (by omega)
      have u11 : (nH = 2) = False := eq_false (by omega)
      have u12 : (nF = 2) = False := eq_false (by omega)
      have u9 : (2 = nH) = False := eq_false (by omega)
      have u10 : (2 = nF) = False := eq_false (by omega)
      have hH3 : 3 ≤ nH := by omega
      have hF3 : 3 ≤ nF := by omega
      have wH : ZW (nH = 3 + 3 * a) := ⟨hnH⟩
      have wF : ZW (nF = 3 + 3 * a + 2) := ⟨hnF⟩
      clear hnH hnF
      have f11 : List.take e.finds.length (QX e.finds) ++ [V.int k] = QX (e.finds ++ [k]) := by rw [List.take_of_length_le (by rw [V4]; exact Nat.le_refl _), j6]
      have f12 := V4 e.finds
      have z1 : e.finds.length ≤ 400 := by have := hsz.f1; omega
      have w0 : (0 = nH) = False := eq_false (by omega)
      have w1 : (0 = nF) = False := eq_false (by omega)
      have w2 : (1 = nH) = False := eq_false (by omega)
      have w3 : (1 = nF) = False := eq_false (by omega)
      have f13 : ∀ v : V, ((V6 3 es).set a v)[a]? = some v := fun v => by rw [List.getElem?_set, if_pos rfl, if_pos (by rw [f8]; exact hal)]
      have f14 : ∀ j (v : V), ((V6 3 es).set a v)[j]? = if j = a then some v else (V6 3 es)[j]? := fun j v => by
        rw [List.getElem?_set]
        by_cases hj : a = j
        · subst hj; rw [if_pos rfl, if_pos (by rw [f8]; exact hal), if_pos rfl]
        · rw [if_neg hj, if_neg (fun e => hj e.symm)]
      have f15 : ∀ v w : V, ((V6 3 es).set a v).set a w = (V6 3 es).set a w := fun v w => List.set_set ..
      rcases hfo : WS e.hosts (bsI Op.bytesLess e.hosts f.host) f.host with _ | _
      · have f9 := sI e.hosts f.host hsz.h0 (by have := hsz.h1; omega) hfo
        clear sX sI sW iX iI iW hL
        obtain ⟨hh, hins⟩ : ∃ hh, aak Op.bytesLess e.hosts f.host = hh := ⟨_, rfl⟩
        rw [hins] at f9
        have hlm : (List.map V.str hh).length = hh.length := List.length_map _
        repeat' (first | (refine zsk ?_; intro K' hK) | (refine zrg ?_; intro K' hK) | refine zsp ?_ | (refine zsc ?_ ?_ <;> intro hc <;> first | exact znh | try simp only [znz] at hc) | simp (maxSteps := 1000000) only [go_sem, Nat.reduceAdd, Nat.reduceMul, Nat.reduceEqDiff, Nat.reduceLeDiff, Nat.reduceLT, Nat.reduceSub, Int.reduceEq, Int.reduceBEq, Int.reduceLT, Int.reduceLE, Int.reduceAdd, Int.reduceToNat, reduceIte, reduceCtorEq, f8, f10, f11, f12, f13, f15, hlm, gH, gF, g2, v1, v2, u1, u2, u3, u4, u5, u6, u7, u8, u9, u10, Int.toNat_natCast] | (refine hK _ ?_; clear hK K') | apply zan | (apply aba; (focus exact rfl); (focus first | exact f9); (focus exact rfl); (focus exact rfl); (focus (first | exact rfl | (simp; done)))) | (apply yB; (focus exact rfl); (focus exact rfl); (focus first | exact f9); (focus exact rfl); (focus (first | exact rfl | (simp; done))); (focus (first | exact rfl | (simp; done)))) | (apply ah5; (focus first | exact rfl | (simp only [upd, if_false, *]; exact rfl)); (focus first | exact rfl | decide | (simp [rA, rW]; done) | (simp [rA, rW]; omega) | omega); (focus first | exact rfl | decide | (simp [rA, rW]; done) | (simp [rA, rW]; omega) | omega); (focus first | exact f9); (focus exact rfl); (focus first | exact rfl | decide | (simp [rA, rW]; done) | (simp [rA, rW]; omega) | omega); (focus (first | exact rfl | (simp; done))); (focus exact rfl)) | (apply U8; (focus exact rfl); (focus first | exact (z3 _ _ zsd zsd)); (focus exact rfl); (focus exact rfl)) | (apply VF; (focus exact rfl); (focus exact zrd); (focus exact zrd); (focus first | exact (z3 _ _ zsd zsd)); (focus exact rfl); (focus exact rfl); (focus exact zrd)) | (apply KW; (focus first | exact (z2 _ _ zsd zsd))) | (apply Uh; (focus first | exact (z2 _ _ zsd zsd)); (focus exact zrd)) | ((first | apply Qv | apply QQ); (focus first | exact (z0 _ _ zsd zsd).b)) | exact zsq | fail)
        all_goals
          have wH' := wH.h
          have wF' := wF.h
          refine hK2 _ (es.set a (QK k f e), a, QK k f e) (aaX [0, 1, 2, 6000] (nmS 3 a 30000 (3 + 3 * a + 1) 37000)) ⟨?_, ?_, ?_, ?_⟩ ?_
          · simp only; rw [List.getElem?_set, if_pos rfl, if_pos hal]
          · simp only; rw [hes, List.set_set]; rfl
          · simp only [List.length_set]; omega
          · simp only [QK]; have := hsz.m1; omega
          rw [hm]
          refine acn (es0 := es) (e1 := QK k f e) (els := (V6 3 es).set a (.agg [V.int e.num, .hd 30000 0 hh.length, mhd (nH + 1) e.machs, .hd 37000 0 (e.finds.length + 1)])) [0, 1, 2, 6000] rfl rfl hal (by omega) (ald rfl (by rw [List.length_set]; rfl) rfl rfl rfl rfl rfl rfl) (by simp) ?_ ?_ ?_ (ao3 (x3 := 6000) rfl ?_) (fun j => ?_) (fun q y hq hq3 hy => ?_) ?_ ⟨mob e.machs, ?_, fun hne => by rw [mob, if_neg (show ¬ e.machs = [] from hne)]; rfl⟩ ?_ (by simp) (fun q hq => ?_) ?_ ?_ ?_ ?_ ?_
          · simp only [List.getD_cons_zero, St.keep, upd, u7, u8, w0, w1, if_false, if_true, Nat.reduceEqDiff]
          · rw [K3 (e1 := QK k f e) hea rfl, List.length_set]
            simp only [List.getD_cons_succ, List.getD_cons_zero, St.keep, upd, w2, w3, if_false, if_true, Nat.reduceEqDiff, g1]
          · simp only [List.getD_cons_succ, List.getD_cons_zero, St.keep, upd, u9, u10, if_false, if_true, Nat.reduceEqDiff]
          · simp only [St.keep, upd, u3, u4, if_false, if_true, Nat.reduceEqDiff]; rfl
          · rw [f14]
            by_cases hj : j = a
            · rw [if_pos hj, if_pos hj, wH']
              simp only [QK, hins, List.length_append, List.length_singleton]
            · rw [if_neg hj, if_neg hj]
          · simp only [St.keep, upd]
            repeat rw [if_neg (by omega)]
            rw [show 3 + q = 3 + ([] : List Ob).length + q from rfl, yv]
            exact hy
          · simp only [QK, hins, St.keep, upd, u1, u3, u4, u5, u6, u11, u12, if_false, if_true, Nat.reduceEqDiff]
          · simp only [St.keep, upd]
            repeat rw [if_neg (by omega)]
            rw [show 3 + 3 * a + 1 = 3 + ([] : List Ob).length + (3 * a + 1) by simp; omega, yv, W0, hea]; rfl
          · simp only [QK, St.keep, upd, u3, u4, if_false, if_true, Nat.reduceEqDiff]
          · simp only [List.mem_cons, List.not_mem_nil, or_false] at hq ⊢; omega
          · simp only [List.mem_cons, List.not_mem_nil, or_false]; omega
          · omega
          · omega
          · omega
          · omega
      · have f9 := sX e.hosts f.host hsz.h0 (by have := hsz.h1; omega) hfo
        clear sX sI sW iX iI iW hL
        have hins : aak Op.bytesLess e.hosts f.host = e.hosts := by rw [aak, if_pos hfo]
        repeat' (first | (refine zsk ?_; intro K' hK) | (refine zrg ?_; intro K' hK) | refine zsp ?_ | (refine zsc ?_ ?_ <;> intro hc <;> first | exact znh | try simp only [znz] at hc) | simp (maxSteps := 1000000) only [go_sem, Nat.reduceAdd, Nat.reduceMul, Nat.reduceEqDiff, Nat.reduceLeDiff, Nat.reduceLT, Nat.reduceSub, Int.reduceEq, Int.reduceBEq, Int.reduceLT, Int.reduceLE, Int.reduceAdd, Int.reduceToNat, reduceIte, reduceCtorEq, f8, f10, f11, f12, f13, f15, gH, gF, g2, v1, v2, u1, u2, u3, u4, u5, u6, u7, u8, u9, u10, Int.toNat_natCast] | (refine hK _ ?_; clear hK K') | apply zan | (apply ajd; (focus exact rfl); (focus first | exact f9); (focus exact rfl); (focus exact rfl); (focus (first | exact rfl | (simp; done)))) | (apply ah3; (focus first | exact rfl | (simp only [upd, if_false, *]; exact rfl)); (focus first | exact rfl | decide | (simp [rA, rW]; done) | (simp [rA, rW]; omega) | omega); (focus first | exact rfl | decide | (simp [rA, rW]; done) | (simp [rA, rW]; omega) | omega); (focus first | exact f9); (focus exact rfl); (focus first | exact rfl | decide | (simp [rA, rW]; done) | (simp [rA, rW]; omega) | omega); (focus (first | exact rfl | (simp; done))); (focus exact rfl)) | (apply U8; (focus exact rfl); (focus first | exact (z3 _ _ zsd zsd)); (focus exact rfl); (focus exact rfl)) | (apply VF; (focus exact rfl); (focus exact zrd); (focus exact zrd); (focus first | exact (z3 _ _ zsd zsd)); (focus exact rfl); (focus exact rfl); (focus exact zrd)) | (apply KW; (focus first | exact (z2 _ _ zsd zsd))) | (apply Uh; (focus first | exact (z2 _ _ zsd zsd)); (focus exact zrd)) | ((first | apply Qv | apply QQ); (focus first | exact (z0 _ _ zsd zsd).b)) | exact zsq | fail)
        all_goals
          have wH' := wH.h
          have wF' := wF.h
          refine hK2 _ (es.set a (QK k f e), a, QK k f e) (aaX [0, 1, 2, 6000] (nmS 3 a nH (3 + 3 * a + 1) 37000)) ⟨?_, ?_, ?_, ?_⟩ ?_
          · simp only; rw [List.getElem?_set, if_pos rfl, if_pos hal]
          · simp only; rw [hes, List.set_set]; rfl
          · simp only [List.length_set]; omega
          · simp only [QK]; have := hsz.m1; omega
          rw [hm]
          refine acn (es0 := es) (e1 := QK k f e) (els := (V6 3 es).set a (.agg [V.int e.num, .hd nH 0 e.hosts.length, mhd (nH + 1) e.machs, .hd 37000 0 (e.finds.length + 1)])) [0, 1, 2, 6000] rfl rfl hal (by omega) (ald rfl (by rw [List.length_set]; rfl) rfl rfl rfl rfl rfl rfl) (by simp) ?_ ?_ ?_ (ao3 (x3 := 6000) rfl ?_) (fun j => ?_) (fun q y hq hq3 hy => ?_) ?_ ⟨mob e.machs, ?_, fun hne => by rw [mob, if_neg (show ¬ e.machs = [] from hne)]; rfl⟩ ?_ (by simp) (fun q hq => ?_) ?_ ?_ ?_ ?_ ?_
          · simp only [List.getD_cons_zero, St.keep, upd, u7, u8, w0, w1, if_false, if_true, Nat.reduceEqDiff]
          · rw [K3 (e1 := QK k f e) hea rfl, List.length_set]
            simp only [List.getD_cons_succ, List.getD_cons_zero, St.keep, upd, w2, w3, if_false, if_true, Nat.reduceEqDiff, g1]
          · simp only [List.getD_cons_succ, List.getD_cons_zero, St.keep, upd, u9, u10, if_false, if_true, Nat.reduceEqDiff]
          · simp only [St.keep, upd, u3, u4, if_false, if_true, Nat.reduceEqDiff]; rfl
          · rw [f14]
            by_cases hj : j = a
            · rw [if_pos hj, if_pos hj, wH']
              simp only [QK, hins, List.length_append, List.length_singleton]
            · rw [if_neg hj, if_neg hj]
          · simp only [St.keep, upd]
            repeat rw [if_neg (by omega)]
            rw [show 3 + q = 3 + ([] : List Ob).length + q from rfl, yv]
            exact hy
          · simp only [QK, hins, St.keep, upd, u1, u3, u4, u5, u6, u11, u12, if_false, if_true, Nat.reduceEqDiff]
          · simp only [St.keep, upd]
            repeat rw [if_neg (by omega)]
            rw [show 3 + 3 * a + 1 = 3 + ([] : List Ob).length + (3 * a + 1) by simp; omega, yv, W0, hea]; rfl
          · simp only [QK, St.keep, upd, u3, u4, if_false, if_true, Nat.reduceEqDiff]
          · simp only [List.mem_cons, List.not_mem_nil, or_false] at hq ⊢; omega
          · simp only [List.mem_cons, List.not_mem_nil, or_false]; omega
          · omega
          · omega
          · omega
          · omega
    · obtain ⟨es2, a2, e2⟩ := q
      obtain ⟨q1, q2, q3, q4⟩ := hq
      simp only at q1 q2 q3 q4 hwk ⊢
      refine abX hwk ?_
      clear hwk
      have q5 := (List.getElem?_eq_some_iff.1 q1).1
      have g0 : (eO p (es2.map Q6.num) (List.range es2.length) [.box true f.cells] es2)[0]? = some (.box true (QX p)) := rfl
      have g1 : (eO p (es2.map Q6.num) (List.range es2.length) [.box true f.cells] es2)[1]? = some (.map (QX (es2.map Q6.num)) (QX (List.range es2.length)) 0) := rfl
      have g2 : (eO p (es2.map Q6.num) (List.range es2.length) [.box true f.cells] es2)[2]? = some (.obuf true 4 (V6 4 es2)) := rfl
      have g3 : (eO p (es2.map Q6.num) (List.range es2.length) [.box true f.cells] es2)[3]? = some (.box true f.cells) := rfl
      simp only [mSt]
      generalize hEO : eO p (es2.map Q6.num) (List.range es2.length) [.box true f.cells] es2 = EO at g0 g1 g2 g3 ⊢
      simp only [Qa.cells] at g3
      have hrow : ∀ q y, (aaW es2)[q]? = some y → EO[4 + q]? = some y := fun q y h => by
        rw [← hEO, show 4 + q = 3 + [Ob.box true f.cells].length + q from rfl, yv]; exact h
      have wEO : ZW (eO p (es2.map Q6.num) (List.range es2.length) [.box true f.cells] es2 = EO) := ⟨hEO⟩
      clear hEO
      by_cases hm0 : f.mach = 0
      · have e5 : (f.mach != 0) = false := by simpa using hm0
        (have zx := And.intro g0 (And.intro g1 (And.intro g2 (And.intro g3 (And.intro e5 hw))))); refine zgo ?_; repeat' first | exact zt | apply zan | intro hc
        all_goals
          refine hL _ (k + 1) (aaX [0, 1, 2] (nmS 4 a2 (4 + 3 * a2) (4 + 3 * a2 + 1) (4 + 3 * a2 + 2))) (by omega) (by omega) ?_
          rw [hm, ← q2]
          refine acn (N := 4) (es0 := es2) (e1 := xv f e2) (els := V6 4 es2) [0, 1, 2] rfl rfl q5 (by omega) (aa4 rfl (by rw [List.length_set]; rfl) rfl rfl rfl rfl) (by simp) ?_ ?_ ?_ (fun k y h => by simp at h) (fun j => ?_) (fun q y hq hq3 hy => ?_) ?_ ⟨mob e2.machs, hrow _ _ (by rw [W0, q1]; rfl), fun hne => by rw [xv, if_pos hm0] at hne ⊢; rw [mob, if_neg hne]⟩ ?_ (by simp) (fun q hq => ?_) ?_ ?_ ?_ ?_ ?_
          · exact g0
          · rw [K3 (e1 := xv f e2) q1 rfl, List.length_set]; exact g1
          · first | exact g2 | rfl
          · rw [W1]
            by_cases hj : j = a2
            · rw [if_pos hj, hj, q1]; simp only [Option.map_some, Q6.own, xv, if_pos hm0]
            · rw [if_neg hj]
          · exact hrow q y hy
          · exact hrow _ _ (by rw [Y1, q1]; rfl)
          · exact hrow _ _ (by rw [Y0, q1]; rfl)
          · simp only [List.mem_cons, List.not_mem_nil, or_false] at hq ⊢; omega
          · simp only [List.mem_cons, List.not_mem_nil, or_false]; omega
          · omega
          · omega
          · omega
          · omega
      · have e5 : (f.mach != 0) = true := by simpa using hm0
        have f8 := WB es2 4
        have f13 : ∀ v : V, ((V6 4 es2).set a2 v)[a2]? = some v := fun v => by rw [List.getElem?_set, if_pos rfl, if_pos (by rw [f8]; exact q5)]
        have f14 : ∀ j (v : V), ((V6 4 es2).set a2 v)[j]? = if j = a2 then some v else (V6 4 es2)[j]? := fun j v => by
          rw [List.getElem?_set]
          by_cases hj : a2 = j
          · subst hj; rw [if_pos rfl, if_pos (by rw [f8]; exact q5), if_pos rfl]
          · rw [if_neg hj, if_neg (fun e => hj e.symm)]
        by_cases hne2 : e2.machs = []
        · have f10 : (V6 4 es2)[a2]? = some (.agg [V.int e2.num, .hd (4 + 3 * a2) 0 e2.hosts.length, KC, .hd (4 + 3 * a2 + 2) 0 e2.finds.length]) := by rw [W1, q1]; simp only [Option.map_some, Q6.own, mhd, if_pos hne2]
          have f9 := iW f.mach
          have hins : aak ltJ e2.machs f.mach = [f.mach] := by rw [hne2, abT]
          have hne3 : ¬ ([f.mach] : List Int) = [] := by simp
          (have zx := And.intro g0 (And.intro g1 (And.intro g2 (And.intro g3 (And.intro e5 (And.intro hw (And.intro f10 f13))))))); refine zgo ?_; repeat' first | exact zt | apply zan | intro hc
          all_goals
            refine hL _ (k + 1) (aaX [0, 1, 2] (nmS 4 a2 (4 + 3 * a2) 12000 (4 + 3 * a2 + 2))) (by omega) (by omega) ?_
            rw [hm, ← q2]
            refine acn (N := 4) (es0 := es2) (e1 := xv f e2) (els := (V6 4 es2).set a2 (.agg [V.int e2.num, .hd (4 + 3 * a2) 0 e2.hosts.length, .hd 12000 0 1, .hd (4 + 3 * a2 + 2) 0 e2.finds.length])) [0, 1, 2] rfl rfl q5 (by omega) (aa4 rfl (by rw [List.length_set]; rfl) rfl rfl rfl rfl) (by simp) ?_ ?_ ?_ (fun k y h => by simp at h) (fun j => ?_) (fun q y hq hq3 hy => ?_) ?_ ⟨_, rfl, fun _ => by simp only [xv, if_neg hm0, hins]; rfl⟩ ?_ (by simp) (fun q hq => ?_) ?_ ?_ ?_ ?_ ?_
            · simp only [List.getD_cons_zero, List.getD_cons_succ, upd, Nat.reduceEqDiff, if_false, if_true]; first | done | exact g0
            · rw [K3 (e1 := xv f e2) q1 rfl, List.length_set]; simp only [List.getD_cons_zero, List.getD_cons_succ, upd, Nat.reduceEqDiff, if_false, if_true]; first | done | exact g1
            · simp only [List.getD_cons_zero, List.getD_cons_succ, upd, Nat.reduceEqDiff, if_false, if_true]; first | done | rfl
            · rw [f14]
              by_cases hj : j = a2
              · rw [if_pos hj, if_pos hj]; simp only [xv, if_neg hm0, hins, mhd]; first | rfl | (rw [if_neg hne2]; done) | (rw [if_neg hne3]; done)
              · rw [if_neg hj, if_neg hj]
            · simp only [upd]; (repeat rw [if_neg (by omega)]); exact hrow q y hy
            · simp only [upd]; (repeat rw [if_neg (by omega)]); exact hrow _ _ (by rw [Y1, q1]; rfl)
            · simp only [upd]; (repeat rw [if_neg (by omega)]); exact hrow _ _ (by rw [Y0, q1]; rfl)
            · simp only [List.mem_cons, List.not_mem_nil, or_false] at hq ⊢; omega
            · simp only [List.mem_cons, List.not_mem_nil, or_false]; omega
            · omega
            · omega
            · omega
            · omega
        · have f10 : (V6 4 es2)[a2]? = some (.agg [V.int e2.num, .hd (4 + 3 * a2) 0 e2.hosts.length, .hd (4 + 3 * a2 + 1) 0 e2.machs.length, .hd (4 + 3 * a2 + 2) 0 e2.finds.length]) := by rw [W1, q1]; simp only [Option.map_some, Q6.own, mhd, if_neg hne2]
          have gM : EO[4 + 3 * a2 + 1]? = some (.buf true 1 (e2.machs.map V.int)) := by
            rw [show 4 + 3 * a2 + 1 = 4 + (3 * a2 + 1) by omega]
            exact hrow _ _ (by rw [W0, q1]; simp only [Option.map_some, mob, if_neg hne2])
          have hml : 0 < e2.machs.length := List.length_pos_iff.2 hne2
          obtain ⟨nM, hnM⟩ : ∃ n, n = 4 + 3 * a2 + 1 := ⟨_, rfl⟩
          rw [← hnM] at f10 gM
          have hM2 : nM < 2000 := by omega
          have hM3 : 3 ≤ nM := by omega
          have u1 : ∀ q, (nM = q + 2000) = False := fun q => eq_false (by omega)
          have u3 : ∀ q, (q + 2000 = nM) = False := fun q => eq_false (by omega)
          have u5 : (nM = 2) = False := eq_false (by omega)
          have u6 : (2 = nM) = False := eq_false (by omega)
          have u7 : (0 = nM) = False := eq_false (by omega)
          have u8 : (1 = nM) = False := eq_false (by omega)
          have v1 : ∀ q, decide (nM < q + 2000) = true := fun q => decide_eq_true (by omega)
          have wM : ZW (nM = 4 + 3 * a2 + 1) := ⟨hnM⟩
          clear hnM
          rcases hfo : WS e2.machs (bsI ltJ e2.machs f.mach) f.mach with _ | _
          · have f9 := iI e2.machs f.mach hml (by omega) hfo
            obtain ⟨hh, hins⟩ : ∃ hh, aak ltJ e2.machs f.mach = hh := ⟨_, rfl⟩
            have hne3 : ¬ hh = [] := by
              have := (aaj (lt := ltJ) e2.machs f.mach).2
              rw [hins] at this
              exact List.length_pos_iff.1 this
            rw [hins] at f9
            have hlm : (List.map V.int hh).length = hh.length := List.length_map _
            repeat' (first | (refine zsk ?_; intro K' hK) | (refine zrg ?_; intro K' hK) | refine zsp ?_ | (refine zsc ?_ ?_ <;> intro hc <;> first | exact znh | try simp only [znz] at hc) | simp (maxSteps := 1000000) only [go_sem, Nat.reduceAdd, Nat.reduceMul, Nat.reduceEqDiff, Nat.reduceLeDiff, Nat.reduceLT, Nat.reduceSub, Int.reduceEq, Int.reduceBEq, Int.reduceLT, Int.reduceLE, Int.reduceAdd, Int.reduceToNat, reduceIte, reduceCtorEq, mTs, g0, g1, g2, g3, e5, hw, f10, f13, hlm, gM, v1, u1, u3, u5, u6, Int.toNat_natCast] | (refine hK _ ?_; clear hK K') | apply zan | (apply aba; (focus exact rfl); (focus first | exact f9); (focus exact rfl); (focus exact rfl); (focus (first | exact rfl | (simp; done)))) | (apply yB; (focus exact rfl); (focus exact rfl); (focus first | exact f9); (focus exact rfl); (focus (first | exact rfl | (simp; done))); (focus (first | exact rfl | (simp; done)))) | (apply ah5; (focus first | exact rfl | (simp only [upd, if_false, *]; exact rfl)); (focus first | exact rfl | decide | (simp [rA, rW]; done) | (simp [rA, rW]; omega) | omega); (focus first | exact rfl | decide | (simp [rA, rW]; done) | (simp [rA, rW]; omega) | omega); (focus first | exact f9); (focus exact rfl); (focus first | exact rfl | decide | (simp [rA, rW]; done) | (simp [rA, rW]; omega) | omega); (focus (first | exact rfl | (simp; done))); (focus exact rfl)) | (apply U8; (focus exact rfl); (focus first | exact (z3 _ _ zsd zsd)); (focus exact rfl); (focus exact rfl)) | (apply VF; (focus exact rfl); (focus exact zrd); (focus exact zrd); (focus first | exact (z3 _ _ zsd zsd)); (focus exact rfl); (focus exact rfl); (focus exact zrd)) | (apply KW; (focus first | exact (z2 _ _ zsd zsd))) | (apply Uh; (focus first | exact (z2 _ _ zsd zsd)); (focus exact zrd)) | ((first | apply Qv | apply QQ); (focus first | exact (z0 _ _ zsd zsd).b)) | exact zsq | fail)
            all_goals
              have wM' := wM.h
              refine hL _ (k + 1) (aaX [0, 1, 2] (nmS 4 a2 (4 + 3 * a2) 12000 (4 + 3 * a2 + 2))) (by omega) (by omega) ?_
              rw [hm, ← q2]
              refine acn (N := 4) (es0 := es2) (e1 := xv f e2) (els := (V6 4 es2).set a2 (.agg [V.int e2.num, .hd (4 + 3 * a2) 0 e2.hosts.length, .hd 12000 0 hh.length, .hd (4 + 3 * a2 + 2) 0 e2.finds.length])) [0, 1, 2] rfl rfl q5 (by omega) (aa4 rfl (by rw [List.length_set]; rfl) rfl rfl rfl rfl) (by simp) ?_ ?_ ?_ (fun k y h => by simp at h) (fun j => ?_) (fun q y hq hq3 hy => ?_) ?_ ⟨.buf true 1 (hh.map V.int), by simp only [upd, u3, Nat.reduceEqDiff, if_false, if_true], fun _ => by simp only [xv, if_neg hm0, hins]⟩ ?_ (by simp) (fun q hq => ?_) ?_ ?_ ?_ ?_ ?_
              · simp only [List.getD_cons_zero, List.getD_cons_succ, upd, Nat.reduceEqDiff, if_false, if_true, u6, u7, u8]; first | done | exact g0
              · rw [K3 (e1 := xv f e2) q1 rfl, List.length_set]; simp only [List.getD_cons_zero, List.getD_cons_succ, upd, Nat.reduceEqDiff, if_false, if_true, u6, u7, u8]; first | done | exact g1
              · simp only [List.getD_cons_zero, List.getD_cons_succ, upd, Nat.reduceEqDiff, if_false, if_true, u6, u7, u8]; first | done | rfl
              · rw [f14]
                by_cases hj : j = a2
                · rw [if_pos hj, if_pos hj]; simp only [xv, if_neg hm0, hins, mhd]; first | rfl | (rw [if_neg hne2]; done) | (rw [if_neg hne3]; done)
                · rw [if_neg hj, if_neg hj]
              · simp only [upd]; (repeat rw [if_neg (by omega)]); exact hrow q y hy
              · simp only [upd]; (repeat rw [if_neg (by omega)]); exact hrow _ _ (by rw [Y1, q1]; rfl)
              · simp only [upd]; (repeat rw [if_neg (by omega)]); exact hrow _ _ (by rw [Y0, q1]; rfl)
              · simp only [List.mem_cons, List.not_mem_nil, or_false] at hq ⊢; omega
              · simp only [List.mem_cons, List.not_mem_nil, or_false]; omega
              · omega
              · omega
              · omega
              · omega
          · have f9 := iX e2.machs f.mach hml (by omega) hfo
            have hins : aak ltJ e2.machs f.mach = e2.machs := by rw [aak, if_pos hfo]
            repeat' (first | (refine zsk ?_; intro K' hK) | (refine zrg ?_; intro K' hK) | refine zsp ?_ | (refine zsc ?_ ?_ <;> intro hc <;> first | exact znh | try simp only [znz] at hc) | simp (maxSteps := 1000000) only [go_sem, Nat.reduceAdd, Nat.reduceMul, Nat.reduceEqDiff, Nat.reduceLeDiff, Nat.reduceLT, Nat.reduceSub, Int.reduceEq, Int.reduceBEq, Int.reduceLT, Int.reduceLE, Int.reduceAdd, Int.reduceToNat, reduceIte, reduceCtorEq, mTs, g0, g1, g2, g3, e5, hw, f10, f13, gM, v1, u1, u3, u5, u6, Int.toNat_natCast] | (refine hK _ ?_; clear hK K') | apply zan | (apply ajd; (focus exact rfl); (focus first | exact f9); (focus exact rfl); (focus exact rfl); (focus (first | exact rfl | (simp; done)))) | (apply ah3; (focus first | exact rfl | (simp only [upd, if_false, *]; exact rfl)); (focus first | exact rfl | decide | (simp [rA, rW]; done) | (simp [rA, rW]; omega) | omega); (focus first | exact rfl | decide | (simp [rA, rW]; done) | (simp [rA, rW]; omega) | omega); (focus first | exact f9); (focus exact rfl); (focus first | exact rfl | decide | (simp [rA, rW]; done) | (simp [rA, rW]; omega) | omega); (focus (first | exact rfl | (simp; done))); (focus exact rfl)) | (apply U8; (focus exact rfl); (focus first | exact (z3 _ _ zsd zsd)); (focus exact rfl); (focus exact rfl)) | (apply VF; (focus exact rfl); (focus exact zrd); (focus exact zrd); (focus first | exact (z3 _ _ zsd zsd)); (focus exact rfl); (focus exact rfl); (focus exact zrd)) | (apply KW; (focus first | exact (z2 _ _ zsd zsd))) | (apply Uh; (focus first | exact (z2 _ _ zsd zsd)); (focus exact zrd)) | ((first | apply Qv | apply QQ); (focus first | exact (z0 _ _ zsd zsd).b)) | exact zsq | fail)
            all_goals
              have wM' := wM.h
              refine hL _ (k + 1) (aaX [0, 1, 2] (nmS 4 a2 (4 + 3 * a2) nM (4 + 3 * a2 + 2))) (by omega) (by omega) ?_
              rw [hm, ← q2]
              refine acn (N := 4) (es0 := es2) (e1 := xv f e2) (els := (V6 4 es2).set a2 (.agg [V.int e2.num, .hd (4 + 3 * a2) 0 e2.hosts.length, .hd nM 0 e2.machs.length, .hd (4 + 3 * a2 + 2) 0 e2.finds.length])) [0, 1, 2] rfl rfl q5 (by omega) (aa4 rfl (by rw [List.length_set]; rfl) rfl rfl rfl rfl) (by simp) ?_ ?_ ?_ (fun k y h => by simp at h) (fun j => ?_) (fun q y hq hq3 hy => ?_) ?_ ⟨.buf true 1 (e2.machs.map V.int), by simp only [upd, u5, if_false, if_true, gM], fun _ => by simp only [xv, if_neg hm0, hins]⟩ ?_ (by simp) (fun q hq => ?_) ?_ ?_ ?_ ?_ ?_
              · simp only [List.getD_cons_zero, List.getD_cons_succ, upd, Nat.reduceEqDiff, if_false, if_true, u6, u7, u8]; first | done | exact g0
              · rw [K3 (e1 := xv f e2) q1 rfl, List.length_set]; simp only [List.getD_cons_zero, List.getD_cons_succ, upd, Nat.reduceEqDiff, if_false, if_true, u6, u7, u8]; first | done | exact g1
              · simp only [List.getD_cons_zero, List.getD_cons_succ, upd, Nat.reduceEqDiff, if_false, if_true, u6, u7, u8]; first | done | rfl
              · rw [f14]
                by_cases hj : j = a2
                · rw [if_pos hj, if_pos hj]; simp only [xv, if_neg hm0, hins, mhd]; first | rfl | (rw [if_neg hne2]; done) | (rw [if_neg hne3]; done)
                · rw [if_neg hj, if_neg hj]
              · simp only [upd]; (repeat rw [if_neg (by omega)]); exact hrow q y hy
              · simp only [upd]; (repeat rw [if_neg (by omega)]); exact hrow _ _ (by rw [Y1, q1]; rfl)
              · simp only [upd]; (repeat rw [if_neg (by omega)]); exact hrow _ _ (by rw [Y0, q1]; rfl)
              · simp only [List.mem_cons, List.not_mem_nil, or_false] at hq ⊢; omega
              · simp only [List.mem_cons, List.not_mem_nil, or_false]; omega
              · omega
              · omega
              · omega
              · omega
def ara (a b id : Int) (l : List aaA) : Bool := match l with | [] => true | c :: _ => ((c.kalg == a && c.kbits == b) && (c.kid == id))
def aqW (a b id : Int) (l : List aaA) : Bool := aoi a b 2 && (agX id && (decide ((l.length : Int) ≤ 8) && (l.all aro && ara a b id l)))
end Av
end

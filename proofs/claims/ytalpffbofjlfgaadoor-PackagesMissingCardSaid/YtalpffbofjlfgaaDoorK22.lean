/- Loose contracts: of functions that are lent dice and answer one of many values. -/
import Derived.Test.YtalpffbofjlfgaaDoorK21
set_option linter.unusedVariables false
set_option linter.unusedSimpArgs false
section
namespace Av
open Go
theorem EvP.shut {Γ : Env} {f : FuncId} {args : List V} {ins : List Ob} {Q Q2 : V → List Ob → Prop} (h : EvP Γ f args ins Q)
    (hq : ∀ res outs, Q res outs → ∃ res2 outs2 br B, Q2 res2 outs2 ∧ conv (fun k => outs[k]?) br B res res2 ∧ abP (fun k => outs[k]?) br B br outs2 ∧ br.Nodup ∧ br.take ins.length = List.range ins.length) : EvP Γ f args ins Q2 := by
  intro C cargs hP hm hmu hg hF hsz hrep
  refine (h C cargs hP hm hmu hg hF hsz hrep).mono ?_
  rintro e w' ⟨res, outs, hQ, v, Z', μ', rfl, hr, hg', hmu'⟩
  obtain ⟨res2, outs2, br, B, h2, hc, hl, hn, hf⟩ := hq res outs hQ
  obtain ⟨g2, h3, _⟩ := hg'.close hn hl (by rw [hm]; exact hf)
  exact ⟨res2, outs2, h2, v, _, _, rfl, WG hg' br B _ _ _ _ (Nat.le_refl _) hr hc, g2, h3⟩
structure EvK (Γ : Env) (f : FuncId) (args cs : List V) (Q : V → List V → Prop) : Prop where
  ev : EvP Γ f (.ptr 0 0 :: args) [.box true cs] (fun r o => ∃ cs2, o = [.box true cs2] ∧ Q r cs2)
  c1 : Qg cs
  cq : ∀ r cs2, Q r cs2 → r.closed ∧ Qg cs2
theorem EvD.k {Γ : Env} {f : FuncId} {args cs cs2 : List V} {res : V} {Q : V → List V → Prop} (h : EvD Γ f args cs res cs2) (hq : Q res cs2) (hc : ∀ r cs2, Q r cs2 → r.closed ∧ Qg cs2) : EvK Γ f args cs Q :=
  ⟨h.ev.p.weaken fun r o ⟨h1, h2⟩ => ⟨cs2, h2, h1 ▸ hq⟩, h.c1, hc⟩
theorem EvK.weaken {Γ : Env} {f : FuncId} {args cs : List V} {Q Q' : V → List V → Prop} (h : EvK Γ f args cs Q) (hq : ∀ r c, Q r c → Q' r c) (hc : ∀ r cs2, Q' r cs2 → r.closed ∧ Qg cs2) : EvK Γ f args cs Q' :=
  ⟨h.ev.weaken fun r o ⟨c, h1, h2⟩ => ⟨c, h1, hq _ _ h2⟩, h.c1, hc⟩
section
variable {Γ : Env} {b : Nat} {r : List AO} {s : St} {d : Option Nat} {f : FuncId} {acts cs : List V} {Q : V → List V → Prop} {K : St → Prop} {a : Nat}
end
section
variable {Γ : Env} {b : Nat} {r : List AO} {s : St} {d : Option Nat} {f : FuncId} {acts args cs : List V} {Q : V → List Ob → Prop} {K : St → Prop} {okf : Option (List Nat) → Prop} {a : Nat}
theorem ad7 (ha : s.o a = some (.box true cs)) (h : EvP Γ f [.ptr 0 0] [.box true cs] Q) (hc : Qg cs) (hab : a < b)
    (hk : ∀ res outs, Q res outs → 1 ≤ outs.length ∧ outs.length - 1 < KK ∧ Y0 Γ (b + KK) r { t := (s.put d (res.ren (sig [a] b))).t, o := Xf (sig [a] b) b [a] outs s.o, n := s.n } K) : ad8 Γ b r s d f [.ptr a 0] args okf K := fun _ _ => by
  refine (show UK Γ b s d f [.ptr a 0] _ from ⟨_, _, _, [a], some [], h, ⟨by simp [conv], trivial⟩, ⟨⟨_, ha, Ju _ _ _ _ hc⟩, trivial⟩, by simp, by simpa using hab, ?_⟩)
  intro res outs hq
  obtain ⟨h1, h2, h3⟩ := hk res outs hq
  refine ⟨h1, h2, fun h => by simp at h, ?_⟩
  rw [aeN]
  exact h3
end
theorem xH (σ : Nat → Nat) : ∀ (outs : List Ob) (b : Nat) (o : Nat → Option Ob) (i : Nat), i < outs.length → XT σ b outs o (b + i) = outs[i]?.map (Ob.ren σ)
  | [], _, _, i, h => by simp at h
  | x :: r, b, o, 0, _ => by simp only [XT, Nat.add_zero, Qr]; rfl
  | x :: r, b, o, i + 1, h => by
    simp only [XT]
    rw [QT _ _ (by omega), show b + (i + 1) = b + 1 + i by omega, xH σ r (b + 1) o i (by simpa using h)]
    rfl
section
variable {C : Ctx} {nt : Nat} {s : St} {K : St → Prop} {E : Nat → St → Prop} {R : St → Prop}
theorem abB {ks : List Nat} {x : AC} {ι : Type} (good : ι → Prop) (inv : ι → St) (msr : ι → Nat) (i0 : ι) (h0 : good i0) (s0 : St) (hs0 : Le s s0) (τ : Nat → Nat) (hw : vH C.m τ s0 (inv i0))
    (h : ∀ i, good i → ∀ K' : St → Prop, (∀ s' s2 i' τ, Le s' s2 → good i' → msr i' < msr i → vH C.m τ s2 (inv i') → K' s') → AWp C nt x (inv i) K' E R) : AWp C nt (VC ks x) s K E R := by
  refine vD (fun k s' => ∃ i s2 τ, good i ∧ msr i = k ∧ Le s' s2 ∧ vH C.m τ s2 (inv i)) ⟨msr i0, i0, s0, τ, h0, rfl, hs0, hw⟩ ?_
  rintro k s' ⟨i, s2, τ, hg, rfl, hle, hw⟩
  refine adz hle (jx hw (h i hg _ ?_))
  rintro s'' s3 i' τ' hle' hg' hm hw'
  exact ⟨msr i', hm, i', s3, τ', hg', rfl, hle', hw'⟩
end
end Av
end
section
set_option linter.unusedSimpArgs false
set_option linter.unusedVariables false
set_option maxRecDepth 10000
set_option maxHeartbeats 4000000
namespace Av
open Go
attribute [local irreducible] AWp Y0 Xe Xo awS awC Wo awQ Wp QS JT Wm awR JV awB okR Y6 ris
theorem xP {ps : List QB} (h : KU ps) : PSz ps := by
  refine ⟨by have := h.1; omega, fun p hp => ?_⟩
  obtain ⟨h1, h2, h3, h4⟩ := h.2 p hp
  refine ⟨by omega, by omega, by omega, fun n hn => ?_⟩
  obtain ⟨g1, g2, g3⟩ := h4 n hn
  exact ⟨by omega, by omega, by omega⟩
theorem qC {τ : Nat → Nat} : ∀ (ps : List QB) (n m : Nat), (∀ i, i < ps.length → τ (n + i) = m + i) → W3 τ (Wn n ps) = Wn m ps
  | [], _, _, _ => rfl
  | p :: r, n, m, h => by
    have h0 := h 0 (by simp)
    simp only [Wn, W3, QB.own, V.ren]
    rw [qC r (n + 1) (m + 1) (fun i hi => by rw [show n + 1 + i = n + (i + 1) by omega, h (i + 1) (by simp; omega)]; omega)]
    rw [show τ n = m by simpa using h0]
theorem WJ {ps : List QB} {i : Nat} : (Yj ps)[i]? = (ps[i]?).map fun p => .buf true 3 (p.needs.map Js.v) := by rw [Yj, List.getElem?_map]
theorem yY {o : Nat → Option Ob} : ∀ (ps : List QB) (n : Nat), (∀ i, i < ps.length → o (n + i) = (Yj ps)[i]?) → WI o (Wn n ps) = ps.map QB.v
  | [], _, _ => by simp [Wn, WI]
  | p :: r, n, h => by
    have h0 := h 0 (by simp)
    rw [Nat.add_zero, WJ] at h0
    have h0 : o n = some (.buf true 3 (p.needs.map Js.v)) := h0
    simp only [Wn, WI, QB.own, V.shut0, h0, List.map_cons]
    rw [yY r (n + 1) (fun i hi => by
      have := h (i + 1) (by simp; omega)
      rw [show n + 1 + i = n + (i + 1) by omega, this, WJ, WJ]; rfl)]
    rw [List.drop_zero, List.take_of_length_le (by simp)]
    rfl
theorem qw {o : Nat → Option Ob} : ∀ (ps : List QB) (n : Nat), (∀ i, i < ps.length → o (n + i) = (Yj ps)[i]?) → Xx o none (Wn n ps)
  | [], _, _ => by simp [Wn, Xx]
  | p :: r, n, h => by
    have h0 := h 0 (by simp)
    rw [Nat.add_zero, WJ] at h0
    simp only [Wn, Xx, QB.own, V.shutOk0, and_true, true_and]
    refine ⟨⟨trivial, _, _, _, h0⟩, qw r (n + 1) (fun i hi => ?_)⟩
    have := h (i + 1) (by simp; omega)
    rw [show n + 1 + i = n + (i + 1) by omega, this, WJ, WJ]; rfl
theorem y9 : ∀ (ps : List QB), ntL (ps.map QB.v)
  | [] => trivial
  | p :: r => ⟨by simp [QB.v], y9 r⟩
theorem xJ {q q' : QB} (hn : q'.name = q.name) (hv : q'.ver = q.ver) (hl : q'.needs.length = q.needs.length) : ∀ (ps : List QB) (n i : Nat), ps[i]? = some q → Wn n (ps.set i q') = Wn n ps
  | [], _, _, _ => rfl
  | p :: r, n, 0, h => by
    simp only [List.getElem?_cons_zero, Option.some.injEq] at h
    subst h
    simp only [List.set_cons_zero, Wn, QB.own, hn, hv, hl]
  | p :: r, n, i + 1, h => by
    simp only [List.set_cons_succ, Wn]
    rw [xJ hn hv hl r (n + 1) i (by simpa using h)]
def aek (qs : List QB) (i : Nat) : St := XZ [(4, .hd 1 0 qs.length), (5, V.int i)] [(1, .obuf true 3 (Wn 100 qs))] 100 (Yj qs) 200
def acT (qs : List QB) (i k : Nat) : St := XZ [(4, .hd 1 0 qs.length), (5, V.int i), (6, V.int k)] [(1, .obuf true 3 (Wn 100 qs))] 100 (Yj qs) 200
theorem y7 {qs : List QB} {n : Nat} (hn : 100 + qs.length ≤ n) : (Ob.obuf true 3 (Wn 100 qs)).weak (Ja []) n (.obuf true 3 (Wn 100 qs)) := KS (fun _ _ => rfl) hn
def acS (ps qs : List QB) : Prop := qs.length = ps.length ∧ qs.map KH = ps.map KH ∧ KU qs
def acR (qs : List QB) (i : Nat) : Prop := ∀ j, j < i → ∀ p, qs[j]? = some p → KH p = p
theorem acz {α : Type} {f : α → Bool} {l : List α} {k : Nat} {x : α} (h : l[k]? = some x) : (l.take (k + 1)).all f = ((l.take k).all f && f x) := by
  rw [List.take_add_one, h, List.all_append]; simp
theorem acy {α : Type} {f : α → Bool} {l : List α} {k : Nat} {x : α} (h : l[k]? = some x) : (l.take (k + 1)).any f = ((l.take k).any f || f x) := by
  rw [List.take_add_one, h, List.any_append]; simp
theorem qd : ∀ (ps : List QB), Qg (ps.map QB.v)
  | [] => trivial
  | p :: r => ⟨(by simp only [QB.v, QB.cells, V.closed, Qg, and_self]), qd r⟩
def KT (ps : List QB) (n : Nat) : St := XZ [(4, .hd 1 0 ps.length)] [(1, .obuf true 3 (Wn 100 ps))] 100 (Yj ps) n
def Ys : List AO := [mv 83 12, mv 84 83, mg 85 4 84 false, mg 86 13 84 false, xg 87 (.iaddr 3 (.t 85) (.t 86)) 84 false, xg 88 (.faddr 0 (.t 87)) 84 false, xg 89 (.load false 1 (.t 88)) 84 false, mg 90 4 84 false, mg 91 9 84 false, xg 92 (.iaddr 3 (.t 90) (.t 91)) 84 false, xg 93 (.faddr 2 (.t 92)) 84 false, xg 94 (.load false 1 (.t 93)) 84 false, mg 95 11 84 false, xg 96 (.iaddr 3 (.t 94) (.t 95)) 84 false, xg 97 (.faddr 0 (.t 96)) 84 false, xg 98 (.load false 1 (.t 97)) 84 false, xg 99 (.bin .eql (.t 89) (.t 98)) 84 false, xo 100 (.pick (.t 84) (.c (V.bool true)) (.t 99)), mv 12 100]
def Yv : List (List Nat) := [[], [0], [1], [1], [2, 3, 1], [4, 1], [5, 1], [1], [1], [7, 8, 1], [9, 1], [10, 1], [1], [11, 12, 1], [13, 1], [14, 1], [6, 15, 1], [1, 16], [17, 1, 0, 1, 2, 3, 4, 5, 6, 7, 8, 9, 10, 11, 12, 13, 14, 15, 16, 17]]
def Yr : OT := .one 0 (.one 1 (.one 2 (.one 3 (.one 4 (.one 5 (.one 6 (.one 7 (.one 8 (.one 9 (.one 10 (.one 11 (.one 12 (.one 13 (.one 14 (.one 15 (.one 16 (.one 17 (.one 18 (.done)))))))))))))))))))
def Qx : OP := .one 0 false [] (mv 83 12) (.one 1 false [] (mv 84 83) (.one 2 false [] (mg 85 4 84 false) (.one 3 false [] (mg 86 13 84 false) (.one 4 false [] (xg 87 (.iaddr 3 (.t 85) (.t 86)) 84 false) (.one 5 false [] (xg 88 (.faddr 0 (.t 87)) 84 false) (.one 6 false [] (xg 89 (.load false 1 (.t 88)) 84 false) (.one 7 false [] (mg 90 4 84 false) (.one 8 false [] (mg 91 9 84 false) (.one 9 false [] (xg 92 (.iaddr 3 (.t 90) (.t 91)) 84 false) (.one 10 false [] (xg 93 (.faddr 2 (.t 92)) 84 false) (.one 11 false [] (xg 94 (.load false 1 (.t 93)) 84 false) (.one 12 false [] (mg 95 11 84 false) (.one 13 false [] (xg 96 (.iaddr 3 (.t 94) (.t 95)) 84 false) (.one 14 false [] (xg 97 (.faddr 0 (.t 96)) 84 false) (.one 15 false [] (xg 98 (.load false 1 (.t 97)) 84 false) (.one 16 false [] (xg 99 (.bin .eql (.t 89) (.t 98)) 84 false) (.one 17 false [] (xo 100 (.pick (.t 84) (.c (V.bool true)) (.t 99))) (.one 18 false [] (mv 12 100) (.done)))))))))))))))))))
theorem Qd : okR (Ys) Yv [] Yr = true := by kernel_rfl
theorem Qc : Y6 (ris (Ys) Yv []) Yr = Qx := by kernel_rfl def c_law12_PackagesMissing (Vq Xh V3 Vs JJ Y2 Vr : Nat) : AC := QP [0] (.reg [mc 2 (V.bool false)]) (QP [0] (QP [0, 16] (.reg [mv 14 0, cl 15 Vq [14], xo 16 (.un .not (.t 15))]) (.cond (.t 16) (QP [2] (.reg [cl 17 Xh [], mv 2 17]) (.ret)) (.skip))) (QP [3] (.reg [mv 18 0, cl 19 V3 [18], mv 3 19]) (QP [4] (.reg [mv 20 3, cl 21 Vs [20], mv 4 21]) (QP [4] (QP [4, 29] (.reg [mv 22 4, cl 23 JJ [22], bc 24 .neq 23 (V.int 0), mv 25 24, mg 26 4 25 false, xg 27 (.lenL (.t 26)) 25 false, xg 28 (.bin .eql (.t 27) (.c (V.int 0))) 25 false, xo 29 (.pick (.t 25) (.c (V.bool true)) (.t 28))]) (.cond (.t 29) (QP [2] (.reg [cl 30 Xh [], mv 2 30]) (.ret)) (.skip))) (QP [4] (QP [4, 5] (.reg [mc 5 (V.int 0)]) (.block 0 (VC [4, 5] (QP [4, 5] (QP [4, 5, 34] (.reg [mv 31 5, mv 32 4, ln 33 32, bn 34 .lss 31 33]) (.cond (.t 34) (.skip) (.exit 0))) (QP [4, 5] (.block 1 (QP [4, 5, 6] (.reg [mc 6 (V.int 0)]) (.block 2 (VC [4, 5, 6] (QP [4, 5, 6] (QP [4, 5, 6, 44] (.reg [mv 37 6, mv 38 4, mv 39 5, ia 40 3 38 39, fa 41 2 40, ld 42 1 41, ln 43 42, bn 44 .lss 37 43]) (.cond (.t 44) (.skip) (.exit 2))) (QP [4, 5, 6] (.block 3 (.reg [mv 47 4, mv 48 5, ia 49 3 47 48, fa 50 2 49, ld 51 1 50, mv 52 6, xo 53 (.build [(.slice none 0 0), (.slice none 0 0)] []), ia 54 3 51 52, fa 55 1 54, xs 2 55 53])) (.reg [mv 45 6, bc 46 .add 45 (V.int 1), mv 6 46]))))))) (.reg [mv 35 5, bc 36 .add 35 (V.int 1), mv 5 36])))))) (QP [4, 7, 8] (.reg [mv 57 4, cl 58 Y2 [57], mv 56 58, ex 59 56 0, ex 60 56 1, mv 7 59, mv 8 60]) (QP [8] (QP [4, 7, 8, 9] (.reg [mc 9 (V.int 0)]) (.block 4 (VC [4, 7, 8, 9] (QP [4, 7, 8, 9] (QP [4, 7, 8, 9, 64] (.reg [mv 61 9, mv 62 4, ln 63 62, bn 64 .lss 61 63]) (.cond (.t 64) (.skip) (.exit 4))) (QP [4, 7, 8, 9] (.block 5 (QP [4, 7, 8, 9, 10] (.reg [mc 10 (V.bool true)]) (QP [4, 7, 8, 9, 10] (QP [4, 7, 8, 9, 10, 11] (.reg [mc 11 (V.int 0)]) (.block 6 (VC [4, 7, 8, 9, 10, 11] (QP [4, 7, 8, 9, 10, 11] (QP [4, 7, 8, 9, 10, 11, 74] (.reg [mv 67 11, mv 68 4, mv 69 9, ia 70 3 68 69, fa 71 2 70, ld 72 1 71, ln 73 72, bn 74 .lss 67 73]) (.cond (.t 74) (.skip) (.exit 6))) (QP [4, 7, 8, 9, 10, 11] (.block 7 (QP [4, 7, 8, 9, 10, 11, 12] (.reg [mc 12 (V.bool false)]) (QP [4, 7, 8, 9, 10, 11, 12] (QP [4, 7, 8, 9, 10, 11, 12, 13] (.reg [mc 13 (V.int 0)]) (.block 8 (VC [4, 7, 8, 9, 10, 11, 12, 13] (QP [4, 7, 8, 9, 10, 11, 12, 13] (QP [4, 7, 8, 9, 10, 11, 12, 13, 80] (.reg [mv 77 13, mv 78 4, ln 79 78, bn 80 .lss 77 79]) (.cond (.t 80) (.skip) (.exit 8))) (QP [4, 7, 8, 9, 10, 11, 12, 13] (.block 9 (aaM [] Yr (Qx) (Ys) Yv)) (.reg [mv 81 13, bc 82 .add 81 (V.int 1), mv 13 82])))))) (.reg [mv 101 10, mv 102 101, mg 103 12 102 true, xo 104 (.pick (.t 102) (.t 103) (.c (V.bool false))), mv 10 104])))) (.reg [mv 75 11, bc 76 .add 75 (V.int 1), mv 11 76])))))) (QP [4, 7, 8, 9, 113] (.reg [mv 105 10, mv 106 7, mv 107 4, mv 108 9, ia 109 3 107 108, fa 110 0 109, ld 111 1 110, cl 112 Vr [106, 111], xo 113 (.eqb false (.t 105) (.t 112))]) (.cond (.t 113) (QP [2] (.reg [mc 2 (V.bool false)]) (.ret)) (.skip)))))) (.reg [mv 65 9, bc 66 .add 65 (V.int 1), mv 9 66])))))) (QP [2] (.reg [mv 114 8, bc 115 .eql 114 (V.int 0), mv 116 115, xg 117 (.call Xh []) 116 true, xo 118 (.pick (.t 116) (.t 117) (.c (V.bool false))), mv 2 118]) (.ret))))))))) def r_law12_PackagesMissing : List Xq := [.tmp 2]
def XV (Γ : Env) (f : Nat) : Prop := ∀ (l : List Int), EvN Γ f [.sl 1 (l.map V.int)] (V.bool true)
theorem VN {Γ : Env} {f Vq Xh V3 Vs JJ Y2 Vr : Nat} (h : Has Γ.P f 119 (c_law12_PackagesMissing Vq Xh V3 Vs JJ Y2 Vr) r_law12_PackagesMissing) (Jx : Ud Γ Vq) (Jj : VJ Γ Xh) (QW : UQ Γ V3) (xW : Uf Γ Vs) (QO : Xm Γ JJ) (QX : XN Γ Y2) (Jt : Ue Γ Vr) : XV Γ f := by
  intro l
  refine Q1 h (by simp) (by simp only [V.closed, Qg, V.noSl, Jw, and_self, and_true, true_and]) (by simp only [V.closed, Qg, V.noSl, Jw, and_self, and_true, true_and]) fun C hC hm => ?_
  subst hC
  unfold c_law12_PackagesMissing
  have gA := (Jj).b
  by_cases hlen : l.length ≤ 400
  case neg =>
    have e0 : decide ((l.length : Int) ≤ 400) = false := by simp; omega
    repeat' (first | refine Qe fun K' hK => ?_ | refine Qk fun K' hK => ?_ | refine Qy 19 (fun _ => true) rfl (Qd) (Qc) fun K' hK => ?_ | refine Qz 19 (fun _ => true) rfl (Qd) (Qc) fun K' hK => ?_ | refine Qf ?_ | refine Qj ?_ | refine Qa ?_ | ((first | refine Qi ⟨_, rfl, fun hc => ?_, fun hc => ?_⟩ | refine QY (fun hc => ?_) (fun hc => ?_) | refine QZ (fun hc => ?_) (fun hc => ?_)) <;> first | exact Bool.noConfusion hc | ((try simp only [znz] at hc); first | exact znf | skip)) | refine Qn ?_ | refine Qh ?_ | simp (maxSteps := 1000000) only [go_sem, Nat.reduceAdd, Nat.reduceMul, Nat.reduceEqDiff, Nat.reduceLeDiff, Nat.reduceLT, Nat.reduceSub, Int.reduceEq, Int.reduceBEq, Int.reduceLT, Int.reduceLE, Int.reduceAdd, Int.reduceToNat, reduceIte, reduceCtorEq, e0, Qx] | (refine hK _ ?_; clear hK; clear K') | refine And.intro ?_ ?_ | (apply Vg; (focus first | exact (QW _))) | (apply XH; (focus first | exact (QW _)); (focus first | exact rfl | decide)) | ((first | apply Q7 | apply JP); (focus first | exact gA | exact (Jx _).b | exact EvN.b Jj | exact (QO _ zsd).b | exact (QX _ zsd).b | exact (Jt _ _ zsd).b)) | exact zlo | omega | exact zms)
    all_goals first | (refine Q5 _ rfl ?_; simp only [go_sem, Nat.reduceEqDiff, Nat.reduceAdd, reduceIte, reduceCtorEq]; done) | trace_state
  have e0 : decide ((l.length : Int) ≤ 400) = true := by simp; omega
  have n1 := QW l
  have n2 := xW l 0 hlen (by omega)
  repeat' (first | refine Qe fun K' hK => ?_ | refine Qk fun K' hK => ?_ | refine Qy 19 (fun _ => true) rfl (Qd) (Qc) fun K' hK => ?_ | refine Qz 19 (fun _ => true) rfl (Qd) (Qc) fun K' hK => ?_ | refine Qf ?_ | refine Qj ?_ | refine Qa ?_ | ((first | refine Qi ⟨_, rfl, fun hc => ?_, fun hc => ?_⟩ | refine QY (fun hc => ?_) (fun hc => ?_) | refine QZ (fun hc => ?_) (fun hc => ?_)) <;> first | exact Bool.noConfusion hc | ((try simp only [znz] at hc); first | exact znf | skip)) | refine Qn ?_ | refine Qh ?_ | simp (maxSteps := 1000000) only [go_sem, Nat.reduceAdd, Nat.reduceMul, Nat.reduceEqDiff, Nat.reduceLeDiff, Nat.reduceLT, Nat.reduceSub, Int.reduceEq, Int.reduceBEq, Int.reduceLT, Int.reduceLE, Int.reduceAdd, Int.reduceToNat, reduceIte, reduceCtorEq, e0, Jy, Qx] | (refine hK _ ?_; clear hK; clear K') | refine And.intro ?_ ?_ | (apply Vg; (focus first | exact n1 | exact (QW _))) | (apply XH; (focus first | exact n1 | exact (QW _)); (focus first | exact rfl | decide)) | ((first | apply Q7 | apply JP); (focus first | exact gA | exact (Jx _).b | exact EvN.b Jj | exact (QO _ zsd).b | exact (QX _ zsd).b | exact (Jt _ _ zsd).b)) | exact zlo | omega | exact zms)
  refine ad7 rfl n2 (JG _ _) (by omega) ?_
  rintro _ _ ⟨ps, k, hok, hk, rfl, rfl⟩
  have hps := hok.1
  refine ⟨by simp, by simp [Yj, KK]; omega, ?_⟩
  simp (maxSteps := 1000000) only [go_sem, Nat.reduceAdd, Nat.reduceMul, Nat.reduceEqDiff, Nat.reduceLeDiff, Nat.reduceLT, Nat.reduceSub, Int.reduceEq, Int.reduceBEq, Int.reduceLT, Int.reduceLE, Int.reduceAdd, Int.reduceToNat, reduceIte, reduceCtorEq]
  refine hK _ ?_
  clear hK K'
  refine jx (s1 := KT ps 200) (τ := Ja [(1, 8000), (100, 8001), (101, 8002), (102, 8003), (103, 8004), (104, 8005)]) (XW _ (fun p hp => ?_) (fun p hp => ?_) (fun i hi => ?_) (by omega) (by rw [J9]; omega) (fun a b _ _ => by simp only [Ja]; (repeat' split) <;> omega) (by simp; omega) (by omega)) ?_
  · simp only [List.mem_singleton] at hp
    subst hp
    exact ⟨rfl, by show 1 < 200; omega⟩
  · simp only [List.mem_singleton] at hp
    subst hp
    refine ⟨.obuf true 3 (W3 (sig [5000] 8000) (Wn 2 ps)), ?_, id, rfl, ?_, y6 _ _ _ (by omega)⟩
    · show Xf _ _ _ _ _ _ = _
      simp only [Xf, XT]
      exact (QT _ _ (by decide)).trans (Qr _ _ _)
    · rw [qC ps 2 8001 (fun i _ => by simp [sig, show 2 + i = i + 1 + 1 by omega]; omega), qC ps 100 8001 (fun i hi => by simp only [Ja]; (repeat' split) <;> omega)]
  · have hi' : i < ps.length := by simpa [Yj] using hi
    have e0 : Ja [(1, 8000), (100, 8001), (101, 8002), (102, 8003), (103, 8004), (104, 8005)] (100 + i) = 8001 + i := by
      simp only [Ja]; (repeat' split) <;> omega
    refine ⟨(Yj ps)[i].ren (sig [5000] 8000), ?_, ?_⟩
    · rw [e0]
      show Xf _ _ _ _ _ _ = _
      simp only [Xf, XT]
      refine (QT _ _ (by omega)).trans ((QT _ _ (by omega)).trans ?_)
      rw [xH _ _ _ _ _ hi, List.getElem?_eq_getElem hi]; rfl
    · simp only [Yj, List.getElem_map]
      exact ⟨id, rfl, rfl⟩
  · have hsh : WI (KT ps 200).o (Wn 100 ps) = ps.map QB.v := yY ps 100 fun i _ => JK
    have hso : Xx (KT ps 200).o none (Wn 100 ps) = True := eq_true (qw ps 100 fun i _ => JK)
    have htk : (Wn 100 ps).take ps.length = Wn 100 ps := List.take_of_length_le (by rw [YK]; omega)
    simp only [KT, XZ] at hsh hso
    have hnt : ntL (ps.map QB.v) = True := eq_true (y9 ps)
    have hC := (QO ps (xP hok)).b
    by_cases hck : VO ps = 0
    case neg =>
      have hne : (VO ps != 0) = true := by simpa using hck
      repeat' (first | refine Qe fun K' hK => ?_ | refine Qk fun K' hK => ?_ | refine Qy 19 (fun _ => true) rfl (Qd) (Qc) fun K' hK => ?_ | refine Qz 19 (fun _ => true) rfl (Qd) (Qc) fun K' hK => ?_ | refine Qf ?_ | refine Qj ?_ | refine Qa ?_ | ((first | refine Qi ⟨_, rfl, fun hc => ?_, fun hc => ?_⟩ | refine QY (fun hc => ?_) (fun hc => ?_) | refine QZ (fun hc => ?_) (fun hc => ?_)) <;> first | exact Bool.noConfusion hc | ((try simp only [znz] at hc); first | exact znf | skip)) | refine Qn ?_ | refine Qh ?_ | simp (maxSteps := 1000000) only [go_sem, Nat.reduceAdd, Nat.reduceMul, Nat.reduceEqDiff, Nat.reduceLeDiff, Nat.reduceLT, Nat.reduceSub, Int.reduceEq, Int.reduceBEq, Int.reduceLT, Int.reduceLE, Int.reduceAdd, Int.reduceToNat, reduceIte, reduceCtorEq, KT, XZ, Yy, hsh, hso, htk, hnt, hne, Qx] | (refine hK _ ?_; clear hK; clear K') | refine And.intro ?_ ?_ | (apply Vg; (focus first | exact (QW _))) | (apply XH; (focus first | exact (QW _)); (focus first | exact rfl | decide)) | ((first | apply Q7 | apply JP); (focus first | exact hC | exact gA | exact (Jx _).b | exact EvN.b Jj | exact (QO _ zsd).b | exact (QX _ zsd).b | exact (Jt _ _ zsd).b)) | exact zlo | omega | exact zms)
      all_goals first | (refine Q5 _ rfl ?_; simp only [go_sem, Nat.reduceEqDiff, Nat.reduceAdd, reduceIte, reduceCtorEq]; done) | trace_state
    rw [hck] at hC
    by_cases hl0 : ps.length = 0
    · have hl1 : ((ps.length : Int) == 0) = true := by simpa using hl0
      repeat' (first | refine Qe fun K' hK => ?_ | refine Qk fun K' hK => ?_ | refine Qy 19 (fun _ => true) rfl (Qd) (Qc) fun K' hK => ?_ | refine Qz 19 (fun _ => true) rfl (Qd) (Qc) fun K' hK => ?_ | refine Qf ?_ | refine Qj ?_ | refine Qa ?_ | ((first | refine Qi ⟨_, rfl, fun hc => ?_, fun hc => ?_⟩ | refine QY (fun hc => ?_) (fun hc => ?_) | refine QZ (fun hc => ?_) (fun hc => ?_)) <;> first | exact Bool.noConfusion hc | ((try simp only [znz] at hc); first | exact znf | skip)) | refine Qn ?_ | refine Qh ?_ | simp (maxSteps := 1000000) only [go_sem, Nat.reduceAdd, Nat.reduceMul, Nat.reduceEqDiff, Nat.reduceLeDiff, Nat.reduceLT, Nat.reduceSub, Int.reduceEq, Int.reduceBEq, Int.reduceLT, Int.reduceLE, Int.reduceAdd, Int.reduceToNat, reduceIte, reduceCtorEq, KT, XZ, Yy, hsh, hso, htk, hnt, hl1, Qx] | (refine hK _ ?_; clear hK; clear K') | refine And.intro ?_ ?_ | (apply Vg; (focus first | exact (QW _))) | (apply XH; (focus first | exact (QW _)); (focus first | exact rfl | decide)) | ((first | apply Q7 | apply JP); (focus first | exact hC | exact gA | exact (Jx _).b | exact EvN.b Jj | exact (QO _ zsd).b | exact (QX _ zsd).b | exact (Jt _ _ zsd).b)) | exact zlo | omega | exact zms)
      all_goals first | (refine Q5 _ rfl ?_; simp only [go_sem, Nat.reduceEqDiff, Nat.reduceAdd, reduceIte, reduceCtorEq]; done) | trace_state
    · have hl1 : ((ps.length : Int) == 0) = false := by simpa using hl0
      repeat' (first | refine Qe fun K' hK => ?_ | refine Qk fun K' hK => ?_ | refine Qy 19 (fun _ => true) rfl (Qd) (Qc) fun K' hK => ?_ | refine Qz 19 (fun _ => true) rfl (Qd) (Qc) fun K' hK => ?_ | refine Qf ?_ | refine Qj ?_ | refine Qa ?_ | ((first | refine Qi ⟨_, rfl, fun hc => ?_, fun hc => ?_⟩ | refine QY (fun hc => ?_) (fun hc => ?_) | refine QZ (fun hc => ?_) (fun hc => ?_)) <;> first | exact Bool.noConfusion hc | ((try simp only [znz] at hc); first | exact znf | skip)) | refine Qn ?_ | refine Qh ?_ | simp (maxSteps := 1000000) only [go_sem, Nat.reduceAdd, Nat.reduceMul, Nat.reduceEqDiff, Nat.reduceLeDiff, Nat.reduceLT, Nat.reduceSub, Int.reduceEq, Int.reduceBEq, Int.reduceLT, Int.reduceLE, Int.reduceAdd, Int.reduceToNat, reduceIte, reduceCtorEq, KT, XZ, Yy, hsh, hso, htk, hnt, hl1, Qx] | (refine hK _ ?_; clear hK; clear K') | refine And.intro ?_ ?_ | (apply Vg; (focus first | exact (QW _))) | (apply XH; (focus first | exact (QW _)); (focus first | exact rfl | decide)) | ((first | apply Q7 | apply JP); (focus first | exact hC | exact gA | exact (Jx _).b | exact EvN.b Jj | exact (QO _ zsd).b | exact (QX _ zsd).b | exact (Jt _ _ zsd).b)) | exact zlo | omega | exact zms)
      refine Wf (ι := List QB × Nat) (fun q => acS ps q.1 ∧ acR q.1 q.2 ∧ q.2 ≤ ps.length) (fun q => aek q.1 q.2) (fun q => ps.length - q.2) (ps, 0) ⟨⟨rfl, rfl, hok⟩, fun j hj => by omega, by simp⟩ (Ja [])
        (XW (n := 200) (N := 100) [] (by simp only [go_sem, Nat.reduceAdd, Nat.reduceMul, Nat.reduceEqDiff, Nat.reduceLT, Int.reduceToNat, reduceIte, reduceCtorEq, and_true, true_and, implies_true, Option.some.injEq, exists_eq_left', QJ, QU]; (repeat' (first | rfl | refine And.intro ?_ ?_ | omega | exact fun h => h | exact Exists.intro _ rfl))) (fun p hp => ?_) (WW fun i _ => JK) (by omega) (by rw [J9]; show 100 + ps.length ≤ 200; omega) (fun a b _ _ h => h) (by simp) (by omega)) fun q hq K2 hK2 => ?_
      · simp only [List.mem_singleton] at hp
        subst hp
        exact ⟨_, rfl, y7 (by omega)⟩
      obtain ⟨qs, i⟩ := q
      obtain ⟨hb, hbt, hi⟩ := hq
      dsimp only at hb hbt hi
      have hql := hb.1
      by_cases hie : i = ps.length
      · have e1 : decide ((i : Int) < (qs.length : Int)) = false := decide_eq_false (by omega)
        have hqs : qs = ps.map KH := by
          rw [← hb.2.1]
          refine List.ext_getElem? fun m => ?_
          rw [List.getElem?_map]
          rcases hm : qs[m]? with _ | y
          · rfl
          · have := (List.getElem?_eq_some_iff.1 hm).1
            rw [Option.map_some, hbt m (by omega) y hm]
        obtain ⟨hcb, hus⟩ := aao hck
        rw [← VQ, ← hqs] at hus
        rw [← hqs] at hcb
        have hqok := hb.2.2
        have hbare : ∀ p ∈ qs, ∀ n ∈ p.needs, n.lo = [] ∧ n.up = [] := by
          intro p hp n hn
          rw [hqs] at hp
          obtain ⟨p0, _, rfl⟩ := List.mem_map.1 hp
          obtain ⟨n0, _, rfl⟩ := List.mem_map.1 hn
          exact ⟨rfl, rfl⟩
        have hM := (QX qs (xP hqok)).b
        rw [aba, if_pos hcb] at hM
        have hms := fun p (hp : p ∈ qs) => (abb hus hp).trans (abj (hbare p hp))
        have hml : (abc qs).length ≤ qs.length := by rw [abc, List.length_map]; exact List.length_filter_le _ _
        generalize abc qs = ms at *
        refine Qf ?_
        refine Qe fun K' hK => ?_
        simp (maxSteps := 1000000) only [go_sem, Nat.reduceAdd, Nat.reduceMul, Nat.reduceEqDiff, Nat.reduceLeDiff, Nat.reduceLT, Nat.reduceSub, Int.reduceEq, Int.reduceBEq, Int.reduceLT, Int.reduceLE, Int.reduceAdd, Int.reduceToNat, reduceIte, reduceCtorEq, aek, XZ, e1]
        refine hK _ ?_
        clear hK
        clear K'
        (try simp only [go_sem, Nat.reduceAdd, Nat.reduceMul, Nat.reduceEqDiff, Nat.reduceLeDiff, Nat.reduceLT, Nat.reduceSub, Int.reduceEq, Int.reduceBEq, Int.reduceLT, Int.reduceLE, Int.reduceAdd, Int.reduceToNat, reduceIte, reduceCtorEq])
        refine Qi ⟨false, rfl, fun h => Bool.noConfusion h, fun _ => ?_⟩
        refine Qh ?_
        simp only [go_sem, Nat.reduceAdd, Nat.reduceMul, Nat.reduceEqDiff, Nat.reduceLeDiff, Nat.reduceLT, Nat.reduceSub, Int.reduceEq, Int.reduceBEq, Int.reduceLT, Int.reduceLE, Int.reduceAdd, Int.reduceToNat, reduceIte, reduceCtorEq]
        refine ad4 (s1 := stL [(4, .sl 3 (qs.map QB.v))] []) (aeF [] none (fun p hp => ?_) trivial List.nodup_nil (by rw [hm]; rfl)) ?_
        · simp only [List.mem_singleton] at hp
          subst hp
          show conv _ _ _ (.hd 1 0 qs.length) _
          have hsh : WI (KT qs 200).o (Wn 100 qs) = qs.map QB.v := yY qs 100 fun i _ => JK
          have hcv := Wt (KT qs 200).o none (Wn 100 qs) (qw qs 100 fun i _ => JK)
          rw [hsh] at hcv
          simp only [conv]
          refine ⟨trivial, by simp, .inr ⟨true, Wn 100 qs, rfl, ?_, y9 qs, qd qs⟩⟩
          rw [List.drop_zero, List.take_of_length_le (by rw [YK]; omega)]
          exact hcv
        clear hbt hb hcb hck hl1 hl0 e1 hK2 hi hql hie
        simp only [stL]
        have hq5 := hqok.1
        repeat' (first | refine Qe fun K' hK => ?_ | refine Qk fun K' hK => ?_ | refine Qy 19 (fun _ => true) rfl (Qd) (Qc) fun K' hK => ?_ | refine Qz 19 (fun _ => true) rfl (Qd) (Qc) fun K' hK => ?_ | refine Qf ?_ | refine Qj ?_ | refine Qa ?_ | ((first | refine Qi ⟨_, rfl, fun hc => ?_, fun hc => ?_⟩ | refine QY (fun hc => ?_) (fun hc => ?_) | refine QZ (fun hc => ?_) (fun hc => ?_)) <;> first | exact Bool.noConfusion hc | ((try simp only [znz] at hc); first | exact znf | skip)) | refine Qn ?_ | refine Qh ?_ | simp (maxSteps := 1000000) only [go_sem, Nat.reduceAdd, Nat.reduceMul, Nat.reduceEqDiff, Nat.reduceLeDiff, Nat.reduceLT, Nat.reduceSub, Int.reduceEq, Int.reduceBEq, Int.reduceLT, Int.reduceLE, Int.reduceAdd, Int.reduceToNat, reduceIte, reduceCtorEq, Qx] | (refine hK _ ?_; clear hK; clear K') | refine And.intro ?_ ?_ | (apply Vg; (focus first | exact (QW _))) | (apply XH; (focus first | exact (QW _)); (focus first | exact rfl | decide)) | ((first | apply Q7 | apply JP); (focus first | exact hM | exact (Jx _).b | exact EvN.b Jj | exact (QO _ zsd).b | exact (QX _ zsd).b | exact (Jt _ _ zsd).b)) | exact zlo | omega | exact zms)
        refine Wg (ι := Nat) (fun k => k ≤ qs.length) (fun k => [(9, V.int k)]) (fun k => qs.length - k) 0 (by omega) (by simp) (by repeat' first | exact WY | refine VZ (by omega) (by simp only [Ob.lt, ltL, V.lt, and_self, and_true]; try omega) ?_) (fun i hi => by simp only [ovT, YL, Nat.reduceEqDiff, reduceIte]; (repeat' first | exact VY | refine WX ?_ ?_ | simp only [V.lt, ltL, and_self, and_true] | omega)) (by simp only [Nat.reduceAdd, ovT, YL, Nat.reduceEqDiff, reduceIte, J7, YP, yz, u32, u33, u34, u35, u36, u37, u38, u39, and_self, and_true, true_and]; first | done | rfl) fun i hi K2 hL2 => ?_
        simp only [ovT, YL, Nat.reduceEqDiff, reduceIte]
        by_cases hie : i = qs.length
        · have e1 : decide ((i : Int) < (((qs.map QB.v).length : Nat) : Int)) = false := decide_eq_false (by simp; omega)
          repeat' (first | refine Qe fun K' hK => ?_ | refine Qk fun K' hK => ?_ | refine Qy 19 (fun _ => true) rfl (Qd) (Qc) fun K' hK => ?_ | refine Qz 19 (fun _ => true) rfl (Qd) (Qc) fun K' hK => ?_ | refine Qf ?_ | refine Qj ?_ | refine Qa ?_ | ((first | refine Qi ⟨_, rfl, fun hc => ?_, fun hc => ?_⟩ | refine QY (fun hc => ?_) (fun hc => ?_) | refine QZ (fun hc => ?_) (fun hc => ?_)) <;> first | exact Bool.noConfusion hc | ((try simp only [znz] at hc); first | exact znf | skip)) | refine Qn ?_ | refine Qh ?_ | simp (maxSteps := 1000000) only [go_sem, Nat.reduceAdd, Nat.reduceMul, Nat.reduceEqDiff, Nat.reduceLeDiff, Nat.reduceLT, Nat.reduceSub, Int.reduceEq, Int.reduceBEq, Int.reduceLT, Int.reduceLE, Int.reduceAdd, Int.reduceToNat, reduceIte, reduceCtorEq, e1, Qx] | (refine hK _ ?_; clear hK; clear K') | refine And.intro ?_ ?_ | (apply Vg; (focus first | exact (QW _))) | (apply XH; (focus first | exact (QW _)); (focus first | exact rfl | decide)) | ((first | apply Q7 | apply JP); (focus first | exact gA | exact (Jx _).b | exact EvN.b Jj | exact (QO _ zsd).b | exact (QX _ zsd).b | exact (Jt _ _ zsd).b)) | exact zlo | omega | exact zms)
          all_goals first | (refine Q5 _ rfl ?_; simp only [go_sem, Nat.reduceEqDiff, Nat.reduceAdd, reduceIte, reduceCtorEq]; done) | trace_state
        have e1 : decide ((i : Int) < (((qs.map QB.v).length : Nat) : Int)) = true := decide_eq_true (by simp; omega)
        obtain ⟨p, hp⟩ : ∃ p, qs[i]? = some p := ⟨qs[i]'(by omega), List.getElem?_eq_getElem (by omega)⟩
        have hpm := List.mem_of_getElem? hp
        have hpo := hqok.2 p hpm
        have hpn9 := hpo.2.2.1
        have hpv : (qs.map QB.v)[i]? = some (.agg [V.str p.name, .sl 1 (p.ver.map V.int), .sl 3 (p.needs.map Js.v)]) := by rw [List.getElem?_map, hp]; rfl
        have hw := Yg (k := i) (by omega)
        repeat' (first | refine Qe fun K' hK => ?_ | refine Qk fun K' hK => ?_ | refine Qy 19 (fun _ => true) rfl (Qd) (Qc) fun K' hK => ?_ | refine Qz 19 (fun _ => true) rfl (Qd) (Qc) fun K' hK => ?_ | refine Qf ?_ | refine Qj ?_ | refine Qa ?_ | ((first | refine Qi ⟨_, rfl, fun hc => ?_, fun hc => ?_⟩ | refine QY (fun hc => ?_) (fun hc => ?_) | refine QZ (fun hc => ?_) (fun hc => ?_)) <;> first | exact Bool.noConfusion hc | ((try simp only [znz] at hc); first | exact znf | skip)) | refine Qn ?_ | refine Qh ?_ | simp (maxSteps := 1000000) only [go_sem, Nat.reduceAdd, Nat.reduceMul, Nat.reduceEqDiff, Nat.reduceLeDiff, Nat.reduceLT, Nat.reduceSub, Int.reduceEq, Int.reduceBEq, Int.reduceLT, Int.reduceLE, Int.reduceAdd, Int.reduceToNat, reduceIte, reduceCtorEq, e1, Qx] | (refine hK _ ?_; clear hK; clear K') | refine And.intro ?_ ?_ | (apply Vg; (focus first | exact (QW _))) | (apply XH; (focus first | exact (QW _)); (focus first | exact rfl | decide)) | ((first | apply Q7 | apply JP); (focus first | exact (Jx _).b | exact EvN.b Jj | exact (QO _ zsd).b | exact (QX _ zsd).b | exact (Jt _ _ zsd).b)) | exact zlo | omega | exact zms)
        refine Wg (ι := Nat) (fun k => k ≤ p.needs.length) (fun k => [(10, V.bool ((p.needs.take k).all fun n => qs.any fun q => q.name == n.name)), (11, V.int k)]) (fun k => p.needs.length - k) 0 (by omega) (by simp) (by repeat' first | exact WY | refine VZ (by omega) (by simp only [Ob.lt, ltL, V.lt, and_self, and_true]; try omega) ?_) (fun i hi => by simp only [ovT, YL, Nat.reduceEqDiff, reduceIte]; (repeat' first | exact VY | refine WX ?_ ?_ | simp only [V.lt, ltL, and_self, and_true] | omega)) (by simp only [Nat.reduceAdd, ovT, YL, Nat.reduceEqDiff, reduceIte, J7, YP, yz, u32, u33, u34, u35, u36, u37, u38, u39, and_self, and_true, true_and]; exact ⟨by simp, rfl⟩) fun k hk K3 hL3 => ?_
        simp only [ovT, YL, Nat.reduceEqDiff, reduceIte]
        by_cases hke : k = p.needs.length
        · have e2 : decide ((k : Int) < (((p.needs.map Js.v).length : Nat) : Int)) = false := decide_eq_false (by simp; omega)
          have hT := (Jt ms p.name (by omega)).b
          rw [hms p hpm] at hT
          rw [hke, List.take_length]
          generalize (p.needs.all fun n => qs.any fun q => q.name == n.name) = bb at *
          cases bb
          all_goals
            repeat' (first | refine Qe fun K' hK => ?_ | refine Qk fun K' hK => ?_ | refine Qy 19 (fun _ => true) rfl (Qd) (Qc) fun K' hK => ?_ | refine Qz 19 (fun _ => true) rfl (Qd) (Qc) fun K' hK => ?_ | refine Qf ?_ | refine Qj ?_ | refine Qa ?_ | ((first | refine Qi ⟨_, rfl, fun hc => ?_, fun hc => ?_⟩ | refine QY (fun hc => ?_) (fun hc => ?_) | refine QZ (fun hc => ?_) (fun hc => ?_)) <;> first | exact Bool.noConfusion hc | ((try simp only [znz] at hc); first | exact znf | skip)) | refine Qn ?_ | refine Qh ?_ | simp (maxSteps := 1000000) only [go_sem, Nat.reduceAdd, Nat.reduceMul, Nat.reduceEqDiff, Nat.reduceLeDiff, Nat.reduceLT, Nat.reduceSub, Int.reduceEq, Int.reduceBEq, Int.reduceLT, Int.reduceLE, Int.reduceAdd, Int.reduceToNat, reduceIte, reduceCtorEq, e2, hpv, hw, Qx] | (refine hK _ ?_; clear hK; clear K') | refine And.intro ?_ ?_ | (apply Vg; (focus first | exact (QW _))) | (apply XH; (focus first | exact (QW _)); (focus first | exact rfl | decide)) | ((first | apply Q7 | apply JP); (focus first | exact hT | exact (Jx _).b | exact EvN.b Jj | exact (QO _ zsd).b | exact (QX _ zsd).b | exact (Jt _ _ zsd).b)) | exact zlo | omega | exact zms)
            all_goals first
              | exact hL2 _ (i + 1) (by simp only [Nat.reduceAdd, ovT, YL, Nat.reduceEqDiff, reduceIte, J7, YP, yz, u32, u33, u34, u35, u36, u37, u38, u39, and_self, and_true, true_and]) (by omega) (by omega) (fun a ha => by simp only [u32, u33, u34, u35, u36, u37, u38, u39]; repeat rw [if_neg (by omega)])
              | trace_state
        have e2 : decide ((k : Int) < (((p.needs.map Js.v).length : Nat) : Int)) = true := decide_eq_true (by simp; omega)
        obtain ⟨n, hn⟩ : ∃ n, p.needs[k]? = some n := ⟨p.needs[k]'(by omega), List.getElem?_eq_getElem (by omega)⟩
        have hnv : (p.needs.map Js.v)[k]? = some (.agg [V.str n.name, .sl 1 (n.lo.map V.int), .sl 1 (n.up.map V.int)]) := by rw [List.getElem?_map, hn]; rfl
        have hw3 := Yg (k := k) (by omega)
        have hat := acz (f := fun n => qs.any fun q => q.name == n.name) hn
        repeat' (first | refine Qe fun K' hK => ?_ | refine Qk fun K' hK => ?_ | refine Qy 19 (fun _ => true) rfl (Qd) (Qc) fun K' hK => ?_ | refine Qz 19 (fun _ => true) rfl (Qd) (Qc) fun K' hK => ?_ | refine Qf ?_ | refine Qj ?_ | refine Qa ?_ | ((first | refine Qi ⟨_, rfl, fun hc => ?_, fun hc => ?_⟩ | refine QY (fun hc => ?_) (fun hc => ?_) | refine QZ (fun hc => ?_) (fun hc => ?_)) <;> first | exact Bool.noConfusion hc | ((try simp only [znz] at hc); first | exact znf | skip)) | refine Qn ?_ | refine Qh ?_ | simp (maxSteps := 1000000) only [go_sem, Nat.reduceAdd, Nat.reduceMul, Nat.reduceEqDiff, Nat.reduceLeDiff, Nat.reduceLT, Nat.reduceSub, Int.reduceEq, Int.reduceBEq, Int.reduceLT, Int.reduceLE, Int.reduceAdd, Int.reduceToNat, reduceIte, reduceCtorEq, e2, hpv, Qx] | (refine hK _ ?_; clear hK; clear K') | refine And.intro ?_ ?_ | (apply Vg; (focus first | exact (QW _))) | (apply XH; (focus first | exact (QW _)); (focus first | exact rfl | decide)) | ((first | apply Q7 | apply JP); (focus first | exact (Jx _).b | exact EvN.b Jj | exact (QO _ zsd).b | exact (QX _ zsd).b | exact (Jt _ _ zsd).b)) | exact zlo | omega | exact zms)
        refine Wg (ι := Nat) (fun m => m ≤ qs.length) (fun m => [(12, V.bool ((qs.take m).any fun q => q.name == n.name)), (13, V.int m)]) (fun m => qs.length - m) 0 (by omega) (by simp) (by repeat' first | exact WY | refine VZ (by omega) (by simp only [Ob.lt, ltL, V.lt, and_self, and_true]; try omega) ?_) (fun i hi => by simp only [ovT, YL, Nat.reduceEqDiff, reduceIte]; (repeat' first | exact VY | refine WX ?_ ?_ | simp only [V.lt, ltL, and_self, and_true] | omega)) (by simp only [Nat.reduceAdd, ovT, YL, Nat.reduceEqDiff, reduceIte, J7, YP, yz, u32, u33, u34, u35, u36, u37, u38, u39, and_self, and_true, true_and]; exact ⟨by simp, rfl⟩) fun m hmm K4 hL4 => ?_
        simp only [ovT, YL, Nat.reduceEqDiff, reduceIte]
        by_cases hme : m = qs.length
        · have e3 : decide ((m : Int) < (((qs.map QB.v).length : Nat) : Int)) = false := decide_eq_false (by simp; omega)
          rw [hme, List.take_length]
          generalize hb1 : (qs.any fun q => q.name == n.name) = b1 at *
          generalize hb2 : ((p.needs.take k).all fun n => qs.any fun q => q.name == n.name) = b2 at *
          cases b2
          all_goals
            repeat' (first | refine Qe fun K' hK => ?_ | refine Qk fun K' hK => ?_ | refine Qy 19 (fun _ => true) rfl (Qd) (Qc) fun K' hK => ?_ | refine Qz 19 (fun _ => true) rfl (Qd) (Qc) fun K' hK => ?_ | refine Qf ?_ | refine Qj ?_ | refine Qa ?_ | ((first | refine Qi ⟨_, rfl, fun hc => ?_, fun hc => ?_⟩ | refine QY (fun hc => ?_) (fun hc => ?_) | refine QZ (fun hc => ?_) (fun hc => ?_)) <;> first | exact Bool.noConfusion hc | ((try simp only [znz] at hc); first | exact znf | skip)) | refine Qn ?_ | refine Qh ?_ | simp (maxSteps := 1000000) only [go_sem, Nat.reduceAdd, Nat.reduceMul, Nat.reduceEqDiff, Nat.reduceLeDiff, Nat.reduceLT, Nat.reduceSub, Int.reduceEq, Int.reduceBEq, Int.reduceLT, Int.reduceLE, Int.reduceAdd, Int.reduceToNat, reduceIte, reduceCtorEq, e3, hw3, Qx] | (refine hK _ ?_; clear hK; clear K') | refine And.intro ?_ ?_ | (apply Vg; (focus first | exact (QW _))) | (apply XH; (focus first | exact (QW _)); (focus first | exact rfl | decide)) | ((first | apply Q7 | apply JP); (focus first | exact (Jx _).b | exact EvN.b Jj | exact (QO _ zsd).b | exact (QX _ zsd).b | exact (Jt _ _ zsd).b)) | exact zlo | omega | exact zms)
            all_goals first
              | exact hL3 _ (k + 1) (by simp only [Nat.reduceAdd, ovT, YL, Nat.reduceEqDiff, reduceIte, J7, YP, yz, u32, u33, u34, u35, u36, u37, u38, u39, and_self, and_true, true_and]; simp [hat]) (by omega) (by omega) (fun a ha => by simp only [u32, u33, u34, u35, u36, u37, u38, u39]; repeat rw [if_neg (by omega)])
              | trace_state
        have e3 : decide ((m : Int) < (((qs.map QB.v).length : Nat) : Int)) = true := decide_eq_true (by simp; omega)
        obtain ⟨q, hq⟩ : ∃ q, qs[m]? = some q := ⟨qs[m]'(by omega), List.getElem?_eq_getElem (by omega)⟩
        have hqv : (qs.map QB.v)[m]? = some (.agg [V.str q.name, .sl 1 (q.ver.map V.int), .sl 3 (q.needs.map Js.v)]) := by rw [List.getElem?_map, hq]; rfl
        have hw4 := Yg (k := m) (by omega)
        have hat4 := acy (f := fun q : QB => q.name == n.name) hq
        generalize hb3 : ((qs.take m).any fun q => q.name == n.name) = b3 at *
        cases b3
        all_goals
          repeat' (first | refine Qe fun K' hK => ?_ | refine Qk fun K' hK => ?_ | refine Qy 19 (fun _ => true) rfl (Qd) (Qc) fun K' hK => ?_ | refine Qz 19 (fun _ => true) rfl (Qd) (Qc) fun K' hK => ?_ | refine Qf ?_ | refine Qj ?_ | refine Qa ?_ | ((first | refine Qi ⟨_, rfl, fun hc => ?_, fun hc => ?_⟩ | refine QY (fun hc => ?_) (fun hc => ?_) | refine QZ (fun hc => ?_) (fun hc => ?_)) <;> first | exact Bool.noConfusion hc | ((try simp only [znz] at hc); first | exact znf | skip)) | refine Qn ?_ | refine Qh ?_ | simp (maxSteps := 1000000) only [go_sem, Nat.reduceAdd, Nat.reduceMul, Nat.reduceEqDiff, Nat.reduceLeDiff, Nat.reduceLT, Nat.reduceSub, Int.reduceEq, Int.reduceBEq, Int.reduceLT, Int.reduceLE, Int.reduceAdd, Int.reduceToNat, reduceIte, reduceCtorEq, e3, hw4, hpv, hnv, hqv, Qx] | (refine hK _ ?_; clear hK; clear K') | refine And.intro ?_ ?_ | (apply Vg; (focus first | exact (QW _))) | (apply XH; (focus first | exact (QW _)); (focus first | exact rfl | decide)) | ((first | apply Q7 | apply JP); (focus first | exact (Jx _).b | exact EvN.b Jj | exact (QO _ zsd).b | exact (QX _ zsd).b | exact (Jt _ _ zsd).b)) | exact zlo | omega | exact zms)
          all_goals first
            | exact hL4 _ (m + 1) (by simp only [Nat.reduceAdd, ovT, YL, Nat.reduceEqDiff, reduceIte, J7, YP, yz, u32, u33, u34, u35, u36, u37, u38, u39, and_self, and_true, true_and]; simp [hat4]) (by omega) (by omega) (fun a ha => by simp only [u32, u33, u34, u35, u36, u37, u38, u39]; repeat rw [if_neg (by omega)])
            | trace_state
      · have e1 : decide ((i : Int) < (qs.length : Int)) = true := decide_eq_true (by omega)
        obtain ⟨p, hp⟩ : ∃ p, qs[i]? = some p := ⟨qs[i]'(by omega), List.getElem?_eq_getElem (by omega)⟩
        repeat' (first | refine Qe fun K' hK => ?_ | refine Qk fun K' hK => ?_ | refine Qy 19 (fun _ => true) rfl (Qd) (Qc) fun K' hK => ?_ | refine Qz 19 (fun _ => true) rfl (Qd) (Qc) fun K' hK => ?_ | refine Qf ?_ | refine Qj ?_ | refine Qa ?_ | ((first | refine Qi ⟨_, rfl, fun hc => ?_, fun hc => ?_⟩ | refine QY (fun hc => ?_) (fun hc => ?_) | refine QZ (fun hc => ?_) (fun hc => ?_)) <;> first | exact Bool.noConfusion hc | ((try simp only [znz] at hc); first | exact znf | skip)) | refine Qn ?_ | refine Qh ?_ | simp (maxSteps := 1000000) only [go_sem, Nat.reduceAdd, Nat.reduceMul, Nat.reduceEqDiff, Nat.reduceLeDiff, Nat.reduceLT, Nat.reduceSub, Int.reduceEq, Int.reduceBEq, Int.reduceLT, Int.reduceLE, Int.reduceAdd, Int.reduceToNat, reduceIte, reduceCtorEq, aek, XZ, Yy, e1, Qx] | (refine hK _ ?_; clear hK; clear K') | refine And.intro ?_ ?_ | (apply Vg; (focus first | exact (QW _))) | (apply XH; (focus first | exact (QW _)); (focus first | exact rfl | decide)) | ((first | apply Q7 | apply JP); (focus first | exact (Jx _).b | exact EvN.b Jj | exact (QO _ zsd).b | exact (QX _ zsd).b | exact (Jt _ _ zsd).b)) | exact zlo | omega | exact zms)
        refine abB (ι := List QB × Nat) (fun q => acS ps q.1 ∧ acR q.1 i ∧ q.2 ≤ p.needs.length ∧ ∃ p', q.1[i]? = some p' ∧ p'.needs.length = p.needs.length ∧ ∀ j, j < q.2 → ∀ n, p'.needs[j]? = some n → KI n = n) (fun q => acT q.1 i q.2) (fun q => p.needs.length - q.2) (qs, 0) ⟨hb, hbt, by simp, p, hp, rfl, fun j hj => by omega⟩ _ (Le.refl _) (Ja [])
          (XW (n := 200) (N := 100) [] (by simp only [go_sem, Nat.reduceAdd, Nat.reduceMul, Nat.reduceEqDiff, Nat.reduceLT, Int.reduceToNat, reduceIte, reduceCtorEq, and_true, true_and, implies_true, Option.some.injEq, exists_eq_left', QJ, QU]; (repeat' (first | rfl | refine And.intro ?_ ?_ | omega | exact fun h => h | exact Exists.intro _ rfl))) (fun p hp => ?_) (WW fun i _ => JK) (by omega) (by rw [J9]; show 100 + qs.length ≤ 200; omega) (fun a b _ _ h => h) (by simp) (by omega)) fun q hq K3 hK3 => ?_
        · simp only [List.mem_singleton] at hp
          subst hp
          exact ⟨_, rfl, y7 (by omega)⟩
        obtain ⟨rs, k⟩ := q
        obtain ⟨hcc, hct, hk, p', hp', hpl, hpb⟩ := hq
        dsimp only at hcc hct hk hp' hpb
        have hrl := hcc.1
        have hpo := hcc.2.2.2 p' (List.mem_of_getElem? hp')
        have he : (Wn 100 rs)[i]? = some (.agg [V.str p'.name, .sl 1 (p'.ver.map V.int), .hd (100 + i) 0 p'.needs.length]) := by rw [VU, hp']; rfl
        have hnb : (Yj rs)[i]? = some (.buf true 3 (p'.needs.map Js.v)) := by rw [Yj, List.getElem?_map, hp']; rfl
        have hir : ((i : Int) < (rs.length : Int)) = True := eq_true (by omega)
        have m1 : (100 + i = 1) = False := eq_false (by omega)
        have m2 : (1 = 100 + i) = False := eq_false (by omega)
        by_cases hke : k = p.needs.length
        · have e2 : decide ((k : Int) < (p'.needs.length : Int)) = false := decide_eq_false (by omega)
          repeat' (first | refine Qe fun K' hK => ?_ | refine Qk fun K' hK => ?_ | refine Qy 19 (fun _ => true) rfl (Qd) (Qc) fun K' hK => ?_ | refine Qz 19 (fun _ => true) rfl (Qd) (Qc) fun K' hK => ?_ | refine Qf ?_ | refine Qj ?_ | refine Qa ?_ | ((first | refine Qi ⟨_, rfl, fun hc => ?_, fun hc => ?_⟩ | refine QY (fun hc => ?_) (fun hc => ?_) | refine QZ (fun hc => ?_) (fun hc => ?_)) <;> first | exact Bool.noConfusion hc | ((try simp only [znz] at hc); first | exact znf | skip)) | refine Qn ?_ | refine Qh ?_ | simp (maxSteps := 1000000) only [go_sem, Nat.reduceAdd, Nat.reduceMul, Nat.reduceEqDiff, Nat.reduceLeDiff, Nat.reduceLT, Nat.reduceSub, Int.reduceEq, Int.reduceBEq, Int.reduceLT, Int.reduceLE, Int.reduceAdd, Int.reduceToNat, reduceIte, reduceCtorEq, acT, XZ, Yy, e2, he, hnb, hir, m1, m2, Qx] | (refine hK _ ?_; clear hK; clear K') | refine And.intro ?_ ?_ | (apply Vg; (focus first | exact (QW _))) | (apply XH; (focus first | exact (QW _)); (focus first | exact rfl | decide)) | ((first | apply Q7 | apply JP); (focus first | exact (Jx _).b | exact EvN.b Jj | exact (QO _ zsd).b | exact (QX _ zsd).b | exact (Jt _ _ zsd).b)) | exact zlo | omega | exact zms)
          have ew : IntKind.i64.wrap ((i : Int) + 1) = ((i + 1 : Nat) : Int) := by rw [Wq (by omega) (by omega)]; omega
          rw [ew]
          refine hK2 _ (rs, i + 1) (Ja []) ⟨hcc, fun j hj y hy => ?_, by show i + 1 ≤ _; omega⟩ (by show ps.length - (i + 1) < ps.length - i; omega) (XW (n := 200) (N := 100) [] (by simp only [go_sem, Nat.reduceAdd, Nat.reduceMul, Nat.reduceEqDiff, Nat.reduceLT, Int.reduceToNat, reduceIte, reduceCtorEq, and_true, true_and, implies_true, Option.some.injEq, exists_eq_left', QJ, QU]; (repeat' (first | rfl | refine And.intro ?_ ?_ | omega | exact fun h => h | exact Exists.intro _ rfl))) (fun p hp => ?_) (WW fun i _ => JK) (by omega) (by rw [J9]; show 100 + rs.length ≤ 200; omega) (fun a b _ _ h => h) (by simp) (by omega))
          · by_cases hji : j = i
            · subst hji
              rw [hp'] at hy; cases hy
              show { p' with needs := p'.needs.map KI } = p'
              have : p'.needs.map KI = p'.needs := by
                refine List.ext_getElem? fun m => ?_
                rw [List.getElem?_map]
                rcases hm : p'.needs[m]? with _ | n
                · rfl
                · have := (List.getElem?_eq_some_iff.1 hm).1
                  rw [Option.map_some, hpb m (by omega) n hm]
              rw [this]
            · exact hct j (by omega) y hy
          · simp only [List.mem_singleton] at hp
            subst hp
            exact ⟨_, rfl, y7 (by omega)⟩
        · have e2 : decide ((k : Int) < (p'.needs.length : Int)) = true := decide_eq_true (by omega)
          obtain ⟨n, hn⟩ : ∃ n, p'.needs[k]? = some n := ⟨p'.needs[k]'(by omega), List.getElem?_eq_getElem (by omega)⟩
          have hnv : (p'.needs.map Js.v)[k]? = some (.agg [V.str n.name, .sl 1 (n.lo.map V.int), .sl 1 (n.up.map V.int)]) := by rw [List.getElem?_map, hn]; rfl
          have hkr : ((k : Int) < (p'.needs.length : Int)) = True := eq_true (by omega)
          repeat' (first | refine Qe fun K' hK => ?_ | refine Qk fun K' hK => ?_ | refine Qy 19 (fun _ => true) rfl (Qd) (Qc) fun K' hK => ?_ | refine Qz 19 (fun _ => true) rfl (Qd) (Qc) fun K' hK => ?_ | refine Qf ?_ | refine Qj ?_ | refine Qa ?_ | ((first | refine Qi ⟨_, rfl, fun hc => ?_, fun hc => ?_⟩ | refine QY (fun hc => ?_) (fun hc => ?_) | refine QZ (fun hc => ?_) (fun hc => ?_)) <;> first | exact Bool.noConfusion hc | ((try simp only [znz] at hc); first | exact znf | skip)) | refine Qn ?_ | refine Qh ?_ | simp (maxSteps := 1000000) only [go_sem, Nat.reduceAdd, Nat.reduceMul, Nat.reduceEqDiff, Nat.reduceLeDiff, Nat.reduceLT, Nat.reduceSub, Int.reduceEq, Int.reduceBEq, Int.reduceLT, Int.reduceLE, Int.reduceAdd, Int.reduceToNat, reduceIte, reduceCtorEq, acT, XZ, Yy, e2, he, hnb, hir, m1, m2, JK, hnv, hkr, Qx] | (refine hK _ ?_; clear hK; clear K') | refine And.intro ?_ ?_ | (apply Vg; (focus first | exact (QW _))) | (apply XH; (focus first | exact (QW _)); (focus first | exact rfl | decide)) | ((first | apply Q7 | apply JP); (focus first | exact (Jx _).b | exact EvN.b Jj | exact (QO _ zsd).b | exact (QX _ zsd).b | exact (Jt _ _ zsd).b)) | exact zlo | omega | exact zms)
          have hp9 : p.needs.length ≤ 9 := (hb.2.2.2 p (List.mem_of_getElem? hp)).2.2.1
          have ew : IntKind.i64.wrap ((k : Int) + 1) = ((k + 1 : Nat) : Int) := by rw [Wq (by omega) (by omega)]; omega
          rw [ew]
          have hget : (rs.set i { p' with needs := p'.needs.set k (KI n) })[i]? = some { p' with needs := p'.needs.set k (KI n) } := by rw [List.getElem?_set, if_pos rfl, if_pos (by omega)]
          have hnok := hpo.2.2.2 n (List.mem_of_getElem? hn)
          have hpq : xI { p' with needs := p'.needs.set k (KI n) } := ⟨hpo.1, hpo.2.1, by simp only [List.length_set]; exact hpo.2.2.1, fun y hy => by
            rcases List.mem_or_eq_of_mem_set hy with h2 | h2
            · exact hpo.2.2.2 y h2
            · rw [h2]; exact ⟨hnok.1, by simp [KI], by simp [KI]⟩⟩
          have hbp : KH { p' with needs := p'.needs.set k (KI n) } = KH p' := by
            simp only [KH]
            congr 1
            rw [List.map_set]
            refine List.ext_getElem? fun m => ?_
            rw [List.getElem?_set, List.getElem?_map]
            by_cases hm : k = m
            · subst hm
              rw [if_pos rfl, hn]
              have := (List.getElem?_eq_some_iff.1 hn).1
              rw [if_pos (by simpa using this)]; rfl
            · rw [if_neg hm]
          refine hK3 _ _ (rs.set i { p' with needs := p'.needs.set k (KI n) }, k + 1) (Ja []) (Le.upd (a := 100 + i) (y := .buf true 3 ((p'.needs.set k (KI n)).map Js.v)) (Qr _ _ _) ⟨rfl, rfl, ?_⟩) ⟨⟨?_, ?_, yN hcc.2.2 hpq⟩, ?_, (by show k + 1 ≤ _; omega), _, hget, ?_, ?_⟩ (by show p.needs.length - (k + 1) < p.needs.length - k; omega) ?_
          · rw [List.map_set]
            exact abh ⟨LeV.refl _, LeV.nil _, LeV.nil _, trivial⟩
          · simpa using hcc.1
          · rw [← hcc.2.1]
            refine List.ext_getElem? fun m => ?_
            rw [List.getElem?_map, List.getElem?_map, List.getElem?_set]
            by_cases hm : i = m
            · subst hm
              rw [if_pos rfl, if_pos (by omega), hp', Option.map_some, Option.map_some, hbp]
            · rw [if_neg hm]
          · intro j hj y hy
            dsimp only at hy
            rw [List.getElem?_set, if_neg (by omega)] at hy
            exact hct j hj y hy
          · simpa using hpl
          · intro j hj m hm
            dsimp only at hm hj
            rw [List.getElem?_set] at hm
            split at hm
            · split at hm
              · cases hm; rfl
              · cases hm
            · exact hpb j (by omega) m hm
          · have hso : Wn 100 (rs.set i { p' with needs := p'.needs.set k (KI n) }) = Wn 100 rs := xJ (q := p') (q' := { p' with needs := p'.needs.set k (KI n) }) rfl rfl (by simp) rs 100 i hp'
            refine XW (n := 200) (N := 100) [] ?_ (fun p hp => ?_) (WW fun m hm => ?_) (by omega) (by rw [J9]; simp; omega) (fun a b _ _ h => h) (by simp) (by omega)
            · simp only [List.length_set]
              simp only [go_sem, Nat.reduceAdd, Nat.reduceMul, Nat.reduceEqDiff, Nat.reduceLT, Int.reduceToNat, reduceIte, reduceCtorEq, and_true, true_and, implies_true, Option.some.injEq, exists_eq_left', QJ, QU]; (repeat' (first | rfl | refine And.intro ?_ ?_ | omega | exact fun h => h | exact Exists.intro _ rfl))
            · simp only [List.mem_singleton] at hp
              subst hp
              rw [hso]
              refine ⟨_, ?_, y7 (by omega)⟩
              exact (QT _ _ (by show 1 ≠ 100 + i; omega)).trans ((QT _ _ (by show 1 ≠ 100 + i; omega)).trans rfl)
            · rw [WJ, List.getElem?_set]
              show upd (upd _ _ _) _ _ (100 + m) = _
              by_cases him : i = m
              · subst him
                rw [Qr, if_pos rfl, if_pos (by omega)]; rfl
              · rw [QT _ _ (by omega), QT _ _ (by omega), if_neg him, JK, WJ]
end Av
end

/- K18 -/
import Derived.Test.YtlnkijmacdgahaaGreatK17
import Derived.Lib.IndexLaws
import Derived.Lib.AtoiAllCases
import Derived.Test.YtlnkijmacdgahaaGreatK12
import Derived.Test.YtlnkijmacdgahaaGreatK15
set_option linter.unusedVariables false
set_option linter.unusedSimpArgs false
noncomputable section
set_option maxRecDepth 10000
set_option maxHeartbeats 4000000
namespace Av
open Go
attribute [local irreducible] AWp VA K4 jR awS awC aa9 awQ abD QZ V9 aay awR Ug awB okR jL ris
def afu : JD := ⟨0, [], 0, 0, 0, 0, 0, 0, 0, 0, 0, 0⟩
def K1 (c : Int) : JD := if 1 ≤ c ∧ c ≤ 16 then WZ.getD (c - 1).toNat afu else afu
def xA (c : Int) : V := .tup [(K1 c).v, V.int (if 1 ≤ c ∧ c ≤ 16 then 0 else 8)]
theorem ww (c : Int) : (xA c).closed := by simp only [xA, JD.v, JD.cells, V.closed, Qc, and_self]
theorem ab2 (c : Int) : (xA c).noSl := by simp only [xA, JD.v, JD.cells, V.noSl, yc, and_self]
theorem adJ : WZ.length = 16 := rfl
theorem ag3 {c : Int} (h : 1 ≤ c ∧ c ≤ 16) : (WZ.map JD.v)[(c - 1).toNat]? = some (K1 c).v := by
  have hk : (c - 1).toNat < WZ.length := by rw [adJ]; omega
  rw [List.getElem?_map, K1, if_pos h, List.getD_eq_getElem?_getD, List.getElem?_eq_getElem hk, Option.getD_some]; rfl
theorem ag2 {c : Int} (h : ¬ (1 ≤ c ∧ c ≤ 16)) : K1 c = afu := by rw [K1, if_neg h]
def W9 := qd Proofs.Tryz.f67 []
def Um (Γ : Env) (f : Nat) : Prop := ∀ (c : Int), EvN Γ f [V.int c] (xA c)
attribute [local go_sem] JD.cells JD.v in
theorem abz {Γ : Env} {f : Nat} (h : Has Γ.P f 20 W9.1.1.ac W9.1.2) (z0 : VN Γ 101) : Um Γ f := by
  intro c
  refine Qb h zsi (by first | exact ww c | exact ab2 c) (by first | exact ww c | exact ab2 c) fun C hC hm => ?_
  subst hC
  simp only [W9, qd, DC.ac]
  have hl := adJ
  by_cases h : 1 ≤ c ∧ c ≤ 16
  · have hg := ag3 h
    have hw : IntKind.i64.wrap (c - 1) = c - 1 := QE (by omega) (by omega)
    have e1 : decide (c < 1) = false := by simp; omega
    have e2 : decide (c > 16) = false := by simp; omega
    have e3 : decide (c > (((WZ.map JD.v).length : Nat) : Int)) = false := by simp [hl]; omega
    (have zx := And.intro hg (And.intro hw (And.intro e1 (And.intro e2 e3)))); refine zgo ?_; repeat' first | exact zt | apply zan | intro hc
    all_goals (simp only [xA, if_pos h, JD.v, JD.cells]; refine Qi _ rfl ?_; simp only [go_sem, Nat.reduceEqDiff, Nat.reduceAdd, reduceIte, reduceCtorEq])
  · have h0 := ag2 h
    by_cases h1 : c < 1
    · have e1 : decide (c < 1) = true := by simp; omega
      (have zx := e1); refine zgo ?_; repeat' first | exact zt | apply zan | intro hc
      all_goals (simp only [xA, if_neg h, h0, afu, JD.v, JD.cells]; refine Qi _ rfl ?_; simp only [go_sem, Nat.reduceEqDiff, Nat.reduceAdd, reduceIte, reduceCtorEq])
    · have e1 : decide (c < 1) = false := by simp; omega
      have e2 : decide (c > (((WZ.map JD.v).length : Nat) : Int)) = true := by simp [hl]; omega
      (have zx := And.intro e1 e2); refine zgo ?_; repeat' first | exact zt | apply zan | intro hc
      all_goals (simp only [xA, if_neg h, h0, afu, JD.v, JD.cells]; refine Qi _ rfl ?_; simp only [go_sem, Nat.reduceEqDiff, Nat.reduceAdd, reduceIte, reduceCtorEq])
def jM {α : Type} (p : α → Bool) : Nat → List α → Int
  | _, [] => -1
  | k, x :: r => if p x = true then k else jM p (k + 1) r
def arn (n : List UInt8) : Int := jM (fun s : JD => s.name == n) 0 WZ + 1
theorem aqE (k : Nat) (hk : k < 256) {n : Int} (h1 : 1 ≤ n) (h2 : n ≤ 255) : IntKind.i64.wrap ((BitVec.ofInt IntKind.i64.bits n &&& BitVec.ofInt IntKind.i64.bits (k : Int)).toNat : Nat) = ((n.toNat &&& k : Nat) : Int) := by
  obtain ⟨m, rfl⟩ : ∃ m : Nat, n = m := ⟨n.toNat, by omega⟩
  have e1 : (BitVec.ofInt IntKind.i64.bits (m : Int)).toNat = m := by
    simp [BitVec.toNat_ofInt, IntKind.bits]; omega
  have e2 : (BitVec.ofInt IntKind.i64.bits (k : Int)).toNat = k := by
    simp [BitVec.toNat_ofInt, IntKind.bits]; omega
  rw [BitVec.toNat_and, e1, e2, Int.toNat_natCast]
  have := Nat.and_le_left (n := m) (m := k)
  simp [IntKind.wrap, IntKind.bits, IntKind.signed]
  omega
theorem arC {n : Int} (h1 : 1 ≤ n) (h2 : n ≤ 255) : IntKind.i64.wrap ((BitVec.ofInt IntKind.i64.bits n &&& BitVec.ofInt IntKind.i64.bits 31).toNat : Nat) = n.tmod 32 := by
  have h := aqE 31 (by omega) h1 h2
  refine h.trans ?_
  have e : n.toNat &&& 31 = n.toNat % 32 := Nat.and_two_pow_sub_one_eq_mod n.toNat 5
  rw [e, Int.tmod_eq_emod_of_nonneg (by omega)]; omega
theorem arB {n : Int} (h1 : 1 ≤ n) (h2 : n ≤ 255) : (IntKind.i64.wrap ((BitVec.ofInt IntKind.i64.bits n &&& BitVec.ofInt IntKind.i64.bits 32).toNat : Nat) != 0) = ((n.tdiv 32).tmod 2 == 1) := by
  have h := aqE 32 (by omega) h1 h2
  have h' : IntKind.i64.wrap ((BitVec.ofInt IntKind.i64.bits n &&& BitVec.ofInt IntKind.i64.bits 32).toNat : Nat) = ((n.toNat &&& 32 : Nat) : Int) := h
  rw [h', Int.tdiv_eq_ediv_of_nonneg (by omega), Int.tmod_eq_emod_of_nonneg (by omega)]
  have e : ∀ m : Fin 256, ((((m.val &&& 32 : Nat) : Int) != 0) = (((m.val : Int) / 32) % 2 == 1)) := by decide
  have := e ⟨n.toNat, by omega⟩
  simp only at this
  rw [this, Int.toNat_of_nonneg (by omega)]
def vI := qd Proofs.Tryz.f201 []
def aaU (Γ : Env) (f : Nat) : Prop := ∀ (n : Int), EvN Γ f [V.int n] (V.bool (aii n))
theorem ajV {Γ : Env} {f : Nat} (h : Has Γ.P f 14 vI.1.1.ac vI.1.2)  : aaU Γ f := by
  intro n
  refine Qb h zsi zcl zcl fun C hC hm => ?_
  subst hC
  simp only [vI, qd, DC.ac]
  rcases h1 : decide (n ≥ 1) with _ | _ <;> rcases h2 : decide (n ≤ 255) with _ | _
  all_goals
    have e : aii n = (decide (n ≥ 1) && (decide (n ≤ 255) && (n.tmod 32 != 31))) := rfl
    rw [h1, h2] at e
    simp only [Bool.false_and, Bool.true_and] at e
    rw [e]
  rotate_right
  · have e3 := arC (of_decide_eq_true h1) (of_decide_eq_true h2)
    simp only [IntKind.bits] at e3
    (have zx := And.intro h1 (And.intro h2 e3)); exact zg
  all_goals
    (have zx := And.intro h1 h2); exact zg
theorem yW {α : Type} (p : α → Bool) : ∀ (xs : List α) (k : Nat), decide (jM p k xs ≥ 0) = xs.any p
  | [], k => by rw [jM]; rfl
  | x :: r, k => by
    have ih := yW p r (k + 1)
    rw [jM, List.any_cons]
    cases h : p x
    · simpa using ih
    · simp
def QI := qd Proofs.Tryz.f208 []
def Q5 (Γ : Env) (f : Nat) : Prop := ∀ (xs : List Ql) (g : Nat) (cap : List V) (p : Ql → Bool) (hp : ∀ x ∈ xs, EvN Γ g (Ql.v x :: cap) (V.bool (p x))) (hcap : Qc cap) (hl : xs.length < 2 ^ 62), EvN Γ f [.sl 4 (xs.map Ql.v), .clo g cap] (V.int (jM p 0 xs))
attribute [local go_sem] Ql.v_eq in
theorem Y6 {Γ : Env} {f : Nat} (h : Has Γ.P f 19 QI.1.1.ac QI.1.2)  : Q5 Γ f := by
  intro xs g cap p hp hcap hl
  refine Qb h zsi zcl zcl fun C hC hm => ?_
  subst hC
  simp only [QI, qd, DC.ac]
  have s1 : ∀ o, Jv o cap = cap := fun o => QS o cap hcap
  have s2 : ∀ o B, Qj o B cap = True := fun o B => eq_true (Qy o B cap hcap)
  refine zgo ?_; repeat' first | exact zt | apply zan | intro hc
  refine Jz (ι := Nat) (fun k => k ≤ xs.length ∧ jM p k (xs.drop k) = jM p 0 xs) (fun k => [(8, V.int k)]) (fun k => xs.length - k) 0 (by omega) ⟨by simp, by simp⟩ zol (fun i hi => by simp only [ovT, Xs, Nat.reduceEqDiff, reduceIte]; (repeat' first | exact xM | refine ja ?_ ?_ | simp only [V.lt, ltL, and_self, and_true] | omega); exact JA _ _ hcap) (by simp only [Nat.reduceAdd, ovT, Xs, Nat.reduceEqDiff, reduceIte, KE, yq, amI, u32, u33, u34, u35, u36, u37, u38, u39, and_self, and_true, true_and]; first | rfl | exact QP _ _ hcap) fun k hk K' hL => ?_
  obtain ⟨hk, hinv⟩ := hk
  simp only [ovT, Xs, Nat.reduceEqDiff, reduceIte]
  rcases hd : xs.drop k with _ | ⟨y, r⟩
  · have := QB hd
    rw [hd] at hinv
    have e1 : decide ((k : Int) < (((xs.map Ql.v).length : Nat) : Int)) = false := by simp; omega
    (have zx := e1); refine zgo ?_; repeat' first | exact zt | apply zan | intro hc
    refine Qi _ rfl ?_
    simp only [go_sem, Nat.reduceEqDiff, Nat.reduceAdd, reduceIte, reduceCtorEq]
    rw [← hinv]; rfl
  · obtain ⟨hk, hget, hr⟩ := Qo hd
    rw [hd] at hinv
    have hw := Qg (k := k) (by omega)
    have e1 : decide ((k : Int) < (((xs.map Ql.v).length : Nat) : Int)) = true := by simp; omega
    have hpy := hp y (List.mem_of_getElem? hget)
    obtain ⟨yt, yb, yn, ye⟩ := y
    rw [Ql.v_eq] at hpy
    by_cases hy : p (.mk yt yb yn ye) = true
    · rw [hy] at hpy
      (have zy0 := hpy.b; have zx := And.intro hget (And.intro hw (And.intro e1 (And.intro s1 s2)))); refine zgo ?_; repeat' first | exact zt | apply zan | intro hc
      refine Qi _ rfl ?_; simp only [go_sem, Nat.reduceEqDiff, Nat.reduceAdd, reduceIte, reduceCtorEq]
      rw [← hinv]; simp [jM, hy]
    · have hy' : p (.mk yt yb yn ye) = false := by simpa using hy
      rw [hy'] at hpy
      (have zy0 := hpy.b; have zx := And.intro hget (And.intro hw (And.intro e1 (And.intro s1 s2)))); refine zgo ?_; repeat' first | exact zt | apply zan | intro hc
      refine hL _ (k + 1) zet ⟨by omega, ?_⟩ (by omega) zoe
      rw [hr, ← hinv, jM, if_neg hy]
def QC := qd Proofs.Tryz.f202 []
def QY (Γ : Env) (f : Nat) : Prop := ∀ (xs : List Ql) (g : Nat) (cap : List V) (p : Ql → Bool) (hp : ∀ x ∈ xs, EvN Γ g (Ql.v x :: cap) (V.bool (p x))) (hcap : Qc cap) (hl : xs.length < 2 ^ 62), EvN Γ f [.sl 4 (xs.map Ql.v), .clo g cap] (V.bool (xs.any p))
theorem YN {Γ : Env} {f : Nat} (h : Has Γ.P f 9 QC.1.1.ac QC.1.2) (z0 : Q5 Γ 208) : QY Γ f := by
  intro xs g cap p hp hcap hl
  refine Qb h zsi zcl zcl fun C hC hm => ?_
  subst hC
  simp only [QC, qd, DC.ac]
  have s1 : ∀ o, Jv o cap = cap := fun o => QS o cap hcap
  have s2 : ∀ o B, Qj o B cap = True := fun o B => eq_true (Qy o B cap hcap)
  have hi := (z0 xs g cap p hp hcap hl).b
  have e1 := yW p xs 0
  (have zx := And.intro s1 (And.intro s2 e1)); exact zg
def Wl (yh : Nat) : AC := Yq [1] (.reg [xo 1 (.box true 4 (.t 0)), mc 2 (V.bool false)]) (Yq [2] (.reg [xo 3 (.load true 4 (.t 1)), cl 4 yh [3], xo 5 (.un .not (.t 4)), mv 2 5]) .ret) def r_der_formed_1 : List Vz := [.tmp 2]
def Kl (Γ : Env) (f : Nat) : Prop := ∀ (e : Nat), Has Γ.P f 6 (Wl e) r_der_formed_1 → ∀ (x : Ql) (b : Bool), EvN Γ e [x.v] (V.bool b) → EvN Γ f [x.v] (V.bool (!b))
theorem acH {Γ : Env} {f yh : Nat} (h : Has Γ.P f 6 (Wl yh) r_der_formed_1)  : Kl Γ f := by
  clear h
  intro e h x b he
  refine Qb h (by simp) trivial trivial fun C hC hm => ?_
  subst hC
  unfold Wl
  obtain ⟨t, c, n, es⟩ := x
  simp only [Ql.v_eq] at he ⊢
  (have zy0 := he.b); exact zg
theorem aqg (es : List Ql) : (!(es.any fun x => !x.fB)) = fL es := by
  induction es with
  | nil => rfl
  | cons x r ih => rw [fL, ← ih, List.any_cons]; cases x.fB <;> simp
def aa6 (wQ QA Yr : Nat) : AC := Yq [1] (.reg [xo 1 (.box true 4 (.t 0)), mc 2 (V.bool false)]) (Yq [1] (Yq [1, 36] (.reg [fa 3 0 1, ld 4 1 3, cl 5 wQ [4], xo 6 (.un .not (.t 5)), mv 7 6, xg 8 (.faddr 2 (.t 1)) 7 false, xg 9 (.load false 1 (.t 8)) 7 false, xg 10 (.faddr 0 (.t 1)) 7 false, xg 11 (.load false 1 (.t 10)) 7 false, xg 12 (.bin .and (.t 11) (.c (V.int 32))) 7 false, xg 13 (.bin .neq (.t 12) (.c (V.int 0))) 7 false, xg 14 (.eqb true (.t 9) (.t 13)) 7 false, xo 15 (.pick (.t 7) (.c (V.bool true)) (.t 14)), mv 16 15, xg 17 (.faddr 2 (.t 1)) 16 false, xg 18 (.load false 1 (.t 17)) 16 false, mg 19 18 16 false, xg 20 (.faddr 1 (.t 1)) 19 true, xg 21 (.load false 1 (.t 20)) 19 true, xg 22 (.lenL (.t 21)) 19 true, xg 23 (.bin .gtr (.t 22) (.c (V.int 0))) 19 true, xg 24 (.pick (.t 19) (.t 23) (.c (V.bool false))) 16 false, xo 25 (.pick (.t 16) (.c (V.bool true)) (.t 24)), mv 26 25, xg 27 (.faddr 2 (.t 1)) 26 false, xg 28 (.load false 1 (.t 27)) 26 false, xg 29 (.un .not (.t 28)) 26 false, mg 30 29 26 false, xg 31 (.faddr 3 (.t 1)) 30 true, xg 32 (.load false 1 (.t 31)) 30 true, xg 33 (.lenL (.t 32)) 30 true, xg 34 (.bin .gtr (.t 33) (.c (V.int 0))) 30 true, xg 35 (.pick (.t 30) (.t 34) (.c (V.bool false))) 26 false, xo 36 (.pick (.t 26) (.c (V.bool true)) (.t 35))]) (.cond (.t 36) (Yq [2] (.reg [mc 2 (V.bool false)]) .ret) .skip)) (Yq [2] (.reg [fa 37 3 1, ld 38 1 37, xo 39 (.call QA [(.t 38), (.c (.clo Yr []))]), xo 40 (.un .not (.t 39)), mv 2 40]) .ret)) def r_der_formed : List Vz := [.tmp 2]
def jH (Γ : Env) (f : Nat) : Prop := ∀ x : Ql, x.siz < 2 ^ 40 → EvN Γ f [x.v] (V.bool x.fB)
theorem aeX {Γ : Env} {f wQ QA Yr : Nat} (h : Has Γ.P f 41 (aa6 wQ QA Yr) r_der_formed) (z0 : aaU Γ wQ) (z1 : QY Γ QA) (z2 : Kl Γ Yr) (hH_der_formed_1 : Has Γ.P Yr 6 (Wl f) r_der_formed_1) : jH Γ f := by
  have H : ∀ (kk : Nat) (x : Ql), x.siz < kk → x.siz < 2 ^ 40 → EvN Γ f [x.v] (V.bool x.fB) := by
    intro kk
    induction kk with
    | zero => intro x hk; omega
    | succ kk ih =>
      intro x hk hx
      obtain ⟨t, b, n, es⟩ := x
      have hch : ∀ y ∈ es, EvN Γ Yr [y.v] (V.bool (!y.fB)) := by
        intro y hy
        obtain ⟨i, hi⟩ := List.mem_iff_getElem?.1 hy
        have h1 := j0 hi
        rw [Ql.siz] at hk hx
        exact z2 f hH_der_formed_1 y y.fB (ih y (by omega) (by omega))
      refine Qb h (by simp) trivial trivial fun C hC hm => ?_
      subst hC
      unfold aa6
      simp only [Ql.v_eq, Ql.fB]
      have hsz : xh es < (Ql.mk t b n es).siz := by rw [Ql.siz]; omega
      have hle := qS es
      have htg := (z0 t).b
      have hco := (z1 es Yr [] (fun y => !y.fB) hch trivial (by omega)).b
      have hfl := aqg es
      have hlb : ((JC b).length : Int) = (b.length : Int) := by rw [Xn]
      have hle2 : ((es.map Ql.v).length : Int) = (es.length : Int) := by rw [List.length_map]
      have hdl : hdB t b n es = (aii t && (!(n != ((t.tdiv 32).tmod 2 == 1)) && (!(n && decide ((b.length : Int) > 0)) && !(!n && decide ((es.length : Int) > 0))))) := rfl
      rcases h1 : aii t with _ | _
      · have hf : hdB t b n es = false := by rw [hdl, h1]; rfl
        rw [hf, Bool.false_and]
        rw [h1] at htg
        exact zg
      · rw [h1] at htg
        have htb := aku h1
        have h32 := arB htb.1 htb.2
        simp only [IntKind.bits] at h32
        rcases n with _ | _ <;> rcases h3 : ((t.tdiv 32).tmod 2 == 1) with _ | _ <;> rcases h4 : decide ((b.length : Int) > 0) with _ | _ <;> rcases h5 : decide ((es.length : Int) > 0) with _ | _
        all_goals
          rw [h1, h3, h4, h5] at hdl
          simp only [Bool.not_true, Bool.not_false, Bool.and_true, Bool.and_false, Bool.true_and, Bool.false_and, Bool.bne_true, Bool.bne_false, Bool.true_bne, Bool.false_bne, bne_self_eq_false] at hdl
          rw [hdl]
          first | rw [Bool.false_and] | rw [Bool.true_and, ← hfl]
          (have zx := And.intro hlb (And.intro hle2 (And.intro h32 (And.intro h3 (And.intro h4 h5))))); exact zg
  intro x hx
  exact H _ x (Nat.lt_succ_self _) hx
def aqV (c : Int) : Int := if 1 ≤ c ∧ c ≤ 16 then Qn (K1 c).ci1 (K1 c).ci2 else 0
def aoZ : List (List UInt8) := [[97, 108, 108], [104, 105, 103, 104], [109, 101, 100, 105, 117, 109], [108, 111, 119], [118, 49], [118, 50], [118, 51], [118, 52]]
def alm (n : List UInt8) : Bool := aoZ.contains n || decide (ahD n 0 Kt > 0) || decide (arn n > 0)
def aqd (n : List UInt8) (st lo up : Int) : Option Bool :=
  if n = [97, 108, 108] then some true else if n = [104, 105, 103, 104] then some (decide (st ≥ 128)) else if n = [109, 101, 100, 105, 117, 109] then some (decide (st ≥ 112) && decide (st < 128))
  else if n = [108, 111, 119] then some (decide (st < 112)) else if n = [118, 49] then some (decide (lo ≤ 1) && decide (1 ≤ up)) else if n = [118, 50] then some (decide (lo ≤ 2) && decide (2 ≤ up))
  else if n = [118, 51] then some (decide (lo ≤ 3) && decide (3 ≤ up)) else if n = [118, 52] then some (decide (lo ≤ 4) && decide (4 ≤ up)) else none
def ap6 (n : List UInt8) (s : JD) : Bool :=
  match aqd n (aqV s.code) s.lo s.hi with
  | some b => b
  | none => (decide (ahD n 0 Kt > 0) && (s.kx1 == ahD n 0 Kt || s.sg1 == ahD n 0 Kt || s.ci1 == ahD n 0 Kt || s.mc1 == ahD n 0 Kt)) || s.name == n
end Av
end

/- A box whose slices are shown for good: its headers become rows that may be read. -/
import Derived.Test.YtlnkijmacdgahaaGreatK29
import Derived.Test.YtlnkijmacdgahaaGreatK12
import Derived.Test.YtlnkijmacdgahaaGreatK24
import Derived.Test.YtlnkijmacdgahaaGreatK21
import Derived.Test.YtlnkijmacdgahaaGreatK16
set_option linter.unusedVariables false
set_option linter.unusedSimpArgs false
noncomputable section
set_option maxRecDepth 10000
set_option maxHeartbeats 4000000
namespace Av
open Go
attribute [local irreducible] AWp VA K4 jR awS awC aa9 awQ abD QZ V9 aay awR Ug awB okR jL ris
def apH (c : Int) : Int × Int := if c = 0 then (1, 0) else if c = 1 then (2, 0) else if c = 2 then (5, 1024) else (14, 128)
theorem amw {c : Int} (h : 0 ≤ c ∧ c < 4) : ([.agg [V.int 1, V.int 0], .agg [V.int 2, V.int 0], .agg [V.int 5, V.int 1024], .agg [V.int 14, V.int 128]] : List V)[c.toNat]? = some (.agg [V.int (apH c).1, V.int (apH c).2]) := by
  obtain rfl | rfl | rfl | rfl : c = 0 ∨ c = 1 ∨ c = 2 ∨ c = 3 := by omega
  all_goals rfl
def aly (l : List Int) (f : Qa) (k : Nat) : Qa × Nat :=
  if f.kind = 1 ∨ f.kind = 8 then ({ f with alg := (apH (Qz l k 4).1).1, bits := (apH (Qz l k 4).1).2 }, (Qz l k 4).2)
  else if f.kind = 2 then ({ f with num := 1 + (Qz l k 5).1 }, (Qz l k 5).2)
  else if f.kind = 3 then ({ f with alg := 5, bits := (ofD l k [1024, 2048]).1, num := 100 + (Qz l (ofD l k [1024, 2048]).2 3).1 }, (Qz l (ofD l k [1024, 2048]).2 3).2)
  else if f.kind = 4 ∨ f.kind = 5 then ({ f with num := 1 + (Qz l k 4).1 }, (Qz l k 4).2)
  else if f.kind = 6 then ({ f with num := (Qz l k 3).1 }, (Qz l k 3).2)
  else ({ f with text := (Ub l k [[97], [98]]).1 }, (Ub l k [[97], [98]]).2)
def Jx (l : List Int) (k : Nat) : Qa × Nat :=
  let n1 := Qz l k 7
  let w1 := Ub l n1.2 [[97], [98], [99]]
  let o1 := ofD l w1.2 [0, 1, 2, 0, 3]
  let n2 := Qz l o1.2 12
  let o2 := ofD l n2.2 [90, 50, 100, 1]
  let n3 := Qz l o2.2 8
  let w2 := Ub l n3.2 [[115], [116]]
  (⟨1 + n1.1, w1.1, o1.1, n2.1, o2.1, 1 + n3.1, w2.1, 0, 0, 0, []⟩, w2.2)
def Kv (l : List Int) (k : Nat) : Qa × Nat := aly l (Jx l k).1 (Jx l k).2
def VY := qd Proofs.Tryz.f18 []
def Kk (Γ : Env) (f : Nat) : Prop := ∀ (l : List Int) (k : Nat) (hl : l.length ≤ 400) (hk : k ≤ l.length), EvD Γ f [] (JI l k) ((Kv l k).1.v) (JI l (Kv l k).2)
attribute [local go_sem] JI in
theorem acG {Γ : Env} {f : Nat} (h : Has Γ.P f 76 VY.1.1.ac VY.1.2) (z0 : QW Γ 10) (z1 : Xp Γ 19) (z2 : Y3 Γ 13) : Kk Γ f := by
  intro l k hl hk
  refine Xw h zsi (by first | exact KF _ _ | simp only [Qa.v, Qa.cells, V.closed, Qc, and_self, and_true]) zc3 zc3 fun C hC hm => ?_
  subst hC
  simp only [VY, qd, DC.ac]
  have n1 := z0 l k 7 hl hk
  have r1 := Qk (l := l) (k := k) (n := 7) (by omega) (by omega)
  have k1 := Jq (n := 7) hk
  simp only [Kv, Jx]
  generalize Qz l k 7 = x1 at *
  obtain ⟨a1, q1⟩ := x1
  simp only at n1 r1 k1 ⊢
  have n2 := z1 l q1 [[97], [98], [99]] hl k1 (by decide) (by decide)
  have k2 := qR (xs := [[97], [98], [99]]) k1
  generalize Ub l q1 [[97], [98], [99]] = x2 at *
  obtain ⟨a2, q2⟩ := x2
  simp only at n2 k2 ⊢
  have n3 := z2 l q2 [0, 1, 2, 0, 3] hl k2 (by decide) (by decide)
  have k3 := j9 (xs := [0, 1, 2, 0, 3]) k2
  generalize ofD l q2 [0, 1, 2, 0, 3] = x3 at *
  obtain ⟨a3, q3⟩ := x3
  simp only at n3 k3 ⊢
  have n4 := z0 l q3 12 hl k3
  have k4 := Jq (n := 12) k3
  generalize Qz l q3 12 = x4 at *
  obtain ⟨a4, q4⟩ := x4
  simp only at n4 k4 ⊢
  have n5 := z2 l q4 [90, 50, 100, 1] hl k4 (by decide) (by decide)
  have k5 := j9 (xs := [90, 50, 100, 1]) k4
  generalize ofD l q4 [90, 50, 100, 1] = x5 at *
  obtain ⟨a5, q5⟩ := x5
  simp only at n5 k5 ⊢
  have n6 := z0 l q5 8 hl k5
  have r6 := Qk (l := l) (k := q5) (n := 8) (by omega) (by omega)
  have k6 := Jq (n := 8) k5
  generalize Qz l q5 8 = x6 at *
  obtain ⟨a6, q6⟩ := x6
  simp only at n6 r6 k6 ⊢
  have n7 := z1 l q6 [[115], [116]] hl k6 (by decide) (by decide)
  have k7 := qR (xs := [[115], [116]]) k6
  generalize Ub l q6 [[115], [116]] = x7 at *
  obtain ⟨a7, q7⟩ := x7
  simp only at n7 k7 ⊢
  have e1 : IntKind.i64.wrap (1 + a1) = 1 + a1 := QE (by omega) (by omega)
  have m4 := z0 l q7 4 hl k7
  have s4 := Qk (l := l) (k := q7) (n := 4) (by omega) (by omega)
  have g4 := amw s4
  have e4 : IntKind.i64.wrap (1 + (Qz l q7 4).1) = 1 + (Qz l q7 4).1 := QE (by omega) (by omega)
  have m5 := z0 l q7 5 hl k7
  have s5 := Qk (l := l) (k := q7) (n := 5) (by omega) (by omega)
  have e5 : IntKind.i64.wrap (1 + (Qz l q7 5).1) = 1 + (Qz l q7 5).1 := QE (by omega) (by omega)
  have mo := z2 l q7 [1024, 2048] hl k7 (by decide) (by decide)
  have ko := j9 (xs := [1024, 2048]) k7
  have mp := z0 l (ofD l q7 [1024, 2048]).2 3 hl ko
  have sp := Qk (l := l) (k := (ofD l q7 [1024, 2048]).2) (n := 3) (by omega) (by omega)
  have ep : IntKind.i64.wrap (100 + (Qz l (ofD l q7 [1024, 2048]).2 3).1) = 100 + (Qz l (ofD l q7 [1024, 2048]).2 3).1 := QE (by omega) (by omega)
  have m3 := z0 l q7 3 hl k7
  have mw := z1 l q7 [[97], [98]] hl k7 (by decide) (by decide)
  have w1 : IntKind.i64.wrap 1 = 1 := by decide
  have w2 : IntKind.i64.wrap 2 = 2 := by decide
  have w3 : IntKind.i64.wrap 3 = 3 := by decide
  have w4 : IntKind.i64.wrap 4 = 4 := by decide
  have w5 : IntKind.i64.wrap 5 = 5 := by decide
  have w6 : IntKind.i64.wrap 6 = 6 := by decide
  have w7 : IntKind.i64.wrap 7 = 7 := by decide
  have w8 : IntKind.i64.wrap 8 = 8 := by decide
  simp only [JI, List.map_cons, List.map_nil] at n1 n2 n3 n4 n5 n6 n7 m4 m5 mo mp m3 mw
  obtain rfl | rfl | rfl | rfl | rfl | rfl | rfl | rfl : a6 = 0 ∨ a6 = 1 ∨ a6 = 2 ∨ a6 = 3 ∨ a6 = 4 ∨ a6 = 5 ∨ a6 = 6 ∨ a6 = 7 := by omega
  all_goals
    simp only [aly, Int.reduceAdd, Int.reduceEq, or_true, true_or, or_self, if_true, if_false, Qa.v, Qa.cells]
    (have zx := And.intro e1 (And.intro e4 (And.intro e5 (And.intro ep (And.intro g4 (And.intro w1 (And.intro w2 (And.intro w3 (And.intro w4 (And.intro w5 (And.intro w6 (And.intro w7 w8)))))))))))); refine zgo ?_; repeat' first | exact zt | apply zan | intro hc
  all_goals first | (refine vF _ rfl rfl zcd ?_; simp only [go_sem, Nat.reduceEqDiff, Nat.reduceAdd, reduceIte, reduceCtorEq]; done) | trace_state
theorem alk (a b : List UInt8) : (!(Op.bytesLess a b || a == b)) = Op.bytesLess b a := by
  rcases h1 : Op.bytesLess a b with _ | _
  · rcases h2 : Op.bytesLess b a with _ | _
    · have := wK a b h1 h2
      subst this; simp
    · have : a ≠ b := fun h => by subst h; rw [h1] at h2; cases h2
      simp [this]
  · rcases h2 : Op.bytesLess b a with _ | _
    · simp
    · have := UZ a b a h1 h2
      rw [wL] at this; cases this
theorem ajQ (x : Int) : JB [x] = x := by
  simp only [JB]; split <;> omega
def UA := qd Proofs.Tryz.f120 []
def ql (Γ : Env) (f : Nat) : Prop := ∀ (a b : List UInt8), EvN Γ f [V.str a, V.str b] (V.int (jY a b))
theorem adi {Γ : Env} {f : Nat} (h : Has Γ.P f 11 UA.1.1.ac UA.1.2)  : ql Γ f := by
  intro a b
  refine Qb h zsi zcl zcl fun C hC hm => ?_
  subst hC
  simp only [UA, qd, DC.ac]
  have hg := alk a b
  unfold jY
  rcases h1 : Op.bytesLess a b with _ | _
  · rw [h1] at hg
    by_cases he : a = b
    · subst he
      rw [h1]
      (have zx := h1); exact zg
    · have h2 : (a == b) = false := by simpa using he
      rw [h2] at hg
      rw [← hg]
      (have zx := And.intro h1 h2); exact zg
  · (have zx := h1); exact zg
def KH := qd Proofs.Tryz.f121 [zhn 9, zhn 9]
def jz (Γ : Env) (f : Nat) : Prop := ∀ (a b : List Int) (hab : a.length = b.length) (hl : a.length < 2 ^ 40), EvN Γ f [.sl 1 (a.map V.int), .sl 1 (b.map V.int)] (V.int (JB (List.zipWith Xv a b)))
theorem aeM {Γ : Env} {f : Nat} (h : Has Γ.P f 30 KH.1.1.ac KH.1.2)  : jz Γ f := by
  intro a b hab hl
  refine Qb h zsi zcl zcl fun C hC hm => ?_
  subst hC
  simp only [KH, qd, DC.ac]
  refine zgo ?_; repeat' first | exact zt | apply zan | intro hc
  refine Jz (ι := Nat) (fun k => k ≤ a.length ∧ JB (List.zipWith Xv (a.drop k) (b.drop k)) = JB (List.zipWith Xv a b)) (fun k => [(5, V.int k)]) (fun k => a.length - k) 0 (by omega) ⟨by simp, by simp⟩ zol zlt zet fun k hk K' hL => ?_
  obtain ⟨hk, hinv⟩ := hk
  simp only [ovT, Xs, Nat.reduceEqDiff, reduceIte]
  have hal : (a.map V.int).length = a.length := List.length_map _
  rcases hd : a.drop k with _ | ⟨y, r⟩
  · have hkl := QB hd
    rw [hd] at hinv
    have e1 : decide ((k : Int) < (a.length : Int)) = false := by simp; omega
    rw [← hinv]
    (have zx := And.intro e1 hal); refine zgo ?_; repeat' first | exact zt | apply zan | intro hc
    all_goals first | exact zr | (refine Qi _ rfl ?_; simp only [go_sem, Nat.reduceEqDiff, Nat.reduceAdd, reduceIte, reduceCtorEq]; rfl) | trace_state
  · obtain ⟨hk, hget, hr⟩ := Qo hd
    obtain ⟨z, hz⟩ : ∃ z, b[k]? = some z := ⟨_, List.getElem?_eq_getElem (by omega)⟩
    have hdb : b.drop k = z :: b.drop (k + 1) := by
      obtain ⟨h1, h2⟩ := List.getElem?_eq_some_iff.1 hz
      rw [List.drop_eq_getElem_cons h1, h2]
    rw [hd, hdb, List.zipWith_cons_cons, JB, ← hr] at hinv
    have hw := Qg (k := k) (by omega)
    have e1 : decide ((k : Int) < (a.length : Int)) = true := by simp; omega
    have va : (a.map V.int)[k]? = some (V.int y) := by rw [List.getElem?_map, hget]; rfl
    have vb : (b.map V.int)[k]? = some (V.int z) := by rw [List.getElem?_map, hz]; rfl
    rcases h1 : decide (y < z) with _ | _
    · rcases h2 : decide (y > z) with _ | _
      · have hyz : Xv y z = 0 := by simp at h1 h2; unfold Xv; rw [if_neg (by omega), if_neg (by omega)]
        rw [hyz, if_neg (by decide)] at hinv
        (have zx := And.intro e1 (And.intro hal (And.intro va (And.intro vb (And.intro h1 (And.intro h2 hw)))))); refine zgo ?_; repeat' first | exact zt | apply zan | intro hc
        all_goals first | exact hL _ (k + 1) zet ⟨by omega, hinv⟩ (by omega) zoe | trace_state
      · have hyz : Xv y z = 1 := by simp at h1 h2; unfold Xv; rw [if_neg (by omega), if_pos (by omega)]
        rw [hyz, if_pos (by decide)] at hinv
        rw [← hinv]
        (have zx := And.intro e1 (And.intro hal (And.intro va (And.intro vb (And.intro h1 (And.intro h2 hw)))))); exact zg
    · have hyz : Xv y z = -1 := by simp at h1; unfold Xv; rw [if_pos (by omega)]
      rw [hyz, if_pos (by decide)] at hinv
      rw [← hinv]
      (have zx := And.intro e1 (And.intro hal (And.intro va (And.intro vb (And.intro h1 hw))))); exact zg
theorem amM (a b : Qa) : acg a b = JB [jY a.host b.host, JB [Xv a.mach b.mach, Xv a.day b.day], jY a.subj b.subj, JB [Xv a.kind b.kind, Xv a.alg b.alg, Xv a.bits b.bits, Xv a.num b.num], jY a.text b.text, JB [Xv a.src b.src, Xv a.conf b.conf]] := by
  simp only [acg, an2, JB]
  repeat' split
  all_goals first | rfl | omega | simp_all
def UB := qd Proofs.Tryz.f84 []
def qm (Γ : Env) (f : Nat) : Prop := ∀ (a b : Qa), EvN Γ f [a.v, b.v] (V.int (acg a b))
theorem adj {Γ : Env} {f : Nat} (h : Has Γ.P f 85 UB.1.1.ac UB.1.2) (z0 : ql Γ 120) (z1 : jz Γ 121) : qm Γ f := by
  intro a b
  refine Qb h zsi zcl zcl fun C hC hm => ?_
  subst hC
  simp only [UB, qd, DC.ac]
  have p1 := (z0 a.host b.host).b
  have p2 := (z1 [a.mach, a.day] [b.mach, b.day] rfl (by simp)).b
  have p3 := (z0 a.subj b.subj).b
  have p4 := (z1 [a.kind, a.alg, a.bits, a.num] [b.kind, b.alg, b.bits, b.num] rfl (by simp)).b
  have p5 := (z0 a.text b.text).b
  have p6 := (z1 [a.src, a.conf] [b.src, b.conf] rfl (by simp)).b
  simp only [List.map_cons, List.map_nil, List.zipWith_cons_cons, List.zipWith_nil_left] at p2 p4 p6
  rw [amM]
  generalize jY a.host b.host = o1 at *
  generalize JB [Xv a.mach b.mach, Xv a.day b.day] = o2 at *
  generalize jY a.subj b.subj = o3 at *
  generalize JB [Xv a.kind b.kind, Xv a.alg b.alg, Xv a.bits b.bits, Xv a.num b.num] = o4 at *
  generalize jY a.text b.text = o5 at *
  generalize JB [Xv a.src b.src, Xv a.conf b.conf] = o6 at *
  simp only [Qa.v, Qa.cells]
  have F : ∀ (x : Int) (r : List Int), x ≠ 0 → JB (x :: r) = x := fun x r h => by rw [JB, if_pos h]
  have N : ∀ (x : Int) (r : List Int), x = 0 → JB (x :: r) = JB r := fun x r h => by rw [JB, if_neg (by simpa using h)]
  by_cases h1 : o1 = 0
  rotate_left
  · have c1 : (o1 != 0) = true := by simpa using h1
    rw [F _ _ h1]
    (have zx := c1); exact zg
  have c1 : (o1 != 0) = false := by simpa using h1
  rw [N _ _ h1]
  by_cases h2 : o2 = 0
  rotate_left
  · have c2 : (o2 != 0) = true := by simpa using h2
    rw [F _ _ h2]
    (have zx := And.intro c1 c2); exact zg
  have c2 : (o2 != 0) = false := by simpa using h2
  rw [N _ _ h2]
  by_cases h3 : o3 = 0
  rotate_left
  · have c3 : (o3 != 0) = true := by simpa using h3
    rw [F _ _ h3]
    (have zx := And.intro c1 (And.intro c2 c3)); exact zg
  have c3 : (o3 != 0) = false := by simpa using h3
  rw [N _ _ h3]
  by_cases h4 : o4 = 0
  rotate_left
  · have c4 : (o4 != 0) = true := by simpa using h4
    rw [F _ _ h4]
    (have zx := And.intro c1 (And.intro c2 (And.intro c3 c4))); exact zg
  have c4 : (o4 != 0) = false := by simpa using h4
  rw [N _ _ h4]
  by_cases h5 : o5 = 0
  rotate_left
  · have c5 : (o5 != 0) = true := by simpa using h5
    rw [F _ _ h5]
    (have zx := And.intro c1 (And.intro c2 (And.intro c3 (And.intro c4 c5)))); exact zg
  have c5 : (o5 != 0) = false := by simpa using h5
  rw [N _ _ h5, ajQ]
  (have zx := And.intro c1 (And.intro c2 (And.intro c3 (And.intro c4 c5)))); exact zg
def UC := qd Proofs.Tryz.f49 [zhn 13]
def qn (Γ : Env) (f : Nat) : Prop := ∀ (f0 : Qa) (hz : f0.Sz) (hc0 : Yg f0 = true), EvN Γ f [f0.v] (V.int 0)
theorem adk {Γ : Env} {f : Nat} (h : Has Γ.P f 161 UC.1.1.ac UC.1.2) (z0 : UN Γ 78) (z4 : Wp Γ 77) (z5 : Ve Γ 83) : qn Γ f := by
  intro f0 hz hc0
  refine Qb h zsi zcl zcl fun C hC hm => ?_
  subst hC
  simp only [UC, qd, DC.ac]
  obtain ⟨src, host, mach, day, conf, kind, subj, alg, bits, num, text⟩ := f0
  obtain ⟨z1, z2, z3⟩ := hz
  have p1 := (z0 host z1).b
  have p2 := (z0 subj z2).b
  have p3 := (z0 text z3).b
  have p4 := (z4 alg bits).b
  have p5 := (z5 alg bits).b
  simp only [Yg, Bool.and_eq_true, Bool.not_eq_true', decide_eq_true_eq, decide_eq_false_iff_not] at hc0
  obtain ⟨⟨⟨⟨⟨⟨⟨n1, n2⟩, m1⟩, m2⟩, ⟨⟨⟨m3, m4⟩, m5⟩, m6⟩⟩, m7⟩, m8⟩, hcont⟩ := hc0
  rw [n1] at p1
  rw [n2] at p2
  have d1 : decide (src < 1) = false := decide_eq_false (by omega)
  have d2 : decide (src > 7) = false := decide_eq_false (by omega)
  have d3 : decide (mach < 0) = false := decide_eq_false (by omega)
  have d4 : decide (mach > 1099511627776) = false := decide_eq_false (by omega)
  have d5 : decide (day < 0) = false := decide_eq_false (by omega)
  have d6 : decide (day > 40000) = false := decide_eq_false (by omega)
  have d7 : decide (conf < 1) = false := decide_eq_false (by omega)
  have d8 : decide (conf > 100) = false := decide_eq_false (by omega)
  simp only [Qa.v, Qa.cells]
  have n0 : ((0 : Int) == 0) = true := by decide
  have E : ∀ n : Int, kind ≠ n → (kind == n) = false := fun n h => by simpa using h
  rw [VU] at hcont
  dsimp only at hcont
  simp only [afK] at hcont
  by_cases k1 : kind = 1
  · subst k1
    simp only [true_or, if_true, Bool.and_eq_true, beq_iff_eq] at hcont
    obtain ⟨⟨q1, rfl⟩, rfl⟩ := hcont
    rw [q1] at p4
    (have zx := And.intro d1 (And.intro d2 (And.intro d3 (And.intro d4 (And.intro d5 (And.intro d6 (And.intro d7 (And.intro d8 n0)))))))); exact zg
  by_cases k8 : kind = 8
  · subst k8
    simp only [or_true, if_true, Bool.and_eq_true, beq_iff_eq] at hcont
    obtain ⟨⟨q1, rfl⟩, rfl⟩ := hcont
    rw [q1] at p4
    (have zx := And.intro d1 (And.intro d2 (And.intro d3 (And.intro d4 (And.intro d5 (And.intro d6 (And.intro d7 (And.intro d8 n0)))))))); exact zg
  rw [if_neg (by simp [k1, k8])] at hcont
  by_cases k2 : kind = 2
  · subst k2
    simp only [if_true, Bool.and_eq_true, beq_iff_eq, decide_eq_true_eq] at hcont
    obtain ⟨⟨⟨⟨rfl, rfl⟩, rfl⟩, q1⟩, q2⟩ := hcont
    have g1 : decide (num ≥ 0) = true := decide_eq_true q1
    have g2 : decide (num ≤ 65535) = true := decide_eq_true q2
    (have zx := And.intro d1 (And.intro d2 (And.intro d3 (And.intro d4 (And.intro d5 (And.intro d6 (And.intro d7 (And.intro d8 (And.intro n0 (And.intro g1 g2)))))))))); exact zg
  rw [if_neg k2] at hcont
  by_cases k3 : kind = 3
  · subst k3
    simp only [if_true, Bool.and_eq_true, beq_iff_eq, decide_eq_true_eq] at hcont
    obtain ⟨⟨⟨⟨q0, q3⟩, q1⟩, q2⟩, rfl⟩ := hcont
    have hu : aoi alg bits 2 = true := by rw [aoi, q3, decide_eq_true q0]; rfl
    rw [hu] at p5
    have g1 : decide (num ≥ 0) = true := decide_eq_true q1
    have g2 : decide (num ≤ 2147483648) = true := decide_eq_true q2
    (have zx := And.intro d1 (And.intro d2 (And.intro d3 (And.intro d4 (And.intro d5 (And.intro d6 (And.intro d7 (And.intro d8 (And.intro n0 (And.intro g1 g2)))))))))); exact zg
  rw [if_neg k3] at hcont
  by_cases k4 : kind = 4
  · subst k4
    simp only [true_or, if_true, Bool.and_eq_true, beq_iff_eq, decide_eq_true_eq] at hcont
    obtain ⟨⟨⟨⟨rfl, rfl⟩, rfl⟩, q1⟩, q2⟩ := hcont
    have g1 : decide (num ≥ 1) = true := decide_eq_true q1
    have g2 : decide (num ≤ 4) = true := decide_eq_true q2
    (have zx := And.intro d1 (And.intro d2 (And.intro d3 (And.intro d4 (And.intro d5 (And.intro d6 (And.intro d7 (And.intro d8 (And.intro n0 (And.intro g1 g2)))))))))); exact zg
  by_cases k5 : kind = 5
  · subst k5
    simp only [or_true, if_true, Bool.and_eq_true, beq_iff_eq, decide_eq_true_eq] at hcont
    obtain ⟨⟨⟨⟨rfl, rfl⟩, rfl⟩, q1⟩, q2⟩ := hcont
    have g1 : decide (num ≥ 1) = true := decide_eq_true q1
    have g2 : decide (num ≤ 4) = true := decide_eq_true q2
    (have zx := And.intro d1 (And.intro d2 (And.intro d3 (And.intro d4 (And.intro d5 (And.intro d6 (And.intro d7 (And.intro d8 (And.intro n0 (And.intro g1 g2)))))))))); exact zg
  rw [if_neg (by simp [k4, k5])] at hcont
  by_cases k6 : kind = 6
  · subst k6
    simp only [if_true, Bool.and_eq_true, beq_iff_eq, decide_eq_true_eq] at hcont
    obtain ⟨⟨⟨⟨rfl, rfl⟩, rfl⟩, q1⟩, q2⟩ := hcont
    have g1 : decide (num ≥ 0) = true := decide_eq_true q1
    have g2 : decide (num ≤ 2147483648) = true := decide_eq_true q2
    (have zx := And.intro d1 (And.intro d2 (And.intro d3 (And.intro d4 (And.intro d5 (And.intro d6 (And.intro d7 (And.intro d8 (And.intro n0 (And.intro g1 g2)))))))))); exact zg
  rw [if_neg k6] at hcont
  by_cases k7 : kind = 7
  · subst k7
    simp only [if_true, Bool.and_eq_true, beq_iff_eq, decide_eq_true_eq] at hcont
    obtain ⟨⟨⟨rfl, rfl⟩, rfl⟩, q1⟩ := hcont
    rw [q1] at p3
    (have zx := And.intro d1 (And.intro d2 (And.intro d3 (And.intro d4 (And.intro d5 (And.intro d6 (And.intro d7 (And.intro d8 n0)))))))); exact zg
  rw [if_neg k7] at hcont
  cases hcont
def adS (l : List Qa) (x : Qa) : Nat → Nat
  | 0 => 0
  | k + 1 => match l[k]? with
    | some y => if acg y x > 0 then adS l x k else k + 1
    | none => k + 1
theorem ahj (l : List Qa) (x : Qa) : ∀ k, adS l x k ≤ k
  | 0 => Nat.le_refl _
  | k + 1 => by
    rw [adS]
    split
    · split
      · exact Nat.le_succ_of_le (ahj l x k)
      · exact Nat.le_refl _
    · exact Nat.le_refl _
def akl (l : List Qa) (x : Qa) : Bool := match adS l x l.length with
  | 0 => false
  | k + 1 => match l[k]? with
    | some y => acg y x == 0
    | none => false
def abS (l : List Qa) (x : Qa) : List Qa := l.take (adS l x l.length) ++ x :: l.drop (adS l x l.length)
theorem anu (l : List Qa) (n : Nat) : ltO (n + 1) fun k => [Ob.buf true 11 (l.map Qa.v)][k]? := fun a x h => by
  match a, h with
  | 0, h => cases h; exact ⟨Nat.succ_pos _, trivial⟩
  | a + 1, h => simp at h
theorem akJ (l : List Qa) (x : Qa) (k : Nat) : (l.take k).map Qa.v ++ [x.v] ++ (l.drop k).map Qa.v = (l.take k ++ x :: l.drop k).map Qa.v := by simp
def U7 := qd Proofs.Tryz.f50 [zhn 13, zhn 12, zhn 12]
def yJ (Γ : Env) (f : Nat) : Prop := ((∀ (l : List Qa) (x : Qa), l.length < 2 ^ 30 → akl l x = true → EvX Γ f [x.v] 11 (l.map Qa.v)) ∧ (∀ (l : List Qa) (x : Qa), l.length < 2 ^ 30 → akl l x = false → EvW Γ f [.sl 11 (l.map Qa.v), x.v] 11 ((abS l x).map Qa.v)))
theorem agd {Γ : Env} {f : Nat} (h : Has Γ.P f 47 U7.1.1.ac U7.1.2) (z0 : qm Γ 84) : yJ Γ f := by
  refine ⟨fun l x hl hdp => ?_, fun l x hl hdp => ?_⟩
  · refine xZ h (by simp) fun C hC hm => ?_
    subst hC
    simp only [U7, qd, DC.ac]
    have hal : (l.map Qa.v).length = l.length := List.length_map _
    have ht : List.take (l.map Qa.v).length (l.map Qa.v) = l.map Qa.v := List.take_length
    simp only [Qa.v, Qa.cells]
    repeat' (first | (refine zsk ?_; intro K' hK) | (refine zrg ?_; intro K' hK) | refine zsp ?_ | (refine zsc ?_ ?_ <;> intro hc <;> first | exact znh | try simp only [znz] at hc) | simp (maxSteps := 1000000) only [go_sem, Nat.reduceAdd, Nat.reduceMul, Nat.reduceEqDiff, Nat.reduceLeDiff, Nat.reduceLT, Nat.reduceSub, Int.reduceEq, Int.reduceBEq, Int.reduceLT, Int.reduceLE, Int.reduceAdd, Int.reduceToNat, reduceIte, reduceCtorEq, hal] | (refine hK _ ?_; clear hK K') | apply zan | ((first | apply Qv | apply QQ); (focus first | exact (z0 _ _).b)) | exact zsq | fail)
    refine Jz (ι := Nat) (fun k => k ≤ l.length ∧ adS l x k = adS l x l.length) (fun k => [(5, V.int k)]) (fun k => k) l.length (by omega) ⟨Nat.le_refl _, rfl⟩ (by refine aht (by decide) ?_ (aht (by decide) ?_ (anu l 5000)) <;> simp [Ob.lt, ltL, V.lt, V.str, V.int]) zlt zet fun k hk K' hL => ?_
    obtain ⟨hk, hinv⟩ := hk
    simp only [ovT, Xs, Nat.reduceEqDiff, reduceIte]
    rcases k with _ | k
    · have e1 : decide (((0 : Nat) : Int) > 0) = false := by decide
      rw [adS] at hinv
      rw [akl, ← hinv] at hdp
      cases hdp
    · have e1 : decide (((k + 1 : Nat) : Int) > 0) = true := decide_eq_true (by omega)
      obtain ⟨y, hy⟩ : ∃ y, l[k]? = some y := ⟨_, List.getElem?_eq_getElem (by omega)⟩
      have vy : (l.map Qa.v)[k]? = some y.v := by rw [List.getElem?_map, hy]; rfl
      have po := (z0 y x).b
      have hwk : IntKind.i64.wrap (((k + 1 : Nat) : Int) - 1) = (k : Int) := by rw [QE (by omega) (by omega)]; omega
      simp only [Qa.v, Qa.cells] at vy po
      rw [adS, hy] at hinv
      dsimp only at hinv
      rcases h1 : decide (acg y x > 0) with _ | _
      · rw [if_neg (by simp at h1; omega)] at hinv
        rw [akl, ← hinv] at hdp
        dsimp only at hdp
        rw [hy] at hdp
        dsimp only at hdp
        repeat' (first | (refine zsk ?_; intro K' hK) | (refine zrg ?_; intro K' hK) | refine zsp ?_ | (refine zsc ?_ ?_ <;> intro hc <;> first | exact znh | try simp only [znz] at hc) | simp (maxSteps := 1000000) only [go_sem, Nat.reduceAdd, Nat.reduceMul, Nat.reduceEqDiff, Nat.reduceLeDiff, Nat.reduceLT, Nat.reduceSub, Int.reduceEq, Int.reduceBEq, Int.reduceLT, Int.reduceLE, Int.reduceAdd, Int.reduceToNat, reduceIte, reduceCtorEq, e1, hal, hwk, vy, h1, hdp, ht, Int.toNat_natCast] | (refine hK _ ?_; clear hK K') | apply zan | ((first | apply Qv | apply QQ); (focus first | exact po | exact (z0 _ _).b)) | exact zsq | fail)
        all_goals first | (rw [← hal]; refine alO _ rfl rfl rfl ?_; first | rfl | (simp; done)) | trace_state
      · rw [if_pos (by simpa using h1)] at hinv
        repeat' (first | (refine zsk ?_; intro K' hK) | (refine zrg ?_; intro K' hK) | refine zsp ?_ | (refine zsc ?_ ?_ <;> intro hc <;> first | exact znh | try simp only [znz] at hc) | simp (maxSteps := 1000000) only [go_sem, Nat.reduceAdd, Nat.reduceMul, Nat.reduceEqDiff, Nat.reduceLeDiff, Nat.reduceLT, Nat.reduceSub, Int.reduceEq, Int.reduceBEq, Int.reduceLT, Int.reduceLE, Int.reduceAdd, Int.reduceToNat, reduceIte, reduceCtorEq, e1, hal, hwk, vy, h1, Int.toNat_natCast] | (refine hK _ ?_; clear hK K') | apply zan | ((first | apply Qv | apply QQ); (focus first | exact po | exact (z0 _ _).b)) | exact zsq | fail)
        all_goals first | exact hL _ k zet ⟨by omega, hinv⟩ (by omega) zoe | trace_state
  · refine VC h (by simp) (by intro z hx; obtain ⟨y, _, rfl⟩ := List.mem_map.1 hx; simp only [Qa.v, Qa.cells, V.noSl, yc, and_self]) fun C hC hm => ?_
    subst hC
    simp only [U7, qd, DC.ac]
    have hal : (l.map Qa.v).length = l.length := List.length_map _
    have ht : List.take (l.map Qa.v).length (l.map Qa.v) = l.map Qa.v := List.take_length
    simp only [Qa.v, Qa.cells]
    repeat' (first | (refine zsk ?_; intro K' hK) | (refine zrg ?_; intro K' hK) | refine zsp ?_ | (refine zsc ?_ ?_ <;> intro hc <;> first | exact znh | try simp only [znz] at hc) | simp (maxSteps := 1000000) only [go_sem, Nat.reduceAdd, Nat.reduceMul, Nat.reduceEqDiff, Nat.reduceLeDiff, Nat.reduceLT, Nat.reduceSub, Int.reduceEq, Int.reduceBEq, Int.reduceLT, Int.reduceLE, Int.reduceAdd, Int.reduceToNat, reduceIte, reduceCtorEq, hal] | (refine hK _ ?_; clear hK K') | apply zan | ((first | apply Qv | apply QQ); (focus first | exact (z0 _ _).b)) | exact zsq | fail)
    refine Jz (ι := Nat) (fun k => k ≤ l.length ∧ adS l x k = adS l x l.length) (fun k => [(5, V.int k)]) (fun k => k) l.length (by omega) ⟨Nat.le_refl _, rfl⟩ zol zlt zet fun k hk K' hL => ?_
    obtain ⟨hk, hinv⟩ := hk
    simp only [ovT, Xs, Nat.reduceEqDiff, reduceIte]
    rcases k with _ | k
    · have e1 : decide (((0 : Nat) : Int) > 0) = false := by decide
      rw [adS] at hinv
      rw [akl, ← hinv] at hdp
      have hj0 : List.take 0 (l.map Qa.v) = [] := rfl
      repeat' (first | (refine zsk ?_; intro K' hK) | (refine zrg ?_; intro K' hK) | refine zsp ?_ | (refine zsc ?_ ?_ <;> intro hc <;> first | exact znh | try simp only [znz] at hc) | simp (maxSteps := 1000000) only [go_sem, Nat.reduceAdd, Nat.reduceMul, Nat.reduceEqDiff, Nat.reduceLeDiff, Nat.reduceLT, Nat.reduceSub, Int.reduceEq, Int.reduceBEq, Int.reduceLT, Int.reduceLE, Int.reduceAdd, Int.reduceToNat, reduceIte, reduceCtorEq, e1, hal, Int.toNat_natCast] | (refine hK _ ?_; clear hK K') | apply zan | ((first | apply Qv | apply QQ); (focus first | exact (z0 _ _).b)) | exact zsq | fail)
      all_goals first | (intro z hz; obtain ⟨w, _, rfl⟩ := List.mem_map.1 (List.mem_of_mem_take hz); rfl) | (intro z hz; obtain ⟨w, _, rfl⟩ := List.mem_map.1 (List.mem_of_mem_drop hz); rfl) | (intro z hz; obtain ⟨w, _, rfl⟩ := List.mem_map.1 (List.mem_of_mem_drop (List.mem_of_mem_take hz)); rfl) | (intro z hz; obtain ⟨w, _, rfl⟩ := List.mem_map.1 (List.mem_of_mem_take (List.mem_of_mem_drop hz)); rfl) | (simp only [List.length_append, List.length_take, List.length_drop, List.length_map, List.length_cons, List.length_nil]; omega) | (refine yr (xs := (abS l x).map Qa.v) _ _ rfl ?_ ?_ <;> first | (rw [abS, ← hinv]; simp [afk, Qa.v, Qa.cells, List.map_take, List.map_drop]; done) | (rw [abS, ← hinv]; simp [Qa.v, Qa.cells]; omega) | (rw [abS, ← hinv, ← akJ]; simp only [upd_self, Nat.sub_zero, List.take_zero, List.nil_append, List.drop_zero, List.map_nil, List.map_take, List.map_drop]; rw [List.take_of_length_le (by simp)]; simp [upd, Qa.v, Qa.cells, List.map_take, List.map_drop]; done) | (rw [abS, ← hinv]; simp [upd, Qa.v, Qa.cells, List.map_take, List.map_drop, List.take_of_length_le, afk]; done) | trace_state) | trace_state
    · have e1 : decide (((k + 1 : Nat) : Int) > 0) = true := decide_eq_true (by omega)
      obtain ⟨y, hy⟩ : ∃ y, l[k]? = some y := ⟨_, List.getElem?_eq_getElem (by omega)⟩
      have vy : (l.map Qa.v)[k]? = some y.v := by rw [List.getElem?_map, hy]; rfl
      have po := (z0 y x).b
      have hwk : IntKind.i64.wrap (((k + 1 : Nat) : Int) - 1) = (k : Int) := by rw [QE (by omega) (by omega)]; omega
      simp only [Qa.v, Qa.cells] at vy po
      rw [adS, hy] at hinv
      dsimp only at hinv
      rcases h1 : decide (acg y x > 0) with _ | _
      · rw [if_neg (by simp at h1; omega)] at hinv
        rw [akl, ← hinv] at hdp
        dsimp only at hdp
        rw [hy] at hdp
        dsimp only at hdp
        repeat' (first | (refine zsk ?_; intro K' hK) | (refine zrg ?_; intro K' hK) | refine zsp ?_ | (refine zsc ?_ ?_ <;> intro hc <;> first | exact znh | try simp only [znz] at hc) | simp (maxSteps := 1000000) only [go_sem, Nat.reduceAdd, Nat.reduceMul, Nat.reduceEqDiff, Nat.reduceLeDiff, Nat.reduceLT, Nat.reduceSub, Int.reduceEq, Int.reduceBEq, Int.reduceLT, Int.reduceLE, Int.reduceAdd, Int.reduceToNat, reduceIte, reduceCtorEq, e1, hal, hwk, vy, h1, hdp, Int.toNat_natCast] | (refine hK _ ?_; clear hK K') | apply zan | ((first | apply Qv | apply QQ); (focus first | exact po | exact (z0 _ _).b)) | exact zsq | fail)
        all_goals first | (intro z hz; obtain ⟨w, _, rfl⟩ := List.mem_map.1 (List.mem_of_mem_take hz); rfl) | (intro z hz; obtain ⟨w, _, rfl⟩ := List.mem_map.1 (List.mem_of_mem_drop hz); rfl) | (intro z hz; obtain ⟨w, _, rfl⟩ := List.mem_map.1 (List.mem_of_mem_drop (List.mem_of_mem_take hz)); rfl) | (intro z hz; obtain ⟨w, _, rfl⟩ := List.mem_map.1 (List.mem_of_mem_take (List.mem_of_mem_drop hz)); rfl) | (simp only [List.length_append, List.length_take, List.length_drop, List.length_map, List.length_cons, List.length_nil]; omega) | (refine yr (xs := (abS l x).map Qa.v) _ _ rfl ?_ ?_ <;> first | (rw [abS, ← hinv]; simp [afk, Qa.v, Qa.cells, List.map_take, List.map_drop]; done) | (rw [abS, ← hinv]; simp [Qa.v, Qa.cells]; omega) | (rw [abS, ← hinv, ← akJ]; simp only [upd_self, Nat.sub_zero, List.take_zero, List.nil_append, List.drop_zero, List.map_nil, List.map_take, List.map_drop]; rw [List.take_of_length_le (by simp)]; simp [upd, Qa.v, Qa.cells, List.map_take, List.map_drop]; done) | (rw [abS, ← hinv]; simp [upd, Qa.v, Qa.cells, List.map_take, List.map_drop, List.take_of_length_le, afk]; done) | trace_state) | trace_state
      · rw [if_pos (by simpa using h1)] at hinv
        repeat' (first | (refine zsk ?_; intro K' hK) | (refine zrg ?_; intro K' hK) | refine zsp ?_ | (refine zsc ?_ ?_ <;> intro hc <;> first | exact znh | try simp only [znz] at hc) | simp (maxSteps := 1000000) only [go_sem, Nat.reduceAdd, Nat.reduceMul, Nat.reduceEqDiff, Nat.reduceLeDiff, Nat.reduceLT, Nat.reduceSub, Int.reduceEq, Int.reduceBEq, Int.reduceLT, Int.reduceLE, Int.reduceAdd, Int.reduceToNat, reduceIte, reduceCtorEq, e1, hal, hwk, vy, h1, Int.toNat_natCast] | (refine hK _ ?_; clear hK K') | apply zan | ((first | apply Qv | apply QQ); (focus first | exact po | exact (z0 _ _).b)) | exact zsq | fail)
        all_goals first | exact hL _ k zet ⟨by omega, hinv⟩ (by omega) zoe | trace_state
end Av
end
section
namespace Av
open Go
section
variable {C : Ctx} {nt : Nat} {s : St} {K : St → Prop} {E : Nat → St → Prop} {R : St → Prop}
end
end Av
end
section
namespace Av
open Go
structure EvE (Γ : Env) (f : FuncId) (args : List V) (sz : Nat) (xs : List V) : Prop where
  ev : Ev Γ f args [] (.tup [.hd 0 0 xs.length, V.int 0]) [.buf true sz xs]
  ns : ∀ x ∈ xs, x.noSl
theorem EvE.c {Γ : Env} {f : FuncId} {args xs : List V} {sz : Nat} (h : EvE Γ f args sz xs) : EvC Γ f args (.tup [.sl sz xs, V.int 0]) :=
  ⟨h.ev.shut (br := []) (B := none) (by simp [conv, Jh, okB]) trivial (by simp) rfl, by simp only [V.closed, Qc, and_self]⟩
section
variable {Γ : Env} {b : Nat} {r : List AO} {s : St} {d : Option Nat} {f : FuncId} {acts args xs cs cs2 : List V} {sz : Nat} {K : St → Prop} {okf : Option (List Nat) → Prop} {a : Nat}
theorem aqw (h : EvE Γ f args sz xs) (hc : okf none)
    (hk : VA Γ (b + KK) r { t := (s.put d (.tup [.hd b 0 xs.length, V.int 0])).t, o := upd s.o b (some (.buf true sz xs)), n := s.n } K) : agJ Γ b r s d f acts args okf K := by
  rintro rfl rfl
  refine Ya ⟨_, _, _, _, [], none, h.ev, Jn _ _ _ hc, trivial, List.nodup_nil, fun x hx => by simp at hx, by simp, by simp [KK], fun _ => ⟨by simp only [V.noSl, yc, and_self], fun x hx => ?_⟩, ?_⟩
  · simp only [List.mem_singleton] at hx; subst hx; exact h.ns
  · simp only [Yl, Yk, Ob.ren, V.ren, US, sig]
    exact hk
end
theorem ahR {Γ : Env} {f : FuncId} {nt : Nat} {ac : AC} {rs : List Vz} (hb : Has Γ.P f nt ac rs) {args xs : List V} {sz : Nat} (ha : args.length ≤ nt) (hn : ∀ x ∈ xs, x.noSl)
    (h : ∀ C : Ctx, C.env = Γ → C.m = 0 → AWp C nt ac (Xx args []) (wo 0 rs (.tup [.hd 0 0 xs.length, V.int 0]) [.buf true sz xs]) (fun _ _ => False) (wo 0 rs (.tup [.hd 0 0 xs.length, V.int 0]) [.buf true sz xs])) : EvE Γ f args sz xs :=
  ⟨XH hb ha h, hn⟩
theorem aqj {rs : List Vz} {s : St} {xs : List V} {sz : Nat} (a n : Nat) (h : abs s rs = some [.hd a 0 n, V.int 0]) (hn : n = xs.length) (ho : s.o a = some (.buf true sz xs)) : wo 0 rs (.tup [.hd 0 0 xs.length, V.int 0]) [.buf true sz xs] s := by
  subst hn
  exact Uu rs _ _ h ⟨[a], none, by simp [afk, conv, Jh], ⟨⟨_, ho, fun h => h, rfl, rfl⟩, trivial⟩, by simp, rfl⟩
structure arK (Γ : Env) (f : FuncId) (args cs : List V) (sz : Nat) (xs cs2 : List V) : Prop where
  ev : Ev Γ f (.ptr 0 0 :: args) [.box true cs] (.hd 1 0 xs.length) [.box true cs2, .buf true sz xs]
  c1 : Qc cs
  c2 : Qc cs2
  ca : Qc args
theorem arK.d {Γ : Env} {f : FuncId} {args cs : List V} {sz : Nat} {xs cs2 : List V} (h : arK Γ f args cs sz xs cs2) : EvD Γ f args cs (.sl sz xs) cs2 := by
  refine ⟨h.ev.shut (br := [0]) (B := none) ?_ ⟨⟨_, rfl, fun h => h, Q4 _ _ _ _ h.c2⟩, trivial⟩ (by simp) rfl, ?_, h.c1, h.c2⟩
  · simp [conv, Jh, okB]
  · simp only [V.closed, Qc, and_self]
section
variable {Γ : Env} {b : Nat} {r : List AO} {s : St} {d : Option Nat} {f : FuncId} {args acts : List V} {cs cs2 xs : List V} {sz : Nat} {K : St → Prop} {okf : Option (List Nat) → Prop} {a : Nat}
end
end Av
end
noncomputable section
set_option maxRecDepth 10000
set_option maxHeartbeats 4000000
namespace Av
open Go
attribute [local irreducible] AWp VA K4 jR awS awC aa9 awQ abD QZ V9 aay awR Ug awB okR jL ris
def wx (out : List Qa) (x : Qa) : List Qa := if akl out x = true then out else abS out x
def JN (l : List Qa) : List Qa := l.foldl wx []
theorem aiE (l : List Qa) (x : Qa) : (abS l x).length = l.length + 1 := by
  have := ahj l x l.length
  simp [abS]; omega
theorem afw (l : List Qa) (x : Qa) : (wx l x).length ≤ l.length + 1 := by
  unfold wx; split
  · omega
  · rw [aiE]; exact Nat.le_refl _
theorem af8 : ∀ (l out : List Qa), (l.foldl wx out).length ≤ out.length + l.length
  | [], out => by simp
  | x :: r, out => by
    have h1 := af8 r (wx out x)
    have h2 := afw out x
    simp only [List.foldl_cons, List.length_cons]; omega
theorem acj (l : List Qa) : (JN l).length ≤ l.length := by simpa [JN] using af8 l []
theorem ajH {l : List Qa} {k : Nat} {x : Qa} (h : l[k]? = some x) : JN (l.take (k + 1)) = wx (JN (l.take k)) x := by
  rw [JN, JN, List.take_add_one, h, Option.toList_some, List.foldl_append]; rfl
def noS (l out : List Qa) (k : Nat) : St := JY [(0, .sl 11 (l.map Qa.v)), (6, .hd 0 0 out.length), (7, V.int k)] [(0, .buf true 11 (out.map Qa.v))] 1
def KI := qd Proofs.Tryz.f27 []
def jA (Γ : Env) (f : Nat) : Prop := (∀ (l : List Qa) (hl : l.length ≤ 400) (hz : ∀ x ∈ l, x.Sz) (hq : ∀ x ∈ l, Yg x = true), EvE Γ f [.sl 11 (l.map Qa.v)] 11 ((JN l).map Qa.v))
attribute [local go_sem] JY in
theorem aeN {Γ : Env} {f : Nat} (h : Has Γ.P f 38 KI.1.1.ac KI.1.2) (z0 : qn Γ 49) (z1 : yJ Γ 50) : jA Γ f := by
  intro l hl hz hq
  refine ahR h (by simp) (fun x hx => by obtain ⟨y, _, rfl⟩ := List.mem_map.1 hx; simp only [Qa.v, Qa.cells, V.noSl, yc, and_self]) fun C hC hm => ?_
  subst hC; simp only [KI, qd, DC.ac]
  have hal : (l.map Qa.v).length = l.length := List.length_map _
  refine zgo ?_; repeat' first | exact zt | apply zan | intro hc
  refine Jz (ι := Nat) (fun k => k ≤ l.length) (fun k => [(4, V.int k)]) (fun k => l.length - k) 0 (by omega) (Nat.zero_le _) zol zlt zet fun k hk K' hL => ?_
  simp only [ovT, Xs, Nat.reduceEqDiff, reduceIte]
  rcases hdr : l.drop k with _ | ⟨x, r⟩
  rotate_left
  · obtain ⟨hk', hget, hr⟩ := Qo hdr
    have hw := Qg (k := k) (by omega)
    have e1 : decide ((k : Int) < (l.length : Int)) = true := by simp; omega
    have vx : (l.map Qa.v)[k]? = some x.v := by rw [List.getElem?_map, hget]; rfl
    have hm := List.mem_of_getElem? hget
    have p1 := (z0 x (hz x hm) (hq x hm)).b
    have n0 : ((0 : Int) != 0) = false := by decide
    simp only [Qa.v, Qa.cells] at vx p1
    (have zx := And.intro e1 (And.intro hal (And.intro hw (And.intro vx n0)))); refine zgo ?_; repeat' first | exact zt | apply zan | intro hc
    all_goals first | exact hL _ (k + 1) zet (by omega) (by omega) zoe | trace_state
  have hkl := QB hdr
  have e1 : decide ((k : Int) < (l.length : Int)) = false := by simp; omega
  clear hL
  (have zx := And.intro e1 hal); refine zgo ?_; repeat' first | exact zt | apply zan | intro hc
  refine Qp (ι := Nat) (fun k => k ≤ l.length) (fun k => noS l (JN (l.take k)) k) (fun k => l.length - k) 0 (Nat.zero_le _) (Qd [(0, 7000)]) (Qh [(0, 7000)] (by simp only [go_sem, zwl, Nat.reduceAdd, Nat.reduceMul, Nat.reduceEqDiff, Nat.reduceLT, Int.reduceToNat, reduceIte, reduceCtorEq, noS, JN, List.take_zero, List.foldl_nil, List.length_nil] <;> exact zcc) (by simp only [go_sem, zwl, Nat.reduceAdd, Nat.reduceMul, Nat.reduceEqDiff, Nat.reduceLT, Int.reduceToNat, reduceIte, reduceCtorEq, noS, JN, List.take_zero, List.foldl_nil, List.map_nil] <;> exact zcc) (by simp [noS, Qd]) (by simp [noS]; omega) (by omega)) fun k hk K' hL => ?_
  have hnk := acj (l.take k)
  rw [List.length_take, Nat.min_eq_left hk] at hnk
  rcases hdr : l.drop k with _ | ⟨x, r⟩
  · have hkl := QB hdr
    have e1 : decide ((k : Int) < (l.length : Int)) = false := by simp; omega
    obtain rfl : k = l.length := by omega
    rw [List.take_length] at hnk ⊢
    simp only [noS]
    have htl : List.take (JN l).length ((JN l).map Qa.v) = (JN l).map Qa.v := List.take_of_length_le (by simp)
    have hmm : (JN l).length = ((JN l).map Qa.v).length := (List.length_map _).symm
    (have zx := And.intro e1 (And.intro hal htl)); refine zgo ?_; repeat' first | exact zt | apply zan | intro hc
    all_goals first | (refine aqj (xs := (JN l).map Qa.v) _ _ rfl ?_ ?_ <;> first | exact hmm | exact hmm.symm | rfl | (simp; done)) | trace_state
  obtain ⟨hk', hget, hr⟩ := Qo hdr
  have hw := Qg (k := k) (by omega)
  have e1 : decide ((k : Int) < (l.length : Int)) = true := by simp; omega
  have vx : (l.map Qa.v)[k]? = some x.v := by rw [List.getElem?_map, hget]; rfl
  have hsu := ajH hget
  have hsl := afw (JN (l.take k)) x
  simp only [noS]
  rcases hd : akl (JN (l.take k)) x with _ | _
  · have gW := z1.2 (JN (l.take k)) x (by omega) hd
    have hst : JN (l.take (k + 1)) = abS (JN (l.take k)) x := by rw [hsu, wx, hd]; rfl
    have hil := aiE (JN (l.take k)) x
    have e2 : decide ((((abS (JN (l.take k)) x).length : Nat) : Int) > 400) = false := by simp; omega
    have hml : ((abS (JN (l.take k)) x).map Qa.v).length = (abS (JN (l.take k)) x).length := List.length_map _
    have hol : ((JN (l.take k)).map Qa.v).length = (JN (l.take k)).length := List.length_map _
    have htl : List.take (JN (l.take k)).length ((JN (l.take k)).map Qa.v) = (JN (l.take k)).map Qa.v := List.take_of_length_le (by simp)
    generalize abS (JN (l.take k)) x = ins at *
    generalize JN (l.take k) = out at *
    simp only [Qa.v, Qa.cells] at vx gW
    (have zx := And.intro e1 (And.intro e2 (And.intro hal (And.intro hw (And.intro vx (And.intro hml (And.intro hol htl))))))); refine zgo ?_; repeat' first | exact zt | apply zan | intro hc
    all_goals first | exact hL _ (k + 1) (Qd [(0, 9001)]) (by omega) (by omega) (Qh [(0, 9001)] (by simp only [go_sem, zwl, Nat.reduceAdd, Nat.reduceMul, Nat.reduceEqDiff, Nat.reduceLT, Int.reduceToNat, reduceIte, reduceCtorEq, noS, hst, hal] <;> exact zcc) (by simp only [go_sem, zwl, Nat.reduceAdd, Nat.reduceMul, Nat.reduceEqDiff, Nat.reduceLT, Int.reduceToNat, reduceIte, reduceCtorEq, noS, hst] <;> exact zcc) (by simp [noS, Qd]) (by simp [noS]; omega) (by omega)) | trace_state
  · have gX := z1.1 (JN (l.take k)) x (by omega) hd
    have hst : JN (l.take (k + 1)) = JN (l.take k) := by rw [hsu, wx, hd]; rfl
    have e2 : decide ((((JN (l.take k)).length : Nat) : Int) > 400) = false := by simp; omega
    have hol : ((JN (l.take k)).map Qa.v).length = (JN (l.take k)).length := List.length_map _
    generalize JN (l.take k) = out at *
    simp only [Qa.v, Qa.cells] at vx gX
    repeat' (first | (refine zsk ?_; intro K' hK) | refine zsp ?_ | (refine zsc ?_ ?_ <;> intro hc <;> first | exact znh | try simp only [znz] at hc) | simp (maxSteps := 1000000) only [go_sem, Nat.reduceAdd, Nat.reduceMul, Nat.reduceEqDiff, Nat.reduceLeDiff, Nat.reduceLT, Nat.reduceSub, Int.reduceEq, Int.reduceBEq, Int.reduceLT, Int.reduceLE, Int.reduceAdd, Int.reduceToNat, reduceIte, reduceCtorEq, JY, e1, e2, hal, hw, vx, hol, Int.toNat_natCast] | (refine hK _ ?_; clear hK K') | apply zan | (apply ajd; (focus exact rfl); (focus first | exact gX); (focus exact rfl); (focus exact rfl); (focus (first | exact rfl | (simp; done)))) | (apply Qv; (focus first | exact (z0 _ zsd zsd).b)) | exact zsq | fail)
    all_goals first | exact hL _ (k + 1) (Qd []) (by omega) (by omega) (Qh [] (by simp only [go_sem, zwl, Nat.reduceAdd, Nat.reduceMul, Nat.reduceEqDiff, Nat.reduceLT, Int.reduceToNat, reduceIte, reduceCtorEq, noS, hst, hal] <;> exact zcc) (by simp only [go_sem, zwl, Nat.reduceAdd, Nat.reduceMul, Nat.reduceEqDiff, Nat.reduceLT, Int.reduceToNat, reduceIte, reduceCtorEq, noS, hst] <;> exact zcc) (by simp [noS, Qd]) (by simp [noS]) (by omega)) | trace_state
end Av
end

/- The functions of the program that the law reaches: their contracts at this seat. -/
import Derived.Test.YtdjmgokhpganaaaDoorCat
import Derived.Test.YtdjmgokhpganaaaDoorLib
import Derived.KernelRfl
import Derived.Test.YtdjmgokhpganaaaDoorRow
import Derived.Test.YtdjmgokhpganaaaDoorCards
import Derived.Test.YtdjmgokhpganaaaDoorTie
set_option linter.unusedVariables false
set_option linter.unusedSimpArgs false
section
set_option linter.unusedSimpArgs false
set_option linter.unusedVariables false
set_option maxRecDepth 10000
set_option maxHeartbeats 4000000
namespace Av
open Go
attribute [local irreducible] AWp runO runP runG awS awC awCv awQ awRd awCallR awCvR awQR awR awRdR awB

/-! Strength grows with the size; CatalogGrows. -/
theorem modL_range (b : Int) : 0 ≤ modL b modT ∧ modL b modT ≤ 256 := by
  simp only [modT, modL]; repeat' split
  all_goals omega
theorem modL_mono (m n : Int) (h : m ≤ n) : modL m modT ≤ modL n modT := by
  simp only [modT, modL]; repeat' split
  all_goals omega
theorem wrap_small (x : Int) (h0 : 0 ≤ x) (h1 : x ≤ 100000) : IntKind.i64.wrap x = x := wrap_id (by omega) (by omega)

theorem crow_cases (a : Int) : crowAt a = row0 ∨ crowAt a ∈ rowsL := by
  unfold crowAt
  split
  · rename_i ha
    have hk : a.toNat < rowsL.length := by have : rowsL.length = 23 := rfl; omega
    rw [List.getD_eq_getElem?_getD, List.getElem?_eq_getElem hk, Option.getD_some]
    exact .inr (List.getElem_mem hk)
  · exact .inl rfl

theorem strengths_ok : ∀ r ∈ rowsL, ∀ x ∈ r.strengths, 0 ≤ x ∧ x ≤ 256 := by decide
theorem listed_ok : ∀ r ∈ rowsL, r.way = 3 → ∀ m ∈ r.sizes, ∀ n ∈ r.sizes, m ≤ n → r.strengths.getD (find0 m 0 r.sizes).toNat 0 ≤ r.strengths.getD (find0 n 0 r.sizes).toNat 0 := by decide

theorem crow_strengths (a : Int) : ∀ x ∈ (crowAt a).strengths, 0 ≤ x ∧ x ≤ 256 := by
  rcases crow_cases a with h | h
  · rw [h]; simp [row0]
  · exact strengths_ok _ h
theorem getD_range {l : List Int} (h : ∀ x ∈ l, 0 ≤ x ∧ x ≤ 256) (k : Nat) : 0 ≤ l.getD k 0 ∧ l.getD k 0 ≤ 256 := by
  rw [List.getD_eq_getElem?_getD]
  cases hk : l[k]? with
  | none => simp
  | some x => simpa using h x (List.mem_of_getElem? hk)
theorem headD_range {l : List Int} (h : ∀ x ∈ l, 0 ≤ x ∧ x ≤ 256) : 0 ≤ l.headD 0 ∧ l.headD 0 ≤ 256 := by
  cases l with
  | nil => simp
  | cons x r => simpa using h x (by simp)
theorem curve_range (b : Int) (h : find0 b 0 [160, 224, 256, 384, 521] ≥ 0) : b = 160 ∨ b = 224 ∨ b = 256 ∨ b = 384 ∨ b = 521 := by
  simpa using find0_mem _ _ _ h
theorem half_eq (b : Int) (h : b = 160 ∨ b = 224 ∨ b = 256 ∨ b = 384 ∨ b = 521) : IntKind.i64.wrap (b.tdiv 2) = b / 2 := by
  rcases h with rfl | rfl | rfl | rfl | rfl <;> rfl

theorem strength_range (a b : Int) : 0 ≤ strengthS a b ∧ strengthS a b ≤ 512 := by
  have h1 := crow_strengths a
  have h2 := headD_range h1
  have h3 := getD_range h1 (find0 b 0 (crowAt a).sizes).toNat
  have h4 := modL_range b
  simp only [strengthS, strengthR]
  split
  · omega
  · split
    · split <;> omega
    · split
      · split <;> omega
      · split
        · split
          · rename_i hf
            have := curve_range b hf
            rw [half_eq b this]; omega
          · omega
        · split
          · split <;> omega
          · omega

theorem strength_mono (a m n : Int) (h : m ≤ n) (h1 : strengthS a m ≠ 0) (h2 : strengthS a n ≠ 0) : strengthS a m ≤ strengthS a n := by
  have h4 := modL_mono m n h
  simp only [strengthS, strengthR] at h1 h2 ⊢
  by_cases c0 : decide (1 ≤ a ∧ a ≤ 22) = false
  · rw [if_pos c0] at h1; exact (h1 rfl).elim
  · rw [if_neg c0] at h1 h2 ⊢
    rw [if_neg c0]
    by_cases c1 : (crowAt a).way = 0
    · rw [if_pos c1] at h1 h2 ⊢
      rw [if_pos c1]
      by_cases e1 : m = 0
      · by_cases e2 : n = 0
        · rw [e1, e2]; exact Int.le_refl _
        · rw [if_neg e2] at h2; exact (h2 rfl).elim
      · rw [if_neg e1] at h1; exact (h1 rfl).elim
    · rw [if_neg c1] at h1 h2 ⊢
      rw [if_neg c1]
      by_cases c2 : (crowAt a).way = 1
      · rw [if_pos c2] at h1 h2 ⊢
        rw [if_pos c2]
        by_cases e1 : 512 ≤ m ∧ m ≤ 16384
        · by_cases e2 : 512 ≤ n ∧ n ≤ 16384
          · rw [if_pos e1, if_pos e2]; exact h4
          · rw [if_neg e2] at h2; exact (h2 rfl).elim
        · rw [if_neg e1] at h1; exact (h1 rfl).elim
      · rw [if_neg c2] at h1 h2 ⊢
        rw [if_neg c2]
        by_cases c3 : (crowAt a).way = 2
        · rw [if_pos c3] at h1 h2 ⊢
          rw [if_pos c3]
          by_cases e1 : find0 m 0 [160, 224, 256, 384, 521] ≥ 0
          · by_cases e2 : find0 n 0 [160, 224, 256, 384, 521] ≥ 0
            · rw [if_pos e1, if_pos e2, half_eq m (curve_range m e1), half_eq n (curve_range n e2)]; omega
            · rw [if_neg e2] at h2; exact (h2 rfl).elim
          · rw [if_neg e1] at h1; exact (h1 rfl).elim
        · rw [if_neg c3] at h1 h2 ⊢
          rw [if_neg c3]
          by_cases c4 : (crowAt a).way = 3
          · rw [if_pos c4] at h1 h2 ⊢
            rw [if_pos c4]
            by_cases e1 : find0 m 0 (crowAt a).sizes ≥ 0
            · by_cases e2 : find0 n 0 (crowAt a).sizes ≥ 0
              · rw [if_pos e1, if_pos e2]
                rcases crow_cases a with hr | hr
                · rw [hr] at c4; simp [row0] at c4
                · exact listed_ok _ hr c4 m (find0_mem _ _ _ e1) n (find0_mem _ _ _ e2) h
              · rw [if_neg e2] at h2; exact (h2 rfl).elim
            · rw [if_neg e1] at h1; exact (h1 rfl).elim
          · rw [if_neg c4] at h1; exact (h1 rfl).elim
theorem strength_in (a b : Int) (h : 0 < strengthS a b) : 1 ≤ a ∧ a ≤ 22 := by
  by_cases c0 : 1 ≤ a ∧ a ≤ 22
  · exact c0
  · rw [strengthS, strengthR, if_pos (by simp [c0])] at h; omega
theorem text_ne (a b : Int) (h : 0 < strengthS a b) : textS a b ≠ [] := by
  rw [textS, if_pos h]
  split
  · have hn : ∀ r ∈ rowsL.drop 1, r.name ≠ [] := by decide
    have ha := strength_in a b h
    have hl : rowsL.length = 23 := rfl
    have hk : a.toNat < rowsL.length := by omega
    rw [crowAt, if_pos ha, List.getD_eq_getElem?_getD, List.getElem?_eq_getElem hk, Option.getD_some]
    have hk' : a.toNat - 1 < (rowsL.drop 1).length := by simp; omega
    have := hn _ (List.getElem_mem hk')
    rw [List.getElem_drop] at this
    have e : 1 + (a.toNat - 1) = a.toNat := by omega
    simp only [e] at this
    exact this
  · simp
theorem text_nil (a b : Int) (h : ¬ 0 < strengthS a b) : textS a b = [] := by rw [textS, if_neg h]
theorem min_max (m n : Int) : (if n < m then n else m) ≤ (if m < n then n else m) := by split <;> split <;> omega

-- REGION cipherplanlaw02_CatalogGrows 0: 6 operations, 1 orders, L [], ok true
def o_cipherplanlaw02_CatalogGrows_0 (f_catalog_Strength : Nat) : List AO :=
  [⟨(some 32), .load true 2 (.t 10), none⟩,
    ⟨(some 33), .call f_catalog_Strength [(.t 32)], none⟩,
    ⟨(some 34), .load true 2 (.t 11), none⟩,
    ⟨(some 35), .call f_catalog_Strength [(.t 34)], none⟩,
    ⟨(some 12), .mov (.t 33), none⟩,
    ⟨(some 13), .mov (.t 35), none⟩]
def a_cipherplanlaw02_CatalogGrows_0 : List (List Nat) := [[], [0], [], [2, 1], [1, 3, 0, 1], [3, 4, 0, 1, 2, 3, 4]]
def t_cipherplanlaw02_CatalogGrows_0 : OT := .one 0 (.one 1 (.one 2 (.one 3 (.one 4 (.one 5 (.done))))))
def p_cipherplanlaw02_CatalogGrows_0 (f_catalog_Strength : Nat) : OP :=
  .one 0 false [] ⟨(some 32), .load true 2 (.t 10), none⟩
  (.one 1 false [] ⟨(some 33), .call f_catalog_Strength [(.t 32)], none⟩
  (.one 2 false [] ⟨(some 34), .load true 2 (.t 11), none⟩
  (.one 3 false [] ⟨(some 35), .call f_catalog_Strength [(.t 34)], none⟩
  (.one 4 false [1] ⟨(some 12), .mov (.t 33), none⟩
  (.one 5 false [3] ⟨(some 13), .mov (.t 35), none⟩
  (.done))))))
theorem k_cipherplanlaw02_CatalogGrows_0 (f_catalog_Strength : Nat) : okR (o_cipherplanlaw02_CatalogGrows_0 f_catalog_Strength) a_cipherplanlaw02_CatalogGrows_0 [] t_cipherplanlaw02_CatalogGrows_0 = true := by kernel_rfl
theorem q_cipherplanlaw02_CatalogGrows_0 (f_catalog_Strength : Nat) : plan (ris (o_cipherplanlaw02_CatalogGrows_0 f_catalog_Strength) a_cipherplanlaw02_CatalogGrows_0 []) t_cipherplanlaw02_CatalogGrows_0 = p_cipherplanlaw02_CatalogGrows_0 f_catalog_Strength := by kernel_rfl

def c_cipherplanlaw02_CatalogGrows (f_cipherplanmake_Mod f_catalog_Strength f_catalog_Valid f_catalog_Text f_cipherplanlaw02_awake : Nat) : AC :=
  seqK [0, 1, 2] (.reg [⟨(some 6), .mov (.c (V.bool false)), none⟩])
  (seqK [1, 2, 7] (.reg [⟨(some 14), .mov (.t 0), none⟩,
      ⟨(some 15), .convI .i64 (.t 14), none⟩,
      ⟨(some 16), .bin .rem (.t 15) (.c (V.int 22)), none⟩,
      ⟨(some 17), .bin .add (.c (V.int 1)) (.t 16), none⟩,
      ⟨(some 7), .mov (.t 17), none⟩])
   (seqK [7, 8, 9] (.reg [⟨(some 18), .mov (.t 1), none⟩,
       ⟨(some 19), .call f_cipherplanmake_Mod [(.t 18), (.c (V.int 16385))], none⟩,
       ⟨(some 20), .mov (.t 2), none⟩,
       ⟨(some 21), .call f_cipherplanmake_Mod [(.t 20), (.c (V.int 16385))], none⟩,
       ⟨(some 8), .mov (.t 19), none⟩,
       ⟨(some 9), .mov (.t 21), none⟩])
    (seqK [10, 11] (.reg [⟨(some 22), .mov (.t 7), none⟩,
        ⟨(some 23), .mov (.t 8), none⟩,
        ⟨(some 24), .mov (.t 9), none⟩,
        ⟨(some 25), .mm false [(.t 23), (.t 24)], none⟩,
        ⟨(some 26), .build [(.int .i64 0), (.int .i64 0)] [(0, 1, (.t 22)), (1, 1, (.t 25))], none⟩,
        ⟨(some 27), .mov (.t 7), none⟩,
        ⟨(some 28), .mov (.t 8), none⟩,
        ⟨(some 29), .mov (.t 9), none⟩,
        ⟨(some 30), .mm true [(.t 28), (.t 29)], none⟩,
        ⟨(some 31), .build [(.int .i64 0), (.int .i64 0)] [(0, 1, (.t 27)), (1, 1, (.t 30))], none⟩,
        ⟨(some 10), .alloc [.val (.int .i64 0), .val (.int .i64 0)], none⟩,
        ⟨(some 11), .alloc [.val (.int .i64 0), .val (.int .i64 0)], none⟩,
        ⟨none, .store 2 (.t 10) (.t 26), none⟩,
        ⟨none, .store 2 (.t 11) (.t 31), none⟩])
     (seqK [10, 12, 13] (regK [] t_cipherplanlaw02_CatalogGrows_0 (p_cipherplanlaw02_CatalogGrows_0 f_catalog_Strength) (o_cipherplanlaw02_CatalogGrows_0 f_catalog_Strength) a_cipherplanlaw02_CatalogGrows_0)
      (seqK [6] (.reg [⟨(some 36), .mov (.t 12), none⟩,
          ⟨(some 37), .bin .eql (.t 36) (.c (V.int 0)), none⟩,
          ⟨(some 38), .mov (.t 37), none⟩,
          ⟨(some 39), .mov (.t 13), (some (38, false))⟩,
          ⟨(some 40), .bin .eql (.t 39) (.c (V.int 0)), (some (38, false))⟩,
          ⟨(some 41), .pick (.t 38) (.c (V.bool true)) (.t 40), none⟩,
          ⟨(some 42), .mov (.t 41), none⟩,
          ⟨(some 43), .mov (.t 12), (some (42, false))⟩,
          ⟨(some 44), .mov (.t 13), (some (42, false))⟩,
          ⟨(some 45), .bin .leq (.t 43) (.t 44), (some (42, false))⟩,
          ⟨(some 46), .pick (.t 42) (.c (V.bool true)) (.t 45), none⟩,
          ⟨(some 47), .mov (.t 46), none⟩,
          ⟨(some 48), .mov (.t 12), (some (47, true))⟩,
          ⟨(some 49), .bin .geq (.t 48) (.c (V.int 0)), (some (47, true))⟩,
          ⟨(some 50), .pick (.t 47) (.t 49) (.c (V.bool false)), none⟩,
          ⟨(some 51), .mov (.t 50), none⟩,
          ⟨(some 52), .mov (.t 12), (some (51, true))⟩,
          ⟨(some 53), .bin .leq (.t 52) (.c (V.int 512)), (some (51, true))⟩,
          ⟨(some 54), .pick (.t 51) (.t 53) (.c (V.bool false)), none⟩,
          ⟨(some 55), .mov (.t 54), none⟩,
          ⟨(some 56), .load true 2 (.t 10), (some (55, true))⟩,
          ⟨(some 57), .call f_catalog_Valid [(.t 56)], (some (55, true))⟩,
          ⟨(some 58), .mov (.t 12), (some (55, true))⟩,
          ⟨(some 59), .bin .gtr (.t 58) (.c (V.int 0)), (some (55, true))⟩,
          ⟨(some 60), .eqb false (.t 57) (.t 59), (some (55, true))⟩,
          ⟨(some 61), .pick (.t 55) (.t 60) (.c (V.bool false)), none⟩,
          ⟨(some 62), .mov (.t 61), none⟩,
          ⟨(some 63), .load true 2 (.t 10), (some (62, true))⟩,
          ⟨(some 64), .call f_catalog_Text [(.t 63)], (some (62, true))⟩,
          ⟨(some 65), .bin .neq (.t 64) (.c (V.str [])), (some (62, true))⟩,
          ⟨(some 66), .mov (.t 12), (some (62, true))⟩,
          ⟨(some 67), .bin .gtr (.t 66) (.c (V.int 0)), (some (62, true))⟩,
          ⟨(some 68), .eqb false (.t 65) (.t 67), (some (62, true))⟩,
          ⟨(some 69), .pick (.t 62) (.t 68) (.c (V.bool false)), none⟩,
          ⟨(some 70), .mov (.t 69), none⟩,
          ⟨(some 71), .call f_cipherplanlaw02_awake [], (some (70, true))⟩,
          ⟨(some 72), .pick (.t 70) (.t 71) (.c (V.bool false)), none⟩,
          ⟨(some 6), .mov (.t 72), none⟩])
       (.ret))))))

def r_cipherplanlaw02_CatalogGrows : List ARes := [.tmp 6]
def CE_cipherplanlaw02_CatalogGrows (Γ : Env) (f : Nat) : Prop := ∀ (c a b : Int) (h0 : 0 ≤ c) (h1 : c ≤ 255), EvN Γ f [.sc (.int .u8 c), V.int a, V.int b] (V.bool true)
theorem ev_cipherplanlaw02_CatalogGrows {Γ : Env} {f f_cipherplanmake_Mod f_catalog_Strength f_catalog_Valid f_catalog_Text f_cipherplanlaw02_awake : Nat} (h : Has Γ.P f 73 (c_cipherplanlaw02_CatalogGrows f_cipherplanmake_Mod f_catalog_Strength f_catalog_Valid f_catalog_Text f_cipherplanlaw02_awake) r_cipherplanlaw02_CatalogGrows) (h_cipherplanmake_Mod : CE_cipherplanmake_Mod Γ f_cipherplanmake_Mod) (h_catalog_Strength : CE_catalog_Strength Γ f_catalog_Strength) (h_catalog_Valid : CE_catalog_Valid Γ f_catalog_Valid) (h_catalog_Text : CE_catalog_Text Γ f_catalog_Text) (h_cipherplanlaw02_awake : CE_cipherplanlaw02_awake Γ f_cipherplanlaw02_awake) : CE_cipherplanlaw02_CatalogGrows Γ f := by
  intro c a b h0 h1
  refine evN_of_body h (by simp) (by simp only [V.closed, closedL, V.noSl, noSlL, and_self, and_true, true_and]) (by simp only [V.closed, closedL, V.noSl, noSlL, and_self, and_true, true_and]) fun C hC hm => ?_
  subst hC
  unfold c_cipherplanlaw02_CatalogGrows
  have hmm := min_max (modV a 16385) (modV b 16385)
  generalize hM : (if modV b 16385 < modV a 16385 then modV b 16385 else modV a 16385) = M at hmm
  generalize hN : (if modV a 16385 < modV b 16385 then modV b 16385 else modV a 16385) = N at hmm
  generalize hX : IntKind.i64.wrap (1 + (IntKind.i64.wrap c).tmod 22) = X
  have hmono := strength_mono X M N hmm
  have hr := strength_range X M
  have ht := text_ne X M
  have hn := text_nil X M
  have b1 : decide (strengthS X M ≥ 0) = true := by simp; omega
  have b2 : decide (strengthS X M ≤ 512) = true := by simp; omega
  by_cases e3 : 0 < strengthS X M
  · have b0 : (strengthS X M == 0) = false := by simp; omega
    have b3 : decide (strengthS X M > 0) = true := by simpa using e3
    have b4 : (textS X M == []) = false := by simpa using ht e3
    by_cases e2 : strengthS X N = 0
    · have b5 : (strengthS X N == 0) = true := by simp [e2]
      repeat' (first
    | refine awp_seqR fun K' hK => ?_
    | refine awp_regR fun K' hK => ?_
    | refine awp_seqP 6 (fun _ => true) rfl (k_cipherplanlaw02_CatalogGrows_0 _) (q_cipherplanlaw02_CatalogGrows_0 _) fun K' hK => ?_
    | refine awp_regP 6 (fun _ => true) rfl (k_cipherplanlaw02_CatalogGrows_0 _) (q_cipherplanlaw02_CatalogGrows_0 _) fun K' hK => ?_
    | refine awp_seqK ?_
    | refine awp_skip ?_
    | refine awp_block ?_
    | ((first | refine awp_cond ⟨_, rfl, fun hc => ?_, fun hc => ?_⟩ | refine awB_t (fun hc => ?_) (fun hc => ?_) | refine awB_f (fun hc => ?_) (fun hc => ?_)) <;> first | exact Bool.noConfusion hc | (exfalso; simp only [decide_eq_true_eq, decide_eq_false_iff_not, List.length_map, Bool.not_eq_true', Bool.not_eq_false'] at hc; omega) | (try simp only [decide_eq_true_eq, decide_eq_false_iff_not, beq_iff_eq, beq_eq_false_iff_ne, ne_eq, Bool.not_eq_true', Bool.not_eq_false'] at hc))
    | refine awp_ret ?_
    | refine awp_exit ?_
    | simp (maxSteps := 1000000) only [go_sem, Nat.reduceAdd, Nat.reduceMul, Nat.reduceEqDiff, Nat.reduceLeDiff, Nat.reduceLT, Nat.reduceSub, Int.reduceEq, Int.reduceBEq, Int.reduceLT, Int.reduceLE, Int.reduceAdd, Int.reduceToNat, reduceIte, reduceCtorEq, sameKind, mmStep, List.all_cons, List.all_nil, hM, hN, hX, b0, b1, b2, b3, b4, b5, p_cipherplanlaw02_CatalogGrows_0]
    | (refine hK _ ?_; clear hK; clear K')
    | refine And.intro ?_ ?_
    | ((first | apply awC_A | apply awCR_A); (focus (simp only [go_sem, Nat.reduceAdd, Nat.reduceMul, Nat.reduceEqDiff, Nat.reduceLeDiff, Nat.reduceLT, Nat.reduceSub, Int.reduceEq, Int.reduceBEq, Int.reduceLT, Int.reduceLE, Int.reduceAdd, Int.reduceToNat, reduceIte, reduceCtorEq]; first | exact (h_cipherplanmake_Mod _ _).b | exact (h_catalog_Strength _ _).b | exact (h_catalog_Valid _ _).b | exact (h_catalog_Text _ _).b | exact EvN.b h_cipherplanlaw02_awake)); (focus (simp only [go_sem, Nat.reduceAdd, Nat.reduceMul, Nat.reduceEqDiff, Nat.reduceLeDiff, Nat.reduceLT, Nat.reduceSub, Int.reduceEq, Int.reduceBEq, Int.reduceLT, Int.reduceLE, Int.reduceAdd, Int.reduceToNat, reduceIte, reduceCtorEq])))
    | (simp only [List.length_append, List.length_cons, List.length_nil, List.length_map, Nat.reducePow, Nat.reduceAdd]; omega)
    | omega)
      all_goals (refine ends_r _ rfl ?_; simp only [go_sem, Nat.reduceAdd, Nat.reduceMul, Nat.reduceEqDiff, Nat.reduceLeDiff, Nat.reduceLT, Nat.reduceSub, Int.reduceEq, Int.reduceBEq, Int.reduceLT, Int.reduceLE, Int.reduceAdd, Int.reduceToNat, reduceIte, reduceCtorEq])
    · have b5 : (strengthS X N == 0) = false := by simp [e2]
      have b6 : decide (strengthS X M ≤ strengthS X N) = true := by simpa using hmono (by omega) e2
      repeat' (first
    | refine awp_seqR fun K' hK => ?_
    | refine awp_regR fun K' hK => ?_
    | refine awp_seqP 6 (fun _ => true) rfl (k_cipherplanlaw02_CatalogGrows_0 _) (q_cipherplanlaw02_CatalogGrows_0 _) fun K' hK => ?_
    | refine awp_regP 6 (fun _ => true) rfl (k_cipherplanlaw02_CatalogGrows_0 _) (q_cipherplanlaw02_CatalogGrows_0 _) fun K' hK => ?_
    | refine awp_seqK ?_
    | refine awp_skip ?_
    | refine awp_block ?_
    | ((first | refine awp_cond ⟨_, rfl, fun hc => ?_, fun hc => ?_⟩ | refine awB_t (fun hc => ?_) (fun hc => ?_) | refine awB_f (fun hc => ?_) (fun hc => ?_)) <;> first | exact Bool.noConfusion hc | (exfalso; simp only [decide_eq_true_eq, decide_eq_false_iff_not, List.length_map, Bool.not_eq_true', Bool.not_eq_false'] at hc; omega) | (try simp only [decide_eq_true_eq, decide_eq_false_iff_not, beq_iff_eq, beq_eq_false_iff_ne, ne_eq, Bool.not_eq_true', Bool.not_eq_false'] at hc))
    | refine awp_ret ?_
    | refine awp_exit ?_
    | simp (maxSteps := 1000000) only [go_sem, Nat.reduceAdd, Nat.reduceMul, Nat.reduceEqDiff, Nat.reduceLeDiff, Nat.reduceLT, Nat.reduceSub, Int.reduceEq, Int.reduceBEq, Int.reduceLT, Int.reduceLE, Int.reduceAdd, Int.reduceToNat, reduceIte, reduceCtorEq, sameKind, mmStep, List.all_cons, List.all_nil, hM, hN, hX, b0, b1, b2, b3, b4, b5, b6, p_cipherplanlaw02_CatalogGrows_0]
    | (refine hK _ ?_; clear hK; clear K')
    | refine And.intro ?_ ?_
    | ((first | apply awC_A | apply awCR_A); (focus (simp only [go_sem, Nat.reduceAdd, Nat.reduceMul, Nat.reduceEqDiff, Nat.reduceLeDiff, Nat.reduceLT, Nat.reduceSub, Int.reduceEq, Int.reduceBEq, Int.reduceLT, Int.reduceLE, Int.reduceAdd, Int.reduceToNat, reduceIte, reduceCtorEq]; first | exact (h_cipherplanmake_Mod _ _).b | exact (h_catalog_Strength _ _).b | exact (h_catalog_Valid _ _).b | exact (h_catalog_Text _ _).b | exact EvN.b h_cipherplanlaw02_awake)); (focus (simp only [go_sem, Nat.reduceAdd, Nat.reduceMul, Nat.reduceEqDiff, Nat.reduceLeDiff, Nat.reduceLT, Nat.reduceSub, Int.reduceEq, Int.reduceBEq, Int.reduceLT, Int.reduceLE, Int.reduceAdd, Int.reduceToNat, reduceIte, reduceCtorEq])))
    | (simp only [List.length_append, List.length_cons, List.length_nil, List.length_map, Nat.reducePow, Nat.reduceAdd]; omega)
    | omega)
      all_goals (refine ends_r _ rfl ?_; simp only [go_sem, Nat.reduceAdd, Nat.reduceMul, Nat.reduceEqDiff, Nat.reduceLeDiff, Nat.reduceLT, Nat.reduceSub, Int.reduceEq, Int.reduceBEq, Int.reduceLT, Int.reduceLE, Int.reduceAdd, Int.reduceToNat, reduceIte, reduceCtorEq])
  · have e0 : strengthS X M = 0 := by omega
    have b0 : (strengthS X M == 0) = true := by simp [e0]
    have b3 : decide (strengthS X M > 0) = false := by simpa using e3
    have b4 : (textS X M == []) = true := by simpa using hn e3
    repeat' (first
    | refine awp_seqR fun K' hK => ?_
    | refine awp_regR fun K' hK => ?_
    | refine awp_seqP 6 (fun _ => true) rfl (k_cipherplanlaw02_CatalogGrows_0 _) (q_cipherplanlaw02_CatalogGrows_0 _) fun K' hK => ?_
    | refine awp_regP 6 (fun _ => true) rfl (k_cipherplanlaw02_CatalogGrows_0 _) (q_cipherplanlaw02_CatalogGrows_0 _) fun K' hK => ?_
    | refine awp_seqK ?_
    | refine awp_skip ?_
    | refine awp_block ?_
    | ((first | refine awp_cond ⟨_, rfl, fun hc => ?_, fun hc => ?_⟩ | refine awB_t (fun hc => ?_) (fun hc => ?_) | refine awB_f (fun hc => ?_) (fun hc => ?_)) <;> first | exact Bool.noConfusion hc | (exfalso; simp only [decide_eq_true_eq, decide_eq_false_iff_not, List.length_map, Bool.not_eq_true', Bool.not_eq_false'] at hc; omega) | (try simp only [decide_eq_true_eq, decide_eq_false_iff_not, beq_iff_eq, beq_eq_false_iff_ne, ne_eq, Bool.not_eq_true', Bool.not_eq_false'] at hc))
    | refine awp_ret ?_
    | refine awp_exit ?_
    | simp (maxSteps := 1000000) only [go_sem, Nat.reduceAdd, Nat.reduceMul, Nat.reduceEqDiff, Nat.reduceLeDiff, Nat.reduceLT, Nat.reduceSub, Int.reduceEq, Int.reduceBEq, Int.reduceLT, Int.reduceLE, Int.reduceAdd, Int.reduceToNat, reduceIte, reduceCtorEq, sameKind, mmStep, List.all_cons, List.all_nil, hM, hN, hX, b0, b1, b2, b3, b4, p_cipherplanlaw02_CatalogGrows_0]
    | (refine hK _ ?_; clear hK; clear K')
    | refine And.intro ?_ ?_
    | ((first | apply awC_A | apply awCR_A); (focus (simp only [go_sem, Nat.reduceAdd, Nat.reduceMul, Nat.reduceEqDiff, Nat.reduceLeDiff, Nat.reduceLT, Nat.reduceSub, Int.reduceEq, Int.reduceBEq, Int.reduceLT, Int.reduceLE, Int.reduceAdd, Int.reduceToNat, reduceIte, reduceCtorEq]; first | exact (h_cipherplanmake_Mod _ _).b | exact (h_catalog_Strength _ _).b | exact (h_catalog_Valid _ _).b | exact (h_catalog_Text _ _).b | exact EvN.b h_cipherplanlaw02_awake)); (focus (simp only [go_sem, Nat.reduceAdd, Nat.reduceMul, Nat.reduceEqDiff, Nat.reduceLeDiff, Nat.reduceLT, Nat.reduceSub, Int.reduceEq, Int.reduceBEq, Int.reduceLT, Int.reduceLE, Int.reduceAdd, Int.reduceToNat, reduceIte, reduceCtorEq])))
    | (simp only [List.length_append, List.length_cons, List.length_nil, List.length_map, Nat.reducePow, Nat.reduceAdd]; omega)
    | omega)
    all_goals (refine ends_r _ rfl ?_; simp only [go_sem, Nat.reduceAdd, Nat.reduceMul, Nat.reduceEqDiff, Nat.reduceLeDiff, Nat.reduceLT, Nat.reduceSub, Int.reduceEq, Int.reduceBEq, Int.reduceLT, Int.reduceLE, Int.reduceAdd, Int.reduceToNat, reduceIte, reduceCtorEq])
end Av
end

section
namespace Go.Proofs.YtdjmgokhpganaaaDoor
open Go Av Go.RowKit
set_option maxRecDepth 100000
set_option linter.unusedVariables false
theorem has_cipherplanmake_Mod : Has Tryd.prog 18 14 c_cipherplanmake_Mod r_cipherplanmake_Mod := ⟨Tryd.f18, _, Tryd.func18, by decide, rfl, rfl, by kernel_rfl, by kernel_rfl⟩
theorem E_cipherplanmake_Mod (W : World) (hW : WOK W) : CE_cipherplanmake_Mod (envW Tryd.prog W) 18 := ev_cipherplanmake_Mod (Γ := envW Tryd.prog W) has_cipherplanmake_Mod 
theorem has_catalog_rows : Has Tryd.prog 89 46 c_catalog_rows r_catalog_rows := ⟨Tryd.f89, _, Tryd.func89, by decide, rfl, rfl, by kernel_rfl, by kernel_rfl⟩
theorem E_catalog_rows (W : World) (hW : WOK W) : CE_catalog_rows (envW Tryd.prog W) 89 := ev_catalog_rows (Γ := envW Tryd.prog W) has_catalog_rows 
theorem has_catalog_of : Has Tryd.prog 78 14 (c_catalog_of 89) r_catalog_of := ⟨Tryd.f78, _, Tryd.func78, by decide, rfl, rfl, by kernel_rfl, by kernel_rfl⟩
theorem E_catalog_of (W : World) (hW : WOK W) : CE_catalog_of (envW Tryd.prog W) 78 := ev_catalog_of (Γ := envW Tryd.prog W) has_catalog_of (E_catalog_rows W hW)
theorem has_catalog_modulus : Has Tryd.prog 79 21 c_catalog_modulus r_catalog_modulus := ⟨Tryd.f79, _, Tryd.func79, by decide, rfl, rfl, by kernel_rfl, by kernel_rfl⟩
theorem E_catalog_modulus (W : World) (hW : WOK W) : CE_catalog_modulus (envW Tryd.prog W) 79 := ev_catalog_modulus (Γ := envW Tryd.prog W) has_catalog_modulus 
theorem has_slices_Index___int_int : Has Tryd.prog 80 19 c_slices_Index___int_int r_slices_Index___int_int := ⟨Tryd.f80, _, Tryd.func80, by decide, rfl, rfl, by kernel_rfl, by kernel_rfl⟩
theorem E_slices_Index___int_int (W : World) (hW : WOK W) : CE_slices_Index___int_int (envW Tryd.prog W) 80 := ev_slices_Index___int_int (Γ := envW Tryd.prog W) has_slices_Index___int_int 
theorem has_slices_Contains___int_int : Has Tryd.prog 71 9 (c_slices_Contains___int_int 80) r_slices_Contains___int_int := ⟨Tryd.f71, _, Tryd.func71, by decide, rfl, rfl, by kernel_rfl, by kernel_rfl⟩
theorem E_slices_Contains___int_int (W : World) (hW : WOK W) : CE_slices_Contains___int_int (envW Tryd.prog W) 71 := ev_slices_Contains___int_int (Γ := envW Tryd.prog W) has_slices_Contains___int_int (E_slices_Index___int_int W hW)
theorem has_catalog_Strength : Has Tryd.prog 41 61 (c_catalog_Strength 78 79 71 80) r_catalog_Strength := ⟨Tryd.f41, _, Tryd.func41, by decide, rfl, rfl, by kernel_rfl, by kernel_rfl⟩
theorem E_catalog_Strength (W : World) (hW : WOK W) : CE_catalog_Strength (envW Tryd.prog W) 41 := ev_catalog_Strength (Γ := envW Tryd.prog W) has_catalog_Strength (E_catalog_of W hW) (E_catalog_modulus W hW) (E_slices_Contains___int_int W hW) (E_slices_Index___int_int W hW)
theorem has_catalog_Valid : Has Tryd.prog 42 6 (c_catalog_Valid 41) r_catalog_Valid := ⟨Tryd.f42, _, Tryd.func42, by decide, rfl, rfl, by kernel_rfl, by kernel_rfl⟩
theorem E_catalog_Valid (W : World) (hW : WOK W) : CE_catalog_Valid (envW Tryd.prog W) 42 := ev_catalog_Valid (Γ := envW Tryd.prog W) has_catalog_Valid (E_catalog_Strength W hW)
theorem has_catalog_Name : Has Tryd.prog 48 12 (c_catalog_Name 78) r_catalog_Name := ⟨Tryd.f48, _, Tryd.func48, by decide, rfl, rfl, by kernel_rfl, by kernel_rfl⟩
theorem E_catalog_Name (W : World) (hW : WOK W) : CE_catalog_Name (envW Tryd.prog W) 48 := ev_catalog_Name (Γ := envW Tryd.prog W) has_catalog_Name (E_catalog_of W hW)
theorem has_catalog_Text : Has Tryd.prog 43 22 (c_catalog_Text 42 48 81) r_catalog_Text := ⟨Tryd.f43, _, Tryd.func43, by decide, rfl, rfl, by kernel_rfl, by kernel_rfl⟩
theorem E_catalog_Text (W : World) (hW : WOK W) : CE_catalog_Text (envW Tryd.prog W) 43 := ev_catalog_Text (Γ := envW Tryd.prog W) has_catalog_Text (E_catalog_Valid W hW) (E_catalog_Name W hW) (E_strconv_Itoa W hW)
theorem has_catalog_Find : Has Tryd.prog 54 20 (c_catalog_Find 89) r_catalog_Find := ⟨Tryd.f54, _, Tryd.func54, by decide, rfl, rfl, by kernel_rfl, by kernel_rfl⟩
theorem E_catalog_Find (W : World) (hW : WOK W) : CE_catalog_Find (envW Tryd.prog W) 54 := ev_catalog_Find (Γ := envW Tryd.prog W) has_catalog_Find (E_catalog_rows W hW)
theorem has_catalog_Parse : Has Tryd.prog 39 36 (c_catalog_Parse 75 76 54 42 43) r_catalog_Parse := ⟨Tryd.f39, _, Tryd.func39, by decide, rfl, rfl, by kernel_rfl, by kernel_rfl⟩
theorem E_catalog_Parse (W : World) (hW : WOK W) : CE_catalog_Parse (envW Tryd.prog W) 39 := ev_catalog_Parse (Γ := envW Tryd.prog W) has_catalog_Parse (E_strings_Cut W hW) (E_strconv_Atoi W hW) (E_catalog_Find W hW) (E_catalog_Valid W hW) (E_catalog_Text W hW)
theorem has_catalog_use : Has Tryd.prog 82 8 c_catalog_use r_catalog_use := ⟨Tryd.f82, _, Tryd.func82, by decide, rfl, rfl, by kernel_rfl, by kernel_rfl⟩
theorem E_catalog_use (W : World) (hW : WOK W) : CE_catalog_use (envW Tryd.prog W) 82 := ev_catalog_use (Γ := envW Tryd.prog W) has_catalog_use 
theorem has_catalog_Suites : Has Tryd.prog 44 125 (c_catalog_Suites 82) r_catalog_Suites := ⟨Tryd.f44, _, Tryd.func44, by decide, rfl, rfl, by kernel_rfl, by kernel_rfl⟩
theorem E_catalog_Suites (W : World) (hW : WOK W) : CE_catalog_Suites (envW Tryd.prog W) 44 := ev_catalog_Suites (Γ := envW Tryd.prog W) has_catalog_Suites (E_catalog_use W hW)
theorem has_cipherplanlaw02_awake : Has Tryd.prog 36 31 (c_cipherplanlaw02_awake 39 43 41 44) r_cipherplanlaw02_awake := ⟨Tryd.f36, _, Tryd.func36, by decide, rfl, rfl, by kernel_rfl, by kernel_rfl⟩
theorem E_cipherplanlaw02_awake (W : World) (hW : WOK W) : CE_cipherplanlaw02_awake (envW Tryd.prog W) 36 := ev_cipherplanlaw02_awake (Γ := envW Tryd.prog W) has_cipherplanlaw02_awake (E_catalog_Parse W hW) (E_catalog_Text W hW) (E_catalog_Strength W hW) (E_catalog_Suites W hW)
theorem has_cipherplanlaw02_CatalogGrows : Has Tryd.prog 10 73 (c_cipherplanlaw02_CatalogGrows 18 41 42 43 36) r_cipherplanlaw02_CatalogGrows := ⟨Tryd.f10, _, Tryd.func10, by decide, rfl, rfl, by kernel_rfl, by kernel_rfl⟩
theorem E_cipherplanlaw02_CatalogGrows (W : World) (hW : WOK W) : CE_cipherplanlaw02_CatalogGrows (envW Tryd.prog W) 10 := ev_cipherplanlaw02_CatalogGrows (Γ := envW Tryd.prog W) has_cipherplanlaw02_CatalogGrows (E_cipherplanmake_Mod W hW) (E_catalog_Strength W hW) (E_catalog_Valid W hW) (E_catalog_Text W hW) (E_cipherplanlaw02_awake W hW)
end Go.Proofs.YtdjmgokhpganaaaDoor
end

section
namespace Go.Proofs.YtdjmgokhpganaaaDoor
open Go Av Go.RowKit Go.ChangeShapes Go.WideShapes Go.ChangeAt
set_option maxRecDepth 100000

theorem Tryd.own : ownKnob Tryd.prog.godebug = none := by kernel_rfl
theorem Tryd.mix : Tryd.prog.follows .mixedOrders = true := by kernel_rfl

theorem post_of_below {H : Type} {enc : TypeId × Value → H} {P : Program} {f : Func} {s : ChangeSpec} {apart fresh handsOn again : Bool} {W W' : World} {args : Array Value} {v : Value} {ds gs : List (DataW H)} {before pa pv : List MemPlace}
    (hW : DataW.Whole enc P f.params.toList s.vars apart W args.toList ds gs before)
    (hres : ∀ (b : Nat) (sp : Nat → Bool) (hd : Bool), DataW.TrodAll enc P W' b sp hd f.resultTypes.toList (v.resultList f.resultTypes.size) (s.fn H (ds ++ gs)).results [])
    (hargs : ∀ sp : Nat → Bool, (∀ p ∈ before, sp p.block = true) → DataW.TrodAll enc P W' 0 sp true f.params.toList args.toList (s.fn H (ds ++ gs)).args pa)
    (hvars : ∀ sp : Nat → Bool, (∀ p ∈ before, sp p.block = true) → DataW.TrodVars enc P W' sp s.vars (s.fn H (ds ++ gs)).vars pv)
    (hps : before = pa ++ pv) (hb : Below W.heap.size W W')
    (hok : ∀ (j : Nat) (t : TypeId) (r : Value), f.resultTypes[j]? = some t → (v.resultList f.resultTypes.size)[j]? = some r → Value.okWide P W' .any 0 t r) :
    s.post enc P f apart fresh handsOn again W args v W' := by
  have hlt : ∀ p ∈ before, p.block < W.heap.size := fun p hp => hW.lt p hp
  have hold : ∀ p ∈ before, (fun b => decide (b < W.heap.size)) p.block = true := fun p hp => by simpa using hlt p hp
  refine ⟨ds, gs, before, [], pa, pv, hW, hres _ _ _, hargs _ hold, hvars _ hold, World.keptBut_mono (fun p hp => ⟨hp, ?_⟩) (hb.frame (· ∈ before)), fun _ => ?_⟩
  · rw [hps, List.mem_append] at hp
    exact Or.inr hp
  · obtain ⟨_, _, _, _, _, hz, hn⟩ := hW
    refine ⟨hok, _, _, ([] ++ pa) ++ pv, ⟨[] ++ pa, pv, trodAll_append (hargs _ (fun _ _ => rfl)) (hres _ _ _), hvars _ (fun _ _ => rfl), rfl, ?_, ?_⟩, ?_⟩
    · intro b off hp
      have hin : MemPlace.cell b off ∈ before := by rw [hps]; simpa using hp
      rw [hb.frozen (hlt _ hin)]
      exact hz b off hin
    · intro ha
      have := hn ha
      rw [hps] at this
      simpa using this
    · intro p hp _
      rw [hps]
      simpa using hp

theorem own10 : Own Tryd.prog 10 := ⟨Tryd.f10, Tryd.func10, by decide, _, rfl⟩

theorem grows_calls (c a b : Int) (w0 : (Lit.int .u8 c).wf = true) (W : World) (hL : laidMet Tryd.prog catLaid W) (hsh : W.ShapedOpen Tryd.prog) :
    Calls Tryd.prog 10 #[.int .u8 c, .int .i64 a, .int .i64 b] W fun e W' => e = .returned (.bool true) ∧ Below W.heap.size W W' := by
  have hc := bounds_u8 w0
  refine calls_of_ev Tryd.mix own10 (E_cipherplanlaw02_CatalogGrows W (wok hL hsh) c a b hc.1 hc.2) rfl fun i h h' => ?_
  match i, h with
  | 0, _ => exact .sc rfl
  | 1, _ => exact .sc rfl
  | 2, _ => exact .sc rfl

theorem grows_lifted (os : Os) (started : os.Started) (H : Type) (enc : TypeId × Value → H) :
    ReturnsInHanded {} Tryd.checked os 10 .any (fun w args => (Rows.catalogGrowsSpec.pre enc Tryd.prog Tryd.f10 [] false w args ∧ laidMet Tryd.prog catLaid w) ∧ sizedMet enc Tryd.prog Tryd.f10 (OpenSpec.ofChange Rows.catalogGrowsSpec) false w args)
      (Rows.catalogGrowsSpec.post enc Tryd.prog Tryd.f10 false true false false) := by
  refine returnsInHanded_of_change_and_shaped (C := Tryd.checked) (X := fun w _ => laidMet Tryd.prog catLaid w) (fun _ _ _ hh h => h.of_heap hh) Tryd.own started (by kernel_rfl) Tryd.func10
    (ChangeSpec.witness_at (enc := enc) (C := Tryd.checked) (os := os) (X := fun w _ => laidMet Tryd.prog catLaid w) false (laidWorld os) #[.int .u8 0, .int .i64 0, .int .i64 0] 8 rfl (by kernel_rfl) (by kernel_rfl) (by kernel_rfl) (by kernel_rfl) (by kernel_rfl) (laidWorld_met os _)) ?_
  intro W base args ds gs before hval0 hW _ hL hsh
  have hval : ∀ (j : Nat) t v, Tryd.f10.params[j]? = some t → args[j]? = some v → Value.okWide Tryd.prog W .any base t v := hval0
  have hW' := hW
  obtain ⟨p, q, hA0, hV, rfl, hfz, hnd⟩ := hW
  have hA : DataW.TrodAll enc Tryd.prog W 0 (fun _ => true) true Tryd.f10.params.toList args.toList ds p := hA0
  rw [Tryd.params10] at hA hval
  obtain ⟨v0, vs0, d0, ds0, p0, q0, hargs, rfl, rfl, h0, r0⟩ := trodAll_cons hA
  obtain ⟨v1, vs1, d1, ds1, p1, q1, rfl, rfl, rfl, h1, r1⟩ := trodAll_cons r0
  obtain ⟨v2, vs2, d2, ds2, p2, q2, rfl, rfl, rfl, h2, r2⟩ := trodAll_cons r1
  obtain ⟨rfl, rfl, rfl⟩ := trodAll_nil r2
  obtain rfl : args = #[v0, v1, v2] := by cases args; simp_all
  obtain ⟨rfl, rfl⟩ := trodVars_none hV
  obtain ⟨a0, rfl, rfl, rfl, w0⟩ := open_int Tryd.underlying5 (hval 0 5 v0 rfl rfl) h0
  obtain ⟨a1, rfl, rfl, rfl, w1⟩ := open_int Tryd.underlying3 (hval 1 3 v1 rfl rfl) h1
  obtain ⟨a2, rfl, rfl, rfl, w2⟩ := open_int Tryd.underlying3 (hval 2 3 v2 rfl rfl) h2
  clear hA0 hval0
  simp only [List.append_nil] at hW'
  refine (grows_calls a0 a1 a2 w0 W hL hsh).mono fun e W' ⟨he, hb⟩ => ?_
  subst he
  exact ⟨_, rfl, post_of_below (pa := []) (pv := []) hW' (fun _ _ _ => (trodAll_cons_mk (shut_bool Tryd.underlying4 _) trodAll_mk0)) (fun sp _ => (trodAll_cons_mk (shut_int Tryd.underlying5 w0) (trodAll_cons_mk (shut_int Tryd.underlying3 w1) (trodAll_cons_mk (shut_int Tryd.underlying3 w2) trodAll_mk0)))) (fun _ _ => rfl) rfl
    hb (ok_one (by kernel_rfl) rfl (okWide_bool_mk Tryd.underlying4 _))⟩

theorem grows_row : Rows.CatalogGrowsSaid :=
  OpenClaim.holds_of_wide 10 Tryd.f10 rfl rfl rfl rfl rfl rfl rfl ⟨rfl, rfl, rfl, rfl, rfl⟩ rfl rfl rfl rfl rfl (by kernel_rfl) Tryd.func10 (by kernel_rfl)
    (of_decide_eq_true (by kernel_rfl)) (by unfold Func.isWrapper; first | (rw [if_pos (by decide +kernel)]; kernel_rfl) | (rw [if_neg (by decide +kernel)]; exact ⟨rfl, rfl⟩))
    (fun os started H enc _ => grows_lifted os started H enc)

theorem grows_card : Rows.CatalogGrowsCardSaid :=
  Claim7.holds_tied_plain_at .later [] [.data, .data, .data, .sentinel, .sentinel] true (true, "89777e4cd8e7b23e94fe87244865969eb1081972b1796485f89b3715c7b38b7d") true
    grows_row (fun _ h => by cases h) (by kernel_rfl) (fun _ h => by cases h) catalogGrows_row_tie rfl ⟨rfl, rfl⟩ (by kernel_rfl) rfl
    (fun f fn hf hfn => by
      obtain rfl : f = 10 := Option.some.inj ((show Tryd.prog.funcNamed "cipherplan/cipherplanlaw02.CatalogGrows" = some 10 by kernel_rfl).symm.trans hf) |>.symm
      obtain rfl : fn = Tryd.f10 := (Option.some.inj (Tryd.func10.symm.trans hfn)).symm
      exact ⟨by kernel_rfl, fun j t ht => by
        rw [Tryd.params10] at ht
        have h3 : t = 5 ∨ t = 3 := by
          rcases j with _ | _ | _ | j
          · simp at ht; exact .inl ht.symm
          · simp at ht; exact .inr ht.symm
          · simp at ht; exact .inr ht.symm
          · simp at ht
        rcases h3 with rfl | rfl
        · exact (show Tryd.prog.wantsStandIn 5 = false by kernel_rfl)
        · exact (show Tryd.prog.wantsStandIn 3 = false by kernel_rfl)⟩)
    (by kernel_rfl)
#print axioms grows_card
end Go.Proofs.YtdjmgokhpganaaaDoor
end

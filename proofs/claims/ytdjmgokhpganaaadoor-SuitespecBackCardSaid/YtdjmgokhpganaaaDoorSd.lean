/- Sd -/
import Derived.Test.YtdjmgokhpganaaaDoorSb
import Derived.Test.YtdjmgokhpganaaaDoorDice
import Derived.Test.YtdjmgokhpganaaaDoorSc
import Derived.Test.YtdjmgokhpganaaaDoorAvM
set_option linter.unusedVariables false
set_option linter.unusedSimpArgs false
section
set_option linter.unusedSimpArgs false
set_option linter.unusedVariables false
set_option maxRecDepth 10000
set_option maxHeartbeats 4000000
namespace Av
open Go
attribute [local irreducible] AWp runO runP runG awS awC awCv awQ awRd awCallR awCvR awQR awR awRdR awB okR plan ris
theorem setS_ok (s : List UInt8) : (setS s).2 = (splitL 43 s).all knownS := by
  unfold setS; split
  · rename_i h; rw [h]
  · rename_i h; simpa using h
structure NameOk (s : List UInt8) : Prop where
  colon : (58 : UInt8) ∉ s
  known : (splitL 43 s).all knownS = true
  head : ∃ c r, s = c :: r ∧ c ≠ 45 ∧ c ≠ 33 ∧ c ≠ 43 ∧ c ≠ 64
def nameOkB (s : List UInt8) : Bool := !s.contains 58 && (splitL 43 s).all knownS && (match s with | c :: _ => c != 45 && c != 33 && c != 43 && c != 64 | [] => false)
theorem nameOk_of {s : List UInt8} (h : nameOkB s = true) : NameOk s := by
  simp only [nameOkB, Bool.and_eq_true, Bool.not_eq_true'] at h
  refine ⟨by simpa using h.1.1, h.1.2, ?_⟩
  have h3 := h.2
  cases s with
  | nil => simp at h3
  | cons c r => simp at h3; exact ⟨c, r, rfl, h3.1.1.1, h3.1.1.2, h3.1.2, h3.2⟩
theorem names1_ok : ∀ x ∈ names1, nameOkB x = true := by decide
theorem names2_ok : ∀ x ∈ names2, nameOkB x = true := by decide
theorem names2_len5 : ∀ x ∈ names2, x.length ≤ 5 := by decide
theorem NameOk.join {s t : List UInt8} (hs : NameOk s) (ht : t ∈ names2) : NameOk (s ++ [43] ++ t) := by
  have h2 := nameOk_of (names2_ok t ht)
  refine ⟨?_, ?_, ?_⟩
  · simp only [List.mem_append, List.mem_singleton, not_or]; exact ⟨⟨hs.colon, by decide⟩, h2.colon⟩
  · rw [splitL_app, List.all_append, hs.known, h2.known]; rfl
  · obtain ⟨c, r, rfl, h⟩ := hs.head
    exact ⟨c, r ++ [43] ++ t, by simp, h⟩
theorem namesGo_ok (l : List Int) (s : List UInt8) (k : Nat) (hs : NameOk s) : NameOk (namesGo l s k).1 := by
  rw [namesGo]
  split
  · exact namesGo_ok l _ _ (hs.join (wordD_mem (l := l) (k := k + 1) (xs := names2) (by decide) (by decide)))
  · exact hs
termination_by l.length - k
decreasing_by have := wordD_ge l (k + 1) names2; omega
theorem namesD_ok (l : List Int) (k : Nat) : NameOk (namesD l k).1 := namesGo_ok _ _ _ (nameOk_of (names1_ok _ (wordD_mem (by decide) (by decide))))
theorem namesGo_len6 (l : List Int) (s : List UInt8) (k : Nat) : (namesGo l s k).1.length + 6 * k ≤ s.length + 6 * (namesGo l s k).2 := by
  rw [namesGo]
  split
  · have h1 := names2_len5 _ (wordD_mem (l := l) (k := k + 1) (xs := names2) (by decide) (by decide))
    have h2 := wordD_ge l (k + 1) names2
    have h3 := namesGo_len6 l (s ++ [43] ++ (wordD l (k + 1) names2).1) (wordD l (k + 1) names2).2
    simp only [List.length_append, List.length_singleton] at h3
    omega
  · have := nextD_ge l k 4
    show s.length + 6 * k ≤ s.length + 6 * (nextD l k 4).2; omega
termination_by l.length - k
decreasing_by have := wordD_ge l (k + 1) names2; omega
theorem namesD_len6 (l : List Int) (k : Nat) : (namesD l k).1.length + 6 * k ≤ 11 + 6 * (namesD l k).2 := by
  have h1 := names1_len _ (wordD_mem (l := l) (k := k) (xs := names1) (by decide) (by decide))
  have h2 := wordD_ge l k names1
  have h3 := namesGo_len6 l (wordD l k names1).1 (wordD l k names1).2
  unfold namesD; omega
theorem NameOk.sign {s : List UInt8} (h : NameOk s) : signS s = (0, s) := by
  obtain ⟨c, r, rfl, h1, h2, h3, _⟩ := h.head
  rw [signS, if_neg (by simp [h1, h2, h3])]
theorem NameOk.ne {s : List UInt8} (h : NameOk s) : (s == strW) = false := by
  obtain ⟨c, r, rfl, _, _, _, h4⟩ := h.head
  simp [strW, h4]
theorem NameOk.okW {s : List UInt8} (h : NameOk s) : wordOk s = true := by rw [Av.wordOk, h.sign, setS_ok, h.known, Bool.or_true]
theorem NameOk.okS {s : List UInt8} (h : NameOk s) {g : UInt8} (hg : g = 45 ∨ g = 33 ∨ g = 43) : Av.wordOk (g :: s) = true := by
  rw [Av.wordOk, signS, if_pos hg, setS_ok, h.known, Bool.or_true]
structure SpecOk (s : List UInt8) (n : Nat) : Prop where
  few : s ≠ [] → (splitL 58 s).length ≤ n
  ok : s ≠ [] → ∀ w ∈ splitL 58 s, wordOk w = true
theorem specW_word (l : List Int) (k : Nat) (c : Int) : (58 : UInt8) ∉ (specW l k c).1 ∧ wordOk (specW l k c).1 = true ∧ (specW l k c).1 ≠ [] ∧ (specW l k c).1.length + 6 * k ≤ 12 + 6 * (specW l k c).2 := by
  have h := namesD_ok l k
  have hl := namesD_len6 l k
  unfold specW
  split
  · refine ⟨?_, by simp [wordOk, strW], by simp, by simp⟩
    show (58 : UInt8) ∉ strW
    decide
  · split
    · exact ⟨by have := h.colon; simp [this], h.okS (by simp), by simp, by simp; omega⟩
    · split
      · exact ⟨by have := h.colon; simp [this], h.okS (by simp), by simp, by simp; omega⟩
      · split
        · exact ⟨by have := h.colon; simp [this], h.okS (by simp), by simp, by simp; omega⟩
        · refine ⟨h.colon, h.okW, ?_, by omega⟩
          obtain ⟨c, r, e, _⟩ := h.head
          rw [e]; simp
theorem specGo_ok (l : List Int) : ∀ (i : Nat) (s : List UInt8) (k n : Nat), SpecOk s n → SpecOk (specGo l i s k).1 (n + i)
  | 0, s, k, n, h => h
  | i + 1, s, k, n, h => by
    have hw := specW_word l (nextD l k 9).2 (nextD l k 9).1
    have := specGo_ok l i ((if s = [] then s else s ++ [58]) ++ (specW l (nextD l k 9).2 (nextD l k 9).1).1) (specW l (nextD l k 9).2 (nextD l k 9).1).2 (n + 1) ?_
    · rw [specGo, Nat.add_comm i 1, ← Nat.add_assoc]; exact this
    · generalize specW l (nextD l k 9).2 (nextD l k 9).1 = w at *
      by_cases hs : s = []
      · subst hs
        rw [if_pos rfl, List.nil_append]
        refine ⟨fun _ => ?_, fun _ => ?_⟩
        · rw [splitL_none hw.1]; simp
        · rw [splitL_none hw.1]; simpa using hw.2.1
      · rw [if_neg hs]
        refine ⟨fun _ => ?_, fun _ => ?_⟩
        · rw [splitL_app, splitL_none hw.1]; have := h.few hs; simp; omega
        · rw [splitL_app, splitL_none hw.1]
          intro x hx
          rcases List.mem_append.1 hx with hx | hx
          · exact h.ok hs x hx
          · simp only [List.mem_singleton] at hx; subst hx; exact hw.2.1
theorem specGo_len6 (l : List Int) : ∀ (i : Nat) (s : List UInt8) (k : Nat), (specGo l i s k).1.length + 6 * k ≤ s.length + 13 * i + 6 * (specGo l i s k).2
  | 0, s, k => by simp [specGo]
  | i + 1, s, k => by
    have hw := (specW_word l (nextD l k 9).2 (nextD l k 9).1).2.2.2
    have hn := nextD_ge l k 9
    have h2 := specGo_len6 l i ((if s = [] then s else s ++ [58]) ++ (specW l (nextD l k 9).2 (nextD l k 9).1).1) (specW l (nextD l k 9).2 (nextD l k 9).1).2
    rw [specGo]
    have h3 : (if s = [] then s else s ++ [58]).length ≤ s.length + 1 := by split <;> simp
    rw [List.length_append] at h2
    omega
theorem specD_ok (l : List Int) (k : Nat) : SpecOk (specD l k).1 6 := by
  have hr := nextD_range (l := l) (k := k) (n := 7) (by omega) (by omega)
  have h := specGo_ok l (nextD l k 7).1.toNat [] (nextD l k 7).2 0 ⟨fun h => absurd rfl h, fun h => absurd rfl h⟩
  exact ⟨fun hs => by have := h.few hs; unfold specD; omega, h.ok⟩
theorem specD_len6 (l : List Int) (k : Nat) : (specD l k).1.length + 6 * k ≤ 78 + 6 * (specD l k).2 := by
  have hr := nextD_range (l := l) (k := k) (n := 7) (by omega) (by omega)
  have hn := nextD_ge l k 7
  have h := specGo_len6 l (nextD l k 7).1.toNat [] (nextD l k 7).2
  unfold specD
  simp only [List.length_nil] at h
  omega
theorem parse_spec {s : List UInt8} {n : Nat} (hs : s ≠ []) (h : SpecOk s n) (hn : n ≤ 200) (hl : s.length ≤ 8192) : parseW s = ((runW (splitL 58 s) ([], [])).1, 0, 0) :=
  parseW_ok hs hl (by have := h.few hs; omega) (h.ok hs)
theorem doR_name {s : List UInt8} (h : NameOk s) (p : RowP) : doR s p = doG 0 (setS s).1 p := by
  rw [doR, h.ne, h.sign]; rfl
def joinT : List Int → List UInt8
  | [] => []
  | x :: r => [58] ++ nameP x ++ joinT r
def joinN : List Int → List UInt8
  | [] => []
  | x :: r => nameP x ++ joinT r
theorem printG_join : ∀ (r p : List Int) (s : List UInt8), (p ++ r).Nodup → p ≠ [] → printG p r s = some (s ++ joinT r)
  | [], p, s, _, _ => by simp [printG, joinT]
  | x :: r, p, s, h, hp => by
    have hx : p.contains x = false := by
      have := (List.nodup_append.1 h).2.2
      simp only [List.contains_eq_mem, decide_eq_false_iff_not]
      intro hm; exact this x hm x (by simp) rfl
    rw [printG, hx, if_neg (by simp), if_neg hp, printG_join r _ _ (by simpa using h) (by simp), joinT]; simp
theorem printV_join {l : List Int} (hn : l.Nodup) (hr : ∀ x ∈ l, 1 ≤ x ∧ x ≤ 16) : printV l = .tup [V.str (joinN l), V.int 0] := by
  have hb : ¬ l.any badC = true := by
    simp only [List.any_eq_true, not_exists, not_and]
    intro x hx
    have := hr x hx
    simp [badC]; omega
  rw [printV, if_neg hb]
  cases l with
  | nil => rfl
  | cons x r =>
    have : printG [] (x :: r) [] = some (joinN (x :: r)) := by
      rw [printG, if_neg (by simp), if_pos rfl, printG_join r _ _ (by simpa using hn) (by simp), joinN]; simp
    rw [this]
def nameB (x : Int) : Bool := nameOkB (nameP x) && ((setS (nameP x)).1 == [x])
theorem names_all : ∀ x ∈ ([1, 2, 3, 4, 5, 6, 7, 8, 9, 10, 11, 12, 13, 14, 15, 16] : List Int), nameB x = true := by decide
theorem nameP_all {x : Int} (h : 1 ≤ x ∧ x ≤ 16) : NameOk (nameP x) ∧ (setS (nameP x)).1 = [x] := by
  have := names_all x (by simp; omega)
  simp only [nameB, Bool.and_eq_true] at this
  exact ⟨nameOk_of this.1, by simpa using this.2⟩
theorem split_join : ∀ (r : List Int) (x : Int), (∀ y ∈ x :: r, 1 ≤ y ∧ y ≤ 16) → splitL 58 (joinN (x :: r)) = (x :: r).map nameP
  | [], x, h => by simp only [joinN, joinT, List.append_nil]; exact splitL_none (nameP_all (h x (by simp))).1.colon
  | y :: r, x, h => by
    have e : joinN (x :: y :: r) = nameP x ++ [58] ++ joinN (y :: r) := by simp [joinN, joinT]
    rw [e, splitL_app, split_join r y (fun z hz => h z (by simp [List.mem_cons.1 hz])), splitL_none (nameP_all (h x (by simp))).1.colon]; rfl
theorem run_names : ∀ (r acc : List Int), (acc ++ r).Nodup → (∀ y ∈ r, 1 ≤ y ∧ y ≤ 16) → runW (r.map nameP) (acc, []) = (acc ++ r, [])
  | [], acc, _, _ => by simp [runW]
  | x :: r, acc, hn, hr => by
    have h := nameP_all (hr x (by simp))
    have hx : acc.contains x = false := by
      have := (List.nodup_append.1 hn).2.2
      simp only [List.contains_eq_mem, decide_eq_false_iff_not]
      intro hm; exact this x hm x (by simp) rfl
    have e : doR (nameP x) (acc, []) = (acc ++ [x], []) := by
      rw [doR_name h.1, h.2]
      show (acc ++ withoutL (withoutL [x] acc) [], []) = _
      have hx2 : x ∉ acc := by simpa using hx
      simp [withoutL, hx2]
    show runW (r.map nameP) (doR (nameP x) (acc, [])) = _
    rw [e, run_names r _ (by simpa using hn) (fun y hy => hr y (by simp [hy]))]; simp
theorem joinT_len : ∀ r : List Int, (joinT r).length ≤ 41 * r.length
  | [] => by simp [joinT]
  | x :: r => by have := nameP_len x; have := joinT_len r; simp [joinT]; omega
theorem parse_print {l : List Int} (hn : l.Nodup) (hr : ∀ x ∈ l, 1 ≤ x ∧ x ≤ 16) : parseW (joinN l) = (l, 0, 0) := by
  cases l with
  | nil => rfl
  | cons x r =>
    have hl := nd_len hn hr
    have h := nameP_all (hr x (by simp))
    have hs := split_join r x hr
    have hne : joinN (x :: r) ≠ [] := by
      obtain ⟨c, t, e, _⟩ := h.1.head
      simp [joinN, e]
    have h1 := nameP_len x
    have h2 := joinT_len r
    simp only [List.length_cons] at hl
    rw [parseW_ok hne (by simp [joinN]; omega) (by rw [hs]; simp; omega) (by
      rw [hs]; intro w hw
      obtain ⟨y, hy, rfl⟩ := List.mem_map.1 hw
      exact (nameP_all (hr y hy)).1.okW), hs, run_names _ [] (by simpa using hn) hr]
    rfl
end Av
end
section
set_option linter.unusedSimpArgs false
set_option linter.unusedVariables false
set_option maxRecDepth 10000
set_option maxHeartbeats 4000000
namespace Av
open Go
attribute [local irreducible] AWp runO runP runG awS awC awCv awQ awRd awCallR awCvR awQR awR awRdR awB okR plan ris
theorem not_in_take' {l : List Int} {j : Nat} {x : Int} (hn : l.Nodup) (hg : l[j]? = some x) : x ∉ l.take j := by
  intro h
  obtain ⟨hj, he⟩ := List.getElem?_eq_some_iff.1 hg
  have h2 : l.take j ++ x :: l.drop (j + 1) = l := by rw [← he, ← List.drop_eq_getElem_cons hj, List.take_append_drop]
  rw [← h2] at hn
  exact (List.nodup_append.1 hn).2.2 x h x (by simp) rfl
theorem beq_ints (l : List Int) : (l == l) = true := by simp
theorem parse_awake1 : parseW [97, 101, 115, 103, 99, 109, 43, 101, 99, 100, 104, 101, 58, 33, 118, 52] = ([10, 11], 0, 0) := by decide +kernel
theorem parse_awake2 : parseW [114, 115, 97, 43, 118, 49, 58, 64, 115, 116, 114, 101, 110, 103, 116, 104] = ([6, 7, 8, 3, 5, 1, 2], 0, 0) := by decide +kernel
def c_law08_awake (f_suitespec_Parse f_ref02_SameInts : Nat) : AC := seqK [] (.reg [mc 0 (V.bool false)]) (seqK [1, 2, 3] (.reg [xo 8 (.call f_suitespec_Parse [(.c (V.str [97, 101, 115, 103, 99, 109, 43, 101, 99, 100, 104, 101, 58, 33, 118, 52]))]), mv 7 8, ex 9 7 0, ex 10 7 1, ex 11 7 2, mv 1 9, mv 2 10, mv 3 11]) (seqK [1, 2, 3, 4, 5, 6] (.reg [xo 13 (.call f_suitespec_Parse [(.c (V.str [114, 115, 97, 43, 118, 49, 58, 64, 115, 116, 114, 101, 110, 103, 116, 104]))]), mv 12 13, ex 14 12 0, ex 15 12 1, ex 16 12 2, mv 4 14, mv 5 15, mv 6 16]) (seqK [0] (.reg [mv 17 3, bc 18 .eql 17 (V.int 0), mv 19 18, mg 20 6 19 true, xg 21 (.bin .eql (.t 20) (.c (V.int 0))) 19 true, xo 22 (.pick (.t 19) (.t 21) (.c (V.bool false))), mv 23 22, mg 24 2 23 true, xg 25 (.bin .eql (.t 24) (.c (V.int 0))) 23 true, xo 26 (.pick (.t 23) (.t 25) (.c (V.bool false))), mv 27 26, mg 28 5 27 true, xg 29 (.bin .eql (.t 28) (.c (V.int 0))) 27 true, xo 30 (.pick (.t 27) (.t 29) (.c (V.bool false))), mv 31 30, mg 32 1 31 true, xg 33 (.bslice 2 1 false [(.int .i64 0)] [(0, (.c (V.int 10))), (1, (.c (V.int 11)))]) 31 true, xg 34 (.call f_ref02_SameInts [(.t 32), (.t 33)]) 31 true, xo 35 (.pick (.t 31) (.t 34) (.c (V.bool false))), mv 36 35, mg 37 4 36 true, xg 38 (.bslice 7 1 false [(.int .i64 0)] [(0, (.c (V.int 6))), (1, (.c (V.int 7))), (2, (.c (V.int 8))), (3, (.c (V.int 3))), (4, (.c (V.int 5))), (5, (.c (V.int 1))), (6, (.c (V.int 2)))]) 36 true, xg 39 (.call f_ref02_SameInts [(.t 37), (.t 38)]) 36 true, xo 40 (.pick (.t 36) (.t 39) (.c (V.bool false))), mv 0 40]) (.ret)))) def r_law08_awake : List ARes := [.tmp 0]
def CE_law08_awake (Γ : Env) (f : Nat) : Prop := EvN Γ f [] (V.bool true)
theorem ev_law08_awake {Γ : Env} {f f_suitespec_Parse f_ref02_SameInts : Nat} (h : Has Γ.P f 41 (c_law08_awake f_suitespec_Parse f_ref02_SameInts) r_law08_awake) (h_suitespec_Parse : CE_suitespec_Parse Γ f_suitespec_Parse) (h_ref02_SameInts : CE_ref02_SameInts Γ f_ref02_SameInts) : CE_law08_awake Γ f := by
  refine evN_of_body h (by simp) (by simp only [V.closed, closedL, V.noSl, noSlL, and_self, and_true, true_and]) (by simp only [V.closed, closedL, V.noSl, noSlL, and_self, and_true, true_and]) fun C hC hm => ?_
  subst hC
  unfold c_law08_awake
  have h1 := (h_suitespec_Parse [97, 101, 115, 103, 99, 109, 43, 101, 99, 100, 104, 101, 58, 33, 118, 52] (by decide)).b
  have h2 := (h_suitespec_Parse [114, 115, 97, 43, 118, 49, 58, 64, 115, 116, 114, 101, 110, 103, 116, 104] (by decide)).b
  rw [parse_awake1, parseV] at h1
  rw [parse_awake2, parseV] at h2
  have h3 := (h_ref02_SameInts [10, 11] [10, 11] (by decide)).b
  have h4 := (h_ref02_SameInts [6, 7, 8, 3, 5, 1, 2] [6, 7, 8, 3, 5, 1, 2] (by decide)).b
  rw [beq_ints] at h3 h4
  simp only [List.map_cons, List.map_nil] at h1 h2 h3 h4
  repeat' (first | refine awp_seqR fun K' hK => ?_ | refine awp_regR fun K' hK => ?_ | refine awp_seqK ?_ | refine awp_skip ?_ | refine awp_block ?_ | ((first | refine awp_cond ⟨_, rfl, fun hc => ?_, fun hc => ?_⟩ | refine awB_t (fun hc => ?_) (fun hc => ?_) | refine awB_f (fun hc => ?_) (fun hc => ?_)) <;> first | exact Bool.noConfusion hc | ((try simp only [decide_eq_true_eq, decide_eq_false_iff_not, beq_iff_eq, beq_eq_false_iff_ne, ne_eq, Bool.not_eq_true', Bool.not_eq_false'] at hc); first | (exfalso; simp only [List.length_map] at hc; omega) | (exfalso; omega) | skip)) | refine awp_ret ?_ | refine awp_exit ?_ | simp (maxSteps := 1000000) only [go_sem, Nat.reduceAdd, Nat.reduceMul, Nat.reduceEqDiff, Nat.reduceLeDiff, Nat.reduceLT, Nat.reduceSub, Int.reduceEq, Int.reduceBEq, Int.reduceLT, Int.reduceLE, Int.reduceAdd, Int.reduceToNat, reduceIte, reduceCtorEq] | (refine hK _ ?_; clear hK; clear K') | refine And.intro ?_ ?_ | (apply awCs_A; (focus (first | exact h1 | exact h2 | exact h3 | exact h4 | exact (h_suitespec_Parse _ (by first | assumption | omega | (simp; done))).b | exact (h_ref02_SameInts _ _ (by first | assumption | omega | (simp; done))).b))) | (simp only [List.length_append, List.length_cons, List.length_nil, List.length_map, Nat.reducePow, Nat.reduceAdd]; omega) | omega | exact List.mem_singleton_self _)
  all_goals first | (refine ends_r _ rfl ?_; simp only [go_sem, Nat.reduceEqDiff, Nat.reduceAdd, reduceIte, reduceCtorEq]; done) | trace_state
end Av
end

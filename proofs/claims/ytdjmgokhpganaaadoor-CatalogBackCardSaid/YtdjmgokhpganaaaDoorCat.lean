/- Cat -/
import Derived.Test.YtdjmgokhpganaaaDoorAv3
import Derived.KernelRfl
import Derived.Lib.ItoaLen
import Derived.Lib.IndexMore
import Derived.Lib.AtoiAll
set_option linter.unusedVariables false
set_option linter.unusedSimpArgs false
section
set_option linter.unusedSimpArgs false
set_option linter.unusedVariables false
set_option maxRecDepth 10000
namespace Av
open Go
attribute [local irreducible] AWp runO runP runG awS awC awCv awQ awRd awCallR awCvR awQR awR awRdR awB okR plan ris

/-! catalog: rows, sizes, strengths. -/
def modV (a n : Int) : Int := if n < 1 then 0 else (IntKind.i64.wrap (a.tmod n + n)).tmod n

def c_cipherplanmake_Mod : AC :=
  seqK [0, 1] (.reg [⟨(some 4), .mov (.c (V.int 0)), none⟩])
  (seqK [0, 1] (seqK [0, 1, 6] (.reg [⟨(some 5), .mov (.t 1), none⟩,
       ⟨(some 6), .bin .lss (.t 5) (.c (V.int 1)), none⟩])
    (.cond (.t 6)
      (seqK [4] (.reg [⟨(some 4), .mov (.c (V.int 0)), none⟩])
       (.ret))
      (.skip)))
   (seqK [4] (.reg [⟨(some 7), .mov (.t 0), none⟩,
       ⟨(some 8), .mov (.t 1), none⟩,
       ⟨(some 9), .bin .rem (.t 7) (.t 8), none⟩,
       ⟨(some 10), .mov (.t 1), none⟩,
       ⟨(some 11), .bin .add (.t 9) (.t 10), none⟩,
       ⟨(some 12), .mov (.t 1), none⟩,
       ⟨(some 13), .bin .rem (.t 11) (.t 12), none⟩,
       ⟨(some 4), .mov (.t 13), none⟩])
    (.ret)))

def r_cipherplanmake_Mod : List ARes := [.tmp 4]
def CE_cipherplanmake_Mod (Γ : Env) (f : Nat) : Prop := ∀ (a n : Int), EvN Γ f [V.int a, V.int n] (V.int (modV a n))
theorem ev_cipherplanmake_Mod {Γ : Env} {f : Nat} (h : Has Γ.P f 14 c_cipherplanmake_Mod r_cipherplanmake_Mod)  : CE_cipherplanmake_Mod Γ f := by
  intro a n
  refine evN_of_body h (by simp) (by simp only [V.closed, closedL, V.noSl, noSlL, and_self, and_true, true_and]) (by simp only [V.closed, closedL, V.noSl, noSlL, and_self, and_true, true_and]) fun C hC hm => ?_
  subst hC
  unfold c_cipherplanmake_Mod
  repeat' (first
    | refine awp_seqR fun K' hK => ?_
    | refine awp_regR fun K' hK => ?_
    | refine awp_seqK ?_
    | refine awp_skip ?_
    | refine awp_block ?_
    | ((first | refine awp_cond ⟨_, rfl, fun hc => ?_, fun hc => ?_⟩ | refine awB_t (fun hc => ?_) (fun hc => ?_) | refine awB_f (fun hc => ?_) (fun hc => ?_)) <;> first | exact Bool.noConfusion hc | (exfalso; simp only [decide_eq_true_eq, decide_eq_false_iff_not, List.length_map, Bool.not_eq_true', Bool.not_eq_false'] at hc; omega) | (try simp only [decide_eq_true_eq, decide_eq_false_iff_not, beq_iff_eq, beq_eq_false_iff_ne, ne_eq, Bool.not_eq_true', Bool.not_eq_false'] at hc))
    | refine awp_ret ?_
    | refine awp_exit ?_
    | simp (maxSteps := 1000000) only [go_sem, Nat.reduceAdd, Nat.reduceMul, Nat.reduceEqDiff, Nat.reduceLeDiff, Nat.reduceLT, Nat.reduceSub, Int.reduceEq, Int.reduceBEq, Int.reduceLT, Int.reduceLE, Int.reduceAdd, Int.reduceToNat, reduceIte, reduceCtorEq]
    | (refine hK _ ?_; clear hK; clear K')
    | refine And.intro ?_ ?_
    | (simp only [List.length_append, List.length_cons, List.length_nil, List.length_map, Nat.reducePow, Nat.reduceAdd]; omega)
    | omega)
  · refine ends_r _ rfl ?_
    simp only [go_sem, Nat.reduceAdd, Nat.reduceMul, Nat.reduceEqDiff, Nat.reduceLeDiff, Nat.reduceLT, Nat.reduceSub, Int.reduceEq, Int.reduceBEq, Int.reduceLT, Int.reduceLE, Int.reduceAdd, Int.reduceToNat, reduceIte, reduceCtorEq]
    simp [modV, hc]
  · refine ends_r _ rfl ?_
    simp only [go_sem, Nat.reduceAdd, Nat.reduceMul, Nat.reduceEqDiff, Nat.reduceLeDiff, Nat.reduceLT, Nat.reduceSub, Int.reduceEq, Int.reduceBEq, Int.reduceLT, Int.reduceLE, Int.reduceAdd, Int.reduceToNat, reduceIte, reduceCtorEq]
    simp [modV, hc]

def find0 (x : Int) : Nat → List Int → Int
  | _, [] => -1
  | k, y :: r => if x = y then k else find0 x (k + 1) r

def c_slices_Index___int_int : AC :=
  seqK [0, 1] (.reg [⟨(some 4), .mov (.c (V.int 0)), none⟩])
  (seqK [] (seqK [0, 1, 7, 8] (.reg [⟨(some 6), .mov (.t 0), none⟩,
       ⟨(some 7), .lenL (.t 6), none⟩,
       ⟨(some 8), .mov (.c (V.int 0)), none⟩])
    (.block 0 (loopK [0, 1, 7, 8] (seqK [0, 1, 7, 8, 9] (.reg [⟨(some 9), .bin .lss (.t 8) (.t 7), none⟩])
       (seqK [0, 1, 7, 8] (.cond (.t 9)
          (.skip)
          (.exit 0))
        (seqK [0, 1, 7, 8] (.block 1 (seqK [0, 1, 5, 7, 8] (.reg [⟨(some 10), .mov (.t 8), none⟩,
              ⟨(some 5), .mov (.t 10), none⟩])
           (seqK [0, 1, 5, 7, 8, 16] (.reg [⟨(some 11), .mov (.t 1), none⟩,
               ⟨(some 12), .mov (.t 0), none⟩,
               ⟨(some 13), .mov (.t 5), none⟩,
               ⟨(some 14), .iaddr 1 (.t 12) (.t 13), none⟩,
               ⟨(some 15), .load false 1 (.t 14), none⟩,
               ⟨(some 16), .bin .eql (.t 11) (.t 15), none⟩])
            (.cond (.t 16)
              (seqK [4] (.reg [⟨(some 17), .mov (.t 5), none⟩,
                  ⟨(some 4), .mov (.t 17), none⟩])
               (.ret))
              (.skip)))))
         (.reg [⟨(some 18), .bin .add (.t 8) (.c (V.int 1)), none⟩,
            ⟨(some 8), .mov (.t 18), none⟩])))))))
   (seqK [4] (.reg [⟨(some 4), .mov (.c (V.int (-1))), none⟩])
    (.ret)))

def r_slices_Index___int_int : List ARes := [.tmp 4]
def CE_slices_Index___int_int (Γ : Env) (f : Nat) : Prop := ∀ (l : List Int) (x : Int) (hl : l.length < 2 ^ 62), EvN Γ f [.sl 1 (l.map V.int), V.int x] (V.int (find0 x 0 l))
theorem ev_slices_Index___int_int {Γ : Env} {f : Nat} (h : Has Γ.P f 19 c_slices_Index___int_int r_slices_Index___int_int)  : CE_slices_Index___int_int Γ f := by
  intro l x hl
  refine evN_of_body h (by simp) (by simp only [V.closed, closedL, V.noSl, noSlL, and_self, and_true, true_and]) (by simp only [V.closed, closedL, V.noSl, noSlL, and_self, and_true, true_and]) fun C hC hm => ?_
  subst hC
  unfold c_slices_Index___int_int
  repeat' (first
    | refine awp_seqR fun K' hK => ?_
    | refine awp_regR fun K' hK => ?_
    | refine awp_seqK ?_
    | refine awp_skip ?_
    | refine awp_block ?_
    | ((first | refine awp_cond ⟨_, rfl, fun hc => ?_, fun hc => ?_⟩ | refine awB_t (fun hc => ?_) (fun hc => ?_) | refine awB_f (fun hc => ?_) (fun hc => ?_)) <;> first | exact Bool.noConfusion hc | (exfalso; simp only [decide_eq_true_eq, decide_eq_false_iff_not, List.length_map, Bool.not_eq_true', Bool.not_eq_false'] at hc; omega) | (try simp only [decide_eq_true_eq, decide_eq_false_iff_not, beq_iff_eq, beq_eq_false_iff_ne, ne_eq, Bool.not_eq_true', Bool.not_eq_false'] at hc))
    | refine awp_ret ?_
    | refine awp_exit ?_
    | simp (maxSteps := 1000000) only [go_sem, Nat.reduceAdd, Nat.reduceMul, Nat.reduceEqDiff, Nat.reduceLeDiff, Nat.reduceLT, Nat.reduceSub, Int.reduceEq, Int.reduceBEq, Int.reduceLT, Int.reduceLE, Int.reduceAdd, Int.reduceToNat, reduceIte, reduceCtorEq]
    | (refine hK _ ?_; clear hK; clear K')
    | refine And.intro ?_ ?_
    | (simp only [List.length_append, List.length_cons, List.length_nil, List.length_map, Nat.reducePow, Nat.reduceAdd]; omega)
    | omega)
  refine awp_loopP (ι := Nat) (fun k => k ≤ l.length ∧ find0 x k (l.drop k) = find0 x 0 l) (fun k => [(8, V.int k)]) (fun k => l.length - k) 0 (by omega) ⟨by simp, by simp⟩ (by repeat' first | exact ltO_none | refine ltO_upd (by omega) (by simp only [Ob.lt, ltL, V.lt, and_self, and_true]; try omega) ?_) (fun i hi => by simp only [ovT, lookD, Nat.reduceEqDiff, reduceIte]; (repeat' first | exact ltT_nil | refine ltT_cons ?_ ?_ | simp only [V.lt, ltL, and_self, and_true] | omega)) (by simp only [Nat.reduceAdd, ovT, lookD, Nat.reduceEqDiff, reduceIte, eqT_cons, eqT_nil, renI, u32, u33, u34, u35, u36, u37, u38, u39, and_self, and_true, true_and]; rfl) fun k hk K' hL => ?_
  obtain ⟨hk, hinv⟩ := hk
  simp only [ovT, lookD, Nat.reduceEqDiff, reduceIte]
  rcases hd : l.drop k with _ | ⟨y, r⟩
  · have := drop_nil hd
    rw [hd] at hinv
    repeat' (first
    | refine awp_seqR fun K' hK => ?_
    | refine awp_regR fun K' hK => ?_
    | refine awp_seqK ?_
    | refine awp_skip ?_
    | refine awp_block ?_
    | ((first | refine awp_cond ⟨_, rfl, fun hc => ?_, fun hc => ?_⟩ | refine awB_t (fun hc => ?_) (fun hc => ?_) | refine awB_f (fun hc => ?_) (fun hc => ?_)) <;> first | exact Bool.noConfusion hc | (exfalso; simp only [decide_eq_true_eq, decide_eq_false_iff_not, List.length_map, Bool.not_eq_true', Bool.not_eq_false'] at hc; omega) | (try simp only [decide_eq_true_eq, decide_eq_false_iff_not, beq_iff_eq, beq_eq_false_iff_ne, ne_eq, Bool.not_eq_true', Bool.not_eq_false'] at hc))
    | refine awp_ret ?_
    | refine awp_exit ?_
    | simp (maxSteps := 1000000) only [go_sem, Nat.reduceAdd, Nat.reduceMul, Nat.reduceEqDiff, Nat.reduceLeDiff, Nat.reduceLT, Nat.reduceSub, Int.reduceEq, Int.reduceBEq, Int.reduceLT, Int.reduceLE, Int.reduceAdd, Int.reduceToNat, reduceIte, reduceCtorEq]
    | (refine hK _ ?_; clear hK; clear K')
    | refine And.intro ?_ ?_
    | (simp only [List.length_append, List.length_cons, List.length_nil, List.length_map, Nat.reducePow, Nat.reduceAdd]; omega)
    | omega)
    refine ends_r _ rfl ?_
    simp only [go_sem, Nat.reduceAdd, Nat.reduceMul, Nat.reduceEqDiff, Nat.reduceLeDiff, Nat.reduceLT, Nat.reduceSub, Int.reduceEq, Int.reduceBEq, Int.reduceLT, Int.reduceLE, Int.reduceAdd, Int.reduceToNat, reduceIte, reduceCtorEq]
    rw [← hinv]; rfl
  · obtain ⟨hk, hget, hr⟩ := drop_cons hd
    rw [hd] at hinv
    have hw := wrap_succ (k := k) (by omega)
    repeat' (first
    | refine awp_seqR fun K' hK => ?_
    | refine awp_regR fun K' hK => ?_
    | refine awp_seqK ?_
    | refine awp_skip ?_
    | refine awp_block ?_
    | ((first | refine awp_cond ⟨_, rfl, fun hc => ?_, fun hc => ?_⟩ | refine awB_t (fun hc => ?_) (fun hc => ?_) | refine awB_f (fun hc => ?_) (fun hc => ?_)) <;> first | exact Bool.noConfusion hc | (exfalso; simp only [decide_eq_true_eq, decide_eq_false_iff_not, List.length_map, Bool.not_eq_true', Bool.not_eq_false'] at hc; omega) | (try simp only [decide_eq_true_eq, decide_eq_false_iff_not, beq_iff_eq, beq_eq_false_iff_ne, ne_eq, Bool.not_eq_true', Bool.not_eq_false'] at hc))
    | refine awp_ret ?_
    | refine awp_exit ?_
    | simp (maxSteps := 1000000) only [go_sem, Nat.reduceAdd, Nat.reduceMul, Nat.reduceEqDiff, Nat.reduceLeDiff, Nat.reduceLT, Nat.reduceSub, Int.reduceEq, Int.reduceBEq, Int.reduceLT, Int.reduceLE, Int.reduceAdd, Int.reduceToNat, reduceIte, reduceCtorEq, Int.toNat_natCast, List.getElem?_map, hget, hw]
    | (refine hK _ ?_; clear hK; clear K')
    | refine And.intro ?_ ?_
    | (simp only [List.length_append, List.length_cons, List.length_nil, List.length_map, Nat.reducePow, Nat.reduceAdd]; omega)
    | omega)
    · refine ends_r _ rfl ?_
      simp only [go_sem, Nat.reduceAdd, Nat.reduceMul, Nat.reduceEqDiff, Nat.reduceLeDiff, Nat.reduceLT, Nat.reduceSub, Int.reduceEq, Int.reduceBEq, Int.reduceLT, Int.reduceLE, Int.reduceAdd, Int.reduceToNat, reduceIte, reduceCtorEq]
      rw [← hinv]; simp [find0, hc]
    · refine hL _ (k + 1) (by simp only [Nat.reduceAdd, ovT, lookD, Nat.reduceEqDiff, reduceIte, eqT_cons, eqT_nil, renI, u32, u33, u34, u35, u36, u37, u38, u39, and_self, and_true, true_and]) ⟨by omega, ?_⟩ (by omega) (fun a ha => rfl)
      rw [hr, ← hinv]; simp [find0, hc]

def c_slices_Contains___int_int (f_slices_Index___int_int : Nat) : AC :=
  seqK [0, 1] (.reg [⟨(some 4), .mov (.c (V.bool false)), none⟩])
  (seqK [4] (.reg [⟨(some 5), .mov (.t 0), none⟩,
      ⟨(some 6), .mov (.t 1), none⟩,
      ⟨(some 7), .call f_slices_Index___int_int [(.t 5), (.t 6)], none⟩,
      ⟨(some 8), .bin .geq (.t 7) (.c (V.int 0)), none⟩,
      ⟨(some 4), .mov (.t 8), none⟩])
   (.ret))

def r_slices_Contains___int_int : List ARes := [.tmp 4]
def CE_slices_Contains___int_int (Γ : Env) (f : Nat) : Prop := ∀ (l : List Int) (x : Int) (hl : l.length < 2 ^ 62), EvN Γ f [.sl 1 (l.map V.int), V.int x] (V.bool (decide (find0 x 0 l ≥ 0)))
theorem ev_slices_Contains___int_int {Γ : Env} {f f_slices_Index___int_int : Nat} (h : Has Γ.P f 9 (c_slices_Contains___int_int f_slices_Index___int_int) r_slices_Contains___int_int) (h_slices_Index___int_int : CE_slices_Index___int_int Γ f_slices_Index___int_int) : CE_slices_Contains___int_int Γ f := by
  intro l x hl
  refine evN_of_body h (by simp) (by simp only [V.closed, closedL, V.noSl, noSlL, and_self, and_true, true_and]) (by simp only [V.closed, closedL, V.noSl, noSlL, and_self, and_true, true_and]) fun C hC hm => ?_
  subst hC
  unfold c_slices_Contains___int_int
  repeat' (first
    | refine awp_seqR fun K' hK => ?_
    | refine awp_regR fun K' hK => ?_
    | refine awp_seqK ?_
    | refine awp_skip ?_
    | refine awp_block ?_
    | ((first | refine awp_cond ⟨_, rfl, fun hc => ?_, fun hc => ?_⟩ | refine awB_t (fun hc => ?_) (fun hc => ?_) | refine awB_f (fun hc => ?_) (fun hc => ?_)) <;> first | exact Bool.noConfusion hc | (exfalso; simp only [decide_eq_true_eq, decide_eq_false_iff_not, List.length_map, Bool.not_eq_true', Bool.not_eq_false'] at hc; omega) | (try simp only [decide_eq_true_eq, decide_eq_false_iff_not, beq_iff_eq, beq_eq_false_iff_ne, ne_eq, Bool.not_eq_true', Bool.not_eq_false'] at hc))
    | refine awp_ret ?_
    | refine awp_exit ?_
    | simp (maxSteps := 1000000) only [go_sem, Nat.reduceAdd, Nat.reduceMul, Nat.reduceEqDiff, Nat.reduceLeDiff, Nat.reduceLT, Nat.reduceSub, Int.reduceEq, Int.reduceBEq, Int.reduceLT, Int.reduceLE, Int.reduceAdd, Int.reduceToNat, reduceIte, reduceCtorEq]
    | (refine hK _ ?_; clear hK; clear K')
    | refine And.intro ?_ ?_
    | (apply awC_A; (focus (simp only [go_sem, Nat.reduceAdd, Nat.reduceMul, Nat.reduceEqDiff, Nat.reduceLeDiff, Nat.reduceLT, Nat.reduceSub, Int.reduceEq, Int.reduceBEq, Int.reduceLT, Int.reduceLE, Int.reduceAdd, Int.reduceToNat, reduceIte, reduceCtorEq]; first | exact (h_slices_Index___int_int _ _ (by first | assumption | omega | simp)).b)); (focus (simp only [go_sem, Nat.reduceAdd, Nat.reduceMul, Nat.reduceEqDiff, Nat.reduceLeDiff, Nat.reduceLT, Nat.reduceSub, Int.reduceEq, Int.reduceBEq, Int.reduceLT, Int.reduceLE, Int.reduceAdd, Int.reduceToNat, reduceIte, reduceCtorEq])))
    | (simp only [List.length_append, List.length_cons, List.length_nil, List.length_map, Nat.reducePow, Nat.reduceAdd]; omega)
    | omega)
  refine ends_r _ rfl ?_
  simp only [go_sem, Nat.reduceAdd, Nat.reduceMul, Nat.reduceEqDiff, Nat.reduceLeDiff, Nat.reduceLT, Nat.reduceSub, Int.reduceEq, Int.reduceBEq, Int.reduceLT, Int.reduceLE, Int.reduceAdd, Int.reduceToNat, reduceIte, reduceCtorEq]
end Av
end

section
set_option linter.unusedSimpArgs false
set_option linter.unusedVariables false
set_option maxRecDepth 10000
namespace Av
open Go
attribute [local irreducible] AWp runO runP runG awS awC awCv awQ awRd awCallR awCvR awQR awR awRdR awB okR plan ris

structure CRow where
  name : List UInt8
  kind : Int
  way : Int
  sizes : List Int
  strengths : List Int
  deriving DecidableEq

def CRow.v (r : CRow) : List V := [V.str r.name, V.int r.kind, V.int r.way, .sl 1 (r.sizes.map V.int), .sl 1 (r.strengths.map V.int)]
def row0 : CRow := ⟨[], 0, 0, [], []⟩
def rowsL : List CRow := [row0, ⟨[109, 100, 53], 1, 0, [], [18]⟩, ⟨[115, 104, 97, 49], 1, 0, [], [60]⟩, ⟨[115, 104, 97, 50, 53, 54], 1, 0, [], [128]⟩, ⟨[115, 104, 97, 51, 56, 52], 1, 0, [], [192]⟩, ⟨[114, 115, 97], 2, 1, [], []⟩, ⟨[100, 115, 97], 2, 1, [], []⟩, ⟨[101, 99, 100, 115, 97], 2, 2, [], []⟩, ⟨[101, 100, 50, 53, 53, 49, 57], 2, 0, [], [128]⟩, ⟨[109, 108, 100, 115, 97], 2, 3, [44, 65, 87], [128, 192, 256]⟩, ⟨[114, 115, 97, 107, 120], 3, 1, [], []⟩, ⟨[100, 104, 101], 3, 1, [], []⟩, ⟨[101, 99, 100, 104, 101], 3, 2, [], []⟩, ⟨[109, 108, 107, 101, 109], 3, 3, [512, 768, 1024], [128, 192, 256]⟩, ⟨[114, 99, 52], 4, 3, [40, 128], [40, 60]⟩, ⟨[100, 101, 115, 51], 4, 3, [112, 168], [80, 112]⟩, ⟨[97, 101, 115, 99, 98, 99], 4, 3, [128, 256], [128, 256]⟩, ⟨[97, 101, 115, 103, 99, 109], 4, 3, [128, 256], [128, 256]⟩, ⟨[99, 104, 97, 99, 104, 97], 4, 0, [], [256]⟩, ⟨[104, 109, 97, 99, 109, 100, 53], 5, 0, [], [64]⟩, ⟨[104, 109, 97, 99, 115, 104, 97, 49], 5, 0, [], [80]⟩, ⟨[104, 109, 97, 99, 115, 104, 97, 50, 53, 54], 5, 0, [], [128]⟩, ⟨[97, 101, 97, 100], 5, 0, [], [256]⟩]
def rowsV : List V := rowsL.flatMap CRow.v
def crowAt (a : Int) : CRow := if 1 ≤ a ∧ a ≤ 22 then rowsL.getD a.toNat row0 else row0

theorem flatMap_at {α β : Type} {f : α → List β} {n : Nat} (h : ∀ x, (f x).length = n) : ∀ (l : List α) (k : Nat) (hk : k < l.length), ((l.flatMap f).drop (k * n)).take n = f l[k]
  | [], k, hk => by simp at hk
  | x :: l, 0, _ => by simp [List.take_append_of_le_length, h x]
  | x :: l, k + 1, hk => by
    have e : (k + 1) * n = (f x).length + k * n := by rw [h x, Nat.add_mul]; omega
    rw [List.flatMap_cons, e, ← List.drop_drop, List.drop_left]
    exact flatMap_at h l k (by simpa using hk)

theorem rowsV_len : rowsV.length = 115 := rfl
theorem rowsV_at (a : Int) (h1 : 1 ≤ a) (h2 : a ≤ 22) : (rowsV.drop (a.toNat * 5)).take 5 = (crowAt a).v := by
  have hl : rowsL.length = 23 := rfl
  have hk : a.toNat < rowsL.length := by omega
  rw [rowsV, flatMap_at (f := CRow.v) (n := 5) (fun _ => rfl) rowsL a.toNat hk, crowAt, if_pos ⟨h1, h2⟩, List.getD_eq_getElem?_getD, List.getElem?_eq_getElem hk, Option.getD_some]
theorem closed_row (r : CRow) : closedL r.v := by simp [CRow.v, closedL, V.closed]
theorem closed_rows : closedL rowsV := closedL_of (by
  simp only [rowsV, List.mem_flatMap]
  rintro v ⟨r, _, hr⟩
  simp [CRow.v] at hr
  rcases hr with rfl | rfl | rfl | rfl | rfl <;> trivial)

def c_catalog_rows : AC :=
  seqK [0] (.reg [⟨(some 0), .alloc [.val (.string ⟨#[]⟩), .val (.int .i64 0), .val (.int .i64 0), .nil 1, .nil 1, .val (.string ⟨#[]⟩), .val (.int .i64 0), .val (.int .i64 0), .nil 1, .nil 1, .val (.string ⟨#[]⟩), .val (.int .i64 0), .val (.int .i64 0), .nil 1, .nil 1, .val (.string ⟨#[]⟩), .val (.int .i64 0), .val (.int .i64 0), .nil 1, .nil 1, .val (.string ⟨#[]⟩), .val (.int .i64 0), .val (.int .i64 0), .nil 1, .nil 1, .val (.string ⟨#[]⟩), .val (.int .i64 0), .val (.int .i64 0), .nil 1, .nil 1, .val (.string ⟨#[]⟩), .val (.int .i64 0), .val (.int .i64 0), .nil 1, .nil 1, .val (.string ⟨#[]⟩), .val (.int .i64 0), .val (.int .i64 0), .nil 1, .nil 1, .val (.string ⟨#[]⟩), .val (.int .i64 0), .val (.int .i64 0), .nil 1, .nil 1, .val (.string ⟨#[]⟩), .val (.int .i64 0), .val (.int .i64 0), .nil 1, .nil 1, .val (.string ⟨#[]⟩), .val (.int .i64 0), .val (.int .i64 0), .nil 1, .nil 1, .val (.string ⟨#[]⟩), .val (.int .i64 0), .val (.int .i64 0), .nil 1, .nil 1, .val (.string ⟨#[]⟩), .val (.int .i64 0), .val (.int .i64 0), .nil 1, .nil 1, .val (.string ⟨#[]⟩), .val (.int .i64 0), .val (.int .i64 0), .nil 1, .nil 1, .val (.string ⟨#[]⟩), .val (.int .i64 0), .val (.int .i64 0), .nil 1, .nil 1, .val (.string ⟨#[]⟩), .val (.int .i64 0), .val (.int .i64 0), .nil 1, .nil 1, .val (.string ⟨#[]⟩), .val (.int .i64 0), .val (.int .i64 0), .nil 1, .nil 1, .val (.string ⟨#[]⟩), .val (.int .i64 0), .val (.int .i64 0), .nil 1, .nil 1, .val (.string ⟨#[]⟩), .val (.int .i64 0), .val (.int .i64 0), .nil 1, .nil 1, .val (.string ⟨#[]⟩), .val (.int .i64 0), .val (.int .i64 0), .nil 1, .nil 1, .val (.string ⟨#[]⟩), .val (.int .i64 0), .val (.int .i64 0), .nil 1, .nil 1, .val (.string ⟨#[]⟩), .val (.int .i64 0), .val (.int .i64 0), .nil 1, .nil 1, .val (.string ⟨#[]⟩), .val (.int .i64 0), .val (.int .i64 0), .nil 1, .nil 1], none⟩])
  (seqK [0] (.reg [⟨(some 1), .bslice 1 1 false [(.int .i64 0)] [(0, (.c (V.int 18)))], none⟩,
      ⟨(some 2), .build [(.string ⟨#[]⟩), (.int .i64 0), (.int .i64 0), (.slice none 0 0), (.slice none 0 0)] [(0, 1, (.c (V.str [109, 100, 53]))), (1, 1, (.c (V.int 1))), (2, 1, (.c (V.int 0))), (3, 1, (.c (.sc (.slice none 0 0)))), (4, 1, (.t 1))], none⟩,
      ⟨(some 3), .bslice 1 1 false [(.int .i64 0)] [(0, (.c (V.int 60)))], none⟩,
      ⟨(some 4), .build [(.string ⟨#[]⟩), (.int .i64 0), (.int .i64 0), (.slice none 0 0), (.slice none 0 0)] [(0, 1, (.c (V.str [115, 104, 97, 49]))), (1, 1, (.c (V.int 1))), (2, 1, (.c (V.int 0))), (3, 1, (.c (.sc (.slice none 0 0)))), (4, 1, (.t 3))], none⟩,
      ⟨(some 5), .bslice 1 1 false [(.int .i64 0)] [(0, (.c (V.int 128)))], none⟩,
      ⟨(some 6), .build [(.string ⟨#[]⟩), (.int .i64 0), (.int .i64 0), (.slice none 0 0), (.slice none 0 0)] [(0, 1, (.c (V.str [115, 104, 97, 50, 53, 54]))), (1, 1, (.c (V.int 1))), (2, 1, (.c (V.int 0))), (3, 1, (.c (.sc (.slice none 0 0)))), (4, 1, (.t 5))], none⟩,
      ⟨(some 7), .bslice 1 1 false [(.int .i64 0)] [(0, (.c (V.int 192)))], none⟩,
      ⟨(some 8), .build [(.string ⟨#[]⟩), (.int .i64 0), (.int .i64 0), (.slice none 0 0), (.slice none 0 0)] [(0, 1, (.c (V.str [115, 104, 97, 51, 56, 52]))), (1, 1, (.c (V.int 1))), (2, 1, (.c (V.int 0))), (3, 1, (.c (.sc (.slice none 0 0)))), (4, 1, (.t 7))], none⟩,
      ⟨(some 9), .build [(.string ⟨#[]⟩), (.int .i64 0), (.int .i64 0), (.slice none 0 0), (.slice none 0 0)] [(0, 1, (.c (V.str [114, 115, 97]))), (1, 1, (.c (V.int 2))), (2, 1, (.c (V.int 1))), (3, 1, (.c (.sc (.slice none 0 0)))), (4, 1, (.c (.sc (.slice none 0 0))))], none⟩,
      ⟨(some 10), .build [(.string ⟨#[]⟩), (.int .i64 0), (.int .i64 0), (.slice none 0 0), (.slice none 0 0)] [(0, 1, (.c (V.str [100, 115, 97]))), (1, 1, (.c (V.int 2))), (2, 1, (.c (V.int 1))), (3, 1, (.c (.sc (.slice none 0 0)))), (4, 1, (.c (.sc (.slice none 0 0))))], none⟩,
      ⟨(some 11), .build [(.string ⟨#[]⟩), (.int .i64 0), (.int .i64 0), (.slice none 0 0), (.slice none 0 0)] [(0, 1, (.c (V.str [101, 99, 100, 115, 97]))), (1, 1, (.c (V.int 2))), (2, 1, (.c (V.int 2))), (3, 1, (.c (.sc (.slice none 0 0)))), (4, 1, (.c (.sc (.slice none 0 0))))], none⟩,
      ⟨(some 12), .bslice 1 1 false [(.int .i64 0)] [(0, (.c (V.int 128)))], none⟩,
      ⟨(some 13), .build [(.string ⟨#[]⟩), (.int .i64 0), (.int .i64 0), (.slice none 0 0), (.slice none 0 0)] [(0, 1, (.c (V.str [101, 100, 50, 53, 53, 49, 57]))), (1, 1, (.c (V.int 2))), (2, 1, (.c (V.int 0))), (3, 1, (.c (.sc (.slice none 0 0)))), (4, 1, (.t 12))], none⟩,
      ⟨(some 14), .bslice 3 1 false [(.int .i64 0)] [(0, (.c (V.int 44))), (1, (.c (V.int 65))), (2, (.c (V.int 87)))], none⟩,
      ⟨(some 15), .bslice 3 1 false [(.int .i64 0)] [(0, (.c (V.int 128))), (1, (.c (V.int 192))), (2, (.c (V.int 256)))], none⟩,
      ⟨(some 16), .build [(.string ⟨#[]⟩), (.int .i64 0), (.int .i64 0), (.slice none 0 0), (.slice none 0 0)] [(0, 1, (.c (V.str [109, 108, 100, 115, 97]))), (1, 1, (.c (V.int 2))), (2, 1, (.c (V.int 3))), (3, 1, (.t 14)), (4, 1, (.t 15))], none⟩,
      ⟨(some 17), .build [(.string ⟨#[]⟩), (.int .i64 0), (.int .i64 0), (.slice none 0 0), (.slice none 0 0)] [(0, 1, (.c (V.str [114, 115, 97, 107, 120]))), (1, 1, (.c (V.int 3))), (2, 1, (.c (V.int 1))), (3, 1, (.c (.sc (.slice none 0 0)))), (4, 1, (.c (.sc (.slice none 0 0))))], none⟩,
      ⟨(some 18), .build [(.string ⟨#[]⟩), (.int .i64 0), (.int .i64 0), (.slice none 0 0), (.slice none 0 0)] [(0, 1, (.c (V.str [100, 104, 101]))), (1, 1, (.c (V.int 3))), (2, 1, (.c (V.int 1))), (3, 1, (.c (.sc (.slice none 0 0)))), (4, 1, (.c (.sc (.slice none 0 0))))], none⟩,
      ⟨(some 19), .build [(.string ⟨#[]⟩), (.int .i64 0), (.int .i64 0), (.slice none 0 0), (.slice none 0 0)] [(0, 1, (.c (V.str [101, 99, 100, 104, 101]))), (1, 1, (.c (V.int 3))), (2, 1, (.c (V.int 2))), (3, 1, (.c (.sc (.slice none 0 0)))), (4, 1, (.c (.sc (.slice none 0 0))))], none⟩,
      ⟨(some 20), .bslice 3 1 false [(.int .i64 0)] [(0, (.c (V.int 512))), (1, (.c (V.int 768))), (2, (.c (V.int 1024)))], none⟩,
      ⟨(some 21), .bslice 3 1 false [(.int .i64 0)] [(0, (.c (V.int 128))), (1, (.c (V.int 192))), (2, (.c (V.int 256)))], none⟩,
      ⟨(some 22), .build [(.string ⟨#[]⟩), (.int .i64 0), (.int .i64 0), (.slice none 0 0), (.slice none 0 0)] [(0, 1, (.c (V.str [109, 108, 107, 101, 109]))), (1, 1, (.c (V.int 3))), (2, 1, (.c (V.int 3))), (3, 1, (.t 20)), (4, 1, (.t 21))], none⟩,
      ⟨(some 23), .bslice 2 1 false [(.int .i64 0)] [(0, (.c (V.int 40))), (1, (.c (V.int 128)))], none⟩,
      ⟨(some 24), .bslice 2 1 false [(.int .i64 0)] [(0, (.c (V.int 40))), (1, (.c (V.int 60)))], none⟩,
      ⟨(some 25), .build [(.string ⟨#[]⟩), (.int .i64 0), (.int .i64 0), (.slice none 0 0), (.slice none 0 0)] [(0, 1, (.c (V.str [114, 99, 52]))), (1, 1, (.c (V.int 4))), (2, 1, (.c (V.int 3))), (3, 1, (.t 23)), (4, 1, (.t 24))], none⟩,
      ⟨(some 26), .bslice 2 1 false [(.int .i64 0)] [(0, (.c (V.int 112))), (1, (.c (V.int 168)))], none⟩,
      ⟨(some 27), .bslice 2 1 false [(.int .i64 0)] [(0, (.c (V.int 80))), (1, (.c (V.int 112)))], none⟩,
      ⟨(some 28), .build [(.string ⟨#[]⟩), (.int .i64 0), (.int .i64 0), (.slice none 0 0), (.slice none 0 0)] [(0, 1, (.c (V.str [100, 101, 115, 51]))), (1, 1, (.c (V.int 4))), (2, 1, (.c (V.int 3))), (3, 1, (.t 26)), (4, 1, (.t 27))], none⟩,
      ⟨(some 29), .bslice 2 1 false [(.int .i64 0)] [(0, (.c (V.int 128))), (1, (.c (V.int 256)))], none⟩,
      ⟨(some 30), .bslice 2 1 false [(.int .i64 0)] [(0, (.c (V.int 128))), (1, (.c (V.int 256)))], none⟩,
      ⟨(some 31), .build [(.string ⟨#[]⟩), (.int .i64 0), (.int .i64 0), (.slice none 0 0), (.slice none 0 0)] [(0, 1, (.c (V.str [97, 101, 115, 99, 98, 99]))), (1, 1, (.c (V.int 4))), (2, 1, (.c (V.int 3))), (3, 1, (.t 29)), (4, 1, (.t 30))], none⟩,
      ⟨(some 32), .bslice 2 1 false [(.int .i64 0)] [(0, (.c (V.int 128))), (1, (.c (V.int 256)))], none⟩,
      ⟨(some 33), .bslice 2 1 false [(.int .i64 0)] [(0, (.c (V.int 128))), (1, (.c (V.int 256)))], none⟩,
      ⟨(some 34), .build [(.string ⟨#[]⟩), (.int .i64 0), (.int .i64 0), (.slice none 0 0), (.slice none 0 0)] [(0, 1, (.c (V.str [97, 101, 115, 103, 99, 109]))), (1, 1, (.c (V.int 4))), (2, 1, (.c (V.int 3))), (3, 1, (.t 32)), (4, 1, (.t 33))], none⟩,
      ⟨(some 35), .bslice 1 1 false [(.int .i64 0)] [(0, (.c (V.int 256)))], none⟩,
      ⟨(some 36), .build [(.string ⟨#[]⟩), (.int .i64 0), (.int .i64 0), (.slice none 0 0), (.slice none 0 0)] [(0, 1, (.c (V.str [99, 104, 97, 99, 104, 97]))), (1, 1, (.c (V.int 4))), (2, 1, (.c (V.int 0))), (3, 1, (.c (.sc (.slice none 0 0)))), (4, 1, (.t 35))], none⟩,
      ⟨(some 37), .bslice 1 1 false [(.int .i64 0)] [(0, (.c (V.int 64)))], none⟩,
      ⟨(some 38), .build [(.string ⟨#[]⟩), (.int .i64 0), (.int .i64 0), (.slice none 0 0), (.slice none 0 0)] [(0, 1, (.c (V.str [104, 109, 97, 99, 109, 100, 53]))), (1, 1, (.c (V.int 5))), (2, 1, (.c (V.int 0))), (3, 1, (.c (.sc (.slice none 0 0)))), (4, 1, (.t 37))], none⟩,
      ⟨(some 39), .bslice 1 1 false [(.int .i64 0)] [(0, (.c (V.int 80)))], none⟩,
      ⟨(some 40), .build [(.string ⟨#[]⟩), (.int .i64 0), (.int .i64 0), (.slice none 0 0), (.slice none 0 0)] [(0, 1, (.c (V.str [104, 109, 97, 99, 115, 104, 97, 49]))), (1, 1, (.c (V.int 5))), (2, 1, (.c (V.int 0))), (3, 1, (.c (.sc (.slice none 0 0)))), (4, 1, (.t 39))], none⟩,
      ⟨(some 41), .bslice 1 1 false [(.int .i64 0)] [(0, (.c (V.int 128)))], none⟩,
      ⟨(some 42), .build [(.string ⟨#[]⟩), (.int .i64 0), (.int .i64 0), (.slice none 0 0), (.slice none 0 0)] [(0, 1, (.c (V.str [104, 109, 97, 99, 115, 104, 97, 50, 53, 54]))), (1, 1, (.c (V.int 5))), (2, 1, (.c (V.int 0))), (3, 1, (.c (.sc (.slice none 0 0)))), (4, 1, (.t 41))], none⟩,
      ⟨(some 43), .bslice 1 1 false [(.int .i64 0)] [(0, (.c (V.int 256)))], none⟩,
      ⟨(some 44), .build [(.string ⟨#[]⟩), (.int .i64 0), (.int .i64 0), (.slice none 0 0), (.slice none 0 0)] [(0, 1, (.c (V.str [97, 101, 97, 100]))), (1, 1, (.c (V.int 5))), (2, 1, (.c (V.int 0))), (3, 1, (.c (.sc (.slice none 0 0)))), (4, 1, (.t 43))], none⟩,
      ⟨(some 45), .build [(.string ⟨#[]⟩), (.int .i64 0), (.int .i64 0), (.slice none 0 0), (.slice none 0 0), (.string ⟨#[]⟩), (.int .i64 0), (.int .i64 0), (.slice none 0 0), (.slice none 0 0), (.string ⟨#[]⟩), (.int .i64 0), (.int .i64 0), (.slice none 0 0), (.slice none 0 0), (.string ⟨#[]⟩), (.int .i64 0), (.int .i64 0), (.slice none 0 0), (.slice none 0 0), (.string ⟨#[]⟩), (.int .i64 0), (.int .i64 0), (.slice none 0 0), (.slice none 0 0), (.string ⟨#[]⟩), (.int .i64 0), (.int .i64 0), (.slice none 0 0), (.slice none 0 0), (.string ⟨#[]⟩), (.int .i64 0), (.int .i64 0), (.slice none 0 0), (.slice none 0 0), (.string ⟨#[]⟩), (.int .i64 0), (.int .i64 0), (.slice none 0 0), (.slice none 0 0), (.string ⟨#[]⟩), (.int .i64 0), (.int .i64 0), (.slice none 0 0), (.slice none 0 0), (.string ⟨#[]⟩), (.int .i64 0), (.int .i64 0), (.slice none 0 0), (.slice none 0 0), (.string ⟨#[]⟩), (.int .i64 0), (.int .i64 0), (.slice none 0 0), (.slice none 0 0), (.string ⟨#[]⟩), (.int .i64 0), (.int .i64 0), (.slice none 0 0), (.slice none 0 0), (.string ⟨#[]⟩), (.int .i64 0), (.int .i64 0), (.slice none 0 0), (.slice none 0 0), (.string ⟨#[]⟩), (.int .i64 0), (.int .i64 0), (.slice none 0 0), (.slice none 0 0), (.string ⟨#[]⟩), (.int .i64 0), (.int .i64 0), (.slice none 0 0), (.slice none 0 0), (.string ⟨#[]⟩), (.int .i64 0), (.int .i64 0), (.slice none 0 0), (.slice none 0 0), (.string ⟨#[]⟩), (.int .i64 0), (.int .i64 0), (.slice none 0 0), (.slice none 0 0), (.string ⟨#[]⟩), (.int .i64 0), (.int .i64 0), (.slice none 0 0), (.slice none 0 0), (.string ⟨#[]⟩), (.int .i64 0), (.int .i64 0), (.slice none 0 0), (.slice none 0 0), (.string ⟨#[]⟩), (.int .i64 0), (.int .i64 0), (.slice none 0 0), (.slice none 0 0), (.string ⟨#[]⟩), (.int .i64 0), (.int .i64 0), (.slice none 0 0), (.slice none 0 0), (.string ⟨#[]⟩), (.int .i64 0), (.int .i64 0), (.slice none 0 0), (.slice none 0 0), (.string ⟨#[]⟩), (.int .i64 0), (.int .i64 0), (.slice none 0 0), (.slice none 0 0)] [(5, 5, (.t 2)), (10, 5, (.t 4)), (15, 5, (.t 6)), (20, 5, (.t 8)), (25, 5, (.t 9)), (30, 5, (.t 10)), (35, 5, (.t 11)), (40, 5, (.t 13)), (45, 5, (.t 16)), (50, 5, (.t 17)), (55, 5, (.t 18)), (60, 5, (.t 19)), (65, 5, (.t 22)), (70, 5, (.t 25)), (75, 5, (.t 28)), (80, 5, (.t 31)), (85, 5, (.t 34)), (90, 5, (.t 36)), (95, 5, (.t 38)), (100, 5, (.t 40)), (105, 5, (.t 42)), (110, 5, (.t 44))], none⟩,
      ⟨none, .store 115 (.t 0) (.t 45), none⟩])
   (.ret))

def r_catalog_rows : List ARes := [.cell 0 true 115]
def CE_catalog_rows (Γ : Env) (f : Nat) : Prop := EvC Γ f [] (.agg rowsV)
theorem ev_catalog_rows {Γ : Env} {f : Nat} (h : Has Γ.P f 46 c_catalog_rows r_catalog_rows)  : CE_catalog_rows Γ f := by
  refine evC_of_body h (by simp) (closed_rows) fun C hC hm => ?_
  subst hC
  unfold c_catalog_rows
  repeat' (first
    | refine awp_seqR fun K' hK => ?_
    | refine awp_regR fun K' hK => ?_
    | refine awp_seqK ?_
    | refine awp_skip ?_
    | refine awp_block ?_
    | ((first | refine awp_cond ⟨_, rfl, fun hc => ?_, fun hc => ?_⟩ | refine awB_t (fun hc => ?_) (fun hc => ?_) | refine awB_f (fun hc => ?_) (fun hc => ?_)) <;> first | exact Bool.noConfusion hc | (exfalso; simp only [decide_eq_true_eq, decide_eq_false_iff_not, List.length_map, Bool.not_eq_true', Bool.not_eq_false'] at hc; omega) | (try simp only [decide_eq_true_eq, decide_eq_false_iff_not, beq_iff_eq, beq_eq_false_iff_ne, ne_eq, Bool.not_eq_true', Bool.not_eq_false'] at hc))
    | refine awp_ret ?_
    | refine awp_exit ?_
    | simp (maxSteps := 1000000) only [go_sem, Nat.reduceAdd, Nat.reduceMul, Nat.reduceEqDiff, Nat.reduceLeDiff, Nat.reduceLT, Nat.reduceSub, Int.reduceEq, Int.reduceBEq, Int.reduceLT, Int.reduceLE, Int.reduceAdd, Int.reduceToNat, reduceIte, reduceCtorEq]
    | (refine hK _ ?_; clear hK; clear K')
    | refine And.intro ?_ ?_
    | (simp only [List.length_append, List.length_cons, List.length_nil, List.length_map, Nat.reducePow, Nat.reduceAdd]; omega)
    | omega)
  refine ends_r _ rfl ?_
  simp only [rowsV, rowsL, row0, CRow.v, List.flatMap_cons, List.flatMap_nil, go_sem, Nat.reduceAdd, Nat.reduceMul, Nat.reduceEqDiff, Nat.reduceLeDiff, Nat.reduceLT, Nat.reduceSub, Int.reduceEq, Int.reduceBEq, Int.reduceLT, Int.reduceLE, Int.reduceAdd, Int.reduceToNat, reduceIte, reduceCtorEq]

def c_catalog_of (f_catalog_rows : Nat) : AC :=
  seqK [0, 2] (.reg [⟨(some 2), .alloc [.val (.string ⟨#[]⟩), .val (.int .i64 0), .val (.int .i64 0), .nil 1, .nil 1], none⟩,
     ⟨(some 3), .mov (.c (V.bool false)), none⟩])
  (seqK [0, 2] (seqK [0, 2, 9] (.reg [⟨(some 4), .mov (.t 0), none⟩,
       ⟨(some 5), .bin .lss (.t 4) (.c (V.int 1)), none⟩,
       ⟨(some 6), .mov (.t 5), none⟩,
       ⟨(some 7), .mov (.t 0), (some (6, false))⟩,
       ⟨(some 8), .bin .gtr (.t 7) (.c (V.int 22)), (some (6, false))⟩,
       ⟨(some 9), .pick (.t 6) (.c (V.bool true)) (.t 8), none⟩])
    (.cond (.t 9)
      (seqK [2, 3] (.reg [⟨(some 10), .build [(.string ⟨#[]⟩), (.int .i64 0), (.int .i64 0), (.slice none 0 0), (.slice none 0 0)] [], none⟩,
          ⟨none, .store 5 (.t 2) (.t 10), none⟩,
          ⟨(some 3), .mov (.c (V.bool false)), none⟩])
       (.ret))
      (.skip)))
   (seqK [2, 3] (.reg [⟨(some 11), .call f_catalog_rows [], none⟩,
       ⟨(some 12), .mov (.t 0), none⟩,
       ⟨(some 13), .idxA true 23 5 (.t 11) (.t 12), none⟩,
       ⟨none, .store 5 (.t 2) (.t 13), none⟩,
       ⟨(some 3), .mov (.c (V.bool true)), none⟩])
    (.ret)))

def r_catalog_of : List ARes := [.cell 2 true 5, .tmp 3]
def CE_catalog_of (Γ : Env) (f : Nat) : Prop := ∀ (a : Int), EvC Γ f [V.int a] (.tup [.agg (crowAt a).v, V.bool (decide (1 ≤ a ∧ a ≤ 22))])
theorem ev_catalog_of {Γ : Env} {f f_catalog_rows : Nat} (h : Has Γ.P f 14 (c_catalog_of f_catalog_rows) r_catalog_of) (h_catalog_rows : CE_catalog_rows Γ f_catalog_rows) : CE_catalog_of Γ f := by
  intro a
  refine evC_of_body h (by simp) (⟨closed_row _, trivial, trivial⟩) fun C hC hm => ?_
  subst hC
  unfold c_catalog_of
  repeat' (first
    | refine awp_seqR fun K' hK => ?_
    | refine awp_regR fun K' hK => ?_
    | refine awp_seqK ?_
    | refine awp_skip ?_
    | refine awp_block ?_
    | ((first | refine awp_cond ⟨_, rfl, fun hc => ?_, fun hc => ?_⟩ | refine awB_t (fun hc => ?_) (fun hc => ?_) | refine awB_f (fun hc => ?_) (fun hc => ?_)) <;> first | exact Bool.noConfusion hc | (exfalso; simp only [decide_eq_true_eq, decide_eq_false_iff_not, List.length_map, Bool.not_eq_true', Bool.not_eq_false'] at hc; omega) | (try simp only [decide_eq_true_eq, decide_eq_false_iff_not, beq_iff_eq, beq_eq_false_iff_ne, ne_eq, Bool.not_eq_true', Bool.not_eq_false'] at hc))
    | refine awp_ret ?_
    | refine awp_exit ?_
    | simp (maxSteps := 1000000) only [go_sem, Nat.reduceAdd, Nat.reduceMul, Nat.reduceEqDiff, Nat.reduceLeDiff, Nat.reduceLT, Nat.reduceSub, Int.reduceEq, Int.reduceBEq, Int.reduceLT, Int.reduceLE, Int.reduceAdd, Int.reduceToNat, reduceIte, reduceCtorEq]
    | (refine hK _ ?_; clear hK; clear K')
    | refine And.intro ?_ ?_
    | (apply awC_A; (focus (simp only [go_sem, Nat.reduceAdd, Nat.reduceMul, Nat.reduceEqDiff, Nat.reduceLeDiff, Nat.reduceLT, Nat.reduceSub, Int.reduceEq, Int.reduceBEq, Int.reduceLT, Int.reduceLE, Int.reduceAdd, Int.reduceToNat, reduceIte, reduceCtorEq]; first | exact EvC.b h_catalog_rows)); (focus (simp only [go_sem, Nat.reduceAdd, Nat.reduceMul, Nat.reduceEqDiff, Nat.reduceLeDiff, Nat.reduceLT, Nat.reduceSub, Int.reduceEq, Int.reduceBEq, Int.reduceLT, Int.reduceLE, Int.reduceAdd, Int.reduceToNat, reduceIte, reduceCtorEq])))
    | (simp only [List.length_append, List.length_cons, List.length_nil, List.length_map, Nat.reducePow, Nat.reduceAdd]; omega)
    | omega)
  · refine ends_r _ rfl ?_
    rw [crowAt, if_neg (by omega)]
    simp only [go_sem, Nat.reduceAdd, Nat.reduceMul, Nat.reduceEqDiff, Nat.reduceLeDiff, Nat.reduceLT, Nat.reduceSub, Int.reduceEq, Int.reduceBEq, Int.reduceLT, Int.reduceLE, Int.reduceAdd, Int.reduceToNat, reduceIte, reduceCtorEq, CRow.v, row0, List.map_nil, and_self]
    simp; omega
  · rw [rowsV_len]; omega
  · rw [rowsV_at a (by omega) (by omega)]; rfl
  · rw [rowsV_at a (by omega) (by omega)]
    refine ends_r _ rfl ?_
    simp only [go_sem, Nat.reduceAdd, Nat.reduceMul, Nat.reduceEqDiff, Nat.reduceLeDiff, Nat.reduceLT, Nat.reduceSub, Int.reduceEq, Int.reduceBEq, Int.reduceLT, Int.reduceLE, Int.reduceAdd, Int.reduceToNat, reduceIte, reduceCtorEq, CRow.v, List.length_cons, List.length_nil, go_sem, Nat.reduceAdd, Nat.reduceMul, Nat.reduceEqDiff, Nat.reduceLeDiff, Nat.reduceLT, Nat.reduceSub, Int.reduceEq, Int.reduceBEq, Int.reduceLT, Int.reduceLE, Int.reduceAdd, Int.reduceToNat, reduceIte, reduceCtorEq]
    simp; omega
  · refine ends_r _ rfl ?_
    rw [crowAt, if_neg (by omega)]
    simp only [go_sem, Nat.reduceAdd, Nat.reduceMul, Nat.reduceEqDiff, Nat.reduceLeDiff, Nat.reduceLT, Nat.reduceSub, Int.reduceEq, Int.reduceBEq, Int.reduceLT, Int.reduceLE, Int.reduceAdd, Int.reduceToNat, reduceIte, reduceCtorEq, CRow.v, row0, List.map_nil, and_self]
    simp; omega
end Av
end

section
set_option linter.unusedSimpArgs false
set_option linter.unusedVariables false
set_option maxRecDepth 10000
namespace Av
open Go
attribute [local irreducible] AWp runO runP runG awS awC awCv awQ awRd awCallR awCvR awQR awR awRdR awB okR plan ris

def modL (b : Int) : List (Int × Int) → Int
  | [] => 256
  | (x, y) :: r => if b < x then y else modL b r
def modT : List (Int × Int) := [(1024, 56), (2048, 80), (3072, 112), (7680, 128), (15360, 192)]

def c_catalog_modulus : AC :=
  seqK [0] (.reg [⟨(some 2), .mov (.c (V.int 0)), none⟩])
  (seqK [] (seqK [0, 10, 11] (.reg [⟨(some 5), .build [(.int .i64 0), (.int .i64 0)] [(0, 1, (.c (V.int 1024))), (1, 1, (.c (V.int 56)))], none⟩,
       ⟨(some 6), .build [(.int .i64 0), (.int .i64 0)] [(0, 1, (.c (V.int 2048))), (1, 1, (.c (V.int 80)))], none⟩,
       ⟨(some 7), .build [(.int .i64 0), (.int .i64 0)] [(0, 1, (.c (V.int 3072))), (1, 1, (.c (V.int 112)))], none⟩,
       ⟨(some 8), .build [(.int .i64 0), (.int .i64 0)] [(0, 1, (.c (V.int 7680))), (1, 1, (.c (V.int 128)))], none⟩,
       ⟨(some 9), .build [(.int .i64 0), (.int .i64 0)] [(0, 1, (.c (V.int 15360))), (1, 1, (.c (V.int 192)))], none⟩,
       ⟨(some 10), .build [(.int .i64 0), (.int .i64 0), (.int .i64 0), (.int .i64 0), (.int .i64 0), (.int .i64 0), (.int .i64 0), (.int .i64 0), (.int .i64 0), (.int .i64 0)] [(0, 2, (.t 5)), (2, 2, (.t 6)), (4, 2, (.t 7)), (6, 2, (.t 8)), (8, 2, (.t 9))], none⟩,
       ⟨(some 11), .mov (.c (V.int 0)), none⟩])
    (.block 0 (loopK [0, 10, 11] (seqK [0, 10, 11, 12] (.reg [⟨(some 12), .bin .lss (.t 11) (.c (V.int 5)), none⟩])
       (seqK [0, 10, 11] (.cond (.t 12)
          (.skip)
          (.exit 0))
        (seqK [0, 10, 11] (.block 1 (seqK [0, 4, 10, 11] (.reg [⟨(some 13), .idxA true 5 2 (.t 10) (.t 11), none⟩,
              ⟨(some 4), .alloc [.val (.int .i64 0), .val (.int .i64 0)], none⟩,
              ⟨none, .store 2 (.t 4) (.t 13), none⟩])
           (seqK [0, 4, 10, 11, 17] (.reg [⟨(some 14), .mov (.t 0), none⟩,
               ⟨(some 15), .iaddrA 2 1 (.t 4) (.c (V.int 0)), none⟩,
               ⟨(some 16), .load false 1 (.t 15), none⟩,
               ⟨(some 17), .bin .lss (.t 14) (.t 16), none⟩])
            (.cond (.t 17)
              (seqK [2] (.reg [⟨(some 18), .iaddrA 2 1 (.t 4) (.c (V.int 1)), none⟩,
                  ⟨(some 19), .load false 1 (.t 18), none⟩,
                  ⟨(some 2), .mov (.t 19), none⟩])
               (.ret))
              (.skip)))))
         (.reg [⟨(some 20), .bin .add (.t 11) (.c (V.int 1)), none⟩,
            ⟨(some 11), .mov (.t 20), none⟩])))))))
   (seqK [2] (.reg [⟨(some 2), .mov (.c (V.int 256)), none⟩])
    (.ret)))

def r_catalog_modulus : List ARes := [.tmp 2]
def CE_catalog_modulus (Γ : Env) (f : Nat) : Prop := ∀ (b : Int), EvN Γ f [V.int b] (V.int (modL b modT))
theorem ev_catalog_modulus {Γ : Env} {f : Nat} (h : Has Γ.P f 21 c_catalog_modulus r_catalog_modulus)  : CE_catalog_modulus Γ f := by
  intro b
  refine evN_of_body h (by simp) (by simp only [V.closed, closedL, V.noSl, noSlL, and_self, and_true, true_and]) (by simp only [V.closed, closedL, V.noSl, noSlL, and_self, and_true, true_and]) fun C hC hm => ?_
  subst hC
  unfold c_catalog_modulus
  repeat' (first
    | refine awp_seqR fun K' hK => ?_
    | refine awp_regR fun K' hK => ?_
    | refine awp_seqK ?_
    | refine awp_skip ?_
    | refine awp_block ?_
    | ((first | refine awp_cond ⟨_, rfl, fun hc => ?_, fun hc => ?_⟩ | refine awB_t (fun hc => ?_) (fun hc => ?_) | refine awB_f (fun hc => ?_) (fun hc => ?_)) <;> first | exact Bool.noConfusion hc | (exfalso; simp only [decide_eq_true_eq, decide_eq_false_iff_not, List.length_map, Bool.not_eq_true', Bool.not_eq_false'] at hc; omega) | (try simp only [decide_eq_true_eq, decide_eq_false_iff_not, beq_iff_eq, beq_eq_false_iff_ne, ne_eq, Bool.not_eq_true', Bool.not_eq_false'] at hc))
    | refine awp_ret ?_
    | refine awp_exit ?_
    | simp (maxSteps := 1000000) only [go_sem, Nat.reduceAdd, Nat.reduceMul, Nat.reduceEqDiff, Nat.reduceLeDiff, Nat.reduceLT, Nat.reduceSub, Int.reduceEq, Int.reduceBEq, Int.reduceLT, Int.reduceLE, Int.reduceAdd, Int.reduceToNat, reduceIte, reduceCtorEq]
    | (refine hK _ ?_; clear hK; clear K')
    | refine And.intro ?_ ?_
    | (simp only [List.length_append, List.length_cons, List.length_nil, List.length_map, Nat.reducePow, Nat.reduceAdd]; omega)
    | omega)
  refine awp_loopP (ι := Int) (fun k => 0 ≤ k ∧ k ≤ 5 ∧ modL b (modT.drop k.toNat) = modL b modT) (fun k => [(11, V.int k)]) (fun k => (5 - k).toNat) 0 (by omega) ⟨by simp, by simp, rfl⟩ (by repeat' first | exact ltO_none | refine ltO_upd (by omega) (by simp only [Ob.lt, ltL, V.lt, and_self, and_true]; try omega) ?_) (fun i hi => by simp only [ovT, lookD, Nat.reduceEqDiff, reduceIte]; (repeat' first | exact ltT_nil | refine ltT_cons ?_ ?_ | simp only [V.lt, ltL, and_self, and_true] | omega)) (by simp only [Nat.reduceAdd, ovT, lookD, Nat.reduceEqDiff, reduceIte, eqT_cons, eqT_nil, renI, u32, u33, u34, u35, u36, u37, u38, u39, and_self, and_true, true_and]) fun k hk K' hL => ?_
  obtain ⟨hk0, hk, hinv⟩ := hk
  simp only [ovT, lookD, Nat.reduceEqDiff, reduceIte]
  rcases (by omega : k = 0 ∨ k = 1 ∨ k = 2 ∨ k = 3 ∨ k = 4 ∨ k = 5) with rfl | rfl | rfl | rfl | rfl | rfl
  all_goals repeat' (first
    | refine awp_seqR fun K' hK => ?_
    | refine awp_regR fun K' hK => ?_
    | refine awp_seqK ?_
    | refine awp_skip ?_
    | refine awp_block ?_
    | ((first | refine awp_cond ⟨_, rfl, fun hc => ?_, fun hc => ?_⟩ | refine awB_t (fun hc => ?_) (fun hc => ?_) | refine awB_f (fun hc => ?_) (fun hc => ?_)) <;> first | exact Bool.noConfusion hc | (exfalso; simp only [decide_eq_true_eq, decide_eq_false_iff_not, List.length_map, Bool.not_eq_true', Bool.not_eq_false'] at hc; omega) | (try simp only [decide_eq_true_eq, decide_eq_false_iff_not, beq_iff_eq, beq_eq_false_iff_ne, ne_eq, Bool.not_eq_true', Bool.not_eq_false'] at hc))
    | refine awp_ret ?_
    | refine awp_exit ?_
    | simp (maxSteps := 1000000) only [go_sem, Nat.reduceAdd, Nat.reduceMul, Nat.reduceEqDiff, Nat.reduceLeDiff, Nat.reduceLT, Nat.reduceSub, Int.reduceEq, Int.reduceBEq, Int.reduceLT, Int.reduceLE, Int.reduceAdd, Int.reduceToNat, reduceIte, reduceCtorEq, Int.reduceToNat, Int.reduceLT, Int.reduceLE]
    | (refine hK _ ?_; clear hK; clear K')
    | refine And.intro ?_ ?_
    | (simp only [List.length_append, List.length_cons, List.length_nil, List.length_map, Nat.reducePow, Nat.reduceAdd]; omega)
    | omega)
  all_goals first
    | (refine ends_r _ rfl ?_; simp only [go_sem, Nat.reduceAdd, Nat.reduceMul, Nat.reduceEqDiff, Nat.reduceLeDiff, Nat.reduceLT, Nat.reduceSub, Int.reduceEq, Int.reduceBEq, Int.reduceLT, Int.reduceLE, Int.reduceAdd, Int.reduceToNat, reduceIte, reduceCtorEq]; rw [← hinv]; first | rfl | simp [modT, modL, hc])
    | (refine hL _ 1 (by simp only [Nat.reduceAdd, ovT, lookD, Nat.reduceEqDiff, reduceIte, eqT_cons, eqT_nil, renI, u32, u33, u34, u35, u36, u37, u38, u39, and_self, and_true, true_and]; rfl) ⟨by omega, by omega, ?_⟩ (by decide) (fun a ha => by simp only [u32, u33, u34, u35, u36, u37, u38, u39]; repeat rw [if_neg (by omega)]); rw [← hinv]; simp [modT, modL, hc])
    | (refine hL _ 2 (by simp only [Nat.reduceAdd, ovT, lookD, Nat.reduceEqDiff, reduceIte, eqT_cons, eqT_nil, renI, u32, u33, u34, u35, u36, u37, u38, u39, and_self, and_true, true_and]; rfl) ⟨by omega, by omega, ?_⟩ (by decide) (fun a ha => by simp only [u32, u33, u34, u35, u36, u37, u38, u39]; repeat rw [if_neg (by omega)]); rw [← hinv]; simp [modT, modL, hc])
    | (refine hL _ 3 (by simp only [Nat.reduceAdd, ovT, lookD, Nat.reduceEqDiff, reduceIte, eqT_cons, eqT_nil, renI, u32, u33, u34, u35, u36, u37, u38, u39, and_self, and_true, true_and]; rfl) ⟨by omega, by omega, ?_⟩ (by decide) (fun a ha => by simp only [u32, u33, u34, u35, u36, u37, u38, u39]; repeat rw [if_neg (by omega)]); rw [← hinv]; simp [modT, modL, hc])
    | (refine hL _ 4 (by simp only [Nat.reduceAdd, ovT, lookD, Nat.reduceEqDiff, reduceIte, eqT_cons, eqT_nil, renI, u32, u33, u34, u35, u36, u37, u38, u39, and_self, and_true, true_and]; rfl) ⟨by omega, by omega, ?_⟩ (by decide) (fun a ha => by simp only [u32, u33, u34, u35, u36, u37, u38, u39]; repeat rw [if_neg (by omega)]); rw [← hinv]; simp [modT, modL, hc])
    | (refine hL _ 5 (by simp only [Nat.reduceAdd, ovT, lookD, Nat.reduceEqDiff, reduceIte, eqT_cons, eqT_nil, renI, u32, u33, u34, u35, u36, u37, u38, u39, and_self, and_true, true_and]; rfl) ⟨by omega, by omega, ?_⟩ (by decide) (fun a ha => by simp only [u32, u33, u34, u35, u36, u37, u38, u39]; repeat rw [if_neg (by omega)]); rw [← hinv]; simp [modT, modL, hc])
    | trace_state

def c_catalog_Name (f_catalog_of : Nat) : AC :=
  seqK [0] (.reg [⟨(some 2), .mov (.c (V.str [])), none⟩])
  (seqK [3] (.reg [⟨(some 6), .mov (.t 0), none⟩,
      ⟨(some 7), .call f_catalog_of [(.t 6)], none⟩,
      ⟨(some 5), .mov (.t 7), none⟩,
      ⟨(some 8), .ext (.t 5) 0, none⟩,
      ⟨(some 9), .ext (.t 5) 1, none⟩,
      ⟨(some 3), .alloc [.val (.string ⟨#[]⟩), .val (.int .i64 0), .val (.int .i64 0), .nil 1, .nil 1], none⟩,
      ⟨none, .store 5 (.t 3) (.t 8), none⟩,
      ⟨(some 4), .mov (.t 9), none⟩])
   (seqK [2] (.reg [⟨(some 10), .faddr 0 (.t 3), none⟩,
       ⟨(some 11), .load false 1 (.t 10), none⟩,
       ⟨(some 2), .mov (.t 11), none⟩])
    (.ret)))

def r_catalog_Name : List ARes := [.tmp 2]
def CE_catalog_Name (Γ : Env) (f : Nat) : Prop := ∀ (a : Int), EvN Γ f [V.int a] (V.str (crowAt a).name)
theorem ev_catalog_Name {Γ : Env} {f f_catalog_of : Nat} (h : Has Γ.P f 12 (c_catalog_Name f_catalog_of) r_catalog_Name) (h_catalog_of : CE_catalog_of Γ f_catalog_of) : CE_catalog_Name Γ f := by
  intro a
  refine evN_of_body h (by simp) (by simp only [V.closed, closedL, V.noSl, noSlL, and_self, and_true, true_and]) (by simp only [V.closed, closedL, V.noSl, noSlL, and_self, and_true, true_and]) fun C hC hm => ?_
  subst hC
  unfold c_catalog_Name
  repeat' (first
    | refine awp_seqR fun K' hK => ?_
    | refine awp_regR fun K' hK => ?_
    | refine awp_seqK ?_
    | refine awp_skip ?_
    | refine awp_block ?_
    | ((first | refine awp_cond ⟨_, rfl, fun hc => ?_, fun hc => ?_⟩ | refine awB_t (fun hc => ?_) (fun hc => ?_) | refine awB_f (fun hc => ?_) (fun hc => ?_)) <;> first | exact Bool.noConfusion hc | (exfalso; simp only [decide_eq_true_eq, decide_eq_false_iff_not, List.length_map, Bool.not_eq_true', Bool.not_eq_false'] at hc; omega) | (try simp only [decide_eq_true_eq, decide_eq_false_iff_not, beq_iff_eq, beq_eq_false_iff_ne, ne_eq, Bool.not_eq_true', Bool.not_eq_false'] at hc))
    | refine awp_ret ?_
    | refine awp_exit ?_
    | simp (maxSteps := 1000000) only [go_sem, Nat.reduceAdd, Nat.reduceMul, Nat.reduceEqDiff, Nat.reduceLeDiff, Nat.reduceLT, Nat.reduceSub, Int.reduceEq, Int.reduceBEq, Int.reduceLT, Int.reduceLE, Int.reduceAdd, Int.reduceToNat, reduceIte, reduceCtorEq, CRow.v]
    | (refine hK _ ?_; clear hK; clear K')
    | refine And.intro ?_ ?_
    | (apply awC_A; (focus (simp only [go_sem, Nat.reduceAdd, Nat.reduceMul, Nat.reduceEqDiff, Nat.reduceLeDiff, Nat.reduceLT, Nat.reduceSub, Int.reduceEq, Int.reduceBEq, Int.reduceLT, Int.reduceLE, Int.reduceAdd, Int.reduceToNat, reduceIte, reduceCtorEq, CRow.v]; first | exact (h_catalog_of _).b)); (focus (simp only [go_sem, Nat.reduceAdd, Nat.reduceMul, Nat.reduceEqDiff, Nat.reduceLeDiff, Nat.reduceLT, Nat.reduceSub, Int.reduceEq, Int.reduceBEq, Int.reduceLT, Int.reduceLE, Int.reduceAdd, Int.reduceToNat, reduceIte, reduceCtorEq, CRow.v])))
    | (simp only [List.length_append, List.length_cons, List.length_nil, List.length_map, Nat.reducePow, Nat.reduceAdd]; omega)
    | omega)
  refine ends_r _ rfl ?_; simp only [go_sem, Nat.reduceAdd, Nat.reduceMul, Nat.reduceEqDiff, Nat.reduceLeDiff, Nat.reduceLT, Nat.reduceSub, Int.reduceEq, Int.reduceBEq, Int.reduceLT, Int.reduceLE, Int.reduceAdd, Int.reduceToNat, reduceIte, reduceCtorEq]

def c_catalog_Kind (f_catalog_of : Nat) : AC :=
  seqK [0] (.reg [⟨(some 2), .mov (.c (V.int 0)), none⟩])
  (seqK [3] (.reg [⟨(some 6), .mov (.t 0), none⟩,
      ⟨(some 7), .call f_catalog_of [(.t 6)], none⟩,
      ⟨(some 5), .mov (.t 7), none⟩,
      ⟨(some 8), .ext (.t 5) 0, none⟩,
      ⟨(some 9), .ext (.t 5) 1, none⟩,
      ⟨(some 3), .alloc [.val (.string ⟨#[]⟩), .val (.int .i64 0), .val (.int .i64 0), .nil 1, .nil 1], none⟩,
      ⟨none, .store 5 (.t 3) (.t 8), none⟩,
      ⟨(some 4), .mov (.t 9), none⟩])
   (seqK [2] (.reg [⟨(some 10), .faddr 1 (.t 3), none⟩,
       ⟨(some 11), .load false 1 (.t 10), none⟩,
       ⟨(some 2), .mov (.t 11), none⟩])
    (.ret)))

def r_catalog_Kind : List ARes := [.tmp 2]
def CE_catalog_Kind (Γ : Env) (f : Nat) : Prop := ∀ (a : Int), EvN Γ f [V.int a] (V.int (crowAt a).kind)
theorem ev_catalog_Kind {Γ : Env} {f f_catalog_of : Nat} (h : Has Γ.P f 12 (c_catalog_Kind f_catalog_of) r_catalog_Kind) (h_catalog_of : CE_catalog_of Γ f_catalog_of) : CE_catalog_Kind Γ f := by
  intro a
  refine evN_of_body h (by simp) (by simp only [V.closed, closedL, V.noSl, noSlL, and_self, and_true, true_and]) (by simp only [V.closed, closedL, V.noSl, noSlL, and_self, and_true, true_and]) fun C hC hm => ?_
  subst hC
  unfold c_catalog_Kind
  repeat' (first
    | refine awp_seqR fun K' hK => ?_
    | refine awp_regR fun K' hK => ?_
    | refine awp_seqK ?_
    | refine awp_skip ?_
    | refine awp_block ?_
    | ((first | refine awp_cond ⟨_, rfl, fun hc => ?_, fun hc => ?_⟩ | refine awB_t (fun hc => ?_) (fun hc => ?_) | refine awB_f (fun hc => ?_) (fun hc => ?_)) <;> first | exact Bool.noConfusion hc | (exfalso; simp only [decide_eq_true_eq, decide_eq_false_iff_not, List.length_map, Bool.not_eq_true', Bool.not_eq_false'] at hc; omega) | (try simp only [decide_eq_true_eq, decide_eq_false_iff_not, beq_iff_eq, beq_eq_false_iff_ne, ne_eq, Bool.not_eq_true', Bool.not_eq_false'] at hc))
    | refine awp_ret ?_
    | refine awp_exit ?_
    | simp (maxSteps := 1000000) only [go_sem, Nat.reduceAdd, Nat.reduceMul, Nat.reduceEqDiff, Nat.reduceLeDiff, Nat.reduceLT, Nat.reduceSub, Int.reduceEq, Int.reduceBEq, Int.reduceLT, Int.reduceLE, Int.reduceAdd, Int.reduceToNat, reduceIte, reduceCtorEq, CRow.v]
    | (refine hK _ ?_; clear hK; clear K')
    | refine And.intro ?_ ?_
    | (apply awC_A; (focus (simp only [go_sem, Nat.reduceAdd, Nat.reduceMul, Nat.reduceEqDiff, Nat.reduceLeDiff, Nat.reduceLT, Nat.reduceSub, Int.reduceEq, Int.reduceBEq, Int.reduceLT, Int.reduceLE, Int.reduceAdd, Int.reduceToNat, reduceIte, reduceCtorEq, CRow.v]; first | exact (h_catalog_of _).b)); (focus (simp only [go_sem, Nat.reduceAdd, Nat.reduceMul, Nat.reduceEqDiff, Nat.reduceLeDiff, Nat.reduceLT, Nat.reduceSub, Int.reduceEq, Int.reduceBEq, Int.reduceLT, Int.reduceLE, Int.reduceAdd, Int.reduceToNat, reduceIte, reduceCtorEq, CRow.v])))
    | (simp only [List.length_append, List.length_cons, List.length_nil, List.length_map, Nat.reducePow, Nat.reduceAdd]; omega)
    | omega)
  refine ends_r _ rfl ?_; simp only [go_sem, Nat.reduceAdd, Nat.reduceMul, Nat.reduceEqDiff, Nat.reduceLeDiff, Nat.reduceLT, Nat.reduceSub, Int.reduceEq, Int.reduceBEq, Int.reduceLT, Int.reduceLE, Int.reduceAdd, Int.reduceToNat, reduceIte, reduceCtorEq]

def strengthR (R : CRow) (ok : Bool) (b : Int) : Int :=
  if ok = false then 0
  else if R.way = 0 then (if b = 0 then R.strengths.headD 0 else 0)
  else if R.way = 1 then (if 512 ≤ b ∧ b ≤ 16384 then modL b modT else 0)
  else if R.way = 2 then (if find0 b 0 [160, 224, 256, 384, 521] ≥ 0 then IntKind.i64.wrap (b.tdiv 2) else 0)
  else if R.way = 3 then (if find0 b 0 R.sizes ≥ 0 then R.strengths.getD (find0 b 0 R.sizes).toNat 0 else 0)
  else 0
def strengthS (a b : Int) : Int := strengthR (crowAt a) (decide (1 ≤ a ∧ a ≤ 22)) b

def CRow.ok (r : CRow) : Bool := (r.way != 0 || !r.strengths.isEmpty) && (r.way != 3 || r.sizes.length == r.strengths.length) && decide (r.sizes.length < 10)
theorem crow_ok (a : Int) (ha : 1 ≤ a ∧ a ≤ 22) : (crowAt a).ok = true := by
  have h : ∀ r ∈ rowsL.drop 1, r.ok = true := by decide
  have hl : rowsL.length = 23 := rfl
  have hk : a.toNat < rowsL.length := by omega
  rw [crowAt, if_pos ha, List.getD_eq_getElem?_getD, List.getElem?_eq_getElem hk, Option.getD_some]
  have hk' : a.toNat - 1 < (rowsL.drop 1).length := by simp; omega
  have := h _ (List.getElem_mem hk')
  rw [List.getElem_drop] at this
  have e : 1 + (a.toNat - 1) = a.toNat := by omega
  simp only [e] at this
  exact this
theorem find0_le (x : Int) : ∀ (l : List Int) (k : Nat), find0 x k l = -1 ∨ (k ≤ find0 x k l ∧ find0 x k l < k + l.length)
  | [], k => .inl rfl
  | y :: r, k => by
    unfold find0
    split
    · right; simp; omega
    · rcases find0_le x r (k + 1) with h | ⟨h1, h2⟩
      · exact .inl h
      · right; simp only [List.length_cons]; omega

def c_catalog_Strength (f_catalog_of f_catalog_modulus f_slices_Contains___int_int f_slices_Index___int_int : Nat) : AC :=
  seqK [1] (.reg [⟨(some 1), .box true 2 (.t 0), none⟩,
     ⟨(some 2), .mov (.c (V.int 0)), none⟩])
  (seqK [1, 3, 4] (.reg [⟨(some 7), .faddr 0 (.t 1), none⟩,
      ⟨(some 8), .load false 1 (.t 7), none⟩,
      ⟨(some 9), .call f_catalog_of [(.t 8)], none⟩,
      ⟨(some 6), .mov (.t 9), none⟩,
      ⟨(some 10), .ext (.t 6) 0, none⟩,
      ⟨(some 11), .ext (.t 6) 1, none⟩,
      ⟨(some 3), .alloc [.val (.string ⟨#[]⟩), .val (.int .i64 0), .val (.int .i64 0), .nil 1, .nil 1], none⟩,
      ⟨none, .store 5 (.t 3) (.t 10), none⟩,
      ⟨(some 4), .mov (.t 11), none⟩])
   (seqK [1, 3] (seqK [1, 3, 13] (.reg [⟨(some 12), .mov (.t 4), none⟩,
        ⟨(some 13), .un .not (.t 12), none⟩])
     (.cond (.t 13)
       (seqK [2] (.reg [⟨(some 2), .mov (.c (V.int 0)), none⟩])
        (.ret))
       (.skip)))
    (seqK [] (seqK [1, 3, 15] (.reg [⟨(some 14), .faddr 2 (.t 3), none⟩,
         ⟨(some 15), .load false 1 (.t 14), none⟩])
      (.block 0 (seqK [1, 3, 15, 16] (.reg [⟨(some 17), .bin .eql (.t 15) (.c (V.int 0)), none⟩,
           ⟨(some 16), .mov (.t 17), none⟩])
        (.cond (.t 16)
          (seqK [3, 20] (.reg [⟨(some 18), .faddr 1 (.t 1), none⟩,
              ⟨(some 19), .load false 1 (.t 18), none⟩,
              ⟨(some 20), .bin .eql (.t 19) (.c (V.int 0)), none⟩])
           (.cond (.t 20)
             (seqK [2] (.reg [⟨(some 21), .faddr 4 (.t 3), none⟩,
                 ⟨(some 22), .load false 1 (.t 21), none⟩,
                 ⟨(some 23), .iaddr 1 (.t 22) (.c (V.int 0)), none⟩,
                 ⟨(some 24), .load false 1 (.t 23), none⟩,
                 ⟨(some 2), .mov (.t 24), none⟩])
              (.ret))
             (.skip)))
          (seqK [1, 3, 15, 25] (.reg [⟨(some 26), .bin .eql (.t 15) (.c (V.int 1)), none⟩,
              ⟨(some 25), .mov (.t 26), none⟩])
           (.cond (.t 25)
             (seqK [1, 34] (.reg [⟨(some 27), .faddr 1 (.t 1), none⟩,
                 ⟨(some 28), .load false 1 (.t 27), none⟩,
                 ⟨(some 29), .bin .geq (.t 28) (.c (V.int 512)), none⟩,
                 ⟨(some 30), .mov (.t 29), none⟩,
                 ⟨(some 31), .faddr 1 (.t 1), (some (30, true))⟩,
                 ⟨(some 32), .load false 1 (.t 31), (some (30, true))⟩,
                 ⟨(some 33), .bin .leq (.t 32) (.c (V.int 16384)), (some (30, true))⟩,
                 ⟨(some 34), .pick (.t 30) (.t 33) (.c (V.bool false)), none⟩])
              (.cond (.t 34)
                (seqK [2] (.reg [⟨(some 35), .faddr 1 (.t 1), none⟩,
                    ⟨(some 36), .load false 1 (.t 35), none⟩,
                    ⟨(some 37), .call f_catalog_modulus [(.t 36)], none⟩,
                    ⟨(some 2), .mov (.t 37), none⟩])
                 (.ret))
                (.skip)))
             (seqK [1, 3, 15, 38] (.reg [⟨(some 39), .bin .eql (.t 15) (.c (V.int 2)), none⟩,
                 ⟨(some 38), .mov (.t 39), none⟩])
              (.cond (.t 38)
                (seqK [1, 43] (.reg [⟨(some 40), .bslice 5 1 false [(.int .i64 0)] [(0, (.c (V.int 160))), (1, (.c (V.int 224))), (2, (.c (V.int 256))), (3, (.c (V.int 384))), (4, (.c (V.int 521)))], none⟩,
                    ⟨(some 41), .faddr 1 (.t 1), none⟩,
                    ⟨(some 42), .load false 1 (.t 41), none⟩,
                    ⟨(some 43), .call f_slices_Contains___int_int [(.t 40), (.t 42)], none⟩])
                 (.cond (.t 43)
                   (seqK [2] (.reg [⟨(some 44), .faddr 1 (.t 1), none⟩,
                       ⟨(some 45), .load false 1 (.t 44), none⟩,
                       ⟨(some 46), .bin .quo (.t 45) (.c (V.int 2)), none⟩,
                       ⟨(some 2), .mov (.t 46), none⟩])
                    (.ret))
                   (.skip)))
                (seqK [1, 3, 47] (.reg [⟨(some 48), .bin .eql (.t 15) (.c (V.int 3)), none⟩,
                    ⟨(some 47), .mov (.t 48), none⟩])
                 (.cond (.t 47)
                   (seqK [3, 5] (.reg [⟨(some 49), .faddr 3 (.t 3), none⟩,
                       ⟨(some 50), .load false 1 (.t 49), none⟩,
                       ⟨(some 51), .faddr 1 (.t 1), none⟩,
                       ⟨(some 52), .load false 1 (.t 51), none⟩,
                       ⟨(some 53), .call f_slices_Index___int_int [(.t 50), (.t 52)], none⟩,
                       ⟨(some 5), .mov (.t 53), none⟩])
                    (seqK [3, 5, 55] (.reg [⟨(some 54), .mov (.t 5), none⟩,
                        ⟨(some 55), .bin .geq (.t 54) (.c (V.int 0)), none⟩])
                     (.cond (.t 55)
                       (seqK [2] (.reg [⟨(some 56), .faddr 4 (.t 3), none⟩,
                           ⟨(some 57), .load false 1 (.t 56), none⟩,
                           ⟨(some 58), .mov (.t 5), none⟩,
                           ⟨(some 59), .iaddr 1 (.t 57) (.t 58), none⟩,
                           ⟨(some 60), .load false 1 (.t 59), none⟩,
                           ⟨(some 2), .mov (.t 60), none⟩])
                        (.ret))
                       (.skip))))
                   (.skip)))))))))))
     (seqK [2] (.reg [⟨(some 2), .mov (.c (V.int 0)), none⟩])
      (.ret)))))

def r_catalog_Strength : List ARes := [.tmp 2]
def CE_catalog_Strength (Γ : Env) (f : Nat) : Prop := ∀ (a b : Int), EvN Γ f [.agg [V.int a, V.int b]] (V.int (strengthS a b))
theorem ev_catalog_Strength {Γ : Env} {f f_catalog_of f_catalog_modulus f_slices_Contains___int_int f_slices_Index___int_int : Nat} (h : Has Γ.P f 61 (c_catalog_Strength f_catalog_of f_catalog_modulus f_slices_Contains___int_int f_slices_Index___int_int) r_catalog_Strength) (h_catalog_of : CE_catalog_of Γ f_catalog_of) (h_catalog_modulus : CE_catalog_modulus Γ f_catalog_modulus) (h_slices_Contains___int_int : CE_slices_Contains___int_int Γ f_slices_Contains___int_int) (h_slices_Index___int_int : CE_slices_Index___int_int Γ f_slices_Index___int_int) : CE_catalog_Strength Γ f := by
  intro a b
  refine evN_of_body h (by simp) (by simp only [V.closed, closedL, V.noSl, noSlL, and_self, and_true, true_and]) (by simp only [V.closed, closedL, V.noSl, noSlL, and_self, and_true, true_and]) fun C hC hm => ?_
  subst hC
  unfold c_catalog_Strength
  have hc5 := h_slices_Contains___int_int [160, 224, 256, 384, 521] b (by simp)
  by_cases ha : 1 ≤ a ∧ a ≤ 22
  · have hd : decide (1 ≤ a ∧ a ≤ 22) = true := by simp [ha]
    have ok := crow_ok a ha
    have fl := find0_le b (crowAt a).sizes 0
    rcases hR : crowAt a with ⟨nm, kd, wy, sz, st⟩
    rw [hR] at ok fl
    simp only [CRow.ok, Bool.and_eq_true, Bool.or_eq_true, decide_eq_true_eq, bne_iff_ne, beq_iff_eq] at ok
    rcases st with _ | ⟨x, st⟩
    · repeat' (first
    | refine awp_seqR fun K' hK => ?_
    | refine awp_regR fun K' hK => ?_
    | refine awp_seqK ?_
    | refine awp_skip ?_
    | refine awp_block ?_
    | ((first | refine awp_cond ⟨_, rfl, fun hc => ?_, fun hc => ?_⟩ | refine awB_t (fun hc => ?_) (fun hc => ?_) | refine awB_f (fun hc => ?_) (fun hc => ?_)) <;> first | exact Bool.noConfusion hc | (exfalso; simp only [decide_eq_true_eq, decide_eq_false_iff_not, List.length_map, Bool.not_eq_true', Bool.not_eq_false'] at hc; omega) | (try simp only [decide_eq_true_eq, decide_eq_false_iff_not, beq_iff_eq, beq_eq_false_iff_ne, ne_eq, Bool.not_eq_true', Bool.not_eq_false'] at hc))
    | refine awp_ret ?_
    | refine awp_exit ?_
    | simp (maxSteps := 1000000) only [go_sem, Nat.reduceAdd, Nat.reduceMul, Nat.reduceEqDiff, Nat.reduceLeDiff, Nat.reduceLT, Nat.reduceSub, Int.reduceEq, Int.reduceBEq, Int.reduceLT, Int.reduceLE, Int.reduceAdd, Int.reduceToNat, reduceIte, reduceCtorEq, hR, hd, CRow.v]
    | (refine hK _ ?_; clear hK; clear K')
    | refine And.intro ?_ ?_
    | (apply awC_A; (focus (simp only [go_sem, Nat.reduceAdd, Nat.reduceMul, Nat.reduceEqDiff, Nat.reduceLeDiff, Nat.reduceLT, Nat.reduceSub, Int.reduceEq, Int.reduceBEq, Int.reduceLT, Int.reduceLE, Int.reduceAdd, Int.reduceToNat, reduceIte, reduceCtorEq, hR, hd, CRow.v]; first | exact hc5.b | exact (h_catalog_of _).b | exact (h_catalog_modulus _).b | exact (h_slices_Contains___int_int _ _ (by first | assumption | omega | simp)).b | exact (h_slices_Index___int_int _ _ (by first | assumption | omega | simp)).b)); (focus (simp only [go_sem, Nat.reduceAdd, Nat.reduceMul, Nat.reduceEqDiff, Nat.reduceLeDiff, Nat.reduceLT, Nat.reduceSub, Int.reduceEq, Int.reduceBEq, Int.reduceLT, Int.reduceLE, Int.reduceAdd, Int.reduceToNat, reduceIte, reduceCtorEq, hR, hd, CRow.v])))
    | (simp only [List.length_append, List.length_cons, List.length_nil, List.length_map, Nat.reducePow, Nat.reduceAdd]; omega)
    | omega)
      all_goals first
        | (refine ends_r _ rfl ?_; simp only [go_sem, Nat.reduceAdd, Nat.reduceMul, Nat.reduceEqDiff, Nat.reduceLeDiff, Nat.reduceLT, Nat.reduceSub, Int.reduceEq, Int.reduceBEq, Int.reduceLT, Int.reduceLE, Int.reduceAdd, Int.reduceToNat, reduceIte, reduceCtorEq]; simp [strengthS, strengthR, hR, *]; done)
        | (exfalso; simp only [List.getElem?_eq_none_iff, List.length_cons, List.length_nil, List.isEmpty_nil] at hst fl ok; omega)
        | (exfalso; simp only [List.length_nil] at fl ok; omega)
        | (exfalso; simp_all; done)
    · rcases hst : (x :: st)[(find0 b 0 sz).toNat]? with _ | v
      · have hs2 : (V.int x :: List.map V.int st)[(find0 b 0 sz).toNat]? = none := by rw [← List.map_cons, List.getElem?_map, hst]; rfl
        repeat' (first
    | refine awp_seqR fun K' hK => ?_
    | refine awp_regR fun K' hK => ?_
    | refine awp_seqK ?_
    | refine awp_skip ?_
    | refine awp_block ?_
    | ((first | refine awp_cond ⟨_, rfl, fun hc => ?_, fun hc => ?_⟩ | refine awB_t (fun hc => ?_) (fun hc => ?_) | refine awB_f (fun hc => ?_) (fun hc => ?_)) <;> first | exact Bool.noConfusion hc | (exfalso; simp only [decide_eq_true_eq, decide_eq_false_iff_not, List.length_map, Bool.not_eq_true', Bool.not_eq_false'] at hc; omega) | (try simp only [decide_eq_true_eq, decide_eq_false_iff_not, beq_iff_eq, beq_eq_false_iff_ne, ne_eq, Bool.not_eq_true', Bool.not_eq_false'] at hc))
    | refine awp_ret ?_
    | refine awp_exit ?_
    | simp (maxSteps := 1000000) only [go_sem, Nat.reduceAdd, Nat.reduceMul, Nat.reduceEqDiff, Nat.reduceLeDiff, Nat.reduceLT, Nat.reduceSub, Int.reduceEq, Int.reduceBEq, Int.reduceLT, Int.reduceLE, Int.reduceAdd, Int.reduceToNat, reduceIte, reduceCtorEq, hR, hd, CRow.v, hs2]
    | (refine hK _ ?_; clear hK; clear K')
    | refine And.intro ?_ ?_
    | (apply awC_A; (focus (simp only [go_sem, Nat.reduceAdd, Nat.reduceMul, Nat.reduceEqDiff, Nat.reduceLeDiff, Nat.reduceLT, Nat.reduceSub, Int.reduceEq, Int.reduceBEq, Int.reduceLT, Int.reduceLE, Int.reduceAdd, Int.reduceToNat, reduceIte, reduceCtorEq, hR, hd, CRow.v, hs2]; first | exact hc5.b | exact (h_catalog_of _).b | exact (h_catalog_modulus _).b | exact (h_slices_Contains___int_int _ _ (by first | assumption | omega | simp)).b | exact (h_slices_Index___int_int _ _ (by first | assumption | omega | simp)).b)); (focus (simp only [go_sem, Nat.reduceAdd, Nat.reduceMul, Nat.reduceEqDiff, Nat.reduceLeDiff, Nat.reduceLT, Nat.reduceSub, Int.reduceEq, Int.reduceBEq, Int.reduceLT, Int.reduceLE, Int.reduceAdd, Int.reduceToNat, reduceIte, reduceCtorEq, hR, hd, CRow.v, hs2])))
    | (simp only [List.length_append, List.length_cons, List.length_nil, List.length_map, Nat.reducePow, Nat.reduceAdd]; omega)
    | omega)
        all_goals first
          | (refine ends_r _ rfl ?_; simp only [go_sem, Nat.reduceAdd, Nat.reduceMul, Nat.reduceEqDiff, Nat.reduceLeDiff, Nat.reduceLT, Nat.reduceSub, Int.reduceEq, Int.reduceBEq, Int.reduceLT, Int.reduceLE, Int.reduceAdd, Int.reduceToNat, reduceIte, reduceCtorEq]; simp [strengthS, strengthR, hR, *]; done)
          | (exfalso; simp only [List.getElem?_eq_none_iff, List.length_cons, List.length_nil, List.isEmpty_nil] at hst fl ok; omega)
          | (exfalso; simp_all; done)
      · have hs2 : (V.int x :: List.map V.int st)[(find0 b 0 sz).toNat]? = some (V.int v) := by rw [← List.map_cons, List.getElem?_map, hst]; rfl
        repeat' (first
    | refine awp_seqR fun K' hK => ?_
    | refine awp_regR fun K' hK => ?_
    | refine awp_seqK ?_
    | refine awp_skip ?_
    | refine awp_block ?_
    | ((first | refine awp_cond ⟨_, rfl, fun hc => ?_, fun hc => ?_⟩ | refine awB_t (fun hc => ?_) (fun hc => ?_) | refine awB_f (fun hc => ?_) (fun hc => ?_)) <;> first | exact Bool.noConfusion hc | (exfalso; simp only [decide_eq_true_eq, decide_eq_false_iff_not, List.length_map, Bool.not_eq_true', Bool.not_eq_false'] at hc; omega) | (try simp only [decide_eq_true_eq, decide_eq_false_iff_not, beq_iff_eq, beq_eq_false_iff_ne, ne_eq, Bool.not_eq_true', Bool.not_eq_false'] at hc))
    | refine awp_ret ?_
    | refine awp_exit ?_
    | simp (maxSteps := 1000000) only [go_sem, Nat.reduceAdd, Nat.reduceMul, Nat.reduceEqDiff, Nat.reduceLeDiff, Nat.reduceLT, Nat.reduceSub, Int.reduceEq, Int.reduceBEq, Int.reduceLT, Int.reduceLE, Int.reduceAdd, Int.reduceToNat, reduceIte, reduceCtorEq, hR, hd, CRow.v, hs2]
    | (refine hK _ ?_; clear hK; clear K')
    | refine And.intro ?_ ?_
    | (apply awC_A; (focus (simp only [go_sem, Nat.reduceAdd, Nat.reduceMul, Nat.reduceEqDiff, Nat.reduceLeDiff, Nat.reduceLT, Nat.reduceSub, Int.reduceEq, Int.reduceBEq, Int.reduceLT, Int.reduceLE, Int.reduceAdd, Int.reduceToNat, reduceIte, reduceCtorEq, hR, hd, CRow.v, hs2]; first | exact hc5.b | exact (h_catalog_of _).b | exact (h_catalog_modulus _).b | exact (h_slices_Contains___int_int _ _ (by first | assumption | omega | simp)).b | exact (h_slices_Index___int_int _ _ (by first | assumption | omega | simp)).b)); (focus (simp only [go_sem, Nat.reduceAdd, Nat.reduceMul, Nat.reduceEqDiff, Nat.reduceLeDiff, Nat.reduceLT, Nat.reduceSub, Int.reduceEq, Int.reduceBEq, Int.reduceLT, Int.reduceLE, Int.reduceAdd, Int.reduceToNat, reduceIte, reduceCtorEq, hR, hd, CRow.v, hs2])))
    | (simp only [List.length_append, List.length_cons, List.length_nil, List.length_map, Nat.reducePow, Nat.reduceAdd]; omega)
    | omega)
        all_goals first
          | (refine ends_r _ rfl ?_; simp only [go_sem, Nat.reduceAdd, Nat.reduceMul, Nat.reduceEqDiff, Nat.reduceLeDiff, Nat.reduceLT, Nat.reduceSub, Int.reduceEq, Int.reduceBEq, Int.reduceLT, Int.reduceLE, Int.reduceAdd, Int.reduceToNat, reduceIte, reduceCtorEq]; simp [strengthS, strengthR, hR, *]; done)
          | (exfalso; simp only [List.getElem?_eq_none_iff, List.length_cons, List.length_nil, List.isEmpty_nil] at hst fl ok; omega)
          | (exfalso; simp_all; done)
  · have hd : decide (1 ≤ a ∧ a ≤ 22) = false := by simp [ha]
    repeat' (first
    | refine awp_seqR fun K' hK => ?_
    | refine awp_regR fun K' hK => ?_
    | refine awp_seqK ?_
    | refine awp_skip ?_
    | refine awp_block ?_
    | ((first | refine awp_cond ⟨_, rfl, fun hc => ?_, fun hc => ?_⟩ | refine awB_t (fun hc => ?_) (fun hc => ?_) | refine awB_f (fun hc => ?_) (fun hc => ?_)) <;> first | exact Bool.noConfusion hc | (exfalso; simp only [decide_eq_true_eq, decide_eq_false_iff_not, List.length_map, Bool.not_eq_true', Bool.not_eq_false'] at hc; omega) | (try simp only [decide_eq_true_eq, decide_eq_false_iff_not, beq_iff_eq, beq_eq_false_iff_ne, ne_eq, Bool.not_eq_true', Bool.not_eq_false'] at hc))
    | refine awp_ret ?_
    | refine awp_exit ?_
    | simp (maxSteps := 1000000) only [go_sem, Nat.reduceAdd, Nat.reduceMul, Nat.reduceEqDiff, Nat.reduceLeDiff, Nat.reduceLT, Nat.reduceSub, Int.reduceEq, Int.reduceBEq, Int.reduceLT, Int.reduceLE, Int.reduceAdd, Int.reduceToNat, reduceIte, reduceCtorEq, hd, CRow.v]
    | (refine hK _ ?_; clear hK; clear K')
    | refine And.intro ?_ ?_
    | (apply awC_A; (focus (simp only [go_sem, Nat.reduceAdd, Nat.reduceMul, Nat.reduceEqDiff, Nat.reduceLeDiff, Nat.reduceLT, Nat.reduceSub, Int.reduceEq, Int.reduceBEq, Int.reduceLT, Int.reduceLE, Int.reduceAdd, Int.reduceToNat, reduceIte, reduceCtorEq, hd, CRow.v]; first | exact (h_catalog_of _).b | exact (h_catalog_modulus _).b | exact (h_slices_Contains___int_int _ _ (by first | assumption | omega | simp)).b | exact (h_slices_Index___int_int _ _ (by first | assumption | omega | simp)).b)); (focus (simp only [go_sem, Nat.reduceAdd, Nat.reduceMul, Nat.reduceEqDiff, Nat.reduceLeDiff, Nat.reduceLT, Nat.reduceSub, Int.reduceEq, Int.reduceBEq, Int.reduceLT, Int.reduceLE, Int.reduceAdd, Int.reduceToNat, reduceIte, reduceCtorEq, hd, CRow.v])))
    | (simp only [List.length_append, List.length_cons, List.length_nil, List.length_map, Nat.reducePow, Nat.reduceAdd]; omega)
    | omega)
    refine ends_r _ rfl ?_; simp only [go_sem, Nat.reduceAdd, Nat.reduceMul, Nat.reduceEqDiff, Nat.reduceLeDiff, Nat.reduceLT, Nat.reduceSub, Int.reduceEq, Int.reduceBEq, Int.reduceLT, Int.reduceLE, Int.reduceAdd, Int.reduceToNat, reduceIte, reduceCtorEq]
    simp [strengthS, strengthR, hd]
end Av
end

section
set_option linter.unusedSimpArgs false
set_option linter.unusedVariables false
set_option maxRecDepth 10000
namespace Av
open Go
attribute [local irreducible] AWp runO runP runG awS awC awCv awQ awRd awCallR awCvR awQR awR awRdR awB okR plan ris

def atoiV (s : List UInt8) : Int := match Lib.atoiAll s with | .ok v => v | .range => Lib.atoiSat s | _ => 0

def CE_strings_Cut (Γ : Env) (f : Nat) : Prop := ∀ (s sep : List UInt8) (hs : s.length < 4294967281), EvN Γ f [V.str s, V.str sep] (.tup [V.str (Lib.cut s sep).1, V.str (Lib.cut s sep).2.1, V.bool (Lib.cut s sep).2.2])
def CE_strconv_Atoi (Γ : Env) (f : Nat) : Prop := ∀ (s : List UInt8) (hs : s.length < 4294967281), EvN Γ f [V.str s] (.tup [V.int (atoiV s), .top])
def CE_strconv_Itoa (Γ : Env) (f : Nat) : Prop := ∀ (n : Int) (h0 : -9223372036854775808 ≤ n) (h1 : n ≤ 9223372036854775807), EvN Γ f [V.int n] (V.str (Lib.itoa n))
def c_catalog_Valid (f_catalog_Strength : Nat) : AC :=
  seqK [1] (.reg [⟨(some 1), .box true 2 (.t 0), none⟩,
     ⟨(some 2), .mov (.c (V.bool false)), none⟩])
  (seqK [2] (.reg [⟨(some 3), .load true 2 (.t 1), none⟩,
      ⟨(some 4), .call f_catalog_Strength [(.t 3)], none⟩,
      ⟨(some 5), .bin .gtr (.t 4) (.c (V.int 0)), none⟩,
      ⟨(some 2), .mov (.t 5), none⟩])
   (.ret))

def r_catalog_Valid : List ARes := [.tmp 2]
def CE_catalog_Valid (Γ : Env) (f : Nat) : Prop := ∀ (a b : Int), EvN Γ f [.agg [V.int a, V.int b]] (V.bool (decide (strengthS a b > 0)))
theorem ev_catalog_Valid {Γ : Env} {f f_catalog_Strength : Nat} (h : Has Γ.P f 6 (c_catalog_Valid f_catalog_Strength) r_catalog_Valid) (h_catalog_Strength : CE_catalog_Strength Γ f_catalog_Strength) : CE_catalog_Valid Γ f := by
  intro a b
  refine evN_of_body h (by simp) (by simp only [V.closed, closedL, V.noSl, noSlL, and_self, and_true, true_and]) (by simp only [V.closed, closedL, V.noSl, noSlL, and_self, and_true, true_and]) fun C hC hm => ?_
  subst hC
  unfold c_catalog_Valid
  repeat' (first
    | refine awp_seqR fun K' hK => ?_
    | refine awp_regR fun K' hK => ?_
    | refine awp_seqK ?_
    | refine awp_skip ?_
    | refine awp_block ?_
    | ((first | refine awp_cond ⟨_, rfl, fun hc => ?_, fun hc => ?_⟩ | refine awB_t (fun hc => ?_) (fun hc => ?_) | refine awB_f (fun hc => ?_) (fun hc => ?_)) <;> first | exact Bool.noConfusion hc | (exfalso; simp only [decide_eq_true_eq, decide_eq_false_iff_not, List.length_map, Bool.not_eq_true', Bool.not_eq_false'] at hc; omega) | (try simp only [decide_eq_true_eq, decide_eq_false_iff_not, beq_iff_eq, beq_eq_false_iff_ne, ne_eq, Bool.not_eq_true', Bool.not_eq_false'] at hc))
    | refine awp_ret ?_
    | refine awp_exit ?_
    | simp (maxSteps := 1000000) only [go_sem, Nat.reduceAdd, Nat.reduceMul, Nat.reduceEqDiff, Nat.reduceLeDiff, Nat.reduceLT, Nat.reduceSub, Int.reduceEq, Int.reduceBEq, Int.reduceLT, Int.reduceLE, Int.reduceAdd, Int.reduceToNat, reduceIte, reduceCtorEq]
    | (refine hK _ ?_; clear hK; clear K')
    | refine And.intro ?_ ?_
    | (apply awC_A; (focus (simp only [go_sem, Nat.reduceAdd, Nat.reduceMul, Nat.reduceEqDiff, Nat.reduceLeDiff, Nat.reduceLT, Nat.reduceSub, Int.reduceEq, Int.reduceBEq, Int.reduceLT, Int.reduceLE, Int.reduceAdd, Int.reduceToNat, reduceIte, reduceCtorEq]; first | exact (h_catalog_Strength _ _).b)); (focus (simp only [go_sem, Nat.reduceAdd, Nat.reduceMul, Nat.reduceEqDiff, Nat.reduceLeDiff, Nat.reduceLT, Nat.reduceSub, Int.reduceEq, Int.reduceBEq, Int.reduceLT, Int.reduceLE, Int.reduceAdd, Int.reduceToNat, reduceIte, reduceCtorEq])))
    | (simp only [List.length_append, List.length_cons, List.length_nil, List.length_map, Nat.reducePow, Nat.reduceAdd]; omega)
    | omega)
  refine ends_r _ rfl ?_; simp only [go_sem, Nat.reduceAdd, Nat.reduceMul, Nat.reduceEqDiff, Nat.reduceLeDiff, Nat.reduceLT, Nat.reduceSub, Int.reduceEq, Int.reduceBEq, Int.reduceLT, Int.reduceLE, Int.reduceAdd, Int.reduceToNat, reduceIte, reduceCtorEq]

theorem find0_mem (x : Int) : ∀ (l : List Int) (k : Nat), 0 ≤ find0 x k l → x ∈ l
  | [], k, h => by simp [find0] at h
  | y :: r, k, h => by
    unfold find0 at h
    split at h
    · rename_i e; simp [e]
    · exact List.mem_cons_of_mem _ (find0_mem x r (k + 1) h)

theorem crow_sizes (a : Int) : ∀ x ∈ (crowAt a).sizes, 0 ≤ x ∧ x ≤ 16384 := by
  have h : ∀ r ∈ rowsL, ∀ x ∈ r.sizes, 0 ≤ x ∧ x ≤ 16384 := by decide
  unfold crowAt
  split
  · rename_i ha
    have hk : a.toNat < rowsL.length := by have : rowsL.length = 23 := rfl; omega
    rw [List.getD_eq_getElem?_getD, List.getElem?_eq_getElem hk, Option.getD_some]
    exact h _ (List.getElem_mem hk)
  · simp [row0]
theorem crow_name (a : Int) : (crowAt a).name.length ≤ 10 := by
  have h : ∀ r ∈ rowsL, r.name.length ≤ 10 := by decide
  unfold crowAt
  split
  · rename_i ha
    have hk : a.toNat < rowsL.length := by have : rowsL.length = 23 := rfl; omega
    rw [List.getD_eq_getElem?_getD, List.getElem?_eq_getElem hk, Option.getD_some]
    exact h _ (List.getElem_mem hk)
  · simp [row0]
theorem strength_bits (a b : Int) (h : 0 < strengthS a b) : 0 ≤ b ∧ b ≤ 16384 := by
  simp only [strengthS, strengthR] at h
  split at h
  · omega
  · split at h
    · split at h <;> omega
    · split at h
      · split at h <;> omega
      · split at h
        · split at h
          · rename_i hf
            have := find0_mem _ _ _ hf
            simp at this; omega
          · omega
        · split at h
          · split at h
            · rename_i hf
              exact crow_sizes a b (find0_mem _ _ _ hf)
            · omega
          · omega

def textS (a b : Int) : List UInt8 := if strengthS a b > 0 then (if b = 0 then (crowAt a).name else (crowAt a).name ++ [45] ++ Lib.itoa b) else []

-- REGION catalog_Text 0: 9 operations, 1 orders, L [], X false, ok true
def o_catalog_Text_0 (f_catalog_Name f_strconv_Itoa : Nat) : List AO :=
  [⟨(some 14), .faddr 0 (.t 1), none⟩,
    ⟨(some 15), .load false 1 (.t 14), none⟩,
    ⟨(some 16), .call f_catalog_Name [(.t 15)], none⟩,
    ⟨(some 17), .bin .add (.t 16) (.c (V.str [45])), none⟩,
    ⟨(some 18), .faddr 1 (.t 1), none⟩,
    ⟨(some 19), .load false 1 (.t 18), none⟩,
    ⟨(some 20), .call f_strconv_Itoa [(.t 19)], none⟩,
    ⟨(some 21), .bin .add (.t 17) (.t 20), none⟩,
    ⟨(some 2), .mov (.t 21), none⟩]
def a_catalog_Text_0 : List (List Nat) := [[], [0], [1], [2], [], [4], [5, 2], [3, 6], [7, 6, 0, 1, 2, 3, 4, 5, 6, 7]]
def t_catalog_Text_0 : OT := .one 0 (.one 1 (.one 4 (.one 5 (.or 2 (.one 3 (.one 6 (.one 7 (.one 8 (.done))))) (.done)))))
def p_catalog_Text_0 (f_catalog_Name f_strconv_Itoa : Nat) : OP :=
  .one 0 false [] ⟨(some 14), .faddr 0 (.t 1), none⟩
  (.one 1 false [] ⟨(some 15), .load false 1 (.t 14), none⟩
  (.one 4 false [] ⟨(some 18), .faddr 1 (.t 1), none⟩
  (.one 5 false [] ⟨(some 19), .load false 1 (.t 18), none⟩
  (.or 2 false [] ⟨(some 16), .call f_catalog_Name [(.t 15)], none⟩
  (.one 3 false [2] ⟨(some 17), .bin .add (.t 16) (.c (V.str [45])), none⟩
   (.one 6 false [] ⟨(some 20), .call f_strconv_Itoa [(.t 19)], none⟩
   (.one 7 false [6, 2] ⟨(some 21), .bin .add (.t 17) (.t 20), none⟩
   (.one 8 false [6, 2] ⟨(some 2), .mov (.t 21), none⟩
   (.done)))))
  (.done)))))
theorem k_catalog_Text_0 (f_catalog_Name f_strconv_Itoa : Nat) : okR (o_catalog_Text_0 f_catalog_Name f_strconv_Itoa) a_catalog_Text_0 [] t_catalog_Text_0 = true := by kernel_rfl
theorem q_catalog_Text_0 (f_catalog_Name f_strconv_Itoa : Nat) : plan (ris (o_catalog_Text_0 f_catalog_Name f_strconv_Itoa) a_catalog_Text_0 []) t_catalog_Text_0 = p_catalog_Text_0 f_catalog_Name f_strconv_Itoa := by kernel_rfl

def c_catalog_Text (f_catalog_Valid f_catalog_Name f_strconv_Itoa : Nat) : AC :=
  seqK [1] (.reg [⟨(some 1), .box true 2 (.t 0), none⟩,
     ⟨(some 2), .mov (.c (V.str [])), none⟩])
  (seqK [1] (.block 0 (seqK [1, 3] (.reg [⟨(some 4), .load true 2 (.t 1), none⟩,
        ⟨(some 5), .call f_catalog_Valid [(.t 4)], none⟩,
        ⟨(some 6), .un .not (.t 5), none⟩,
        ⟨(some 3), .mov (.t 6), none⟩])
     (.cond (.t 3)
       (seqK [2] (.reg [⟨(some 2), .mov (.c (V.str [])), none⟩])
        (.ret))
       (seqK [1, 7] (.reg [⟨(some 8), .faddr 1 (.t 1), none⟩,
           ⟨(some 9), .load false 1 (.t 8), none⟩,
           ⟨(some 10), .bin .eql (.t 9) (.c (V.int 0)), none⟩,
           ⟨(some 7), .mov (.t 10), none⟩])
        (.cond (.t 7)
          (seqK [2] (.reg [⟨(some 11), .faddr 0 (.t 1), none⟩,
              ⟨(some 12), .load false 1 (.t 11), none⟩,
              ⟨(some 13), .call f_catalog_Name [(.t 12)], none⟩,
              ⟨(some 2), .mov (.t 13), none⟩])
           (.ret))
          (.skip))))))
   (seqK [2] (regK [] t_catalog_Text_0 (p_catalog_Text_0 f_catalog_Name f_strconv_Itoa) (o_catalog_Text_0 f_catalog_Name f_strconv_Itoa) a_catalog_Text_0)
    (.ret)))

def r_catalog_Text : List ARes := [.tmp 2]
def CE_catalog_Text (Γ : Env) (f : Nat) : Prop := ∀ (a b : Int), EvN Γ f [.agg [V.int a, V.int b]] (V.str (textS a b))
theorem ev_catalog_Text {Γ : Env} {f f_catalog_Valid f_catalog_Name f_strconv_Itoa : Nat} (h : Has Γ.P f 22 (c_catalog_Text f_catalog_Valid f_catalog_Name f_strconv_Itoa) r_catalog_Text) (h_catalog_Valid : CE_catalog_Valid Γ f_catalog_Valid) (h_catalog_Name : CE_catalog_Name Γ f_catalog_Name) (h_strconv_Itoa : CE_strconv_Itoa Γ f_strconv_Itoa) : CE_catalog_Text Γ f := by
  intro a b
  refine evN_of_body h (by simp) (by simp only [V.closed, closedL, V.noSl, noSlL, and_self, and_true, true_and]) (by simp only [V.closed, closedL, V.noSl, noSlL, and_self, and_true, true_and]) fun C hC hm => ?_
  subst hC
  unfold c_catalog_Text
  have hn := crow_name a
  by_cases hv : 0 < strengthS a b
  · have hb := strength_bits a b hv
    have hi := Lib.itoa_length_le b (by omega) (by omega)
    repeat' (first
    | refine awp_seqR fun K' hK => ?_
    | refine awp_regR fun K' hK => ?_
    | refine awp_seqP 9 (fun _ => true) rfl (k_catalog_Text_0 _ _) (q_catalog_Text_0 _ _) fun K' hK => ?_
    | refine awp_regP 9 (fun _ => true) rfl (k_catalog_Text_0 _ _) (q_catalog_Text_0 _ _) fun K' hK => ?_
    | refine awp_seqK ?_
    | refine awp_skip ?_
    | refine awp_block ?_
    | ((first | refine awp_cond ⟨_, rfl, fun hc => ?_, fun hc => ?_⟩ | refine awB_t (fun hc => ?_) (fun hc => ?_) | refine awB_f (fun hc => ?_) (fun hc => ?_)) <;> first | exact Bool.noConfusion hc | (exfalso; simp only [decide_eq_true_eq, decide_eq_false_iff_not, List.length_map, Bool.not_eq_true', Bool.not_eq_false'] at hc; omega) | (try simp only [decide_eq_true_eq, decide_eq_false_iff_not, beq_iff_eq, beq_eq_false_iff_ne, ne_eq, Bool.not_eq_true', Bool.not_eq_false'] at hc))
    | refine awp_ret ?_
    | refine awp_exit ?_
    | simp (maxSteps := 1000000) only [go_sem, Nat.reduceAdd, Nat.reduceMul, Nat.reduceEqDiff, Nat.reduceLeDiff, Nat.reduceLT, Nat.reduceSub, Int.reduceEq, Int.reduceBEq, Int.reduceLT, Int.reduceLE, Int.reduceAdd, Int.reduceToNat, reduceIte, reduceCtorEq, p_catalog_Text_0]
    | (refine hK _ ?_; clear hK; clear K')
    | refine And.intro ?_ ?_
    | ((first | apply awC_A | apply awCR_A); (focus (simp only [go_sem, Nat.reduceAdd, Nat.reduceMul, Nat.reduceEqDiff, Nat.reduceLeDiff, Nat.reduceLT, Nat.reduceSub, Int.reduceEq, Int.reduceBEq, Int.reduceLT, Int.reduceLE, Int.reduceAdd, Int.reduceToNat, reduceIte, reduceCtorEq]; first | exact (h_catalog_Valid _ _).b | exact (h_catalog_Name _).b | exact (h_strconv_Itoa _ (by first | assumption | omega | simp) (by first | assumption | omega | simp)).b)); (focus (simp only [go_sem, Nat.reduceAdd, Nat.reduceMul, Nat.reduceEqDiff, Nat.reduceLeDiff, Nat.reduceLT, Nat.reduceSub, Int.reduceEq, Int.reduceBEq, Int.reduceLT, Int.reduceLE, Int.reduceAdd, Int.reduceToNat, reduceIte, reduceCtorEq])))
    | (simp only [List.length_append, List.length_cons, List.length_nil, List.length_map, Nat.reducePow, Nat.reduceAdd]; omega)
    | omega)
    all_goals first | (refine ends_r _ rfl ?_; simp only [go_sem, Nat.reduceAdd, Nat.reduceMul, Nat.reduceEqDiff, Nat.reduceLeDiff, Nat.reduceLT, Nat.reduceSub, Int.reduceEq, Int.reduceBEq, Int.reduceLT, Int.reduceLE, Int.reduceAdd, Int.reduceToNat, reduceIte, reduceCtorEq]; done) | (refine ends_r _ rfl ?_; simp only [go_sem, Nat.reduceAdd, Nat.reduceMul, Nat.reduceEqDiff, Nat.reduceLeDiff, Nat.reduceLT, Nat.reduceSub, Int.reduceEq, Int.reduceBEq, Int.reduceLT, Int.reduceLE, Int.reduceAdd, Int.reduceToNat, reduceIte, reduceCtorEq]; simp [textS, *]; done) | (subst hc; refine ends_r _ rfl ?_; simp only [go_sem, Nat.reduceAdd, Nat.reduceMul, Nat.reduceEqDiff, Nat.reduceLeDiff, Nat.reduceLT, Nat.reduceSub, Int.reduceEq, Int.reduceBEq, Int.reduceLT, Int.reduceLE, Int.reduceAdd, Int.reduceToNat, reduceIte, reduceCtorEq]; simp [textS, *]; done) | trace_state
  · repeat' (first
    | refine awp_seqR fun K' hK => ?_
    | refine awp_regR fun K' hK => ?_
    | refine awp_seqP 9 (fun _ => true) rfl (k_catalog_Text_0 _ _) (q_catalog_Text_0 _ _) fun K' hK => ?_
    | refine awp_regP 9 (fun _ => true) rfl (k_catalog_Text_0 _ _) (q_catalog_Text_0 _ _) fun K' hK => ?_
    | refine awp_seqK ?_
    | refine awp_skip ?_
    | refine awp_block ?_
    | ((first | refine awp_cond ⟨_, rfl, fun hc => ?_, fun hc => ?_⟩ | refine awB_t (fun hc => ?_) (fun hc => ?_) | refine awB_f (fun hc => ?_) (fun hc => ?_)) <;> first | exact Bool.noConfusion hc | (exfalso; simp only [decide_eq_true_eq, decide_eq_false_iff_not, List.length_map, Bool.not_eq_true', Bool.not_eq_false'] at hc; omega) | (try simp only [decide_eq_true_eq, decide_eq_false_iff_not, beq_iff_eq, beq_eq_false_iff_ne, ne_eq, Bool.not_eq_true', Bool.not_eq_false'] at hc))
    | refine awp_ret ?_
    | refine awp_exit ?_
    | simp (maxSteps := 1000000) only [go_sem, Nat.reduceAdd, Nat.reduceMul, Nat.reduceEqDiff, Nat.reduceLeDiff, Nat.reduceLT, Nat.reduceSub, Int.reduceEq, Int.reduceBEq, Int.reduceLT, Int.reduceLE, Int.reduceAdd, Int.reduceToNat, reduceIte, reduceCtorEq, p_catalog_Text_0]
    | (refine hK _ ?_; clear hK; clear K')
    | refine And.intro ?_ ?_
    | ((first | apply awC_A | apply awCR_A); (focus (simp only [go_sem, Nat.reduceAdd, Nat.reduceMul, Nat.reduceEqDiff, Nat.reduceLeDiff, Nat.reduceLT, Nat.reduceSub, Int.reduceEq, Int.reduceBEq, Int.reduceLT, Int.reduceLE, Int.reduceAdd, Int.reduceToNat, reduceIte, reduceCtorEq]; first | exact (h_catalog_Valid _ _).b | exact (h_catalog_Name _).b | exact (h_strconv_Itoa _ (by first | assumption | omega | simp) (by first | assumption | omega | simp)).b)); (focus (simp only [go_sem, Nat.reduceAdd, Nat.reduceMul, Nat.reduceEqDiff, Nat.reduceLeDiff, Nat.reduceLT, Nat.reduceSub, Int.reduceEq, Int.reduceBEq, Int.reduceLT, Int.reduceLE, Int.reduceAdd, Int.reduceToNat, reduceIte, reduceCtorEq])))
    | (simp only [List.length_append, List.length_cons, List.length_nil, List.length_map, Nat.reducePow, Nat.reduceAdd]; omega)
    | omega)
    all_goals first | (refine ends_r _ rfl ?_; simp only [go_sem, Nat.reduceAdd, Nat.reduceMul, Nat.reduceEqDiff, Nat.reduceLeDiff, Nat.reduceLT, Nat.reduceSub, Int.reduceEq, Int.reduceBEq, Int.reduceLT, Int.reduceLE, Int.reduceAdd, Int.reduceToNat, reduceIte, reduceCtorEq]; done) | (refine ends_r _ rfl ?_; simp only [go_sem, Nat.reduceAdd, Nat.reduceMul, Nat.reduceEqDiff, Nat.reduceLeDiff, Nat.reduceLT, Nat.reduceSub, Int.reduceEq, Int.reduceBEq, Int.reduceLT, Int.reduceLE, Int.reduceAdd, Int.reduceToNat, reduceIte, reduceCtorEq]; simp [textS, *]; done) | (subst hc; refine ends_r _ rfl ?_; simp only [go_sem, Nat.reduceAdd, Nat.reduceMul, Nat.reduceEqDiff, Nat.reduceLeDiff, Nat.reduceLT, Nat.reduceSub, Int.reduceEq, Int.reduceBEq, Int.reduceLT, Int.reduceLE, Int.reduceAdd, Int.reduceToNat, reduceIte, reduceCtorEq]; simp [textS, *]; done) | trace_state

def findR (name : List UInt8) : Nat → List CRow → Int
  | _, [] => 0
  | k, r :: rs => if 0 < k ∧ r.name = name then k else findR name (k + 1) rs

theorem rowsV_at' (k : Nat) (h : k < 23) {r : CRow} (hr : rowsL[k]? = some r) : (rowsV.drop (k * 5)).take 5 = r.v := by
  have hk : k < rowsL.length := h
  rw [rowsV, flatMap_at (f := CRow.v) (n := 5) (fun _ => rfl) rowsL k hk]
  rw [List.getElem?_eq_getElem hk] at hr
  cases hr; rfl

def c_catalog_Find (f_catalog_rows : Nat) : AC :=
  seqK [0] (.reg [⟨(some 2), .mov (.c (V.int 0)), none⟩])
  (seqK [] (seqK [0, 5, 6] (.reg [⟨(some 5), .call f_catalog_rows [], none⟩,
       ⟨(some 6), .mov (.c (V.int 0)), none⟩])
    (.block 0 (loopK [0, 5, 6] (seqK [0, 5, 6, 7] (.reg [⟨(some 7), .bin .lss (.t 6) (.c (V.int 23)), none⟩])
       (seqK [0, 5, 6] (.cond (.t 7)
          (.skip)
          (.exit 0))
        (seqK [0, 5, 6] (.block 1 (seqK [0, 3, 4, 5, 6] (.reg [⟨(some 8), .mov (.t 6), none⟩,
              ⟨(some 9), .idxA true 23 5 (.t 5) (.t 6), none⟩,
              ⟨(some 4), .alloc [.val (.string ⟨#[]⟩), .val (.int .i64 0), .val (.int .i64 0), .nil 1, .nil 1], none⟩,
              ⟨(some 3), .mov (.t 8), none⟩,
              ⟨none, .store 5 (.t 4) (.t 9), none⟩])
           (seqK [0, 3, 5, 6, 17] (.reg [⟨(some 10), .mov (.t 3), none⟩,
               ⟨(some 11), .bin .gtr (.t 10) (.c (V.int 0)), none⟩,
               ⟨(some 12), .mov (.t 11), none⟩,
               ⟨(some 13), .faddr 0 (.t 4), (some (12, true))⟩,
               ⟨(some 14), .load false 1 (.t 13), (some (12, true))⟩,
               ⟨(some 15), .mov (.t 0), (some (12, true))⟩,
               ⟨(some 16), .bin .eql (.t 14) (.t 15), (some (12, true))⟩,
               ⟨(some 17), .pick (.t 12) (.t 16) (.c (V.bool false)), none⟩])
            (.cond (.t 17)
              (seqK [2] (.reg [⟨(some 18), .mov (.t 3), none⟩,
                  ⟨(some 2), .mov (.t 18), none⟩])
               (.ret))
              (.skip)))))
         (.reg [⟨(some 19), .bin .add (.t 6) (.c (V.int 1)), none⟩,
            ⟨(some 6), .mov (.t 19), none⟩])))))))
   (seqK [2] (.reg [⟨(some 2), .mov (.c (V.int 0)), none⟩])
    (.ret)))

def r_catalog_Find : List ARes := [.tmp 2]
def CE_catalog_Find (Γ : Env) (f : Nat) : Prop := ∀ (s : List UInt8), EvN Γ f [V.str s] (V.int (findR s 0 rowsL))
theorem ev_catalog_Find {Γ : Env} {f f_catalog_rows : Nat} (h : Has Γ.P f 20 (c_catalog_Find f_catalog_rows) r_catalog_Find) (h_catalog_rows : CE_catalog_rows Γ f_catalog_rows) : CE_catalog_Find Γ f := by
  intro s
  refine evN_of_body h (by simp) (by simp only [V.closed, closedL, V.noSl, noSlL, and_self, and_true, true_and]) (by simp only [V.closed, closedL, V.noSl, noSlL, and_self, and_true, true_and]) fun C hC hm => ?_
  subst hC
  unfold c_catalog_Find
  repeat' (first
    | refine awp_seqR fun K' hK => ?_
    | refine awp_regR fun K' hK => ?_
    | refine awp_seqK ?_
    | refine awp_skip ?_
    | refine awp_block ?_
    | ((first | refine awp_cond ⟨_, rfl, fun hc => ?_, fun hc => ?_⟩ | refine awB_t (fun hc => ?_) (fun hc => ?_) | refine awB_f (fun hc => ?_) (fun hc => ?_)) <;> first | exact Bool.noConfusion hc | (exfalso; simp only [decide_eq_true_eq, decide_eq_false_iff_not, List.length_map, Bool.not_eq_true', Bool.not_eq_false'] at hc; omega) | (try simp only [decide_eq_true_eq, decide_eq_false_iff_not, beq_iff_eq, beq_eq_false_iff_ne, ne_eq, Bool.not_eq_true', Bool.not_eq_false'] at hc))
    | refine awp_ret ?_
    | refine awp_exit ?_
    | simp (maxSteps := 1000000) only [go_sem, Nat.reduceAdd, Nat.reduceMul, Nat.reduceEqDiff, Nat.reduceLeDiff, Nat.reduceLT, Nat.reduceSub, Int.reduceEq, Int.reduceBEq, Int.reduceLT, Int.reduceLE, Int.reduceAdd, Int.reduceToNat, reduceIte, reduceCtorEq]
    | (refine hK _ ?_; clear hK; clear K')
    | refine And.intro ?_ ?_
    | (apply awC_A; (focus (simp only [go_sem, Nat.reduceAdd, Nat.reduceMul, Nat.reduceEqDiff, Nat.reduceLeDiff, Nat.reduceLT, Nat.reduceSub, Int.reduceEq, Int.reduceBEq, Int.reduceLT, Int.reduceLE, Int.reduceAdd, Int.reduceToNat, reduceIte, reduceCtorEq]; first | exact EvC.b h_catalog_rows)); (focus (simp only [go_sem, Nat.reduceAdd, Nat.reduceMul, Nat.reduceEqDiff, Nat.reduceLeDiff, Nat.reduceLT, Nat.reduceSub, Int.reduceEq, Int.reduceBEq, Int.reduceLT, Int.reduceLE, Int.reduceAdd, Int.reduceToNat, reduceIte, reduceCtorEq])))
    | (simp only [List.length_append, List.length_cons, List.length_nil, List.length_map, Nat.reducePow, Nat.reduceAdd]; omega)
    | omega)
  refine awp_loopP (ι := Nat) (fun k => k ≤ 23 ∧ findR s k (rowsL.drop k) = findR s 0 rowsL) (fun k => [(6, V.int k)]) (fun k => 23 - k) 0 (by omega) ⟨by simp, by simp⟩ (by repeat' first | exact ltO_none | refine ltO_upd (by omega) (by simp only [Ob.lt, ltL, V.lt, and_self, and_true]; try omega) ?_) (fun i hi => by simp only [ovT, lookD, Nat.reduceEqDiff, reduceIte]; (repeat' first | exact ltT_nil | refine ltT_cons ?_ ?_ | simp only [V.lt, ltL, and_self, and_true] | omega); exact closedL_lt _ _ closed_rows) (by simp only [Nat.reduceAdd, ovT, lookD, Nat.reduceEqDiff, reduceIte, eqT_cons, eqT_nil, renI, u32, u33, u34, u35, u36, u37, u38, u39, and_self, and_true, true_and]; rfl) fun k hk K' hL => ?_
  obtain ⟨hk, hinv⟩ := hk
  simp only [ovT, lookD, Nat.reduceEqDiff, reduceIte]
  rcases hd : rowsL.drop k with _ | ⟨r, rs⟩
  · have hk' := drop_nil hd
    have hl : rowsL.length = 23 := rfl
    rw [hd] at hinv
    repeat' (first
    | refine awp_seqR fun K' hK => ?_
    | refine awp_regR fun K' hK => ?_
    | refine awp_seqK ?_
    | refine awp_skip ?_
    | refine awp_block ?_
    | ((first | refine awp_cond ⟨_, rfl, fun hc => ?_, fun hc => ?_⟩ | refine awB_t (fun hc => ?_) (fun hc => ?_) | refine awB_f (fun hc => ?_) (fun hc => ?_)) <;> first | exact Bool.noConfusion hc | (exfalso; simp only [decide_eq_true_eq, decide_eq_false_iff_not, List.length_map, Bool.not_eq_true', Bool.not_eq_false'] at hc; omega) | (try simp only [decide_eq_true_eq, decide_eq_false_iff_not, beq_iff_eq, beq_eq_false_iff_ne, ne_eq, Bool.not_eq_true', Bool.not_eq_false'] at hc))
    | refine awp_ret ?_
    | refine awp_exit ?_
    | simp (maxSteps := 1000000) only [go_sem, Nat.reduceAdd, Nat.reduceMul, Nat.reduceEqDiff, Nat.reduceLeDiff, Nat.reduceLT, Nat.reduceSub, Int.reduceEq, Int.reduceBEq, Int.reduceLT, Int.reduceLE, Int.reduceAdd, Int.reduceToNat, reduceIte, reduceCtorEq]
    | (refine hK _ ?_; clear hK; clear K')
    | refine And.intro ?_ ?_
    | (apply awC_A; (focus (simp only [go_sem, Nat.reduceAdd, Nat.reduceMul, Nat.reduceEqDiff, Nat.reduceLeDiff, Nat.reduceLT, Nat.reduceSub, Int.reduceEq, Int.reduceBEq, Int.reduceLT, Int.reduceLE, Int.reduceAdd, Int.reduceToNat, reduceIte, reduceCtorEq]; first | exact EvC.b h_catalog_rows)); (focus (simp only [go_sem, Nat.reduceAdd, Nat.reduceMul, Nat.reduceEqDiff, Nat.reduceLeDiff, Nat.reduceLT, Nat.reduceSub, Int.reduceEq, Int.reduceBEq, Int.reduceLT, Int.reduceLE, Int.reduceAdd, Int.reduceToNat, reduceIte, reduceCtorEq])))
    | (simp only [List.length_append, List.length_cons, List.length_nil, List.length_map, Nat.reducePow, Nat.reduceAdd]; omega)
    | omega)
    refine ends_r _ rfl ?_; simp only [go_sem, Nat.reduceAdd, Nat.reduceMul, Nat.reduceEqDiff, Nat.reduceLeDiff, Nat.reduceLT, Nat.reduceSub, Int.reduceEq, Int.reduceBEq, Int.reduceLT, Int.reduceLE, Int.reduceAdd, Int.reduceToNat, reduceIte, reduceCtorEq]
    rw [← hinv]; rfl
  · obtain ⟨hk', hget, hr⟩ := drop_cons hd
    have hl : rowsL.length = 23 := rfl
    rw [hd] at hinv
    have hw := wrap_succ (k := k) (by omega)
    have hrow := rowsV_at' k (by omega) hget
    repeat' (first
    | refine awp_seqR fun K' hK => ?_
    | refine awp_regR fun K' hK => ?_
    | refine awp_seqK ?_
    | refine awp_skip ?_
    | refine awp_block ?_
    | ((first | refine awp_cond ⟨_, rfl, fun hc => ?_, fun hc => ?_⟩ | refine awB_t (fun hc => ?_) (fun hc => ?_) | refine awB_f (fun hc => ?_) (fun hc => ?_)) <;> first | exact Bool.noConfusion hc | (exfalso; simp only [decide_eq_true_eq, decide_eq_false_iff_not, List.length_map, Bool.not_eq_true', Bool.not_eq_false'] at hc; omega) | (try simp only [decide_eq_true_eq, decide_eq_false_iff_not, beq_iff_eq, beq_eq_false_iff_ne, ne_eq, Bool.not_eq_true', Bool.not_eq_false'] at hc))
    | refine awp_ret ?_
    | refine awp_exit ?_
    | simp (maxSteps := 1000000) only [go_sem, Nat.reduceAdd, Nat.reduceMul, Nat.reduceEqDiff, Nat.reduceLeDiff, Nat.reduceLT, Nat.reduceSub, Int.reduceEq, Int.reduceBEq, Int.reduceLT, Int.reduceLE, Int.reduceAdd, Int.reduceToNat, reduceIte, reduceCtorEq, Int.toNat_natCast, hrow, rowsV_len, hw, CRow.v]
    | (refine hK _ ?_; clear hK; clear K')
    | refine And.intro ?_ ?_
    | (apply awC_A; (focus (simp only [go_sem, Nat.reduceAdd, Nat.reduceMul, Nat.reduceEqDiff, Nat.reduceLeDiff, Nat.reduceLT, Nat.reduceSub, Int.reduceEq, Int.reduceBEq, Int.reduceLT, Int.reduceLE, Int.reduceAdd, Int.reduceToNat, reduceIte, reduceCtorEq, Int.toNat_natCast, hrow, rowsV_len, hw, CRow.v]; first | exact EvC.b h_catalog_rows)); (focus (simp only [go_sem, Nat.reduceAdd, Nat.reduceMul, Nat.reduceEqDiff, Nat.reduceLeDiff, Nat.reduceLT, Nat.reduceSub, Int.reduceEq, Int.reduceBEq, Int.reduceLT, Int.reduceLE, Int.reduceAdd, Int.reduceToNat, reduceIte, reduceCtorEq, Int.toNat_natCast, hrow, rowsV_len, hw, CRow.v])))
    | (simp only [List.length_append, List.length_cons, List.length_nil, List.length_map, Nat.reducePow, Nat.reduceAdd]; omega)
    | omega)
    all_goals first
      | (refine ends_r _ rfl ?_; simp only [go_sem, Nat.reduceAdd, Nat.reduceMul, Nat.reduceEqDiff, Nat.reduceLeDiff, Nat.reduceLT, Nat.reduceSub, Int.reduceEq, Int.reduceBEq, Int.reduceLT, Int.reduceLE, Int.reduceAdd, Int.reduceToNat, reduceIte, reduceCtorEq]; rw [← hinv]; simp [findR, hc]; omega)
      | (refine hL _ (k + 1) (by simp only [Nat.reduceAdd, ovT, lookD, Nat.reduceEqDiff, reduceIte, eqT_cons, eqT_nil, renI, u32, u33, u34, u35, u36, u37, u38, u39, and_self, and_true, true_and]) ⟨by omega, ?_⟩ (by omega) (fun a ha => by simp only [u32, u33, u34, u35, u36, u37, u38, u39]; repeat rw [if_neg (by omega)]); rw [hr, ← hinv, findR, if_neg (by first | omega | simp [hc])])
      | trace_state

def c_catalog_use : AC :=
  seqK [0, 1, 4] (.reg [⟨(some 4), .alloc [.val (.int .i64 0), .val (.int .i64 0)], none⟩])
  (seqK [4] (.reg [⟨(some 5), .mov (.t 0), none⟩,
      ⟨(some 6), .mov (.t 1), none⟩,
      ⟨(some 7), .build [(.int .i64 0), (.int .i64 0)] [(0, 1, (.t 5)), (1, 1, (.t 6))], none⟩,
      ⟨none, .store 2 (.t 4) (.t 7), none⟩])
   (.ret))

def r_catalog_use : List ARes := [.cell 4 true 2]
def CE_catalog_use (Γ : Env) (f : Nat) : Prop := ∀ (a b : Int), EvN Γ f [V.int a, V.int b] (.agg [V.int a, V.int b])
theorem ev_catalog_use {Γ : Env} {f : Nat} (h : Has Γ.P f 8 c_catalog_use r_catalog_use)  : CE_catalog_use Γ f := by
  intro a b
  refine evN_of_body h (by simp) (by simp only [V.closed, closedL, V.noSl, noSlL, and_self, and_true, true_and]) (by simp only [V.closed, closedL, V.noSl, noSlL, and_self, and_true, true_and]) fun C hC hm => ?_
  subst hC
  unfold c_catalog_use
  repeat' (first
    | refine awp_seqR fun K' hK => ?_
    | refine awp_regR fun K' hK => ?_
    | refine awp_seqK ?_
    | refine awp_skip ?_
    | refine awp_block ?_
    | ((first | refine awp_cond ⟨_, rfl, fun hc => ?_, fun hc => ?_⟩ | refine awB_t (fun hc => ?_) (fun hc => ?_) | refine awB_f (fun hc => ?_) (fun hc => ?_)) <;> first | exact Bool.noConfusion hc | (exfalso; simp only [decide_eq_true_eq, decide_eq_false_iff_not, List.length_map, Bool.not_eq_true', Bool.not_eq_false'] at hc; omega) | (try simp only [decide_eq_true_eq, decide_eq_false_iff_not, beq_iff_eq, beq_eq_false_iff_ne, ne_eq, Bool.not_eq_true', Bool.not_eq_false'] at hc))
    | refine awp_ret ?_
    | refine awp_exit ?_
    | simp (maxSteps := 1000000) only [go_sem, Nat.reduceAdd, Nat.reduceMul, Nat.reduceEqDiff, Nat.reduceLeDiff, Nat.reduceLT, Nat.reduceSub, Int.reduceEq, Int.reduceBEq, Int.reduceLT, Int.reduceLE, Int.reduceAdd, Int.reduceToNat, reduceIte, reduceCtorEq]
    | (refine hK _ ?_; clear hK; clear K')
    | refine And.intro ?_ ?_
    | (simp only [List.length_append, List.length_cons, List.length_nil, List.length_map, Nat.reducePow, Nat.reduceAdd]; omega)
    | omega)
  refine ends_r _ rfl ?_; simp only [go_sem, Nat.reduceAdd, Nat.reduceMul, Nat.reduceEqDiff, Nat.reduceLeDiff, Nat.reduceLT, Nat.reduceSub, Int.reduceEq, Int.reduceBEq, Int.reduceLT, Int.reduceLE, Int.reduceAdd, Int.reduceToNat, reduceIte, reduceCtorEq]

def useP (s : List UInt8) : Int × Int := (findR (Lib.cut s [45]).1 0 rowsL, atoiV (Lib.cut s [45]).2.1)
def parseOk (s : List UInt8) : Bool := decide (strengthS (useP s).1 (useP s).2 > 0) && textS (useP s).1 (useP s).2 == s
def parseS (s : List UInt8) : V := if parseOk s then .tup [.agg [V.int (useP s).1, V.int (useP s).2], V.int 0] else .tup [.agg [V.int 0, V.int 0], V.int 7]
theorem parseS_closed (s : List UInt8) : (parseS s).closed := by unfold parseS; split <;> simp [V.closed, closedL]
theorem parseS_noSl (s : List UInt8) : (parseS s).noSl := by unfold parseS; split <;> simp [V.noSl, noSlL]
theorem cut_len (s sep : List UInt8) : (Lib.cut s sep).2.1.length ≤ s.length := by
  unfold Lib.cut; split <;> simp

def c_catalog_Parse (f_strings_Cut f_strconv_Atoi f_catalog_Find f_catalog_Valid f_catalog_Text : Nat) : AC :=
  seqK [0, 2] (.reg [⟨(some 2), .alloc [.val (.int .i64 0), .val (.int .i64 0)], none⟩,
     ⟨(some 3), .mov (.c (V.int 0)), none⟩])
  (seqK [0, 2, 4, 5] (.reg [⟨(some 11), .mov (.t 0), none⟩,
      ⟨(some 12), .call f_strings_Cut [(.t 11), (.c (V.str [45]))], none⟩,
      ⟨(some 10), .mov (.t 12), none⟩,
      ⟨(some 13), .ext (.t 10) 0, none⟩,
      ⟨(some 14), .ext (.t 10) 1, none⟩,
      ⟨(some 15), .ext (.t 10) 2, none⟩,
      ⟨(some 4), .mov (.t 13), none⟩,
      ⟨(some 5), .mov (.t 14), none⟩,
      ⟨(some 6), .mov (.t 15), none⟩])
   (seqK [0, 2, 4, 7] (.reg [⟨(some 17), .mov (.t 5), none⟩,
       ⟨(some 18), .call f_strconv_Atoi [(.t 17)], none⟩,
       ⟨(some 16), .mov (.t 18), none⟩,
       ⟨(some 19), .ext (.t 16) 0, none⟩,
       ⟨(some 20), .ext (.t 16) 1, none⟩,
       ⟨(some 7), .mov (.t 19), none⟩,
       ⟨(some 8), .mov (.t 20), none⟩])
    (seqK [0, 2, 9] (.reg [⟨(some 21), .mov (.t 4), none⟩,
        ⟨(some 22), .call f_catalog_Find [(.t 21)], none⟩,
        ⟨(some 23), .mov (.t 7), none⟩,
        ⟨(some 24), .build [(.int .i64 0), (.int .i64 0)] [(0, 1, (.t 22)), (1, 1, (.t 23))], none⟩,
        ⟨(some 9), .alloc [.val (.int .i64 0), .val (.int .i64 0)], none⟩,
        ⟨none, .store 2 (.t 9) (.t 24), none⟩])
     (seqK [2, 9] (seqK [2, 9, 33] (.reg [⟨(some 25), .load true 2 (.t 9), none⟩,
          ⟨(some 26), .call f_catalog_Valid [(.t 25)], none⟩,
          ⟨(some 27), .un .not (.t 26), none⟩,
          ⟨(some 28), .mov (.t 27), none⟩,
          ⟨(some 29), .load true 2 (.t 9), (some (28, false))⟩,
          ⟨(some 30), .call f_catalog_Text [(.t 29)], (some (28, false))⟩,
          ⟨(some 31), .mov (.t 0), (some (28, false))⟩,
          ⟨(some 32), .bin .neq (.t 30) (.t 31), (some (28, false))⟩,
          ⟨(some 33), .pick (.t 28) (.c (V.bool true)) (.t 32), none⟩])
       (.cond (.t 33)
         (seqK [2, 3] (.reg [⟨(some 34), .build [(.int .i64 0), (.int .i64 0)] [], none⟩,
             ⟨none, .store 2 (.t 2) (.t 34), none⟩,
             ⟨(some 3), .mov (.c (V.int 7)), none⟩])
          (.ret))
         (.skip)))
      (seqK [2, 3] (.reg [⟨(some 35), .load true 2 (.t 9), none⟩,
          ⟨none, .store 2 (.t 2) (.t 35), none⟩,
          ⟨(some 3), .mov (.c (V.int 0)), none⟩])
       (.ret))))))

def r_catalog_Parse : List ARes := [.cell 2 true 2, .tmp 3]
def CE_catalog_Parse (Γ : Env) (f : Nat) : Prop := ∀ (s : List UInt8) (hs : s.length < 4294967281), EvN Γ f [V.str s] (parseS s)
theorem ev_catalog_Parse {Γ : Env} {f f_strings_Cut f_strconv_Atoi f_catalog_Find f_catalog_Valid f_catalog_Text : Nat} (h : Has Γ.P f 36 (c_catalog_Parse f_strings_Cut f_strconv_Atoi f_catalog_Find f_catalog_Valid f_catalog_Text) r_catalog_Parse) (h_strings_Cut : CE_strings_Cut Γ f_strings_Cut) (h_strconv_Atoi : CE_strconv_Atoi Γ f_strconv_Atoi) (h_catalog_Find : CE_catalog_Find Γ f_catalog_Find) (h_catalog_Valid : CE_catalog_Valid Γ f_catalog_Valid) (h_catalog_Text : CE_catalog_Text Γ f_catalog_Text) : CE_catalog_Parse Γ f := by
  intro s hs
  refine evN_of_body h (by simp) (by first | exact parseS_closed s | exact parseS_noSl s) (by first | exact parseS_closed s | exact parseS_noSl s) fun C hC hm => ?_
  subst hC
  unfold c_catalog_Parse
  have hl := cut_len s [45]
  repeat' (first
    | refine awp_seqR fun K' hK => ?_
    | refine awp_regR fun K' hK => ?_
    | refine awp_seqK ?_
    | refine awp_skip ?_
    | refine awp_block ?_
    | ((first | refine awp_cond ⟨_, rfl, fun hc => ?_, fun hc => ?_⟩ | refine awB_t (fun hc => ?_) (fun hc => ?_) | refine awB_f (fun hc => ?_) (fun hc => ?_)) <;> first | exact Bool.noConfusion hc | (exfalso; simp only [decide_eq_true_eq, decide_eq_false_iff_not, List.length_map, Bool.not_eq_true', Bool.not_eq_false'] at hc; omega) | (try simp only [decide_eq_true_eq, decide_eq_false_iff_not, beq_iff_eq, beq_eq_false_iff_ne, ne_eq, Bool.not_eq_true', Bool.not_eq_false'] at hc))
    | refine awp_ret ?_
    | refine awp_exit ?_
    | simp (maxSteps := 1000000) only [go_sem, Nat.reduceAdd, Nat.reduceMul, Nat.reduceEqDiff, Nat.reduceLeDiff, Nat.reduceLT, Nat.reduceSub, Int.reduceEq, Int.reduceBEq, Int.reduceLT, Int.reduceLE, Int.reduceAdd, Int.reduceToNat, reduceIte, reduceCtorEq]
    | (refine hK _ ?_; clear hK; clear K')
    | refine And.intro ?_ ?_
    | (apply awC_A; (focus (simp only [go_sem, Nat.reduceAdd, Nat.reduceMul, Nat.reduceEqDiff, Nat.reduceLeDiff, Nat.reduceLT, Nat.reduceSub, Int.reduceEq, Int.reduceBEq, Int.reduceLT, Int.reduceLE, Int.reduceAdd, Int.reduceToNat, reduceIte, reduceCtorEq]; first | exact (h_strings_Cut _ _ (by first | assumption | omega | simp)).b | exact (h_strconv_Atoi _ (by first | assumption | omega | simp)).b | exact (h_catalog_Find _).b | exact (h_catalog_Valid _ _).b | exact (h_catalog_Text _ _).b)); (focus (simp only [go_sem, Nat.reduceAdd, Nat.reduceMul, Nat.reduceEqDiff, Nat.reduceLeDiff, Nat.reduceLT, Nat.reduceSub, Int.reduceEq, Int.reduceBEq, Int.reduceLT, Int.reduceLE, Int.reduceAdd, Int.reduceToNat, reduceIte, reduceCtorEq])))
    | (simp only [List.length_append, List.length_cons, List.length_nil, List.length_map, Nat.reducePow, Nat.reduceAdd]; omega)
    | omega)
  all_goals first
    | (rw [parseS, if_neg (by simp [parseOk, useP, *])]; refine ends_r _ rfl ?_; simp only [go_sem, Nat.reduceAdd, Nat.reduceMul, Nat.reduceEqDiff, Nat.reduceLeDiff, Nat.reduceLT, Nat.reduceSub, Int.reduceEq, Int.reduceBEq, Int.reduceLT, Int.reduceLE, Int.reduceAdd, Int.reduceToNat, reduceIte, reduceCtorEq]; done)
    | (rw [parseS, if_pos (by simp [parseOk, useP, *])]; refine ends_r _ rfl ?_; simp only [go_sem, Nat.reduceAdd, Nat.reduceMul, Nat.reduceEqDiff, Nat.reduceLeDiff, Nat.reduceLT, Nat.reduceSub, Int.reduceEq, Int.reduceBEq, Int.reduceLT, Int.reduceLE, Int.reduceAdd, Int.reduceToNat, reduceIte, reduceCtorEq]; simp [useP]; done)
    | trace_state
end Av
end

section
set_option linter.unusedSimpArgs false
set_option linter.unusedVariables false
set_option maxRecDepth 10000
namespace Av
open Go
attribute [local irreducible] AWp runO runP runG awS awC awCv awQ awRd awCallR awCvR awQR awR awRdR awB okR plan ris

structure CSuite where
  code : Int
  name : List UInt8
  kx1 : Int
  kx2 : Int
  sg1 : Int
  sg2 : Int
  ci1 : Int
  ci2 : Int
  mc1 : Int
  mc2 : Int
  lo : Int
  hi : Int
  deriving DecidableEq

def CSuite.cells (s : CSuite) : List V := [V.int s.code, V.str s.name, V.int s.kx1, V.int s.kx2, V.int s.sg1, V.int s.sg2, V.int s.ci1, V.int s.ci2, V.int s.mc1, V.int s.mc2, V.int s.lo, V.int s.hi]
def CSuite.v (s : CSuite) : V := .agg s.cells
def suitesL : List CSuite := [⟨1, [114, 115, 97, 45, 114, 99, 52, 45, 109, 100, 53], 10, 0, 5, 0, 14, 128, 19, 0, 1, 2⟩, ⟨2, [114, 115, 97, 45, 114, 99, 52, 45, 115, 104, 97], 10, 0, 5, 0, 14, 128, 20, 0, 1, 3⟩, ⟨3, [114, 115, 97, 45, 100, 101, 115, 51, 45, 115, 104, 97], 10, 0, 5, 0, 15, 168, 20, 0, 1, 3⟩, ⟨4, [100, 104, 101, 45, 100, 115, 97, 45, 100, 101, 115, 51, 45, 115, 104, 97], 11, 1024, 6, 0, 15, 168, 20, 0, 1, 3⟩, ⟨5, [100, 104, 101, 45, 114, 115, 97, 45, 100, 101, 115, 51, 45, 115, 104, 97], 11, 1024, 5, 0, 15, 168, 20, 0, 1, 3⟩, ⟨6, [114, 115, 97, 45, 97, 101, 115, 49, 50, 56, 45, 115, 104, 97], 10, 0, 5, 0, 16, 128, 20, 0, 1, 3⟩, ⟨7, [100, 104, 101, 45, 114, 115, 97, 45, 97, 101, 115, 49, 50, 56, 45, 115, 104, 97], 11, 2048, 5, 0, 16, 128, 20, 0, 1, 3⟩, ⟨8, [101, 99, 100, 104, 101, 45, 114, 115, 97, 45, 97, 101, 115, 49, 50, 56, 45, 115, 104, 97], 12, 256, 5, 0, 16, 128, 20, 0, 1, 3⟩, ⟨9, [101, 99, 100, 104, 101, 45, 101, 99, 100, 115, 97, 45, 97, 101, 115, 50, 53, 54, 45, 115, 104, 97, 50, 53, 54], 12, 256, 7, 0, 16, 256, 21, 0, 3, 3⟩, ⟨10, [101, 99, 100, 104, 101, 45, 114, 115, 97, 45, 97, 101, 115, 49, 50, 56, 45, 103, 99, 109], 12, 256, 5, 0, 17, 128, 22, 0, 3, 3⟩, ⟨11, [101, 99, 100, 104, 101, 45, 101, 99, 100, 115, 97, 45, 97, 101, 115, 50, 53, 54, 45, 103, 99, 109], 12, 384, 7, 0, 17, 256, 22, 0, 3, 3⟩, ⟨12, [101, 99, 100, 104, 101, 45, 114, 115, 97, 45, 99, 104, 97, 99, 104, 97], 12, 256, 5, 0, 18, 0, 22, 0, 3, 3⟩, ⟨13, [114, 115, 97, 45, 97, 101, 115, 50, 53, 54, 45, 103, 99, 109], 10, 0, 5, 0, 17, 256, 22, 0, 3, 3⟩, ⟨14, [97, 101, 115, 49, 50, 56, 45, 103, 99, 109], 12, 256, 0, 0, 17, 128, 22, 0, 4, 4⟩, ⟨15, [99, 104, 97, 99, 104, 97], 12, 256, 0, 0, 18, 0, 22, 0, 4, 4⟩, ⟨16, [109, 108, 107, 101, 109, 45, 97, 101, 115, 50, 53, 54, 45, 103, 99, 109], 13, 768, 0, 0, 17, 256, 22, 0, 4, 4⟩]
/-- The table while its codes are filled in. -/
def suitesK (k : Nat) : List V := (suitesL.take k).map CSuite.v ++ (suitesL.drop k).map fun s => CSuite.v { s with code := 0 }
theorem suitesK_get (k : Nat) (h : k < 16) : ∃ cs, (suitesK k)[k]? = some (.agg (V.int 0 :: cs)) ∧ cs.length = 11 ∧ (suitesK k).set k (.agg (V.int ((k + 1 : Nat) : Int) :: cs)) = suitesK (k + 1) := by
  rcases (by omega : k = 0 ∨ k = 1 ∨ k = 2 ∨ k = 3 ∨ k = 4 ∨ k = 5 ∨ k = 6 ∨ k = 7 ∨ k = 8 ∨ k = 9 ∨ k = 10 ∨ k = 11 ∨ k = 12 ∨ k = 13 ∨ k = 14 ∨ k = 15) with rfl | rfl | rfl | rfl | rfl | rfl | rfl | rfl | rfl | rfl | rfl | rfl | rfl | rfl | rfl | rfl
  all_goals exact ⟨_, rfl, rfl, rfl⟩

-- REGION catalog_Suites 0: 82 operations, 1 orders, L [], X false, ok true
def o_catalog_Suites_0 (f_catalog_use : Nat) : List AO :=
  [⟨(some 31), .load true 2 (.t 1), none⟩,
    ⟨(some 32), .load true 2 (.t 2), none⟩,
    ⟨(some 33), .call f_catalog_use [(.c (V.int 14)), (.c (V.int 128))], none⟩,
    ⟨(some 34), .load true 2 (.t 11), none⟩,
    ⟨(some 35), .build [(.int .i64 0), (.string ⟨#[]⟩), (.int .i64 0), (.int .i64 0), (.int .i64 0), (.int .i64 0), (.int .i64 0), (.int .i64 0), (.int .i64 0), (.int .i64 0), (.int .i64 0), (.int .i64 0)] [(1, 1, (.c (V.str [114, 115, 97, 45, 114, 99, 52, 45, 109, 100, 53]))), (2, 2, (.t 31)), (4, 2, (.t 32)), (6, 2, (.t 33)), (8, 2, (.t 34)), (10, 1, (.c (V.int 1))), (11, 1, (.c (V.int 2)))], none⟩,
    ⟨(some 36), .load true 2 (.t 1), none⟩,
    ⟨(some 37), .load true 2 (.t 2), none⟩,
    ⟨(some 38), .call f_catalog_use [(.c (V.int 14)), (.c (V.int 128))], none⟩,
    ⟨(some 39), .load true 2 (.t 12), none⟩,
    ⟨(some 40), .build [(.int .i64 0), (.string ⟨#[]⟩), (.int .i64 0), (.int .i64 0), (.int .i64 0), (.int .i64 0), (.int .i64 0), (.int .i64 0), (.int .i64 0), (.int .i64 0), (.int .i64 0), (.int .i64 0)] [(1, 1, (.c (V.str [114, 115, 97, 45, 114, 99, 52, 45, 115, 104, 97]))), (2, 2, (.t 36)), (4, 2, (.t 37)), (6, 2, (.t 38)), (8, 2, (.t 39)), (10, 1, (.c (V.int 1))), (11, 1, (.c (V.int 3)))], none⟩,
    ⟨(some 41), .load true 2 (.t 1), none⟩,
    ⟨(some 42), .load true 2 (.t 2), none⟩,
    ⟨(some 43), .load true 2 (.t 6), none⟩,
    ⟨(some 44), .load true 2 (.t 12), none⟩,
    ⟨(some 45), .build [(.int .i64 0), (.string ⟨#[]⟩), (.int .i64 0), (.int .i64 0), (.int .i64 0), (.int .i64 0), (.int .i64 0), (.int .i64 0), (.int .i64 0), (.int .i64 0), (.int .i64 0), (.int .i64 0)] [(1, 1, (.c (V.str [114, 115, 97, 45, 100, 101, 115, 51, 45, 115, 104, 97]))), (2, 2, (.t 41)), (4, 2, (.t 42)), (6, 2, (.t 43)), (8, 2, (.t 44)), (10, 1, (.c (V.int 1))), (11, 1, (.c (V.int 3)))], none⟩,
    ⟨(some 46), .call f_catalog_use [(.c (V.int 11)), (.c (V.int 1024))], none⟩,
    ⟨(some 47), .load true 2 (.t 3), none⟩,
    ⟨(some 48), .load true 2 (.t 6), none⟩,
    ⟨(some 49), .load true 2 (.t 12), none⟩,
    ⟨(some 50), .build [(.int .i64 0), (.string ⟨#[]⟩), (.int .i64 0), (.int .i64 0), (.int .i64 0), (.int .i64 0), (.int .i64 0), (.int .i64 0), (.int .i64 0), (.int .i64 0), (.int .i64 0), (.int .i64 0)] [(1, 1, (.c (V.str [100, 104, 101, 45, 100, 115, 97, 45, 100, 101, 115, 51, 45, 115, 104, 97]))), (2, 2, (.t 46)), (4, 2, (.t 47)), (6, 2, (.t 48)), (8, 2, (.t 49)), (10, 1, (.c (V.int 1))), (11, 1, (.c (V.int 3)))], none⟩,
    ⟨(some 51), .call f_catalog_use [(.c (V.int 11)), (.c (V.int 1024))], none⟩,
    ⟨(some 52), .load true 2 (.t 2), none⟩,
    ⟨(some 53), .load true 2 (.t 6), none⟩,
    ⟨(some 54), .load true 2 (.t 12), none⟩,
    ⟨(some 55), .build [(.int .i64 0), (.string ⟨#[]⟩), (.int .i64 0), (.int .i64 0), (.int .i64 0), (.int .i64 0), (.int .i64 0), (.int .i64 0), (.int .i64 0), (.int .i64 0), (.int .i64 0), (.int .i64 0)] [(1, 1, (.c (V.str [100, 104, 101, 45, 114, 115, 97, 45, 100, 101, 115, 51, 45, 115, 104, 97]))), (2, 2, (.t 51)), (4, 2, (.t 52)), (6, 2, (.t 53)), (8, 2, (.t 54)), (10, 1, (.c (V.int 1))), (11, 1, (.c (V.int 3)))], none⟩,
    ⟨(some 56), .load true 2 (.t 1), none⟩,
    ⟨(some 57), .load true 2 (.t 2), none⟩,
    ⟨(some 58), .load true 2 (.t 7), none⟩,
    ⟨(some 59), .load true 2 (.t 12), none⟩,
    ⟨(some 60), .build [(.int .i64 0), (.string ⟨#[]⟩), (.int .i64 0), (.int .i64 0), (.int .i64 0), (.int .i64 0), (.int .i64 0), (.int .i64 0), (.int .i64 0), (.int .i64 0), (.int .i64 0), (.int .i64 0)] [(1, 1, (.c (V.str [114, 115, 97, 45, 97, 101, 115, 49, 50, 56, 45, 115, 104, 97]))), (2, 2, (.t 56)), (4, 2, (.t 57)), (6, 2, (.t 58)), (8, 2, (.t 59)), (10, 1, (.c (V.int 1))), (11, 1, (.c (V.int 3)))], none⟩,
    ⟨(some 61), .call f_catalog_use [(.c (V.int 11)), (.c (V.int 2048))], none⟩,
    ⟨(some 62), .load true 2 (.t 2), none⟩,
    ⟨(some 63), .load true 2 (.t 7), none⟩,
    ⟨(some 64), .load true 2 (.t 12), none⟩,
    ⟨(some 65), .build [(.int .i64 0), (.string ⟨#[]⟩), (.int .i64 0), (.int .i64 0), (.int .i64 0), (.int .i64 0), (.int .i64 0), (.int .i64 0), (.int .i64 0), (.int .i64 0), (.int .i64 0), (.int .i64 0)] [(1, 1, (.c (V.str [100, 104, 101, 45, 114, 115, 97, 45, 97, 101, 115, 49, 50, 56, 45, 115, 104, 97]))), (2, 2, (.t 61)), (4, 2, (.t 62)), (6, 2, (.t 63)), (8, 2, (.t 64)), (10, 1, (.c (V.int 1))), (11, 1, (.c (V.int 3)))], none⟩,
    ⟨(some 66), .load true 2 (.t 14), none⟩,
    ⟨(some 67), .load true 2 (.t 2), none⟩,
    ⟨(some 68), .load true 2 (.t 7), none⟩,
    ⟨(some 69), .load true 2 (.t 12), none⟩,
    ⟨(some 70), .build [(.int .i64 0), (.string ⟨#[]⟩), (.int .i64 0), (.int .i64 0), (.int .i64 0), (.int .i64 0), (.int .i64 0), (.int .i64 0), (.int .i64 0), (.int .i64 0), (.int .i64 0), (.int .i64 0)] [(1, 1, (.c (V.str [101, 99, 100, 104, 101, 45, 114, 115, 97, 45, 97, 101, 115, 49, 50, 56, 45, 115, 104, 97]))), (2, 2, (.t 66)), (4, 2, (.t 67)), (6, 2, (.t 68)), (8, 2, (.t 69)), (10, 1, (.c (V.int 1))), (11, 1, (.c (V.int 3)))], none⟩,
    ⟨(some 71), .load true 2 (.t 14), none⟩,
    ⟨(some 72), .load true 2 (.t 4), none⟩,
    ⟨(some 73), .call f_catalog_use [(.c (V.int 16)), (.c (V.int 256))], none⟩,
    ⟨(some 74), .call f_catalog_use [(.c (V.int 21)), (.c (V.int 0))], none⟩,
    ⟨(some 75), .build [(.int .i64 0), (.string ⟨#[]⟩), (.int .i64 0), (.int .i64 0), (.int .i64 0), (.int .i64 0), (.int .i64 0), (.int .i64 0), (.int .i64 0), (.int .i64 0), (.int .i64 0), (.int .i64 0)] [(1, 1, (.c (V.str [101, 99, 100, 104, 101, 45, 101, 99, 100, 115, 97, 45, 97, 101, 115, 50, 53, 54, 45, 115, 104, 97, 50, 53, 54]))), (2, 2, (.t 71)), (4, 2, (.t 72)), (6, 2, (.t 73)), (8, 2, (.t 74)), (10, 1, (.c (V.int 3))), (11, 1, (.c (V.int 3)))], none⟩,
    ⟨(some 76), .load true 2 (.t 14), none⟩,
    ⟨(some 77), .load true 2 (.t 2), none⟩,
    ⟨(some 78), .load true 2 (.t 8), none⟩,
    ⟨(some 79), .load true 2 (.t 13), none⟩,
    ⟨(some 80), .build [(.int .i64 0), (.string ⟨#[]⟩), (.int .i64 0), (.int .i64 0), (.int .i64 0), (.int .i64 0), (.int .i64 0), (.int .i64 0), (.int .i64 0), (.int .i64 0), (.int .i64 0), (.int .i64 0)] [(1, 1, (.c (V.str [101, 99, 100, 104, 101, 45, 114, 115, 97, 45, 97, 101, 115, 49, 50, 56, 45, 103, 99, 109]))), (2, 2, (.t 76)), (4, 2, (.t 77)), (6, 2, (.t 78)), (8, 2, (.t 79)), (10, 1, (.c (V.int 3))), (11, 1, (.c (V.int 3)))], none⟩,
    ⟨(some 81), .call f_catalog_use [(.c (V.int 12)), (.c (V.int 384))], none⟩,
    ⟨(some 82), .load true 2 (.t 4), none⟩,
    ⟨(some 83), .load true 2 (.t 9), none⟩,
    ⟨(some 84), .load true 2 (.t 13), none⟩,
    ⟨(some 85), .build [(.int .i64 0), (.string ⟨#[]⟩), (.int .i64 0), (.int .i64 0), (.int .i64 0), (.int .i64 0), (.int .i64 0), (.int .i64 0), (.int .i64 0), (.int .i64 0), (.int .i64 0), (.int .i64 0)] [(1, 1, (.c (V.str [101, 99, 100, 104, 101, 45, 101, 99, 100, 115, 97, 45, 97, 101, 115, 50, 53, 54, 45, 103, 99, 109]))), (2, 2, (.t 81)), (4, 2, (.t 82)), (6, 2, (.t 83)), (8, 2, (.t 84)), (10, 1, (.c (V.int 3))), (11, 1, (.c (V.int 3)))], none⟩,
    ⟨(some 86), .load true 2 (.t 14), none⟩,
    ⟨(some 87), .load true 2 (.t 2), none⟩,
    ⟨(some 88), .load true 2 (.t 10), none⟩,
    ⟨(some 89), .load true 2 (.t 13), none⟩,
    ⟨(some 90), .build [(.int .i64 0), (.string ⟨#[]⟩), (.int .i64 0), (.int .i64 0), (.int .i64 0), (.int .i64 0), (.int .i64 0), (.int .i64 0), (.int .i64 0), (.int .i64 0), (.int .i64 0), (.int .i64 0)] [(1, 1, (.c (V.str [101, 99, 100, 104, 101, 45, 114, 115, 97, 45, 99, 104, 97, 99, 104, 97]))), (2, 2, (.t 86)), (4, 2, (.t 87)), (6, 2, (.t 88)), (8, 2, (.t 89)), (10, 1, (.c (V.int 3))), (11, 1, (.c (V.int 3)))], none⟩,
    ⟨(some 91), .load true 2 (.t 1), none⟩,
    ⟨(some 92), .load true 2 (.t 2), none⟩,
    ⟨(some 93), .load true 2 (.t 9), none⟩,
    ⟨(some 94), .load true 2 (.t 13), none⟩,
    ⟨(some 95), .build [(.int .i64 0), (.string ⟨#[]⟩), (.int .i64 0), (.int .i64 0), (.int .i64 0), (.int .i64 0), (.int .i64 0), (.int .i64 0), (.int .i64 0), (.int .i64 0), (.int .i64 0), (.int .i64 0)] [(1, 1, (.c (V.str [114, 115, 97, 45, 97, 101, 115, 50, 53, 54, 45, 103, 99, 109]))), (2, 2, (.t 91)), (4, 2, (.t 92)), (6, 2, (.t 93)), (8, 2, (.t 94)), (10, 1, (.c (V.int 3))), (11, 1, (.c (V.int 3)))], none⟩,
    ⟨(some 96), .load true 2 (.t 14), none⟩,
    ⟨(some 97), .load true 2 (.t 5), none⟩,
    ⟨(some 98), .load true 2 (.t 8), none⟩,
    ⟨(some 99), .load true 2 (.t 13), none⟩,
    ⟨(some 100), .build [(.int .i64 0), (.string ⟨#[]⟩), (.int .i64 0), (.int .i64 0), (.int .i64 0), (.int .i64 0), (.int .i64 0), (.int .i64 0), (.int .i64 0), (.int .i64 0), (.int .i64 0), (.int .i64 0)] [(1, 1, (.c (V.str [97, 101, 115, 49, 50, 56, 45, 103, 99, 109]))), (2, 2, (.t 96)), (4, 2, (.t 97)), (6, 2, (.t 98)), (8, 2, (.t 99)), (10, 1, (.c (V.int 4))), (11, 1, (.c (V.int 4)))], none⟩,
    ⟨(some 101), .load true 2 (.t 14), none⟩,
    ⟨(some 102), .load true 2 (.t 5), none⟩,
    ⟨(some 103), .load true 2 (.t 10), none⟩,
    ⟨(some 104), .load true 2 (.t 13), none⟩,
    ⟨(some 105), .build [(.int .i64 0), (.string ⟨#[]⟩), (.int .i64 0), (.int .i64 0), (.int .i64 0), (.int .i64 0), (.int .i64 0), (.int .i64 0), (.int .i64 0), (.int .i64 0), (.int .i64 0), (.int .i64 0)] [(1, 1, (.c (V.str [99, 104, 97, 99, 104, 97]))), (2, 2, (.t 101)), (4, 2, (.t 102)), (6, 2, (.t 103)), (8, 2, (.t 104)), (10, 1, (.c (V.int 4))), (11, 1, (.c (V.int 4)))], none⟩,
    ⟨(some 106), .call f_catalog_use [(.c (V.int 13)), (.c (V.int 768))], none⟩,
    ⟨(some 107), .load true 2 (.t 5), none⟩,
    ⟨(some 108), .load true 2 (.t 9), none⟩,
    ⟨(some 109), .load true 2 (.t 13), none⟩,
    ⟨(some 110), .build [(.int .i64 0), (.string ⟨#[]⟩), (.int .i64 0), (.int .i64 0), (.int .i64 0), (.int .i64 0), (.int .i64 0), (.int .i64 0), (.int .i64 0), (.int .i64 0), (.int .i64 0), (.int .i64 0)] [(1, 1, (.c (V.str [109, 108, 107, 101, 109, 45, 97, 101, 115, 50, 53, 54, 45, 103, 99, 109]))), (2, 2, (.t 106)), (4, 2, (.t 107)), (6, 2, (.t 108)), (8, 2, (.t 109)), (10, 1, (.c (V.int 4))), (11, 1, (.c (V.int 4)))], none⟩,
    ⟨(some 111), .bslice 16 12 true [(.int .i64 0), (.string ⟨#[]⟩), (.int .i64 0), (.int .i64 0), (.int .i64 0), (.int .i64 0), (.int .i64 0), (.int .i64 0), (.int .i64 0), (.int .i64 0), (.int .i64 0), (.int .i64 0)] [(0, (.t 35)), (1, (.t 40)), (2, (.t 45)), (3, (.t 50)), (4, (.t 55)), (5, (.t 60)), (6, (.t 65)), (7, (.t 70)), (8, (.t 75)), (9, (.t 80)), (10, (.t 85)), (11, (.t 90)), (12, (.t 95)), (13, (.t 100)), (14, (.t 105)), (15, (.t 110))], none⟩,
    ⟨(some 15), .mov (.t 111), none⟩]
def a_catalog_Suites_0 : List (List Nat) := [[], [], [], [], [0, 1, 2, 3], [], [], [2], [], [5, 6, 7, 8], [], [], [], [], [10, 11, 12, 13], [7], [], [], [], [15, 16, 17, 18], [15], [], [], [], [20, 21, 22, 23], [], [], [], [], [25, 26, 27, 28], [20], [], [], [], [30, 31, 32, 33], [], [], [], [], [35, 36, 37, 38], [], [], [30], [42], [40, 41, 42, 43], [], [], [], [], [45, 46, 47, 48], [43], [], [], [], [50, 51, 52, 53], [], [], [], [], [55, 56, 57, 58], [], [], [], [], [60, 61, 62, 63], [], [], [], [], [65, 66, 67, 68], [], [], [], [], [70, 71, 72, 73], [50], [], [], [], [75, 76, 77, 78], [4, 9, 14, 19, 24, 29, 34, 39, 44, 49, 54, 59, 64, 69, 74, 79], [80, 75, 0, 1, 2, 3, 4, 5, 6, 7, 8, 9, 10, 11, 12, 13, 14, 15, 16, 17, 18, 19, 20, 21, 22, 23, 24, 25, 26, 27, 28, 29, 30, 31, 32, 33, 34, 35, 36, 37, 38, 39, 40, 41, 42, 43, 44, 45, 46, 47, 48, 49, 50, 51, 52, 53, 54, 55, 56, 57, 58, 59, 60, 61, 62, 63, 64, 65, 66, 67, 68, 69, 70, 71, 72, 73, 74, 75, 76, 77, 78, 79, 80]]
def t_catalog_Suites_0 : OT := .one 0 (.one 1 (.one 3 (.one 5 (.one 6 (.one 8 (.one 10 (.one 11 (.one 12 (.one 13 (.one 14 (.one 16 (.one 17 (.one 18 (.one 21 (.one 22 (.one 23 (.one 25 (.one 26 (.one 27 (.one 28 (.one 29 (.one 31 (.one 32 (.one 33 (.one 35 (.one 36 (.one 37 (.one 38 (.one 39 (.one 40 (.one 41 (.one 45 (.one 46 (.one 47 (.one 48 (.one 49 (.one 51 (.one 52 (.one 53 (.one 55 (.one 56 (.one 57 (.one 58 (.one 59 (.one 60 (.one 61 (.one 62 (.one 63 (.one 64 (.one 65 (.one 66 (.one 67 (.one 68 (.one 69 (.one 70 (.one 71 (.one 72 (.one 73 (.one 74 (.one 76 (.one 77 (.one 78 (.or 2 (.one 4 (.or 7 (.one 9 (.or 15 (.one 19 (.or 20 (.one 24 (.or 30 (.one 34 (.or 42 (.or 43 (.one 44 (.or 50 (.one 54 (.or 75 (.one 79 (.one 80 (.one 81 (.done)))) (.done))) (.done))) (.done)) (.done))) (.done))) (.done))) (.done))) (.done))) (.done))))))))))))))))))))))))))))))))))))))))))))))))))))))))))))))))
def p_catalog_Suites_0 (f_catalog_use : Nat) : OP :=
  .one 0 false [] ⟨(some 31), .load true 2 (.t 1), none⟩
  (.one 1 false [] ⟨(some 32), .load true 2 (.t 2), none⟩
  (.one 3 false [] ⟨(some 34), .load true 2 (.t 11), none⟩
  (.one 5 false [] ⟨(some 36), .load true 2 (.t 1), none⟩
  (.one 6 false [] ⟨(some 37), .load true 2 (.t 2), none⟩
  (.one 8 false [] ⟨(some 39), .load true 2 (.t 12), none⟩
  (.one 10 false [] ⟨(some 41), .load true 2 (.t 1), none⟩
  (.one 11 false [] ⟨(some 42), .load true 2 (.t 2), none⟩
  (.one 12 false [] ⟨(some 43), .load true 2 (.t 6), none⟩
  (.one 13 false [] ⟨(some 44), .load true 2 (.t 12), none⟩
  (.one 14 false [] ⟨(some 45), .build [(.int .i64 0), (.string ⟨#[]⟩), (.int .i64 0), (.int .i64 0), (.int .i64 0), (.int .i64 0), (.int .i64 0), (.int .i64 0), (.int .i64 0), (.int .i64 0), (.int .i64 0), (.int .i64 0)] [(1, 1, (.c (V.str [114, 115, 97, 45, 100, 101, 115, 51, 45, 115, 104, 97]))), (2, 2, (.t 41)), (4, 2, (.t 42)), (6, 2, (.t 43)), (8, 2, (.t 44)), (10, 1, (.c (V.int 1))), (11, 1, (.c (V.int 3)))], none⟩
  (.one 16 false [] ⟨(some 47), .load true 2 (.t 3), none⟩
  (.one 17 false [] ⟨(some 48), .load true 2 (.t 6), none⟩
  (.one 18 false [] ⟨(some 49), .load true 2 (.t 12), none⟩
  (.one 21 false [] ⟨(some 52), .load true 2 (.t 2), none⟩
  (.one 22 false [] ⟨(some 53), .load true 2 (.t 6), none⟩
  (.one 23 false [] ⟨(some 54), .load true 2 (.t 12), none⟩
  (.one 25 false [] ⟨(some 56), .load true 2 (.t 1), none⟩
  (.one 26 false [] ⟨(some 57), .load true 2 (.t 2), none⟩
  (.one 27 false [] ⟨(some 58), .load true 2 (.t 7), none⟩
  (.one 28 false [] ⟨(some 59), .load true 2 (.t 12), none⟩
  (.one 29 false [] ⟨(some 60), .build [(.int .i64 0), (.string ⟨#[]⟩), (.int .i64 0), (.int .i64 0), (.int .i64 0), (.int .i64 0), (.int .i64 0), (.int .i64 0), (.int .i64 0), (.int .i64 0), (.int .i64 0), (.int .i64 0)] [(1, 1, (.c (V.str [114, 115, 97, 45, 97, 101, 115, 49, 50, 56, 45, 115, 104, 97]))), (2, 2, (.t 56)), (4, 2, (.t 57)), (6, 2, (.t 58)), (8, 2, (.t 59)), (10, 1, (.c (V.int 1))), (11, 1, (.c (V.int 3)))], none⟩
  (.one 31 false [] ⟨(some 62), .load true 2 (.t 2), none⟩
  (.one 32 false [] ⟨(some 63), .load true 2 (.t 7), none⟩
  (.one 33 false [] ⟨(some 64), .load true 2 (.t 12), none⟩
  (.one 35 false [] ⟨(some 66), .load true 2 (.t 14), none⟩
  (.one 36 false [] ⟨(some 67), .load true 2 (.t 2), none⟩
  (.one 37 false [] ⟨(some 68), .load true 2 (.t 7), none⟩
  (.one 38 false [] ⟨(some 69), .load true 2 (.t 12), none⟩
  (.one 39 false [] ⟨(some 70), .build [(.int .i64 0), (.string ⟨#[]⟩), (.int .i64 0), (.int .i64 0), (.int .i64 0), (.int .i64 0), (.int .i64 0), (.int .i64 0), (.int .i64 0), (.int .i64 0), (.int .i64 0), (.int .i64 0)] [(1, 1, (.c (V.str [101, 99, 100, 104, 101, 45, 114, 115, 97, 45, 97, 101, 115, 49, 50, 56, 45, 115, 104, 97]))), (2, 2, (.t 66)), (4, 2, (.t 67)), (6, 2, (.t 68)), (8, 2, (.t 69)), (10, 1, (.c (V.int 1))), (11, 1, (.c (V.int 3)))], none⟩
  (.one 40 false [] ⟨(some 71), .load true 2 (.t 14), none⟩
  (.one 41 false [] ⟨(some 72), .load true 2 (.t 4), none⟩
  (.one 45 false [] ⟨(some 76), .load true 2 (.t 14), none⟩
  (.one 46 false [] ⟨(some 77), .load true 2 (.t 2), none⟩
  (.one 47 false [] ⟨(some 78), .load true 2 (.t 8), none⟩
  (.one 48 false [] ⟨(some 79), .load true 2 (.t 13), none⟩
  (.one 49 false [] ⟨(some 80), .build [(.int .i64 0), (.string ⟨#[]⟩), (.int .i64 0), (.int .i64 0), (.int .i64 0), (.int .i64 0), (.int .i64 0), (.int .i64 0), (.int .i64 0), (.int .i64 0), (.int .i64 0), (.int .i64 0)] [(1, 1, (.c (V.str [101, 99, 100, 104, 101, 45, 114, 115, 97, 45, 97, 101, 115, 49, 50, 56, 45, 103, 99, 109]))), (2, 2, (.t 76)), (4, 2, (.t 77)), (6, 2, (.t 78)), (8, 2, (.t 79)), (10, 1, (.c (V.int 3))), (11, 1, (.c (V.int 3)))], none⟩
  (.one 51 false [] ⟨(some 82), .load true 2 (.t 4), none⟩
  (.one 52 false [] ⟨(some 83), .load true 2 (.t 9), none⟩
  (.one 53 false [] ⟨(some 84), .load true 2 (.t 13), none⟩
  (.one 55 false [] ⟨(some 86), .load true 2 (.t 14), none⟩
  (.one 56 false [] ⟨(some 87), .load true 2 (.t 2), none⟩
  (.one 57 false [] ⟨(some 88), .load true 2 (.t 10), none⟩
  (.one 58 false [] ⟨(some 89), .load true 2 (.t 13), none⟩
  (.one 59 false [] ⟨(some 90), .build [(.int .i64 0), (.string ⟨#[]⟩), (.int .i64 0), (.int .i64 0), (.int .i64 0), (.int .i64 0), (.int .i64 0), (.int .i64 0), (.int .i64 0), (.int .i64 0), (.int .i64 0), (.int .i64 0)] [(1, 1, (.c (V.str [101, 99, 100, 104, 101, 45, 114, 115, 97, 45, 99, 104, 97, 99, 104, 97]))), (2, 2, (.t 86)), (4, 2, (.t 87)), (6, 2, (.t 88)), (8, 2, (.t 89)), (10, 1, (.c (V.int 3))), (11, 1, (.c (V.int 3)))], none⟩
  (.one 60 false [] ⟨(some 91), .load true 2 (.t 1), none⟩
  (.one 61 false [] ⟨(some 92), .load true 2 (.t 2), none⟩
  (.one 62 false [] ⟨(some 93), .load true 2 (.t 9), none⟩
  (.one 63 false [] ⟨(some 94), .load true 2 (.t 13), none⟩
  (.one 64 false [] ⟨(some 95), .build [(.int .i64 0), (.string ⟨#[]⟩), (.int .i64 0), (.int .i64 0), (.int .i64 0), (.int .i64 0), (.int .i64 0), (.int .i64 0), (.int .i64 0), (.int .i64 0), (.int .i64 0), (.int .i64 0)] [(1, 1, (.c (V.str [114, 115, 97, 45, 97, 101, 115, 50, 53, 54, 45, 103, 99, 109]))), (2, 2, (.t 91)), (4, 2, (.t 92)), (6, 2, (.t 93)), (8, 2, (.t 94)), (10, 1, (.c (V.int 3))), (11, 1, (.c (V.int 3)))], none⟩
  (.one 65 false [] ⟨(some 96), .load true 2 (.t 14), none⟩
  (.one 66 false [] ⟨(some 97), .load true 2 (.t 5), none⟩
  (.one 67 false [] ⟨(some 98), .load true 2 (.t 8), none⟩
  (.one 68 false [] ⟨(some 99), .load true 2 (.t 13), none⟩
  (.one 69 false [] ⟨(some 100), .build [(.int .i64 0), (.string ⟨#[]⟩), (.int .i64 0), (.int .i64 0), (.int .i64 0), (.int .i64 0), (.int .i64 0), (.int .i64 0), (.int .i64 0), (.int .i64 0), (.int .i64 0), (.int .i64 0)] [(1, 1, (.c (V.str [97, 101, 115, 49, 50, 56, 45, 103, 99, 109]))), (2, 2, (.t 96)), (4, 2, (.t 97)), (6, 2, (.t 98)), (8, 2, (.t 99)), (10, 1, (.c (V.int 4))), (11, 1, (.c (V.int 4)))], none⟩
  (.one 70 false [] ⟨(some 101), .load true 2 (.t 14), none⟩
  (.one 71 false [] ⟨(some 102), .load true 2 (.t 5), none⟩
  (.one 72 false [] ⟨(some 103), .load true 2 (.t 10), none⟩
  (.one 73 false [] ⟨(some 104), .load true 2 (.t 13), none⟩
  (.one 74 false [] ⟨(some 105), .build [(.int .i64 0), (.string ⟨#[]⟩), (.int .i64 0), (.int .i64 0), (.int .i64 0), (.int .i64 0), (.int .i64 0), (.int .i64 0), (.int .i64 0), (.int .i64 0), (.int .i64 0), (.int .i64 0)] [(1, 1, (.c (V.str [99, 104, 97, 99, 104, 97]))), (2, 2, (.t 101)), (4, 2, (.t 102)), (6, 2, (.t 103)), (8, 2, (.t 104)), (10, 1, (.c (V.int 4))), (11, 1, (.c (V.int 4)))], none⟩
  (.one 76 false [] ⟨(some 107), .load true 2 (.t 5), none⟩
  (.one 77 false [] ⟨(some 108), .load true 2 (.t 9), none⟩
  (.one 78 false [] ⟨(some 109), .load true 2 (.t 13), none⟩
  (.or 2 false [] ⟨(some 33), .call f_catalog_use [(.c (V.int 14)), (.c (V.int 128))], none⟩
  (.one 4 false [2] ⟨(some 35), .build [(.int .i64 0), (.string ⟨#[]⟩), (.int .i64 0), (.int .i64 0), (.int .i64 0), (.int .i64 0), (.int .i64 0), (.int .i64 0), (.int .i64 0), (.int .i64 0), (.int .i64 0), (.int .i64 0)] [(1, 1, (.c (V.str [114, 115, 97, 45, 114, 99, 52, 45, 109, 100, 53]))), (2, 2, (.t 31)), (4, 2, (.t 32)), (6, 2, (.t 33)), (8, 2, (.t 34)), (10, 1, (.c (V.int 1))), (11, 1, (.c (V.int 2)))], none⟩
   (.or 7 false [] ⟨(some 38), .call f_catalog_use [(.c (V.int 14)), (.c (V.int 128))], none⟩
   (.one 9 false [7] ⟨(some 40), .build [(.int .i64 0), (.string ⟨#[]⟩), (.int .i64 0), (.int .i64 0), (.int .i64 0), (.int .i64 0), (.int .i64 0), (.int .i64 0), (.int .i64 0), (.int .i64 0), (.int .i64 0), (.int .i64 0)] [(1, 1, (.c (V.str [114, 115, 97, 45, 114, 99, 52, 45, 115, 104, 97]))), (2, 2, (.t 36)), (4, 2, (.t 37)), (6, 2, (.t 38)), (8, 2, (.t 39)), (10, 1, (.c (V.int 1))), (11, 1, (.c (V.int 3)))], none⟩
    (.or 15 false [] ⟨(some 46), .call f_catalog_use [(.c (V.int 11)), (.c (V.int 1024))], none⟩
    (.one 19 false [15] ⟨(some 50), .build [(.int .i64 0), (.string ⟨#[]⟩), (.int .i64 0), (.int .i64 0), (.int .i64 0), (.int .i64 0), (.int .i64 0), (.int .i64 0), (.int .i64 0), (.int .i64 0), (.int .i64 0), (.int .i64 0)] [(1, 1, (.c (V.str [100, 104, 101, 45, 100, 115, 97, 45, 100, 101, 115, 51, 45, 115, 104, 97]))), (2, 2, (.t 46)), (4, 2, (.t 47)), (6, 2, (.t 48)), (8, 2, (.t 49)), (10, 1, (.c (V.int 1))), (11, 1, (.c (V.int 3)))], none⟩
     (.or 20 false [] ⟨(some 51), .call f_catalog_use [(.c (V.int 11)), (.c (V.int 1024))], none⟩
     (.one 24 false [20] ⟨(some 55), .build [(.int .i64 0), (.string ⟨#[]⟩), (.int .i64 0), (.int .i64 0), (.int .i64 0), (.int .i64 0), (.int .i64 0), (.int .i64 0), (.int .i64 0), (.int .i64 0), (.int .i64 0), (.int .i64 0)] [(1, 1, (.c (V.str [100, 104, 101, 45, 114, 115, 97, 45, 100, 101, 115, 51, 45, 115, 104, 97]))), (2, 2, (.t 51)), (4, 2, (.t 52)), (6, 2, (.t 53)), (8, 2, (.t 54)), (10, 1, (.c (V.int 1))), (11, 1, (.c (V.int 3)))], none⟩
      (.or 30 false [] ⟨(some 61), .call f_catalog_use [(.c (V.int 11)), (.c (V.int 2048))], none⟩
      (.one 34 false [30] ⟨(some 65), .build [(.int .i64 0), (.string ⟨#[]⟩), (.int .i64 0), (.int .i64 0), (.int .i64 0), (.int .i64 0), (.int .i64 0), (.int .i64 0), (.int .i64 0), (.int .i64 0), (.int .i64 0), (.int .i64 0)] [(1, 1, (.c (V.str [100, 104, 101, 45, 114, 115, 97, 45, 97, 101, 115, 49, 50, 56, 45, 115, 104, 97]))), (2, 2, (.t 61)), (4, 2, (.t 62)), (6, 2, (.t 63)), (8, 2, (.t 64)), (10, 1, (.c (V.int 1))), (11, 1, (.c (V.int 3)))], none⟩
       (.or 42 false [] ⟨(some 73), .call f_catalog_use [(.c (V.int 16)), (.c (V.int 256))], none⟩
       (.or 43 false [] ⟨(some 74), .call f_catalog_use [(.c (V.int 21)), (.c (V.int 0))], none⟩
        (.one 44 false [43, 42] ⟨(some 75), .build [(.int .i64 0), (.string ⟨#[]⟩), (.int .i64 0), (.int .i64 0), (.int .i64 0), (.int .i64 0), (.int .i64 0), (.int .i64 0), (.int .i64 0), (.int .i64 0), (.int .i64 0), (.int .i64 0)] [(1, 1, (.c (V.str [101, 99, 100, 104, 101, 45, 101, 99, 100, 115, 97, 45, 97, 101, 115, 50, 53, 54, 45, 115, 104, 97, 50, 53, 54]))), (2, 2, (.t 71)), (4, 2, (.t 72)), (6, 2, (.t 73)), (8, 2, (.t 74)), (10, 1, (.c (V.int 3))), (11, 1, (.c (V.int 3)))], none⟩
         (.or 50 false [] ⟨(some 81), .call f_catalog_use [(.c (V.int 12)), (.c (V.int 384))], none⟩
         (.one 54 false [50] ⟨(some 85), .build [(.int .i64 0), (.string ⟨#[]⟩), (.int .i64 0), (.int .i64 0), (.int .i64 0), (.int .i64 0), (.int .i64 0), (.int .i64 0), (.int .i64 0), (.int .i64 0), (.int .i64 0), (.int .i64 0)] [(1, 1, (.c (V.str [101, 99, 100, 104, 101, 45, 101, 99, 100, 115, 97, 45, 97, 101, 115, 50, 53, 54, 45, 103, 99, 109]))), (2, 2, (.t 81)), (4, 2, (.t 82)), (6, 2, (.t 83)), (8, 2, (.t 84)), (10, 1, (.c (V.int 3))), (11, 1, (.c (V.int 3)))], none⟩
          (.or 75 false [] ⟨(some 106), .call f_catalog_use [(.c (V.int 13)), (.c (V.int 768))], none⟩
          (.one 79 false [75] ⟨(some 110), .build [(.int .i64 0), (.string ⟨#[]⟩), (.int .i64 0), (.int .i64 0), (.int .i64 0), (.int .i64 0), (.int .i64 0), (.int .i64 0), (.int .i64 0), (.int .i64 0), (.int .i64 0), (.int .i64 0)] [(1, 1, (.c (V.str [109, 108, 107, 101, 109, 45, 97, 101, 115, 50, 53, 54, 45, 103, 99, 109]))), (2, 2, (.t 106)), (4, 2, (.t 107)), (6, 2, (.t 108)), (8, 2, (.t 109)), (10, 1, (.c (V.int 4))), (11, 1, (.c (V.int 4)))], none⟩
           (.one 80 false [75, 50, 43, 42, 30, 20, 15, 7, 2] ⟨(some 111), .bslice 16 12 true [(.int .i64 0), (.string ⟨#[]⟩), (.int .i64 0), (.int .i64 0), (.int .i64 0), (.int .i64 0), (.int .i64 0), (.int .i64 0), (.int .i64 0), (.int .i64 0), (.int .i64 0), (.int .i64 0)] [(0, (.t 35)), (1, (.t 40)), (2, (.t 45)), (3, (.t 50)), (4, (.t 55)), (5, (.t 60)), (6, (.t 65)), (7, (.t 70)), (8, (.t 75)), (9, (.t 80)), (10, (.t 85)), (11, (.t 90)), (12, (.t 95)), (13, (.t 100)), (14, (.t 105)), (15, (.t 110))], none⟩
           (.one 81 false [80, 75, 50, 43, 42, 30, 20, 15, 7, 2] ⟨(some 15), .mov (.t 111), none⟩
           (.done))))
          (.done)))
         (.done)))
        (.done))
       (.done)))
      (.done)))
     (.done)))
    (.done)))
   (.done)))
  (.done))))))))))))))))))))))))))))))))))))))))))))))))))))))))))))))))
theorem k_catalog_Suites_0 (f_catalog_use : Nat) : okR (o_catalog_Suites_0 f_catalog_use) a_catalog_Suites_0 [] t_catalog_Suites_0 = true := by kernel_rfl
theorem q_catalog_Suites_0 (f_catalog_use : Nat) : plan (ris (o_catalog_Suites_0 f_catalog_use) a_catalog_Suites_0 []) t_catalog_Suites_0 = p_catalog_Suites_0 f_catalog_use := by kernel_rfl

def c_catalog_Suites (f_catalog_use : Nat) : AC :=
  seqK [] (.reg [⟨(some 0), .mknil 12, none⟩])
  (seqK [1, 2, 3, 4, 5] (.reg [⟨(some 17), .call f_catalog_use [(.c (V.int 10)), (.c (V.int 0))], none⟩,
      ⟨(some 18), .call f_catalog_use [(.c (V.int 5)), (.c (V.int 0))], none⟩,
      ⟨(some 19), .call f_catalog_use [(.c (V.int 6)), (.c (V.int 0))], none⟩,
      ⟨(some 20), .call f_catalog_use [(.c (V.int 7)), (.c (V.int 0))], none⟩,
      ⟨(some 21), .build [(.int .i64 0), (.int .i64 0)] [], none⟩,
      ⟨(some 1), .alloc [.val (.int .i64 0), .val (.int .i64 0)], none⟩,
      ⟨(some 2), .alloc [.val (.int .i64 0), .val (.int .i64 0)], none⟩,
      ⟨(some 3), .alloc [.val (.int .i64 0), .val (.int .i64 0)], none⟩,
      ⟨(some 4), .alloc [.val (.int .i64 0), .val (.int .i64 0)], none⟩,
      ⟨(some 5), .alloc [.val (.int .i64 0), .val (.int .i64 0)], none⟩,
      ⟨none, .store 2 (.t 1) (.t 17), none⟩,
      ⟨none, .store 2 (.t 2) (.t 18), none⟩,
      ⟨none, .store 2 (.t 3) (.t 19), none⟩,
      ⟨none, .store 2 (.t 4) (.t 20), none⟩,
      ⟨none, .store 2 (.t 5) (.t 21), none⟩])
   (seqK [1, 2, 3, 4, 5, 6, 7, 8, 9, 10] (.reg [⟨(some 22), .call f_catalog_use [(.c (V.int 15)), (.c (V.int 168))], none⟩,
       ⟨(some 23), .call f_catalog_use [(.c (V.int 16)), (.c (V.int 128))], none⟩,
       ⟨(some 24), .call f_catalog_use [(.c (V.int 17)), (.c (V.int 128))], none⟩,
       ⟨(some 25), .call f_catalog_use [(.c (V.int 17)), (.c (V.int 256))], none⟩,
       ⟨(some 26), .call f_catalog_use [(.c (V.int 18)), (.c (V.int 0))], none⟩,
       ⟨(some 6), .alloc [.val (.int .i64 0), .val (.int .i64 0)], none⟩,
       ⟨(some 7), .alloc [.val (.int .i64 0), .val (.int .i64 0)], none⟩,
       ⟨(some 8), .alloc [.val (.int .i64 0), .val (.int .i64 0)], none⟩,
       ⟨(some 9), .alloc [.val (.int .i64 0), .val (.int .i64 0)], none⟩,
       ⟨(some 10), .alloc [.val (.int .i64 0), .val (.int .i64 0)], none⟩,
       ⟨none, .store 2 (.t 6) (.t 22), none⟩,
       ⟨none, .store 2 (.t 7) (.t 23), none⟩,
       ⟨none, .store 2 (.t 8) (.t 24), none⟩,
       ⟨none, .store 2 (.t 9) (.t 25), none⟩,
       ⟨none, .store 2 (.t 10) (.t 26), none⟩])
    (seqK [1, 2, 3, 4, 5, 6, 7, 8, 9, 10, 11, 12, 13, 14] (.reg [⟨(some 27), .call f_catalog_use [(.c (V.int 19)), (.c (V.int 0))], none⟩,
        ⟨(some 28), .call f_catalog_use [(.c (V.int 20)), (.c (V.int 0))], none⟩,
        ⟨(some 29), .call f_catalog_use [(.c (V.int 22)), (.c (V.int 0))], none⟩,
        ⟨(some 30), .call f_catalog_use [(.c (V.int 12)), (.c (V.int 256))], none⟩,
        ⟨(some 11), .alloc [.val (.int .i64 0), .val (.int .i64 0)], none⟩,
        ⟨(some 12), .alloc [.val (.int .i64 0), .val (.int .i64 0)], none⟩,
        ⟨(some 13), .alloc [.val (.int .i64 0), .val (.int .i64 0)], none⟩,
        ⟨(some 14), .alloc [.val (.int .i64 0), .val (.int .i64 0)], none⟩,
        ⟨none, .store 2 (.t 11) (.t 27), none⟩,
        ⟨none, .store 2 (.t 12) (.t 28), none⟩,
        ⟨none, .store 2 (.t 13) (.t 29), none⟩,
        ⟨none, .store 2 (.t 14) (.t 30), none⟩])
     (seqK [15] (regK [] t_catalog_Suites_0 (p_catalog_Suites_0 f_catalog_use) (o_catalog_Suites_0 f_catalog_use) a_catalog_Suites_0)
      (seqK [15] (seqK [15, 113, 114] (.reg [⟨(some 112), .mov (.t 15), none⟩,
           ⟨(some 113), .lenL (.t 112), none⟩,
           ⟨(some 114), .mov (.c (V.int 0)), none⟩])
        (.block 0 (loopK [15, 113, 114] (seqK [15, 113, 114, 115] (.reg [⟨(some 115), .bin .lss (.t 114) (.t 113), none⟩])
           (seqK [15, 113, 114] (.cond (.t 115)
              (.skip)
              (.exit 0))
            (seqK [15, 113, 114] (.block 1 (seqK [15, 16, 113, 114] (.reg [⟨(some 116), .mov (.t 114), none⟩,
                  ⟨(some 16), .mov (.t 116), none⟩])
               (.reg [⟨(some 117), .mov (.t 15), none⟩,
                  ⟨(some 118), .mov (.t 16), none⟩,
                  ⟨(some 119), .mov (.t 16), none⟩,
                  ⟨(some 120), .bin .add (.t 119) (.c (V.int 1)), none⟩,
                  ⟨(some 121), .iaddr 12 (.t 117) (.t 118), none⟩,
                  ⟨(some 122), .faddr 0 (.t 121), none⟩,
                  ⟨none, .store 1 (.t 122) (.t 120), none⟩])))
             (.reg [⟨(some 123), .bin .add (.t 114) (.c (V.int 1)), none⟩,
                ⟨(some 114), .mov (.t 123), none⟩])))))))
       (seqK [0] (.reg [⟨(some 124), .mov (.t 15), none⟩,
           ⟨(some 0), .mov (.t 124), none⟩])
        (.ret)))))))

def r_catalog_Suites : List ARes := [.tmp 0]
def CE_catalog_Suites (Γ : Env) (f : Nat) : Prop := EvC Γ f [] (.sl 12 (suitesL.map CSuite.v))
theorem ev_catalog_Suites {Γ : Env} {f f_catalog_use : Nat} (h : Has Γ.P f 125 (c_catalog_Suites f_catalog_use) r_catalog_Suites) (h_catalog_use : CE_catalog_use Γ f_catalog_use) : CE_catalog_Suites Γ f := by
  refine evC_of_body h (by simp) (by simp only [V.closed]) fun C hC hm => ?_
  subst hC
  unfold c_catalog_Suites
  repeat' (first
    | refine awp_seqR fun K' hK => ?_
    | refine awp_regR fun K' hK => ?_
    | refine awp_seqP 82 (fun _ => true) rfl (k_catalog_Suites_0 _) (q_catalog_Suites_0 _) fun K' hK => ?_
    | refine awp_regP 82 (fun _ => true) rfl (k_catalog_Suites_0 _) (q_catalog_Suites_0 _) fun K' hK => ?_
    | refine awp_seqK ?_
    | refine awp_skip ?_
    | refine awp_block ?_
    | ((first | refine awp_cond ⟨_, rfl, fun hc => ?_, fun hc => ?_⟩ | refine awB_t (fun hc => ?_) (fun hc => ?_) | refine awB_f (fun hc => ?_) (fun hc => ?_)) <;> first | exact Bool.noConfusion hc | (exfalso; simp only [decide_eq_true_eq, decide_eq_false_iff_not, List.length_map, Bool.not_eq_true', Bool.not_eq_false'] at hc; omega) | (try simp only [decide_eq_true_eq, decide_eq_false_iff_not, beq_iff_eq, beq_eq_false_iff_ne, ne_eq, Bool.not_eq_true', Bool.not_eq_false'] at hc))
    | refine awp_ret ?_
    | refine awp_exit ?_
    | simp (maxSteps := 1000000) only [go_sem, Nat.reduceAdd, Nat.reduceMul, Nat.reduceEqDiff, Nat.reduceLeDiff, Nat.reduceLT, Nat.reduceSub, Int.reduceEq, Int.reduceBEq, Int.reduceLT, Int.reduceLE, Int.reduceAdd, Int.reduceToNat, reduceIte, reduceCtorEq, p_catalog_Suites_0]
    | (refine hK _ ?_; clear hK; clear K')
    | refine And.intro ?_ ?_
    | ((first | apply awC_A | apply awCR_A); (focus (simp only [go_sem, Nat.reduceAdd, Nat.reduceMul, Nat.reduceEqDiff, Nat.reduceLeDiff, Nat.reduceLT, Nat.reduceSub, Int.reduceEq, Int.reduceBEq, Int.reduceLT, Int.reduceLE, Int.reduceAdd, Int.reduceToNat, reduceIte, reduceCtorEq]; first | exact (h_catalog_use _ _).b)); (focus (simp only [go_sem, Nat.reduceAdd, Nat.reduceMul, Nat.reduceEqDiff, Nat.reduceLeDiff, Nat.reduceLT, Nat.reduceSub, Int.reduceEq, Int.reduceBEq, Int.reduceLT, Int.reduceLE, Int.reduceAdd, Int.reduceToNat, reduceIte, reduceCtorEq])))
    | (simp only [List.length_append, List.length_cons, List.length_nil, List.length_map, Nat.reducePow, Nat.reduceAdd]; omega)
    | omega)
  refine awp_loopV (ι := Nat) (fun k => k ≤ 16) (fun k => mkSt [(15, .hd 0 0 16), (113, V.int 16), (114, V.int k)] [(0, .buf true 12 (suitesK k))] 1) (fun k => 16 - k) 0 (by omega) (lookN [(0, 123000)]) (weak_g _ (by simp only [Nat.reduceAdd, Nat.reduceMul, Nat.reduceEqDiff, Nat.reduceLeDiff, Nat.reduceLT, Nat.reduceSub, Int.reduceEq, Int.reduceBEq, Int.reduceLT, Int.reduceLE, Int.reduceAdd, Int.reduceToNat, reduceIte, reduceCtorEq, KK, u32, u33, u34, u35, u36, u37, u38, u39, forall_cons, forall_nil, V.ren, renL, lookN, V.lt, ltL, Ob.weak, and_true, true_and, implies_true, Option.some.injEq, exists_eq_left', closedL_ren, closed_ren]; (repeat' (first | rfl | refine And.intro ?_ ?_ | omega | exact fun h => h))) (by simp only [Nat.reduceAdd, Nat.reduceMul, Nat.reduceEqDiff, Nat.reduceLeDiff, Nat.reduceLT, Nat.reduceSub, Int.reduceEq, Int.reduceBEq, Int.reduceLT, Int.reduceLE, Int.reduceAdd, Int.reduceToNat, reduceIte, reduceCtorEq, KK, u32, u33, u34, u35, u36, u37, u38, u39, forall_cons, forall_nil, V.ren, renL, lookN, V.lt, ltL, Ob.weak, and_true, true_and, implies_true, Option.some.injEq, exists_eq_left', closedL_ren, closed_ren]; (repeat' (first | rfl | refine And.intro ?_ ?_ | omega | exact fun h => h))) (by simp) (by simp; omega) (by omega)) fun k hk K' hL => ?_
  by_cases hk' : k < 16
  · obtain ⟨cs, hget, hcs, hset⟩ := suitesK_get k hk'
    have hw := wrap_succ (k := k) (by omega)
    have hs : (1 : Int) ≤ 1 := by omega
    repeat' (first
    | refine awp_seqR fun K' hK => ?_
    | refine awp_regR fun K' hK => ?_
    | refine awp_seqP 82 (fun _ => true) rfl (k_catalog_Suites_0 _) (q_catalog_Suites_0 _) fun K' hK => ?_
    | refine awp_regP 82 (fun _ => true) rfl (k_catalog_Suites_0 _) (q_catalog_Suites_0 _) fun K' hK => ?_
    | refine awp_seqK ?_
    | refine awp_skip ?_
    | refine awp_block ?_
    | ((first | refine awp_cond ⟨_, rfl, fun hc => ?_, fun hc => ?_⟩ | refine awB_t (fun hc => ?_) (fun hc => ?_) | refine awB_f (fun hc => ?_) (fun hc => ?_)) <;> first | exact Bool.noConfusion hc | (exfalso; simp only [decide_eq_true_eq, decide_eq_false_iff_not, List.length_map, Bool.not_eq_true', Bool.not_eq_false'] at hc; omega) | (try simp only [decide_eq_true_eq, decide_eq_false_iff_not, beq_iff_eq, beq_eq_false_iff_ne, ne_eq, Bool.not_eq_true', Bool.not_eq_false'] at hc))
    | refine awp_ret ?_
    | refine awp_exit ?_
    | simp (maxSteps := 1000000) only [go_sem, Nat.reduceAdd, Nat.reduceMul, Nat.reduceEqDiff, Nat.reduceLeDiff, Nat.reduceLT, Nat.reduceSub, Int.reduceEq, Int.reduceBEq, Int.reduceLT, Int.reduceLE, Int.reduceAdd, Int.reduceToNat, reduceIte, reduceCtorEq, mkSt, hget, hw, p_catalog_Suites_0]
    | (refine hK _ ?_; clear hK; clear K')
    | refine And.intro ?_ ?_
    | ((first | apply awC_A | apply awCR_A); (focus (simp only [go_sem, Nat.reduceAdd, Nat.reduceMul, Nat.reduceEqDiff, Nat.reduceLeDiff, Nat.reduceLT, Nat.reduceSub, Int.reduceEq, Int.reduceBEq, Int.reduceLT, Int.reduceLE, Int.reduceAdd, Int.reduceToNat, reduceIte, reduceCtorEq, mkSt, hget, hw]; first | exact (h_catalog_use _ _).b)); (focus (simp only [go_sem, Nat.reduceAdd, Nat.reduceMul, Nat.reduceEqDiff, Nat.reduceLeDiff, Nat.reduceLT, Nat.reduceSub, Int.reduceEq, Int.reduceBEq, Int.reduceLT, Int.reduceLE, Int.reduceAdd, Int.reduceToNat, reduceIte, reduceCtorEq, mkSt, hget, hw])))
    | (simp only [List.length_append, List.length_cons, List.length_nil, List.length_map, Nat.reducePow, Nat.reduceAdd]; omega)
    | omega)
    refine hL _ (k + 1) (lookN []) (by omega) (by omega) (weak_g [] (by simp only [Nat.reduceAdd, Nat.reduceMul, Nat.reduceEqDiff, Nat.reduceLeDiff, Nat.reduceLT, Nat.reduceSub, Int.reduceEq, Int.reduceBEq, Int.reduceLT, Int.reduceLE, Int.reduceAdd, Int.reduceToNat, reduceIte, reduceCtorEq, KK, u32, u33, u34, u35, u36, u37, u38, u39, forall_cons, forall_nil, V.ren, renL, lookN, V.lt, ltL, Ob.weak, and_true, true_and, implies_true, Option.some.injEq, exists_eq_left', closedL_ren, closed_ren]; (repeat' (first | rfl | refine And.intro ?_ ?_ | omega | exact fun h => h))) (by simp only [Nat.reduceAdd, Nat.reduceMul, Nat.reduceEqDiff, Nat.reduceLeDiff, Nat.reduceLT, Nat.reduceSub, Int.reduceEq, Int.reduceBEq, Int.reduceLT, Int.reduceLE, Int.reduceAdd, Int.reduceToNat, reduceIte, reduceCtorEq, KK, u32, u33, u34, u35, u36, u37, u38, u39, forall_cons, forall_nil, V.ren, renL, lookN, V.lt, ltL, Ob.weak, and_true, true_and, implies_true, Option.some.injEq, exists_eq_left', closedL_ren, closed_ren]; (try simp only [Nat.zero_add, Int.toNat_natCast, List.take_zero, List.nil_append, hset]); (repeat' (first | rfl | refine And.intro ?_ ?_ | omega | exact fun h => h))) (by simp) (by simp) (by omega))
  · obtain rfl : k = 16 := by omega
    repeat' (first
    | refine awp_seqR fun K' hK => ?_
    | refine awp_regR fun K' hK => ?_
    | refine awp_seqP 82 (fun _ => true) rfl (k_catalog_Suites_0 _) (q_catalog_Suites_0 _) fun K' hK => ?_
    | refine awp_regP 82 (fun _ => true) rfl (k_catalog_Suites_0 _) (q_catalog_Suites_0 _) fun K' hK => ?_
    | refine awp_seqK ?_
    | refine awp_skip ?_
    | refine awp_block ?_
    | ((first | refine awp_cond ⟨_, rfl, fun hc => ?_, fun hc => ?_⟩ | refine awB_t (fun hc => ?_) (fun hc => ?_) | refine awB_f (fun hc => ?_) (fun hc => ?_)) <;> first | exact Bool.noConfusion hc | (exfalso; simp only [decide_eq_true_eq, decide_eq_false_iff_not, List.length_map, Bool.not_eq_true', Bool.not_eq_false'] at hc; omega) | (try simp only [decide_eq_true_eq, decide_eq_false_iff_not, beq_iff_eq, beq_eq_false_iff_ne, ne_eq, Bool.not_eq_true', Bool.not_eq_false'] at hc))
    | refine awp_ret ?_
    | refine awp_exit ?_
    | simp (maxSteps := 1000000) only [go_sem, Nat.reduceAdd, Nat.reduceMul, Nat.reduceEqDiff, Nat.reduceLeDiff, Nat.reduceLT, Nat.reduceSub, Int.reduceEq, Int.reduceBEq, Int.reduceLT, Int.reduceLE, Int.reduceAdd, Int.reduceToNat, reduceIte, reduceCtorEq, mkSt, p_catalog_Suites_0]
    | (refine hK _ ?_; clear hK; clear K')
    | refine And.intro ?_ ?_
    | ((first | apply awC_A | apply awCR_A); (focus (simp only [go_sem, Nat.reduceAdd, Nat.reduceMul, Nat.reduceEqDiff, Nat.reduceLeDiff, Nat.reduceLT, Nat.reduceSub, Int.reduceEq, Int.reduceBEq, Int.reduceLT, Int.reduceLE, Int.reduceAdd, Int.reduceToNat, reduceIte, reduceCtorEq, mkSt]; first | exact (h_catalog_use _ _).b)); (focus (simp only [go_sem, Nat.reduceAdd, Nat.reduceMul, Nat.reduceEqDiff, Nat.reduceLeDiff, Nat.reduceLT, Nat.reduceSub, Int.reduceEq, Int.reduceBEq, Int.reduceLT, Int.reduceLE, Int.reduceAdd, Int.reduceToNat, reduceIte, reduceCtorEq, mkSt])))
    | (simp only [List.length_append, List.length_cons, List.length_nil, List.length_map, Nat.reducePow, Nat.reduceAdd]; omega)
    | omega)
    refine ends_r _ rfl ?_; simp only [go_sem, Nat.reduceAdd, Nat.reduceMul, Nat.reduceEqDiff, Nat.reduceLeDiff, Nat.reduceLT, Nat.reduceSub, Int.reduceEq, Int.reduceBEq, Int.reduceLT, Int.reduceLE, Int.reduceAdd, Int.reduceToNat, reduceIte, reduceCtorEq]
    rfl
end Av
end

section
set_option linter.unusedSimpArgs false
set_option linter.unusedVariables false
set_option maxRecDepth 10000
namespace Av
open Go
attribute [local irreducible] AWp runO runP runG awS awC awCv awQ awRd awCallR awCvR awQR awR awRdR awB okR plan ris

/-! The sanity check of chapter 02's laws, and CatalogGrows. -/
theorem itoa2048 : Lib.itoa 2048 = [50, 48, 52, 56] := by
  simp [Lib.itoa, Lib.decDigits]
theorem strength_rsa : strengthS 5 2048 = 112 := by rfl
theorem text_rsa : textS 5 2048 = [114, 115, 97, 45, 50, 48, 52, 56] := by
  rw [textS, if_pos (by rw [strength_rsa]; omega), if_neg (by omega), itoa2048]
  rfl
theorem cut_rsa : Lib.cut [114, 115, 97, 45, 50, 48, 52, 56] [45] = ([114, 115, 97], [50, 48, 52, 56], true) := by rfl
theorem useP_rsa : useP [114, 115, 97, 45, 50, 48, 52, 56] = (5, 2048) := by
  rw [useP, cut_rsa]; rfl
theorem parse_rsa : parseS [114, 115, 97, 45, 50, 48, 52, 56] = .tup [.agg [V.int 5, V.int 2048], V.int 0] := by
  rw [parseS, if_pos (by rw [parseOk, useP_rsa, text_rsa]; rfl), useP_rsa]

def c_cipherplanlaw02_awake (f_catalog_Parse f_catalog_Text f_catalog_Strength f_catalog_Suites : Nat) : AC :=
  seqK [] (.reg [⟨(some 0), .mov (.c (V.bool false)), none⟩])
  (seqK [1] (.reg [⟨(some 4), .build [(.int .i64 0), (.int .i64 0)] [(0, 1, (.c (V.int 5))), (1, 1, (.c (V.int 2048)))], none⟩,
      ⟨(some 1), .alloc [.val (.int .i64 0), .val (.int .i64 0)], none⟩,
      ⟨none, .store 2 (.t 1) (.t 4), none⟩])
   (seqK [1, 2, 3] (.reg [⟨(some 6), .call f_catalog_Parse [(.c (V.str [114, 115, 97, 45, 50, 48, 52, 56]))], none⟩,
       ⟨(some 5), .mov (.t 6), none⟩,
       ⟨(some 7), .ext (.t 5) 0, none⟩,
       ⟨(some 8), .ext (.t 5) 1, none⟩,
       ⟨(some 2), .alloc [.val (.int .i64 0), .val (.int .i64 0)], none⟩,
       ⟨none, .store 2 (.t 2) (.t 7), none⟩,
       ⟨(some 3), .mov (.t 8), none⟩])
    (seqK [0] (.reg [⟨(some 9), .mov (.t 3), none⟩,
        ⟨(some 10), .bin .eql (.t 9) (.c (V.int 0)), none⟩,
        ⟨(some 11), .mov (.t 10), none⟩,
        ⟨(some 12), .load true 2 (.t 2), (some (11, true))⟩,
        ⟨(some 13), .load true 2 (.t 1), (some (11, true))⟩,
        ⟨(some 14), .eqagg false [0, 0] (.t 12) (.t 13), (some (11, true))⟩,
        ⟨(some 15), .pick (.t 11) (.t 14) (.c (V.bool false)), none⟩,
        ⟨(some 16), .mov (.t 15), none⟩,
        ⟨(some 17), .load true 2 (.t 1), (some (16, true))⟩,
        ⟨(some 18), .call f_catalog_Text [(.t 17)], (some (16, true))⟩,
        ⟨(some 19), .bin .eql (.t 18) (.c (V.str [114, 115, 97, 45, 50, 48, 52, 56])), (some (16, true))⟩,
        ⟨(some 20), .pick (.t 16) (.t 19) (.c (V.bool false)), none⟩,
        ⟨(some 21), .mov (.t 20), none⟩,
        ⟨(some 22), .load true 2 (.t 1), (some (21, true))⟩,
        ⟨(some 23), .call f_catalog_Strength [(.t 22)], (some (21, true))⟩,
        ⟨(some 24), .bin .eql (.t 23) (.c (V.int 112)), (some (21, true))⟩,
        ⟨(some 25), .pick (.t 21) (.t 24) (.c (V.bool false)), none⟩,
        ⟨(some 26), .mov (.t 25), none⟩,
        ⟨(some 27), .call f_catalog_Suites [], (some (26, true))⟩,
        ⟨(some 28), .lenL (.t 27), (some (26, true))⟩,
        ⟨(some 29), .bin .eql (.t 28) (.c (V.int 16)), (some (26, true))⟩,
        ⟨(some 30), .pick (.t 26) (.t 29) (.c (V.bool false)), none⟩,
        ⟨(some 0), .mov (.t 30), none⟩])
     (.ret))))

def r_cipherplanlaw02_awake : List ARes := [.tmp 0]
def CE_cipherplanlaw02_awake (Γ : Env) (f : Nat) : Prop := EvN Γ f [] (V.bool true)
theorem ev_cipherplanlaw02_awake {Γ : Env} {f f_catalog_Parse f_catalog_Text f_catalog_Strength f_catalog_Suites : Nat} (h : Has Γ.P f 31 (c_cipherplanlaw02_awake f_catalog_Parse f_catalog_Text f_catalog_Strength f_catalog_Suites) r_cipherplanlaw02_awake) (h_catalog_Parse : CE_catalog_Parse Γ f_catalog_Parse) (h_catalog_Text : CE_catalog_Text Γ f_catalog_Text) (h_catalog_Strength : CE_catalog_Strength Γ f_catalog_Strength) (h_catalog_Suites : CE_catalog_Suites Γ f_catalog_Suites) : CE_cipherplanlaw02_awake Γ f := by
  refine evN_of_body h (by simp) (by simp only [V.closed, closedL, V.noSl, noSlL, and_self, and_true, true_and]) (by simp only [V.closed, closedL, V.noSl, noSlL, and_self, and_true, true_and]) fun C hC hm => ?_
  subst hC
  unfold c_cipherplanlaw02_awake
  have hp := h_catalog_Parse [114, 115, 97, 45, 50, 48, 52, 56] (by simp)
  rw [parse_rsa] at hp
  have ht := h_catalog_Text 5 2048
  rw [text_rsa] at ht
  have hs := h_catalog_Strength 5 2048
  rw [strength_rsa] at hs
  repeat' (first
    | refine awp_seqR fun K' hK => ?_
    | refine awp_regR fun K' hK => ?_
    | refine awp_seqK ?_
    | refine awp_skip ?_
    | refine awp_block ?_
    | ((first | refine awp_cond ⟨_, rfl, fun hc => ?_, fun hc => ?_⟩ | refine awB_t (fun hc => ?_) (fun hc => ?_) | refine awB_f (fun hc => ?_) (fun hc => ?_)) <;> first | exact Bool.noConfusion hc | (exfalso; simp only [decide_eq_true_eq, decide_eq_false_iff_not, List.length_map, Bool.not_eq_true', Bool.not_eq_false'] at hc; omega) | (try simp only [decide_eq_true_eq, decide_eq_false_iff_not, beq_iff_eq, beq_eq_false_iff_ne, ne_eq, Bool.not_eq_true', Bool.not_eq_false'] at hc))
    | refine awp_ret ?_
    | refine awp_exit ?_
    | simp (maxSteps := 1000000) only [go_sem, Nat.reduceAdd, Nat.reduceMul, Nat.reduceEqDiff, Nat.reduceLeDiff, Nat.reduceLT, Nat.reduceSub, Int.reduceEq, Int.reduceBEq, Int.reduceLT, Int.reduceLE, Int.reduceAdd, Int.reduceToNat, reduceIte, reduceCtorEq]
    | (refine hK _ ?_; clear hK; clear K')
    | refine And.intro ?_ ?_
    | (apply awC_A; (focus (simp only [go_sem, Nat.reduceAdd, Nat.reduceMul, Nat.reduceEqDiff, Nat.reduceLeDiff, Nat.reduceLT, Nat.reduceSub, Int.reduceEq, Int.reduceBEq, Int.reduceLT, Int.reduceLE, Int.reduceAdd, Int.reduceToNat, reduceIte, reduceCtorEq]; first | exact hp.b | exact ht.b | exact hs.b | exact (h_catalog_Parse _ (by first | assumption | omega | simp)).b | exact (h_catalog_Text _ _).b | exact (h_catalog_Strength _ _).b | exact EvC.b h_catalog_Suites)); (focus (simp only [go_sem, Nat.reduceAdd, Nat.reduceMul, Nat.reduceEqDiff, Nat.reduceLeDiff, Nat.reduceLT, Nat.reduceSub, Int.reduceEq, Int.reduceBEq, Int.reduceLT, Int.reduceLE, Int.reduceAdd, Int.reduceToNat, reduceIte, reduceCtorEq])))
    | (simp only [List.length_append, List.length_cons, List.length_nil, List.length_map, Nat.reducePow, Nat.reduceAdd]; omega)
    | omega)
  refine ends_r _ rfl ?_; simp only [go_sem, Nat.reduceAdd, Nat.reduceMul, Nat.reduceEqDiff, Nat.reduceLeDiff, Nat.reduceLT, Nat.reduceSub, Int.reduceEq, Int.reduceBEq, Int.reduceLT, Int.reduceLE, Int.reduceAdd, Int.reduceToNat, reduceIte, reduceCtorEq]
  rfl
end Av
end

section
set_option linter.unusedSimpArgs false
set_option linter.unusedVariables false
set_option maxRecDepth 10000
set_option maxHeartbeats 4000000
namespace Av
open Go
attribute [local irreducible] AWp runO runP runG awS awC awCv awQ awRd awCallR awCvR awQR awR awRdR awB okR plan ris

/-! Strength grows with the size; CatalogGrows. -/
theorem modL_range (b : Int) : 0 ≤ modL b modT ∧ modL b modT ≤ 256 := by
  simp only [modT, modL]; repeat' split
  all_goals omega
theorem modL_mono (m n : Int) (h : m ≤ n) : modL m modT ≤ modL n modT := by
  simp only [modT, modL]; repeat' split
  all_goals omega
theorem wrap_small (x : Int) (h0 : 0 ≤ x) (h1 : x ≤ 100000) : IntKind.i64.wrap x = x := wrap_id (by omega) (by omega)

theorem crow_cases (a : Int) : crowAt a = row0 ∨ crowAt a ∈ rowsL := by
  unfold crowAt
  split
  · rename_i ha
    have hk : a.toNat < rowsL.length := by have : rowsL.length = 23 := rfl; omega
    rw [List.getD_eq_getElem?_getD, List.getElem?_eq_getElem hk, Option.getD_some]
    exact .inr (List.getElem_mem hk)
  · exact .inl rfl

theorem strengths_ok : ∀ r ∈ rowsL, ∀ x ∈ r.strengths, 0 ≤ x ∧ x ≤ 256 := by decide
theorem listed_ok : ∀ r ∈ rowsL, r.way = 3 → ∀ m ∈ r.sizes, ∀ n ∈ r.sizes, m ≤ n → r.strengths.getD (find0 m 0 r.sizes).toNat 0 ≤ r.strengths.getD (find0 n 0 r.sizes).toNat 0 := by decide

theorem crow_strengths (a : Int) : ∀ x ∈ (crowAt a).strengths, 0 ≤ x ∧ x ≤ 256 := by
  rcases crow_cases a with h | h
  · rw [h]; simp [row0]
  · exact strengths_ok _ h
theorem getD_range {l : List Int} (h : ∀ x ∈ l, 0 ≤ x ∧ x ≤ 256) (k : Nat) : 0 ≤ l.getD k 0 ∧ l.getD k 0 ≤ 256 := by
  rw [List.getD_eq_getElem?_getD]
  cases hk : l[k]? with
  | none => simp
  | some x => simpa using h x (List.mem_of_getElem? hk)
theorem headD_range {l : List Int} (h : ∀ x ∈ l, 0 ≤ x ∧ x ≤ 256) : 0 ≤ l.headD 0 ∧ l.headD 0 ≤ 256 := by
  cases l with
  | nil => simp
  | cons x r => simpa using h x (by simp)
theorem curve_range (b : Int) (h : find0 b 0 [160, 224, 256, 384, 521] ≥ 0) : b = 160 ∨ b = 224 ∨ b = 256 ∨ b = 384 ∨ b = 521 := by
  simpa using find0_mem _ _ _ h
theorem half_eq (b : Int) (h : b = 160 ∨ b = 224 ∨ b = 256 ∨ b = 384 ∨ b = 521) : IntKind.i64.wrap (b.tdiv 2) = b / 2 := by
  rcases h with rfl | rfl | rfl | rfl | rfl <;> rfl

theorem strength_range (a b : Int) : 0 ≤ strengthS a b ∧ strengthS a b ≤ 512 := by
  have h1 := crow_strengths a
  have h2 := headD_range h1
  have h3 := getD_range h1 (find0 b 0 (crowAt a).sizes).toNat
  have h4 := modL_range b
  simp only [strengthS, strengthR]
  split
  · omega
  · split
    · split <;> omega
    · split
      · split <;> omega
      · split
        · split
          · rename_i hf
            have := curve_range b hf
            rw [half_eq b this]; omega
          · omega
        · split
          · split <;> omega
          · omega

theorem strength_mono (a m n : Int) (h : m ≤ n) (h1 : strengthS a m ≠ 0) (h2 : strengthS a n ≠ 0) : strengthS a m ≤ strengthS a n := by
  have h4 := modL_mono m n h
  simp only [strengthS, strengthR] at h1 h2 ⊢
  by_cases c0 : decide (1 ≤ a ∧ a ≤ 22) = false
  · rw [if_pos c0] at h1; exact (h1 rfl).elim
  · rw [if_neg c0] at h1 h2 ⊢
    rw [if_neg c0]
    by_cases c1 : (crowAt a).way = 0
    · rw [if_pos c1] at h1 h2 ⊢
      rw [if_pos c1]
      by_cases e1 : m = 0
      · by_cases e2 : n = 0
        · rw [e1, e2]; exact Int.le_refl _
        · rw [if_neg e2] at h2; exact (h2 rfl).elim
      · rw [if_neg e1] at h1; exact (h1 rfl).elim
    · rw [if_neg c1] at h1 h2 ⊢
      rw [if_neg c1]
      by_cases c2 : (crowAt a).way = 1
      · rw [if_pos c2] at h1 h2 ⊢
        rw [if_pos c2]
        by_cases e1 : 512 ≤ m ∧ m ≤ 16384
        · by_cases e2 : 512 ≤ n ∧ n ≤ 16384
          · rw [if_pos e1, if_pos e2]; exact h4
          · rw [if_neg e2] at h2; exact (h2 rfl).elim
        · rw [if_neg e1] at h1; exact (h1 rfl).elim
      · rw [if_neg c2] at h1 h2 ⊢
        rw [if_neg c2]
        by_cases c3 : (crowAt a).way = 2
        · rw [if_pos c3] at h1 h2 ⊢
          rw [if_pos c3]
          by_cases e1 : find0 m 0 [160, 224, 256, 384, 521] ≥ 0
          · by_cases e2 : find0 n 0 [160, 224, 256, 384, 521] ≥ 0
            · rw [if_pos e1, if_pos e2, half_eq m (curve_range m e1), half_eq n (curve_range n e2)]; omega
            · rw [if_neg e2] at h2; exact (h2 rfl).elim
          · rw [if_neg e1] at h1; exact (h1 rfl).elim
        · rw [if_neg c3] at h1 h2 ⊢
          rw [if_neg c3]
          by_cases c4 : (crowAt a).way = 3
          · rw [if_pos c4] at h1 h2 ⊢
            rw [if_pos c4]
            by_cases e1 : find0 m 0 (crowAt a).sizes ≥ 0
            · by_cases e2 : find0 n 0 (crowAt a).sizes ≥ 0
              · rw [if_pos e1, if_pos e2]
                rcases crow_cases a with hr | hr
                · rw [hr] at c4; simp [row0] at c4
                · exact listed_ok _ hr c4 m (find0_mem _ _ _ e1) n (find0_mem _ _ _ e2) h
              · rw [if_neg e2] at h2; exact (h2 rfl).elim
            · rw [if_neg e1] at h1; exact (h1 rfl).elim
          · rw [if_neg c4] at h1; exact (h1 rfl).elim
theorem strength_in (a b : Int) (h : 0 < strengthS a b) : 1 ≤ a ∧ a ≤ 22 := by
  by_cases c0 : 1 ≤ a ∧ a ≤ 22
  · exact c0
  · rw [strengthS, strengthR, if_pos (by simp [c0])] at h; omega
theorem text_ne (a b : Int) (h : 0 < strengthS a b) : textS a b ≠ [] := by
  rw [textS, if_pos h]
  split
  · have hn : ∀ r ∈ rowsL.drop 1, r.name ≠ [] := by decide
    have ha := strength_in a b h
    have hl : rowsL.length = 23 := rfl
    have hk : a.toNat < rowsL.length := by omega
    rw [crowAt, if_pos ha, List.getD_eq_getElem?_getD, List.getElem?_eq_getElem hk, Option.getD_some]
    have hk' : a.toNat - 1 < (rowsL.drop 1).length := by simp; omega
    have := hn _ (List.getElem_mem hk')
    rw [List.getElem_drop] at this
    have e : 1 + (a.toNat - 1) = a.toNat := by omega
    simp only [e] at this
    exact this
  · simp
theorem text_nil (a b : Int) (h : ¬ 0 < strengthS a b) : textS a b = [] := by rw [textS, if_neg h]
theorem min_max (m n : Int) : (if n < m then n else m) ≤ (if m < n then n else m) := by split <;> split <;> omega

-- REGION cipherplanlaw02_CatalogGrows 0: 6 operations, 1 orders, L [], X false, ok true
def o_cipherplanlaw02_CatalogGrows_0 (f_catalog_Strength : Nat) : List AO :=
  [⟨(some 32), .load true 2 (.t 10), none⟩,
    ⟨(some 33), .call f_catalog_Strength [(.t 32)], none⟩,
    ⟨(some 34), .load true 2 (.t 11), none⟩,
    ⟨(some 35), .call f_catalog_Strength [(.t 34)], none⟩,
    ⟨(some 12), .mov (.t 33), none⟩,
    ⟨(some 13), .mov (.t 35), none⟩]
def a_cipherplanlaw02_CatalogGrows_0 : List (List Nat) := [[], [0], [], [2, 1], [1, 3, 0, 1], [3, 4, 0, 1, 2, 3, 4]]
def t_cipherplanlaw02_CatalogGrows_0 : OT := .one 0 (.one 1 (.one 2 (.one 3 (.one 4 (.one 5 (.done))))))
def p_cipherplanlaw02_CatalogGrows_0 (f_catalog_Strength : Nat) : OP :=
  .one 0 false [] ⟨(some 32), .load true 2 (.t 10), none⟩
  (.one 1 false [] ⟨(some 33), .call f_catalog_Strength [(.t 32)], none⟩
  (.one 2 false [] ⟨(some 34), .load true 2 (.t 11), none⟩
  (.one 3 false [] ⟨(some 35), .call f_catalog_Strength [(.t 34)], none⟩
  (.one 4 false [1] ⟨(some 12), .mov (.t 33), none⟩
  (.one 5 false [3] ⟨(some 13), .mov (.t 35), none⟩
  (.done))))))
theorem k_cipherplanlaw02_CatalogGrows_0 (f_catalog_Strength : Nat) : okR (o_cipherplanlaw02_CatalogGrows_0 f_catalog_Strength) a_cipherplanlaw02_CatalogGrows_0 [] t_cipherplanlaw02_CatalogGrows_0 = true := by kernel_rfl
theorem q_cipherplanlaw02_CatalogGrows_0 (f_catalog_Strength : Nat) : plan (ris (o_cipherplanlaw02_CatalogGrows_0 f_catalog_Strength) a_cipherplanlaw02_CatalogGrows_0 []) t_cipherplanlaw02_CatalogGrows_0 = p_cipherplanlaw02_CatalogGrows_0 f_catalog_Strength := by kernel_rfl

def c_cipherplanlaw02_CatalogGrows (f_cipherplanmake_Mod f_catalog_Strength f_catalog_Valid f_catalog_Text f_cipherplanlaw02_awake : Nat) : AC :=
  seqK [0, 1, 2] (.reg [⟨(some 6), .mov (.c (V.bool false)), none⟩])
  (seqK [1, 2, 7] (.reg [⟨(some 14), .mov (.t 0), none⟩,
      ⟨(some 15), .convI .i64 (.t 14), none⟩,
      ⟨(some 16), .bin .rem (.t 15) (.c (V.int 22)), none⟩,
      ⟨(some 17), .bin .add (.c (V.int 1)) (.t 16), none⟩,
      ⟨(some 7), .mov (.t 17), none⟩])
   (seqK [7, 8, 9] (.reg [⟨(some 18), .mov (.t 1), none⟩,
       ⟨(some 19), .call f_cipherplanmake_Mod [(.t 18), (.c (V.int 16385))], none⟩,
       ⟨(some 20), .mov (.t 2), none⟩,
       ⟨(some 21), .call f_cipherplanmake_Mod [(.t 20), (.c (V.int 16385))], none⟩,
       ⟨(some 8), .mov (.t 19), none⟩,
       ⟨(some 9), .mov (.t 21), none⟩])
    (seqK [10, 11] (.reg [⟨(some 22), .mov (.t 7), none⟩,
        ⟨(some 23), .mov (.t 8), none⟩,
        ⟨(some 24), .mov (.t 9), none⟩,
        ⟨(some 25), .mm false [(.t 23), (.t 24)], none⟩,
        ⟨(some 26), .build [(.int .i64 0), (.int .i64 0)] [(0, 1, (.t 22)), (1, 1, (.t 25))], none⟩,
        ⟨(some 27), .mov (.t 7), none⟩,
        ⟨(some 28), .mov (.t 8), none⟩,
        ⟨(some 29), .mov (.t 9), none⟩,
        ⟨(some 30), .mm true [(.t 28), (.t 29)], none⟩,
        ⟨(some 31), .build [(.int .i64 0), (.int .i64 0)] [(0, 1, (.t 27)), (1, 1, (.t 30))], none⟩,
        ⟨(some 10), .alloc [.val (.int .i64 0), .val (.int .i64 0)], none⟩,
        ⟨(some 11), .alloc [.val (.int .i64 0), .val (.int .i64 0)], none⟩,
        ⟨none, .store 2 (.t 10) (.t 26), none⟩,
        ⟨none, .store 2 (.t 11) (.t 31), none⟩])
     (seqK [10, 12, 13] (regK [] t_cipherplanlaw02_CatalogGrows_0 (p_cipherplanlaw02_CatalogGrows_0 f_catalog_Strength) (o_cipherplanlaw02_CatalogGrows_0 f_catalog_Strength) a_cipherplanlaw02_CatalogGrows_0)
      (seqK [6] (.reg [⟨(some 36), .mov (.t 12), none⟩,
          ⟨(some 37), .bin .eql (.t 36) (.c (V.int 0)), none⟩,
          ⟨(some 38), .mov (.t 37), none⟩,
          ⟨(some 39), .mov (.t 13), (some (38, false))⟩,
          ⟨(some 40), .bin .eql (.t 39) (.c (V.int 0)), (some (38, false))⟩,
          ⟨(some 41), .pick (.t 38) (.c (V.bool true)) (.t 40), none⟩,
          ⟨(some 42), .mov (.t 41), none⟩,
          ⟨(some 43), .mov (.t 12), (some (42, false))⟩,
          ⟨(some 44), .mov (.t 13), (some (42, false))⟩,
          ⟨(some 45), .bin .leq (.t 43) (.t 44), (some (42, false))⟩,
          ⟨(some 46), .pick (.t 42) (.c (V.bool true)) (.t 45), none⟩,
          ⟨(some 47), .mov (.t 46), none⟩,
          ⟨(some 48), .mov (.t 12), (some (47, true))⟩,
          ⟨(some 49), .bin .geq (.t 48) (.c (V.int 0)), (some (47, true))⟩,
          ⟨(some 50), .pick (.t 47) (.t 49) (.c (V.bool false)), none⟩,
          ⟨(some 51), .mov (.t 50), none⟩,
          ⟨(some 52), .mov (.t 12), (some (51, true))⟩,
          ⟨(some 53), .bin .leq (.t 52) (.c (V.int 512)), (some (51, true))⟩,
          ⟨(some 54), .pick (.t 51) (.t 53) (.c (V.bool false)), none⟩,
          ⟨(some 55), .mov (.t 54), none⟩,
          ⟨(some 56), .load true 2 (.t 10), (some (55, true))⟩,
          ⟨(some 57), .call f_catalog_Valid [(.t 56)], (some (55, true))⟩,
          ⟨(some 58), .mov (.t 12), (some (55, true))⟩,
          ⟨(some 59), .bin .gtr (.t 58) (.c (V.int 0)), (some (55, true))⟩,
          ⟨(some 60), .eqb false (.t 57) (.t 59), (some (55, true))⟩,
          ⟨(some 61), .pick (.t 55) (.t 60) (.c (V.bool false)), none⟩,
          ⟨(some 62), .mov (.t 61), none⟩,
          ⟨(some 63), .load true 2 (.t 10), (some (62, true))⟩,
          ⟨(some 64), .call f_catalog_Text [(.t 63)], (some (62, true))⟩,
          ⟨(some 65), .bin .neq (.t 64) (.c (V.str [])), (some (62, true))⟩,
          ⟨(some 66), .mov (.t 12), (some (62, true))⟩,
          ⟨(some 67), .bin .gtr (.t 66) (.c (V.int 0)), (some (62, true))⟩,
          ⟨(some 68), .eqb false (.t 65) (.t 67), (some (62, true))⟩,
          ⟨(some 69), .pick (.t 62) (.t 68) (.c (V.bool false)), none⟩,
          ⟨(some 70), .mov (.t 69), none⟩,
          ⟨(some 71), .call f_cipherplanlaw02_awake [], (some (70, true))⟩,
          ⟨(some 72), .pick (.t 70) (.t 71) (.c (V.bool false)), none⟩,
          ⟨(some 6), .mov (.t 72), none⟩])
       (.ret))))))

def r_cipherplanlaw02_CatalogGrows : List ARes := [.tmp 6]
def CE_cipherplanlaw02_CatalogGrows (Γ : Env) (f : Nat) : Prop := ∀ (c a b : Int) (h0 : 0 ≤ c) (h1 : c ≤ 255), EvN Γ f [.sc (.int .u8 c), V.int a, V.int b] (V.bool true)
theorem ev_cipherplanlaw02_CatalogGrows {Γ : Env} {f f_cipherplanmake_Mod f_catalog_Strength f_catalog_Valid f_catalog_Text f_cipherplanlaw02_awake : Nat} (h : Has Γ.P f 73 (c_cipherplanlaw02_CatalogGrows f_cipherplanmake_Mod f_catalog_Strength f_catalog_Valid f_catalog_Text f_cipherplanlaw02_awake) r_cipherplanlaw02_CatalogGrows) (h_cipherplanmake_Mod : CE_cipherplanmake_Mod Γ f_cipherplanmake_Mod) (h_catalog_Strength : CE_catalog_Strength Γ f_catalog_Strength) (h_catalog_Valid : CE_catalog_Valid Γ f_catalog_Valid) (h_catalog_Text : CE_catalog_Text Γ f_catalog_Text) (h_cipherplanlaw02_awake : CE_cipherplanlaw02_awake Γ f_cipherplanlaw02_awake) : CE_cipherplanlaw02_CatalogGrows Γ f := by
  intro c a b h0 h1
  refine evN_of_body h (by simp) (by simp only [V.closed, closedL, V.noSl, noSlL, and_self, and_true, true_and]) (by simp only [V.closed, closedL, V.noSl, noSlL, and_self, and_true, true_and]) fun C hC hm => ?_
  subst hC
  unfold c_cipherplanlaw02_CatalogGrows
  have hmm := min_max (modV a 16385) (modV b 16385)
  generalize hM : (if modV b 16385 < modV a 16385 then modV b 16385 else modV a 16385) = M at hmm
  generalize hN : (if modV a 16385 < modV b 16385 then modV b 16385 else modV a 16385) = N at hmm
  generalize hX : IntKind.i64.wrap (1 + (IntKind.i64.wrap c).tmod 22) = X
  have hmono := strength_mono X M N hmm
  have hr := strength_range X M
  have ht := text_ne X M
  have hn := text_nil X M
  have b1 : decide (strengthS X M ≥ 0) = true := by simp; omega
  have b2 : decide (strengthS X M ≤ 512) = true := by simp; omega
  by_cases e3 : 0 < strengthS X M
  · have b0 : (strengthS X M == 0) = false := by simp; omega
    have b3 : decide (strengthS X M > 0) = true := by simpa using e3
    have b4 : (textS X M == []) = false := by simpa using ht e3
    by_cases e2 : strengthS X N = 0
    · have b5 : (strengthS X N == 0) = true := by simp [e2]
      repeat' (first
    | refine awp_seqR fun K' hK => ?_
    | refine awp_regR fun K' hK => ?_
    | refine awp_seqP 6 (fun _ => true) rfl (k_cipherplanlaw02_CatalogGrows_0 _) (q_cipherplanlaw02_CatalogGrows_0 _) fun K' hK => ?_
    | refine awp_regP 6 (fun _ => true) rfl (k_cipherplanlaw02_CatalogGrows_0 _) (q_cipherplanlaw02_CatalogGrows_0 _) fun K' hK => ?_
    | refine awp_seqK ?_
    | refine awp_skip ?_
    | refine awp_block ?_
    | ((first | refine awp_cond ⟨_, rfl, fun hc => ?_, fun hc => ?_⟩ | refine awB_t (fun hc => ?_) (fun hc => ?_) | refine awB_f (fun hc => ?_) (fun hc => ?_)) <;> first | exact Bool.noConfusion hc | (exfalso; simp only [decide_eq_true_eq, decide_eq_false_iff_not, List.length_map, Bool.not_eq_true', Bool.not_eq_false'] at hc; omega) | (try simp only [decide_eq_true_eq, decide_eq_false_iff_not, beq_iff_eq, beq_eq_false_iff_ne, ne_eq, Bool.not_eq_true', Bool.not_eq_false'] at hc))
    | refine awp_ret ?_
    | refine awp_exit ?_
    | simp (maxSteps := 1000000) only [go_sem, Nat.reduceAdd, Nat.reduceMul, Nat.reduceEqDiff, Nat.reduceLeDiff, Nat.reduceLT, Nat.reduceSub, Int.reduceEq, Int.reduceBEq, Int.reduceLT, Int.reduceLE, Int.reduceAdd, Int.reduceToNat, reduceIte, reduceCtorEq, sameKind, mmStep, List.all_cons, List.all_nil, hM, hN, hX, b0, b1, b2, b3, b4, b5, p_cipherplanlaw02_CatalogGrows_0]
    | (refine hK _ ?_; clear hK; clear K')
    | refine And.intro ?_ ?_
    | ((first | apply awC_A | apply awCR_A); (focus (simp only [go_sem, Nat.reduceAdd, Nat.reduceMul, Nat.reduceEqDiff, Nat.reduceLeDiff, Nat.reduceLT, Nat.reduceSub, Int.reduceEq, Int.reduceBEq, Int.reduceLT, Int.reduceLE, Int.reduceAdd, Int.reduceToNat, reduceIte, reduceCtorEq, sameKind, mmStep, List.all_cons, List.all_nil, hM, hN, hX, b0, b1, b2, b3, b4, b5]; first | exact (h_cipherplanmake_Mod _ _).b | exact (h_catalog_Strength _ _).b | exact (h_catalog_Valid _ _).b | exact (h_catalog_Text _ _).b | exact EvN.b h_cipherplanlaw02_awake)); (focus (simp only [go_sem, Nat.reduceAdd, Nat.reduceMul, Nat.reduceEqDiff, Nat.reduceLeDiff, Nat.reduceLT, Nat.reduceSub, Int.reduceEq, Int.reduceBEq, Int.reduceLT, Int.reduceLE, Int.reduceAdd, Int.reduceToNat, reduceIte, reduceCtorEq, sameKind, mmStep, List.all_cons, List.all_nil, hM, hN, hX, b0, b1, b2, b3, b4, b5])))
    | (simp only [List.length_append, List.length_cons, List.length_nil, List.length_map, Nat.reducePow, Nat.reduceAdd]; omega)
    | omega)
      all_goals (refine ends_r _ rfl ?_; simp only [go_sem, Nat.reduceAdd, Nat.reduceMul, Nat.reduceEqDiff, Nat.reduceLeDiff, Nat.reduceLT, Nat.reduceSub, Int.reduceEq, Int.reduceBEq, Int.reduceLT, Int.reduceLE, Int.reduceAdd, Int.reduceToNat, reduceIte, reduceCtorEq])
    · have b5 : (strengthS X N == 0) = false := by simp [e2]
      have b6 : decide (strengthS X M ≤ strengthS X N) = true := by simpa using hmono (by omega) e2
      repeat' (first
    | refine awp_seqR fun K' hK => ?_
    | refine awp_regR fun K' hK => ?_
    | refine awp_seqP 6 (fun _ => true) rfl (k_cipherplanlaw02_CatalogGrows_0 _) (q_cipherplanlaw02_CatalogGrows_0 _) fun K' hK => ?_
    | refine awp_regP 6 (fun _ => true) rfl (k_cipherplanlaw02_CatalogGrows_0 _) (q_cipherplanlaw02_CatalogGrows_0 _) fun K' hK => ?_
    | refine awp_seqK ?_
    | refine awp_skip ?_
    | refine awp_block ?_
    | ((first | refine awp_cond ⟨_, rfl, fun hc => ?_, fun hc => ?_⟩ | refine awB_t (fun hc => ?_) (fun hc => ?_) | refine awB_f (fun hc => ?_) (fun hc => ?_)) <;> first | exact Bool.noConfusion hc | (exfalso; simp only [decide_eq_true_eq, decide_eq_false_iff_not, List.length_map, Bool.not_eq_true', Bool.not_eq_false'] at hc; omega) | (try simp only [decide_eq_true_eq, decide_eq_false_iff_not, beq_iff_eq, beq_eq_false_iff_ne, ne_eq, Bool.not_eq_true', Bool.not_eq_false'] at hc))
    | refine awp_ret ?_
    | refine awp_exit ?_
    | simp (maxSteps := 1000000) only [go_sem, Nat.reduceAdd, Nat.reduceMul, Nat.reduceEqDiff, Nat.reduceLeDiff, Nat.reduceLT, Nat.reduceSub, Int.reduceEq, Int.reduceBEq, Int.reduceLT, Int.reduceLE, Int.reduceAdd, Int.reduceToNat, reduceIte, reduceCtorEq, sameKind, mmStep, List.all_cons, List.all_nil, hM, hN, hX, b0, b1, b2, b3, b4, b5, b6, p_cipherplanlaw02_CatalogGrows_0]
    | (refine hK _ ?_; clear hK; clear K')
    | refine And.intro ?_ ?_
    | ((first | apply awC_A | apply awCR_A); (focus (simp only [go_sem, Nat.reduceAdd, Nat.reduceMul, Nat.reduceEqDiff, Nat.reduceLeDiff, Nat.reduceLT, Nat.reduceSub, Int.reduceEq, Int.reduceBEq, Int.reduceLT, Int.reduceLE, Int.reduceAdd, Int.reduceToNat, reduceIte, reduceCtorEq, sameKind, mmStep, List.all_cons, List.all_nil, hM, hN, hX, b0, b1, b2, b3, b4, b5, b6]; first | exact (h_cipherplanmake_Mod _ _).b | exact (h_catalog_Strength _ _).b | exact (h_catalog_Valid _ _).b | exact (h_catalog_Text _ _).b | exact EvN.b h_cipherplanlaw02_awake)); (focus (simp only [go_sem, Nat.reduceAdd, Nat.reduceMul, Nat.reduceEqDiff, Nat.reduceLeDiff, Nat.reduceLT, Nat.reduceSub, Int.reduceEq, Int.reduceBEq, Int.reduceLT, Int.reduceLE, Int.reduceAdd, Int.reduceToNat, reduceIte, reduceCtorEq, sameKind, mmStep, List.all_cons, List.all_nil, hM, hN, hX, b0, b1, b2, b3, b4, b5, b6])))
    | (simp only [List.length_append, List.length_cons, List.length_nil, List.length_map, Nat.reducePow, Nat.reduceAdd]; omega)
    | omega)
      all_goals (refine ends_r _ rfl ?_; simp only [go_sem, Nat.reduceAdd, Nat.reduceMul, Nat.reduceEqDiff, Nat.reduceLeDiff, Nat.reduceLT, Nat.reduceSub, Int.reduceEq, Int.reduceBEq, Int.reduceLT, Int.reduceLE, Int.reduceAdd, Int.reduceToNat, reduceIte, reduceCtorEq])
  · have e0 : strengthS X M = 0 := by omega
    have b0 : (strengthS X M == 0) = true := by simp [e0]
    have b3 : decide (strengthS X M > 0) = false := by simpa using e3
    have b4 : (textS X M == []) = true := by simpa using hn e3
    repeat' (first
    | refine awp_seqR fun K' hK => ?_
    | refine awp_regR fun K' hK => ?_
    | refine awp_seqP 6 (fun _ => true) rfl (k_cipherplanlaw02_CatalogGrows_0 _) (q_cipherplanlaw02_CatalogGrows_0 _) fun K' hK => ?_
    | refine awp_regP 6 (fun _ => true) rfl (k_cipherplanlaw02_CatalogGrows_0 _) (q_cipherplanlaw02_CatalogGrows_0 _) fun K' hK => ?_
    | refine awp_seqK ?_
    | refine awp_skip ?_
    | refine awp_block ?_
    | ((first | refine awp_cond ⟨_, rfl, fun hc => ?_, fun hc => ?_⟩ | refine awB_t (fun hc => ?_) (fun hc => ?_) | refine awB_f (fun hc => ?_) (fun hc => ?_)) <;> first | exact Bool.noConfusion hc | (exfalso; simp only [decide_eq_true_eq, decide_eq_false_iff_not, List.length_map, Bool.not_eq_true', Bool.not_eq_false'] at hc; omega) | (try simp only [decide_eq_true_eq, decide_eq_false_iff_not, beq_iff_eq, beq_eq_false_iff_ne, ne_eq, Bool.not_eq_true', Bool.not_eq_false'] at hc))
    | refine awp_ret ?_
    | refine awp_exit ?_
    | simp (maxSteps := 1000000) only [go_sem, Nat.reduceAdd, Nat.reduceMul, Nat.reduceEqDiff, Nat.reduceLeDiff, Nat.reduceLT, Nat.reduceSub, Int.reduceEq, Int.reduceBEq, Int.reduceLT, Int.reduceLE, Int.reduceAdd, Int.reduceToNat, reduceIte, reduceCtorEq, sameKind, mmStep, List.all_cons, List.all_nil, hM, hN, hX, b0, b1, b2, b3, b4, p_cipherplanlaw02_CatalogGrows_0]
    | (refine hK _ ?_; clear hK; clear K')
    | refine And.intro ?_ ?_
    | ((first | apply awC_A | apply awCR_A); (focus (simp only [go_sem, Nat.reduceAdd, Nat.reduceMul, Nat.reduceEqDiff, Nat.reduceLeDiff, Nat.reduceLT, Nat.reduceSub, Int.reduceEq, Int.reduceBEq, Int.reduceLT, Int.reduceLE, Int.reduceAdd, Int.reduceToNat, reduceIte, reduceCtorEq, sameKind, mmStep, List.all_cons, List.all_nil, hM, hN, hX, b0, b1, b2, b3, b4]; first | exact (h_cipherplanmake_Mod _ _).b | exact (h_catalog_Strength _ _).b | exact (h_catalog_Valid _ _).b | exact (h_catalog_Text _ _).b | exact EvN.b h_cipherplanlaw02_awake)); (focus (simp only [go_sem, Nat.reduceAdd, Nat.reduceMul, Nat.reduceEqDiff, Nat.reduceLeDiff, Nat.reduceLT, Nat.reduceSub, Int.reduceEq, Int.reduceBEq, Int.reduceLT, Int.reduceLE, Int.reduceAdd, Int.reduceToNat, reduceIte, reduceCtorEq, sameKind, mmStep, List.all_cons, List.all_nil, hM, hN, hX, b0, b1, b2, b3, b4])))
    | (simp only [List.length_append, List.length_cons, List.length_nil, List.length_map, Nat.reducePow, Nat.reduceAdd]; omega)
    | omega)
    all_goals (refine ends_r _ rfl ?_; simp only [go_sem, Nat.reduceAdd, Nat.reduceMul, Nat.reduceEqDiff, Nat.reduceLeDiff, Nat.reduceLT, Nat.reduceSub, Int.reduceEq, Int.reduceBEq, Int.reduceLT, Int.reduceLE, Int.reduceAdd, Int.reduceToNat, reduceIte, reduceCtorEq])
end Av
end

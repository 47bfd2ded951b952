/- BackW -/
import Derived.Test.YtdjmgokhpganaaaDoorTextsW
set_option linter.unusedVariables false
set_option linter.unusedSimpArgs false
section
set_option linter.unusedSimpArgs false
set_option linter.unusedVariables false
set_option maxRecDepth 10000
set_option maxHeartbeats 8000000
namespace Av
open Go
attribute [local irreducible] AWp runO runP runG awS awC awCv awQ awRd awCallR awCvR awQR awR awRdR awB okR plan ris

theorem find_name : ∀ k, k < 23 → 1 ≤ k → findR (crowAt (k : Nat)).name 0 rowsL = ((k : Nat) : Int) ∧ 1 ≤ (crowAt (k : Nat)).kind ∧ (crowAt (k : Nat)).kind ≤ 5 := by decide +kernel
theorem refCut_app : ∀ (a r : List UInt8), (45 : UInt8) ∉ a → refCut (a ++ 45 :: r) = some (a, r)
  | [], r, _ => by simp [refCut]
  | c :: a, r, h => by
    simp only [List.mem_cons, not_or] at h
    simp only [List.cons_append, refCut]
    rw [if_neg (fun e => h.1 e.symm), refCut_app a r h.2]
    rfl
theorem refCut_no : ∀ (a : List UInt8), (45 : UInt8) ∉ a → refCut a = none
  | [], _ => rfl
  | c :: a, h => by
    simp only [List.mem_cons, not_or] at h
    simp only [refCut]
    rw [if_neg (fun e => h.1 e.symm), refCut_no a h.2]
    rfl
theorem parse_text (a b : Int) (h : 0 < strengthS a b) : parseS (textS a b) = .tup [.agg [V.int a, V.int b], V.int 0] := by
  have ha := strength_in a b h
  obtain ⟨k, rfl⟩ : ∃ k : Nat, a = (k : Int) := ⟨a.toNat, by omega⟩
  have hf := find_name k (by omega) (by omega)
  have hb := strength_bits _ _ h
  have hu : useP (textS k b) = ((k : Int), b) := by
    by_cases hb0 : b = 0
    · subst hb0
      have ht : textS k 0 = (crowAt k).name := by rw [textS, if_pos h, if_pos rfl]
      rw [useP, ht, cut_none (refCut_no _ (name_no45 _))]
      simp only [hf.1]; rfl
    · rw [ref_text _ _ h hb0, List.append_assoc, List.singleton_append, useP, cut_some (refCut_app _ _ (name_no45 _))]
      simp only [hf.1, atoiV_itoa hb.1 (by omega)]
  rw [parseS, if_pos, hu]
  simp [parseOk, hu]; exact h
theorem suites_ok : ∀ k, k < 16 → ∀ s, suitesL[k]? = some s → suiteAt s.code = s ∧ (1 ≤ s.code ∧ s.code ≤ 16) ∧ codeN s.name = s.code ∧ s.lo ≤ s.hi ∧ 0 < strengthS s.ci1 s.ci2 ∧ 0 < strengthS s.mc1 s.mc2 := by decide +kernel

-- REGION cipherplanlaw02_CatalogBack 0: 55 operations, 1 orders, L [], X false, ok true
def o_cipherplanlaw02_CatalogBack_0 (f_catalog_Code f_catalog_Valid : Nat) : List AO :=
  [⟨(some 78), .mov (.t 11), none⟩,
    ⟨(some 79), .bin .neq (.t 78) (.c (V.int 0)), none⟩,
    ⟨(some 80), .mov (.t 79), none⟩,
    ⟨(some 81), .load true 12 (.t 10), (some (80, false))⟩,
    ⟨(some 82), .mov (.t 8), (some (80, false))⟩,
    ⟨(some 83), .mov (.t 9), (some (80, false))⟩,
    ⟨(some 84), .iaddr 12 (.t 82) (.t 83), (some (80, false))⟩,
    ⟨(some 85), .load true 12 (.t 84), (some (80, false))⟩,
    ⟨(some 86), .eqagg true [0, 1, 0, 0, 0, 0, 0, 0, 0, 0, 0, 0] (.t 81) (.t 85), (some (80, false))⟩,
    ⟨(some 87), .pick (.t 80) (.c (V.bool true)) (.t 86), none⟩,
    ⟨(some 88), .mov (.t 87), none⟩,
    ⟨(some 89), .mov (.t 8), (some (88, false))⟩,
    ⟨(some 90), .mov (.t 9), (some (88, false))⟩,
    ⟨(some 91), .iaddr 12 (.t 89) (.t 90), (some (88, false))⟩,
    ⟨(some 92), .faddr 1 (.t 91), (some (88, false))⟩,
    ⟨(some 93), .load false 1 (.t 92), (some (88, false))⟩,
    ⟨(some 94), .call f_catalog_Code [(.t 93)], (some (88, false))⟩,
    ⟨(some 95), .mov (.t 8), (some (88, false))⟩,
    ⟨(some 96), .mov (.t 9), (some (88, false))⟩,
    ⟨(some 97), .iaddr 12 (.t 95) (.t 96), (some (88, false))⟩,
    ⟨(some 98), .faddr 0 (.t 97), (some (88, false))⟩,
    ⟨(some 99), .load false 1 (.t 98), (some (88, false))⟩,
    ⟨(some 100), .bin .neq (.t 94) (.t 99), (some (88, false))⟩,
    ⟨(some 101), .pick (.t 88) (.c (V.bool true)) (.t 100), none⟩,
    ⟨(some 102), .mov (.t 101), none⟩,
    ⟨(some 103), .mov (.t 8), (some (102, false))⟩,
    ⟨(some 104), .mov (.t 9), (some (102, false))⟩,
    ⟨(some 105), .iaddr 12 (.t 103) (.t 104), (some (102, false))⟩,
    ⟨(some 106), .faddr 10 (.t 105), (some (102, false))⟩,
    ⟨(some 107), .load false 1 (.t 106), (some (102, false))⟩,
    ⟨(some 108), .mov (.t 8), (some (102, false))⟩,
    ⟨(some 109), .mov (.t 9), (some (102, false))⟩,
    ⟨(some 110), .iaddr 12 (.t 108) (.t 109), (some (102, false))⟩,
    ⟨(some 111), .faddr 11 (.t 110), (some (102, false))⟩,
    ⟨(some 112), .load false 1 (.t 111), (some (102, false))⟩,
    ⟨(some 113), .bin .gtr (.t 107) (.t 112), (some (102, false))⟩,
    ⟨(some 114), .pick (.t 102) (.c (V.bool true)) (.t 113), none⟩,
    ⟨(some 115), .mov (.t 114), none⟩,
    ⟨(some 116), .mov (.t 8), (some (115, false))⟩,
    ⟨(some 117), .mov (.t 9), (some (115, false))⟩,
    ⟨(some 118), .iaddr 12 (.t 116) (.t 117), (some (115, false))⟩,
    ⟨(some 119), .faddr 6 (.t 118), (some (115, false))⟩,
    ⟨(some 120), .load true 2 (.t 119), (some (115, false))⟩,
    ⟨(some 121), .call f_catalog_Valid [(.t 120)], (some (115, false))⟩,
    ⟨(some 122), .un .not (.t 121), (some (115, false))⟩,
    ⟨(some 123), .pick (.t 115) (.c (V.bool true)) (.t 122), none⟩,
    ⟨(some 124), .mov (.t 123), none⟩,
    ⟨(some 125), .mov (.t 8), (some (124, false))⟩,
    ⟨(some 126), .mov (.t 9), (some (124, false))⟩,
    ⟨(some 127), .iaddr 12 (.t 125) (.t 126), (some (124, false))⟩,
    ⟨(some 128), .faddr 8 (.t 127), (some (124, false))⟩,
    ⟨(some 129), .load true 2 (.t 128), (some (124, false))⟩,
    ⟨(some 130), .call f_catalog_Valid [(.t 129)], (some (124, false))⟩,
    ⟨(some 131), .un .not (.t 130), (some (124, false))⟩,
    ⟨(some 132), .pick (.t 124) (.c (V.bool true)) (.t 131), none⟩]
def a_cipherplanlaw02_CatalogBack_0 : List (List Nat) := [[], [0], [1], [2], [2], [2], [4, 5, 2], [6, 2], [3, 7, 2], [2, 8], [9, 2], [10], [10], [11, 12, 10], [13, 10], [14, 10], [15, 10, 10], [10], [10], [17, 18, 10], [19, 10], [20, 10], [16, 21, 10], [10, 22], [23, 16], [24], [24], [25, 26, 24], [27, 24], [28, 24], [24], [24], [30, 31, 24], [32, 24], [33, 24], [29, 34, 24], [24, 35], [36, 24], [37], [37], [38, 39, 37], [40, 37], [41, 37], [42, 37, 37], [43, 37], [37, 44], [45, 43], [46], [46], [47, 48, 46], [49, 46], [50, 46], [51, 46, 46], [52, 46], [46, 53]]
def t_cipherplanlaw02_CatalogBack_0 : OT := .one 0 (.one 1 (.one 2 (.one 3 (.one 4 (.one 5 (.one 6 (.one 7 (.one 8 (.one 9 (.one 10 (.one 11 (.one 12 (.one 13 (.one 14 (.one 15 (.one 17 (.one 18 (.one 19 (.one 20 (.one 21 (.or 16 (.one 22 (.one 23 (.one 24 (.one 25 (.one 26 (.one 27 (.one 28 (.one 29 (.one 30 (.one 31 (.one 32 (.one 33 (.one 34 (.one 35 (.one 36 (.one 37 (.one 38 (.one 39 (.one 40 (.one 41 (.one 42 (.or 43 (.one 44 (.one 45 (.one 46 (.one 47 (.one 48 (.one 49 (.one 50 (.one 51 (.or 52 (.one 53 (.one 54 (.done))) (.done)))))))))) (.done))))))))))))))))))))))) (.done))))))))))))))))))))))
def p_cipherplanlaw02_CatalogBack_0 (f_catalog_Code f_catalog_Valid : Nat) : OP :=
  .one 0 false [] ⟨(some 78), .mov (.t 11), none⟩
  (.one 1 false [] ⟨(some 79), .bin .neq (.t 78) (.c (V.int 0)), none⟩
  (.one 2 false [] ⟨(some 80), .mov (.t 79), none⟩
  (.one 3 false [] ⟨(some 81), .load true 12 (.t 10), (some (80, false))⟩
  (.one 4 false [] ⟨(some 82), .mov (.t 8), (some (80, false))⟩
  (.one 5 false [] ⟨(some 83), .mov (.t 9), (some (80, false))⟩
  (.one 6 false [] ⟨(some 84), .iaddr 12 (.t 82) (.t 83), (some (80, false))⟩
  (.one 7 false [] ⟨(some 85), .load true 12 (.t 84), (some (80, false))⟩
  (.one 8 false [] ⟨(some 86), .eqagg true [0, 1, 0, 0, 0, 0, 0, 0, 0, 0, 0, 0] (.t 81) (.t 85), (some (80, false))⟩
  (.one 9 false [] ⟨(some 87), .pick (.t 80) (.c (V.bool true)) (.t 86), none⟩
  (.one 10 false [] ⟨(some 88), .mov (.t 87), none⟩
  (.one 11 false [] ⟨(some 89), .mov (.t 8), (some (88, false))⟩
  (.one 12 false [] ⟨(some 90), .mov (.t 9), (some (88, false))⟩
  (.one 13 false [] ⟨(some 91), .iaddr 12 (.t 89) (.t 90), (some (88, false))⟩
  (.one 14 false [] ⟨(some 92), .faddr 1 (.t 91), (some (88, false))⟩
  (.one 15 false [] ⟨(some 93), .load false 1 (.t 92), (some (88, false))⟩
  (.one 17 false [] ⟨(some 95), .mov (.t 8), (some (88, false))⟩
  (.one 18 false [] ⟨(some 96), .mov (.t 9), (some (88, false))⟩
  (.one 19 false [] ⟨(some 97), .iaddr 12 (.t 95) (.t 96), (some (88, false))⟩
  (.one 20 false [] ⟨(some 98), .faddr 0 (.t 97), (some (88, false))⟩
  (.one 21 false [] ⟨(some 99), .load false 1 (.t 98), (some (88, false))⟩
  (.or 16 false [] ⟨(some 94), .call f_catalog_Code [(.t 93)], (some (88, false))⟩
  (.one 22 false [16] ⟨(some 100), .bin .neq (.t 94) (.t 99), (some (88, false))⟩
   (.one 23 false [16] ⟨(some 101), .pick (.t 88) (.c (V.bool true)) (.t 100), none⟩
   (.one 24 false [16] ⟨(some 102), .mov (.t 101), none⟩
   (.one 25 false [16] ⟨(some 103), .mov (.t 8), (some (102, false))⟩
   (.one 26 false [16] ⟨(some 104), .mov (.t 9), (some (102, false))⟩
   (.one 27 false [16] ⟨(some 105), .iaddr 12 (.t 103) (.t 104), (some (102, false))⟩
   (.one 28 false [16] ⟨(some 106), .faddr 10 (.t 105), (some (102, false))⟩
   (.one 29 false [16] ⟨(some 107), .load false 1 (.t 106), (some (102, false))⟩
   (.one 30 false [16] ⟨(some 108), .mov (.t 8), (some (102, false))⟩
   (.one 31 false [16] ⟨(some 109), .mov (.t 9), (some (102, false))⟩
   (.one 32 false [16] ⟨(some 110), .iaddr 12 (.t 108) (.t 109), (some (102, false))⟩
   (.one 33 false [16] ⟨(some 111), .faddr 11 (.t 110), (some (102, false))⟩
   (.one 34 false [16] ⟨(some 112), .load false 1 (.t 111), (some (102, false))⟩
   (.one 35 false [16] ⟨(some 113), .bin .gtr (.t 107) (.t 112), (some (102, false))⟩
   (.one 36 false [16] ⟨(some 114), .pick (.t 102) (.c (V.bool true)) (.t 113), none⟩
   (.one 37 false [16] ⟨(some 115), .mov (.t 114), none⟩
   (.one 38 false [16] ⟨(some 116), .mov (.t 8), (some (115, false))⟩
   (.one 39 false [16] ⟨(some 117), .mov (.t 9), (some (115, false))⟩
   (.one 40 false [16] ⟨(some 118), .iaddr 12 (.t 116) (.t 117), (some (115, false))⟩
   (.one 41 false [16] ⟨(some 119), .faddr 6 (.t 118), (some (115, false))⟩
   (.one 42 false [16] ⟨(some 120), .load true 2 (.t 119), (some (115, false))⟩
   (.or 43 false [16] ⟨(some 121), .call f_catalog_Valid [(.t 120)], (some (115, false))⟩
   (.one 44 false [43, 16] ⟨(some 122), .un .not (.t 121), (some (115, false))⟩
    (.one 45 false [43, 16] ⟨(some 123), .pick (.t 115) (.c (V.bool true)) (.t 122), none⟩
    (.one 46 false [43, 16] ⟨(some 124), .mov (.t 123), none⟩
    (.one 47 false [43, 16] ⟨(some 125), .mov (.t 8), (some (124, false))⟩
    (.one 48 false [43, 16] ⟨(some 126), .mov (.t 9), (some (124, false))⟩
    (.one 49 false [43, 16] ⟨(some 127), .iaddr 12 (.t 125) (.t 126), (some (124, false))⟩
    (.one 50 false [43, 16] ⟨(some 128), .faddr 8 (.t 127), (some (124, false))⟩
    (.one 51 false [43, 16] ⟨(some 129), .load true 2 (.t 128), (some (124, false))⟩
    (.or 52 false [43, 16] ⟨(some 130), .call f_catalog_Valid [(.t 129)], (some (124, false))⟩
    (.one 53 false [52, 43, 16] ⟨(some 131), .un .not (.t 130), (some (124, false))⟩
     (.one 54 false [52, 43, 16] ⟨(some 132), .pick (.t 124) (.c (V.bool true)) (.t 131), none⟩
     (.done)))
    (.done))))))))))
   (.done)))))))))))))))))))))))
  (.done))))))))))))))))))))))
theorem k_cipherplanlaw02_CatalogBack_0 (f_catalog_Code f_catalog_Valid : Nat) : okR (o_cipherplanlaw02_CatalogBack_0 f_catalog_Code f_catalog_Valid) a_cipherplanlaw02_CatalogBack_0 [] t_cipherplanlaw02_CatalogBack_0 = true := by kernel_rfl
theorem q_cipherplanlaw02_CatalogBack_0 (f_catalog_Code f_catalog_Valid : Nat) : plan (ris (o_cipherplanlaw02_CatalogBack_0 f_catalog_Code f_catalog_Valid) a_cipherplanlaw02_CatalogBack_0 []) t_cipherplanlaw02_CatalogBack_0 = p_cipherplanlaw02_CatalogBack_0 f_catalog_Code f_catalog_Valid := by kernel_rfl

def c_cipherplanlaw02_CatalogBack (f_cipherplanmake_Light f_cipherplanlaw02_awake f_cipherplanmake_Roll f_cipherplanmake_Use f_catalog_Text f_catalog_Parse f_catalog_Strength f_catalog_Valid f_catalog_Name f_catalog_Find f_catalog_Kind f_catalog_Suites f_catalog_Suite f_catalog_Code : Nat) : AC :=
  seqK [0] (.reg [⟨(some 2), .mov (.c (V.bool false)), none⟩])
  (seqK [0] (seqK [0, 14] (.reg [⟨(some 12), .mov (.t 0), none⟩,
       ⟨(some 13), .call f_cipherplanmake_Light [(.t 12)], none⟩,
       ⟨(some 14), .un .not (.t 13), none⟩])
    (.cond (.t 14)
      (seqK [2] (.reg [⟨(some 15), .call f_cipherplanlaw02_awake [], none⟩,
          ⟨(some 2), .mov (.t 15), none⟩])
       (.ret))
      (.skip)))
   (seqK [3] (.reg [⟨(some 16), .mov (.t 0), none⟩,
       ⟨(some 17), .call f_cipherplanmake_Roll [(.t 16)], none⟩,
       ⟨(some 3), .mov (.t 17), none⟩])
    (seqK [4] (.reg [⟨(some 18), .mov (.t 3), none⟩,
        ⟨(some 19), .call f_cipherplanmake_Use [(.t 18)], none⟩,
        ⟨(some 4), .alloc [.val (.int .i64 0), .val (.int .i64 0)], none⟩,
        ⟨none, .store 2 (.t 4) (.t 19), none⟩])
     (seqK [4, 5, 6] (.reg [⟨(some 21), .load true 2 (.t 4), none⟩,
         ⟨(some 22), .call f_catalog_Text [(.t 21)], none⟩,
         ⟨(some 23), .call f_catalog_Parse [(.t 22)], none⟩,
         ⟨(some 20), .mov (.t 23), none⟩,
         ⟨(some 24), .ext (.t 20) 0, none⟩,
         ⟨(some 25), .ext (.t 20) 1, none⟩,
         ⟨(some 5), .alloc [.val (.int .i64 0), .val (.int .i64 0)], none⟩,
         ⟨none, .store 2 (.t 5) (.t 24), none⟩,
         ⟨(some 6), .mov (.t 25), none⟩])
      (seqK [] (seqK [42] (.reg [⟨(some 26), .mov (.t 6), none⟩,
           ⟨(some 27), .bin .neq (.t 26) (.c (V.int 0)), none⟩,
           ⟨(some 28), .mov (.t 27), none⟩,
           ⟨(some 29), .load true 2 (.t 4), (some (28, false))⟩,
           ⟨(some 30), .load true 2 (.t 5), (some (28, false))⟩,
           ⟨(some 31), .eqagg true [0, 0] (.t 29) (.t 30), (some (28, false))⟩,
           ⟨(some 32), .pick (.t 28) (.c (V.bool true)) (.t 31), none⟩,
           ⟨(some 33), .mov (.t 32), none⟩,
           ⟨(some 34), .load true 2 (.t 4), (some (33, false))⟩,
           ⟨(some 35), .call f_catalog_Strength [(.t 34)], (some (33, false))⟩,
           ⟨(some 36), .bin .lss (.t 35) (.c (V.int 1)), (some (33, false))⟩,
           ⟨(some 37), .pick (.t 33) (.c (V.bool true)) (.t 36), none⟩,
           ⟨(some 38), .mov (.t 37), none⟩,
           ⟨(some 39), .load true 2 (.t 4), (some (38, false))⟩,
           ⟨(some 40), .call f_catalog_Valid [(.t 39)], (some (38, false))⟩,
           ⟨(some 41), .un .not (.t 40), (some (38, false))⟩,
           ⟨(some 42), .pick (.t 38) (.c (V.bool true)) (.t 41), none⟩])
        (.cond (.t 42)
          (seqK [2] (.reg [⟨(some 2), .mov (.c (V.bool false)), none⟩])
           (.ret))
          (.skip)))
       (seqK [] (seqK [7] (.reg [⟨(some 7), .mov (.c (V.int 1)), none⟩])
         (.block 0 (loopK [7] (seqK [7] (seqK [7, 44] (.reg [⟨(some 43), .mov (.t 7), none⟩,
                ⟨(some 44), .bin .leq (.t 43) (.c (V.int 22)), none⟩])
             (.cond (.t 44)
               (.skip)
               (.exit 0)))
            (seqK [7] (.block 1 (seqK [7, 61] (.reg [⟨(some 47), .mov (.t 7), none⟩,
                  ⟨(some 48), .call f_catalog_Name [(.t 47)], none⟩,
                  ⟨(some 49), .call f_catalog_Find [(.t 48)], none⟩,
                  ⟨(some 50), .mov (.t 7), none⟩,
                  ⟨(some 51), .bin .neq (.t 49) (.t 50), none⟩,
                  ⟨(some 52), .mov (.t 51), none⟩,
                  ⟨(some 53), .mov (.t 7), (some (52, false))⟩,
                  ⟨(some 54), .call f_catalog_Kind [(.t 53)], (some (52, false))⟩,
                  ⟨(some 55), .bin .lss (.t 54) (.c (V.int 1)), (some (52, false))⟩,
                  ⟨(some 56), .pick (.t 52) (.c (V.bool true)) (.t 55), none⟩,
                  ⟨(some 57), .mov (.t 56), none⟩,
                  ⟨(some 58), .mov (.t 7), (some (57, false))⟩,
                  ⟨(some 59), .call f_catalog_Kind [(.t 58)], (some (57, false))⟩,
                  ⟨(some 60), .bin .gtr (.t 59) (.c (V.int 5)), (some (57, false))⟩,
                  ⟨(some 61), .pick (.t 57) (.c (V.bool true)) (.t 60), none⟩])
               (.cond (.t 61)
                 (seqK [2] (.reg [⟨(some 2), .mov (.c (V.bool false)), none⟩])
                  (.ret))
                 (.skip))))
             (.reg [⟨(some 45), .mov (.t 7), none⟩,
                ⟨(some 46), .bin .add (.t 45) (.c (V.int 1)), none⟩,
                ⟨(some 7), .mov (.t 46), none⟩]))))))
        (seqK [8] (.reg [⟨(some 62), .call f_catalog_Suites [], none⟩,
            ⟨(some 8), .mov (.t 62), none⟩])
         (seqK [] (seqK [8, 9] (.reg [⟨(some 9), .mov (.c (V.int 0)), none⟩])
           (.block 2 (loopK [8, 9] (seqK [8, 9] (seqK [8, 9, 66] (.reg [⟨(some 63), .mov (.t 9), none⟩,
                  ⟨(some 64), .mov (.t 8), none⟩,
                  ⟨(some 65), .lenL (.t 64), none⟩,
                  ⟨(some 66), .bin .lss (.t 63) (.t 65), none⟩])
               (.cond (.t 66)
                 (.skip)
                 (.exit 2)))
              (seqK [8, 9] (.block 3 (seqK [8, 9, 10, 11] (.reg [⟨(some 70), .mov (.t 8), none⟩,
                    ⟨(some 71), .mov (.t 9), none⟩,
                    ⟨(some 72), .iaddr 12 (.t 70) (.t 71), none⟩,
                    ⟨(some 73), .faddr 0 (.t 72), none⟩,
                    ⟨(some 74), .load false 1 (.t 73), none⟩,
                    ⟨(some 75), .call f_catalog_Suite [(.t 74)], none⟩,
                    ⟨(some 69), .mov (.t 75), none⟩,
                    ⟨(some 76), .ext (.t 69) 0, none⟩,
                    ⟨(some 77), .ext (.t 69) 1, none⟩,
                    ⟨(some 10), .alloc [.val (.int .i64 0), .val (.string ⟨#[]⟩), .val (.int .i64 0), .val (.int .i64 0), .val (.int .i64 0), .val (.int .i64 0), .val (.int .i64 0), .val (.int .i64 0), .val (.int .i64 0), .val (.int .i64 0), .val (.int .i64 0), .val (.int .i64 0)], none⟩,
                    ⟨none, .store 12 (.t 10) (.t 76), none⟩,
                    ⟨(some 11), .mov (.t 77), none⟩])
                 (seqK [8, 9, 132] (regK [] t_cipherplanlaw02_CatalogBack_0 (p_cipherplanlaw02_CatalogBack_0 f_catalog_Code f_catalog_Valid) (o_cipherplanlaw02_CatalogBack_0 f_catalog_Code f_catalog_Valid) a_cipherplanlaw02_CatalogBack_0)
                  (.cond (.t 132)
                    (seqK [2] (.reg [⟨(some 2), .mov (.c (V.bool false)), none⟩])
                     (.ret))
                    (.skip)))))
               (.reg [⟨(some 67), .mov (.t 9), none⟩,
                  ⟨(some 68), .bin .add (.t 67) (.c (V.int 1)), none⟩,
                  ⟨(some 9), .mov (.t 68), none⟩]))))))
          (seqK [2] (.reg [⟨(some 133), .call f_cipherplanlaw02_awake [], none⟩,
              ⟨(some 2), .mov (.t 133), none⟩])
           (.ret))))))))))

def r_cipherplanlaw02_CatalogBack : List ARes := [.tmp 2]
def CE_cipherplanlaw02_CatalogBack (Γ : Env) (f : Nat) : Prop := ∀ (l : List Int), EvN Γ f [.sl 1 (l.map V.int)] (V.bool true)
theorem ev_cipherplanlaw02_CatalogBack {Γ : Env} {f f_cipherplanmake_Light f_cipherplanlaw02_awake f_cipherplanmake_Roll f_cipherplanmake_Use f_catalog_Text f_catalog_Parse f_catalog_Strength f_catalog_Valid f_catalog_Name f_catalog_Find f_catalog_Kind f_catalog_Suites f_catalog_Suite f_catalog_Code : Nat} (h : Has Γ.P f 134 (c_cipherplanlaw02_CatalogBack f_cipherplanmake_Light f_cipherplanlaw02_awake f_cipherplanmake_Roll f_cipherplanmake_Use f_catalog_Text f_catalog_Parse f_catalog_Strength f_catalog_Valid f_catalog_Name f_catalog_Find f_catalog_Kind f_catalog_Suites f_catalog_Suite f_catalog_Code) r_cipherplanlaw02_CatalogBack) (h_cipherplanmake_Light : CE_cipherplanmake_Light Γ f_cipherplanmake_Light) (h_cipherplanlaw02_awake : CE_cipherplanlaw02_awake Γ f_cipherplanlaw02_awake) (h_cipherplanmake_Roll : CE_cipherplanmake_Roll Γ f_cipherplanmake_Roll) (h_cipherplanmake_Use : CE_cipherplanmake_Use Γ f_cipherplanmake_Use) (h_catalog_Text : CE_catalog_Text Γ f_catalog_Text) (h_catalog_Parse : CE_catalog_Parse Γ f_catalog_Parse) (h_catalog_Strength : CE_catalog_Strength Γ f_catalog_Strength) (h_catalog_Valid : CE_catalog_Valid Γ f_catalog_Valid) (h_catalog_Name : CE_catalog_Name Γ f_catalog_Name) (h_catalog_Find : CE_catalog_Find Γ f_catalog_Find) (h_catalog_Kind : CE_catalog_Kind Γ f_catalog_Kind) (h_catalog_Suites : CE_catalog_Suites Γ f_catalog_Suites) (h_catalog_Suite : CE_catalog_Suite Γ f_catalog_Suite) (h_catalog_Code : CE_catalog_Code Γ f_catalog_Code) : CE_cipherplanlaw02_CatalogBack Γ f := by
  intro l
  refine evN_of_body h (by simp) (by simp only [V.closed, closedL, V.noSl, noSlL, and_self, and_true, true_and]) (by simp only [V.closed, closedL, V.noSl, noSlL, and_self, and_true, true_and]) fun C hC hm => ?_
  subst hC
  unfold c_cipherplanlaw02_CatalogBack
  by_cases hlen : l.length ≤ 400
  · have e0 : decide ((l.length : Int) ≤ 400) = true := by simp; omega
    have n1 := h_cipherplanmake_Roll l
    have n2 := h_cipherplanmake_Use l 0 hlen (Nat.zero_le _)
    simp only [dcell] at n1 n2
    have hv := useD_valid l 0
    generalize useD l 0 = u at *
    obtain ⟨⟨a, b⟩, k⟩ := u
    simp only at hv n2
    have hT := parse_text a b hv
    have hTl := text_len a b hv
    have n3 := h_catalog_Text a b
    have n4 := h_catalog_Parse (textS a b) (by omega)
    rw [hT] at n4
    have e1 : decide (strengthS a b < 1) = false := by simp; omega
    have e2 : decide (strengthS a b > 0) = true := by simpa using hv
    have en : ∀ m : Int, (m != m) = false := by simp
    have eb : ∀ m : Bool, (m != m) = false := by simp
    have hl := suites_len
    repeat' (first
    | refine awp_seqR fun K' hK => ?_
    | refine awp_regR fun K' hK => ?_
    | refine awp_seqP 55 (fun _ => true) rfl (k_cipherplanlaw02_CatalogBack_0 _ _) (q_cipherplanlaw02_CatalogBack_0 _ _) fun K' hK => ?_
    | refine awp_regP 55 (fun _ => true) rfl (k_cipherplanlaw02_CatalogBack_0 _ _) (q_cipherplanlaw02_CatalogBack_0 _ _) fun K' hK => ?_
    | refine awp_seqK ?_
    | refine awp_skip ?_
    | refine awp_block ?_
    | ((first | refine awp_cond ⟨_, rfl, fun hc => ?_, fun hc => ?_⟩ | refine awB_t (fun hc => ?_) (fun hc => ?_) | refine awB_f (fun hc => ?_) (fun hc => ?_)) <;> first | exact Bool.noConfusion hc | (exfalso; simp only [decide_eq_true_eq, decide_eq_false_iff_not, List.length_map, Bool.not_eq_true', Bool.not_eq_false'] at hc; omega) | (try simp only [decide_eq_true_eq, decide_eq_false_iff_not, beq_iff_eq, beq_eq_false_iff_ne, ne_eq, Bool.not_eq_true', Bool.not_eq_false'] at hc))
    | refine awp_ret ?_
    | refine awp_exit ?_
    | simp (maxSteps := 1000000) only [go_sem, Nat.reduceAdd, Nat.reduceMul, Nat.reduceEqDiff, Nat.reduceLeDiff, Nat.reduceLT, Nat.reduceSub, Int.reduceEq, Int.reduceBEq, Int.reduceLT, Int.reduceLE, Int.reduceAdd, Int.reduceToNat, reduceIte, reduceCtorEq, dcell, e0, e1, e2, en, eb, p_cipherplanlaw02_CatalogBack_0]
    | (refine hK _ ?_; clear hK; clear K')
    | refine And.intro ?_ ?_
    | (apply awC_D1; (focus (exact rfl)); (focus (simp only [go_sem, Nat.reduceAdd, Nat.reduceMul, Nat.reduceEqDiff, Nat.reduceLeDiff, Nat.reduceLT, Nat.reduceSub, Int.reduceEq, Int.reduceBEq, Int.reduceLT, Int.reduceLE, Int.reduceAdd, Int.reduceToNat, reduceIte, reduceCtorEq, dcell, e0, e1, e2, en, eb]; first | exact n2 | exact (h_cipherplanmake_Use _ _ (by first | assumption | omega | (simp; done)) (by first | assumption | omega | (simp; done))))); (focus (simp only [go_sem, Nat.reduceAdd, Nat.reduceMul, Nat.reduceEqDiff, Nat.reduceLeDiff, Nat.reduceLT, Nat.reduceSub, Int.reduceEq, Int.reduceBEq, Int.reduceLT, Int.reduceLE, Int.reduceAdd, Int.reduceToNat, reduceIte, reduceCtorEq, dcell, e0, e1, e2, en, eb, List.mem_singleton])); (focus (simp only [go_sem, Nat.reduceAdd, Nat.reduceMul, Nat.reduceEqDiff, Nat.reduceLeDiff, Nat.reduceLT, Nat.reduceSub, Int.reduceEq, Int.reduceBEq, Int.reduceLT, Int.reduceLE, Int.reduceAdd, Int.reduceToNat, reduceIte, reduceCtorEq, dcell, e0, e1, e2, en, eb, List.mem_singleton])); (focus (simp only [go_sem, Nat.reduceAdd, Nat.reduceMul, Nat.reduceEqDiff, Nat.reduceLeDiff, Nat.reduceLT, Nat.reduceSub, Int.reduceEq, Int.reduceBEq, Int.reduceLT, Int.reduceLE, Int.reduceAdd, Int.reduceToNat, reduceIte, reduceCtorEq, dcell, e0, e1, e2, en, eb])))
    | (apply awC_R; (focus (simp only [go_sem, Nat.reduceAdd, Nat.reduceMul, Nat.reduceEqDiff, Nat.reduceLeDiff, Nat.reduceLT, Nat.reduceSub, Int.reduceEq, Int.reduceBEq, Int.reduceLT, Int.reduceLE, Int.reduceAdd, Int.reduceToNat, reduceIte, reduceCtorEq, dcell, e0, e1, e2, en, eb]; first | exact n1 | exact (h_cipherplanmake_Roll _))); (focus (simp only [go_sem, Nat.reduceAdd, Nat.reduceMul, Nat.reduceEqDiff, Nat.reduceLeDiff, Nat.reduceLT, Nat.reduceSub, Int.reduceEq, Int.reduceBEq, Int.reduceLT, Int.reduceLE, Int.reduceAdd, Int.reduceToNat, reduceIte, reduceCtorEq, dcell, e0, e1, e2, en, eb, List.mem_singleton])))
    | ((first | apply awC_A | apply awCR_A); (focus (simp only [go_sem, Nat.reduceAdd, Nat.reduceMul, Nat.reduceEqDiff, Nat.reduceLeDiff, Nat.reduceLT, Nat.reduceSub, Int.reduceEq, Int.reduceBEq, Int.reduceLT, Int.reduceLE, Int.reduceAdd, Int.reduceToNat, reduceIte, reduceCtorEq, dcell, e0, e1, e2, en, eb]; first | exact n3.b | exact n4.b | exact (h_cipherplanmake_Light _).b | exact EvN.b h_cipherplanlaw02_awake | exact (h_catalog_Text _ _).b | exact (h_catalog_Parse _ (by first | assumption | omega | (simp; done))).b | exact (h_catalog_Strength _ _).b | exact (h_catalog_Valid _ _).b | exact (h_catalog_Name _).b | exact (h_catalog_Find _).b | exact (h_catalog_Kind _).b | exact EvC.b h_catalog_Suites | exact (h_catalog_Suite _).b | exact (h_catalog_Code _).b)); (focus (simp only [go_sem, Nat.reduceAdd, Nat.reduceMul, Nat.reduceEqDiff, Nat.reduceLeDiff, Nat.reduceLT, Nat.reduceSub, Int.reduceEq, Int.reduceBEq, Int.reduceLT, Int.reduceLE, Int.reduceAdd, Int.reduceToNat, reduceIte, reduceCtorEq, dcell, e0, e1, e2, en, eb])))
    | (simp only [List.length_append, List.length_cons, List.length_nil, List.length_map, Nat.reducePow, Nat.reduceAdd]; omega)
    | omega)
    refine awp_loopP (ι := Nat) (fun k => 1 ≤ k ∧ k ≤ 23) (fun k => [(7, V.int k)]) (fun k => 23 - k) 1 (by omega) (by omega) (by repeat' first | exact ltO_none | refine ltO_upd (by omega) (by simp only [Ob.lt, ltL, V.lt, and_self, and_true]; try omega) ?_) (fun i hi => by simp only [ovT, lookD, Nat.reduceEqDiff, reduceIte]; (repeat' first | exact ltT_nil | refine ltT_cons ?_ ?_ | simp only [V.lt, ltL, and_self, and_true] | omega)) (by simp only [Nat.reduceAdd, ovT, lookD, Nat.reduceEqDiff, reduceIte, eqT_cons, eqT_nil, renI, u32, u33, u34, u35, u36, u37, u38, u39, and_self, and_true, true_and] <;> rfl) fun k hk K' hL => ?_
    simp only [ovT, lookD, Nat.reduceEqDiff, reduceIte]
    by_cases hk2 : k < 23
    · have e3 : decide ((k : Int) ≤ 22) = true := by simp; omega
      obtain ⟨f1, f2, f3⟩ := find_name k hk2 hk.1
      have e4 : decide ((crowAt k).kind < 1) = false := by simp; omega
      have e5 : decide ((crowAt k).kind > 5) = false := by simp; omega
      have hw := wrap_succ (k := k) (by omega)
      repeat' (first
    | refine awp_seqR fun K' hK => ?_
    | refine awp_regR fun K' hK => ?_
    | refine awp_seqP 55 (fun _ => true) rfl (k_cipherplanlaw02_CatalogBack_0 _ _) (q_cipherplanlaw02_CatalogBack_0 _ _) fun K' hK => ?_
    | refine awp_regP 55 (fun _ => true) rfl (k_cipherplanlaw02_CatalogBack_0 _ _) (q_cipherplanlaw02_CatalogBack_0 _ _) fun K' hK => ?_
    | refine awp_seqK ?_
    | refine awp_skip ?_
    | refine awp_block ?_
    | ((first | refine awp_cond ⟨_, rfl, fun hc => ?_, fun hc => ?_⟩ | refine awB_t (fun hc => ?_) (fun hc => ?_) | refine awB_f (fun hc => ?_) (fun hc => ?_)) <;> first | exact Bool.noConfusion hc | (exfalso; simp only [decide_eq_true_eq, decide_eq_false_iff_not, List.length_map, Bool.not_eq_true', Bool.not_eq_false'] at hc; omega) | (try simp only [decide_eq_true_eq, decide_eq_false_iff_not, beq_iff_eq, beq_eq_false_iff_ne, ne_eq, Bool.not_eq_true', Bool.not_eq_false'] at hc))
    | refine awp_ret ?_
    | refine awp_exit ?_
    | simp (maxSteps := 1000000) only [go_sem, Nat.reduceAdd, Nat.reduceMul, Nat.reduceEqDiff, Nat.reduceLeDiff, Nat.reduceLT, Nat.reduceSub, Int.reduceEq, Int.reduceBEq, Int.reduceLT, Int.reduceLE, Int.reduceAdd, Int.reduceToNat, reduceIte, reduceCtorEq, e3, e4, e5, f1, en, hw, p_cipherplanlaw02_CatalogBack_0]
    | (refine hK _ ?_; clear hK; clear K')
    | refine And.intro ?_ ?_
    | (apply awC_D1; (focus (exact rfl)); (focus (simp only [go_sem, Nat.reduceAdd, Nat.reduceMul, Nat.reduceEqDiff, Nat.reduceLeDiff, Nat.reduceLT, Nat.reduceSub, Int.reduceEq, Int.reduceBEq, Int.reduceLT, Int.reduceLE, Int.reduceAdd, Int.reduceToNat, reduceIte, reduceCtorEq, e3, e4, e5, f1, en, hw]; first | exact (h_cipherplanmake_Use _ _ (by first | assumption | omega | (simp; done)) (by first | assumption | omega | (simp; done))))); (focus (simp only [go_sem, Nat.reduceAdd, Nat.reduceMul, Nat.reduceEqDiff, Nat.reduceLeDiff, Nat.reduceLT, Nat.reduceSub, Int.reduceEq, Int.reduceBEq, Int.reduceLT, Int.reduceLE, Int.reduceAdd, Int.reduceToNat, reduceIte, reduceCtorEq, e3, e4, e5, f1, en, hw, List.mem_singleton])); (focus (simp only [go_sem, Nat.reduceAdd, Nat.reduceMul, Nat.reduceEqDiff, Nat.reduceLeDiff, Nat.reduceLT, Nat.reduceSub, Int.reduceEq, Int.reduceBEq, Int.reduceLT, Int.reduceLE, Int.reduceAdd, Int.reduceToNat, reduceIte, reduceCtorEq, e3, e4, e5, f1, en, hw, List.mem_singleton])); (focus (simp only [go_sem, Nat.reduceAdd, Nat.reduceMul, Nat.reduceEqDiff, Nat.reduceLeDiff, Nat.reduceLT, Nat.reduceSub, Int.reduceEq, Int.reduceBEq, Int.reduceLT, Int.reduceLE, Int.reduceAdd, Int.reduceToNat, reduceIte, reduceCtorEq, e3, e4, e5, f1, en, hw])))
    | (apply awC_R; (focus (simp only [go_sem, Nat.reduceAdd, Nat.reduceMul, Nat.reduceEqDiff, Nat.reduceLeDiff, Nat.reduceLT, Nat.reduceSub, Int.reduceEq, Int.reduceBEq, Int.reduceLT, Int.reduceLE, Int.reduceAdd, Int.reduceToNat, reduceIte, reduceCtorEq, e3, e4, e5, f1, en, hw]; first | exact (h_cipherplanmake_Roll _))); (focus (simp only [go_sem, Nat.reduceAdd, Nat.reduceMul, Nat.reduceEqDiff, Nat.reduceLeDiff, Nat.reduceLT, Nat.reduceSub, Int.reduceEq, Int.reduceBEq, Int.reduceLT, Int.reduceLE, Int.reduceAdd, Int.reduceToNat, reduceIte, reduceCtorEq, e3, e4, e5, f1, en, hw, List.mem_singleton])))
    | ((first | apply awC_A | apply awCR_A); (focus (simp only [go_sem, Nat.reduceAdd, Nat.reduceMul, Nat.reduceEqDiff, Nat.reduceLeDiff, Nat.reduceLT, Nat.reduceSub, Int.reduceEq, Int.reduceBEq, Int.reduceLT, Int.reduceLE, Int.reduceAdd, Int.reduceToNat, reduceIte, reduceCtorEq, e3, e4, e5, f1, en, hw]; first | exact (h_cipherplanmake_Light _).b | exact EvN.b h_cipherplanlaw02_awake | exact (h_catalog_Text _ _).b | exact (h_catalog_Parse _ (by first | assumption | omega | (simp; done))).b | exact (h_catalog_Strength _ _).b | exact (h_catalog_Valid _ _).b | exact (h_catalog_Name _).b | exact (h_catalog_Find _).b | exact (h_catalog_Kind _).b | exact EvC.b h_catalog_Suites | exact (h_catalog_Suite _).b | exact (h_catalog_Code _).b)); (focus (simp only [go_sem, Nat.reduceAdd, Nat.reduceMul, Nat.reduceEqDiff, Nat.reduceLeDiff, Nat.reduceLT, Nat.reduceSub, Int.reduceEq, Int.reduceBEq, Int.reduceLT, Int.reduceLE, Int.reduceAdd, Int.reduceToNat, reduceIte, reduceCtorEq, e3, e4, e5, f1, en, hw])))
    | (simp only [List.length_append, List.length_cons, List.length_nil, List.length_map, Nat.reducePow, Nat.reduceAdd]; omega)
    | omega)
      all_goals refine hL _ (k + 1) (by simp only [Nat.reduceAdd, ovT, lookD, Nat.reduceEqDiff, reduceIte, eqT_cons, eqT_nil, renI, u32, u33, u34, u35, u36, u37, u38, u39, and_self, and_true, true_and]) ⟨by omega, by omega⟩ (by omega) (fun a ha => by simp only [u32, u33, u34, u35, u36, u37, u38, u39]; repeat rw [if_neg (by omega)])
    · have e3 : decide ((k : Int) ≤ 22) = false := by simp; omega
      repeat' (first
    | refine awp_seqR fun K' hK => ?_
    | refine awp_regR fun K' hK => ?_
    | refine awp_seqP 55 (fun _ => true) rfl (k_cipherplanlaw02_CatalogBack_0 _ _) (q_cipherplanlaw02_CatalogBack_0 _ _) fun K' hK => ?_
    | refine awp_regP 55 (fun _ => true) rfl (k_cipherplanlaw02_CatalogBack_0 _ _) (q_cipherplanlaw02_CatalogBack_0 _ _) fun K' hK => ?_
    | refine awp_seqK ?_
    | refine awp_skip ?_
    | refine awp_block ?_
    | ((first | refine awp_cond ⟨_, rfl, fun hc => ?_, fun hc => ?_⟩ | refine awB_t (fun hc => ?_) (fun hc => ?_) | refine awB_f (fun hc => ?_) (fun hc => ?_)) <;> first | exact Bool.noConfusion hc | (exfalso; simp only [decide_eq_true_eq, decide_eq_false_iff_not, List.length_map, Bool.not_eq_true', Bool.not_eq_false'] at hc; omega) | (try simp only [decide_eq_true_eq, decide_eq_false_iff_not, beq_iff_eq, beq_eq_false_iff_ne, ne_eq, Bool.not_eq_true', Bool.not_eq_false'] at hc))
    | refine awp_ret ?_
    | refine awp_exit ?_
    | simp (maxSteps := 1000000) only [go_sem, Nat.reduceAdd, Nat.reduceMul, Nat.reduceEqDiff, Nat.reduceLeDiff, Nat.reduceLT, Nat.reduceSub, Int.reduceEq, Int.reduceBEq, Int.reduceLT, Int.reduceLE, Int.reduceAdd, Int.reduceToNat, reduceIte, reduceCtorEq, e3, p_cipherplanlaw02_CatalogBack_0]
    | (refine hK _ ?_; clear hK; clear K')
    | refine And.intro ?_ ?_
    | (apply awC_D1; (focus (exact rfl)); (focus (simp only [go_sem, Nat.reduceAdd, Nat.reduceMul, Nat.reduceEqDiff, Nat.reduceLeDiff, Nat.reduceLT, Nat.reduceSub, Int.reduceEq, Int.reduceBEq, Int.reduceLT, Int.reduceLE, Int.reduceAdd, Int.reduceToNat, reduceIte, reduceCtorEq, e3]; first | exact (h_cipherplanmake_Use _ _ (by first | assumption | omega | (simp; done)) (by first | assumption | omega | (simp; done))))); (focus (simp only [go_sem, Nat.reduceAdd, Nat.reduceMul, Nat.reduceEqDiff, Nat.reduceLeDiff, Nat.reduceLT, Nat.reduceSub, Int.reduceEq, Int.reduceBEq, Int.reduceLT, Int.reduceLE, Int.reduceAdd, Int.reduceToNat, reduceIte, reduceCtorEq, e3, List.mem_singleton])); (focus (simp only [go_sem, Nat.reduceAdd, Nat.reduceMul, Nat.reduceEqDiff, Nat.reduceLeDiff, Nat.reduceLT, Nat.reduceSub, Int.reduceEq, Int.reduceBEq, Int.reduceLT, Int.reduceLE, Int.reduceAdd, Int.reduceToNat, reduceIte, reduceCtorEq, e3, List.mem_singleton])); (focus (simp only [go_sem, Nat.reduceAdd, Nat.reduceMul, Nat.reduceEqDiff, Nat.reduceLeDiff, Nat.reduceLT, Nat.reduceSub, Int.reduceEq, Int.reduceBEq, Int.reduceLT, Int.reduceLE, Int.reduceAdd, Int.reduceToNat, reduceIte, reduceCtorEq, e3])))
    | (apply awC_R; (focus (simp only [go_sem, Nat.reduceAdd, Nat.reduceMul, Nat.reduceEqDiff, Nat.reduceLeDiff, Nat.reduceLT, Nat.reduceSub, Int.reduceEq, Int.reduceBEq, Int.reduceLT, Int.reduceLE, Int.reduceAdd, Int.reduceToNat, reduceIte, reduceCtorEq, e3]; first | exact (h_cipherplanmake_Roll _))); (focus (simp only [go_sem, Nat.reduceAdd, Nat.reduceMul, Nat.reduceEqDiff, Nat.reduceLeDiff, Nat.reduceLT, Nat.reduceSub, Int.reduceEq, Int.reduceBEq, Int.reduceLT, Int.reduceLE, Int.reduceAdd, Int.reduceToNat, reduceIte, reduceCtorEq, e3, List.mem_singleton])))
    | ((first | apply awC_A | apply awCR_A); (focus (simp only [go_sem, Nat.reduceAdd, Nat.reduceMul, Nat.reduceEqDiff, Nat.reduceLeDiff, Nat.reduceLT, Nat.reduceSub, Int.reduceEq, Int.reduceBEq, Int.reduceLT, Int.reduceLE, Int.reduceAdd, Int.reduceToNat, reduceIte, reduceCtorEq, e3]; first | exact (h_cipherplanmake_Light _).b | exact EvN.b h_cipherplanlaw02_awake | exact (h_catalog_Text _ _).b | exact (h_catalog_Parse _ (by first | assumption | omega | (simp; done))).b | exact (h_catalog_Strength _ _).b | exact (h_catalog_Valid _ _).b | exact (h_catalog_Name _).b | exact (h_catalog_Find _).b | exact (h_catalog_Kind _).b | exact EvC.b h_catalog_Suites | exact (h_catalog_Suite _).b | exact (h_catalog_Code _).b)); (focus (simp only [go_sem, Nat.reduceAdd, Nat.reduceMul, Nat.reduceEqDiff, Nat.reduceLeDiff, Nat.reduceLT, Nat.reduceSub, Int.reduceEq, Int.reduceBEq, Int.reduceLT, Int.reduceLE, Int.reduceAdd, Int.reduceToNat, reduceIte, reduceCtorEq, e3])))
    | (simp only [List.length_append, List.length_cons, List.length_nil, List.length_map, Nat.reducePow, Nat.reduceAdd]; omega)
    | omega)
      refine awp_loopP (ι := Nat) (fun k => k ≤ 16) (fun k => [(9, V.int k)]) (fun k => 16 - k) 0 (by omega) (by omega) (by repeat' first | exact ltO_none | refine ltO_upd (by omega) (by simp only [Ob.lt, ltL, V.lt, and_self, and_true]; try omega) ?_) (fun i hi => by simp only [ovT, lookD, Nat.reduceEqDiff, reduceIte]; (repeat' first | exact ltT_nil | refine ltT_cons ?_ ?_ | simp only [V.lt, ltL, and_self, and_true] | omega)) (by simp only [Nat.reduceAdd, ovT, lookD, Nat.reduceEqDiff, reduceIte, eqT_cons, eqT_nil, renI, u32, u33, u34, u35, u36, u37, u38, u39, and_self, and_true, true_and] <;> rfl) fun k hk K' hL => ?_
      simp only [ovT, lookD, Nat.reduceEqDiff, reduceIte]
      by_cases hk2 : k < 16
      · have e1 : decide ((k : Int) < (((suitesL.map CSuite.v).length : Nat) : Int)) = true := by simp [hl]; omega
        obtain ⟨y, hget⟩ : ∃ y, suitesL[k]? = some y := ⟨suitesL[k]'(by omega), List.getElem?_eq_getElem (by omega)⟩
        obtain ⟨s1, s2, s3, s4, s5, s6⟩ := suites_ok k hk2 y hget
        have hw := wrap_succ (k := k) (by omega)
        have y1 := h_catalog_Suite y.code
        simp only [suiteV, s1, if_pos s2, CSuite.v, CSuite.cells] at y1
        have e6 : decide (y.lo > y.hi) = false := by simp; omega
        have e7 : decide (strengthS y.ci1 y.ci2 > 0) = true := by simpa using s5
        have e8 : decide (strengthS y.mc1 y.mc2 > 0) = true := by simpa using s6
        repeat' (first
    | refine awp_seqR fun K' hK => ?_
    | refine awp_regR fun K' hK => ?_
    | refine awp_seqP 55 (fun _ => true) rfl (k_cipherplanlaw02_CatalogBack_0 _ _) (q_cipherplanlaw02_CatalogBack_0 _ _) fun K' hK => ?_
    | refine awp_regP 55 (fun _ => true) rfl (k_cipherplanlaw02_CatalogBack_0 _ _) (q_cipherplanlaw02_CatalogBack_0 _ _) fun K' hK => ?_
    | refine awp_seqK ?_
    | refine awp_skip ?_
    | refine awp_block ?_
    | ((first | refine awp_cond ⟨_, rfl, fun hc => ?_, fun hc => ?_⟩ | refine awB_t (fun hc => ?_) (fun hc => ?_) | refine awB_f (fun hc => ?_) (fun hc => ?_)) <;> first | exact Bool.noConfusion hc | (exfalso; simp only [decide_eq_true_eq, decide_eq_false_iff_not, List.length_map, Bool.not_eq_true', Bool.not_eq_false'] at hc; omega) | (try simp only [decide_eq_true_eq, decide_eq_false_iff_not, beq_iff_eq, beq_eq_false_iff_ne, ne_eq, Bool.not_eq_true', Bool.not_eq_false'] at hc))
    | refine awp_ret ?_
    | refine awp_exit ?_
    | simp (maxSteps := 1000000) only [go_sem, Nat.reduceAdd, Nat.reduceMul, Nat.reduceEqDiff, Nat.reduceLeDiff, Nat.reduceLT, Nat.reduceSub, Int.reduceEq, Int.reduceBEq, Int.reduceLT, Int.reduceLE, Int.reduceAdd, Int.reduceToNat, reduceIte, reduceCtorEq, Int.toNat_natCast, List.getElem?_map, hget, hw, e1, en, eb, s3, e6, e7, e8, CSuite.v, CSuite.cells, p_cipherplanlaw02_CatalogBack_0]
    | (refine hK _ ?_; clear hK; clear K')
    | refine And.intro ?_ ?_
    | (apply awC_D1; (focus (exact rfl)); (focus (simp only [go_sem, Nat.reduceAdd, Nat.reduceMul, Nat.reduceEqDiff, Nat.reduceLeDiff, Nat.reduceLT, Nat.reduceSub, Int.reduceEq, Int.reduceBEq, Int.reduceLT, Int.reduceLE, Int.reduceAdd, Int.reduceToNat, reduceIte, reduceCtorEq, Int.toNat_natCast, List.getElem?_map, hget, hw, e1, en, eb, s3, e6, e7, e8, CSuite.v, CSuite.cells]; first | exact (h_cipherplanmake_Use _ _ (by first | assumption | omega | (simp; done)) (by first | assumption | omega | (simp; done))))); (focus (simp only [go_sem, Nat.reduceAdd, Nat.reduceMul, Nat.reduceEqDiff, Nat.reduceLeDiff, Nat.reduceLT, Nat.reduceSub, Int.reduceEq, Int.reduceBEq, Int.reduceLT, Int.reduceLE, Int.reduceAdd, Int.reduceToNat, reduceIte, reduceCtorEq, Int.toNat_natCast, List.getElem?_map, hget, hw, e1, en, eb, s3, e6, e7, e8, CSuite.v, CSuite.cells, List.mem_singleton])); (focus (simp only [go_sem, Nat.reduceAdd, Nat.reduceMul, Nat.reduceEqDiff, Nat.reduceLeDiff, Nat.reduceLT, Nat.reduceSub, Int.reduceEq, Int.reduceBEq, Int.reduceLT, Int.reduceLE, Int.reduceAdd, Int.reduceToNat, reduceIte, reduceCtorEq, Int.toNat_natCast, List.getElem?_map, hget, hw, e1, en, eb, s3, e6, e7, e8, CSuite.v, CSuite.cells, List.mem_singleton])); (focus (simp only [go_sem, Nat.reduceAdd, Nat.reduceMul, Nat.reduceEqDiff, Nat.reduceLeDiff, Nat.reduceLT, Nat.reduceSub, Int.reduceEq, Int.reduceBEq, Int.reduceLT, Int.reduceLE, Int.reduceAdd, Int.reduceToNat, reduceIte, reduceCtorEq, Int.toNat_natCast, List.getElem?_map, hget, hw, e1, en, eb, s3, e6, e7, e8, CSuite.v, CSuite.cells])))
    | (apply awC_R; (focus (simp only [go_sem, Nat.reduceAdd, Nat.reduceMul, Nat.reduceEqDiff, Nat.reduceLeDiff, Nat.reduceLT, Nat.reduceSub, Int.reduceEq, Int.reduceBEq, Int.reduceLT, Int.reduceLE, Int.reduceAdd, Int.reduceToNat, reduceIte, reduceCtorEq, Int.toNat_natCast, List.getElem?_map, hget, hw, e1, en, eb, s3, e6, e7, e8, CSuite.v, CSuite.cells]; first | exact (h_cipherplanmake_Roll _))); (focus (simp only [go_sem, Nat.reduceAdd, Nat.reduceMul, Nat.reduceEqDiff, Nat.reduceLeDiff, Nat.reduceLT, Nat.reduceSub, Int.reduceEq, Int.reduceBEq, Int.reduceLT, Int.reduceLE, Int.reduceAdd, Int.reduceToNat, reduceIte, reduceCtorEq, Int.toNat_natCast, List.getElem?_map, hget, hw, e1, en, eb, s3, e6, e7, e8, CSuite.v, CSuite.cells, List.mem_singleton])))
    | ((first | apply awC_A | apply awCR_A); (focus (simp only [go_sem, Nat.reduceAdd, Nat.reduceMul, Nat.reduceEqDiff, Nat.reduceLeDiff, Nat.reduceLT, Nat.reduceSub, Int.reduceEq, Int.reduceBEq, Int.reduceLT, Int.reduceLE, Int.reduceAdd, Int.reduceToNat, reduceIte, reduceCtorEq, Int.toNat_natCast, List.getElem?_map, hget, hw, e1, en, eb, s3, e6, e7, e8, CSuite.v, CSuite.cells]; first | exact y1.b | exact (h_cipherplanmake_Light _).b | exact EvN.b h_cipherplanlaw02_awake | exact (h_catalog_Text _ _).b | exact (h_catalog_Parse _ (by first | assumption | omega | (simp; done))).b | exact (h_catalog_Strength _ _).b | exact (h_catalog_Valid _ _).b | exact (h_catalog_Name _).b | exact (h_catalog_Find _).b | exact (h_catalog_Kind _).b | exact EvC.b h_catalog_Suites | exact (h_catalog_Suite _).b | exact (h_catalog_Code _).b)); (focus (simp only [go_sem, Nat.reduceAdd, Nat.reduceMul, Nat.reduceEqDiff, Nat.reduceLeDiff, Nat.reduceLT, Nat.reduceSub, Int.reduceEq, Int.reduceBEq, Int.reduceLT, Int.reduceLE, Int.reduceAdd, Int.reduceToNat, reduceIte, reduceCtorEq, Int.toNat_natCast, List.getElem?_map, hget, hw, e1, en, eb, s3, e6, e7, e8, CSuite.v, CSuite.cells])))
    | (simp only [List.length_append, List.length_cons, List.length_nil, List.length_map, Nat.reducePow, Nat.reduceAdd]; omega)
    | omega)
        all_goals first
          | (refine hL _ (k + 1) (by simp only [Nat.reduceAdd, ovT, lookD, Nat.reduceEqDiff, reduceIte, eqT_cons, eqT_nil, renI, u32, u33, u34, u35, u36, u37, u38, u39, and_self, and_true, true_and]) (by omega) (by omega) (fun a ha => by simp only [u32, u33, u34, u35, u36, u37, u38, u39]; repeat rw [if_neg (by omega)]); done)
          | trace_state
      · have e1 : decide ((k : Int) < (((suitesL.map CSuite.v).length : Nat) : Int)) = false := by simp [hl]; omega
        repeat' (first
    | refine awp_seqR fun K' hK => ?_
    | refine awp_regR fun K' hK => ?_
    | refine awp_seqP 55 (fun _ => true) rfl (k_cipherplanlaw02_CatalogBack_0 _ _) (q_cipherplanlaw02_CatalogBack_0 _ _) fun K' hK => ?_
    | refine awp_regP 55 (fun _ => true) rfl (k_cipherplanlaw02_CatalogBack_0 _ _) (q_cipherplanlaw02_CatalogBack_0 _ _) fun K' hK => ?_
    | refine awp_seqK ?_
    | refine awp_skip ?_
    | refine awp_block ?_
    | ((first | refine awp_cond ⟨_, rfl, fun hc => ?_, fun hc => ?_⟩ | refine awB_t (fun hc => ?_) (fun hc => ?_) | refine awB_f (fun hc => ?_) (fun hc => ?_)) <;> first | exact Bool.noConfusion hc | (exfalso; simp only [decide_eq_true_eq, decide_eq_false_iff_not, List.length_map, Bool.not_eq_true', Bool.not_eq_false'] at hc; omega) | (try simp only [decide_eq_true_eq, decide_eq_false_iff_not, beq_iff_eq, beq_eq_false_iff_ne, ne_eq, Bool.not_eq_true', Bool.not_eq_false'] at hc))
    | refine awp_ret ?_
    | refine awp_exit ?_
    | simp (maxSteps := 1000000) only [go_sem, Nat.reduceAdd, Nat.reduceMul, Nat.reduceEqDiff, Nat.reduceLeDiff, Nat.reduceLT, Nat.reduceSub, Int.reduceEq, Int.reduceBEq, Int.reduceLT, Int.reduceLE, Int.reduceAdd, Int.reduceToNat, reduceIte, reduceCtorEq, e1, p_cipherplanlaw02_CatalogBack_0]
    | (refine hK _ ?_; clear hK; clear K')
    | refine And.intro ?_ ?_
    | (apply awC_D1; (focus (exact rfl)); (focus (simp only [go_sem, Nat.reduceAdd, Nat.reduceMul, Nat.reduceEqDiff, Nat.reduceLeDiff, Nat.reduceLT, Nat.reduceSub, Int.reduceEq, Int.reduceBEq, Int.reduceLT, Int.reduceLE, Int.reduceAdd, Int.reduceToNat, reduceIte, reduceCtorEq, e1]; first | exact (h_cipherplanmake_Use _ _ (by first | assumption | omega | (simp; done)) (by first | assumption | omega | (simp; done))))); (focus (simp only [go_sem, Nat.reduceAdd, Nat.reduceMul, Nat.reduceEqDiff, Nat.reduceLeDiff, Nat.reduceLT, Nat.reduceSub, Int.reduceEq, Int.reduceBEq, Int.reduceLT, Int.reduceLE, Int.reduceAdd, Int.reduceToNat, reduceIte, reduceCtorEq, e1, List.mem_singleton])); (focus (simp only [go_sem, Nat.reduceAdd, Nat.reduceMul, Nat.reduceEqDiff, Nat.reduceLeDiff, Nat.reduceLT, Nat.reduceSub, Int.reduceEq, Int.reduceBEq, Int.reduceLT, Int.reduceLE, Int.reduceAdd, Int.reduceToNat, reduceIte, reduceCtorEq, e1, List.mem_singleton])); (focus (simp only [go_sem, Nat.reduceAdd, Nat.reduceMul, Nat.reduceEqDiff, Nat.reduceLeDiff, Nat.reduceLT, Nat.reduceSub, Int.reduceEq, Int.reduceBEq, Int.reduceLT, Int.reduceLE, Int.reduceAdd, Int.reduceToNat, reduceIte, reduceCtorEq, e1])))
    | (apply awC_R; (focus (simp only [go_sem, Nat.reduceAdd, Nat.reduceMul, Nat.reduceEqDiff, Nat.reduceLeDiff, Nat.reduceLT, Nat.reduceSub, Int.reduceEq, Int.reduceBEq, Int.reduceLT, Int.reduceLE, Int.reduceAdd, Int.reduceToNat, reduceIte, reduceCtorEq, e1]; first | exact (h_cipherplanmake_Roll _))); (focus (simp only [go_sem, Nat.reduceAdd, Nat.reduceMul, Nat.reduceEqDiff, Nat.reduceLeDiff, Nat.reduceLT, Nat.reduceSub, Int.reduceEq, Int.reduceBEq, Int.reduceLT, Int.reduceLE, Int.reduceAdd, Int.reduceToNat, reduceIte, reduceCtorEq, e1, List.mem_singleton])))
    | ((first | apply awC_A | apply awCR_A); (focus (simp only [go_sem, Nat.reduceAdd, Nat.reduceMul, Nat.reduceEqDiff, Nat.reduceLeDiff, Nat.reduceLT, Nat.reduceSub, Int.reduceEq, Int.reduceBEq, Int.reduceLT, Int.reduceLE, Int.reduceAdd, Int.reduceToNat, reduceIte, reduceCtorEq, e1]; first | exact (h_cipherplanmake_Light _).b | exact EvN.b h_cipherplanlaw02_awake | exact (h_catalog_Text _ _).b | exact (h_catalog_Parse _ (by first | assumption | omega | (simp; done))).b | exact (h_catalog_Strength _ _).b | exact (h_catalog_Valid _ _).b | exact (h_catalog_Name _).b | exact (h_catalog_Find _).b | exact (h_catalog_Kind _).b | exact EvC.b h_catalog_Suites | exact (h_catalog_Suite _).b | exact (h_catalog_Code _).b)); (focus (simp only [go_sem, Nat.reduceAdd, Nat.reduceMul, Nat.reduceEqDiff, Nat.reduceLeDiff, Nat.reduceLT, Nat.reduceSub, Int.reduceEq, Int.reduceBEq, Int.reduceLT, Int.reduceLE, Int.reduceAdd, Int.reduceToNat, reduceIte, reduceCtorEq, e1])))
    | (simp only [List.length_append, List.length_cons, List.length_nil, List.length_map, Nat.reducePow, Nat.reduceAdd]; omega)
    | omega)
        refine ends_r _ rfl ?_; simp only [go_sem, Nat.reduceAdd, Nat.reduceMul, Nat.reduceEqDiff, Nat.reduceLeDiff, Nat.reduceLT, Nat.reduceSub, Int.reduceEq, Int.reduceBEq, Int.reduceLT, Int.reduceLE, Int.reduceAdd, Int.reduceToNat, reduceIte, reduceCtorEq]
  · have e0 : decide ((l.length : Int) ≤ 400) = false := by simp; omega
    repeat' (first
    | refine awp_seqR fun K' hK => ?_
    | refine awp_regR fun K' hK => ?_
    | refine awp_seqP 55 (fun _ => true) rfl (k_cipherplanlaw02_CatalogBack_0 _ _) (q_cipherplanlaw02_CatalogBack_0 _ _) fun K' hK => ?_
    | refine awp_regP 55 (fun _ => true) rfl (k_cipherplanlaw02_CatalogBack_0 _ _) (q_cipherplanlaw02_CatalogBack_0 _ _) fun K' hK => ?_
    | refine awp_seqK ?_
    | refine awp_skip ?_
    | refine awp_block ?_
    | ((first | refine awp_cond ⟨_, rfl, fun hc => ?_, fun hc => ?_⟩ | refine awB_t (fun hc => ?_) (fun hc => ?_) | refine awB_f (fun hc => ?_) (fun hc => ?_)) <;> first | exact Bool.noConfusion hc | (exfalso; simp only [decide_eq_true_eq, decide_eq_false_iff_not, List.length_map, Bool.not_eq_true', Bool.not_eq_false'] at hc; omega) | (try simp only [decide_eq_true_eq, decide_eq_false_iff_not, beq_iff_eq, beq_eq_false_iff_ne, ne_eq, Bool.not_eq_true', Bool.not_eq_false'] at hc))
    | refine awp_ret ?_
    | refine awp_exit ?_
    | simp (maxSteps := 1000000) only [go_sem, Nat.reduceAdd, Nat.reduceMul, Nat.reduceEqDiff, Nat.reduceLeDiff, Nat.reduceLT, Nat.reduceSub, Int.reduceEq, Int.reduceBEq, Int.reduceLT, Int.reduceLE, Int.reduceAdd, Int.reduceToNat, reduceIte, reduceCtorEq, e0, p_cipherplanlaw02_CatalogBack_0]
    | (refine hK _ ?_; clear hK; clear K')
    | refine And.intro ?_ ?_
    | (apply awC_D1; (focus (exact rfl)); (focus (simp only [go_sem, Nat.reduceAdd, Nat.reduceMul, Nat.reduceEqDiff, Nat.reduceLeDiff, Nat.reduceLT, Nat.reduceSub, Int.reduceEq, Int.reduceBEq, Int.reduceLT, Int.reduceLE, Int.reduceAdd, Int.reduceToNat, reduceIte, reduceCtorEq, e0]; first | exact (h_cipherplanmake_Use _ _ (by first | assumption | omega | (simp; done)) (by first | assumption | omega | (simp; done))))); (focus (simp only [go_sem, Nat.reduceAdd, Nat.reduceMul, Nat.reduceEqDiff, Nat.reduceLeDiff, Nat.reduceLT, Nat.reduceSub, Int.reduceEq, Int.reduceBEq, Int.reduceLT, Int.reduceLE, Int.reduceAdd, Int.reduceToNat, reduceIte, reduceCtorEq, e0, List.mem_singleton])); (focus (simp only [go_sem, Nat.reduceAdd, Nat.reduceMul, Nat.reduceEqDiff, Nat.reduceLeDiff, Nat.reduceLT, Nat.reduceSub, Int.reduceEq, Int.reduceBEq, Int.reduceLT, Int.reduceLE, Int.reduceAdd, Int.reduceToNat, reduceIte, reduceCtorEq, e0, List.mem_singleton])); (focus (simp only [go_sem, Nat.reduceAdd, Nat.reduceMul, Nat.reduceEqDiff, Nat.reduceLeDiff, Nat.reduceLT, Nat.reduceSub, Int.reduceEq, Int.reduceBEq, Int.reduceLT, Int.reduceLE, Int.reduceAdd, Int.reduceToNat, reduceIte, reduceCtorEq, e0])))
    | (apply awC_R; (focus (simp only [go_sem, Nat.reduceAdd, Nat.reduceMul, Nat.reduceEqDiff, Nat.reduceLeDiff, Nat.reduceLT, Nat.reduceSub, Int.reduceEq, Int.reduceBEq, Int.reduceLT, Int.reduceLE, Int.reduceAdd, Int.reduceToNat, reduceIte, reduceCtorEq, e0]; first | exact (h_cipherplanmake_Roll _))); (focus (simp only [go_sem, Nat.reduceAdd, Nat.reduceMul, Nat.reduceEqDiff, Nat.reduceLeDiff, Nat.reduceLT, Nat.reduceSub, Int.reduceEq, Int.reduceBEq, Int.reduceLT, Int.reduceLE, Int.reduceAdd, Int.reduceToNat, reduceIte, reduceCtorEq, e0, List.mem_singleton])))
    | ((first | apply awC_A | apply awCR_A); (focus (simp only [go_sem, Nat.reduceAdd, Nat.reduceMul, Nat.reduceEqDiff, Nat.reduceLeDiff, Nat.reduceLT, Nat.reduceSub, Int.reduceEq, Int.reduceBEq, Int.reduceLT, Int.reduceLE, Int.reduceAdd, Int.reduceToNat, reduceIte, reduceCtorEq, e0]; first | exact (h_cipherplanmake_Light _).b | exact EvN.b h_cipherplanlaw02_awake | exact (h_catalog_Text _ _).b | exact (h_catalog_Parse _ (by first | assumption | omega | (simp; done))).b | exact (h_catalog_Strength _ _).b | exact (h_catalog_Valid _ _).b | exact (h_catalog_Name _).b | exact (h_catalog_Find _).b | exact (h_catalog_Kind _).b | exact EvC.b h_catalog_Suites | exact (h_catalog_Suite _).b | exact (h_catalog_Code _).b)); (focus (simp only [go_sem, Nat.reduceAdd, Nat.reduceMul, Nat.reduceEqDiff, Nat.reduceLeDiff, Nat.reduceLT, Nat.reduceSub, Int.reduceEq, Int.reduceBEq, Int.reduceLT, Int.reduceLE, Int.reduceAdd, Int.reduceToNat, reduceIte, reduceCtorEq, e0])))
    | (simp only [List.length_append, List.length_cons, List.length_nil, List.length_map, Nat.reducePow, Nat.reduceAdd]; omega)
    | omega)
    refine ends_r _ rfl ?_; simp only [go_sem, Nat.reduceAdd, Nat.reduceMul, Nat.reduceEqDiff, Nat.reduceLeDiff, Nat.reduceLT, Nat.reduceSub, Int.reduceEq, Int.reduceBEq, Int.reduceLT, Int.reduceLE, Int.reduceAdd, Int.reduceToNat, reduceIte, reduceCtorEq]
end Av
end

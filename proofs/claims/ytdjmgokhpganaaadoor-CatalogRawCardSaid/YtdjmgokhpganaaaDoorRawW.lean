/- RawW -/
import Derived.Test.YtdjmgokhpganaaaDoorTab
set_option linter.unusedVariables false
set_option linter.unusedSimpArgs false
section
set_option linter.unusedSimpArgs false
set_option linter.unusedVariables false
set_option maxRecDepth 10000
set_option maxHeartbeats 8000000
namespace Av
open Go
attribute [local irreducible] AWp runO runP runG awS awC awCv awQ awRd awCallR awCvR awQR awR awRdR awB okR plan ris

theorem parseS_form (s : List UInt8) : ∃ a b e, parseS s = .tup [.agg [V.int a, V.int b], V.int e] := by
  unfold parseS; split
  · exact ⟨_, _, _, rfl⟩
  · exact ⟨_, _, _, rfl⟩

-- REGION cipherplanlaw02_CatalogRaw 0: 71 operations, 1 orders, L [], X false, ok true
def o_cipherplanlaw02_CatalogRaw_0 (f_catalog_Name f_cipherplanref02_Name f_catalog_Kind f_cipherplanref02_Kind f_catalog_Valid f_cipherplanref02_Valid f_catalog_Strength f_cipherplanref02_Strength f_catalog_Text f_cipherplanref02_Text f_catalog_Find f_cipherplanref02_Find f_catalog_Code f_cipherplanref02_Code : Nat) : List AO :=
  [⟨(some 44), .load true 2 (.t 8), none⟩,
    ⟨(some 45), .load true 2 (.t 10), none⟩,
    ⟨(some 46), .eqagg true [0, 0] (.t 44) (.t 45), none⟩,
    ⟨(some 47), .mov (.t 46), none⟩,
    ⟨(some 48), .mov (.t 9), (some (47, false))⟩,
    ⟨(some 49), .mov (.t 11), (some (47, false))⟩,
    ⟨(some 50), .bin .neq (.t 48) (.t 49), (some (47, false))⟩,
    ⟨(some 51), .pick (.t 47) (.c (V.bool true)) (.t 50), none⟩,
    ⟨(some 52), .mov (.t 51), none⟩,
    ⟨(some 53), .load true 12 (.t 12), (some (52, false))⟩,
    ⟨(some 54), .load true 12 (.t 14), (some (52, false))⟩,
    ⟨(some 55), .eqagg true [0, 1, 0, 0, 0, 0, 0, 0, 0, 0, 0, 0] (.t 53) (.t 54), (some (52, false))⟩,
    ⟨(some 56), .pick (.t 52) (.c (V.bool true)) (.t 55), none⟩,
    ⟨(some 57), .mov (.t 56), none⟩,
    ⟨(some 58), .mov (.t 13), (some (57, false))⟩,
    ⟨(some 59), .mov (.t 15), (some (57, false))⟩,
    ⟨(some 60), .bin .neq (.t 58) (.t 59), (some (57, false))⟩,
    ⟨(some 61), .pick (.t 57) (.c (V.bool true)) (.t 60), none⟩,
    ⟨(some 62), .mov (.t 61), none⟩,
    ⟨(some 63), .faddr 0 (.t 3), (some (62, false))⟩,
    ⟨(some 64), .load false 1 (.t 63), (some (62, false))⟩,
    ⟨(some 65), .call f_catalog_Name [(.t 64)], (some (62, false))⟩,
    ⟨(some 66), .faddr 0 (.t 3), (some (62, false))⟩,
    ⟨(some 67), .load false 1 (.t 66), (some (62, false))⟩,
    ⟨(some 68), .call f_cipherplanref02_Name [(.t 67)], (some (62, false))⟩,
    ⟨(some 69), .bin .neq (.t 65) (.t 68), (some (62, false))⟩,
    ⟨(some 70), .pick (.t 62) (.c (V.bool true)) (.t 69), none⟩,
    ⟨(some 71), .mov (.t 70), none⟩,
    ⟨(some 72), .faddr 0 (.t 3), (some (71, false))⟩,
    ⟨(some 73), .load false 1 (.t 72), (some (71, false))⟩,
    ⟨(some 74), .call f_catalog_Kind [(.t 73)], (some (71, false))⟩,
    ⟨(some 75), .faddr 0 (.t 3), (some (71, false))⟩,
    ⟨(some 76), .load false 1 (.t 75), (some (71, false))⟩,
    ⟨(some 77), .call f_cipherplanref02_Kind [(.t 76)], (some (71, false))⟩,
    ⟨(some 78), .bin .neq (.t 74) (.t 77), (some (71, false))⟩,
    ⟨(some 79), .pick (.t 71) (.c (V.bool true)) (.t 78), none⟩,
    ⟨(some 80), .mov (.t 79), none⟩,
    ⟨(some 81), .load true 2 (.t 3), (some (80, false))⟩,
    ⟨(some 82), .call f_catalog_Valid [(.t 81)], (some (80, false))⟩,
    ⟨(some 83), .load true 2 (.t 3), (some (80, false))⟩,
    ⟨(some 84), .call f_cipherplanref02_Valid [(.t 83)], (some (80, false))⟩,
    ⟨(some 85), .eqb true (.t 82) (.t 84), (some (80, false))⟩,
    ⟨(some 86), .pick (.t 80) (.c (V.bool true)) (.t 85), none⟩,
    ⟨(some 87), .mov (.t 86), none⟩,
    ⟨(some 88), .load true 2 (.t 3), (some (87, false))⟩,
    ⟨(some 89), .call f_catalog_Strength [(.t 88)], (some (87, false))⟩,
    ⟨(some 90), .load true 2 (.t 3), (some (87, false))⟩,
    ⟨(some 91), .call f_cipherplanref02_Strength [(.t 90)], (some (87, false))⟩,
    ⟨(some 92), .bin .neq (.t 89) (.t 91), (some (87, false))⟩,
    ⟨(some 93), .pick (.t 87) (.c (V.bool true)) (.t 92), none⟩,
    ⟨(some 94), .mov (.t 93), none⟩,
    ⟨(some 95), .load true 2 (.t 3), (some (94, false))⟩,
    ⟨(some 96), .call f_catalog_Text [(.t 95)], (some (94, false))⟩,
    ⟨(some 97), .load true 2 (.t 3), (some (94, false))⟩,
    ⟨(some 98), .call f_cipherplanref02_Text [(.t 97)], (some (94, false))⟩,
    ⟨(some 99), .bin .neq (.t 96) (.t 98), (some (94, false))⟩,
    ⟨(some 100), .pick (.t 94) (.c (V.bool true)) (.t 99), none⟩,
    ⟨(some 101), .mov (.t 100), none⟩,
    ⟨(some 102), .mov (.t 1), (some (101, false))⟩,
    ⟨(some 103), .call f_catalog_Find [(.t 102)], (some (101, false))⟩,
    ⟨(some 104), .mov (.t 1), (some (101, false))⟩,
    ⟨(some 105), .call f_cipherplanref02_Find [(.t 104)], (some (101, false))⟩,
    ⟨(some 106), .bin .neq (.t 103) (.t 105), (some (101, false))⟩,
    ⟨(some 107), .pick (.t 101) (.c (V.bool true)) (.t 106), none⟩,
    ⟨(some 108), .mov (.t 107), none⟩,
    ⟨(some 109), .mov (.t 1), (some (108, false))⟩,
    ⟨(some 110), .call f_catalog_Code [(.t 109)], (some (108, false))⟩,
    ⟨(some 111), .mov (.t 1), (some (108, false))⟩,
    ⟨(some 112), .call f_cipherplanref02_Code [(.t 111)], (some (108, false))⟩,
    ⟨(some 113), .bin .neq (.t 110) (.t 112), (some (108, false))⟩,
    ⟨(some 114), .pick (.t 108) (.c (V.bool true)) (.t 113), none⟩]
def a_cipherplanlaw02_CatalogRaw_0 : List (List Nat) := [[], [], [0, 1], [2], [3], [3], [4, 5, 3], [3, 6], [7, 3], [8], [8], [9, 10, 8], [8, 11], [12, 8], [13], [13], [14, 15, 13], [13, 16], [17, 13], [18], [19, 18], [20, 18, 18], [18], [22, 18], [23, 21, 18], [21, 24, 18], [18, 25], [26, 24], [27], [28, 27], [29, 27, 27], [27], [31, 27], [32, 30, 27], [30, 33, 27], [27, 34], [35, 33], [36], [37, 36, 36], [36], [39, 38, 36], [38, 40, 36], [36, 41], [42, 40], [43], [44, 43, 43], [43], [46, 45, 43], [45, 47, 43], [43, 48], [49, 47], [50], [51, 50, 50], [50], [53, 52, 50], [52, 54, 50], [50, 55], [56, 54], [57], [58, 57, 57], [57], [60, 59, 57], [59, 61, 57], [57, 62], [63, 61], [64], [65, 64, 64], [64], [67, 66, 64], [66, 68, 64], [64, 69]]
def t_cipherplanlaw02_CatalogRaw_0 : OT := .one 0 (.one 1 (.one 2 (.one 3 (.one 4 (.one 5 (.one 6 (.one 7 (.one 8 (.one 9 (.one 10 (.one 11 (.one 12 (.one 13 (.one 14 (.one 15 (.one 16 (.one 17 (.one 18 (.one 19 (.one 20 (.one 22 (.one 23 (.or 21 (.or 24 (.one 25 (.one 26 (.one 27 (.one 28 (.one 29 (.one 31 (.one 32 (.or 30 (.or 33 (.one 34 (.one 35 (.one 36 (.one 37 (.one 39 (.or 38 (.or 40 (.one 41 (.one 42 (.one 43 (.one 44 (.one 46 (.or 45 (.or 47 (.one 48 (.one 49 (.one 50 (.one 51 (.one 53 (.or 52 (.or 54 (.one 55 (.one 56 (.one 57 (.one 58 (.one 60 (.or 59 (.or 61 (.one 62 (.one 63 (.one 64 (.one 65 (.one 67 (.or 66 (.or 68 (.one 69 (.one 70 (.done))) (.done)) (.done))))))) (.done)) (.done))))))) (.done)) (.done))))))) (.done)) (.done))))))) (.done)) (.done))))))) (.done)) (.done))))))))) (.done)) (.done))))))))))))))))))))))))
def p_cipherplanlaw02_CatalogRaw_0 (f_catalog_Name f_cipherplanref02_Name f_catalog_Kind f_cipherplanref02_Kind f_catalog_Valid f_cipherplanref02_Valid f_catalog_Strength f_cipherplanref02_Strength f_catalog_Text f_cipherplanref02_Text f_catalog_Find f_cipherplanref02_Find f_catalog_Code f_cipherplanref02_Code : Nat) : OP :=
  .one 0 false [] ⟨(some 44), .load true 2 (.t 8), none⟩
  (.one 1 false [] ⟨(some 45), .load true 2 (.t 10), none⟩
  (.one 2 false [] ⟨(some 46), .eqagg true [0, 0] (.t 44) (.t 45), none⟩
  (.one 3 false [] ⟨(some 47), .mov (.t 46), none⟩
  (.one 4 false [] ⟨(some 48), .mov (.t 9), (some (47, false))⟩
  (.one 5 false [] ⟨(some 49), .mov (.t 11), (some (47, false))⟩
  (.one 6 false [] ⟨(some 50), .bin .neq (.t 48) (.t 49), (some (47, false))⟩
  (.one 7 false [] ⟨(some 51), .pick (.t 47) (.c (V.bool true)) (.t 50), none⟩
  (.one 8 false [] ⟨(some 52), .mov (.t 51), none⟩
  (.one 9 false [] ⟨(some 53), .load true 12 (.t 12), (some (52, false))⟩
  (.one 10 false [] ⟨(some 54), .load true 12 (.t 14), (some (52, false))⟩
  (.one 11 false [] ⟨(some 55), .eqagg true [0, 1, 0, 0, 0, 0, 0, 0, 0, 0, 0, 0] (.t 53) (.t 54), (some (52, false))⟩
  (.one 12 false [] ⟨(some 56), .pick (.t 52) (.c (V.bool true)) (.t 55), none⟩
  (.one 13 false [] ⟨(some 57), .mov (.t 56), none⟩
  (.one 14 false [] ⟨(some 58), .mov (.t 13), (some (57, false))⟩
  (.one 15 false [] ⟨(some 59), .mov (.t 15), (some (57, false))⟩
  (.one 16 false [] ⟨(some 60), .bin .neq (.t 58) (.t 59), (some (57, false))⟩
  (.one 17 false [] ⟨(some 61), .pick (.t 57) (.c (V.bool true)) (.t 60), none⟩
  (.one 18 false [] ⟨(some 62), .mov (.t 61), none⟩
  (.one 19 false [] ⟨(some 63), .faddr 0 (.t 3), (some (62, false))⟩
  (.one 20 false [] ⟨(some 64), .load false 1 (.t 63), (some (62, false))⟩
  (.one 22 false [] ⟨(some 66), .faddr 0 (.t 3), (some (62, false))⟩
  (.one 23 false [] ⟨(some 67), .load false 1 (.t 66), (some (62, false))⟩
  (.or 21 false [] ⟨(some 65), .call f_catalog_Name [(.t 64)], (some (62, false))⟩
  (.or 24 false [] ⟨(some 68), .call f_cipherplanref02_Name [(.t 67)], (some (62, false))⟩
   (.one 25 false [24, 21] ⟨(some 69), .bin .neq (.t 65) (.t 68), (some (62, false))⟩
    (.one 26 false [24, 21] ⟨(some 70), .pick (.t 62) (.c (V.bool true)) (.t 69), none⟩
    (.one 27 false [24, 21] ⟨(some 71), .mov (.t 70), none⟩
    (.one 28 false [24, 21] ⟨(some 72), .faddr 0 (.t 3), (some (71, false))⟩
    (.one 29 false [24, 21] ⟨(some 73), .load false 1 (.t 72), (some (71, false))⟩
    (.one 31 false [24, 21] ⟨(some 75), .faddr 0 (.t 3), (some (71, false))⟩
    (.one 32 false [24, 21] ⟨(some 76), .load false 1 (.t 75), (some (71, false))⟩
    (.or 30 false [24, 21] ⟨(some 74), .call f_catalog_Kind [(.t 73)], (some (71, false))⟩
    (.or 33 false [24, 21] ⟨(some 77), .call f_cipherplanref02_Kind [(.t 76)], (some (71, false))⟩
     (.one 34 false [33, 24, 21, 30] ⟨(some 78), .bin .neq (.t 74) (.t 77), (some (71, false))⟩
      (.one 35 false [33, 24, 21, 30] ⟨(some 79), .pick (.t 71) (.c (V.bool true)) (.t 78), none⟩
      (.one 36 false [33, 24, 21, 30] ⟨(some 80), .mov (.t 79), none⟩
      (.one 37 false [33, 24, 21, 30] ⟨(some 81), .load true 2 (.t 3), (some (80, false))⟩
      (.one 39 false [33, 24, 21, 30] ⟨(some 83), .load true 2 (.t 3), (some (80, false))⟩
      (.or 38 false [33, 24, 21, 30] ⟨(some 82), .call f_catalog_Valid [(.t 81)], (some (80, false))⟩
      (.or 40 false [33, 24, 21, 30] ⟨(some 84), .call f_cipherplanref02_Valid [(.t 83)], (some (80, false))⟩
       (.one 41 false [40, 33, 24, 21, 30, 38] ⟨(some 85), .eqb true (.t 82) (.t 84), (some (80, false))⟩
        (.one 42 false [40, 33, 24, 21, 30, 38] ⟨(some 86), .pick (.t 80) (.c (V.bool true)) (.t 85), none⟩
        (.one 43 false [40, 33, 24, 21, 30, 38] ⟨(some 87), .mov (.t 86), none⟩
        (.one 44 false [40, 33, 24, 21, 30, 38] ⟨(some 88), .load true 2 (.t 3), (some (87, false))⟩
        (.one 46 false [40, 33, 24, 21, 30, 38] ⟨(some 90), .load true 2 (.t 3), (some (87, false))⟩
        (.or 45 false [40, 33, 24, 21, 30, 38] ⟨(some 89), .call f_catalog_Strength [(.t 88)], (some (87, false))⟩
        (.or 47 false [40, 33, 24, 21, 30, 38] ⟨(some 91), .call f_cipherplanref02_Strength [(.t 90)], (some (87, false))⟩
         (.one 48 false [47, 40, 33, 24, 21, 30, 38, 45] ⟨(some 92), .bin .neq (.t 89) (.t 91), (some (87, false))⟩
          (.one 49 false [47, 40, 33, 24, 21, 30, 38, 45] ⟨(some 93), .pick (.t 87) (.c (V.bool true)) (.t 92), none⟩
          (.one 50 false [47, 40, 33, 24, 21, 30, 38, 45] ⟨(some 94), .mov (.t 93), none⟩
          (.one 51 false [47, 40, 33, 24, 21, 30, 38, 45] ⟨(some 95), .load true 2 (.t 3), (some (94, false))⟩
          (.one 53 false [47, 40, 33, 24, 21, 30, 38, 45] ⟨(some 97), .load true 2 (.t 3), (some (94, false))⟩
          (.or 52 false [47, 40, 33, 24, 21, 30, 38, 45] ⟨(some 96), .call f_catalog_Text [(.t 95)], (some (94, false))⟩
          (.or 54 false [47, 40, 33, 24, 21, 30, 38, 45] ⟨(some 98), .call f_cipherplanref02_Text [(.t 97)], (some (94, false))⟩
           (.one 55 false [54, 47, 40, 33, 24, 21, 30, 38, 45, 52] ⟨(some 99), .bin .neq (.t 96) (.t 98), (some (94, false))⟩
            (.one 56 false [54, 47, 40, 33, 24, 21, 30, 38, 45, 52] ⟨(some 100), .pick (.t 94) (.c (V.bool true)) (.t 99), none⟩
            (.one 57 false [54, 47, 40, 33, 24, 21, 30, 38, 45, 52] ⟨(some 101), .mov (.t 100), none⟩
            (.one 58 false [54, 47, 40, 33, 24, 21, 30, 38, 45, 52] ⟨(some 102), .mov (.t 1), (some (101, false))⟩
            (.one 60 false [54, 47, 40, 33, 24, 21, 30, 38, 45, 52] ⟨(some 104), .mov (.t 1), (some (101, false))⟩
            (.or 59 false [54, 47, 40, 33, 24, 21, 30, 38, 45, 52] ⟨(some 103), .call f_catalog_Find [(.t 102)], (some (101, false))⟩
            (.or 61 false [54, 47, 40, 33, 24, 21, 30, 38, 45, 52] ⟨(some 105), .call f_cipherplanref02_Find [(.t 104)], (some (101, false))⟩
             (.one 62 false [61, 54, 47, 40, 33, 24, 21, 30, 38, 45, 52, 59] ⟨(some 106), .bin .neq (.t 103) (.t 105), (some (101, false))⟩
              (.one 63 false [61, 54, 47, 40, 33, 24, 21, 30, 38, 45, 52, 59] ⟨(some 107), .pick (.t 101) (.c (V.bool true)) (.t 106), none⟩
              (.one 64 false [61, 54, 47, 40, 33, 24, 21, 30, 38, 45, 52, 59] ⟨(some 108), .mov (.t 107), none⟩
              (.one 65 false [61, 54, 47, 40, 33, 24, 21, 30, 38, 45, 52, 59] ⟨(some 109), .mov (.t 1), (some (108, false))⟩
              (.one 67 false [61, 54, 47, 40, 33, 24, 21, 30, 38, 45, 52, 59] ⟨(some 111), .mov (.t 1), (some (108, false))⟩
              (.or 66 false [61, 54, 47, 40, 33, 24, 21, 30, 38, 45, 52, 59] ⟨(some 110), .call f_catalog_Code [(.t 109)], (some (108, false))⟩
              (.or 68 false [61, 54, 47, 40, 33, 24, 21, 30, 38, 45, 52, 59] ⟨(some 112), .call f_cipherplanref02_Code [(.t 111)], (some (108, false))⟩
               (.one 69 false [68, 61, 54, 47, 40, 33, 24, 21, 30, 38, 45, 52, 59, 66] ⟨(some 113), .bin .neq (.t 110) (.t 112), (some (108, false))⟩
                (.one 70 false [68, 61, 54, 47, 40, 33, 24, 21, 30, 38, 45, 52, 59, 66] ⟨(some 114), .pick (.t 108) (.c (V.bool true)) (.t 113), none⟩
                (.done)))
               (.done))
              (.done)))))))
             (.done))
            (.done)))))))
           (.done))
          (.done)))))))
         (.done))
        (.done)))))))
       (.done))
      (.done)))))))
     (.done))
    (.done)))))))))
   (.done))
  (.done))))))))))))))))))))))))
theorem k_cipherplanlaw02_CatalogRaw_0 (f_catalog_Name f_cipherplanref02_Name f_catalog_Kind f_cipherplanref02_Kind f_catalog_Valid f_cipherplanref02_Valid f_catalog_Strength f_cipherplanref02_Strength f_catalog_Text f_cipherplanref02_Text f_catalog_Find f_cipherplanref02_Find f_catalog_Code f_cipherplanref02_Code : Nat) : okR (o_cipherplanlaw02_CatalogRaw_0 f_catalog_Name f_cipherplanref02_Name f_catalog_Kind f_cipherplanref02_Kind f_catalog_Valid f_cipherplanref02_Valid f_catalog_Strength f_cipherplanref02_Strength f_catalog_Text f_cipherplanref02_Text f_catalog_Find f_cipherplanref02_Find f_catalog_Code f_cipherplanref02_Code) a_cipherplanlaw02_CatalogRaw_0 [] t_cipherplanlaw02_CatalogRaw_0 = true := by kernel_rfl
theorem q_cipherplanlaw02_CatalogRaw_0 (f_catalog_Name f_cipherplanref02_Name f_catalog_Kind f_cipherplanref02_Kind f_catalog_Valid f_cipherplanref02_Valid f_catalog_Strength f_cipherplanref02_Strength f_catalog_Text f_cipherplanref02_Text f_catalog_Find f_cipherplanref02_Find f_catalog_Code f_cipherplanref02_Code : Nat) : plan (ris (o_cipherplanlaw02_CatalogRaw_0 f_catalog_Name f_cipherplanref02_Name f_catalog_Kind f_cipherplanref02_Kind f_catalog_Valid f_cipherplanref02_Valid f_catalog_Strength f_cipherplanref02_Strength f_catalog_Text f_cipherplanref02_Text f_catalog_Find f_cipherplanref02_Find f_catalog_Code f_cipherplanref02_Code) a_cipherplanlaw02_CatalogRaw_0 []) t_cipherplanlaw02_CatalogRaw_0 = p_cipherplanlaw02_CatalogRaw_0 f_catalog_Name f_cipherplanref02_Name f_catalog_Kind f_cipherplanref02_Kind f_catalog_Valid f_cipherplanref02_Valid f_catalog_Strength f_cipherplanref02_Strength f_catalog_Text f_cipherplanref02_Text f_catalog_Find f_cipherplanref02_Find f_catalog_Code f_cipherplanref02_Code := by kernel_rfl

-- REGION cipherplanlaw02_CatalogRaw 1: 16 operations, 2 orders, L [1, 5], X true, ok true
def o_cipherplanlaw02_CatalogRaw_1 (f_cipherplanmake_Mod : Nat) : List AO :=
  [⟨(some 115), .faddr 0 (.t 3), none⟩,
    ⟨(some 116), .load false 1 (.t 115), none⟩,
    ⟨(some 117), .call f_cipherplanmake_Mod [(.t 116), (.c (V.int 26))], none⟩,
    ⟨(some 118), .bin .sub (.t 117) (.c (V.int 1)), none⟩,
    ⟨(some 119), .faddr 1 (.t 3), none⟩,
    ⟨(some 120), .load false 1 (.t 119), none⟩,
    ⟨(some 121), .call f_cipherplanmake_Mod [(.t 120), (.c (V.int 16387))], none⟩,
    ⟨(some 122), .bin .sub (.t 121) (.c (V.int 1)), none⟩,
    ⟨(some 123), .mov (.t 2), none⟩,
    ⟨(some 124), .call f_cipherplanmake_Mod [(.t 123), (.c (V.int 20))], none⟩,
    ⟨(some 125), .bin .sub (.t 124) (.c (V.int 1)), none⟩,
    ⟨(some 126), .faddr 0 (.t 3), none⟩,
    ⟨none, .store 1 (.t 126) (.t 118), none⟩,
    ⟨(some 127), .faddr 1 (.t 3), none⟩,
    ⟨none, .store 1 (.t 127) (.t 122), none⟩,
    ⟨(some 2), .mov (.t 125), none⟩]
def a_cipherplanlaw02_CatalogRaw_1 : List (List Nat) := [[], [0], [1], [2], [], [4], [5, 2], [6], [], [8, 6], [9], [0, 1, 2, 3, 4, 5], [11, 3, 9, 0, 1, 2, 3, 4, 5], [0, 1, 2, 3, 4, 5, 6, 7, 11, 12], [13, 7, 12, 0, 1, 2, 3, 4, 5, 6, 7, 11, 12], [10, 14, 0, 1, 2, 3, 4, 5, 6, 7, 8, 9, 10, 11, 12, 13, 14]]
def t_cipherplanlaw02_CatalogRaw_1 : OT := .one 0 (.one 4 (.one 8 (.or 1 (.one 2 (.one 3 (.one 5 (.one 6 (.one 7 (.one 9 (.one 10 (.one 11 (.one 12 (.one 13 (.one 14 (.one 15 (.done))))))))))))) (.or 5 (.one 1 (.one 2 (.one 3 (.one 6 (.one 7 (.one 9 (.one 10 (.one 11 (.one 12 (.one 13 (.one 14 (.one 15 (.done))))))))))))) (.done)))))
def p_cipherplanlaw02_CatalogRaw_1 (f_cipherplanmake_Mod : Nat) : OP :=
  .one 0 false [] ⟨(some 115), .faddr 0 (.t 3), none⟩
  (.one 4 false [] ⟨(some 119), .faddr 1 (.t 3), none⟩
  (.one 8 false [] ⟨(some 123), .mov (.t 2), none⟩
  (.or 1 true [] ⟨(some 116), .load false 1 (.t 115), none⟩
  (.one 2 false [] ⟨(some 117), .call f_cipherplanmake_Mod [(.t 116), (.c (V.int 26))], none⟩
   (.one 3 false [2] ⟨(some 118), .bin .sub (.t 117) (.c (V.int 1)), none⟩
   (.one 5 true [] ⟨(some 120), .load false 1 (.t 119), none⟩
   (.one 6 false [] ⟨(some 121), .call f_cipherplanmake_Mod [(.t 120), (.c (V.int 16387))], none⟩
   (.one 7 false [6] ⟨(some 122), .bin .sub (.t 121) (.c (V.int 1)), none⟩
   (.one 9 false [] ⟨(some 124), .call f_cipherplanmake_Mod [(.t 123), (.c (V.int 20))], none⟩
   (.one 10 false [9] ⟨(some 125), .bin .sub (.t 124) (.c (V.int 1)), none⟩
   (.one 11 false [] ⟨(some 126), .faddr 0 (.t 3), none⟩
   (.one 12 true [2] ⟨none, .store 1 (.t 126) (.t 118), none⟩
   (.one 13 false [] ⟨(some 127), .faddr 1 (.t 3), none⟩
   (.one 14 true [6] ⟨none, .store 1 (.t 127) (.t 122), none⟩
   (.one 15 false [9] ⟨(some 2), .mov (.t 125), none⟩
   (.done)))))))))))))
  (.or 5 true [] ⟨(some 120), .load false 1 (.t 119), none⟩
  (.one 1 true [] ⟨(some 116), .load false 1 (.t 115), none⟩
   (.one 2 false [] ⟨(some 117), .call f_cipherplanmake_Mod [(.t 116), (.c (V.int 26))], none⟩
   (.one 3 false [2] ⟨(some 118), .bin .sub (.t 117) (.c (V.int 1)), none⟩
   (.one 6 false [] ⟨(some 121), .call f_cipherplanmake_Mod [(.t 120), (.c (V.int 16387))], none⟩
   (.one 7 false [6] ⟨(some 122), .bin .sub (.t 121) (.c (V.int 1)), none⟩
   (.one 9 false [] ⟨(some 124), .call f_cipherplanmake_Mod [(.t 123), (.c (V.int 20))], none⟩
   (.one 10 false [9] ⟨(some 125), .bin .sub (.t 124) (.c (V.int 1)), none⟩
   (.one 11 false [] ⟨(some 126), .faddr 0 (.t 3), none⟩
   (.one 12 true [2] ⟨none, .store 1 (.t 126) (.t 118), none⟩
   (.one 13 false [] ⟨(some 127), .faddr 1 (.t 3), none⟩
   (.one 14 true [6] ⟨none, .store 1 (.t 127) (.t 122), none⟩
   (.one 15 false [9] ⟨(some 2), .mov (.t 125), none⟩
   (.done)))))))))))))
  (.done)))))
theorem k_cipherplanlaw02_CatalogRaw_1 (f_cipherplanmake_Mod : Nat) : okR (o_cipherplanlaw02_CatalogRaw_1 f_cipherplanmake_Mod) a_cipherplanlaw02_CatalogRaw_1 [1, 5] t_cipherplanlaw02_CatalogRaw_1 = true := by kernel_rfl
theorem q_cipherplanlaw02_CatalogRaw_1 (f_cipherplanmake_Mod : Nat) : plan (ris (o_cipherplanlaw02_CatalogRaw_1 f_cipherplanmake_Mod) a_cipherplanlaw02_CatalogRaw_1 [1, 5]) t_cipherplanlaw02_CatalogRaw_1 = p_cipherplanlaw02_CatalogRaw_1 f_cipherplanmake_Mod := by kernel_rfl

def c_cipherplanlaw02_CatalogRaw (f_cipherplanlaw02_awake f_catalog_Parse f_cipherplanref02_Parse f_catalog_Suite f_cipherplanref02_Suite f_catalog_Name f_cipherplanref02_Name f_catalog_Kind f_cipherplanref02_Kind f_catalog_Valid f_cipherplanref02_Valid f_catalog_Strength f_cipherplanref02_Strength f_catalog_Text f_cipherplanref02_Text f_catalog_Find f_cipherplanref02_Find f_catalog_Code f_cipherplanref02_Code f_cipherplanmake_Mod : Nat) : AC :=
  seqK [1, 2, 3] (.reg [⟨(some 3), .box true 2 (.t 0), none⟩,
     ⟨(some 6), .mov (.c (V.bool false)), none⟩])
  (seqK [1, 2, 3] (seqK [1, 2, 3, 18] (.reg [⟨(some 16), .mov (.t 1), none⟩,
       ⟨(some 17), .lenS (.t 16), none⟩,
       ⟨(some 18), .bin .gtr (.t 17) (.c (V.int 200)), none⟩])
    (.cond (.t 18)
      (seqK [6] (.reg [⟨(some 19), .call f_cipherplanlaw02_awake [], none⟩,
          ⟨(some 6), .mov (.t 19), none⟩])
       (.ret))
      (.skip)))
   (seqK [] (seqK [1, 2, 3, 7] (.reg [⟨(some 7), .mov (.c (V.int 0)), none⟩])
     (.block 0 (loopK [1, 2, 3, 7] (seqK [1, 2, 3, 7] (seqK [1, 2, 3, 7, 21] (.reg [⟨(some 20), .mov (.t 7), none⟩,
            ⟨(some 21), .bin .lss (.t 20) (.c (V.int 2)), none⟩])
         (.cond (.t 21)
           (.skip)
           (.exit 0)))
        (seqK [1, 2, 3, 7] (.block 1 (seqK [1, 2, 3, 7, 8, 9] (.reg [⟨(some 25), .mov (.t 1), none⟩,
              ⟨(some 26), .call f_catalog_Parse [(.t 25)], none⟩,
              ⟨(some 24), .mov (.t 26), none⟩,
              ⟨(some 27), .ext (.t 24) 0, none⟩,
              ⟨(some 28), .ext (.t 24) 1, none⟩,
              ⟨(some 8), .alloc [.val (.int .i64 0), .val (.int .i64 0)], none⟩,
              ⟨none, .store 2 (.t 8) (.t 27), none⟩,
              ⟨(some 9), .mov (.t 28), none⟩])
           (seqK [1, 2, 3, 7, 8, 9, 10, 11] (.reg [⟨(some 30), .mov (.t 1), none⟩,
               ⟨(some 31), .call f_cipherplanref02_Parse [(.t 30)], none⟩,
               ⟨(some 29), .mov (.t 31), none⟩,
               ⟨(some 32), .ext (.t 29) 0, none⟩,
               ⟨(some 33), .ext (.t 29) 1, none⟩,
               ⟨(some 10), .alloc [.val (.int .i64 0), .val (.int .i64 0)], none⟩,
               ⟨none, .store 2 (.t 10) (.t 32), none⟩,
               ⟨(some 11), .mov (.t 33), none⟩])
            (seqK [1, 2, 3, 7, 8, 9, 10, 11, 12, 13] (.reg [⟨(some 35), .mov (.t 2), none⟩,
                ⟨(some 36), .call f_catalog_Suite [(.t 35)], none⟩,
                ⟨(some 34), .mov (.t 36), none⟩,
                ⟨(some 37), .ext (.t 34) 0, none⟩,
                ⟨(some 38), .ext (.t 34) 1, none⟩,
                ⟨(some 12), .alloc [.val (.int .i64 0), .val (.string ⟨#[]⟩), .val (.int .i64 0), .val (.int .i64 0), .val (.int .i64 0), .val (.int .i64 0), .val (.int .i64 0), .val (.int .i64 0), .val (.int .i64 0), .val (.int .i64 0), .val (.int .i64 0), .val (.int .i64 0)], none⟩,
                ⟨none, .store 12 (.t 12) (.t 37), none⟩,
                ⟨(some 13), .mov (.t 38), none⟩])
             (seqK [1, 2, 3, 7, 8, 9, 10, 11, 12, 13, 14, 15] (.reg [⟨(some 40), .mov (.t 2), none⟩,
                 ⟨(some 41), .call f_cipherplanref02_Suite [(.t 40)], none⟩,
                 ⟨(some 39), .mov (.t 41), none⟩,
                 ⟨(some 42), .ext (.t 39) 0, none⟩,
                 ⟨(some 43), .ext (.t 39) 1, none⟩,
                 ⟨(some 14), .alloc [.val (.int .i64 0), .val (.string ⟨#[]⟩), .val (.int .i64 0), .val (.int .i64 0), .val (.int .i64 0), .val (.int .i64 0), .val (.int .i64 0), .val (.int .i64 0), .val (.int .i64 0), .val (.int .i64 0), .val (.int .i64 0), .val (.int .i64 0)], none⟩,
                 ⟨none, .store 12 (.t 14) (.t 42), none⟩,
                 ⟨(some 15), .mov (.t 43), none⟩])
              (seqK [1, 2, 3, 7] (seqK [1, 2, 3, 7, 114] (regK [] t_cipherplanlaw02_CatalogRaw_0 (p_cipherplanlaw02_CatalogRaw_0 f_catalog_Name f_cipherplanref02_Name f_catalog_Kind f_cipherplanref02_Kind f_catalog_Valid f_cipherplanref02_Valid f_catalog_Strength f_cipherplanref02_Strength f_catalog_Text f_cipherplanref02_Text f_catalog_Find f_cipherplanref02_Find f_catalog_Code f_cipherplanref02_Code) (o_cipherplanlaw02_CatalogRaw_0 f_catalog_Name f_cipherplanref02_Name f_catalog_Kind f_cipherplanref02_Kind f_catalog_Valid f_cipherplanref02_Valid f_catalog_Strength f_cipherplanref02_Strength f_catalog_Text f_cipherplanref02_Text f_catalog_Find f_cipherplanref02_Find f_catalog_Code f_cipherplanref02_Code) a_cipherplanlaw02_CatalogRaw_0)
                (.cond (.t 114)
                  (seqK [6] (.reg [⟨(some 6), .mov (.c (V.bool false)), none⟩])
                   (.ret))
                  (.skip)))
               (regK [1, 5] t_cipherplanlaw02_CatalogRaw_1 (p_cipherplanlaw02_CatalogRaw_1 f_cipherplanmake_Mod) (o_cipherplanlaw02_CatalogRaw_1 f_cipherplanmake_Mod) a_cipherplanlaw02_CatalogRaw_1)))))))
         (.reg [⟨(some 22), .mov (.t 7), none⟩,
            ⟨(some 23), .bin .add (.t 22) (.c (V.int 1)), none⟩,
            ⟨(some 7), .mov (.t 23), none⟩]))))))
    (seqK [6] (.reg [⟨(some 128), .call f_cipherplanlaw02_awake [], none⟩,
        ⟨(some 6), .mov (.t 128), none⟩])
     (.ret))))

def r_cipherplanlaw02_CatalogRaw : List ARes := [.tmp 6]
def CE_cipherplanlaw02_CatalogRaw (Γ : Env) (f : Nat) : Prop := ∀ (a b : Int) (n : List UInt8) (c : Int), EvN Γ f [.agg [V.int a, V.int b], V.str n, V.int c] (V.bool true)
theorem ev_cipherplanlaw02_CatalogRaw {Γ : Env} {f f_cipherplanlaw02_awake f_catalog_Parse f_cipherplanref02_Parse f_catalog_Suite f_cipherplanref02_Suite f_catalog_Name f_cipherplanref02_Name f_catalog_Kind f_cipherplanref02_Kind f_catalog_Valid f_cipherplanref02_Valid f_catalog_Strength f_cipherplanref02_Strength f_catalog_Text f_cipherplanref02_Text f_catalog_Find f_cipherplanref02_Find f_catalog_Code f_cipherplanref02_Code f_cipherplanmake_Mod : Nat} (h : Has Γ.P f 129 (c_cipherplanlaw02_CatalogRaw f_cipherplanlaw02_awake f_catalog_Parse f_cipherplanref02_Parse f_catalog_Suite f_cipherplanref02_Suite f_catalog_Name f_cipherplanref02_Name f_catalog_Kind f_cipherplanref02_Kind f_catalog_Valid f_cipherplanref02_Valid f_catalog_Strength f_cipherplanref02_Strength f_catalog_Text f_cipherplanref02_Text f_catalog_Find f_cipherplanref02_Find f_catalog_Code f_cipherplanref02_Code f_cipherplanmake_Mod) r_cipherplanlaw02_CatalogRaw) (h_cipherplanlaw02_awake : CE_cipherplanlaw02_awake Γ f_cipherplanlaw02_awake) (h_catalog_Parse : CE_catalog_Parse Γ f_catalog_Parse) (h_cipherplanref02_Parse : CE_cipherplanref02_Parse Γ f_cipherplanref02_Parse) (h_catalog_Suite : CE_catalog_Suite Γ f_catalog_Suite) (h_cipherplanref02_Suite : CE_cipherplanref02_Suite Γ f_cipherplanref02_Suite) (h_catalog_Name : CE_catalog_Name Γ f_catalog_Name) (h_cipherplanref02_Name : CE_cipherplanref02_Name Γ f_cipherplanref02_Name) (h_catalog_Kind : CE_catalog_Kind Γ f_catalog_Kind) (h_cipherplanref02_Kind : CE_cipherplanref02_Kind Γ f_cipherplanref02_Kind) (h_catalog_Valid : CE_catalog_Valid Γ f_catalog_Valid) (h_cipherplanref02_Valid : CE_cipherplanref02_Valid Γ f_cipherplanref02_Valid) (h_catalog_Strength : CE_catalog_Strength Γ f_catalog_Strength) (h_cipherplanref02_Strength : CE_cipherplanref02_Strength Γ f_cipherplanref02_Strength) (h_catalog_Text : CE_catalog_Text Γ f_catalog_Text) (h_cipherplanref02_Text : CE_cipherplanref02_Text Γ f_cipherplanref02_Text) (h_catalog_Find : CE_catalog_Find Γ f_catalog_Find) (h_cipherplanref02_Find : CE_cipherplanref02_Find Γ f_cipherplanref02_Find) (h_catalog_Code : CE_catalog_Code Γ f_catalog_Code) (h_cipherplanref02_Code : CE_cipherplanref02_Code Γ f_cipherplanref02_Code) (h_cipherplanmake_Mod : CE_cipherplanmake_Mod Γ f_cipherplanmake_Mod) : CE_cipherplanlaw02_CatalogRaw Γ f := by
  intro a b n c
  refine evN_of_body h (by simp) (by simp only [V.closed, closedL, V.noSl, noSlL, and_self, and_true, true_and]) (by simp only [V.closed, closedL, V.noSl, noSlL, and_self, and_true, true_and]) fun C hC hm => ?_
  subst hC
  unfold c_cipherplanlaw02_CatalogRaw
  by_cases hlen : 200 < n.length
  · have e0 : decide ((n.length : Int) > 200) = true := by simp; omega
    repeat' (first
    | refine awp_seqR fun K' hK => ?_
    | refine awp_regR fun K' hK => ?_
    | refine awp_seqP 71 (fun _ => true) rfl (k_cipherplanlaw02_CatalogRaw_0 _ _ _ _ _ _ _ _ _ _ _ _ _ _) (q_cipherplanlaw02_CatalogRaw_0 _ _ _ _ _ _ _ _ _ _ _ _ _ _) fun K' hK => ?_
    | refine awp_regP 71 (fun _ => true) rfl (k_cipherplanlaw02_CatalogRaw_0 _ _ _ _ _ _ _ _ _ _ _ _ _ _) (q_cipherplanlaw02_CatalogRaw_0 _ _ _ _ _ _ _ _ _ _ _ _ _ _) fun K' hK => ?_
    | refine awp_seqP 16 (fun _ => false) rfl (k_cipherplanlaw02_CatalogRaw_1 _) (q_cipherplanlaw02_CatalogRaw_1 _) fun K' hK => ?_
    | refine awp_regP 16 (fun _ => false) rfl (k_cipherplanlaw02_CatalogRaw_1 _) (q_cipherplanlaw02_CatalogRaw_1 _) fun K' hK => ?_
    | refine awp_seqK ?_
    | refine awp_skip ?_
    | refine awp_block ?_
    | ((first | refine awp_cond ⟨_, rfl, fun hc => ?_, fun hc => ?_⟩ | refine awB_t (fun hc => ?_) (fun hc => ?_) | refine awB_f (fun hc => ?_) (fun hc => ?_)) <;> first | exact Bool.noConfusion hc | (exfalso; simp only [decide_eq_true_eq, decide_eq_false_iff_not, List.length_map, Bool.not_eq_true', Bool.not_eq_false'] at hc; omega) | (try simp only [decide_eq_true_eq, decide_eq_false_iff_not, beq_iff_eq, beq_eq_false_iff_ne, ne_eq, Bool.not_eq_true', Bool.not_eq_false'] at hc))
    | refine awp_ret ?_
    | refine awp_exit ?_
    | simp (maxSteps := 1000000) only [go_sem, Nat.reduceAdd, Nat.reduceMul, Nat.reduceEqDiff, Nat.reduceLeDiff, Nat.reduceLT, Nat.reduceSub, Int.reduceEq, Int.reduceBEq, Int.reduceLT, Int.reduceLE, Int.reduceAdd, Int.reduceToNat, reduceIte, reduceCtorEq, e0, p_cipherplanlaw02_CatalogRaw_0, p_cipherplanlaw02_CatalogRaw_1]
    | (refine hK _ ?_; clear hK; clear K')
    | refine And.intro ?_ ?_
    | ((first | apply awC_A | apply awCR_A); (focus (simp only [go_sem, Nat.reduceAdd, Nat.reduceMul, Nat.reduceEqDiff, Nat.reduceLeDiff, Nat.reduceLT, Nat.reduceSub, Int.reduceEq, Int.reduceBEq, Int.reduceLT, Int.reduceLE, Int.reduceAdd, Int.reduceToNat, reduceIte, reduceCtorEq, e0]; first | exact EvN.b h_cipherplanlaw02_awake | exact (h_catalog_Parse _ (by first | assumption | omega | simp)).b | exact (h_cipherplanref02_Parse _ (by first | assumption | omega | simp)).b | exact (h_catalog_Suite _).b | exact (h_cipherplanref02_Suite _).b | exact (h_catalog_Name _).b | exact (h_cipherplanref02_Name _).b | exact (h_catalog_Kind _).b | exact (h_cipherplanref02_Kind _).b | exact (h_catalog_Valid _ _).b | exact (h_cipherplanref02_Valid _ _).b | exact (h_catalog_Strength _ _).b | exact (h_cipherplanref02_Strength _ _).b | exact (h_catalog_Text _ _).b | exact (h_cipherplanref02_Text _ _).b | exact (h_catalog_Find _).b | exact (h_cipherplanref02_Find _).b | exact (h_catalog_Code _).b | exact (h_cipherplanref02_Code _).b | exact (h_cipherplanmake_Mod _ _).b)); (focus (simp only [go_sem, Nat.reduceAdd, Nat.reduceMul, Nat.reduceEqDiff, Nat.reduceLeDiff, Nat.reduceLT, Nat.reduceSub, Int.reduceEq, Int.reduceBEq, Int.reduceLT, Int.reduceLE, Int.reduceAdd, Int.reduceToNat, reduceIte, reduceCtorEq, e0])))
    | (simp only [List.length_append, List.length_cons, List.length_nil, List.length_map, Nat.reducePow, Nat.reduceAdd]; omega)
    | omega)
    all_goals (refine ends_r _ rfl ?_; simp only [go_sem, Nat.reduceAdd, Nat.reduceMul, Nat.reduceEqDiff, Nat.reduceLeDiff, Nat.reduceLT, Nat.reduceSub, Int.reduceEq, Int.reduceBEq, Int.reduceLT, Int.reduceLE, Int.reduceAdd, Int.reduceToNat, reduceIte, reduceCtorEq])
  · have e0 : decide ((n.length : Int) > 200) = false := by simp; omega
    have x1 := h_catalog_Parse n (by omega)
    have x2 := h_cipherplanref02_Parse n (by omega)
    rw [parse_eq] at x2
    obtain ⟨pa, pb, pe, hp⟩ := parseS_form n
    rw [hp] at x1 x2
    have en : ∀ m : Int, (m != m) = false := by simp
    have eb : ∀ m : Bool, (m != m) = false := by simp
    repeat' (first
    | refine awp_seqR fun K' hK => ?_
    | refine awp_regR fun K' hK => ?_
    | refine awp_seqP 71 (fun _ => true) rfl (k_cipherplanlaw02_CatalogRaw_0 _ _ _ _ _ _ _ _ _ _ _ _ _ _) (q_cipherplanlaw02_CatalogRaw_0 _ _ _ _ _ _ _ _ _ _ _ _ _ _) fun K' hK => ?_
    | refine awp_regP 71 (fun _ => true) rfl (k_cipherplanlaw02_CatalogRaw_0 _ _ _ _ _ _ _ _ _ _ _ _ _ _) (q_cipherplanlaw02_CatalogRaw_0 _ _ _ _ _ _ _ _ _ _ _ _ _ _) fun K' hK => ?_
    | refine awp_seqP 16 (fun _ => false) rfl (k_cipherplanlaw02_CatalogRaw_1 _) (q_cipherplanlaw02_CatalogRaw_1 _) fun K' hK => ?_
    | refine awp_regP 16 (fun _ => false) rfl (k_cipherplanlaw02_CatalogRaw_1 _) (q_cipherplanlaw02_CatalogRaw_1 _) fun K' hK => ?_
    | refine awp_seqK ?_
    | refine awp_skip ?_
    | refine awp_block ?_
    | ((first | refine awp_cond ⟨_, rfl, fun hc => ?_, fun hc => ?_⟩ | refine awB_t (fun hc => ?_) (fun hc => ?_) | refine awB_f (fun hc => ?_) (fun hc => ?_)) <;> first | exact Bool.noConfusion hc | (exfalso; simp only [decide_eq_true_eq, decide_eq_false_iff_not, List.length_map, Bool.not_eq_true', Bool.not_eq_false'] at hc; omega) | (try simp only [decide_eq_true_eq, decide_eq_false_iff_not, beq_iff_eq, beq_eq_false_iff_ne, ne_eq, Bool.not_eq_true', Bool.not_eq_false'] at hc))
    | refine awp_ret ?_
    | refine awp_exit ?_
    | simp (maxSteps := 1000000) only [go_sem, Nat.reduceAdd, Nat.reduceMul, Nat.reduceEqDiff, Nat.reduceLeDiff, Nat.reduceLT, Nat.reduceSub, Int.reduceEq, Int.reduceBEq, Int.reduceLT, Int.reduceLE, Int.reduceAdd, Int.reduceToNat, reduceIte, reduceCtorEq, e0, p_cipherplanlaw02_CatalogRaw_0, p_cipherplanlaw02_CatalogRaw_1]
    | (refine hK _ ?_; clear hK; clear K')
    | refine And.intro ?_ ?_
    | ((first | apply awC_A | apply awCR_A); (focus (simp only [go_sem, Nat.reduceAdd, Nat.reduceMul, Nat.reduceEqDiff, Nat.reduceLeDiff, Nat.reduceLT, Nat.reduceSub, Int.reduceEq, Int.reduceBEq, Int.reduceLT, Int.reduceLE, Int.reduceAdd, Int.reduceToNat, reduceIte, reduceCtorEq, e0]; first | exact EvN.b h_cipherplanlaw02_awake | exact (h_catalog_Parse _ (by first | assumption | omega | simp)).b | exact (h_cipherplanref02_Parse _ (by first | assumption | omega | simp)).b | exact (h_catalog_Suite _).b | exact (h_cipherplanref02_Suite _).b | exact (h_catalog_Name _).b | exact (h_cipherplanref02_Name _).b | exact (h_catalog_Kind _).b | exact (h_cipherplanref02_Kind _).b | exact (h_catalog_Valid _ _).b | exact (h_cipherplanref02_Valid _ _).b | exact (h_catalog_Strength _ _).b | exact (h_cipherplanref02_Strength _ _).b | exact (h_catalog_Text _ _).b | exact (h_cipherplanref02_Text _ _).b | exact (h_catalog_Find _).b | exact (h_cipherplanref02_Find _).b | exact (h_catalog_Code _).b | exact (h_cipherplanref02_Code _).b | exact (h_cipherplanmake_Mod _ _).b)); (focus (simp only [go_sem, Nat.reduceAdd, Nat.reduceMul, Nat.reduceEqDiff, Nat.reduceLeDiff, Nat.reduceLT, Nat.reduceSub, Int.reduceEq, Int.reduceBEq, Int.reduceLT, Int.reduceLE, Int.reduceAdd, Int.reduceToNat, reduceIte, reduceCtorEq, e0])))
    | (simp only [List.length_append, List.length_cons, List.length_nil, List.length_map, Nat.reducePow, Nat.reduceAdd]; omega)
    | omega)
    refine awp_loopV (ι := Nat × Int × Int × Int) (fun p => p.1 ≤ 2) (fun p => mkSt [(1, V.str n), (2, V.int p.2.2.2), (3, .ptr 0 0), (7, V.int p.1)] [(0, .box true [V.int p.2.1, V.int p.2.2.1])] 1) (fun p => 2 - p.1) (0, a, b, c) (by omega) (lookN [(0, 0)]) (weak_g _ (by simp only [Nat.reduceAdd, Nat.reduceMul, Nat.reduceEqDiff, Nat.reduceLeDiff, Nat.reduceLT, Nat.reduceSub, Int.reduceEq, Int.reduceBEq, Int.reduceLT, Int.reduceLE, Int.reduceAdd, Int.reduceToNat, reduceIte, reduceCtorEq, KK, u32, u33, u34, u35, u36, u37, u38, u39, forall_cons, forall_nil, V.ren, renL, lookN, V.lt, ltL, Ob.weak, and_true, true_and, implies_true, Option.some.injEq, exists_eq_left', closedL_ren, closed_ren]; (repeat' (first | rfl | refine And.intro ?_ ?_ | omega | exact fun h => h))) (by simp only [Nat.reduceAdd, Nat.reduceMul, Nat.reduceEqDiff, Nat.reduceLeDiff, Nat.reduceLT, Nat.reduceSub, Int.reduceEq, Int.reduceBEq, Int.reduceLT, Int.reduceLE, Int.reduceAdd, Int.reduceToNat, reduceIte, reduceCtorEq, KK, u32, u33, u34, u35, u36, u37, u38, u39, forall_cons, forall_nil, V.ren, renL, lookN, V.lt, ltL, Ob.weak, and_true, true_and, implies_true, Option.some.injEq, exists_eq_left', closedL_ren, closed_ren]; (repeat' (first | rfl | refine And.intro ?_ ?_ | omega | exact fun h => h))) (by simp) (by simp; omega) (by omega)) fun p hk K' hL => ?_
    obtain ⟨k, a, b, c⟩ := p
    simp only at hk
    have y1 := h_catalog_Suite c
    have y2 := h_cipherplanref02_Suite c
    simp only [suiteV, CSuite.v, CSuite.cells] at y1 y2
    by_cases hk2 : k < 2
    · have e1 : decide ((k : Int) < 2) = true := by simp; omega
      have hw := wrap_succ (k := k) (by omega)
      repeat' (first
    | refine awp_seqR fun K' hK => ?_
    | refine awp_regR fun K' hK => ?_
    | refine awp_seqP 71 (fun _ => true) rfl (k_cipherplanlaw02_CatalogRaw_0 _ _ _ _ _ _ _ _ _ _ _ _ _ _) (q_cipherplanlaw02_CatalogRaw_0 _ _ _ _ _ _ _ _ _ _ _ _ _ _) fun K' hK => ?_
    | refine awp_regP 71 (fun _ => true) rfl (k_cipherplanlaw02_CatalogRaw_0 _ _ _ _ _ _ _ _ _ _ _ _ _ _) (q_cipherplanlaw02_CatalogRaw_0 _ _ _ _ _ _ _ _ _ _ _ _ _ _) fun K' hK => ?_
    | refine awp_seqP 16 (fun _ => false) rfl (k_cipherplanlaw02_CatalogRaw_1 _) (q_cipherplanlaw02_CatalogRaw_1 _) fun K' hK => ?_
    | refine awp_regP 16 (fun _ => false) rfl (k_cipherplanlaw02_CatalogRaw_1 _) (q_cipherplanlaw02_CatalogRaw_1 _) fun K' hK => ?_
    | refine awp_seqK ?_
    | refine awp_skip ?_
    | refine awp_block ?_
    | ((first | refine awp_cond ⟨_, rfl, fun hc => ?_, fun hc => ?_⟩ | refine awB_t (fun hc => ?_) (fun hc => ?_) | refine awB_f (fun hc => ?_) (fun hc => ?_)) <;> first | exact Bool.noConfusion hc | (exfalso; simp only [decide_eq_true_eq, decide_eq_false_iff_not, List.length_map, Bool.not_eq_true', Bool.not_eq_false'] at hc; omega) | (try simp only [decide_eq_true_eq, decide_eq_false_iff_not, beq_iff_eq, beq_eq_false_iff_ne, ne_eq, Bool.not_eq_true', Bool.not_eq_false'] at hc))
    | refine awp_ret ?_
    | refine awp_exit ?_
    | simp (maxSteps := 1000000) only [go_sem, Nat.reduceAdd, Nat.reduceMul, Nat.reduceEqDiff, Nat.reduceLeDiff, Nat.reduceLT, Nat.reduceSub, Int.reduceEq, Int.reduceBEq, Int.reduceLT, Int.reduceLE, Int.reduceAdd, Int.reduceToNat, reduceIte, reduceCtorEq, mkSt, en, eb, e1, hw, p_cipherplanlaw02_CatalogRaw_0, p_cipherplanlaw02_CatalogRaw_1]
    | (refine hK _ ?_; clear hK; clear K')
    | refine And.intro ?_ ?_
    | ((first | apply awC_A | apply awCR_A); (focus (simp only [go_sem, Nat.reduceAdd, Nat.reduceMul, Nat.reduceEqDiff, Nat.reduceLeDiff, Nat.reduceLT, Nat.reduceSub, Int.reduceEq, Int.reduceBEq, Int.reduceLT, Int.reduceLE, Int.reduceAdd, Int.reduceToNat, reduceIte, reduceCtorEq, mkSt, en, eb, e1, hw]; first | exact x1.b | exact x2.b | exact y1.b | exact y2.b | exact EvN.b h_cipherplanlaw02_awake | exact (h_catalog_Parse _ (by first | assumption | omega | simp)).b | exact (h_cipherplanref02_Parse _ (by first | assumption | omega | simp)).b | exact (h_catalog_Suite _).b | exact (h_cipherplanref02_Suite _).b | exact (h_catalog_Name _).b | exact (h_cipherplanref02_Name _).b | exact (h_catalog_Kind _).b | exact (h_cipherplanref02_Kind _).b | exact (h_catalog_Valid _ _).b | exact (h_cipherplanref02_Valid _ _).b | exact (h_catalog_Strength _ _).b | exact (h_cipherplanref02_Strength _ _).b | exact (h_catalog_Text _ _).b | exact (h_cipherplanref02_Text _ _).b | exact (h_catalog_Find _).b | exact (h_cipherplanref02_Find _).b | exact (h_catalog_Code _).b | exact (h_cipherplanref02_Code _).b | exact (h_cipherplanmake_Mod _ _).b)); (focus (simp only [go_sem, Nat.reduceAdd, Nat.reduceMul, Nat.reduceEqDiff, Nat.reduceLeDiff, Nat.reduceLT, Nat.reduceSub, Int.reduceEq, Int.reduceBEq, Int.reduceLT, Int.reduceLE, Int.reduceAdd, Int.reduceToNat, reduceIte, reduceCtorEq, mkSt, en, eb, e1, hw])))
    | (simp only [List.length_append, List.length_cons, List.length_nil, List.length_map, Nat.reducePow, Nat.reduceAdd]; omega)
    | omega)
      all_goals refine hL _ (k + 1, IntKind.i64.wrap (modV a 26 - 1), IntKind.i64.wrap (modV b 16387 - 1), IntKind.i64.wrap (modV c 20 - 1)) (lookN []) (by show k + 1 ≤ 2; omega) (by show 2 - (k + 1) < 2 - k; omega) (weak_g [] (by simp only [Nat.reduceAdd, Nat.reduceMul, Nat.reduceEqDiff, Nat.reduceLeDiff, Nat.reduceLT, Nat.reduceSub, Int.reduceEq, Int.reduceBEq, Int.reduceLT, Int.reduceLE, Int.reduceAdd, Int.reduceToNat, reduceIte, reduceCtorEq, KK, u32, u33, u34, u35, u36, u37, u38, u39, forall_cons, forall_nil, V.ren, renL, lookN, V.lt, ltL, Ob.weak, and_true, true_and, implies_true, Option.some.injEq, exists_eq_left', closedL_ren, closed_ren]; (repeat' (first | rfl | refine And.intro ?_ ?_ | omega | exact fun h => h))) (by simp only [Nat.reduceAdd, Nat.reduceMul, Nat.reduceEqDiff, Nat.reduceLeDiff, Nat.reduceLT, Nat.reduceSub, Int.reduceEq, Int.reduceBEq, Int.reduceLT, Int.reduceLE, Int.reduceAdd, Int.reduceToNat, reduceIte, reduceCtorEq, KK, u32, u33, u34, u35, u36, u37, u38, u39, forall_cons, forall_nil, V.ren, renL, lookN, V.lt, ltL, Ob.weak, and_true, true_and, implies_true, Option.some.injEq, exists_eq_left', closedL_ren, closed_ren]; (repeat' (first | rfl | refine And.intro ?_ ?_ | omega | exact fun h => h))) (by simp) (by simp) (by omega))
    · have e1 : decide ((k : Int) < 2) = false := by simp; omega
      repeat' (first
    | refine awp_seqR fun K' hK => ?_
    | refine awp_regR fun K' hK => ?_
    | refine awp_seqP 71 (fun _ => true) rfl (k_cipherplanlaw02_CatalogRaw_0 _ _ _ _ _ _ _ _ _ _ _ _ _ _) (q_cipherplanlaw02_CatalogRaw_0 _ _ _ _ _ _ _ _ _ _ _ _ _ _) fun K' hK => ?_
    | refine awp_regP 71 (fun _ => true) rfl (k_cipherplanlaw02_CatalogRaw_0 _ _ _ _ _ _ _ _ _ _ _ _ _ _) (q_cipherplanlaw02_CatalogRaw_0 _ _ _ _ _ _ _ _ _ _ _ _ _ _) fun K' hK => ?_
    | refine awp_seqP 16 (fun _ => false) rfl (k_cipherplanlaw02_CatalogRaw_1 _) (q_cipherplanlaw02_CatalogRaw_1 _) fun K' hK => ?_
    | refine awp_regP 16 (fun _ => false) rfl (k_cipherplanlaw02_CatalogRaw_1 _) (q_cipherplanlaw02_CatalogRaw_1 _) fun K' hK => ?_
    | refine awp_seqK ?_
    | refine awp_skip ?_
    | refine awp_block ?_
    | ((first | refine awp_cond ⟨_, rfl, fun hc => ?_, fun hc => ?_⟩ | refine awB_t (fun hc => ?_) (fun hc => ?_) | refine awB_f (fun hc => ?_) (fun hc => ?_)) <;> first | exact Bool.noConfusion hc | (exfalso; simp only [decide_eq_true_eq, decide_eq_false_iff_not, List.length_map, Bool.not_eq_true', Bool.not_eq_false'] at hc; omega) | (try simp only [decide_eq_true_eq, decide_eq_false_iff_not, beq_iff_eq, beq_eq_false_iff_ne, ne_eq, Bool.not_eq_true', Bool.not_eq_false'] at hc))
    | refine awp_ret ?_
    | refine awp_exit ?_
    | simp (maxSteps := 1000000) only [go_sem, Nat.reduceAdd, Nat.reduceMul, Nat.reduceEqDiff, Nat.reduceLeDiff, Nat.reduceLT, Nat.reduceSub, Int.reduceEq, Int.reduceBEq, Int.reduceLT, Int.reduceLE, Int.reduceAdd, Int.reduceToNat, reduceIte, reduceCtorEq, mkSt, e1, p_cipherplanlaw02_CatalogRaw_0, p_cipherplanlaw02_CatalogRaw_1]
    | (refine hK _ ?_; clear hK; clear K')
    | refine And.intro ?_ ?_
    | ((first | apply awC_A | apply awCR_A); (focus (simp only [go_sem, Nat.reduceAdd, Nat.reduceMul, Nat.reduceEqDiff, Nat.reduceLeDiff, Nat.reduceLT, Nat.reduceSub, Int.reduceEq, Int.reduceBEq, Int.reduceLT, Int.reduceLE, Int.reduceAdd, Int.reduceToNat, reduceIte, reduceCtorEq, mkSt, e1]; first | exact EvN.b h_cipherplanlaw02_awake | exact (h_catalog_Parse _ (by first | assumption | omega | simp)).b | exact (h_cipherplanref02_Parse _ (by first | assumption | omega | simp)).b | exact (h_catalog_Suite _).b | exact (h_cipherplanref02_Suite _).b | exact (h_catalog_Name _).b | exact (h_cipherplanref02_Name _).b | exact (h_catalog_Kind _).b | exact (h_cipherplanref02_Kind _).b | exact (h_catalog_Valid _ _).b | exact (h_cipherplanref02_Valid _ _).b | exact (h_catalog_Strength _ _).b | exact (h_cipherplanref02_Strength _ _).b | exact (h_catalog_Text _ _).b | exact (h_cipherplanref02_Text _ _).b | exact (h_catalog_Find _).b | exact (h_cipherplanref02_Find _).b | exact (h_catalog_Code _).b | exact (h_cipherplanref02_Code _).b | exact (h_cipherplanmake_Mod _ _).b)); (focus (simp only [go_sem, Nat.reduceAdd, Nat.reduceMul, Nat.reduceEqDiff, Nat.reduceLeDiff, Nat.reduceLT, Nat.reduceSub, Int.reduceEq, Int.reduceBEq, Int.reduceLT, Int.reduceLE, Int.reduceAdd, Int.reduceToNat, reduceIte, reduceCtorEq, mkSt, e1])))
    | (simp only [List.length_append, List.length_cons, List.length_nil, List.length_map, Nat.reducePow, Nat.reduceAdd]; omega)
    | omega)
      refine ends_r _ rfl ?_; simp only [go_sem, Nat.reduceAdd, Nat.reduceMul, Nat.reduceEqDiff, Nat.reduceLeDiff, Nat.reduceLT, Nat.reduceSub, Int.reduceEq, Int.reduceBEq, Int.reduceLT, Int.reduceLE, Int.reduceAdd, Int.reduceToNat, reduceIte, reduceCtorEq]
end Av
end

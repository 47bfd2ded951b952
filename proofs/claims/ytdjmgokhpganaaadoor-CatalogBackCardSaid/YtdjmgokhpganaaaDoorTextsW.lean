/- TextsW -/
import Derived.Test.YtdjmgokhpganaaaDoorTab
import Derived.Test.YtdjmgokhpganaaaDoorDice
set_option linter.unusedVariables false
set_option linter.unusedSimpArgs false
section
set_option linter.unusedSimpArgs false
set_option linter.unusedVariables false
set_option maxRecDepth 10000
set_option maxHeartbeats 8000000
namespace Av
open Go
attribute [local irreducible] AWp runO runP runG awS awC awCv awQ awRd awCallR awCvR awQR awR awRdR awB okR plan ris

theorem sizes_valid : ∀ a ∈ ([1, 2, 3, 4, 5, 6, 7, 8, 9, 10, 11, 12, 13, 14, 15, 16, 17, 18, 19, 20, 21, 22] : List Int), ∀ b ∈ (if sizesOf a = [] then [0] else sizesOf a), 0 < strengthS a b := by decide +kernel
theorem sizes_len (a : Int) : (sizesOf a).length < 2 ^ 62 := by
  unfold sizesOf; repeat' split
  all_goals simp
theorem sizeD_valid (l : List Int) (k : Nat) (a : Int) (ha : 1 ≤ a ∧ a ≤ 22) : 0 < strengthS a (sizeD l k a).1 := by
  refine sizes_valid a (by simp only [List.mem_cons, List.not_mem_nil, or_false]; omega) _ ?_
  by_cases h : sizesOf a = []
  · rw [sizeD, if_pos h, if_pos h]; simp
  · rw [sizeD, if_neg h, if_neg h]
    exact ofD_mem h (sizes_len a)
theorem useD_valid (l : List Int) (k : Nat) : 0 < strengthS (useD l k).1.1 (useD l k).1.2 := by
  have hr := nextD_range (l := l) (k := k) (n := 22) (by omega) (by omega)
  exact sizeD_valid l (nextD l k 22).2 (1 + (nextD l k 22).1) (by omega)

abbrev u8V (c : UInt8) : V := V.sc (.int .u8 c.toNat)
theorem ex_bytes (s : List UInt8) : (∃ l : List UInt8, (s.map fun c => V.sc (.int .u8 c.toNat)) = l.map fun c => .sc (.int .u8 c.toNat)) = True := eq_true ⟨s, rfl⟩
theorem back_bytes (s : List UInt8) : (s.map fun c => V.sc (.int .u8 c.toNat)).map byteOf = s := by
  rw [List.map_map]
  conv => rhs; rw [← List.map_id s]
  apply List.map_congr_left
  intro c _; exact byteOf_nat c
theorem set_bytes (s : List UInt8) (j : Nat) (c : UInt8) : (s.map fun c => V.sc (.int .u8 c.toNat)).set j (V.sc (.int .u8 c.toNat)) = (s.set j c).map fun c => V.sc (.int .u8 c.toNat) := List.map_set.symm
theorem take_bytes (s : List UInt8) (j : Nat) : (s.map fun c => V.sc (.int .u8 c.toNat)).take j = (s.take j).map fun c => V.sc (.int .u8 c.toNat) := List.map_take.symm
theorem drop_bytes (s : List UInt8) (j : Nat) : (s.map fun c => V.sc (.int .u8 c.toNat)).drop j = (s.drop j).map fun c => V.sc (.int .u8 c.toNat) := List.map_drop.symm
theorem app_bytes (s t : List UInt8) : (s.map fun c => V.sc (.int .u8 c.toNat)) ++ (t.map fun c => V.sc (.int .u8 c.toNat)) = (s ++ t).map fun c => V.sc (.int .u8 c.toNat) := List.map_append.symm
theorem cells_bytes (s : List UInt8) : (∀ y ∈ s.map (fun c => V.sc (.int .u8 c.toNat)), y.cells.length = 1) = True := eq_true (by simp [V.cells])
theorem one_byteV (c : UInt8) : [V.sc (.int .u8 c.toNat)] = [c].map fun c => V.sc (.int .u8 c.toNat) := rfl
theorem app_one (s : List UInt8) (c : UInt8) : (s.map fun c => V.sc (.int .u8 c.toNat)) ++ [V.sc (.int .u8 c.toNat)] = (s ++ [c]).map fun c => V.sc (.int .u8 c.toNat) := by simp
theorem u8_of {w : Int} (h0 : 0 ≤ w) (h1 : w ≤ 255) : ∃ c : UInt8, w = (c.toNat : Int) := ⟨UInt8.ofNat w.toNat, by rw [UInt8.toNat_ofNat']; omega⟩
theorem text_len (a b : Int) (h : 0 < strengthS a b) : (textS a b).length ≤ 40 := by
  have hn := crow_name a
  have hb := strength_bits a b h
  have hi := Lib.itoa_length_le b (by omega) (by omega)
  rw [textS, if_pos h]
  split
  · omega
  · simp; omega

-- REGION cipherplanlaw02_CatalogTexts 0: 9 operations, 2 orders, L [2, 6], X true, ok true
def o_cipherplanlaw02_CatalogTexts_0 : List AO :=
  [⟨(some 40), .mov (.t 10), none⟩,
    ⟨(some 41), .mov (.t 11), none⟩,
    ⟨(some 42), .slsl 1 (.t 40) none (some (.t 41)), none⟩,
    ⟨(some 43), .mov (.t 10), none⟩,
    ⟨(some 44), .mov (.t 11), none⟩,
    ⟨(some 45), .bin .add (.t 44) (.c (V.int 1)), none⟩,
    ⟨(some 46), .slsl 1 (.t 43) (some (.t 45)) none, none⟩,
    ⟨(some 47), .append 1 1 [(.int .u8 0)] (.t 42) (.t 46), none⟩,
    ⟨(some 10), .mov (.t 47), none⟩]
def a_cipherplanlaw02_CatalogTexts_0 : List (List Nat) := [[], [], [0, 1], [], [], [4], [3, 5], [2, 6], [7, 7, 0, 1, 2, 3, 4, 5, 6, 7]]
def t_cipherplanlaw02_CatalogTexts_0 : OT := .one 0 (.one 1 (.one 3 (.one 4 (.one 5 (.or 2 (.one 6 (.one 7 (.one 8 (.done)))) (.or 6 (.one 2 (.one 7 (.one 8 (.done)))) (.done)))))))
def p_cipherplanlaw02_CatalogTexts_0 : OP :=
  .one 0 false [] ⟨(some 40), .mov (.t 10), none⟩
  (.one 1 false [] ⟨(some 41), .mov (.t 11), none⟩
  (.one 3 false [] ⟨(some 43), .mov (.t 10), none⟩
  (.one 4 false [] ⟨(some 44), .mov (.t 11), none⟩
  (.one 5 false [] ⟨(some 45), .bin .add (.t 44) (.c (V.int 1)), none⟩
  (.or 2 true [] ⟨(some 42), .slsl 1 (.t 40) none (some (.t 41)), none⟩
  (.one 6 true [] ⟨(some 46), .slsl 1 (.t 43) (some (.t 45)) none, none⟩
   (.one 7 true [] ⟨(some 47), .append 1 1 [(.int .u8 0)] (.t 42) (.t 46), none⟩
   (.one 8 false [7] ⟨(some 10), .mov (.t 47), none⟩
   (.done))))
  (.or 6 true [] ⟨(some 46), .slsl 1 (.t 43) (some (.t 45)) none, none⟩
  (.one 2 true [] ⟨(some 42), .slsl 1 (.t 40) none (some (.t 41)), none⟩
   (.one 7 true [] ⟨(some 47), .append 1 1 [(.int .u8 0)] (.t 42) (.t 46), none⟩
   (.one 8 false [7] ⟨(some 10), .mov (.t 47), none⟩
   (.done))))
  (.done)))))))
theorem k_cipherplanlaw02_CatalogTexts_0 : okR (o_cipherplanlaw02_CatalogTexts_0) a_cipherplanlaw02_CatalogTexts_0 [2, 6] t_cipherplanlaw02_CatalogTexts_0 = true := by kernel_rfl
theorem q_cipherplanlaw02_CatalogTexts_0 : plan (ris (o_cipherplanlaw02_CatalogTexts_0) a_cipherplanlaw02_CatalogTexts_0 [2, 6]) t_cipherplanlaw02_CatalogTexts_0 = p_cipherplanlaw02_CatalogTexts_0 := by kernel_rfl

-- REGION cipherplanlaw02_CatalogTexts 1: 16 operations, 3 orders, L [], X false, ok true
def o_cipherplanlaw02_CatalogTexts_1 : List AO :=
  [⟨(some 50), .bslice 0 1 false [(.int .u8 0)] [], none⟩,
    ⟨(some 51), .mov (.t 10), none⟩,
    ⟨(some 52), .mov (.t 11), none⟩,
    ⟨(some 53), .slsl 1 (.t 51) none (some (.t 52)), none⟩,
    ⟨(some 54), .append 1 1 [(.int .u8 0)] (.t 50) (.t 53), none⟩,
    ⟨(some 55), .mov (.t 10), none⟩,
    ⟨(some 56), .mov (.t 11), none⟩,
    ⟨(some 57), .iaddr 1 (.t 55) (.t 56), none⟩,
    ⟨(some 58), .load false 1 (.t 57), none⟩,
    ⟨(some 59), .bslice 1 1 false [(.int .u8 0)] [(0, (.t 58))], none⟩,
    ⟨(some 60), .append 1 1 [(.int .u8 0)] (.t 54) (.t 59), none⟩,
    ⟨(some 61), .mov (.t 10), none⟩,
    ⟨(some 62), .mov (.t 11), none⟩,
    ⟨(some 63), .slsl 1 (.t 61) (some (.t 62)) none, none⟩,
    ⟨(some 64), .append 1 1 [(.int .u8 0)] (.t 60) (.t 63), none⟩,
    ⟨(some 10), .mov (.t 64), none⟩]
def a_cipherplanlaw02_CatalogTexts_1 : List (List Nat) := [[], [], [], [1, 2], [0, 3], [], [], [5, 6], [7], [8], [4, 9, 4], [], [], [11, 12], [10, 13, 10], [14, 14, 0, 1, 2, 3, 4, 5, 6, 7, 8, 9, 10, 11, 12, 13, 14]]
def t_cipherplanlaw02_CatalogTexts_1 : OT := .one 1 (.one 2 (.one 3 (.one 5 (.one 6 (.one 7 (.one 8 (.one 11 (.one 12 (.one 13 (.or 0 (.or 4 (.or 9 (.one 10 (.one 14 (.one 15 (.done)))) (.done)) (.or 9 (.or 4 (.one 10 (.one 14 (.one 15 (.done)))) (.done)) (.done))) (.or 9 (.or 0 (.or 4 (.one 10 (.one 14 (.one 15 (.done)))) (.done)) (.done)) (.done))))))))))))
def p_cipherplanlaw02_CatalogTexts_1 : OP :=
  .one 1 false [] ⟨(some 51), .mov (.t 10), none⟩
  (.one 2 false [] ⟨(some 52), .mov (.t 11), none⟩
  (.one 3 false [] ⟨(some 53), .slsl 1 (.t 51) none (some (.t 52)), none⟩
  (.one 5 false [] ⟨(some 55), .mov (.t 10), none⟩
  (.one 6 false [] ⟨(some 56), .mov (.t 11), none⟩
  (.one 7 false [] ⟨(some 57), .iaddr 1 (.t 55) (.t 56), none⟩
  (.one 8 false [] ⟨(some 58), .load false 1 (.t 57), none⟩
  (.one 11 false [] ⟨(some 61), .mov (.t 10), none⟩
  (.one 12 false [] ⟨(some 62), .mov (.t 11), none⟩
  (.one 13 false [] ⟨(some 63), .slsl 1 (.t 61) (some (.t 62)) none, none⟩
  (.or 0 false [] ⟨(some 50), .bslice 0 1 false [(.int .u8 0)] [], none⟩
  (.or 4 true [0] ⟨(some 54), .append 1 1 [(.int .u8 0)] (.t 50) (.t 53), none⟩
   (.or 9 false [] ⟨(some 59), .bslice 1 1 false [(.int .u8 0)] [(0, (.t 58))], none⟩
    (.one 10 true [9, 4, 0] ⟨(some 60), .append 1 1 [(.int .u8 0)] (.t 54) (.t 59), none⟩
     (.one 14 true [10, 9, 4, 0] ⟨(some 64), .append 1 1 [(.int .u8 0)] (.t 60) (.t 63), none⟩
     (.one 15 false [14, 10, 9, 4, 0] ⟨(some 10), .mov (.t 64), none⟩
     (.done))))
    (.done))
   (.or 9 false [] ⟨(some 59), .bslice 1 1 false [(.int .u8 0)] [(0, (.t 58))], none⟩
   (.or 4 true [0] ⟨(some 54), .append 1 1 [(.int .u8 0)] (.t 50) (.t 53), none⟩
    (.one 10 true [9, 4, 0] ⟨(some 60), .append 1 1 [(.int .u8 0)] (.t 54) (.t 59), none⟩
     (.one 14 true [10, 9, 4, 0] ⟨(some 64), .append 1 1 [(.int .u8 0)] (.t 60) (.t 63), none⟩
     (.one 15 false [14, 10, 9, 4, 0] ⟨(some 10), .mov (.t 64), none⟩
     (.done))))
    (.done))
   (.done)))
  (.or 9 false [] ⟨(some 59), .bslice 1 1 false [(.int .u8 0)] [(0, (.t 58))], none⟩
  (.or 0 false [] ⟨(some 50), .bslice 0 1 false [(.int .u8 0)] [], none⟩
   (.or 4 true [0] ⟨(some 54), .append 1 1 [(.int .u8 0)] (.t 50) (.t 53), none⟩
    (.one 10 true [9, 4, 0] ⟨(some 60), .append 1 1 [(.int .u8 0)] (.t 54) (.t 59), none⟩
     (.one 14 true [10, 9, 4, 0] ⟨(some 64), .append 1 1 [(.int .u8 0)] (.t 60) (.t 63), none⟩
     (.one 15 false [14, 10, 9, 4, 0] ⟨(some 10), .mov (.t 64), none⟩
     (.done))))
    (.done))
   (.done))
  (.done))))))))))))
theorem k_cipherplanlaw02_CatalogTexts_1 : okR (o_cipherplanlaw02_CatalogTexts_1) a_cipherplanlaw02_CatalogTexts_1 [] t_cipherplanlaw02_CatalogTexts_1 = true := by kernel_rfl
theorem q_cipherplanlaw02_CatalogTexts_1 : plan (ris (o_cipherplanlaw02_CatalogTexts_1) a_cipherplanlaw02_CatalogTexts_1 []) t_cipherplanlaw02_CatalogTexts_1 = p_cipherplanlaw02_CatalogTexts_1 := by kernel_rfl

def c_cipherplanlaw02_CatalogTexts (f_cipherplanmake_Light f_cipherplanlaw02_awake f_cipherplanmake_Roll f_cipherplanmake_Use f_cipherplanref02_Text f_cipherplanmake_Mod f_catalog_Parse f_cipherplanref02_Parse : Nat) : AC :=
  seqK [0, 1, 2, 3] (.reg [⟨(some 8), .mov (.c (V.bool false)), none⟩])
  (seqK [0, 1, 2, 3] (seqK [0, 1, 2, 3, 18] (.reg [⟨(some 16), .mov (.t 0), none⟩,
       ⟨(some 17), .call f_cipherplanmake_Light [(.t 16)], none⟩,
       ⟨(some 18), .un .not (.t 17), none⟩])
    (.cond (.t 18)
      (seqK [8] (.reg [⟨(some 19), .call f_cipherplanlaw02_awake [], none⟩,
          ⟨(some 8), .mov (.t 19), none⟩])
       (.ret))
      (.skip)))
   (seqK [1, 2, 3, 9] (.reg [⟨(some 20), .mov (.t 0), none⟩,
       ⟨(some 21), .call f_cipherplanmake_Roll [(.t 20)], none⟩,
       ⟨(some 9), .mov (.t 21), none⟩])
    (seqK [1, 2, 3, 10] (.reg [⟨(some 22), .mov (.t 9), none⟩,
        ⟨(some 23), .call f_cipherplanmake_Use [(.t 22)], none⟩,
        ⟨(some 24), .call f_cipherplanref02_Text [(.t 23)], none⟩,
        ⟨(some 25), .convSB (.t 24), none⟩,
        ⟨(some 10), .mov (.t 25), none⟩])
     (seqK [2, 3, 10, 11] (.reg [⟨(some 26), .mov (.t 1), none⟩,
         ⟨(some 27), .mov (.t 10), none⟩,
         ⟨(some 28), .lenL (.t 27), none⟩,
         ⟨(some 29), .call f_cipherplanmake_Mod [(.t 26), (.t 28)], none⟩,
         ⟨(some 11), .mov (.t 29), none⟩])
      (seqK [10] (seqK [2, 10, 11, 31] (.reg [⟨(some 30), .mov (.t 3), none⟩,
           ⟨(some 31), .bin .rem (.t 30) (.c (.sc (.int .u8 5))), none⟩])
        (.block 0 (seqK [2, 10, 11, 31, 32] (.reg [⟨(some 33), .bin .eql (.t 31) (.c (.sc (.int .u8 0))), none⟩,
             ⟨(some 32), .mov (.t 33), none⟩])
          (.cond (.t 32)
            (.reg [⟨(some 34), .mov (.t 10), none⟩,
               ⟨(some 35), .mov (.t 11), none⟩,
               ⟨(some 36), .mov (.t 2), none⟩,
               ⟨(some 37), .iaddr 1 (.t 34) (.t 35), none⟩,
               ⟨none, .store 1 (.t 37) (.t 36), none⟩])
            (seqK [2, 10, 11, 31, 38] (.reg [⟨(some 39), .bin .eql (.t 31) (.c (.sc (.int .u8 1))), none⟩,
                ⟨(some 38), .mov (.t 39), none⟩])
             (.cond (.t 38)
               (regK [2, 6] t_cipherplanlaw02_CatalogTexts_0 (p_cipherplanlaw02_CatalogTexts_0) (o_cipherplanlaw02_CatalogTexts_0) a_cipherplanlaw02_CatalogTexts_0)
               (seqK [2, 10, 11, 31, 48] (.reg [⟨(some 49), .bin .eql (.t 31) (.c (.sc (.int .u8 2))), none⟩,
                   ⟨(some 48), .mov (.t 49), none⟩])
                (.cond (.t 48)
                  (regK [] t_cipherplanlaw02_CatalogTexts_1 (p_cipherplanlaw02_CatalogTexts_1) (o_cipherplanlaw02_CatalogTexts_1) a_cipherplanlaw02_CatalogTexts_1)
                  (seqK [2, 10, 11, 65] (.reg [⟨(some 66), .bin .eql (.t 31) (.c (.sc (.int .u8 3))), none⟩,
                      ⟨(some 65), .mov (.t 66), none⟩])
                   (.cond (.t 65)
                     (.reg [⟨(some 67), .mov (.t 10), none⟩,
                        ⟨(some 68), .mov (.t 11), none⟩,
                        ⟨(some 69), .mov (.t 2), none⟩,
                        ⟨(some 70), .convI .i64 (.t 69), none⟩,
                        ⟨(some 71), .bin .rem (.t 70) (.c (V.int 11)), none⟩,
                        ⟨(some 72), .idxS (.c (V.str [48, 49, 50, 51, 52, 53, 54, 55, 56, 57, 45])) (.t 71), none⟩,
                        ⟨(some 73), .iaddr 1 (.t 67) (.t 68), none⟩,
                        ⟨none, .store 1 (.t 73) (.t 72), none⟩])
                     (.skip)))))))))))
       (seqK [10, 12, 13] (.reg [⟨(some 75), .mov (.t 10), none⟩,
           ⟨(some 76), .convBS (.t 75), none⟩,
           ⟨(some 77), .call f_catalog_Parse [(.t 76)], none⟩,
           ⟨(some 74), .mov (.t 77), none⟩,
           ⟨(some 78), .ext (.t 74) 0, none⟩,
           ⟨(some 79), .ext (.t 74) 1, none⟩,
           ⟨(some 12), .alloc [.val (.int .i64 0), .val (.int .i64 0)], none⟩,
           ⟨none, .store 2 (.t 12) (.t 78), none⟩,
           ⟨(some 13), .mov (.t 79), none⟩])
        (seqK [12, 13, 14, 15] (.reg [⟨(some 81), .mov (.t 10), none⟩,
            ⟨(some 82), .convBS (.t 81), none⟩,
            ⟨(some 83), .call f_cipherplanref02_Parse [(.t 82)], none⟩,
            ⟨(some 80), .mov (.t 83), none⟩,
            ⟨(some 84), .ext (.t 80) 0, none⟩,
            ⟨(some 85), .ext (.t 80) 1, none⟩,
            ⟨(some 14), .alloc [.val (.int .i64 0), .val (.int .i64 0)], none⟩,
            ⟨none, .store 2 (.t 14) (.t 84), none⟩,
            ⟨(some 15), .mov (.t 85), none⟩])
         (seqK [8] (.reg [⟨(some 86), .load true 2 (.t 12), none⟩,
             ⟨(some 87), .load true 2 (.t 14), none⟩,
             ⟨(some 88), .eqagg false [0, 0] (.t 86) (.t 87), none⟩,
             ⟨(some 89), .mov (.t 88), none⟩,
             ⟨(some 90), .mov (.t 13), (some (89, true))⟩,
             ⟨(some 91), .mov (.t 15), (some (89, true))⟩,
             ⟨(some 92), .bin .eql (.t 90) (.t 91), (some (89, true))⟩,
             ⟨(some 93), .pick (.t 89) (.t 92) (.c (V.bool false)), none⟩,
             ⟨(some 94), .mov (.t 93), none⟩,
             ⟨(some 95), .call f_cipherplanlaw02_awake [], (some (94, true))⟩,
             ⟨(some 96), .pick (.t 94) (.t 95) (.c (V.bool false)), none⟩,
             ⟨(some 8), .mov (.t 96), none⟩])
          (.ret)))))))))

def r_cipherplanlaw02_CatalogTexts : List ARes := [.tmp 8]
def CE_cipherplanlaw02_CatalogTexts (Γ : Env) (f : Nat) : Prop := ∀ (l : List Int) (p q w : Int) (h0 : 0 ≤ q) (h1 : q ≤ 255) (h2 : 0 ≤ w) (h3 : w ≤ 255), EvN Γ f [.sl 1 (l.map V.int), V.int p, .sc (.int .u8 q), .sc (.int .u8 w)] (V.bool true)
theorem ev_cipherplanlaw02_CatalogTexts {Γ : Env} {f f_cipherplanmake_Light f_cipherplanlaw02_awake f_cipherplanmake_Roll f_cipherplanmake_Use f_cipherplanref02_Text f_cipherplanmake_Mod f_catalog_Parse f_cipherplanref02_Parse : Nat} (h : Has Γ.P f 97 (c_cipherplanlaw02_CatalogTexts f_cipherplanmake_Light f_cipherplanlaw02_awake f_cipherplanmake_Roll f_cipherplanmake_Use f_cipherplanref02_Text f_cipherplanmake_Mod f_catalog_Parse f_cipherplanref02_Parse) r_cipherplanlaw02_CatalogTexts) (h_cipherplanmake_Light : CE_cipherplanmake_Light Γ f_cipherplanmake_Light) (h_cipherplanlaw02_awake : CE_cipherplanlaw02_awake Γ f_cipherplanlaw02_awake) (h_cipherplanmake_Roll : CE_cipherplanmake_Roll Γ f_cipherplanmake_Roll) (h_cipherplanmake_Use : CE_cipherplanmake_Use Γ f_cipherplanmake_Use) (h_cipherplanref02_Text : CE_cipherplanref02_Text Γ f_cipherplanref02_Text) (h_cipherplanmake_Mod : CE_cipherplanmake_Mod Γ f_cipherplanmake_Mod) (h_catalog_Parse : CE_catalog_Parse Γ f_catalog_Parse) (h_cipherplanref02_Parse : CE_cipherplanref02_Parse Γ f_cipherplanref02_Parse) : CE_cipherplanlaw02_CatalogTexts Γ f := by
  intro l p q w h0 h1 h2 h3
  refine evN_of_body h (by simp) (by simp only [V.closed, closedL, V.noSl, noSlL, and_self, and_true, true_and]) (by simp only [V.closed, closedL, V.noSl, noSlL, and_self, and_true, true_and]) fun C hC hm => ?_
  subst hC
  unfold c_cipherplanlaw02_CatalogTexts
  by_cases hlen : l.length ≤ 400
  · have e0 : decide ((l.length : Int) ≤ 400) = true := by simp; omega
    obtain ⟨c, rfl⟩ := u8_of h0 h1
    have n1 := h_cipherplanmake_Roll l
    have n2 := h_cipherplanmake_Use l 0 hlen (Nat.zero_le _)
    simp only [dcell] at n1 n2
    have hv := useD_valid l 0
    generalize useD l 0 = u at *
    obtain ⟨⟨a, b⟩, k⟩ := u
    simp only at hv n2
    have hT := text_ne a b hv
    have hTl := text_len a b hv
    have n3 := h_cipherplanref02_Text a b
    generalize textS a b = T at *
    have hT1 : 1 ≤ T.length := by cases T with | nil => exact (hT rfl).elim | cons _ _ => simp
    have hi := modV_range (a := p) (n := T.length) (by omega) (by omega)
    have n4 := h_cipherplanmake_Mod p T.length
    generalize modV p T.length = i at *
    obtain ⟨j, rfl⟩ : ∃ j : Nat, i = (j : Int) := ⟨i.toNat, by omega⟩
    have hj : j < T.length := by omega
    have ec : ∀ n : Int, (n == n) = true := by simp
    obtain ⟨t0, hget⟩ : ∃ t0, T[j]? = some t0 := ⟨T[j], List.getElem?_eq_getElem hj⟩
    have hm : w.tmod 5 = w % 5 := Int.tmod_eq_emod_of_nonneg h2
    rcases (by omega : w % 5 = 0 ∨ w % 5 = 1 ∨ w % 5 = 2 ∨ w % 5 = 3 ∨ w % 5 = 4) with hw | hw | hw | hw | hw
    · have ht : (T.set j c).take T.length = T.set j c := by rw [← List.length_set (as := T) (i := j) (a := c), List.take_length]
      have x1 := h_catalog_Parse (T.set j c) (by first | omega | (simp; omega))
      have x2 := h_cipherplanref02_Parse (T.set j c) (by first | omega | (simp; omega))
      rw [parse_eq] at x2
      obtain ⟨pa, pb, pe, hp⟩ : ∃ pa pb pe, parseS (T.set j c) = .tup [.agg [V.int pa, V.int pb], V.int pe] := by
        unfold parseS; split <;> exact ⟨_, _, _, rfl⟩
      rw [hp] at x1 x2
      repeat' (first
    | refine awp_seqR fun K' hK => ?_
    | refine awp_regR fun K' hK => ?_
    | refine awp_seqP 9 (fun _ => false) rfl (k_cipherplanlaw02_CatalogTexts_0) (q_cipherplanlaw02_CatalogTexts_0) fun K' hK => ?_
    | refine awp_regP 9 (fun _ => false) rfl (k_cipherplanlaw02_CatalogTexts_0) (q_cipherplanlaw02_CatalogTexts_0) fun K' hK => ?_
    | refine awp_seqP 16 (fun _ => true) rfl (k_cipherplanlaw02_CatalogTexts_1) (q_cipherplanlaw02_CatalogTexts_1) fun K' hK => ?_
    | refine awp_regP 16 (fun _ => true) rfl (k_cipherplanlaw02_CatalogTexts_1) (q_cipherplanlaw02_CatalogTexts_1) fun K' hK => ?_
    | refine awp_seqK ?_
    | refine awp_skip ?_
    | refine awp_block ?_
    | ((first | refine awp_cond ⟨_, rfl, fun hc => ?_, fun hc => ?_⟩ | refine awB_t (fun hc => ?_) (fun hc => ?_) | refine awB_f (fun hc => ?_) (fun hc => ?_)) <;> first | exact Bool.noConfusion hc | (exfalso; simp only [decide_eq_true_eq, decide_eq_false_iff_not, List.length_map, Bool.not_eq_true', Bool.not_eq_false'] at hc; omega) | (try simp only [decide_eq_true_eq, decide_eq_false_iff_not, beq_iff_eq, beq_eq_false_iff_ne, ne_eq, Bool.not_eq_true', Bool.not_eq_false'] at hc))
    | refine awp_ret ?_
    | refine awp_exit ?_
    | simp (maxSteps := 1000000) only [go_sem, Nat.reduceAdd, Nat.reduceMul, Nat.reduceEqDiff, Nat.reduceLeDiff, Nat.reduceLT, Nat.reduceSub, Int.reduceEq, Int.reduceBEq, Int.reduceLT, Int.reduceLE, Int.reduceAdd, Int.reduceToNat, reduceIte, reduceCtorEq, dcell, e0, List.length_map, hm, hw, List.getElem?_map, hget, Int.toNat_natCast, set_bytes, cells_bytes, ex_bytes, back_bytes, take_bytes, drop_bytes, app_bytes, app_one, List.take_length, List.drop_zero, List.length_set, ht, p_cipherplanlaw02_CatalogTexts_0, p_cipherplanlaw02_CatalogTexts_1]
    | (refine hK _ ?_; clear hK; clear K')
    | refine And.intro ?_ ?_
    | (apply awC_D1; (focus (exact rfl)); (focus (simp only [go_sem, Nat.reduceAdd, Nat.reduceMul, Nat.reduceEqDiff, Nat.reduceLeDiff, Nat.reduceLT, Nat.reduceSub, Int.reduceEq, Int.reduceBEq, Int.reduceLT, Int.reduceLE, Int.reduceAdd, Int.reduceToNat, reduceIte, reduceCtorEq, dcell, e0, List.length_map, hm, hw, List.getElem?_map, hget, Int.toNat_natCast, set_bytes, cells_bytes, ex_bytes, back_bytes, take_bytes, drop_bytes, app_bytes, app_one, List.take_length, List.drop_zero, List.length_set, ht]; first | exact n2 | exact (h_cipherplanmake_Use _ _ (by first | assumption | omega | (simp; done)) (by first | assumption | omega | (simp; done))))); (focus (simp only [go_sem, Nat.reduceAdd, Nat.reduceMul, Nat.reduceEqDiff, Nat.reduceLeDiff, Nat.reduceLT, Nat.reduceSub, Int.reduceEq, Int.reduceBEq, Int.reduceLT, Int.reduceLE, Int.reduceAdd, Int.reduceToNat, reduceIte, reduceCtorEq, dcell, e0, List.length_map, hm, hw, List.getElem?_map, hget, Int.toNat_natCast, set_bytes, cells_bytes, ex_bytes, back_bytes, take_bytes, drop_bytes, app_bytes, app_one, List.take_length, List.drop_zero, List.length_set, ht, List.mem_singleton])); (focus (simp only [go_sem, Nat.reduceAdd, Nat.reduceMul, Nat.reduceEqDiff, Nat.reduceLeDiff, Nat.reduceLT, Nat.reduceSub, Int.reduceEq, Int.reduceBEq, Int.reduceLT, Int.reduceLE, Int.reduceAdd, Int.reduceToNat, reduceIte, reduceCtorEq, dcell, e0, List.length_map, hm, hw, List.getElem?_map, hget, Int.toNat_natCast, set_bytes, cells_bytes, ex_bytes, back_bytes, take_bytes, drop_bytes, app_bytes, app_one, List.take_length, List.drop_zero, List.length_set, ht, List.mem_singleton])); (focus (simp only [go_sem, Nat.reduceAdd, Nat.reduceMul, Nat.reduceEqDiff, Nat.reduceLeDiff, Nat.reduceLT, Nat.reduceSub, Int.reduceEq, Int.reduceBEq, Int.reduceLT, Int.reduceLE, Int.reduceAdd, Int.reduceToNat, reduceIte, reduceCtorEq, dcell, e0, List.length_map, hm, hw, List.getElem?_map, hget, Int.toNat_natCast, set_bytes, cells_bytes, ex_bytes, back_bytes, take_bytes, drop_bytes, app_bytes, app_one, List.take_length, List.drop_zero, List.length_set, ht])))
    | (apply awC_R; (focus (simp only [go_sem, Nat.reduceAdd, Nat.reduceMul, Nat.reduceEqDiff, Nat.reduceLeDiff, Nat.reduceLT, Nat.reduceSub, Int.reduceEq, Int.reduceBEq, Int.reduceLT, Int.reduceLE, Int.reduceAdd, Int.reduceToNat, reduceIte, reduceCtorEq, dcell, e0, List.length_map, hm, hw, List.getElem?_map, hget, Int.toNat_natCast, set_bytes, cells_bytes, ex_bytes, back_bytes, take_bytes, drop_bytes, app_bytes, app_one, List.take_length, List.drop_zero, List.length_set, ht]; first | exact n1 | exact (h_cipherplanmake_Roll _))); (focus (simp only [go_sem, Nat.reduceAdd, Nat.reduceMul, Nat.reduceEqDiff, Nat.reduceLeDiff, Nat.reduceLT, Nat.reduceSub, Int.reduceEq, Int.reduceBEq, Int.reduceLT, Int.reduceLE, Int.reduceAdd, Int.reduceToNat, reduceIte, reduceCtorEq, dcell, e0, List.length_map, hm, hw, List.getElem?_map, hget, Int.toNat_natCast, set_bytes, cells_bytes, ex_bytes, back_bytes, take_bytes, drop_bytes, app_bytes, app_one, List.take_length, List.drop_zero, List.length_set, ht, List.mem_singleton])))
    | ((first | apply awC_A | apply awCR_A); (focus (simp only [go_sem, Nat.reduceAdd, Nat.reduceMul, Nat.reduceEqDiff, Nat.reduceLeDiff, Nat.reduceLT, Nat.reduceSub, Int.reduceEq, Int.reduceBEq, Int.reduceLT, Int.reduceLE, Int.reduceAdd, Int.reduceToNat, reduceIte, reduceCtorEq, dcell, e0, List.length_map, hm, hw, List.getElem?_map, hget, Int.toNat_natCast, set_bytes, cells_bytes, ex_bytes, back_bytes, take_bytes, drop_bytes, app_bytes, app_one, List.take_length, List.drop_zero, List.length_set, ht]; first | exact n3.b | exact n4.b | exact x1.b | exact x2.b | exact (h_cipherplanmake_Light _).b | exact EvN.b h_cipherplanlaw02_awake | exact (h_cipherplanref02_Text _ _).b | exact (h_cipherplanmake_Mod _ _).b | exact (h_catalog_Parse _ (by first | assumption | omega | (simp; done))).b | exact (h_cipherplanref02_Parse _ (by first | assumption | omega | (simp; done))).b)); (focus (simp only [go_sem, Nat.reduceAdd, Nat.reduceMul, Nat.reduceEqDiff, Nat.reduceLeDiff, Nat.reduceLT, Nat.reduceSub, Int.reduceEq, Int.reduceBEq, Int.reduceLT, Int.reduceLE, Int.reduceAdd, Int.reduceToNat, reduceIte, reduceCtorEq, dcell, e0, List.length_map, hm, hw, List.getElem?_map, hget, Int.toNat_natCast, set_bytes, cells_bytes, ex_bytes, back_bytes, take_bytes, drop_bytes, app_bytes, app_one, List.take_length, List.drop_zero, List.length_set, ht])))
    | (simp only [List.length_append, List.length_cons, List.length_nil, List.length_map, Nat.reducePow, Nat.reduceAdd]; omega)
    | omega)
      all_goals first
        | (refine ends_r _ rfl ?_; simp only [go_sem, Nat.reduceAdd, Nat.reduceMul, Nat.reduceEqDiff, Nat.reduceLeDiff, Nat.reduceLT, Nat.reduceSub, Int.reduceEq, Int.reduceBEq, Int.reduceLT, Int.reduceLE, Int.reduceAdd, Int.reduceToNat, reduceIte, reduceCtorEq]; done)
        | trace_state
    · have hw1 := wrap_succ (k := j) (by omega)
      have ht1 : (T.drop (j + 1)).take (T.length - (j + 1)) = T.drop (j + 1) := by rw [← List.length_drop, List.take_length]
      have ht2 : (T.take j ++ T.drop (j + 1)).take (j + (T.length - (j + 1))) = T.take j ++ T.drop (j + 1) := List.take_of_length_le (by first | omega | (simp; omega))
      have x1 := h_catalog_Parse (T.take j ++ T.drop (j + 1)) (by first | omega | (simp; omega))
      have x2 := h_cipherplanref02_Parse (T.take j ++ T.drop (j + 1)) (by first | omega | (simp; omega))
      rw [parse_eq] at x2
      obtain ⟨pa, pb, pe, hp⟩ : ∃ pa pb pe, parseS (T.take j ++ T.drop (j + 1)) = .tup [.agg [V.int pa, V.int pb], V.int pe] := by
        unfold parseS; split <;> exact ⟨_, _, _, rfl⟩
      rw [hp] at x1 x2
      repeat' (first
    | refine awp_seqR fun K' hK => ?_
    | refine awp_regR fun K' hK => ?_
    | refine awp_seqP 9 (fun _ => false) rfl (k_cipherplanlaw02_CatalogTexts_0) (q_cipherplanlaw02_CatalogTexts_0) fun K' hK => ?_
    | refine awp_regP 9 (fun _ => false) rfl (k_cipherplanlaw02_CatalogTexts_0) (q_cipherplanlaw02_CatalogTexts_0) fun K' hK => ?_
    | refine awp_seqP 16 (fun _ => true) rfl (k_cipherplanlaw02_CatalogTexts_1) (q_cipherplanlaw02_CatalogTexts_1) fun K' hK => ?_
    | refine awp_regP 16 (fun _ => true) rfl (k_cipherplanlaw02_CatalogTexts_1) (q_cipherplanlaw02_CatalogTexts_1) fun K' hK => ?_
    | refine awp_seqK ?_
    | refine awp_skip ?_
    | refine awp_block ?_
    | ((first | refine awp_cond ⟨_, rfl, fun hc => ?_, fun hc => ?_⟩ | refine awB_t (fun hc => ?_) (fun hc => ?_) | refine awB_f (fun hc => ?_) (fun hc => ?_)) <;> first | exact Bool.noConfusion hc | (exfalso; simp only [decide_eq_true_eq, decide_eq_false_iff_not, List.length_map, Bool.not_eq_true', Bool.not_eq_false'] at hc; omega) | (try simp only [decide_eq_true_eq, decide_eq_false_iff_not, beq_iff_eq, beq_eq_false_iff_ne, ne_eq, Bool.not_eq_true', Bool.not_eq_false'] at hc))
    | refine awp_ret ?_
    | refine awp_exit ?_
    | simp (maxSteps := 1000000) only [go_sem, Nat.reduceAdd, Nat.reduceMul, Nat.reduceEqDiff, Nat.reduceLeDiff, Nat.reduceLT, Nat.reduceSub, Int.reduceEq, Int.reduceBEq, Int.reduceLT, Int.reduceLE, Int.reduceAdd, Int.reduceToNat, reduceIte, reduceCtorEq, dcell, e0, List.length_map, hm, hw, List.getElem?_map, hget, Int.toNat_natCast, set_bytes, cells_bytes, ex_bytes, back_bytes, take_bytes, drop_bytes, app_bytes, app_one, List.take_length, List.drop_zero, List.length_set, hw1, ht1, ht2, List.length_drop, Nat.sub_zero, p_cipherplanlaw02_CatalogTexts_0, p_cipherplanlaw02_CatalogTexts_1]
    | (refine hK _ ?_; clear hK; clear K')
    | refine And.intro ?_ ?_
    | (apply awC_D1; (focus (exact rfl)); (focus (simp only [go_sem, Nat.reduceAdd, Nat.reduceMul, Nat.reduceEqDiff, Nat.reduceLeDiff, Nat.reduceLT, Nat.reduceSub, Int.reduceEq, Int.reduceBEq, Int.reduceLT, Int.reduceLE, Int.reduceAdd, Int.reduceToNat, reduceIte, reduceCtorEq, dcell, e0, List.length_map, hm, hw, List.getElem?_map, hget, Int.toNat_natCast, set_bytes, cells_bytes, ex_bytes, back_bytes, take_bytes, drop_bytes, app_bytes, app_one, List.take_length, List.drop_zero, List.length_set, hw1, ht1, ht2, List.length_drop, Nat.sub_zero]; first | exact n2 | exact (h_cipherplanmake_Use _ _ (by first | assumption | omega | (simp; done)) (by first | assumption | omega | (simp; done))))); (focus (simp only [go_sem, Nat.reduceAdd, Nat.reduceMul, Nat.reduceEqDiff, Nat.reduceLeDiff, Nat.reduceLT, Nat.reduceSub, Int.reduceEq, Int.reduceBEq, Int.reduceLT, Int.reduceLE, Int.reduceAdd, Int.reduceToNat, reduceIte, reduceCtorEq, dcell, e0, List.length_map, hm, hw, List.getElem?_map, hget, Int.toNat_natCast, set_bytes, cells_bytes, ex_bytes, back_bytes, take_bytes, drop_bytes, app_bytes, app_one, List.take_length, List.drop_zero, List.length_set, hw1, ht1, ht2, List.length_drop, Nat.sub_zero, List.mem_singleton])); (focus (simp only [go_sem, Nat.reduceAdd, Nat.reduceMul, Nat.reduceEqDiff, Nat.reduceLeDiff, Nat.reduceLT, Nat.reduceSub, Int.reduceEq, Int.reduceBEq, Int.reduceLT, Int.reduceLE, Int.reduceAdd, Int.reduceToNat, reduceIte, reduceCtorEq, dcell, e0, List.length_map, hm, hw, List.getElem?_map, hget, Int.toNat_natCast, set_bytes, cells_bytes, ex_bytes, back_bytes, take_bytes, drop_bytes, app_bytes, app_one, List.take_length, List.drop_zero, List.length_set, hw1, ht1, ht2, List.length_drop, Nat.sub_zero, List.mem_singleton])); (focus (simp only [go_sem, Nat.reduceAdd, Nat.reduceMul, Nat.reduceEqDiff, Nat.reduceLeDiff, Nat.reduceLT, Nat.reduceSub, Int.reduceEq, Int.reduceBEq, Int.reduceLT, Int.reduceLE, Int.reduceAdd, Int.reduceToNat, reduceIte, reduceCtorEq, dcell, e0, List.length_map, hm, hw, List.getElem?_map, hget, Int.toNat_natCast, set_bytes, cells_bytes, ex_bytes, back_bytes, take_bytes, drop_bytes, app_bytes, app_one, List.take_length, List.drop_zero, List.length_set, hw1, ht1, ht2, List.length_drop, Nat.sub_zero])))
    | (apply awC_R; (focus (simp only [go_sem, Nat.reduceAdd, Nat.reduceMul, Nat.reduceEqDiff, Nat.reduceLeDiff, Nat.reduceLT, Nat.reduceSub, Int.reduceEq, Int.reduceBEq, Int.reduceLT, Int.reduceLE, Int.reduceAdd, Int.reduceToNat, reduceIte, reduceCtorEq, dcell, e0, List.length_map, hm, hw, List.getElem?_map, hget, Int.toNat_natCast, set_bytes, cells_bytes, ex_bytes, back_bytes, take_bytes, drop_bytes, app_bytes, app_one, List.take_length, List.drop_zero, List.length_set, hw1, ht1, ht2, List.length_drop, Nat.sub_zero]; first | exact n1 | exact (h_cipherplanmake_Roll _))); (focus (simp only [go_sem, Nat.reduceAdd, Nat.reduceMul, Nat.reduceEqDiff, Nat.reduceLeDiff, Nat.reduceLT, Nat.reduceSub, Int.reduceEq, Int.reduceBEq, Int.reduceLT, Int.reduceLE, Int.reduceAdd, Int.reduceToNat, reduceIte, reduceCtorEq, dcell, e0, List.length_map, hm, hw, List.getElem?_map, hget, Int.toNat_natCast, set_bytes, cells_bytes, ex_bytes, back_bytes, take_bytes, drop_bytes, app_bytes, app_one, List.take_length, List.drop_zero, List.length_set, hw1, ht1, ht2, List.length_drop, Nat.sub_zero, List.mem_singleton])))
    | ((first | apply awC_A | apply awCR_A); (focus (simp only [go_sem, Nat.reduceAdd, Nat.reduceMul, Nat.reduceEqDiff, Nat.reduceLeDiff, Nat.reduceLT, Nat.reduceSub, Int.reduceEq, Int.reduceBEq, Int.reduceLT, Int.reduceLE, Int.reduceAdd, Int.reduceToNat, reduceIte, reduceCtorEq, dcell, e0, List.length_map, hm, hw, List.getElem?_map, hget, Int.toNat_natCast, set_bytes, cells_bytes, ex_bytes, back_bytes, take_bytes, drop_bytes, app_bytes, app_one, List.take_length, List.drop_zero, List.length_set, hw1, ht1, ht2, List.length_drop, Nat.sub_zero]; first | exact n3.b | exact n4.b | exact x1.b | exact x2.b | exact (h_cipherplanmake_Light _).b | exact EvN.b h_cipherplanlaw02_awake | exact (h_cipherplanref02_Text _ _).b | exact (h_cipherplanmake_Mod _ _).b | exact (h_catalog_Parse _ (by first | assumption | omega | (simp; done))).b | exact (h_cipherplanref02_Parse _ (by first | assumption | omega | (simp; done))).b)); (focus (simp only [go_sem, Nat.reduceAdd, Nat.reduceMul, Nat.reduceEqDiff, Nat.reduceLeDiff, Nat.reduceLT, Nat.reduceSub, Int.reduceEq, Int.reduceBEq, Int.reduceLT, Int.reduceLE, Int.reduceAdd, Int.reduceToNat, reduceIte, reduceCtorEq, dcell, e0, List.length_map, hm, hw, List.getElem?_map, hget, Int.toNat_natCast, set_bytes, cells_bytes, ex_bytes, back_bytes, take_bytes, drop_bytes, app_bytes, app_one, List.take_length, List.drop_zero, List.length_set, hw1, ht1, ht2, List.length_drop, Nat.sub_zero])))
    | (simp only [List.length_append, List.length_cons, List.length_nil, List.length_map, Nat.reducePow, Nat.reduceAdd]; omega)
    | omega)
      all_goals first
        | (refine ends_r _ rfl ?_; simp only [go_sem, Nat.reduceAdd, Nat.reduceMul, Nat.reduceEqDiff, Nat.reduceLeDiff, Nat.reduceLT, Nat.reduceSub, Int.reduceEq, Int.reduceBEq, Int.reduceLT, Int.reduceLE, Int.reduceAdd, Int.reduceToNat, reduceIte, reduceCtorEq]; done)
        | trace_state
    · have ht1 : (T.drop j).take (T.length - j) = T.drop j := by rw [← List.length_drop, List.take_length]
      have hlt : (T.take j).length = j := by rw [List.length_take]; omega
      have ht3 : (T.take j).take j = T.take j := by rw [List.take_take, Nat.min_self]
      have ht4 : (T.take j ++ [t0]).take (j + 1) = T.take j ++ [t0] := List.take_of_length_le (by first | omega | (simp; omega))
      have ht5 : (T.take j ++ [t0] ++ T.drop j).take (j + 1 + (T.length - j)) = T.take j ++ [t0] ++ T.drop j := List.take_of_length_le (by first | omega | (simp; omega))
      have x1 := h_catalog_Parse (T.take j ++ [t0] ++ T.drop j) (by first | omega | (simp; omega))
      have x2 := h_cipherplanref02_Parse (T.take j ++ [t0] ++ T.drop j) (by first | omega | (simp; omega))
      rw [parse_eq] at x2
      obtain ⟨pa, pb, pe, hp⟩ : ∃ pa pb pe, parseS (T.take j ++ [t0] ++ T.drop j) = .tup [.agg [V.int pa, V.int pb], V.int pe] := by
        unfold parseS; split <;> exact ⟨_, _, _, rfl⟩
      rw [hp] at x1 x2
      repeat' (first
    | refine awp_seqR fun K' hK => ?_
    | refine awp_regR fun K' hK => ?_
    | refine awp_seqP 9 (fun _ => false) rfl (k_cipherplanlaw02_CatalogTexts_0) (q_cipherplanlaw02_CatalogTexts_0) fun K' hK => ?_
    | refine awp_regP 9 (fun _ => false) rfl (k_cipherplanlaw02_CatalogTexts_0) (q_cipherplanlaw02_CatalogTexts_0) fun K' hK => ?_
    | refine awp_seqP 16 (fun _ => true) rfl (k_cipherplanlaw02_CatalogTexts_1) (q_cipherplanlaw02_CatalogTexts_1) fun K' hK => ?_
    | refine awp_regP 16 (fun _ => true) rfl (k_cipherplanlaw02_CatalogTexts_1) (q_cipherplanlaw02_CatalogTexts_1) fun K' hK => ?_
    | refine awp_seqK ?_
    | refine awp_skip ?_
    | refine awp_block ?_
    | ((first | refine awp_cond ⟨_, rfl, fun hc => ?_, fun hc => ?_⟩ | refine awB_t (fun hc => ?_) (fun hc => ?_) | refine awB_f (fun hc => ?_) (fun hc => ?_)) <;> first | exact Bool.noConfusion hc | (exfalso; simp only [decide_eq_true_eq, decide_eq_false_iff_not, List.length_map, Bool.not_eq_true', Bool.not_eq_false'] at hc; omega) | (try simp only [decide_eq_true_eq, decide_eq_false_iff_not, beq_iff_eq, beq_eq_false_iff_ne, ne_eq, Bool.not_eq_true', Bool.not_eq_false'] at hc))
    | refine awp_ret ?_
    | refine awp_exit ?_
    | simp (maxSteps := 1000000) only [go_sem, Nat.reduceAdd, Nat.reduceMul, Nat.reduceEqDiff, Nat.reduceLeDiff, Nat.reduceLT, Nat.reduceSub, Int.reduceEq, Int.reduceBEq, Int.reduceLT, Int.reduceLE, Int.reduceAdd, Int.reduceToNat, reduceIte, reduceCtorEq, dcell, e0, List.length_map, hm, hw, List.getElem?_map, hget, Int.toNat_natCast, set_bytes, cells_bytes, ex_bytes, back_bytes, take_bytes, drop_bytes, app_bytes, app_one, List.take_length, List.drop_zero, List.length_set, ht1, hlt, ht3, ht4, ht5, List.length_drop, Nat.sub_zero, List.length_append, List.length_singleton, p_cipherplanlaw02_CatalogTexts_0, p_cipherplanlaw02_CatalogTexts_1]
    | (refine hK _ ?_; clear hK; clear K')
    | refine And.intro ?_ ?_
    | (apply awC_D1; (focus (exact rfl)); (focus (simp only [go_sem, Nat.reduceAdd, Nat.reduceMul, Nat.reduceEqDiff, Nat.reduceLeDiff, Nat.reduceLT, Nat.reduceSub, Int.reduceEq, Int.reduceBEq, Int.reduceLT, Int.reduceLE, Int.reduceAdd, Int.reduceToNat, reduceIte, reduceCtorEq, dcell, e0, List.length_map, hm, hw, List.getElem?_map, hget, Int.toNat_natCast, set_bytes, cells_bytes, ex_bytes, back_bytes, take_bytes, drop_bytes, app_bytes, app_one, List.take_length, List.drop_zero, List.length_set, ht1, hlt, ht3, ht4, ht5, List.length_drop, Nat.sub_zero, List.length_append, List.length_singleton]; first | exact n2 | exact (h_cipherplanmake_Use _ _ (by first | assumption | omega | (simp; done)) (by first | assumption | omega | (simp; done))))); (focus (simp only [go_sem, Nat.reduceAdd, Nat.reduceMul, Nat.reduceEqDiff, Nat.reduceLeDiff, Nat.reduceLT, Nat.reduceSub, Int.reduceEq, Int.reduceBEq, Int.reduceLT, Int.reduceLE, Int.reduceAdd, Int.reduceToNat, reduceIte, reduceCtorEq, dcell, e0, List.length_map, hm, hw, List.getElem?_map, hget, Int.toNat_natCast, set_bytes, cells_bytes, ex_bytes, back_bytes, take_bytes, drop_bytes, app_bytes, app_one, List.take_length, List.drop_zero, List.length_set, ht1, hlt, ht3, ht4, ht5, List.length_drop, Nat.sub_zero, List.length_append, List.length_singleton, List.mem_singleton])); (focus (simp only [go_sem, Nat.reduceAdd, Nat.reduceMul, Nat.reduceEqDiff, Nat.reduceLeDiff, Nat.reduceLT, Nat.reduceSub, Int.reduceEq, Int.reduceBEq, Int.reduceLT, Int.reduceLE, Int.reduceAdd, Int.reduceToNat, reduceIte, reduceCtorEq, dcell, e0, List.length_map, hm, hw, List.getElem?_map, hget, Int.toNat_natCast, set_bytes, cells_bytes, ex_bytes, back_bytes, take_bytes, drop_bytes, app_bytes, app_one, List.take_length, List.drop_zero, List.length_set, ht1, hlt, ht3, ht4, ht5, List.length_drop, Nat.sub_zero, List.length_append, List.length_singleton, List.mem_singleton])); (focus (simp only [go_sem, Nat.reduceAdd, Nat.reduceMul, Nat.reduceEqDiff, Nat.reduceLeDiff, Nat.reduceLT, Nat.reduceSub, Int.reduceEq, Int.reduceBEq, Int.reduceLT, Int.reduceLE, Int.reduceAdd, Int.reduceToNat, reduceIte, reduceCtorEq, dcell, e0, List.length_map, hm, hw, List.getElem?_map, hget, Int.toNat_natCast, set_bytes, cells_bytes, ex_bytes, back_bytes, take_bytes, drop_bytes, app_bytes, app_one, List.take_length, List.drop_zero, List.length_set, ht1, hlt, ht3, ht4, ht5, List.length_drop, Nat.sub_zero, List.length_append, List.length_singleton])))
    | (apply awC_R; (focus (simp only [go_sem, Nat.reduceAdd, Nat.reduceMul, Nat.reduceEqDiff, Nat.reduceLeDiff, Nat.reduceLT, Nat.reduceSub, Int.reduceEq, Int.reduceBEq, Int.reduceLT, Int.reduceLE, Int.reduceAdd, Int.reduceToNat, reduceIte, reduceCtorEq, dcell, e0, List.length_map, hm, hw, List.getElem?_map, hget, Int.toNat_natCast, set_bytes, cells_bytes, ex_bytes, back_bytes, take_bytes, drop_bytes, app_bytes, app_one, List.take_length, List.drop_zero, List.length_set, ht1, hlt, ht3, ht4, ht5, List.length_drop, Nat.sub_zero, List.length_append, List.length_singleton]; first | exact n1 | exact (h_cipherplanmake_Roll _))); (focus (simp only [go_sem, Nat.reduceAdd, Nat.reduceMul, Nat.reduceEqDiff, Nat.reduceLeDiff, Nat.reduceLT, Nat.reduceSub, Int.reduceEq, Int.reduceBEq, Int.reduceLT, Int.reduceLE, Int.reduceAdd, Int.reduceToNat, reduceIte, reduceCtorEq, dcell, e0, List.length_map, hm, hw, List.getElem?_map, hget, Int.toNat_natCast, set_bytes, cells_bytes, ex_bytes, back_bytes, take_bytes, drop_bytes, app_bytes, app_one, List.take_length, List.drop_zero, List.length_set, ht1, hlt, ht3, ht4, ht5, List.length_drop, Nat.sub_zero, List.length_append, List.length_singleton, List.mem_singleton])))
    | ((first | apply awC_A | apply awCR_A); (focus (simp only [go_sem, Nat.reduceAdd, Nat.reduceMul, Nat.reduceEqDiff, Nat.reduceLeDiff, Nat.reduceLT, Nat.reduceSub, Int.reduceEq, Int.reduceBEq, Int.reduceLT, Int.reduceLE, Int.reduceAdd, Int.reduceToNat, reduceIte, reduceCtorEq, dcell, e0, List.length_map, hm, hw, List.getElem?_map, hget, Int.toNat_natCast, set_bytes, cells_bytes, ex_bytes, back_bytes, take_bytes, drop_bytes, app_bytes, app_one, List.take_length, List.drop_zero, List.length_set, ht1, hlt, ht3, ht4, ht5, List.length_drop, Nat.sub_zero, List.length_append, List.length_singleton]; first | exact n3.b | exact n4.b | exact x1.b | exact x2.b | exact (h_cipherplanmake_Light _).b | exact EvN.b h_cipherplanlaw02_awake | exact (h_cipherplanref02_Text _ _).b | exact (h_cipherplanmake_Mod _ _).b | exact (h_catalog_Parse _ (by first | assumption | omega | (simp; done))).b | exact (h_cipherplanref02_Parse _ (by first | assumption | omega | (simp; done))).b)); (focus (simp only [go_sem, Nat.reduceAdd, Nat.reduceMul, Nat.reduceEqDiff, Nat.reduceLeDiff, Nat.reduceLT, Nat.reduceSub, Int.reduceEq, Int.reduceBEq, Int.reduceLT, Int.reduceLE, Int.reduceAdd, Int.reduceToNat, reduceIte, reduceCtorEq, dcell, e0, List.length_map, hm, hw, List.getElem?_map, hget, Int.toNat_natCast, set_bytes, cells_bytes, ex_bytes, back_bytes, take_bytes, drop_bytes, app_bytes, app_one, List.take_length, List.drop_zero, List.length_set, ht1, hlt, ht3, ht4, ht5, List.length_drop, Nat.sub_zero, List.length_append, List.length_singleton])))
    | (simp only [List.length_append, List.length_cons, List.length_nil, List.length_map, Nat.reducePow, Nat.reduceAdd]; omega)
    | omega)
      all_goals first
        | (refine ends_r _ rfl ?_; simp only [go_sem, Nat.reduceAdd, Nat.reduceMul, Nat.reduceEqDiff, Nat.reduceLeDiff, Nat.reduceLT, Nat.reduceSub, Int.reduceEq, Int.reduceBEq, Int.reduceLT, Int.reduceLE, Int.reduceAdd, Int.reduceToNat, reduceIte, reduceCtorEq]; done)
        | trace_state
    · obtain ⟨d, hd⟩ : ∃ d, ([48, 49, 50, 51, 52, 53, 54, 55, 56, 57, 45] : List UInt8)[c.toNat % 11]? = some d := ⟨_, List.getElem?_eq_getElem (by simp; omega)⟩
      have hw1 : IntKind.i64.wrap (c.toNat : Int) = (c.toNat : Int) := wrap_id (by omega) (by omega)
      have hw2 : ((c.toNat : Int)).tmod 11 = ((c.toNat % 11 : Nat) : Int) := by rw [Int.tmod_eq_emod_of_nonneg (by omega)]; omega
      have ht : (T.set j d).take T.length = T.set j d := by rw [← List.length_set (as := T) (i := j) (a := d), List.take_length]
      have x1 := h_catalog_Parse (T.set j d) (by first | omega | (simp; omega))
      have x2 := h_cipherplanref02_Parse (T.set j d) (by first | omega | (simp; omega))
      rw [parse_eq] at x2
      obtain ⟨pa, pb, pe, hp⟩ : ∃ pa pb pe, parseS (T.set j d) = .tup [.agg [V.int pa, V.int pb], V.int pe] := by
        unfold parseS; split <;> exact ⟨_, _, _, rfl⟩
      rw [hp] at x1 x2
      repeat' (first
    | refine awp_seqR fun K' hK => ?_
    | refine awp_regR fun K' hK => ?_
    | refine awp_seqP 9 (fun _ => false) rfl (k_cipherplanlaw02_CatalogTexts_0) (q_cipherplanlaw02_CatalogTexts_0) fun K' hK => ?_
    | refine awp_regP 9 (fun _ => false) rfl (k_cipherplanlaw02_CatalogTexts_0) (q_cipherplanlaw02_CatalogTexts_0) fun K' hK => ?_
    | refine awp_seqP 16 (fun _ => true) rfl (k_cipherplanlaw02_CatalogTexts_1) (q_cipherplanlaw02_CatalogTexts_1) fun K' hK => ?_
    | refine awp_regP 16 (fun _ => true) rfl (k_cipherplanlaw02_CatalogTexts_1) (q_cipherplanlaw02_CatalogTexts_1) fun K' hK => ?_
    | refine awp_seqK ?_
    | refine awp_skip ?_
    | refine awp_block ?_
    | ((first | refine awp_cond ⟨_, rfl, fun hc => ?_, fun hc => ?_⟩ | refine awB_t (fun hc => ?_) (fun hc => ?_) | refine awB_f (fun hc => ?_) (fun hc => ?_)) <;> first | exact Bool.noConfusion hc | (exfalso; simp only [decide_eq_true_eq, decide_eq_false_iff_not, List.length_map, Bool.not_eq_true', Bool.not_eq_false'] at hc; omega) | (try simp only [decide_eq_true_eq, decide_eq_false_iff_not, beq_iff_eq, beq_eq_false_iff_ne, ne_eq, Bool.not_eq_true', Bool.not_eq_false'] at hc))
    | refine awp_ret ?_
    | refine awp_exit ?_
    | simp (maxSteps := 1000000) only [go_sem, Nat.reduceAdd, Nat.reduceMul, Nat.reduceEqDiff, Nat.reduceLeDiff, Nat.reduceLT, Nat.reduceSub, Int.reduceEq, Int.reduceBEq, Int.reduceLT, Int.reduceLE, Int.reduceAdd, Int.reduceToNat, reduceIte, reduceCtorEq, dcell, e0, List.length_map, hm, hw, List.getElem?_map, hget, Int.toNat_natCast, set_bytes, cells_bytes, ex_bytes, back_bytes, take_bytes, drop_bytes, app_bytes, app_one, List.take_length, List.drop_zero, List.length_set, ht, hd, hw1, hw2, p_cipherplanlaw02_CatalogTexts_0, p_cipherplanlaw02_CatalogTexts_1]
    | (refine hK _ ?_; clear hK; clear K')
    | refine And.intro ?_ ?_
    | (apply awC_D1; (focus (exact rfl)); (focus (simp only [go_sem, Nat.reduceAdd, Nat.reduceMul, Nat.reduceEqDiff, Nat.reduceLeDiff, Nat.reduceLT, Nat.reduceSub, Int.reduceEq, Int.reduceBEq, Int.reduceLT, Int.reduceLE, Int.reduceAdd, Int.reduceToNat, reduceIte, reduceCtorEq, dcell, e0, List.length_map, hm, hw, List.getElem?_map, hget, Int.toNat_natCast, set_bytes, cells_bytes, ex_bytes, back_bytes, take_bytes, drop_bytes, app_bytes, app_one, List.take_length, List.drop_zero, List.length_set, ht, hd, hw1, hw2]; first | exact n2 | exact (h_cipherplanmake_Use _ _ (by first | assumption | omega | (simp; done)) (by first | assumption | omega | (simp; done))))); (focus (simp only [go_sem, Nat.reduceAdd, Nat.reduceMul, Nat.reduceEqDiff, Nat.reduceLeDiff, Nat.reduceLT, Nat.reduceSub, Int.reduceEq, Int.reduceBEq, Int.reduceLT, Int.reduceLE, Int.reduceAdd, Int.reduceToNat, reduceIte, reduceCtorEq, dcell, e0, List.length_map, hm, hw, List.getElem?_map, hget, Int.toNat_natCast, set_bytes, cells_bytes, ex_bytes, back_bytes, take_bytes, drop_bytes, app_bytes, app_one, List.take_length, List.drop_zero, List.length_set, ht, hd, hw1, hw2, List.mem_singleton])); (focus (simp only [go_sem, Nat.reduceAdd, Nat.reduceMul, Nat.reduceEqDiff, Nat.reduceLeDiff, Nat.reduceLT, Nat.reduceSub, Int.reduceEq, Int.reduceBEq, Int.reduceLT, Int.reduceLE, Int.reduceAdd, Int.reduceToNat, reduceIte, reduceCtorEq, dcell, e0, List.length_map, hm, hw, List.getElem?_map, hget, Int.toNat_natCast, set_bytes, cells_bytes, ex_bytes, back_bytes, take_bytes, drop_bytes, app_bytes, app_one, List.take_length, List.drop_zero, List.length_set, ht, hd, hw1, hw2, List.mem_singleton])); (focus (simp only [go_sem, Nat.reduceAdd, Nat.reduceMul, Nat.reduceEqDiff, Nat.reduceLeDiff, Nat.reduceLT, Nat.reduceSub, Int.reduceEq, Int.reduceBEq, Int.reduceLT, Int.reduceLE, Int.reduceAdd, Int.reduceToNat, reduceIte, reduceCtorEq, dcell, e0, List.length_map, hm, hw, List.getElem?_map, hget, Int.toNat_natCast, set_bytes, cells_bytes, ex_bytes, back_bytes, take_bytes, drop_bytes, app_bytes, app_one, List.take_length, List.drop_zero, List.length_set, ht, hd, hw1, hw2])))
    | (apply awC_R; (focus (simp only [go_sem, Nat.reduceAdd, Nat.reduceMul, Nat.reduceEqDiff, Nat.reduceLeDiff, Nat.reduceLT, Nat.reduceSub, Int.reduceEq, Int.reduceBEq, Int.reduceLT, Int.reduceLE, Int.reduceAdd, Int.reduceToNat, reduceIte, reduceCtorEq, dcell, e0, List.length_map, hm, hw, List.getElem?_map, hget, Int.toNat_natCast, set_bytes, cells_bytes, ex_bytes, back_bytes, take_bytes, drop_bytes, app_bytes, app_one, List.take_length, List.drop_zero, List.length_set, ht, hd, hw1, hw2]; first | exact n1 | exact (h_cipherplanmake_Roll _))); (focus (simp only [go_sem, Nat.reduceAdd, Nat.reduceMul, Nat.reduceEqDiff, Nat.reduceLeDiff, Nat.reduceLT, Nat.reduceSub, Int.reduceEq, Int.reduceBEq, Int.reduceLT, Int.reduceLE, Int.reduceAdd, Int.reduceToNat, reduceIte, reduceCtorEq, dcell, e0, List.length_map, hm, hw, List.getElem?_map, hget, Int.toNat_natCast, set_bytes, cells_bytes, ex_bytes, back_bytes, take_bytes, drop_bytes, app_bytes, app_one, List.take_length, List.drop_zero, List.length_set, ht, hd, hw1, hw2, List.mem_singleton])))
    | ((first | apply awC_A | apply awCR_A); (focus (simp only [go_sem, Nat.reduceAdd, Nat.reduceMul, Nat.reduceEqDiff, Nat.reduceLeDiff, Nat.reduceLT, Nat.reduceSub, Int.reduceEq, Int.reduceBEq, Int.reduceLT, Int.reduceLE, Int.reduceAdd, Int.reduceToNat, reduceIte, reduceCtorEq, dcell, e0, List.length_map, hm, hw, List.getElem?_map, hget, Int.toNat_natCast, set_bytes, cells_bytes, ex_bytes, back_bytes, take_bytes, drop_bytes, app_bytes, app_one, List.take_length, List.drop_zero, List.length_set, ht, hd, hw1, hw2]; first | exact n3.b | exact n4.b | exact x1.b | exact x2.b | exact (h_cipherplanmake_Light _).b | exact EvN.b h_cipherplanlaw02_awake | exact (h_cipherplanref02_Text _ _).b | exact (h_cipherplanmake_Mod _ _).b | exact (h_catalog_Parse _ (by first | assumption | omega | (simp; done))).b | exact (h_cipherplanref02_Parse _ (by first | assumption | omega | (simp; done))).b)); (focus (simp only [go_sem, Nat.reduceAdd, Nat.reduceMul, Nat.reduceEqDiff, Nat.reduceLeDiff, Nat.reduceLT, Nat.reduceSub, Int.reduceEq, Int.reduceBEq, Int.reduceLT, Int.reduceLE, Int.reduceAdd, Int.reduceToNat, reduceIte, reduceCtorEq, dcell, e0, List.length_map, hm, hw, List.getElem?_map, hget, Int.toNat_natCast, set_bytes, cells_bytes, ex_bytes, back_bytes, take_bytes, drop_bytes, app_bytes, app_one, List.take_length, List.drop_zero, List.length_set, ht, hd, hw1, hw2])))
    | (simp only [List.length_append, List.length_cons, List.length_nil, List.length_map, Nat.reducePow, Nat.reduceAdd]; omega)
    | omega)
      all_goals first
        | (refine ends_r _ rfl ?_; simp only [go_sem, Nat.reduceAdd, Nat.reduceMul, Nat.reduceEqDiff, Nat.reduceLeDiff, Nat.reduceLT, Nat.reduceSub, Int.reduceEq, Int.reduceBEq, Int.reduceLT, Int.reduceLE, Int.reduceAdd, Int.reduceToNat, reduceIte, reduceCtorEq]; done)
        | trace_state
    · have x1 := h_catalog_Parse (T) (by first | omega | (simp; omega))
      have x2 := h_cipherplanref02_Parse (T) (by first | omega | (simp; omega))
      rw [parse_eq] at x2
      obtain ⟨pa, pb, pe, hp⟩ : ∃ pa pb pe, parseS (T) = .tup [.agg [V.int pa, V.int pb], V.int pe] := by
        unfold parseS; split <;> exact ⟨_, _, _, rfl⟩
      rw [hp] at x1 x2
      repeat' (first
    | refine awp_seqR fun K' hK => ?_
    | refine awp_regR fun K' hK => ?_
    | refine awp_seqP 9 (fun _ => false) rfl (k_cipherplanlaw02_CatalogTexts_0) (q_cipherplanlaw02_CatalogTexts_0) fun K' hK => ?_
    | refine awp_regP 9 (fun _ => false) rfl (k_cipherplanlaw02_CatalogTexts_0) (q_cipherplanlaw02_CatalogTexts_0) fun K' hK => ?_
    | refine awp_seqP 16 (fun _ => true) rfl (k_cipherplanlaw02_CatalogTexts_1) (q_cipherplanlaw02_CatalogTexts_1) fun K' hK => ?_
    | refine awp_regP 16 (fun _ => true) rfl (k_cipherplanlaw02_CatalogTexts_1) (q_cipherplanlaw02_CatalogTexts_1) fun K' hK => ?_
    | refine awp_seqK ?_
    | refine awp_skip ?_
    | refine awp_block ?_
    | ((first | refine awp_cond ⟨_, rfl, fun hc => ?_, fun hc => ?_⟩ | refine awB_t (fun hc => ?_) (fun hc => ?_) | refine awB_f (fun hc => ?_) (fun hc => ?_)) <;> first | exact Bool.noConfusion hc | (exfalso; simp only [decide_eq_true_eq, decide_eq_false_iff_not, List.length_map, Bool.not_eq_true', Bool.not_eq_false'] at hc; omega) | (try simp only [decide_eq_true_eq, decide_eq_false_iff_not, beq_iff_eq, beq_eq_false_iff_ne, ne_eq, Bool.not_eq_true', Bool.not_eq_false'] at hc))
    | refine awp_ret ?_
    | refine awp_exit ?_
    | simp (maxSteps := 1000000) only [go_sem, Nat.reduceAdd, Nat.reduceMul, Nat.reduceEqDiff, Nat.reduceLeDiff, Nat.reduceLT, Nat.reduceSub, Int.reduceEq, Int.reduceBEq, Int.reduceLT, Int.reduceLE, Int.reduceAdd, Int.reduceToNat, reduceIte, reduceCtorEq, dcell, e0, List.length_map, hm, hw, List.getElem?_map, hget, Int.toNat_natCast, set_bytes, cells_bytes, ex_bytes, back_bytes, take_bytes, drop_bytes, app_bytes, app_one, List.take_length, List.drop_zero, List.length_set, p_cipherplanlaw02_CatalogTexts_0, p_cipherplanlaw02_CatalogTexts_1]
    | (refine hK _ ?_; clear hK; clear K')
    | refine And.intro ?_ ?_
    | (apply awC_D1; (focus (exact rfl)); (focus (simp only [go_sem, Nat.reduceAdd, Nat.reduceMul, Nat.reduceEqDiff, Nat.reduceLeDiff, Nat.reduceLT, Nat.reduceSub, Int.reduceEq, Int.reduceBEq, Int.reduceLT, Int.reduceLE, Int.reduceAdd, Int.reduceToNat, reduceIte, reduceCtorEq, dcell, e0, List.length_map, hm, hw, List.getElem?_map, hget, Int.toNat_natCast, set_bytes, cells_bytes, ex_bytes, back_bytes, take_bytes, drop_bytes, app_bytes, app_one, List.take_length, List.drop_zero, List.length_set]; first | exact n2 | exact (h_cipherplanmake_Use _ _ (by first | assumption | omega | (simp; done)) (by first | assumption | omega | (simp; done))))); (focus (simp only [go_sem, Nat.reduceAdd, Nat.reduceMul, Nat.reduceEqDiff, Nat.reduceLeDiff, Nat.reduceLT, Nat.reduceSub, Int.reduceEq, Int.reduceBEq, Int.reduceLT, Int.reduceLE, Int.reduceAdd, Int.reduceToNat, reduceIte, reduceCtorEq, dcell, e0, List.length_map, hm, hw, List.getElem?_map, hget, Int.toNat_natCast, set_bytes, cells_bytes, ex_bytes, back_bytes, take_bytes, drop_bytes, app_bytes, app_one, List.take_length, List.drop_zero, List.length_set, List.mem_singleton])); (focus (simp only [go_sem, Nat.reduceAdd, Nat.reduceMul, Nat.reduceEqDiff, Nat.reduceLeDiff, Nat.reduceLT, Nat.reduceSub, Int.reduceEq, Int.reduceBEq, Int.reduceLT, Int.reduceLE, Int.reduceAdd, Int.reduceToNat, reduceIte, reduceCtorEq, dcell, e0, List.length_map, hm, hw, List.getElem?_map, hget, Int.toNat_natCast, set_bytes, cells_bytes, ex_bytes, back_bytes, take_bytes, drop_bytes, app_bytes, app_one, List.take_length, List.drop_zero, List.length_set, List.mem_singleton])); (focus (simp only [go_sem, Nat.reduceAdd, Nat.reduceMul, Nat.reduceEqDiff, Nat.reduceLeDiff, Nat.reduceLT, Nat.reduceSub, Int.reduceEq, Int.reduceBEq, Int.reduceLT, Int.reduceLE, Int.reduceAdd, Int.reduceToNat, reduceIte, reduceCtorEq, dcell, e0, List.length_map, hm, hw, List.getElem?_map, hget, Int.toNat_natCast, set_bytes, cells_bytes, ex_bytes, back_bytes, take_bytes, drop_bytes, app_bytes, app_one, List.take_length, List.drop_zero, List.length_set])))
    | (apply awC_R; (focus (simp only [go_sem, Nat.reduceAdd, Nat.reduceMul, Nat.reduceEqDiff, Nat.reduceLeDiff, Nat.reduceLT, Nat.reduceSub, Int.reduceEq, Int.reduceBEq, Int.reduceLT, Int.reduceLE, Int.reduceAdd, Int.reduceToNat, reduceIte, reduceCtorEq, dcell, e0, List.length_map, hm, hw, List.getElem?_map, hget, Int.toNat_natCast, set_bytes, cells_bytes, ex_bytes, back_bytes, take_bytes, drop_bytes, app_bytes, app_one, List.take_length, List.drop_zero, List.length_set]; first | exact n1 | exact (h_cipherplanmake_Roll _))); (focus (simp only [go_sem, Nat.reduceAdd, Nat.reduceMul, Nat.reduceEqDiff, Nat.reduceLeDiff, Nat.reduceLT, Nat.reduceSub, Int.reduceEq, Int.reduceBEq, Int.reduceLT, Int.reduceLE, Int.reduceAdd, Int.reduceToNat, reduceIte, reduceCtorEq, dcell, e0, List.length_map, hm, hw, List.getElem?_map, hget, Int.toNat_natCast, set_bytes, cells_bytes, ex_bytes, back_bytes, take_bytes, drop_bytes, app_bytes, app_one, List.take_length, List.drop_zero, List.length_set, List.mem_singleton])))
    | ((first | apply awC_A | apply awCR_A); (focus (simp only [go_sem, Nat.reduceAdd, Nat.reduceMul, Nat.reduceEqDiff, Nat.reduceLeDiff, Nat.reduceLT, Nat.reduceSub, Int.reduceEq, Int.reduceBEq, Int.reduceLT, Int.reduceLE, Int.reduceAdd, Int.reduceToNat, reduceIte, reduceCtorEq, dcell, e0, List.length_map, hm, hw, List.getElem?_map, hget, Int.toNat_natCast, set_bytes, cells_bytes, ex_bytes, back_bytes, take_bytes, drop_bytes, app_bytes, app_one, List.take_length, List.drop_zero, List.length_set]; first | exact n3.b | exact n4.b | exact x1.b | exact x2.b | exact (h_cipherplanmake_Light _).b | exact EvN.b h_cipherplanlaw02_awake | exact (h_cipherplanref02_Text _ _).b | exact (h_cipherplanmake_Mod _ _).b | exact (h_catalog_Parse _ (by first | assumption | omega | (simp; done))).b | exact (h_cipherplanref02_Parse _ (by first | assumption | omega | (simp; done))).b)); (focus (simp only [go_sem, Nat.reduceAdd, Nat.reduceMul, Nat.reduceEqDiff, Nat.reduceLeDiff, Nat.reduceLT, Nat.reduceSub, Int.reduceEq, Int.reduceBEq, Int.reduceLT, Int.reduceLE, Int.reduceAdd, Int.reduceToNat, reduceIte, reduceCtorEq, dcell, e0, List.length_map, hm, hw, List.getElem?_map, hget, Int.toNat_natCast, set_bytes, cells_bytes, ex_bytes, back_bytes, take_bytes, drop_bytes, app_bytes, app_one, List.take_length, List.drop_zero, List.length_set])))
    | (simp only [List.length_append, List.length_cons, List.length_nil, List.length_map, Nat.reducePow, Nat.reduceAdd]; omega)
    | omega)
      all_goals first
        | (refine ends_r _ rfl ?_; simp only [go_sem, Nat.reduceAdd, Nat.reduceMul, Nat.reduceEqDiff, Nat.reduceLeDiff, Nat.reduceLT, Nat.reduceSub, Int.reduceEq, Int.reduceBEq, Int.reduceLT, Int.reduceLE, Int.reduceAdd, Int.reduceToNat, reduceIte, reduceCtorEq]; done)
        | trace_state
  · have e0 : decide ((l.length : Int) ≤ 400) = false := by simp; omega
    repeat' (first
    | refine awp_seqR fun K' hK => ?_
    | refine awp_regR fun K' hK => ?_
    | refine awp_seqP 9 (fun _ => false) rfl (k_cipherplanlaw02_CatalogTexts_0) (q_cipherplanlaw02_CatalogTexts_0) fun K' hK => ?_
    | refine awp_regP 9 (fun _ => false) rfl (k_cipherplanlaw02_CatalogTexts_0) (q_cipherplanlaw02_CatalogTexts_0) fun K' hK => ?_
    | refine awp_seqP 16 (fun _ => true) rfl (k_cipherplanlaw02_CatalogTexts_1) (q_cipherplanlaw02_CatalogTexts_1) fun K' hK => ?_
    | refine awp_regP 16 (fun _ => true) rfl (k_cipherplanlaw02_CatalogTexts_1) (q_cipherplanlaw02_CatalogTexts_1) fun K' hK => ?_
    | refine awp_seqK ?_
    | refine awp_skip ?_
    | refine awp_block ?_
    | ((first | refine awp_cond ⟨_, rfl, fun hc => ?_, fun hc => ?_⟩ | refine awB_t (fun hc => ?_) (fun hc => ?_) | refine awB_f (fun hc => ?_) (fun hc => ?_)) <;> first | exact Bool.noConfusion hc | (exfalso; simp only [decide_eq_true_eq, decide_eq_false_iff_not, List.length_map, Bool.not_eq_true', Bool.not_eq_false'] at hc; omega) | (try simp only [decide_eq_true_eq, decide_eq_false_iff_not, beq_iff_eq, beq_eq_false_iff_ne, ne_eq, Bool.not_eq_true', Bool.not_eq_false'] at hc))
    | refine awp_ret ?_
    | refine awp_exit ?_
    | simp (maxSteps := 1000000) only [go_sem, Nat.reduceAdd, Nat.reduceMul, Nat.reduceEqDiff, Nat.reduceLeDiff, Nat.reduceLT, Nat.reduceSub, Int.reduceEq, Int.reduceBEq, Int.reduceLT, Int.reduceLE, Int.reduceAdd, Int.reduceToNat, reduceIte, reduceCtorEq, e0, p_cipherplanlaw02_CatalogTexts_0, p_cipherplanlaw02_CatalogTexts_1]
    | (refine hK _ ?_; clear hK; clear K')
    | refine And.intro ?_ ?_
    | (apply awC_D1; (focus (exact rfl)); (focus (simp only [go_sem, Nat.reduceAdd, Nat.reduceMul, Nat.reduceEqDiff, Nat.reduceLeDiff, Nat.reduceLT, Nat.reduceSub, Int.reduceEq, Int.reduceBEq, Int.reduceLT, Int.reduceLE, Int.reduceAdd, Int.reduceToNat, reduceIte, reduceCtorEq, e0]; first | exact (h_cipherplanmake_Use _ _ (by first | assumption | omega | (simp; done)) (by first | assumption | omega | (simp; done))))); (focus (simp only [go_sem, Nat.reduceAdd, Nat.reduceMul, Nat.reduceEqDiff, Nat.reduceLeDiff, Nat.reduceLT, Nat.reduceSub, Int.reduceEq, Int.reduceBEq, Int.reduceLT, Int.reduceLE, Int.reduceAdd, Int.reduceToNat, reduceIte, reduceCtorEq, e0, List.mem_singleton])); (focus (simp only [go_sem, Nat.reduceAdd, Nat.reduceMul, Nat.reduceEqDiff, Nat.reduceLeDiff, Nat.reduceLT, Nat.reduceSub, Int.reduceEq, Int.reduceBEq, Int.reduceLT, Int.reduceLE, Int.reduceAdd, Int.reduceToNat, reduceIte, reduceCtorEq, e0, List.mem_singleton])); (focus (simp only [go_sem, Nat.reduceAdd, Nat.reduceMul, Nat.reduceEqDiff, Nat.reduceLeDiff, Nat.reduceLT, Nat.reduceSub, Int.reduceEq, Int.reduceBEq, Int.reduceLT, Int.reduceLE, Int.reduceAdd, Int.reduceToNat, reduceIte, reduceCtorEq, e0])))
    | (apply awC_R; (focus (simp only [go_sem, Nat.reduceAdd, Nat.reduceMul, Nat.reduceEqDiff, Nat.reduceLeDiff, Nat.reduceLT, Nat.reduceSub, Int.reduceEq, Int.reduceBEq, Int.reduceLT, Int.reduceLE, Int.reduceAdd, Int.reduceToNat, reduceIte, reduceCtorEq, e0]; first | exact (h_cipherplanmake_Roll _))); (focus (simp only [go_sem, Nat.reduceAdd, Nat.reduceMul, Nat.reduceEqDiff, Nat.reduceLeDiff, Nat.reduceLT, Nat.reduceSub, Int.reduceEq, Int.reduceBEq, Int.reduceLT, Int.reduceLE, Int.reduceAdd, Int.reduceToNat, reduceIte, reduceCtorEq, e0, List.mem_singleton])))
    | ((first | apply awC_A | apply awCR_A); (focus (simp only [go_sem, Nat.reduceAdd, Nat.reduceMul, Nat.reduceEqDiff, Nat.reduceLeDiff, Nat.reduceLT, Nat.reduceSub, Int.reduceEq, Int.reduceBEq, Int.reduceLT, Int.reduceLE, Int.reduceAdd, Int.reduceToNat, reduceIte, reduceCtorEq, e0]; first | exact (h_cipherplanmake_Light _).b | exact EvN.b h_cipherplanlaw02_awake | exact (h_cipherplanref02_Text _ _).b | exact (h_cipherplanmake_Mod _ _).b | exact (h_catalog_Parse _ (by first | assumption | omega | (simp; done))).b | exact (h_cipherplanref02_Parse _ (by first | assumption | omega | (simp; done))).b)); (focus (simp only [go_sem, Nat.reduceAdd, Nat.reduceMul, Nat.reduceEqDiff, Nat.reduceLeDiff, Nat.reduceLT, Nat.reduceSub, Int.reduceEq, Int.reduceBEq, Int.reduceLT, Int.reduceLE, Int.reduceAdd, Int.reduceToNat, reduceIte, reduceCtorEq, e0])))
    | (simp only [List.length_append, List.length_cons, List.length_nil, List.length_map, Nat.reducePow, Nat.reduceAdd]; omega)
    | omega)
    refine ends_r _ rfl ?_; simp only [go_sem, Nat.reduceAdd, Nat.reduceMul, Nat.reduceEqDiff, Nat.reduceLeDiff, Nat.reduceLT, Nat.reduceSub, Int.reduceEq, Int.reduceBEq, Int.reduceLT, Int.reduceLE, Int.reduceAdd, Int.reduceToNat, reduceIte, reduceCtorEq]
end Av
end

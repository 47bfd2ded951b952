/- K15 -/
import Derived.Test.YtlpaikjhphkioaaGreatK14
import Derived.Test.YtlpaikjhphkioaaGreatK13
import Derived.Test.YtlpaikjhphkioaaGreatK12
import Derived.Test.YtlpaikjhphkioaaGreatK9
set_option linter.unusedVariables false
set_option linter.unusedSimpArgs false
section
set_option maxRecDepth 10000
set_option maxHeartbeats 4000000
namespace Av
open Go
attribute [local irreducible] AWp wo acE afd awS awC al0 awQ am3 YI adu ak3 awR aeq awB okR afY ris
def fcE (e : J8) : List V := [V.int e.num, .sl 1 (e.hosts.map V.str), .sl 1 (e.machs.map V.int), .sl 1 (QG e.finds)]
def aam (l : List Qa) (e : J8) (day age : Int) (k : Nat) (m : PM) : St := Wo [(0, .sl 11 (l.map Qa.v)), (2, V.int day), (3, V.int age), (5, .ptr 0 0), (12, .mp 1), (51, .sl 1 (QG e.finds)), (52, V.int e.finds.length), (53, V.int k)] [(0, .box true (fcE e)), (1, .map (m.1.map PPl.v) (QG m.2) 0)] 2
def agu (l : List Qa) (e : J8) (m : PM) (is : List Nat) : St := Wo [(0, .sl 11 (l.map Qa.v)), (5, .ptr 0 0), (18, .hd 3 0 (aiV l e.num m.2 is).length), (118, .ptr 2 0)] [(0, .box true (fcE e)), (1, .map (m.1.map PPl.v) (QG m.2) 0), (2, .iter 1 m.2.length is m.2.length), (3, .buf true 8 ((aiV l e.num m.2 is).map Qi.v))] 4
def aaf : List AO := [mv 80 17, xo 81 (.un .not (.t 80)), mv 82 81, xg 83 (.faddr 3 (.t 15)) 82 false, xg 84 (.load false 1 (.t 83)) 82 false, mg 85 0 82 false, mg 86 16 82 false, xg 87 (.iaddr 11 (.t 85) (.t 86)) 82 false, xg 88 (.faddr 3 (.t 87)) 82 false, xg 89 (.load false 1 (.t 88)) 82 false, xg 90 (.bin .gtr (.t 84) (.t 89)) 82 false, xo 91 (.pick (.t 82) (.c (V.bool true)) (.t 90)), mv 92 91, xg 93 (.faddr 3 (.t 15)) 92 false, xg 94 (.load false 1 (.t 93)) 92 false, mg 95 0 92 false, mg 96 16 92 false, xg 97 (.iaddr 11 (.t 95) (.t 96)) 92 false, xg 98 (.faddr 3 (.t 97)) 92 false, xg 99 (.load false 1 (.t 98)) 92 false, xg 100 (.bin .eql (.t 94) (.t 99)) 92 false, mg 101 100 92 false, xg 102 (.faddr 4 (.t 15)) 101 true, xg 103 (.load false 1 (.t 102)) 101 true, mg 104 0 101 true, mg 105 16 101 true, xg 106 (.iaddr 11 (.t 104) (.t 105)) 101 true, xg 107 (.faddr 4 (.t 106)) 101 true, xg 108 (.load false 1 (.t 107)) 101 true, xg 109 (.bin .gtr (.t 103) (.t 108)) 101 true, xg 110 (.pick (.t 101) (.t 109) (.c (V.bool false))) 92 false, xo 111 (.pick (.t 92) (.c (V.bool true)) (.t 110))]
def aaI : List (List Nat) := [[], [0], [1], [2], [3, 2], [2], [2], [5, 6, 2], [7, 2], [8, 2], [4, 9, 2], [2, 10], [11, 2], [12], [13, 12], [12], [12], [15, 16, 12], [17, 12], [18, 12], [14, 19, 12], [20, 12, 12], [21], [22, 21], [21], [21], [24, 25, 21], [26, 21], [27, 21], [23, 28, 21], [21, 29, 12], [12, 30]]
def v7 : OT := .one 0 (.one 1 (.one 2 (.one 3 (.one 4 (.one 5 (.one 6 (.one 7 (.one 8 (.one 9 (.one 10 (.one 11 (.one 12 (.one 13 (.one 14 (.one 15 (.one 16 (.one 17 (.one 18 (.one 19 (.one 20 (.one 21 (.one 22 (.one 23 (.one 24 (.one 25 (.one 26 (.one 27 (.one 28 (.one 29 (.one 30 (.one 31 .done)))))))))))))))))))))))))))))))
@[go_sem] def aab : OP := oN 0 (mv 80 17) (oN 1 (xo 81 (.un .not (.t 80))) (oN 2 (mv 82 81) (oN 3 (xg 83 (.faddr 3 (.t 15)) 82 false) (oN 4 (xg 84 (.load false 1 (.t 83)) 82 false) (oN 5 (mg 85 0 82 false) (oN 6 (mg 86 16 82 false) (oN 7 (xg 87 (.iaddr 11 (.t 85) (.t 86)) 82 false) (oN 8 (xg 88 (.faddr 3 (.t 87)) 82 false) (oN 9 (xg 89 (.load false 1 (.t 88)) 82 false) (oN 10 (xg 90 (.bin .gtr (.t 84) (.t 89)) 82 false) (oN 11 (xo 91 (.pick (.t 82) (.c (V.bool true)) (.t 90))) (oN 12 (mv 92 91) (oN 13 (xg 93 (.faddr 3 (.t 15)) 92 false) (oN 14 (xg 94 (.load false 1 (.t 93)) 92 false) (oN 15 (mg 95 0 92 false) (oN 16 (mg 96 16 92 false) (oN 17 (xg 97 (.iaddr 11 (.t 95) (.t 96)) 92 false) (oN 18 (xg 98 (.faddr 3 (.t 97)) 92 false) (oN 19 (xg 99 (.load false 1 (.t 98)) 92 false) (oN 20 (xg 100 (.bin .eql (.t 94) (.t 99)) 92 false) (oN 21 (mg 101 100 92 false) (oN 22 (xg 102 (.faddr 4 (.t 15)) 101 true) (oN 23 (xg 103 (.load false 1 (.t 102)) 101 true) (oN 24 (mg 104 0 101 true) (oN 25 (mg 105 16 101 true) (oN 26 (xg 106 (.iaddr 11 (.t 104) (.t 105)) 101 true) (oN 27 (xg 107 (.faddr 4 (.t 106)) 101 true) (oN 28 (xg 108 (.load false 1 (.t 107)) 101 true) (oN 29 (xg 109 (.bin .gtr (.t 103) (.t 108)) 101 true) (oN 30 (xg 110 (.pick (.t 101) (.t 109) (.c (V.bool false))) 92 false) (oN 31 (xo 111 (.pick (.t 92) (.c (V.bool true)) (.t 110))) .done)))))))))))))))))))))))))))))))
instance : RG [] v7 (aab) (aaf) aaI 32 (fun _ => true) := ⟨rfl, by kernel_rfl, by kernel_rfl⟩
def vC (Ka J4 wx QY Vi : Nat) : AC := Qb [0, 2, 3, 5] (.reg [xo 5 (.box true 4 (.t 1)), xo 8 (.mknil 8), mc 9 (V.int 0)]) (Qb [0, 2, 3, 5, 10, 11] (.reg [mv 23 0, xo 24 (.load true 4 (.t 5)), cl 25 Ka [23, 24], mv 22 25, ex 26 22 0, ex 27 22 1, mv 10 26, mv 11 27]) (Qb [0, 2, 3, 5, 10] (.block 0 (Qb [0, 2, 3, 5, 10, 11, 28] (.reg [mv 29 0, cl 30 J4 [29], xo 31 (.un .not (.t 30)), mv 28 31]) (.cond (.t 28) (Qb [8, 9] (.reg [xo 8 (.mknil 8), mc 9 (V.int 24)]) .ret) (Qb [0, 2, 3, 5, 10, 11, 32] (.reg [mv 33 2, bc 34 .lss 33 (V.int 0), mv 35 34, mg 36 2 35 false, xg 37 (.bin .gtr (.t 36) (.c (V.int 40000))) 35 false, xo 38 (.pick (.t 35) (.c (V.bool true)) (.t 37)), mv 39 38, mg 40 3 39 false, xg 41 (.bin .lss (.t 40) (.c (V.int 0))) 39 false, xo 42 (.pick (.t 39) (.c (V.bool true)) (.t 41)), mv 43 42, mg 44 3 43 false, xg 45 (.bin .gtr (.t 44) (.c (V.int 4000))) 43 false, xo 46 (.pick (.t 43) (.c (V.bool true)) (.t 45)), mv 32 46]) (.cond (.t 32) (Qb [8, 9] (.reg [xo 8 (.mknil 8), mc 9 (V.int 2)]) .ret) (Qb [0, 2, 3, 5, 10, 47] (.reg [mv 48 11, xo 49 (.un .not (.t 48)), mv 47 49]) (.cond (.t 47) (Qb [8, 9] (.reg [xo 8 (.mknil 8), mc 9 (V.int 4)]) .ret) .skip))))))) (Qb [0, 2, 3, 5, 10, 12] (.reg [xo 50 (.mkmap), mv 12 50]) (Qb [0, 5, 12] (Qb [0, 2, 3, 5, 12, 51, 52, 53] (.reg [mv 51 10, ln 52 51, mc 53 (V.int 0)]) (.block 1 (Y6 [0, 2, 3, 5, 12, 51, 52, 53] (Qb [0, 2, 3, 5, 12, 51, 52, 53, 54] (.reg [bn 54 .lss 53 52]) (Qb [0, 2, 3, 5, 12, 51, 52, 53] (.cond (.t 54) .skip (.exit 1)) (Qb [0, 2, 3, 5, 12, 51, 52, 53] (.block 2 (Qb [0, 2, 3, 5, 12, 14, 51, 52, 53] (.reg [ia 55 1 51 53, ld 56 1 55, mv 14 56]) (Qb [0, 2, 3, 5, 12, 14, 15, 51, 52, 53] (.reg [mv 57 0, mv 58 14, ia 59 11 57 58, xo 60 (.load true 11 (.t 59)), xo 15 (.alloc [.val vi0, .val vs0, .val vi0, .val vi0, .val vi0, .val vi0, .val vs0, .val vi0, .val vi0, .val vi0, .val vs0]), xs 11 15 60]) (Qb [0, 2, 3, 5, 12, 14, 15, 51, 52, 53] (Qb [0, 2, 3, 5, 12, 14, 15, 51, 52, 53, 72] (.reg [fa 61 3 15, ld 62 1 61, mv 63 2, bn 64 .gtr 62 63, mv 65 64, xg 66 (.faddr 3 (.t 15)) 65 false, xg 67 (.load false 1 (.t 66)) 65 false, mg 68 2 65 false, mg 69 3 65 false, xg 70 (.bin .sub (.t 68) (.t 69)) 65 false, xg 71 (.bin .lss (.t 67) (.t 70)) 65 false, xo 72 (.pick (.t 65) (.c (V.bool true)) (.t 71))]) (.cond (.t 72) (.exit 2) .skip)) (Qb [0, 2, 3, 5, 12, 14, 15, 16, 17, 51, 52, 53] (.reg [mv 74 12, xo 75 (.load true 11 (.t 15)), cl 76 wx [75], xo 77 (.mapget true false [vi0] true [1, 1, 0, 0, 0, 0] (.t 74) (.t 76)), mv 73 77, ex 78 73 0, ex 79 73 1, mv 16 78, mv 17 79]) (Qb [0, 2, 3, 5, 12, 14, 15, 51, 52, 53, 111] (wP [] v7 (aab) (aaf) aaI) (.cond (.t 111) (.reg [mv 112 12, xo 113 (.load true 11 (.t 15)), cl 114 wx [113], mv 115 14, ⟨none, .mapset true [1, 1, 0, 0, 0, 0] (.t 112) (.t 114) (.t 115), none⟩]) .skip))))))) (.reg [bc 116 .add 53 (V.int 1), mv 53 116]))))))) (Qb [0, 5, 12, 18] (.reg [xo 18 (.mknil 8)]) (Qb [18] (Qb [0, 5, 18, 118] (.reg [mv 117 12, xo 118 (.rng (.t 117))]) (.block 3 (Y6 [0, 5, 18, 118] (Qb [0, 5, 18, 118, 120] (.reg [xo 119 (.nxt (.t 118)), ex 120 119 0]) (Qb [0, 5, 18, 118] (.cond (.t 120) .skip (.exit 3)) (.block 4 (Qb [0, 5, 18, 20, 118] (.reg [xo 121 (.ent (.t 118)), ex 122 121 1, mv 20 122]) (Qb [0, 5, 18, 20, 21, 118] (.reg [mv 123 0, mv 124 20, ia 125 11 123 124, xo 126 (.load true 11 (.t 125)), xo 21 (.alloc [.val vi0, .val vs0, .val vi0, .val vi0, .val vi0, .val vi0, .val vs0, .val vi0, .val vi0, .val vi0, .val vs0]), xs 11 21 126]) (Qb [0, 5, 18, 20, 21, 118, 129] (.reg [fa 127 5 21, ld 128 1 127, bc 129 .neq 128 (V.int 8)]) (.cond (.t 129) (.reg [mv 130 18, fa 131 0 5, ld 132 1 131, fa 133 6 21, ld 134 1 133, fa 135 5 21, ld 136 1 135, fa 137 7 21, xo 138 (.load true 2 (.t 137)), fa 139 9 21, ld 140 1 139, fa 141 10 21, ld 142 1 141, mv 143 20, xo 144 (.build [vi0, vs0, vi0, vi0, vi0, vi0, vs0, vi0] [(0, 1, (.t 132)), (1, 1, (.t 134)), (2, 1, (.t 136)), (3, 2, (.t 138)), (5, 1, (.t 140)), (6, 1, (.t 142)), (7, 1, (.t 143))]), xo 145 (.bslice 1 8 true [vi0, vs0, vi0, vi0, vi0, vi0, vs0, vi0] [(0, (.t 144))]), xo 146 (.append 8 80 [vi0, vs0, vi0, vi0, vi0, vi0, vs0, vi0] (.t 130) (.t 145)), mv 18 146]) .skip)))))))))) (Qb [18] (.reg [mv 147 18, xo 148 (.call QY [(.t 147), (.c (.clo Vi []))])]) (Qb [8, 9] (.reg [mv 149 18, mv 8 149, mc 9 (V.int 0)]) .ret)))))))) def r_asset_Facts : List Jf := [.tmp 8, .tmp 9]
def wh (Γ : Env) (f : Nat) : Prop := ∀ (l : List Qa) (e : J8) (day age : Int) (hl : l.length < 2 ^ 40) (hz : ∀ x ∈ l, x.Sz) (hnm : wR l = true) (hdy : 0 ≤ day ∧ day ≤ 40000) (hag : 0 ≤ age ∧ age ≤ 4000) (ha : e.finds.Pairwise (· < ·)) (hb : ∀ i ∈ e.finds, i < l.length) (hn : e.finds.length ≤ 12), EvC Γ f [.sl 11 (l.map Qa.v), e.v, V.int day, V.int age] (.tup [.sl 8 ((yh l e.num e.finds day age).map Qi.v), V.int 0])
theorem ahp {Γ : Env} {f Ka J4 wx QY Vi : Nat} (h : Has Γ.P f 150 (vC Ka J4 wx QY Vi) r_asset_Facts) (z0 : jw Γ Ka) (z1 : VN Γ J4) (z2 : acq Γ wx) (z3 : JO Γ QY) (z4 : jx Γ Vi) : wh Γ f := by
  intro l e day age hl hz hnm hdy hag ha hb hn
  refine Y8 h zsi (by simp only [V.closed, Qh, and_self]) fun C hC hm => ?_
  subst hC
  unfold vC
  have gI := z0 l e ha hb hn
  have gN := z1 l hl hz
  rw [hnm] at gN
  have gN := gN.b
  have d1 : decide (day < 0) = false := decide_eq_false (by omega)
  have d2 : decide (day > 40000) = false := decide_eq_false (by omega)
  have d3 : decide (age < 0) = false := decide_eq_false (by omega)
  have d4 : decide (age > 4000) = false := decide_eq_false (by omega)
  have hpc : (QG e.finds).length = e.finds.length := List.length_map _
  simp only [J8.v] at gI ⊢
  repeat' (first | (refine zsk ?_; intro K' hK) | (refine zrg ?_; intro K' hK) | refine zsp ?_ | (refine zsc ?_ ?_ <;> intro hc <;> first | exact znh | try simp only [znz] at hc) | simp (maxSteps := 1000000) only [go_sem, Nat.reduceAdd, Nat.reduceMul, Nat.reduceEqDiff, Nat.reduceLeDiff, Nat.reduceLT, Nat.reduceSub, Int.reduceEq, Int.reduceBEq, Int.reduceLT, Int.reduceLE, Int.reduceAdd, Int.reduceToNat, reduceIte, reduceCtorEq, d1, d2, d3, d4, hpc] | (refine hK _ ?_; clear hK K') | apply zan | (apply qX; (focus exact rfl); (focus first | exact (z3 _ _ _ zsd zsd)); (focus exact rfl); (focus (first | (simp; done) | omega | (simp only [List.length_map]; omega)))) | ((first | apply QS | apply Q1); (focus first | exact C gI | exact gN | exact (z0 _ _ zsd zsd zsd).b | exact (z1 _ zsd zsd).b | exact (z2 _).b | exact (z4 _ _).b)) | exact zsq | fail)
  refine QH (ι := Nat) (fun k => k ≤ e.finds.length) (fun k => aam l e day age k (alT l day age (e.finds.take k))) (fun k => e.finds.length - k) 0 (Nat.zero_le _) (Ql [(1, 33000)]) (Qu [(1, 33000)] (by simp only [go_sem, zwl, Nat.reduceAdd, Nat.reduceMul, Nat.reduceEqDiff, Nat.reduceLT, Int.reduceToNat, reduceIte, reduceCtorEq, aam, fcE, List.length_map] <;> exact zcc) (by simp only [go_sem, zwl, Nat.reduceAdd, Nat.reduceMul, Nat.reduceEqDiff, Nat.reduceLT, Int.reduceToNat, reduceIte, reduceCtorEq, aam, fcE, QD, QU] <;> exact zcc) (by simp [aam, Ql]) (by simp [aam]; omega) (by omega)) fun k hk K' hL => ?_
  have hM := akU l day age e.finds k hk
  rcases hdr : e.finds.drop k with _ | ⟨i, r⟩
  · have hkl := Je hdr
    have e1 : decide ((k : Int) < (e.finds.length : Int)) = false := by simp; omega
    obtain rfl : k = e.finds.length := by omega
    clear hL
    rw [List.take_length] at hM ⊢
    have hvs := fun is hd hb he => aoP (l := l) (num := (e.num : Int)) (day := day) (age := age) (fs := e.finds) (is := is) hd hb he
    generalize alT l day age e.finds = m at *
    have hkl : m.1.length = m.2.length := hM.len
    repeat' (first | (refine zsk ?_; intro K' hK) | (refine zrg ?_; intro K' hK) | refine zsp ?_ | (refine zsc ?_ ?_ <;> intro hc <;> first | exact znh | try simp only [znz] at hc) | simp (maxSteps := 1000000) only [go_sem, Nat.reduceAdd, Nat.reduceMul, Nat.reduceEqDiff, Nat.reduceLeDiff, Nat.reduceLT, Nat.reduceSub, Int.reduceEq, Int.reduceBEq, Int.reduceLT, Int.reduceLE, Int.reduceAdd, Int.reduceToNat, reduceIte, reduceCtorEq, aam, fcE, Wo, e1, hkl, List.length_map, Nat.zero_add] | (refine hK _ ?_; clear hK K') | apply zan | (apply qX; (focus exact rfl); (focus first | exact (z3 _ _ _ zsd zsd)); (focus exact rfl); (focus (first | (simp; done) | omega | (simp only [List.length_map]; omega)))) | ((first | apply QS | apply Q1); (focus first | exact (z0 _ _ zsd zsd zsd).b | exact (z1 _ zsd zsd).b | exact (z2 _).b | exact (z4 _ _).b)) | exact zsq | fail)
    have hv0 : aiV l e.num m.2 [] = [] := rfl
    refine QH (ι := List Nat) (fun is => is.Nodup ∧ ∀ a ∈ is, a < m.2.length) (fun is => agu l e m is) (fun is => m.2.length - is.length) [] ⟨List.nodup_nil, by simp⟩ (Ql [(3, 1002), (2, 3002)]) (Qu [(3, 1002), (2, 3002)] (by simp only [go_sem, zwl, Nat.reduceAdd, Nat.reduceMul, Nat.reduceEqDiff, Nat.reduceLT, Int.reduceToNat, reduceIte, reduceCtorEq, agu, fcE, hv0, List.length_nil, List.map_nil, List.length_map] <;> exact zcc) (by simp only [go_sem, zwl, Nat.reduceAdd, Nat.reduceMul, Nat.reduceEqDiff, Nat.reduceLT, Int.reduceToNat, reduceIte, reduceCtorEq, agu, fcE, hv0, List.length_nil, List.map_nil, QD, QU] <;> exact zcc) (by simp [agu, Ql]) (by simp [agu]; omega) (by omega)) fun is his K' hL => ?_
    obtain ⟨his1, his2⟩ := his
    have hln : ∀ js : List Nat, js.Nodup → (∀ a ∈ js, a < m.2.length) → js.length ≤ m.2.length := fun js h1 h2 => by
      have := List.Nodup.length_le_of_subset h1 (fun a ha => List.mem_range.2 (h2 a ha))
      rwa [List.length_range] at this
    have hvl : (aiV l e.num m.2 is).length ≤ is.length := List.length_filterMap_le _ _
    have hil := hln is his1 his2
    have hml := hM.le
    rcases hun : afR 0 m.2.length is with _ | ⟨u, us⟩
    · have hall : ∀ a, a < m.2.length → a ∈ is := fun a ha => by
        by_cases hin : a ∈ is
        · exact hin
        · have : a ∈ afR 0 m.2.length is := aaY.2 ⟨ha, by rwa [Nat.zero_add]⟩
          rw [hun] at this; cases this
      have hsort := hvs is his1 his2 hall
      clear hL hvs
      simp only [agu, fcE]
      generalize aiV l e.num m.2 is = out at *
      have hol : out.length ≤ 12 := by omega
      have gT := z3 out Vi ajg (fun x _ y _ => z4 x y) hol
      have d5 : (fun x y : Qi => decide (ajg x y < 0)) = anW := rfl
      rw [d5, hsort] at gT
      have htk : List.take out.length ((yh l e.num e.finds day age).map Qi.v) = (yh l e.num e.finds day age).map Qi.v := List.take_of_length_le (by rw [List.length_map, ← hsort, acZ]; omega)
      repeat' (first | (refine zsk ?_; intro K' hK) | (refine zrg ?_; intro K' hK) | refine zsp ?_ | (refine zsc ?_ ?_ <;> intro hc <;> first | exact znh | try simp only [znz] at hc) | simp (maxSteps := 1000000) only [go_sem, Nat.reduceAdd, Nat.reduceMul, Nat.reduceEqDiff, Nat.reduceLeDiff, Nat.reduceLT, Nat.reduceSub, Int.reduceEq, Int.reduceBEq, Int.reduceLT, Int.reduceLE, Int.reduceAdd, Int.reduceToNat, reduceIte, reduceCtorEq, Wo, hkl, List.length_map, Nat.zero_add, hun, htk] | (refine hK _ ?_; clear hK K') | apply zan | (apply qX; (focus exact rfl); (focus first | exact gT | exact (z3 _ _ _ zsd zsd)); (focus exact rfl); (focus (first | (simp; done) | omega | (simp only [List.length_map]; omega)))) | ((first | apply QS | apply Q1); (focus first | exact (z0 _ _ zsd zsd zsd).b | exact (z1 _ zsd zsd).b | exact (z2 _).b | exact (z4 _ _).b)) | exact zsq | fail)
      all_goals first | (refine Qv _ rfl ?_; simp only [go_sem, Nat.reduceEqDiff, Nat.reduceAdd, reduceIte, reduceCtorEq]; rw [htk]; done) | trace_state
    have hU : ∀ x, x ∈ u :: us → x < m.2.length ∧ x ∉ is ∧ ∃ i f, m.2[x]? = some i ∧ l[i]? = some f ∧ m.1[x]? = some (UY f) := fun x hx => by
      have h1 := aaY.1 (hun ▸ hx)
      rw [Nat.zero_add] at h1
      obtain ⟨f, h2, h3⟩ := hM.pt x _ (List.getElem?_eq_getElem h1.1)
      exact ⟨h1.1, h1.2, _, f, List.getElem?_eq_getElem h1.1, h2, h3⟩
    have hvis : ∀ x i, m.2[x]? = some i → aiV l e.num m.2 (is ++ [x]) = aiV l e.num m.2 is ++ (aeb l e.num i).toList := fun x i h => by
      rw [aiV, aiV, List.filterMap_append, List.filterMap_cons, h, Option.bind_some, List.filterMap_nil]
      rcases aeb l e.num i with _ | y <;> rfl
    clear hvs
    simp only [agu, fcE]
    repeat' (first | (refine zsk ?_; intro K' hK) | (refine zrg ?_; intro K' hK) | refine zsp ?_ | (refine zsc ?_ ?_ <;> intro hc <;> first | exact znh | try simp only [znz] at hc) | simp (maxSteps := 1000000) only [go_sem, Nat.reduceAdd, Nat.reduceMul, Nat.reduceEqDiff, Nat.reduceLeDiff, Nat.reduceLT, Nat.reduceSub, Int.reduceEq, Int.reduceBEq, Int.reduceLT, Int.reduceLE, Int.reduceAdd, Int.reduceToNat, reduceIte, reduceCtorEq, Wo, hkl, List.length_map, Nat.zero_add, hun] | (refine hK _ ?_; clear hK K') | apply zan | (apply qX; (focus exact rfl); (focus first | exact (z3 _ _ _ zsd zsd)); (focus exact rfl); (focus (first | (simp; done) | omega | (simp only [List.length_map]; omega)))) | ((first | apply QS | apply Q1); (focus first | exact (z0 _ _ zsd zsd zsd).b | exact (z1 _ zsd zsd).b | exact (z2 _).b | exact (z4 _ _).b)) | exact zsq | fail)
    · obtain ⟨x, hx0⟩ : ∃ x, x = u := ⟨u, rfl⟩
      have hx : x ∈ u :: us := hx0 ▸ List.mem_cons_self
      rw [← hx0]
      obtain ⟨hx1, hx2, i, f, hvx, hfx, hkx⟩ := hU x hx
      have vk : (m.1.map PPl.v)[x]? = some (UY f).v := by rw [List.getElem?_map, hkx]; rfl
      have vv := WC hvx
      have hv1 := hvis x i hvx
      have hnd : (is ++ [x]).Nodup := by rw [List.nodup_append]; exact ⟨his1, by simp, fun a ha b hb => by rw [List.mem_singleton.1 hb]; exact fun he => hx2 (he ▸ ha)⟩
      have hbd : ∀ a ∈ is ++ [x], a < m.2.length := fun a ha => by
        rcases List.mem_append.1 ha with h | h
        · exact his2 a h
        · rw [List.mem_singleton.1 h]; exact hx1
      have hln2 := hln _ hnd hbd
      rw [List.length_append, List.length_singleton] at hln2
      have hms : m.2.length - (is ++ [x]).length < m.2.length - is.length := by rw [List.length_append, List.length_singleton]; omega
      by_cases h8 : f.kind = 8
      · have e8 : (f.kind != 8) = false := by simpa using h8
        rw [aeb, hfx] at hv1
        simp only [h8, if_true, Option.toList_none, List.append_nil] at hv1
        repeat' (first | (refine zsk ?_; intro K' hK) | (refine zrg ?_; intro K' hK) | refine zsp ?_ | (refine zsc ?_ ?_ <;> intro hc <;> first | exact znh | try simp only [znz] at hc) | simp (maxSteps := 1000000) only [go_sem, Nat.reduceAdd, Nat.reduceMul, Nat.reduceEqDiff, Nat.reduceLeDiff, Nat.reduceLT, Nat.reduceSub, Int.reduceEq, Int.reduceBEq, Int.reduceLT, Int.reduceLE, Int.reduceAdd, Int.reduceToNat, reduceIte, reduceCtorEq, Wo, hkl, e8, vk, vv, hfx, Int.toNat_natCast, List.getElem?_map, List.length_map, Nat.zero_add, List.getLast?_concat, Nat.sub_zero, Nat.zero_le, Qa.v, Qa.cells] | (refine hK _ ?_; clear hK K') | apply zan | (apply qX; (focus exact rfl); (focus first | exact (z3 _ _ _ zsd zsd)); (focus exact rfl); (focus (first | (simp; done) | omega | (simp only [List.length_map]; omega)))) | ((first | apply QS | apply Q1); (focus first | exact (z0 _ _ zsd zsd zsd).b | exact (z1 _ zsd zsd).b | exact (z2 _).b | exact (z4 _ _).b)) | exact zsq | fail)
        all_goals first | exact hL _ (is ++ [x]) (Ql []) ⟨hnd, hbd⟩ hms (Qu [] (by simp only [go_sem, zwl, Nat.reduceAdd, Nat.reduceMul, Nat.reduceEqDiff, Nat.reduceLT, Int.reduceToNat, reduceIte, reduceCtorEq, agu, fcE, hv1, List.length_map] <;> exact zcc) (by simp only [go_sem, zwl, Nat.reduceAdd, Nat.reduceMul, Nat.reduceEqDiff, Nat.reduceLT, Int.reduceToNat, reduceIte, reduceCtorEq, agu, fcE, hv1, QD, QU] <;> exact zcc) (by simp [agu, Ql]) (by simp [agu]) (by omega)) | trace_state
      · have e8 : (f.kind != 8) = true := by simpa using h8
        rw [aeb, hfx] at hv1
        simp only [h8, if_false, Option.toList_some] at hv1
        have hol : (aiV l e.num m.2 is).length ≤ 12 := by omega
        generalize aiV l e.num m.2 is = out at *
        have hll := List.length_map Qi.v (as := out)
        have htk : (out.map Qi.v).take out.length = out.map Qi.v := List.take_of_length_le (by simp)
        repeat' (first | (refine zsk ?_; intro K' hK) | (refine zrg ?_; intro K' hK) | refine zsp ?_ | (refine zsc ?_ ?_ <;> intro hc <;> first | exact znh | try simp only [znz] at hc) | simp (maxSteps := 1000000) only [go_sem, Nat.reduceAdd, Nat.reduceMul, Nat.reduceEqDiff, Nat.reduceLeDiff, Nat.reduceLT, Nat.reduceSub, Int.reduceEq, Int.reduceBEq, Int.reduceLT, Int.reduceLE, Int.reduceAdd, Int.reduceToNat, reduceIte, reduceCtorEq, Wo, hkl, e8, vk, vv, hfx, htk, hll, Int.toNat_natCast, List.getElem?_map, List.length_map, Nat.zero_add, List.getLast?_concat, Nat.sub_zero, Nat.zero_le, Qa.v, Qa.cells] | (refine hK _ ?_; clear hK K') | apply zan | (apply qX; (focus exact rfl); (focus first | exact (z3 _ _ _ zsd zsd)); (focus exact rfl); (focus (first | (simp; done) | omega | (simp only [List.length_map]; omega)))) | ((first | apply QS | apply Q1); (focus first | exact (z0 _ _ zsd zsd zsd).b | exact (z1 _ zsd zsd).b | exact (z2 _).b | exact (z4 _ _).b)) | exact zsq | fail)
        all_goals first | exact hL _ (is ++ [x]) (Ql [(3, 30004)]) ⟨hnd, hbd⟩ hms (Qu [(3, 30004)] (by simp only [go_sem, zwl, Nat.reduceAdd, Nat.reduceMul, Nat.reduceEqDiff, Nat.reduceLT, Int.reduceToNat, reduceIte, reduceCtorEq, agu, fcE, hv1, List.length_append, List.length_singleton] <;> exact zcc) (by simp only [go_sem, zwl, Nat.reduceAdd, Nat.reduceMul, Nat.reduceEqDiff, Nat.reduceLT, Int.reduceToNat, reduceIte, reduceCtorEq, agu, fcE, hv1, QD, QU, List.map_append, List.map_cons, List.map_nil, Qi.v, Qi.cells, ajG] <;> exact zcc) (by simp [agu, Ql]) (by simp [agu]; omega) (by omega)) | trace_state
    · intro x hx
      have hx : x ∈ u :: us := List.mem_cons_of_mem _ hx
      obtain ⟨hx1, hx2, i, f, hvx, hfx, hkx⟩ := hU x hx
      have vk : (m.1.map PPl.v)[x]? = some (UY f).v := by rw [List.getElem?_map, hkx]; rfl
      have vv := WC hvx
      have hv1 := hvis x i hvx
      have hnd : (is ++ [x]).Nodup := by rw [List.nodup_append]; exact ⟨his1, by simp, fun a ha b hb => by rw [List.mem_singleton.1 hb]; exact fun he => hx2 (he ▸ ha)⟩
      have hbd : ∀ a ∈ is ++ [x], a < m.2.length := fun a ha => by
        rcases List.mem_append.1 ha with h | h
        · exact his2 a h
        · rw [List.mem_singleton.1 h]; exact hx1
      have hln2 := hln _ hnd hbd
      rw [List.length_append, List.length_singleton] at hln2
      have hms : m.2.length - (is ++ [x]).length < m.2.length - is.length := by rw [List.length_append, List.length_singleton]; omega
      by_cases h8 : f.kind = 8
      · have e8 : (f.kind != 8) = false := by simpa using h8
        rw [aeb, hfx] at hv1
        simp only [h8, if_true, Option.toList_none, List.append_nil] at hv1
        repeat' (first | (refine zsk ?_; intro K' hK) | (refine zrg ?_; intro K' hK) | refine zsp ?_ | (refine zsc ?_ ?_ <;> intro hc <;> first | exact znh | try simp only [znz] at hc) | simp (maxSteps := 1000000) only [go_sem, Nat.reduceAdd, Nat.reduceMul, Nat.reduceEqDiff, Nat.reduceLeDiff, Nat.reduceLT, Nat.reduceSub, Int.reduceEq, Int.reduceBEq, Int.reduceLT, Int.reduceLE, Int.reduceAdd, Int.reduceToNat, reduceIte, reduceCtorEq, Wo, hkl, e8, vk, vv, hfx, Int.toNat_natCast, List.getElem?_map, List.length_map, Nat.zero_add, List.getLast?_concat, Nat.sub_zero, Nat.zero_le, Qa.v, Qa.cells] | (refine hK _ ?_; clear hK K') | apply zan | (apply qX; (focus exact rfl); (focus first | exact (z3 _ _ _ zsd zsd)); (focus exact rfl); (focus (first | (simp; done) | omega | (simp only [List.length_map]; omega)))) | ((first | apply QS | apply Q1); (focus first | exact (z0 _ _ zsd zsd zsd).b | exact (z1 _ zsd zsd).b | exact (z2 _).b | exact (z4 _ _).b)) | exact zsq | fail)
        all_goals first | exact hL _ (is ++ [x]) (Ql []) ⟨hnd, hbd⟩ hms (Qu [] (by simp only [go_sem, zwl, Nat.reduceAdd, Nat.reduceMul, Nat.reduceEqDiff, Nat.reduceLT, Int.reduceToNat, reduceIte, reduceCtorEq, agu, fcE, hv1, List.length_map] <;> exact zcc) (by simp only [go_sem, zwl, Nat.reduceAdd, Nat.reduceMul, Nat.reduceEqDiff, Nat.reduceLT, Int.reduceToNat, reduceIte, reduceCtorEq, agu, fcE, hv1, QD, QU] <;> exact zcc) (by simp [agu, Ql]) (by simp [agu]) (by omega)) | trace_state
      · have e8 : (f.kind != 8) = true := by simpa using h8
        rw [aeb, hfx] at hv1
        simp only [h8, if_false, Option.toList_some] at hv1
        have hol : (aiV l e.num m.2 is).length ≤ 12 := by omega
        generalize aiV l e.num m.2 is = out at *
        have hll := List.length_map Qi.v (as := out)
        have htk : (out.map Qi.v).take out.length = out.map Qi.v := List.take_of_length_le (by simp)
        repeat' (first | (refine zsk ?_; intro K' hK) | (refine zrg ?_; intro K' hK) | refine zsp ?_ | (refine zsc ?_ ?_ <;> intro hc <;> first | exact znh | try simp only [znz] at hc) | simp (maxSteps := 1000000) only [go_sem, Nat.reduceAdd, Nat.reduceMul, Nat.reduceEqDiff, Nat.reduceLeDiff, Nat.reduceLT, Nat.reduceSub, Int.reduceEq, Int.reduceBEq, Int.reduceLT, Int.reduceLE, Int.reduceAdd, Int.reduceToNat, reduceIte, reduceCtorEq, Wo, hkl, e8, vk, vv, hfx, htk, hll, Int.toNat_natCast, List.getElem?_map, List.length_map, Nat.zero_add, List.getLast?_concat, Nat.sub_zero, Nat.zero_le, Qa.v, Qa.cells] | (refine hK _ ?_; clear hK K') | apply zan | (apply qX; (focus exact rfl); (focus first | exact (z3 _ _ _ zsd zsd)); (focus exact rfl); (focus (first | (simp; done) | omega | (simp only [List.length_map]; omega)))) | ((first | apply QS | apply Q1); (focus first | exact (z0 _ _ zsd zsd zsd).b | exact (z1 _ zsd zsd).b | exact (z2 _).b | exact (z4 _ _).b)) | exact zsq | fail)
        all_goals first | exact hL _ (is ++ [x]) (Ql [(3, 30004)]) ⟨hnd, hbd⟩ hms (Qu [(3, 30004)] (by simp only [go_sem, zwl, Nat.reduceAdd, Nat.reduceMul, Nat.reduceEqDiff, Nat.reduceLT, Int.reduceToNat, reduceIte, reduceCtorEq, agu, fcE, hv1, List.length_append, List.length_singleton] <;> exact zcc) (by simp only [go_sem, zwl, Nat.reduceAdd, Nat.reduceMul, Nat.reduceEqDiff, Nat.reduceLT, Int.reduceToNat, reduceIte, reduceCtorEq, agu, fcE, hv1, QD, QU, List.map_append, List.map_cons, List.map_nil, Qi.v, Qi.cells, ajG] <;> exact zcc) (by simp [agu, Ql]) (by simp [agu]; omega) (by omega)) | trace_state
  obtain ⟨hk', hget, hr⟩ := QJ hdr
  have hw := Qr (k := k) (by omega)
  have e1 : decide ((k : Int) < (e.finds.length : Int)) = true := by simp; omega
  have hsu := aoq (l := l) (day := day) (age := age) hget
  obtain ⟨f, hf⟩ : ∃ f, l[i]? = some f := ⟨_, List.getElem?_eq_getElem (hb i (List.mem_of_getElem? hget))⟩
  generalize alT l day age (e.finds.take k) = m at *
  obtain ⟨ks, vs⟩ := m
  have hvi := WC hget
  have hwd : IntKind.i64.wrap (day - age) = day - age := Ym (by omega) (by omega)
  rw [arY, hf] at hsu
  dsimp only at hsu
  simp only [aam, fcE]
  rcases h1 : decide (f.day > day) with _ | _
  · rcases h2 : decide (f.day < day - age) with _ | _
    · rw [if_neg (by simp at h1 h2; omega)] at hsu
      have p1 := (z2 f).b
      have hfk := ajF (UY f) ks 0
      have hek := apz (UY f)
      have hlen := hM.len
      dsimp only at hlen
      simp only [Qa.v, Qa.cells] at p1
      rcases hix : an8 (UY f) ks 0 with _ | a
      · rw [hix] at hsu hfk
        have hm1 : ks.map PPl.v ++ [(UY f).v] = (ks ++ [UY f]).map PPl.v := by simp
        have hm2 := wq vs i
        repeat' (first | (refine zsk ?_; intro K' hK) | (refine zrg ?_; intro K' hK) | refine zsp ?_ | (refine zsc ?_ ?_ <;> intro hc <;> first | exact znh | try simp only [znz] at hc) | simp (maxSteps := 1000000) only [go_sem, Nat.reduceAdd, Nat.reduceMul, Nat.reduceEqDiff, Nat.reduceLeDiff, Nat.reduceLT, Nat.reduceSub, Int.reduceEq, Int.reduceBEq, Int.reduceLT, Int.reduceLE, Int.reduceAdd, Int.reduceToNat, reduceIte, reduceCtorEq, Wo, e1, hw, hwd, h1, h2, hfk, hek, hm1, hm2, hvi, hf, Int.toNat_natCast, List.getElem?_map, Qa.v, Qa.cells] | (refine hK _ ?_; clear hK K') | apply zan | (apply qX; (focus exact rfl); (focus first | exact (z3 _ _ _ zsd zsd)); (focus exact rfl); (focus (first | (simp; done) | omega | (simp only [List.length_map]; omega)))) | ((first | apply QS | apply Q1); (focus first | exact p1 | exact (z0 _ _ zsd zsd zsd).b | exact (z1 _ zsd zsd).b | exact (z2 _).b | exact (z4 _ _).b)) | exact zsq | fail)
        all_goals first | exact hL _ (k + 1) (Ql []) (by omega) (by omega) (by rw [hsu]; exact Qu [] (by simp only [go_sem, zwl, Nat.reduceAdd, Nat.reduceMul, Nat.reduceEqDiff, Nat.reduceLT, Int.reduceToNat, reduceIte, reduceCtorEq, aam, fcE, List.length_map] <;> exact zcc) (by simp only [go_sem, zwl, Nat.reduceAdd, Nat.reduceMul, Nat.reduceEqDiff, Nat.reduceLT, Int.reduceToNat, reduceIte, reduceCtorEq, aam, fcE, QD, QU] <;> exact zcc) (by simp [aam, Ql]) (by simp [aam]) (by omega)) | trace_state
      · rw [hix] at hsu hfk
        have hal := (agh hix).2.1
        obtain ⟨v, hv⟩ : ∃ v, vs[a]? = some v := ⟨_, List.getElem?_eq_getElem (by omega)⟩
        obtain ⟨g, hg, -⟩ := hM.pt a v hv
        have hvd : vs.getD a 0 = v := by rw [List.getD_eq_getElem?_getD, hv]; rfl
        simp only [hvd, hg] at hsu
        have hvc := WC hv
        have hm1 := afZ vs a i
        rcases h3 : decide (f.day > g.day) with _ | _
        · rcases h4 : f.day == g.day with _ | _
          · rw [ar8, h3, h4, if_neg (by simp)] at hsu
            repeat' (first | (refine zsk ?_; intro K' hK) | (refine zrg ?_; intro K' hK) | refine zsp ?_ | (refine zsc ?_ ?_ <;> intro hc <;> first | exact znh | try simp only [znz] at hc) | simp (maxSteps := 1000000) only [go_sem, Nat.reduceAdd, Nat.reduceMul, Nat.reduceEqDiff, Nat.reduceLeDiff, Nat.reduceLT, Nat.reduceSub, Int.reduceEq, Int.reduceBEq, Int.reduceLT, Int.reduceLE, Int.reduceAdd, Int.reduceToNat, reduceIte, reduceCtorEq, Wo, e1, hw, hwd, h1, h2, h3, h4, hfk, hek, hm1, hvc, hvi, hf, hg, Int.toNat_natCast, List.getElem?_map, Qa.v, Qa.cells] | (refine hK _ ?_; clear hK K') | apply zan | (apply qX; (focus exact rfl); (focus first | exact (z3 _ _ _ zsd zsd)); (focus exact rfl); (focus (first | (simp; done) | omega | (simp only [List.length_map]; omega)))) | ((first | apply QS | apply Q1); (focus first | exact p1 | exact (z0 _ _ zsd zsd zsd).b | exact (z1 _ zsd zsd).b | exact (z2 _).b | exact (z4 _ _).b)) | exact zsq | fail)
            all_goals first | exact hL _ (k + 1) (Ql []) (by omega) (by omega) (by rw [hsu]; exact Qu [] (by simp only [go_sem, zwl, Nat.reduceAdd, Nat.reduceMul, Nat.reduceEqDiff, Nat.reduceLT, Int.reduceToNat, reduceIte, reduceCtorEq, aam, fcE, List.length_map] <;> exact zcc) (by simp only [go_sem, zwl, Nat.reduceAdd, Nat.reduceMul, Nat.reduceEqDiff, Nat.reduceLT, Int.reduceToNat, reduceIte, reduceCtorEq, aam, fcE, QD, QU] <;> exact zcc) (by simp [aam, Ql]) (by simp [aam]) (by omega)) | trace_state
          · rcases h5 : decide (f.conf > g.conf) with _ | _
            · rw [ar8, h3, h4, h5, if_neg (by decide)] at hsu
              repeat' (first | (refine zsk ?_; intro K' hK) | (refine zrg ?_; intro K' hK) | refine zsp ?_ | (refine zsc ?_ ?_ <;> intro hc <;> first | exact znh | try simp only [znz] at hc) | simp (maxSteps := 1000000) only [go_sem, Nat.reduceAdd, Nat.reduceMul, Nat.reduceEqDiff, Nat.reduceLeDiff, Nat.reduceLT, Nat.reduceSub, Int.reduceEq, Int.reduceBEq, Int.reduceLT, Int.reduceLE, Int.reduceAdd, Int.reduceToNat, reduceIte, reduceCtorEq, Wo, e1, hw, hwd, h1, h2, h3, h4, h5, hfk, hek, hm1, hvc, hvi, hf, hg, Int.toNat_natCast, List.getElem?_map, Qa.v, Qa.cells] | (refine hK _ ?_; clear hK K') | apply zan | (apply qX; (focus exact rfl); (focus first | exact (z3 _ _ _ zsd zsd)); (focus exact rfl); (focus (first | (simp; done) | omega | (simp only [List.length_map]; omega)))) | ((first | apply QS | apply Q1); (focus first | exact p1 | exact (z0 _ _ zsd zsd zsd).b | exact (z1 _ zsd zsd).b | exact (z2 _).b | exact (z4 _ _).b)) | exact zsq | fail)
              all_goals first | exact hL _ (k + 1) (Ql []) (by omega) (by omega) (by rw [hsu]; exact Qu [] (by simp only [go_sem, zwl, Nat.reduceAdd, Nat.reduceMul, Nat.reduceEqDiff, Nat.reduceLT, Int.reduceToNat, reduceIte, reduceCtorEq, aam, fcE, List.length_map] <;> exact zcc) (by simp only [go_sem, zwl, Nat.reduceAdd, Nat.reduceMul, Nat.reduceEqDiff, Nat.reduceLT, Int.reduceToNat, reduceIte, reduceCtorEq, aam, fcE, QD, QU] <;> exact zcc) (by simp [aam, Ql]) (by simp [aam]) (by omega)) | trace_state
            · rw [ar8, h3, h4, h5, if_pos (by decide)] at hsu
              repeat' (first | (refine zsk ?_; intro K' hK) | (refine zrg ?_; intro K' hK) | refine zsp ?_ | (refine zsc ?_ ?_ <;> intro hc <;> first | exact znh | try simp only [znz] at hc) | simp (maxSteps := 1000000) only [go_sem, Nat.reduceAdd, Nat.reduceMul, Nat.reduceEqDiff, Nat.reduceLeDiff, Nat.reduceLT, Nat.reduceSub, Int.reduceEq, Int.reduceBEq, Int.reduceLT, Int.reduceLE, Int.reduceAdd, Int.reduceToNat, reduceIte, reduceCtorEq, Wo, e1, hw, hwd, h1, h2, h3, h4, h5, hfk, hek, hm1, hvc, hvi, hf, hg, Int.toNat_natCast, List.getElem?_map, Qa.v, Qa.cells] | (refine hK _ ?_; clear hK K') | apply zan | (apply qX; (focus exact rfl); (focus first | exact (z3 _ _ _ zsd zsd)); (focus exact rfl); (focus (first | (simp; done) | omega | (simp only [List.length_map]; omega)))) | ((first | apply QS | apply Q1); (focus first | exact p1 | exact (z0 _ _ zsd zsd zsd).b | exact (z1 _ zsd zsd).b | exact (z2 _).b | exact (z4 _ _).b)) | exact zsq | fail)
              all_goals first | exact hL _ (k + 1) (Ql []) (by omega) (by omega) (by rw [hsu]; exact Qu [] (by simp only [go_sem, zwl, Nat.reduceAdd, Nat.reduceMul, Nat.reduceEqDiff, Nat.reduceLT, Int.reduceToNat, reduceIte, reduceCtorEq, aam, fcE, List.length_map] <;> exact zcc) (by simp only [go_sem, zwl, Nat.reduceAdd, Nat.reduceMul, Nat.reduceEqDiff, Nat.reduceLT, Int.reduceToNat, reduceIte, reduceCtorEq, aam, fcE, QD, QU] <;> exact zcc) (by simp [aam, Ql]) (by simp [aam]) (by omega)) | trace_state
        · rw [ar8, h3, if_pos (by simp)] at hsu
          repeat' (first | (refine zsk ?_; intro K' hK) | (refine zrg ?_; intro K' hK) | refine zsp ?_ | (refine zsc ?_ ?_ <;> intro hc <;> first | exact znh | try simp only [znz] at hc) | simp (maxSteps := 1000000) only [go_sem, Nat.reduceAdd, Nat.reduceMul, Nat.reduceEqDiff, Nat.reduceLeDiff, Nat.reduceLT, Nat.reduceSub, Int.reduceEq, Int.reduceBEq, Int.reduceLT, Int.reduceLE, Int.reduceAdd, Int.reduceToNat, reduceIte, reduceCtorEq, Wo, e1, hw, hwd, h1, h2, h3, hfk, hek, hm1, hvc, hvi, hf, hg, Int.toNat_natCast, List.getElem?_map, Qa.v, Qa.cells] | (refine hK _ ?_; clear hK K') | apply zan | (apply qX; (focus exact rfl); (focus first | exact (z3 _ _ _ zsd zsd)); (focus exact rfl); (focus (first | (simp; done) | omega | (simp only [List.length_map]; omega)))) | ((first | apply QS | apply Q1); (focus first | exact p1 | exact (z0 _ _ zsd zsd zsd).b | exact (z1 _ zsd zsd).b | exact (z2 _).b | exact (z4 _ _).b)) | exact zsq | fail)
          all_goals first | exact hL _ (k + 1) (Ql []) (by omega) (by omega) (by rw [hsu]; exact Qu [] (by simp only [go_sem, zwl, Nat.reduceAdd, Nat.reduceMul, Nat.reduceEqDiff, Nat.reduceLT, Int.reduceToNat, reduceIte, reduceCtorEq, aam, fcE, List.length_map] <;> exact zcc) (by simp only [go_sem, zwl, Nat.reduceAdd, Nat.reduceMul, Nat.reduceEqDiff, Nat.reduceLT, Int.reduceToNat, reduceIte, reduceCtorEq, aam, fcE, QD, QU] <;> exact zcc) (by simp [aam, Ql]) (by simp [aam]) (by omega)) | trace_state
    · rw [if_pos (by simp at h1 h2; omega)] at hsu
      repeat' (first | (refine zsk ?_; intro K' hK) | (refine zrg ?_; intro K' hK) | refine zsp ?_ | (refine zsc ?_ ?_ <;> intro hc <;> first | exact znh | try simp only [znz] at hc) | simp (maxSteps := 1000000) only [go_sem, Nat.reduceAdd, Nat.reduceMul, Nat.reduceEqDiff, Nat.reduceLeDiff, Nat.reduceLT, Nat.reduceSub, Int.reduceEq, Int.reduceBEq, Int.reduceLT, Int.reduceLE, Int.reduceAdd, Int.reduceToNat, reduceIte, reduceCtorEq, Wo, e1, hw, hwd, h1, h2, hvi, hf, Int.toNat_natCast, List.getElem?_map, Qa.v, Qa.cells] | (refine hK _ ?_; clear hK K') | apply zan | (apply qX; (focus exact rfl); (focus first | exact (z3 _ _ _ zsd zsd)); (focus exact rfl); (focus (first | (simp; done) | omega | (simp only [List.length_map]; omega)))) | ((first | apply QS | apply Q1); (focus first | exact (z0 _ _ zsd zsd zsd).b | exact (z1 _ zsd zsd).b | exact (z2 _).b | exact (z4 _ _).b)) | exact zsq | fail)
      all_goals first | exact hL _ (k + 1) (Ql []) (by omega) (by omega) (by rw [hsu]; exact Qu [] (by simp only [go_sem, zwl, Nat.reduceAdd, Nat.reduceMul, Nat.reduceEqDiff, Nat.reduceLT, Int.reduceToNat, reduceIte, reduceCtorEq, aam, fcE, List.length_map] <;> exact zcc) (by simp only [go_sem, zwl, Nat.reduceAdd, Nat.reduceMul, Nat.reduceEqDiff, Nat.reduceLT, Int.reduceToNat, reduceIte, reduceCtorEq, aam, fcE, QD, QU] <;> exact zcc) (by simp [aam, Ql]) (by simp [aam]) (by omega)) | trace_state
  · rw [if_pos (by simp at h1; omega)] at hsu
    repeat' (first | (refine zsk ?_; intro K' hK) | (refine zrg ?_; intro K' hK) | refine zsp ?_ | (refine zsc ?_ ?_ <;> intro hc <;> first | exact znh | try simp only [znz] at hc) | simp (maxSteps := 1000000) only [go_sem, Nat.reduceAdd, Nat.reduceMul, Nat.reduceEqDiff, Nat.reduceLeDiff, Nat.reduceLT, Nat.reduceSub, Int.reduceEq, Int.reduceBEq, Int.reduceLT, Int.reduceLE, Int.reduceAdd, Int.reduceToNat, reduceIte, reduceCtorEq, Wo, e1, hw, hwd, h1, hvi, hf, Int.toNat_natCast, List.getElem?_map, Qa.v, Qa.cells] | (refine hK _ ?_; clear hK K') | apply zan | (apply qX; (focus exact rfl); (focus first | exact (z3 _ _ _ zsd zsd)); (focus exact rfl); (focus (first | (simp; done) | omega | (simp only [List.length_map]; omega)))) | ((first | apply QS | apply Q1); (focus first | exact (z0 _ _ zsd zsd zsd).b | exact (z1 _ zsd zsd).b | exact (z2 _).b | exact (z4 _ _).b)) | exact zsq | fail)
    all_goals first | exact hL _ (k + 1) (Ql []) (by omega) (by omega) (by rw [hsu]; exact Qu [] (by simp only [go_sem, zwl, Nat.reduceAdd, Nat.reduceMul, Nat.reduceEqDiff, Nat.reduceLT, Int.reduceToNat, reduceIte, reduceCtorEq, aam, fcE, List.length_map] <;> exact zcc) (by simp only [go_sem, zwl, Nat.reduceAdd, Nat.reduceMul, Nat.reduceEqDiff, Nat.reduceLT, Int.reduceToNat, reduceIte, reduceCtorEq, aam, fcE, QD, QU] <;> exact zcc) (by simp [aam, Ql]) (by simp [aam]) (by omega)) | trace_state
theorem apS {fs : List Nat} {k : Nat} (h : fs.Pairwise (· < ·)) (hk : ∀ i ∈ fs, i < k) : (fs ++ [k]).Pairwise (· < ·) := by
  rw [List.pairwise_append]
  exact ⟨h, List.pairwise_singleton .., fun a ha b hb => by rw [List.mem_singleton.1 hb]; exact hk a ha⟩
theorem alP {l : List Qa} {p : List Nat} (hp : PW p) : ∀ k, k ≤ l.length → ∀ e ∈ WI l p k, e.finds.Pairwise (· < ·)
  | 0, _, e, he => by simp [WI] at he
  | k + 1, hk, e, he => by
    have ih := alP (l := l) hp k (by omega)
    have hI := aaq (l := l) hp k (by omega)
    rw [WI, List.getElem?_eq_getElem (by omega)] at he
    dsimp only at he
    generalize WI l p k = es at *
    rw [ajM] at he
    split at he
    · rcases List.mem_append.1 he with he | he
      · exact ih e he
      · rw [List.mem_singleton.1 he]; simp [Ug, Ja]
    · rcases hx : ail (Ub p k) (es.map J8.num) 0 with _ | a
      · rw [hx] at he; exact ih e he
      · rw [hx] at he
        dsimp only at he
        rcases hy : es[a]? with _ | y
        · rw [hy] at he; exact ih e he
        · rw [hy] at he
          dsimp only at he
          have hm := List.mem_of_getElem? hy
          rcases List.mem_or_eq_of_mem_set he with he | rfl
          · exact ih e he
          · exact apS (ih y hm) (hI.sz y hm).fl
theorem akR {l : List Qa} {gap : Int} {e : J8} (he : e ∈ Wu l gap) : e.finds.Pairwise (· < ·) ∧ (∀ i ∈ e.finds, i < l.length) ∧ e.finds.length ≤ l.length ∧ e.hosts.length ≤ l.length := by
  have hp := aij l gap
  have h1 := (aaq (l := l) hp l.length (Nat.le_refl _)).sz e he
  exact ⟨alP hp l.length (Nat.le_refl _) e he, h1.fl, h1.f1, h1.h1⟩
theorem adr (l : List Qa) (gap : Int) : (Wu l gap).length ≤ l.length := (aaq (l := l) (aij l gap) l.length (Nat.le_refl _)).len
theorem amK {l : List Qa} {gap : Int} (h : Yj l gap = 0) : wR l = true := by
  rw [Yj] at h
  split at h
  · assumption
  · cases h
def fcv (fl : List Qi) : V := .sl 8 (fl.map Qi.v)
def Xf (l : List Qa) (gap day age : Int) : List (List Qi) := (Wu l gap).map fun e => yh l e.num e.finds day age
def aeV (l : List Qa) (gap day age : Int) : V := if Yj l gap = 0 then .tup [.sl 4 ((Wu l gap).map J8.v), .sl 1 ((Xf l gap day age).map fcv), V.int 0] else .tup [.sl 4 [], .sl 1 [], V.int (Yj l gap)]
def obO (xs : List V) : Ob := if xs = [] then .buf true 1 [] else .obuf true 1 xs
theorem anL : obO [] = .buf true 1 [] := rfl
theorem aqQ (xs : List V) (x : V) : obO (xs ++ [x]) = .obuf true 1 (xs ++ [x]) := by rw [obO, if_neg (by simp)]
theorem aqP (x : V) : obO [x] = .obuf true 1 [x] := rfl
theorem aqd : ∀ l : List (List Qi), ntL (l.map fcv)
  | [] => trivial
  | x :: r => ⟨by simp [fcv], aqd r⟩
theorem aa5 : ∀ l : List (List Qi), Qh (l.map fcv)
  | [] => trivial
  | x :: r => ⟨by simp only [fcv, V.closed, Qh, and_self], aa5 r⟩
theorem aq0 (σ : Nat → Nat) (l : List (List Qi)) : yU σ (l.map fcv) = l.map fcv := JR _ _ (aa5 l)
theorem arW (n : Nat) (l : List (List Qi)) : ltL n (l.map fcv) := Wd _ _ (aa5 l)
theorem alK {o : Nat → Option Ob} : ∀ l : List (List Qi), Ya o [] none (l.map fcv) (l.map fcv)
  | [] => trivial
  | x :: r => ⟨by simp [fcv, conv], alK r⟩
theorem aq1 {o : Nat → Option Ob} {n : Nat} {l : List (List Qi)} (h : o n = some (obO (l.map fcv))) : conv o [] none (.hd n 0 l.length) (.sl 1 (l.map fcv)) := by
  rw [amL]
  rcases l with _ | ⟨x, r⟩
  · exact ⟨trivial, by simp, .inl ⟨true, _, h, rfl⟩⟩
  · refine ⟨trivial, by simp, .inr ⟨true, _, h, ?_, aqd _, aa5 _⟩⟩
    rw [List.drop_zero, List.take_of_length_le (by simp)]
    exact alK _
def faS (l : List Qa) (gap day age : Int) (k : Nat) : St := Wo [(0, .sl 11 (l.map Qa.v)), (2, V.int day), (3, V.int age), (11, .sl 4 ((Wu l gap).map J8.v)), (13, .hd 0 0 k), (27, .sl 4 ((Wu l gap).map J8.v)), (28, V.int (Wu l gap).length), (29, V.int k)] [(0, obO (((Xf l gap day age).take k).map fcv))] 1
def jk (Wt jK : Nat) : AC := Qb [0, 1, 2, 3] (.reg [xo 8 (.mknil 4), xo 9 (.mknil 1), mc 10 (V.int 0)]) (Qb [0, 2, 3, 11, 12] (.reg [mv 19 0, mv 20 1, cl 21 Wt [19, 20], mv 18 21, ex 22 18 0, ex 23 18 1, mv 11 22, mv 12 23]) (Qb [0, 2, 3, 11] (Qb [0, 2, 3, 11, 12, 25] (.reg [mv 24 12, bc 25 .neq 24 (V.int 0)]) (.cond (.t 25) (Qb [8, 9, 10] (.reg [mv 26 12, xo 8 (.mknil 4), xo 9 (.mknil 1), mv 10 26]) .ret) .skip)) (Qb [0, 2, 3, 11, 13] (.reg [xo 13 (.mknil 1)]) (Qb [2, 3, 11, 13] (Qb [0, 2, 3, 11, 13, 27, 28, 29] (.reg [mv 27 11, ln 28 27, mc 29 (V.int 0)]) (.block 0 (Y6 [0, 2, 3, 11, 13, 27, 28, 29] (Qb [0, 2, 3, 11, 13, 27, 28, 29, 30] (.reg [bn 30 .lss 29 28]) (Qb [0, 2, 3, 11, 13, 27, 28, 29] (.cond (.t 30) .skip (.exit 0)) (Qb [0, 2, 3, 11, 13, 27, 28, 29] (.block 1 (Qb [0, 2, 3, 11, 13, 15, 27, 28, 29] (.reg [ia 31 4 27 29, xo 32 (.load true 4 (.t 31)), xo 15 (.alloc [.val vi0, .nil 1, .nil 1, .nil 1]), xs 4 15 32]) (Qb [0, 2, 3, 11, 13, 16, 17, 27, 28, 29] (.reg [mv 34 0, xo 35 (.load true 4 (.t 15)), mv 36 2, mv 37 3, cl 38 jK [34, 35, 36, 37], mv 33 38, ex 39 33 0, ex 40 33 1, mv 16 39, mv 17 40]) (Qb [0, 2, 3, 11, 13, 16, 27, 28, 29] (Qb [0, 2, 3, 11, 13, 16, 17, 27, 28, 29, 42] (.reg [mv 41 17, bc 42 .neq 41 (V.int 0)]) (.cond (.t 42) (Qb [8, 9, 10] (.reg [mv 43 17, xo 8 (.mknil 4), xo 9 (.mknil 1), mv 10 43]) .ret) .skip)) (.reg [mv 44 13, mv 45 16, xo 46 (.obslice 1 1 false [vn0] [(0, (.t 45))]), xo 47 (.append 1 24 [vn0] (.t 44) (.t 46)), mv 13 47]))))) (.reg [bc 48 .add 29 (V.int 1), mv 29 48]))))))) (Qb [11, 13] (Qb [11, 13, 62] (.reg [mv 49 2, bc 50 .lss 49 (V.int 0), mv 51 50, mg 52 2 51 false, xg 53 (.bin .gtr (.t 52) (.c (V.int 40000))) 51 false, xo 54 (.pick (.t 51) (.c (V.bool true)) (.t 53)), mv 55 54, mg 56 3 55 false, xg 57 (.bin .lss (.t 56) (.c (V.int 0))) 55 false, xo 58 (.pick (.t 55) (.c (V.bool true)) (.t 57)), mv 59 58, mg 60 3 59 false, xg 61 (.bin .gtr (.t 60) (.c (V.int 4000))) 59 false, xo 62 (.pick (.t 59) (.c (V.bool true)) (.t 61))]) (.cond (.t 62) (Qb [8, 9, 10] (.reg [xo 8 (.mknil 4), xo 9 (.mknil 1), mc 10 (V.int 2)]) .ret) .skip)) (Qb [8, 9, 10] (.reg [mv 63 11, mv 64 13, mv 8 63, mv 9 64, mc 10 (V.int 0)]) .ret)))))) def r_exposure_facts : List Jf := [.tmp 8, .tmp 9, .tmp 10]
def VO (Γ : Env) (f : Nat) : Prop := ∀ (l : List Qa) (gap day age : Int) (hl : l.length ≤ 12) (hz : ∀ x ∈ l, x.Sz) (hdy : 0 ≤ day ∧ day ≤ 40000) (hag : 0 ≤ age ∧ age ≤ 4000), EvC Γ f [.sl 11 (l.map Qa.v), V.int gap, V.int day, V.int age] (aeV l gap day age)
attribute [local go_sem] Wo in
theorem aeg {Γ : Env} {f Wt jK : Nat} (h : Has Γ.P f 65 (jk Wt jK) r_exposure_facts) (z0 : V9 Γ Wt) (z1 : wh Γ jK) : VO Γ f := by
  intro l gap day age hl hz hdy hag
  refine Y8 h zsi (by unfold aeV; split <;> simp only [V.closed, Qh, and_self]) fun C hC hm => ?_
  subst hC
  unfold jk
  have g0 := (z0 l gap (by omega) hz).b
  by_cases hE : Yj l gap = 0
  rotate_left
  · rw [aeV, if_neg hE]
    rw [arA, if_neg hE] at g0
    have e01 : (Yj l gap != 0) = true := by simpa using hE
    generalize Yj l gap = er at *
    (have zx := e01); exact zg
  rw [aeV, if_pos hE]
  rw [arA, if_pos hE] at g0
  have hN := amK hE
  have d1 : decide (day < 0) = false := decide_eq_false (by omega)
  have d2 : decide (day > 40000) = false := decide_eq_false (by omega)
  have d3 : decide (age < 0) = false := decide_eq_false (by omega)
  have d4 : decide (age > 4000) = false := decide_eq_false (by omega)
  have e00 : ((0 : Int) != 0) = false := by decide
  have hel : ((Wu l gap).map J8.v).length = (Wu l gap).length := List.length_map _
  have hok := fun e (he : e ∈ Wu l gap) => akR he
  have hen := adr l gap
  have hfl : (Xf l gap day age).length = (Wu l gap).length := List.length_map _
  (have zx := And.intro e00 hel); refine zgo ?_; repeat' first | exact zt | apply zan | intro hc
  refine QH (ι := Nat) (fun k => k ≤ (Wu l gap).length) (fun k => faS l gap day age k) (fun k => (Wu l gap).length - k) 0 (Nat.zero_le _) (Ql [(0, 13000)]) (Qu [(0, 13000)] (by simp only [go_sem, zwl, Nat.reduceAdd, Nat.reduceMul, Nat.reduceEqDiff, Nat.reduceLT, Int.reduceToNat, reduceIte, reduceCtorEq, faS, List.length_map] <;> exact zcc) (by simp only [go_sem, zwl, Nat.reduceAdd, Nat.reduceMul, Nat.reduceEqDiff, Nat.reduceLT, Int.reduceToNat, reduceIte, reduceCtorEq, faS, List.take_zero, List.map_nil, anL] <;> exact zcc) (by simp [faS, Ql]) (by simp [faS]; omega) (by omega)) fun k hk K' hL => ?_
  rcases hdr : (Wu l gap).drop k with _ | ⟨e, r⟩
  · have hkl := Je hdr
    have e1 : decide ((k : Int) < ((Wu l gap).length : Int)) = false := by simp; omega
    obtain rfl : k = (Wu l gap).length := by omega
    have htk : (Xf l gap day age).take (Wu l gap).length = Xf l gap day age := List.take_of_length_le (by omega)
    simp only [faS, htk]
    (have zx := And.intro e1 (And.intro d1 (And.intro d2 (And.intro d3 d4)))); refine zgo ?_; repeat' first | exact zt | apply zan | intro hc
    all_goals
      refine Qv _ rfl ⟨?_, ?_, rfl, trivial⟩
      · show conv _ _ _ (.sl 4 ((Wu l gap).map J8.v)) (.sl 4 ((Wu l gap).map J8.v))
        simp [conv]
      show conv _ _ _ (.hd 0 0 (Wu l gap).length) _
      rw [← hfl]
      exact aq1 rfl
  obtain ⟨hk', hget, hr⟩ := QJ hdr
  have hw := Qr (k := k) (by omega)
  have e1 : decide ((k : Int) < ((Wu l gap).length : Int)) = true := by simp; omega
  obtain ⟨o1, o2, o3, o4⟩ := hok e (List.mem_of_getElem? hget)
  have p1 := (z1 l e day age (by omega) hz hN hdy hag o1 o2 (by omega)).b
  have hnx : (Xf l gap day age).take (k + 1) = (Xf l gap day age).take k ++ [yh l e.num e.finds day age] := by
    rw [List.take_add_one, Xf, List.getElem?_map, hget]; rfl
  have htl : ((Xf l gap day age).take k).length = k := by rw [List.length_take]; omega
  simp only [faS]
  have vx : ((Wu l gap).map J8.v)[k]? = some e.v := by rw [List.getElem?_map, hget]; rfl
  simp only [J8.v] at vx p1
  have hxl : (((Xf l gap day age).take k).map fcv).length = k := by rw [List.length_map, htl]
  have htk : List.take k (((Xf l gap day age).take k).map fcv) = ((Xf l gap day age).take k).map fcv := List.take_of_length_le (by omega)
  by_cases hk0 : k = 0
  · subst hk0
    simp only [List.take_zero, List.map_nil, anL, List.nil_append, Nat.zero_add] at *
    have hw1 : IntKind.i64.wrap 1 = 1 := by decide
    (have zx := And.intro e1 (And.intro hw (And.intro hw1 (And.intro vx e00)))); refine zgo ?_; repeat' first | exact zt | apply zan | intro hc
    all_goals first | exact hL _ 1 (Ql [(0, 20001)]) (by omega) (by omega) (Qu [(0, 20001)] (by simp only [go_sem, zwl, Nat.reduceAdd, Nat.reduceMul, Nat.reduceEqDiff, Nat.reduceLT, Int.reduceToNat, reduceIte, reduceCtorEq, faS, List.length_map] <;> exact zcc) (by simp only [go_sem, zwl, Nat.reduceAdd, Nat.reduceMul, Nat.reduceEqDiff, Nat.reduceLT, Int.reduceToNat, reduceIte, reduceCtorEq, faS, hnx, List.map_cons, List.map_nil, aqP, fcv] <;> exact zcc) (by simp [faS, Ql]) (by simp [faS]; omega) (by omega)) | trace_state
  · have hob : obO (((Xf l gap day age).take k).map fcv) = .obuf true 1 (((Xf l gap day age).take k).map fcv) := by
      rw [obO, if_neg]
      intro h; rw [h] at hxl; simp at hxl; omega
    rw [hob]
    have hjn : ((Xf l gap day age).take k).map fcv ++ [.sl 8 ((yh l e.num e.finds day age).map Qi.v)] = ((Xf l gap day age).take (k + 1)).map fcv := by
      rw [hnx, List.map_append]; rfl
    have hob2 : obO (((Xf l gap day age).take (k + 1)).map fcv) = .obuf true 1 (((Xf l gap day age).take (k + 1)).map fcv) := by
      rw [← hjn, aqQ]
    (have zx := And.intro e1 (And.intro hw (And.intro vx (And.intro e00 (And.intro hxl (And.intro htk hjn)))))); refine zgo ?_; repeat' first | exact zt | apply zan | intro hc
    all_goals first | exact hL _ (k + 1) (Ql [(0, 20001)]) (by omega) (by omega) (Qu [(0, 20001)] (by simp only [go_sem, zwl, Nat.reduceAdd, Nat.reduceMul, Nat.reduceEqDiff, Nat.reduceLT, Int.reduceToNat, reduceIte, reduceCtorEq, faS, List.length_map] <;> exact zcc) (by simp only [go_sem, zwl, Nat.reduceAdd, Nat.reduceMul, Nat.reduceEqDiff, Nat.reduceLT, Int.reduceToNat, reduceIte, reduceCtorEq, faS, hob2, aq0, arW] <;> exact zcc) (by simp [faS, Ql]) (by simp [faS]; omega) (by omega)) | trace_state
structure ah6 where
  name : List UInt8
  least : Int
  most : Int
  suites : List Int
  own : Bool
  fall : Bool
def ah6.cells (d : ah6) : List V := [V.str d.name, V.int d.least, V.int d.most, .sl 1 (d.suites.map V.int), V.bool d.own, .sc (.slice none 0 0), .sc (.slice none 0 0), .sc (.slice none 0 0), V.bool d.fall, .sc (.slice none 0 0)]
theorem ah6.cells_closed (d : ah6) : Qh d.cells := by simp [ah6.cells, V.closed, Qh]
theorem agi {α : Type} (p : α → Bool) : ∀ (xs : List α) (k : Nat), decide (aa7 p k xs ≥ 0) = xs.any p
  | [], k => by simp [aa7]
  | x :: r, k => by
    have ih := agi p r (k + 1)
    rw [aa7, List.any_cons]
    by_cases h : p x = true
    · rw [if_pos h, h]; simp
    · have h2 : p x = false := by simpa using h
      rw [if_neg h, h2, ih]; rfl
structure asw where
  sec : List UInt8
  name : List UInt8
  val : List UInt8
  line : Int
def asw.cells (x : asw) : List V := [V.str x.sec, V.str x.name, V.str x.val, V.int x.line]
def asw.v (x : asw) : V := .agg x.cells
abbrev WS := List (List UInt8)
def aal (x : List UInt8) : Nat → WS → Int
  | _, [] => -1
  | k, y :: r => if x = y then k else aal x (k + 1) r
def Y0 : AC := Qb [0, 1] (.reg [mc 4 (V.int 0)]) (Qb [] (Qb [0, 1, 7, 8] (.reg [mv 6 0, ln 7 6, mc 8 (V.int 0)]) (.block 0 (Y6 [0, 1, 7, 8] (Qb [0, 1, 7, 8, 9] (.reg [bn 9 .lss 8 7]) (Qb [0, 1, 7, 8] (.cond (.t 9) .skip (.exit 0)) (Qb [0, 1, 7, 8] (.block 1 (Qb [0, 1, 5, 7, 8] (.reg [mv 10 8, mv 5 10]) (Qb [0, 1, 5, 7, 8, 16] (.reg [mv 11 1, mv 12 0, mv 13 5, ia 14 1 12 13, ld 15 1 14, bn 16 .eql 11 15]) (.cond (.t 16) (Qb [4] (.reg [mv 17 5, mv 4 17]) .ret) .skip)))) (.reg [bc 18 .add 8 (V.int 1), mv 8 18]))))))) (Qb [4] (.reg [mc 4 (V.int (-1))]) .ret)) def r_slices_Index___string_string : List Jf := [.tmp 4]
def YJ (Γ : Env) (f : Nat) : Prop := ∀ (l : WS) (x : List UInt8) (hl : l.length < 2 ^ 62), EvN Γ f [.sl 1 (l.map V.str), V.str x] (V.int (aal x 0 l))
theorem KW {Γ : Env} {f : Nat} (h : Has Γ.P f 19 Y0 r_slices_Index___string_string)  : YJ Γ f := by
  intro l x hl
  refine Qd h zsi zcl zcl fun C hC hm => ?_
  subst hC
  unfold Y0
  refine zgo ?_; repeat' first | exact zt | apply zan | intro hc
  refine Y2 (ι := Nat) (fun k => k ≤ l.length ∧ aal x k (l.drop k) = aal x 0 l) (fun k => [(8, V.int k)]) (fun k => l.length - k) 0 (by omega) ⟨by simp, by simp⟩ (by repeat' first | exact X2 | refine WM (by omega) (by simp only [Ob.lt, ltL, V.lt, and_self, and_true]; try omega) ?_) (fun i hi => by simp only [ovT, X0, Nat.reduceEqDiff, reduceIte]; (repeat' first | exact Ve | refine XO ?_ ?_ | simp only [V.lt, ltL, and_self, and_true] | omega)) zet fun k hk K' hL => ?_
  obtain ⟨hk, hinv⟩ := hk
  simp only [ovT, X0, Nat.reduceEqDiff, reduceIte]
  rcases hd : l.drop k with _ | ⟨y, r⟩
  · have := Je hd
    rw [hd] at hinv
    refine zgo ?_; repeat' first | exact zt | apply zan | intro hc
    refine Qv _ rfl ?_
    simp only [go_sem, Nat.reduceEqDiff, Nat.reduceAdd, reduceIte, reduceCtorEq]
    rw [← hinv]; rfl
  · obtain ⟨hk, hget, hr⟩ := QJ hd
    rw [hd] at hinv
    have hw := Qr (k := k) (by omega)
    (have zx := And.intro hget hw); refine zgo ?_; repeat' first | exact zt | apply zan | intro hc
    · refine Qv _ rfl ?_
      simp only [go_sem, Nat.reduceEqDiff, Nat.reduceAdd, reduceIte, reduceCtorEq]
      rw [← hinv]; simp [aal, hc]
    · refine hL _ (k + 1) zet ⟨by omega, ?_⟩ (by omega) (fun a ha => rfl)
      rw [hr, ← hinv]; simp [aal, hc]
def JN : AC := Qb [0, 1] (.reg [mc 4 (V.int 0)]) (Qb [] (Qb [0, 1, 7, 8] (.reg [mv 6 0, ln 7 6, mc 8 (V.int 0)]) (.block 0 (Y6 [0, 1, 7, 8] (Qb [0, 1, 7, 8, 9] (.reg [bn 9 .lss 8 7]) (Qb [0, 1, 7, 8] (.cond (.t 9) .skip (.exit 0)) (Qb [0, 1, 7, 8] (.block 1 (Qb [0, 1, 5, 7, 8] (.reg [mv 10 8, mv 5 10]) (Qb [0, 1, 5, 7, 8, 16] (.reg [mv 11 1, mv 12 0, mv 13 5, ia 14 8 12 13, xo 15 (.load true 8 (.t 14)), xo 16 (.callv (.t 11) [(.t 15)])]) (.cond (.t 16) (Qb [4] (.reg [mv 17 5, mv 4 17]) .ret) .skip)))) (.reg [bc 18 .add 8 (V.int 1), mv 8 18]))))))) (Qb [4] (.reg [mc 4 (V.int (-1))]) .ret)) def r_slices_IndexFunc___api_Fact_api_Fact : List Jf := [.tmp 4]
def Jy (Γ : Env) (f : Nat) : Prop := ∀ (xs : List Qi) (g : Nat) (cap : List V) (p : Qi → Bool) (hp : ∀ x ∈ xs, EvN Γ g (Qi.v x :: cap) (V.bool (p x))) (hcap : Qh cap) (hl : xs.length < 2 ^ 62), EvN Γ f [.sl 8 (xs.map Qi.v), .clo g cap] (V.int (aa7 p 0 xs))
attribute [local go_sem] Qi.cells Qi.v in
theorem Vm {Γ : Env} {f : Nat} (h : Has Γ.P f 19 JN r_slices_IndexFunc___api_Fact_api_Fact)  : Jy Γ f := by
  intro xs g cap p hp hcap hl
  refine Qd h zsi zcl zcl fun C hC hm => ?_
  subst hC
  unfold JN
  have s1 : ∀ o, Y4 o cap = cap := fun o => XU o cap hcap
  have s2 : ∀ o B, QB o B cap = True := fun o B => eq_true (YU o B cap hcap)
  refine zgo ?_; repeat' first | exact zt | apply zan | intro hc
  refine Y2 (ι := Nat) (fun k => k ≤ xs.length ∧ aa7 p k (xs.drop k) = aa7 p 0 xs) (fun k => [(8, V.int k)]) (fun k => xs.length - k) 0 (by omega) ⟨by simp, by simp⟩ (by repeat' first | exact X2 | refine WM (by omega) (by simp only [Ob.lt, ltL, V.lt, and_self, and_true]; try omega) ?_) (fun i hi => by simp only [ovT, X0, Nat.reduceEqDiff, reduceIte]; (repeat' first | exact Ve | refine XO ?_ ?_ | simp only [V.lt, ltL, and_self, and_true] | omega); exact Wd _ _ hcap) (by simp only [Nat.reduceAdd, ovT, X0, Nat.reduceEqDiff, reduceIte, aa6, aei, aqB, u32, u33, u34, u35, u36, u37, u38, u39, and_self, and_true, true_and]; first | rfl | exact JR _ _ hcap) fun k hk K' hL => ?_
  obtain ⟨hk, hinv⟩ := hk
  simp only [ovT, X0, Nat.reduceEqDiff, reduceIte]
  rcases hd : xs.drop k with _ | ⟨y, r⟩
  · have := Je hd
    rw [hd] at hinv
    have e1 : decide ((k : Int) < (((xs.map Qi.v).length : Nat) : Int)) = false := by simp; omega
    (have zx := e1); refine zgo ?_; repeat' first | exact zt | apply zan | intro hc
    refine Qv _ rfl ?_
    simp only [go_sem, Nat.reduceEqDiff, Nat.reduceAdd, reduceIte, reduceCtorEq]
    rw [← hinv]; rfl
  · obtain ⟨hk, hget, hr⟩ := QJ hd
    rw [hd] at hinv
    have hw := Qr (k := k) (by omega)
    have e1 : decide ((k : Int) < (((xs.map Qi.v).length : Nat) : Int)) = true := by simp; omega
    have hpy := hp y (List.mem_of_getElem? hget)
    by_cases hy : p y = true
    · rw [hy] at hpy
      (have zy0 := hpy.b; have zx := And.intro hget (And.intro hw (And.intro e1 (And.intro s1 s2)))); refine zgo ?_; repeat' first | exact zt | apply zan | intro hc
      refine Qv _ rfl ?_; simp only [go_sem, Nat.reduceEqDiff, Nat.reduceAdd, reduceIte, reduceCtorEq]
      rw [← hinv]; simp [aa7, hy]
    · have hy' : p y = false := by simpa using hy
      rw [hy'] at hpy
      (have zy0 := hpy.b; have zx := And.intro hget (And.intro hw (And.intro e1 (And.intro s1 s2)))); refine zgo ?_; repeat' first | exact zt | apply zan | intro hc
      refine hL _ (k + 1) zet ⟨by omega, ?_⟩ (by omega) (fun a ha => by simp only [u32, u33, u34, u35, u36, u37, u38, u39]; repeat rw [if_neg (by omega)])
      rw [hr, ← hinv, aa7, if_neg hy]
def Ji (QX : Nat) : AC := Qb [0, 1] (.reg [mc 4 (V.bool false)]) (Qb [4] (.reg [mv 5 0, mv 6 1, cl 7 QX [5, 6], bc 8 .geq 7 (V.int 0), mv 4 8]) .ret) def r_slices_ContainsFunc___api_Fact_api_Fact : List Jf := [.tmp 4]
def Jd (Γ : Env) (f : Nat) : Prop := ∀ (xs : List Qi) (g : Nat) (cap : List V) (p : Qi → Bool) (hp : ∀ x ∈ xs, EvN Γ g (Qi.v x :: cap) (V.bool (p x))) (hcap : Qh cap) (hl : xs.length < 2 ^ 62), EvN Γ f [.sl 8 (xs.map Qi.v), .clo g cap] (V.bool (xs.any p))
theorem WH {Γ : Env} {f QX : Nat} (h : Has Γ.P f 9 (Ji QX) r_slices_ContainsFunc___api_Fact_api_Fact) (z0 : Jy Γ QX) : Jd Γ f := by
  intro xs g cap p hp hcap hl
  refine Qd h zsi zcl zcl fun C hC hm => ?_
  subst hC
  unfold Ji
  have s1 : ∀ o, Y4 o cap = cap := fun o => XU o cap hcap
  have s2 : ∀ o B, QB o B cap = True := fun o B => eq_true (YU o B cap hcap)
  have hi := (z0 xs g cap p hp hcap hl).b
  have e1 := agi p xs 0
  (have zx := And.intro s1 (And.intro s2 e1)); exact zg
theorem ahU (x : List UInt8) : ∀ (l : List (List UInt8)) (k : Nat), aal x k l = aa7 (fun y => decide (x = y)) k l
  | [], _ => rfl
  | y :: r, k => by
    rw [aal, aa7, ahU x r]
    by_cases h : x = y <;> simp [h]
def Yt (JV : Nat) : AC := Qb [0, 1] (.reg [mc 4 (V.bool false)]) (Qb [4] (.reg [mv 5 0, mv 6 1, cl 7 JV [5, 6], bc 8 .geq 7 (V.int 0), mv 4 8]) .ret) def r_slices_Contains___string_string : List Jf := [.tmp 4]
def Yi (Γ : Env) (f : Nat) : Prop := ∀ (l : List (List UInt8)) (x : List UInt8) (hl : l.length < 2 ^ 62), EvN Γ f [.sl 1 (l.map V.str), V.str x] (V.bool (l.any fun y => decide (x = y)))
theorem UV {Γ : Env} {f JV : Nat} (h : Has Γ.P f 9 (Yt JV) r_slices_Contains___string_string) (z0 : YJ Γ JV) : Yi Γ f := by
  intro l x hl
  refine Qd h zsi zcl zcl fun C hC hm => ?_
  subst hC
  unfold Yt
  have hi := (z0 l x hl).b
  rw [ahU] at hi
  have e1 := agi (fun y => decide (x = y)) l 0
  (have zx := e1); exact zg
def aki (f x : Qi) : Bool := x.subj == f.subj && (x.kind == f.kind && ((x.alg == f.alg && x.bits == f.bits) && x.num == f.num))
def ql : AC := Qb [1, 2] (.reg [xo 2 (.box true 8 (.t 0)), mc 3 (V.bool false)]) (Qb [3] (.reg [fa 4 1 2, ld 5 1 4, fa 6 1 1, ld 7 1 6, bn 8 .eql 5 7, mv 9 8, xg 10 (.faddr 2 (.t 2)) 9 true, xg 11 (.load false 1 (.t 10)) 9 true, xg 12 (.faddr 2 (.t 1)) 9 true, xg 13 (.load false 1 (.t 12)) 9 true, xg 14 (.bin .eql (.t 11) (.t 13)) 9 true, xo 15 (.pick (.t 9) (.t 14) (.c (V.bool false))), mv 16 15, xg 17 (.faddr 3 (.t 2)) 16 true, xg 18 (.load true 2 (.t 17)) 16 true, xg 19 (.faddr 3 (.t 1)) 16 true, xg 20 (.load true 2 (.t 19)) 16 true, xg 21 (.eqagg false [0, 0] (.t 18) (.t 20)) 16 true, xo 22 (.pick (.t 16) (.t 21) (.c (V.bool false))), mv 23 22, xg 24 (.faddr 5 (.t 2)) 23 true, xg 25 (.load false 1 (.t 24)) 23 true, xg 26 (.faddr 5 (.t 1)) 23 true, xg 27 (.load false 1 (.t 26)) 23 true, xg 28 (.bin .eql (.t 25) (.t 27)) 23 true, xo 29 (.pick (.t 23) (.t 28) (.c (V.bool false))), mv 3 29]) .ret) def r_exposure_says_1 : List Jf := [.tmp 3]
def KI (Γ : Env) (f : Nat) : Prop := ∀ (x f0 : Qi), EvN Γ f [x.v, .ro f0.cells 0] (V.bool (aki f0 x))
theorem adk {Γ : Env} {f : Nat} (h : Has Γ.P f 30 ql r_exposure_says_1)  : KI Γ f := by
  intro x f0
  refine Qd h zsi zcl zcl fun C hC hm => ?_
  subst hC
  unfold ql
  obtain ⟨a1, a2, a3, a4, a5, a6, a7, a8⟩ := x
  obtain ⟨b1, b2, b3, b4, b5, b6, b7, b8⟩ := f0
  simp only [aki, Qi.v, Qi.cells]
  rcases c1 : a2 == b2 with _ | _ <;> rcases c2 : a3 == b3 with _ | _ <;> rcases c3 : a4 == b4 with _ | _ <;> rcases c4 : a5 == b5 with _ | _ <;> rcases c5 : a6 == b6 with _ | _
  all_goals
    (have zx := And.intro c1 (And.intro c2 (And.intro c3 (And.intro c4 c5)))); exact zg
def yy (Wb QM : Nat) : AC := Qb [0, 3] (.reg [xo 3 (.box true 8 (.t 1)), mc 4 (V.bool false)]) (Qb [4] (.reg [mv 5 0, xo 6 (.mkfn Wb [(.t 3)]), cl 7 QM [5, 6], mv 4 7]) .ret) def r_exposure_says : List Jf := [.tmp 4]
def ju (Γ : Env) (f : Nat) : Prop := ∀ (l : List Qi) (f0 : Qi) (hl : l.length < 2 ^ 62), EvN Γ f [.sl 8 (l.map Qi.v), f0.v] (V.bool (l.any (aki f0)))
theorem afw {Γ : Env} {f Wb QM : Nat} (h : Has Γ.P f 8 (yy Wb QM) r_exposure_says) (z0 : KI Γ Wb) (z1 : Jd Γ QM) : ju Γ f := by
  intro l f0 hl
  refine Qd h zsi zcl zcl fun C hC hm => ?_
  subst hC
  unfold yy
  have hi := (z1 l Wb [.ro f0.cells 0] (aki f0) (fun x _ => z0 x f0) (by simp only [Qi.cells, V.closed, Qh, and_self]) hl).b
  simp only [Qi.v, Qi.cells] at hi ⊢
  exact zg
theorem ahV (l : List Qa) (num : Int) (fs : List Nat) (day age : Int) : (yh l num fs day age).length ≤ fs.length := by
  have hok := akU l day age fs fs.length (Nat.le_refl _)
  rw [List.take_length] at hok
  rw [yh, acZ]
  have h1 := List.length_filterMap_le (aeb l num) (alT l day age fs).2
  have h2 := hok.len
  have h3 := hok.le
  omega
def Qp (l : List Qa) (fs : List Nat) : List Qa := fs.filterMap fun i => l[i]?
theorem wB {l : List Qa} : ∀ {fs : List Nat}, (∀ i ∈ fs, i < l.length) → (Qp l fs).length = fs.length
  | [], _ => rfl
  | i :: r, h => by
    have ih := wB (fs := r) fun j hj => h j (List.mem_cons_of_mem _ hj)
    have hi := h i List.mem_cons_self
    rw [Qp, List.filterMap_cons, List.getElem?_eq_getElem hi, List.length_cons, List.length_cons]
    rw [Qp] at ih
    omega
def chS (l : List Qa) (fs : List Nat) (k : Nat) : St := Wo [(0, .sl 11 (l.map Qa.v)), (5, .hd 0 0 k), (8, .sl 1 (QG fs)), (9, V.int fs.length), (10, V.int k)] [(0, .buf true 11 ((Qp l (fs.take k)).map Qa.v))] 1
def qm : AC := Qb [0, 1] (.reg [xo 4 (.mknil 11)]) (Qb [0, 1, 5] (.reg [xo 5 (.mknil 11)]) (Qb [5] (Qb [0, 5, 8, 9, 10] (.reg [mv 8 1, ln 9 8, mc 10 (V.int 0)]) (.block 0 (Y6 [0, 5, 8, 9, 10] (Qb [0, 5, 8, 9, 10, 11] (.reg [bn 11 .lss 10 9]) (Qb [0, 5, 8, 9, 10] (.cond (.t 11) .skip (.exit 0)) (Qb [0, 5, 8, 9, 10] (.block 1 (Qb [0, 5, 7, 8, 9, 10] (.reg [ia 12 1 8 10, ld 13 1 12, mv 7 13]) (.reg [mv 14 5, mv 15 0, mv 16 7, ia 17 11 15 16, xo 18 (.load true 11 (.t 17)), xo 19 (.bslice 1 11 true [vi0, vs0, vi0, vi0, vi0, vi0, vs0, vi0, vi0, vi0, vs0] [(0, (.t 18))]), xo 20 (.append 11 112 [vi0, vs0, vi0, vi0, vi0, vi0, vs0, vi0, vi0, vi0, vs0] (.t 14) (.t 19)), mv 5 20]))) (.reg [bc 21 .add 10 (V.int 1), mv 10 21]))))))) (Qb [4] (.reg [mv 22 5, mv 4 22]) .ret))) def r_exposure_chosen : List Jf := [.tmp 4]
def KJ (Γ : Env) (f : Nat) : Prop := ∀ (l : List Qa) (fs : List Nat) (hb : ∀ i ∈ fs, i < l.length) (hn : fs.length < 2 ^ 30), EvW Γ f [.sl 11 (l.map Qa.v), .sl 1 (QG fs)] 11 ((Qp l fs).map Qa.v)
theorem adl {Γ : Env} {f : Nat} (h : Has Γ.P f 23 qm r_exposure_chosen)  : KJ Γ f := by
  intro l fs hb hn
  refine KX h (by simp) (by first | exact agc _ | exact afS _ | (intro x hx; obtain ⟨y, _, rfl⟩ := List.mem_map.1 hx; simp only [Qa.v, Qa.cells, V.noSl, yX, and_self])) fun C hC hm => ?_
  subst hC
  unfold qm
  have hpc : (QG fs).length = fs.length := List.length_map _
  repeat' (first | (refine zsk ?_; intro K' hK) | refine zsp ?_ | (refine zsc ?_ ?_ <;> intro hc <;> first | exact znh | try simp only [znz] at hc) | simp (maxSteps := 1000000) only [go_sem, Nat.reduceAdd, Nat.reduceMul, Nat.reduceEqDiff, Nat.reduceLeDiff, Nat.reduceLT, Nat.reduceSub, Int.reduceEq, Int.reduceBEq, Int.reduceLT, Int.reduceLE, Int.reduceAdd, Int.reduceToNat, reduceIte, reduceCtorEq, hpc] | (refine hK _ ?_; clear hK K') | apply zan | exact zsq | fail)
  refine QH (ι := Nat) (fun k => k ≤ fs.length) (fun k => chS l fs k) (fun k => fs.length - k) 0 (Nat.zero_le _) (Ql [(0, 1000)]) (Qu [(0, 1000)] (by simp only [go_sem, zwl, Nat.reduceAdd, Nat.reduceMul, Nat.reduceEqDiff, Nat.reduceLT, Int.reduceToNat, reduceIte, reduceCtorEq, chS, List.length_map] <;> exact zcc) (by simp only [go_sem, zwl, Nat.reduceAdd, Nat.reduceMul, Nat.reduceEqDiff, Nat.reduceLT, Int.reduceToNat, reduceIte, reduceCtorEq, chS, Qp, List.take_zero, List.filterMap_nil, List.map_nil] <;> exact zcc) (by simp [chS, Ql]) (by simp [chS]; omega) (by omega)) fun k hk K' hL => ?_
  have hck := wB (l := l) (fs := fs.take k) fun i hi => hb i (List.mem_of_mem_take hi)
  rw [List.length_take, Nat.min_eq_left hk] at hck
  rcases hdr : fs.drop k with _ | ⟨i, r⟩
  · have hkl := Je hdr
    have e1 : decide ((k : Int) < (fs.length : Int)) = false := by simp; omega
    obtain rfl : k = fs.length := by omega
    have htk : fs.take fs.length = fs := List.take_length
    simp only [chS, htk] at hck ⊢
    have htl : List.take fs.length ((Qp l fs).map Qa.v) = (Qp l fs).map Qa.v := List.take_of_length_le (by simp; omega)
    repeat' (first | (refine zsk ?_; intro K' hK) | refine zsp ?_ | (refine zsc ?_ ?_ <;> intro hc <;> first | exact znh | try simp only [znz] at hc) | simp (maxSteps := 1000000) only [go_sem, Nat.reduceAdd, Nat.reduceMul, Nat.reduceEqDiff, Nat.reduceLeDiff, Nat.reduceLT, Nat.reduceSub, Int.reduceEq, Int.reduceBEq, Int.reduceLT, Int.reduceLE, Int.reduceAdd, Int.reduceToNat, reduceIte, reduceCtorEq, Wo, e1] | (refine hK _ ?_; clear hK K') | apply zan | exact zsq | fail)
    have hcl : fs.length = ((Qp l fs).map Qa.v).length := by rw [List.length_map, hck]
    all_goals first | (refine ads (xs := (Qp l fs).map Qa.v) _ _ rfl ?_ ?_ <;> first | exact hcl | exact hcl.symm | rfl | (simp; done)) | trace_state
  obtain ⟨hk', hget, hr⟩ := QJ hdr
  have hw := Qr (k := k) (by omega)
  have e1 : decide ((k : Int) < (fs.length : Int)) = true := by simp; omega
  obtain ⟨f, hf⟩ : ∃ f, l[i]? = some f := ⟨_, List.getElem?_eq_getElem (hb i (List.mem_of_getElem? hget))⟩
  have hvi := WC hget
  have vf : (l.map Qa.v)[i]? = some f.v := by rw [List.getElem?_map, hf]; rfl
  have hnx : Qp l (fs.take (k + 1)) = Qp l (fs.take k) ++ [f] := by
    rw [Qp, List.take_add_one, hget, List.filterMap_append]
    simp [Qp, hf]
  simp only [chS]
  generalize Qp l (fs.take k) = out at *
  have hol : (out.map Qa.v).length = k := by rw [List.length_map, hck]
  have htl : List.take k (out.map Qa.v) = out.map Qa.v := List.take_of_length_le (by omega)
  simp only [Qa.v, Qa.cells] at vf
  repeat' (first | (refine zsk ?_; intro K' hK) | refine zsp ?_ | (refine zsc ?_ ?_ <;> intro hc <;> first | exact znh | try simp only [znz] at hc) | simp (maxSteps := 1000000) only [go_sem, Nat.reduceAdd, Nat.reduceMul, Nat.reduceEqDiff, Nat.reduceLeDiff, Nat.reduceLT, Nat.reduceSub, Int.reduceEq, Int.reduceBEq, Int.reduceLT, Int.reduceLE, Int.reduceAdd, Int.reduceToNat, reduceIte, reduceCtorEq, Wo, e1, hw, hvi, vf, hol, htl, Int.toNat_natCast, List.length_map] | (refine hK _ ?_; clear hK K') | apply zan | exact zsq | fail)
  all_goals first | exact hL _ (k + 1) (Ql [(0, 10001)]) (by omega) (by omega) (Qu [(0, 10001)] (by simp only [go_sem, zwl, Nat.reduceAdd, Nat.reduceMul, Nat.reduceEqDiff, Nat.reduceLT, Int.reduceToNat, reduceIte, reduceCtorEq, chS, List.length_map] <;> exact zcc) (by simp only [go_sem, zwl, Nat.reduceAdd, Nat.reduceMul, Nat.reduceEqDiff, Nat.reduceLT, Int.reduceToNat, reduceIte, reduceCtorEq, chS, hnx, List.map_append, List.map_cons, List.map_nil, Qa.v, Qa.cells] <;> exact zcc) (by simp [chS, Ql]) (by simp [chS]; omega) (by omega)) | trace_state
def amD (l : List Qa) (day age : Int) (f : Qi) (e : J8) : Bool := (f.text == [] || e.hosts.any fun y => decide (f.text = y)) && (yh l e.num e.finds day age).any (aki f)
def yg (l : List Qa) (gap day age : Int) (f : Qi) : Bool := (Wu l gap).any (amD l day age f)
def aag (l : List Qa) (gap day age : Int) (f : Qi) : V := if Yj l gap = 0 then .tup [V.bool (yg l gap day age f), V.int 0] else .tup [V.bool false, V.int (Yj l gap)]
def hoS (l : List Qa) (gap day age : Int) (f : Qi) (k : Nat) : St := Wo [(9, .ptr 0 0), (13, .sl 1 ((Xf l gap day age).map fcv)), (29, .sl 4 ((Wu l gap).map J8.v)), (30, V.int (Wu l gap).length), (31, V.int k)] [(0, .box true f.cells)] 1
def xy (Qk Q9 : Nat) : List AO := [fa 36 6 9, ld 37 1 36, bc 38 .eql 37 (V.str []), mv 39 38, xg 40 (.faddr 1 (.t 16)) 39 false, xg 41 (.load false 1 (.t 40)) 39 false, xg 42 (.faddr 6 (.t 9)) 39 false, xg 43 (.load false 1 (.t 42)) 39 false, xg 44 (.call Qk [(.t 41), (.t 43)]) 39 false, xo 45 (.pick (.t 39) (.c (V.bool true)) (.t 44)), mv 46 45, mg 47 13 46 true, mg 48 15 46 true, xg 49 (.iaddr 1 (.t 47) (.t 48)) 46 true, xg 50 (.load false 1 (.t 49)) 46 true, xg 51 (.load true 8 (.t 9)) 46 true, xg 52 (.call Q9 [(.t 50), (.t 51)]) 46 true, xo 53 (.pick (.t 46) (.t 52) (.c (V.bool false)))]
def xI : List (List Nat) := [[], [0], [1], [2], [3], [4, 3], [3], [6, 3], [5, 7, 3, 3], [3, 8], [9, 8], [10], [10], [11, 12, 10], [13, 10], [10], [14, 15, 10, 10], [10, 16]]
def xj : OT := .one 0 (.one 1 (.one 2 (.one 3 (.one 4 (.one 5 (.one 6 (.one 7 (.one 8 (.one 9 (.one 10 (.one 11 (.one 12 (.one 13 (.one 14 (.one 15 (.one 16 (.one 17 .done)))))))))))))))))
@[go_sem] def xv (Qk Q9 : Nat) : OP := oN 0 (fa 36 6 9) (oN 1 (ld 37 1 36) (oN 2 (bc 38 .eql 37 (V.str [])) (oN 3 (mv 39 38) (oN 4 (xg 40 (.faddr 1 (.t 16)) 39 false) (oN 5 (xg 41 (.load false 1 (.t 40)) 39 false) (oN 6 (xg 42 (.faddr 6 (.t 9)) 39 false) (oN 7 (xg 43 (.load false 1 (.t 42)) 39 false) (oN 8 (xg 44 (.call Qk [(.t 41), (.t 43)]) 39 false) (oN 9 (xo 45 (.pick (.t 39) (.c (V.bool true)) (.t 44))) (oN 10 (mv 46 45) (oN 11 (mg 47 13 46 true) (oN 12 (mg 48 15 46 true) (.one 13 false [8] (xg 49 (.iaddr 1 (.t 47) (.t 48)) 46 true) (.one 14 false [8] (xg 50 (.load false 1 (.t 49)) 46 true) (.one 15 false [8] (xg 51 (.load true 8 (.t 9)) 46 true) (.one 16 false [8] (xg 52 (.call Q9 [(.t 50), (.t 51)]) 46 true) (oN 17 (xo 53 (.pick (.t 46) (.t 52) (.c (V.bool false)))) .done)))))))))))))))))
instance (Qk Q9 : Nat) : RG [] xj (xv Qk Q9) (xy Qk Q9) xI 18 (fun _ => true) := ⟨rfl, by kernel_rfl, by kernel_rfl⟩
def jl (J5 Qk Q9 : Nat) : AC := Qb [0, 1, 2, 3, 9] (.reg [xo 9 (.box true 8 (.t 4)), mc 10 (V.bool false), mc 11 (V.int 0)]) (Qb [9, 12, 13, 14] (.reg [mv 18 0, mv 19 1, mv 20 2, mv 21 3, cl 22 J5 [18, 19, 20, 21], mv 17 22, ex 23 17 0, ex 24 17 1, ex 25 17 2, mv 12 23, mv 13 24, mv 14 25]) (Qb [9, 12, 13] (Qb [9, 12, 13, 14, 27] (.reg [mv 26 14, bc 27 .neq 26 (V.int 0)]) (.cond (.t 27) (Qb [10, 11] (.reg [mv 28 14, mc 10 (V.bool false), mv 11 28]) .ret) .skip)) (Qb [] (Qb [9, 13, 29, 30, 31] (.reg [mv 29 12, ln 30 29, mc 31 (V.int 0)]) (.block 0 (Y6 [9, 13, 29, 30, 31] (Qb [9, 13, 29, 30, 31, 32] (.reg [bn 32 .lss 31 30]) (Qb [9, 13, 29, 30, 31] (.cond (.t 32) .skip (.exit 0)) (Qb [9, 13, 29, 30, 31] (.block 1 (Qb [9, 13, 15, 16, 29, 30, 31] (.reg [mv 33 31, ia 34 4 29 31, xo 35 (.load true 4 (.t 34)), xo 16 (.alloc [.val vi0, .nil 1, .nil 1, .nil 1]), mv 15 33, xs 4 16 35]) (Qb [9, 13, 29, 30, 31, 53] (wP [] xj (xv Qk Q9) (xy Qk Q9) xI) (.cond (.t 53) (Qb [10, 11] (.reg [mc 10 (V.bool true), mc 11 (V.int 0)]) .ret) .skip)))) (.reg [bc 54 .add 31 (V.int 1), mv 31 54]))))))) (Qb [10, 11] (.reg [mc 10 (V.bool false), mc 11 (V.int 0)]) .ret)))) def r_exposure_Holds : List Jf := [.tmp 10, .tmp 11]
def VP (Γ : Env) (f : Nat) : Prop := ∀ (l : List Qa) (gap day age : Int) (f0 : Qi) (hl : l.length ≤ 12) (hz : ∀ x ∈ l, x.Sz) (hdy : 0 ≤ day ∧ day ≤ 40000) (hag : 0 ≤ age ∧ age ≤ 4000), EvN Γ f [.sl 11 (l.map Qa.v), V.int gap, V.int day, V.int age, f0.v] (aag l gap day age f0)
attribute [local go_sem] Wo in
theorem aeh {Γ : Env} {f J5 Qk Q9 : Nat} (h : Has Γ.P f 55 (jl J5 Qk Q9) r_exposure_Holds) (z0 : VO Γ J5) (z1 : Yi Γ Qk) (z2 : ju Γ Q9) : VP Γ f := by
  intro l gap day age f0 hl hz hdy hag
  refine Qd h zsi (by unfold aag; split <;> simp only [V.closed, Qh, V.noSl, yX, and_self]) (by unfold aag; split <;> simp only [V.closed, Qh, V.noSl, yX, and_self]) fun C hC hm => ?_
  subst hC
  unfold jl
  have g0 := (z0 l gap day age hl hz hdy hag).b
  by_cases hE : Yj l gap = 0
  rotate_left
  · rw [aag, if_neg hE]
    rw [aeV, if_neg hE] at g0
    have e01 : (Yj l gap != 0) = true := by simpa using hE
    generalize Yj l gap = er at *
    simp only [Qi.v, Qi.cells]
    (have zx := e01); exact zg
  rw [aag, if_pos hE]
  rw [aeV, if_pos hE] at g0
  have e00 : ((0 : Int) != 0) = false := by decide
  have hel : ((Wu l gap).map J8.v).length = (Wu l gap).length := List.length_map _
  have hok := fun e (he : e ∈ Wu l gap) => akR he
  have hen := adr l gap
  have hfl : (Xf l gap day age).length = (Wu l gap).length := List.length_map _
  simp only [Qi.v, Qi.cells]
  (have zx := And.intro e00 hel); refine zgo ?_; repeat' first | exact zt | apply zan | intro hc
  refine QH (ι := Nat) (fun k => k ≤ (Wu l gap).length ∧ ((Wu l gap).take k).any (amD l day age f0) = false) (fun k => hoS l gap day age f0 k) (fun k => (Wu l gap).length - k) 0 ⟨Nat.zero_le _, rfl⟩ (Ql []) (Qu [] (by simp only [go_sem, zwl, Nat.reduceAdd, Nat.reduceMul, Nat.reduceEqDiff, Nat.reduceLT, Int.reduceToNat, reduceIte, reduceCtorEq, hoS, List.length_map] <;> exact zcc) (by simp only [go_sem, zwl, Nat.reduceAdd, Nat.reduceMul, Nat.reduceEqDiff, Nat.reduceLT, Int.reduceToNat, reduceIte, reduceCtorEq, hoS, Qi.cells] <;> exact zcc) (by simp [hoS, Ql]) (by simp [hoS]) (by omega)) fun k hk K' hL => ?_
  obtain ⟨hk, hno⟩ := hk
  rcases hdr : (Wu l gap).drop k with _ | ⟨e, r⟩
  · have hkl := Je hdr
    have e1 : decide ((k : Int) < ((Wu l gap).length : Int)) = false := by simp; omega
    rw [List.take_of_length_le hkl] at hno
    rw [yg, hno]
    simp only [hoS]
    (have zx := e1); exact zg
  obtain ⟨hk', hget, hr⟩ := QJ hdr
  have hw := Qr (k := k) (by omega)
  have e1 : decide ((k : Int) < ((Wu l gap).length : Int)) = true := by simp; omega
  obtain ⟨o1, o2, o3, o4⟩ := hok e (List.mem_of_getElem? hget)
  have hfs := ahV l e.num e.finds day age
  have p1 := (z2 (yh l e.num e.finds day age) f0 (by omega)).b
  have p2 := (z1 e.hosts f0.text (by omega)).b
  have vx : ((Wu l gap).map J8.v)[k]? = some e.v := by rw [List.getElem?_map, hget]; rfl
  have vf : ((Xf l gap day age).map fcv)[k]? = some (.sl 8 ((yh l e.num e.finds day age).map Qi.v)) := by rw [List.getElem?_map, Xf, List.getElem?_map, hget]; rfl
  have hnx : amD l day age f0 e = false → ((Wu l gap).take (k + 1)).any (amD l day age f0) = false := fun h => by
    rw [List.take_add_one, hget, List.any_append, hno]; simp [h]
  have hys : amD l day age f0 e = true → yg l gap day age f0 = true := fun h => List.any_eq_true.2 ⟨e, List.mem_of_getElem? hget, h⟩
  rw [amD] at hnx hys
  simp only [hoS, Qi.cells]
  simp only [J8.v, Qi.v, Qi.cells] at vx p1
  rcases c1 : (f0.text == []) with _ | _
  · rcases c2 : (e.hosts.any fun y => decide (f0.text = y)) with _ | _
    · rw [c1, c2] at hnx
      rw [c2] at p2
      (have zx := And.intro e1 (And.intro hw (And.intro c1 (And.intro vx vf)))); refine zgo ?_; repeat' first | exact zt | apply zan | intro hc
      all_goals first | exact hL _ (k + 1) (Ql []) ⟨by omega, hnx rfl⟩ (by omega) (Qu [] (by simp only [go_sem, zwl, Nat.reduceAdd, Nat.reduceMul, Nat.reduceEqDiff, Nat.reduceLT, Int.reduceToNat, reduceIte, reduceCtorEq, hoS, List.length_map] <;> exact zcc) (by simp only [go_sem, zwl, Nat.reduceAdd, Nat.reduceMul, Nat.reduceEqDiff, Nat.reduceLT, Int.reduceToNat, reduceIte, reduceCtorEq, hoS, Qi.cells] <;> exact zcc) (by simp [hoS, Ql]) (by simp [hoS]) (by omega)) | trace_state
    · rw [c1, c2] at hnx hys
      rw [c2] at p2
      rcases c3 : ((yh l e.num e.finds day age).any (aki f0)) with _ | _
      · rw [c3] at hnx p1
        (have zx := And.intro e1 (And.intro hw (And.intro c1 (And.intro vx vf)))); refine zgo ?_; repeat' first | exact zt | apply zan | intro hc
        all_goals first | exact hL _ (k + 1) (Ql []) ⟨by omega, hnx rfl⟩ (by omega) (Qu [] (by simp only [go_sem, zwl, Nat.reduceAdd, Nat.reduceMul, Nat.reduceEqDiff, Nat.reduceLT, Int.reduceToNat, reduceIte, reduceCtorEq, hoS, List.length_map] <;> exact zcc) (by simp only [go_sem, zwl, Nat.reduceAdd, Nat.reduceMul, Nat.reduceEqDiff, Nat.reduceLT, Int.reduceToNat, reduceIte, reduceCtorEq, hoS, Qi.cells] <;> exact zcc) (by simp [hoS, Ql]) (by simp [hoS]) (by omega)) | trace_state
      · rw [c3] at hys p1
        rw [hys rfl]
        (have zx := And.intro e1 (And.intro hw (And.intro c1 (And.intro vx vf)))); exact zg
  · rw [c1] at hnx hys
    rcases c3 : ((yh l e.num e.finds day age).any (aki f0)) with _ | _
    · rw [c3] at hnx p1
      (have zx := And.intro e1 (And.intro hw (And.intro c1 (And.intro vx vf)))); refine zgo ?_; repeat' first | exact zt | apply zan | intro hc
      all_goals first | exact hL _ (k + 1) (Ql []) ⟨by omega, hnx rfl⟩ (by omega) (Qu [] (by simp only [go_sem, zwl, Nat.reduceAdd, Nat.reduceMul, Nat.reduceEqDiff, Nat.reduceLT, Int.reduceToNat, reduceIte, reduceCtorEq, hoS, List.length_map] <;> exact zcc) (by simp only [go_sem, zwl, Nat.reduceAdd, Nat.reduceMul, Nat.reduceEqDiff, Nat.reduceLT, Int.reduceToNat, reduceIte, reduceCtorEq, hoS, Qi.cells] <;> exact zcc) (by simp [hoS, Ql]) (by simp [hoS]) (by omega)) | trace_state
    · rw [c3] at hys p1
      rw [hys rfl]
      (have zx := And.intro e1 (And.intro hw (And.intro c1 (And.intro vx vf)))); exact zg
def asR (a b id : Int) (l : List aes) : Bool := match l with | [] => true | c :: _ => ((c.kalg == a && c.kbits == b) && (c.kid == id))
def asD (a b id : Int) (l : List aes) : Bool := aqn a b 2 && (asN id && (decide ((l.length : Int) ≤ 8) && (l.all as1 && asR a b id l)))
structure ae6 where
  kalg : Int
  kbits : Int
  kid : Int
  chain : List aes
def ae6.cells (x : ae6) : List V := [V.int x.kalg, V.int x.kbits, V.int x.kid, .sl 15 (x.chain.map aes.v)]
def ae6.v (x : ae6) : V := .agg x.cells
structure asx where
  name : List UInt8
  least : Int
  most : Int
  suites : List Int
  own : Bool
  idents : List ae6
  anchors : List Int
  hashes : List Int
  fall : Bool
def asx.cells (e : asx) : List V := [V.str e.name, V.int e.least, V.int e.most, .sl 1 (e.suites.map V.int), V.bool e.own, .sl 4 (e.idents.map ae6.v), .sl 1 (e.anchors.map V.int), .sl 1 (e.hashes.map V.int), V.bool e.fall]
def asx.v (e : asx) : V := .agg e.cells
def ae6.ok (x : ae6) : Bool := asD x.kalg x.kbits x.kid x.chain
def Xm : AC := Qb [0, 1] (.reg [mc 4 (V.int 0)]) (Qb [] (Qb [0, 1, 7, 8] (.reg [mv 6 0, ln 7 6, mc 8 (V.int 0)]) (.block 0 (Y6 [0, 1, 7, 8] (Qb [0, 1, 7, 8, 9] (.reg [bn 9 .lss 8 7]) (Qb [0, 1, 7, 8] (.cond (.t 9) .skip (.exit 0)) (Qb [0, 1, 7, 8] (.block 1 (Qb [0, 1, 5, 7, 8] (.reg [mv 10 8, mv 5 10]) (Qb [0, 1, 5, 7, 8, 16] (.reg [mv 11 1, mv 12 0, mv 13 5, ia 14 1 12 13, ld 15 1 14, xo 16 (.callv (.t 11) [(.t 15)])]) (.cond (.t 16) (Qb [4] (.reg [mv 17 5, mv 4 17]) .ret) .skip)))) (.reg [bc 18 .add 8 (V.int 1), mv 8 18]))))))) (Qb [4] (.reg [mc 4 (V.int (-1))]) .ret)) def r_slices_IndexFunc___int_int : List Jf := [.tmp 4]
def Xa (Γ : Env) (f : Nat) : Prop := ∀ (xs : List Int) (g : Nat) (cap : List V) (p : Int → Bool) (hp : ∀ x ∈ xs, EvN Γ g (V.int x :: cap) (V.bool (p x))) (hcap : Qh cap) (hl : xs.length < 2 ^ 62), EvN Γ f [.sl 1 (xs.map V.int), .clo g cap] (V.int (aa7 p 0 xs))
attribute [local go_sem] List.map_nil in
theorem jf {Γ : Env} {f : Nat} (h : Has Γ.P f 19 Xm r_slices_IndexFunc___int_int)  : Xa Γ f := by
  intro xs g cap p hp hcap hl
  refine Qd h zsi zcl zcl fun C hC hm => ?_
  subst hC
  unfold Xm
  have s1 : ∀ o, Y4 o cap = cap := fun o => XU o cap hcap
  have s2 : ∀ o B, QB o B cap = True := fun o B => eq_true (YU o B cap hcap)
  refine zgo ?_; repeat' first | exact zt | apply zan | intro hc
  refine Y2 (ι := Nat) (fun k => k ≤ xs.length ∧ aa7 p k (xs.drop k) = aa7 p 0 xs) (fun k => [(8, V.int k)]) (fun k => xs.length - k) 0 (by omega) ⟨by simp, by simp⟩ (by repeat' first | exact X2 | refine WM (by omega) (by simp only [Ob.lt, ltL, V.lt, and_self, and_true]; try omega) ?_) (fun i hi => by simp only [ovT, X0, Nat.reduceEqDiff, reduceIte]; (repeat' first | exact Ve | refine XO ?_ ?_ | simp only [V.lt, ltL, and_self, and_true] | omega); exact Wd _ _ hcap) (by simp only [Nat.reduceAdd, ovT, X0, Nat.reduceEqDiff, reduceIte, aa6, aei, aqB, u32, u33, u34, u35, u36, u37, u38, u39, and_self, and_true, true_and]; first | rfl | exact JR _ _ hcap) fun k hk K' hL => ?_
  obtain ⟨hk, hinv⟩ := hk
  simp only [ovT, X0, Nat.reduceEqDiff, reduceIte]
  rcases hd : xs.drop k with _ | ⟨y, r⟩
  · have := Je hd
    rw [hd] at hinv
    have e1 : decide ((k : Int) < (((xs.map V.int).length : Nat) : Int)) = false := by simp; omega
    (have zx := e1); refine zgo ?_; repeat' first | exact zt | apply zan | intro hc
    refine Qv _ rfl ?_
    simp only [go_sem, Nat.reduceEqDiff, Nat.reduceAdd, reduceIte, reduceCtorEq]
    rw [← hinv]; rfl
  · obtain ⟨hk, hget, hr⟩ := QJ hd
    rw [hd] at hinv
    have hw := Qr (k := k) (by omega)
    have e1 : decide ((k : Int) < (((xs.map V.int).length : Nat) : Int)) = true := by simp; omega
    have hpy := hp y (List.mem_of_getElem? hget)
    by_cases hy : p y = true
    · rw [hy] at hpy
      (have zy0 := hpy.b; have zx := And.intro hget (And.intro hw (And.intro e1 (And.intro s1 s2)))); refine zgo ?_; repeat' first | exact zt | apply zan | intro hc
      refine Qv _ rfl ?_; simp only [go_sem, Nat.reduceEqDiff, Nat.reduceAdd, reduceIte, reduceCtorEq]
      rw [← hinv]; simp [aa7, hy]
    · have hy' : p y = false := by simpa using hy
      rw [hy'] at hpy
      (have zy0 := hpy.b; have zx := And.intro hget (And.intro hw (And.intro e1 (And.intro s1 s2)))); refine zgo ?_; repeat' first | exact zt | apply zan | intro hc
      refine hL _ (k + 1) zet ⟨by omega, ?_⟩ (by omega) (fun a ha => by simp only [u32, u33, u34, u35, u36, u37, u38, u39]; repeat rw [if_neg (by omega)])
      rw [hr, ← hinv, aa7, if_neg hy]
theorem alz (p : Int → Bool) : ∀ (xs : List Int) (k : Nat), (aa7 p k xs = -1 ∧ ∀ y ∈ xs, p y = false) ∨ ∃ i y, aa7 p k xs = ((k + i : Nat) : Int) ∧ xs[i]? = some y ∧ p y = true ∧ ∀ z ∈ xs.take i, p z = false
  | [], k => .inl ⟨rfl, by simp⟩
  | x :: r, k => by
    rw [aa7]
    by_cases h : p x = true
    · rw [if_pos h]; exact .inr ⟨0, x, rfl, rfl, h, by simp⟩
    · rw [if_neg h]
      have h2 : p x = false := by simpa using h
      rcases alz p r (k + 1) with ⟨h3, h4⟩ | ⟨i, y, h3, h4, h5, h6⟩
      · exact .inl ⟨h3, fun y hy => by
          rcases List.mem_cons.1 hy with rfl | hy
          · exact h2
          · exact h4 y hy⟩
      · refine .inr ⟨i + 1, y, by rw [h3]; congr 1; omega, by simpa using h4, h5, fun z hz => ?_⟩
        rw [List.take_succ_cons] at hz
        rcases List.mem_cons.1 hz with rfl | hz
        · exact h2
        · exact h6 z hz
theorem alI {p : Int → Bool} {xs : List Int} (h : ∀ y ∈ xs, p y = false) : xs.filter (fun x => !p x) = xs := by
  rw [List.filter_eq_self]; intro y hy; rw [h y hy]; rfl
def Y9 (Yc : Nat) : AC := Qb [0, 1] (.reg [xo 4 (.mknil 1)]) (Qb [0, 1, 5] (.reg [mv 8 0, mv 9 1, cl 10 Yc [8, 9], mv 5 10]) (Qb [0, 1, 5] (Qb [0, 1, 5, 12] (.reg [mv 11 5, bc 12 .eql 11 (V.int (-1))]) (.cond (.t 12) (Qb [4] (.reg [mv 13 0, mv 4 13]) .ret) .skip)) (Qb [0, 5] (Qb [0, 1, 5, 6] (.reg [mv 14 5, bc 15 .add 14 (V.int 1), mv 6 15]) (.block 0 (Y6 [0, 1, 5, 6] (Qb [0, 1, 5, 6] (Qb [0, 1, 5, 6, 19] (.reg [mv 16 6, mv 17 0, ln 18 17, bn 19 .lss 16 18]) (.cond (.t 19) .skip (.exit 0))) (Qb [0, 1, 5, 6] (.block 1 (Qb [0, 1, 5, 6, 7] (.reg [mv 22 0, mv 23 6, ia 24 1 22 23, ld 25 1 24, mv 7 25]) (Qb [0, 1, 5, 6, 7, 29] (.reg [mv 26 1, mv 27 7, xo 28 (.callv (.t 26) [(.t 27)]), xo 29 (.un .not (.t 28))]) (.cond (.t 29) (Qb [0, 1, 5, 6] (.reg [mv 30 0, mv 31 5, mv 32 7, ia 33 1 30 31, xs 1 33 32]) (.reg [mv 34 5, bc 35 .add 34 (V.int 1), mv 5 35])) .skip)))) (.reg [mv 20 6, bc 21 .add 20 (V.int 1), mv 6 21])))))) (Qb [0, 5] (.reg [mv 36 0, mv 37 5, xo 38 (.slsl 1 (.t 36) (some (.t 37)) none), ⟨none, .clrS 1 false [vi0] (.t 38), none⟩]) (Qb [4] (.reg [mv 39 0, mv 40 5, xo 41 (.slsl 1 (.t 39) none (some (.t 40))), mv 4 41]) .ret))))) def r_slices_DeleteFunc___int_int : List Jf := [.tmp 4]
def Y3 (Γ : Env) (f : Nat) : Prop := ∀ (xs : List Int) (g : Nat) (cap : List V) (p : Int → Bool) (hp : ∀ x ∈ xs, EvN Γ g (V.int x :: cap) (V.bool (p x))) (hcap : Qh cap) (hl : xs.length < 2 ^ 34), EvZ Γ f [.clo g cap] 1 (xs.map V.int) ((xs.filter fun x ↦ !p x).length) ((xs.filter fun x ↦ !p x).map V.int ++ List.replicate (xs.length - (xs.filter fun x ↦ !p x).length) (V.int 0))
attribute [local go_sem] Wo in
theorem qV {Γ : Env} {f Yc : Nat} (h : Has Γ.P f 42 (Y9 Yc) r_slices_DeleteFunc___int_int) (z0 : Xa Γ Yc) : Y3 Γ f := by
  intro xs g cap p hp hcap hl
  refine agC h (by simp) fun C hC hm => ?_
  subst hC
  unfold Y9
  have s1 : ∀ o, Y4 o cap = cap := fun o => XU o cap hcap
  have s2 : ∀ o B, QB o B cap = True := fun o B => eq_true (YU o B cap hcap)
  have s3 : ∀ τ, yU τ cap = cap := fun τ => JR τ cap hcap
  have s4 : ∀ n, ltL n cap := fun n => Wd n cap hcap
  have hlen : (xs.map V.int).length = xs.length := List.length_map _
  have htk : List.take xs.length (xs.map V.int) = xs.map V.int := List.take_of_length_le (by omega)
  have hi := (z0 xs g cap p hp hcap (by omega)).b
  rcases alz p xs 0 with ⟨hx, hall⟩ | ⟨i, y, hx, hy, hpy, hall⟩
  · rw [alI hall, Nat.sub_self]
    rw [hx] at hi
    have e1 : ((-1 : Int) == -1) = true := by decide
    (have zx := And.intro e1 (And.intro s1 (And.intro s2 (And.intro hlen htk)))); refine zgo ?_; repeat' first | exact zt | apply zan | intro hc
    all_goals first | (refine ajO _ rfl rfl rfl ?_ ?_ <;> first | rfl | (simp; done)) | trace_state
  rw [Nat.zero_add] at hx
  rw [hx] at hi
  have hil := (List.getElem?_eq_some_iff.1 hy).1
  have e1 : ((i : Int) == -1) = false := by rw [beq_eq_false_iff_ne]; omega
  have hwi := Qr (k := i) (by omega)
  (have zx := And.intro e1 (And.intro s1 (And.intro s2 (And.intro hlen (And.intro htk hwi))))); refine zgo ?_; repeat' first | exact zt | apply zan | intro hc
  refine QH (ι := List Int × Nat × Nat) (fun q => q.1.length = xs.length ∧ q.2.1 < q.2.2 ∧ q.2.2 ≤ xs.length ∧ q.1.take q.2.1 = (xs.take q.2.2).filter (fun x => !p x) ∧ q.1.drop q.2.2 = xs.drop q.2.2)
    (fun q => Wo [(0, .hd 0 0 (xs.map V.int).length), (1, .clo g cap), (5, V.int q.2.1), (6, V.int q.2.2)] [(0, .buf true 1 (q.1.map V.int))] 1) (fun q => xs.length - q.2.2) (xs, i, i + 1)
    ⟨rfl, by simp only; omega, by simp only; omega, ?_, rfl⟩ (Ql []) (Qu [] (by simp only [go_sem, zwl, Nat.reduceAdd, Nat.reduceMul, Nat.reduceEqDiff, Nat.reduceLT, Int.reduceToNat, reduceIte, reduceCtorEq, s3, s4, hlen] <;> exact zcc) zwa (by simp) (by simp) (by omega)) fun q hq K' hL => ?_
  · dsimp only
    rw [List.take_add_one, hy, List.filter_append, alI hall]
    simp [hpy]
  obtain ⟨B, n, j⟩ := q
  obtain ⟨hB, hnj, hj, ht, hd⟩ := hq
  dsimp only at hB hnj hj ht hd
  have hBl : (B.map V.int).length = xs.length := by rw [List.length_map, hB]
  have hwj := Qr (k := j) (by omega)
  have hwn := Qr (k := n) (by omega)
  by_cases hje : j = xs.length
  · have e3 : decide ((j : Int) < (xs.length : Int)) = false := decide_eq_false (by omega)
    rw [hje, List.take_length] at ht
    have hgl : (xs.filter fun x => !p x).length = n := by rw [← ht, List.length_take, hB]; omega
    rw [hgl, ← ht]
    (have zx := And.intro e3 hlen); refine zgo ?_; repeat' first | exact zt | apply zan | intro hc
    all_goals first
      | (rw [hlen]; omega)
      | omega
      | (refine ajO _ rfl rfl rfl ?_ ?_ <;> first | rfl | (rw [List.drop_eq_nil_of_le (by rw [hBl]; omega), List.append_nil, List.map_take]; first | done | rfl) | (simp; done))
      | trace_state
  have e3 : decide ((j : Int) < (xs.length : Int)) = true := decide_eq_true (by omega)
  obtain ⟨u, hu⟩ : ∃ u, xs[j]? = some u := ⟨_, List.getElem?_eq_getElem (by omega)⟩
  have hpu := hp u (List.mem_of_getElem? hu)
  have bu : B[j]? = some u := by
    have : (B.drop j)[0]? = (xs.drop j)[0]? := by rw [hd]
    rw [List.getElem?_drop, List.getElem?_drop, Nat.add_zero, hu] at this
    exact this
  have vu : (B.map V.int)[j]? = some (V.int u) := by rw [List.getElem?_map, bu]; rfl
  have hd2 : B.drop (j + 1) = xs.drop (j + 1) := by rw [← List.drop_drop, ← List.drop_drop, hd]
  have hset : (B.map V.int).set n (V.int u) = (B.set n u).map V.int := List.map_set.symm
  have ht2 : (xs.take (j + 1)).filter (fun x => !p x) = B.take n ++ (if p u = true then [] else [u]) := by
    rw [List.take_add_one, hu, List.filter_append, ht]
    rcases hb0 : p u with _ | _ <;> simp [hb0]
  rcases hb : p u with _ | _
  · rw [hb] at hpu ht2
    obtain ⟨t, bt⟩ : ∃ t, B[n]? = some t := ⟨_, List.getElem?_eq_getElem (by omega)⟩
    have vt : (B.map V.int)[n]? = some (V.int t) := by rw [List.getElem?_map, bt]; rfl
    (have zy0 := hpu.b; have zx := And.intro e3 (And.intro hlen (And.intro hwj (And.intro hwn (And.intro vu (And.intro vt (And.intro hset (And.intro s1 s2)))))))); refine zgo ?_; repeat' first | exact zt | apply zan | intro hc
    all_goals first
      | exact hL _ (B.set n u, n + 1, j + 1) (Ql []) ⟨by simp [hB], by simp only; omega, by simp only; omega, by
          dsimp only
          rw [ht2, List.take_add_one, List.getElem?_set_self (by omega), List.take_set_of_le (by omega)]; rfl, by
          dsimp only
          rw [List.drop_set_of_lt (by omega)]; exact hd2⟩ (by simp only; omega) (Qu [] (by simp only [go_sem, zwl, Nat.reduceAdd, Nat.reduceMul, Nat.reduceEqDiff, Nat.reduceLT, Int.reduceToNat, reduceIte, reduceCtorEq, s3, s4, hlen] <;> exact zcc) zwa (by simp) (by simp) (by omega))
      | trace_state
  · rw [hb] at hpu ht2
    (have zy0 := hpu.b; have zx := And.intro e3 (And.intro hlen (And.intro hwj (And.intro hwn (And.intro vu (And.intro s1 s2)))))); refine zgo ?_; repeat' first | exact zt | apply zan | intro hc
    all_goals first
      | exact hL _ (B, n, j + 1) (Ql []) ⟨hB, by simp only; omega, by simp only; omega, by dsimp only; rw [ht2]; simp, hd2⟩ (by simp only; omega) (Qu [] (by simp only [go_sem, zwl, Nat.reduceAdd, Nat.reduceMul, Nat.reduceEqDiff, Nat.reduceLT, Int.reduceToNat, reduceIte, reduceCtorEq, s3, s4, hlen] <;> exact zcc) zwa (by simp) (by simp) (by omega))
      | trace_state
def V4 : AC := Qb [0, 1] (.reg [mc 3 (V.bool false)]) (Qb [3] (.reg [mv 4 0, ld 5 1 1, bn 6 .eql 4 5, mv 3 6]) .ret) def r_exposure_Explain_1 : List Jf := [.tmp 3]
def Vp (Γ : Env) (f : Nat) : Prop := ∀ (x i : Int), EvN Γ f [V.int x, .ro [V.int i] 0] (V.bool (x == i))
theorem aao {Γ : Env} {f : Nat} (h : Has Γ.P f 7 V4 r_exposure_Explain_1)  : Vp Γ f := by
  intro x i
  refine Qd h zsi zcl zcl fun C hC hm => ?_
  subst hC
  unfold V4
  exact zg
def ag8 (l : List Qa) (gap day age : Int) (f : Qi) (fs : List Nat) : Bool := decide (Yj (Qp l fs) gap = 0) && yg (Qp l fs) gap day age f
def WN (i : Nat) (fs : List Nat) : List Nat := fs.filter fun x => !(x == i)
def xL (h : List Nat → Bool) : List Nat → List Nat → Bool → List Nat × Bool
  | [], fs, b => (fs, b)
  | i :: r, fs, b => if h (WN i fs) = true then xL h r (WN i fs) true else xL h r fs b
def afo (h : List Nat → Bool) : Nat → List Nat → List Nat
  | 0, fs => fs
  | n + 1, fs => if (xL h fs fs false).2 = true then afo h n (xL h fs fs false).1 else (xL h fs fs false).1
theorem apj (i : Nat) (fs : List Nat) : (WN i fs).length ≤ fs.length := List.length_filter_le ..
theorem aqU {i : Nat} {fs : List Nat} (h : i ∈ fs) : (WN i fs).length < fs.length := by
  rw [WN, List.length_filter_lt_length_iff_exists]
  exact ⟨i, h, by simp⟩
theorem afI (i : Nat) (fs : List Nat) : (WN i fs).Sublist fs := List.filter_sublist
theorem aaV {h : List Nat → Bool} : ∀ (r fs : List Nat) (b : Bool), (xL h r fs b).1.Sublist fs
  | [], fs, b => List.Sublist.refl _
  | i :: r, fs, b => by
    rw [xL]
    split
    · exact (aaV r _ _).trans (afI i fs)
    · exact aaV r _ _
theorem akr {h : List Nat → Bool} : ∀ (r fs : List Nat), r.Nodup → (∀ i ∈ r, i ∈ fs) → (xL h r fs false).2 = true → (xL h r fs false).1.length < fs.length
  | [], fs, _, _, hb => by cases hb
  | i :: r, fs, hn, hs, hb => by
    rw [xL] at hb ⊢
    split
    · exact Nat.lt_of_le_of_lt (aaV r _ _).length_le (aqU (hs i List.mem_cons_self))
    · rename_i hh
      rw [if_neg hh] at hb
      exact akr r fs (List.nodup_cons.1 hn).2 (fun j hj => hs j (List.mem_cons_of_mem _ hj)) hb
theorem anu {h : List Nat → Bool} : ∀ (r fs : List Nat), (xL h r fs false).2 = false → (xL h r fs false).1 = fs ∧ ∀ i ∈ r, h (WN i fs) = false
  | [], fs, _ => ⟨rfl, by simp⟩
  | i :: r, fs, hb => by
    rw [xL] at hb ⊢
    split
    · rename_i hh
      rw [if_pos hh] at hb
      have : ∀ (r fs : List Nat), (xL h r fs true).2 = true := by
        intro r
        induction r with
        | nil => intro fs; rfl
        | cons j r ih => intro fs; rw [xL]; split <;> exact ih _
      rw [this] at hb; cases hb
    · rename_i hh
      rw [if_neg hh] at hb
      obtain ⟨h1, h2⟩ := anu r fs hb
      exact ⟨h1, fun j hj => by
        rcases List.mem_cons.1 hj with rfl | hj
        · simpa using hh
        · exact h2 j hj⟩
theorem acI {h : List Nat → Bool} : ∀ (r fs : List Nat) (b : Bool), h fs = true → h (xL h r fs b).1 = true
  | [], fs, b, hh => hh
  | i :: r, fs, b, hh => by
    rw [xL]
    split
    · rename_i h2; exact acI r _ _ h2
    · exact acI r _ _ hh
theorem alL {h : List Nat → Bool} : ∀ (n : Nat) (fs : List Nat), (afo h n fs).Sublist fs
  | 0, fs => List.Sublist.refl _
  | n + 1, fs => by
    rw [afo]
    split
    · exact (alL n _).trans (aaV fs fs false)
    · exact aaV fs fs false
theorem ajH {h : List Nat → Bool} : ∀ (n : Nat) (fs : List Nat), h fs = true → h (afo h n fs) = true
  | 0, fs, hh => hh
  | n + 1, fs, hh => by
    rw [afo]
    split
    · exact ajH n _ (acI fs fs false hh)
    · exact acI fs fs false hh
theorem alM {h : List Nat → Bool} : ∀ (n : Nat) (fs : List Nat), fs.Nodup → fs.length < n → ∀ i ∈ afo h n fs, h (WN i (afo h n fs)) = false
  | 0, fs, _, hl => absurd hl (Nat.not_lt_zero _)
  | n + 1, fs, hn, hl => by
    rw [afo]
    split
    · rename_i hb
      have h1 := akr fs fs hn (fun i hi => hi) hb
      exact alM n _ (hn.sublist (aaV fs fs false)) (by omega)
    · rename_i hb
      obtain ⟨h1, h2⟩ := anu fs fs (by simpa using hb)
      rw [h1]; exact h2
def ajI (l : List Qa) (gap day age : Int) (f : Qi) : List Nat := afo (ag8 l gap day age f) (l.length + 1) (List.range l.length)
def amG (l : List Qa) (gap day age : Int) (f : Qi) : V :=
  if Yj l gap = 0 then (if yg l gap day age f = true then .tup [.sl 1 (QG (ajI l gap day age f)), V.int 0] else .tup [.sl 1 [], V.int 4]) else .tup [.sl 1 [], V.int (Yj l gap)]
def zrs (z : Nat) : List V := List.replicate z (V.int 0)
theorem al9 (z : Nat) : Qh (zrs z) := by
  induction z with
  | zero => trivial
  | succ z ih => exact ⟨trivial, ih⟩
def lfc (fs : List Nat) (z : Nat) : List V := QG fs ++ zrs z
theorem ahO (fs : List Nat) (z : Nat) : Qh (lfc fs z) := by
  rw [lfc]
  induction fs with
  | nil => exact al9 z
  | cons i r ih => exact ⟨by simp only [V.closed], ih⟩
theorem adT (σ : Nat → Nat) (fs : List Nat) (z : Nat) : yU σ (lfc fs z) = lfc fs z := JR _ _ (ahO fs z)
theorem ahN (n : Nat) (fs : List Nat) (z : Nat) : ltL n (lfc fs z) := Wd _ _ (ahO fs z)
theorem aph (fs : List Nat) : lfc fs 0 = QG fs := List.append_nil _
theorem aif (fs : List Nat) (z : Nat) : (lfc fs z).take fs.length = QG fs := by
  rw [lfc, List.take_append_of_le_length (by rw [X8]; exact Nat.le_refl _), List.take_of_length_le (by rw [X8]; exact Nat.le_refl _)]
theorem akC (fs : List Nat) (z : Nat) : (lfc fs z).length = fs.length + z := by simp [lfc, zrs, QG]
theorem api (i : Nat) (fs : List Nat) : ((fs.map fun n : Nat => (n : Int)).filter fun x => !(x == (i : Int))) = (WN i fs).map fun n : Nat => (n : Int) := by
  rw [WN, List.filter_map]
  congr 1
  apply List.filter_congr
  intro x _
  simp only [Function.comp]
  congr 1
  rw [Bool.eq_iff_iff]
  simp
  omega
theorem ajX {l : List Qa} {fs : List Nat} (h : ∀ x ∈ l, x.Sz) : ∀ x ∈ Qp l fs, x.Sz := fun x hx => by
  rw [Qp, List.mem_filterMap] at hx
  obtain ⟨i, _, hi⟩ := hx
  exact h x (List.mem_of_getElem? hi)
def exT (l : List Qa) (gap day age : Int) : List (Nat × V) := [(0, .sl 11 (l.map Qa.v)), (1, V.int gap), (2, V.int day), (3, V.int age), (9, .ptr 0 0)]
def aok (l : List Qa) (gap day age : Int) (f : Qi) (k : Nat) : St := Wo (exT l gap day age ++ [(14, .hd 1 0 k), (39, V.int l.length), (40, V.int k)]) [(0, .box true f.cells), (1, .buf true 1 (QG (List.range k)))] 2
def akN (l : List Qa) (gap day age : Int) (f : Qi) (fs : List Nat) (z : Nat) (b : Bool) : St := Wo (exT l gap day age ++ [(14, .hd 1 0 fs.length), (16, V.bool b)]) [(0, .box true f.cells), (1, .buf true 1 (lfc fs z))] 2
def air (l : List Qa) (gap day age : Int) (f : Qi) (fs gs : List Nat) (z : Nat) (b : Bool) (k : Nat) : St := Wo (exT l gap day age ++ [(14, .hd 1 0 gs.length), (16, V.bool b), (50, .hd 2 0 fs.length), (51, V.int fs.length), (52, V.int k)]) [(0, .box true f.cells), (1, .buf true 1 (lfc gs z)), (2, .buf true 1 (QG fs))] 3
def jE (QQ Qq : Nat) : List AO := [mv 61 0, mv 62 19, cl 63 QQ [61, 62], mv 64 1, mv 65 2, mv 66 3, xo 67 (.load true 8 (.t 9)), cl 68 Qq [63, 64, 65, 66, 67], mv 60 68, ex 69 60 0, ex 70 60 1, mv 20 69, mv 21 70]
def jG : List (List Nat) := [[], [], [0, 1], [], [], [], [], [2, 3, 4, 5, 6, 2], [7], [8], [8], [9, 7, 0, 1, 2, 3, 4, 5, 6, 7, 8, 9], [10, 11, 0, 1, 2, 3, 4, 5, 6, 7, 8, 9, 10, 11]]
def jz : OT := .one 0 (.one 1 (.one 2 (.one 3 (.one 4 (.one 5 (.one 6 (.one 7 (.one 8 (.one 9 (.one 10 (.one 11 (.one 12 .done))))))))))))
@[go_sem] def jC (QQ Qq : Nat) : OP := oN 0 (mv 61 0) (oN 1 (mv 62 19) (oN 2 (cl 63 QQ [61, 62]) (oN 3 (mv 64 1) (oN 4 (mv 65 2) (oN 5 (mv 66 3) (oN 6 (xo 67 (.load true 8 (.t 9))) (.one 7 false [2] (cl 68 Qq [63, 64, 65, 66, 67]) (oN 8 (mv 60 68) (oN 9 (ex 69 60 0) (oN 10 (ex 70 60 1) (oN 11 (mv 20 69) (oN 12 (mv 21 70) .done))))))))))))
instance (QQ Qq : Nat) : RG [] jz (jC QQ Qq) (jE QQ Qq) jG 13 (fun _ => true) := ⟨rfl, by kernel_rfl, by kernel_rfl⟩
def Kj (Qq Qz Xg J3 QQ : Nat) : AC := Qb [0, 1, 2, 3, 9] (.reg [xo 9 (.box true 8 (.t 4)), xo 10 (.mknil 1), mc 11 (V.int 0)]) (Qb [0, 1, 2, 3, 9, 12, 13] (.reg [mv 23 0, mv 24 1, mv 25 2, mv 26 3, xo 27 (.load true 8 (.t 9)), cl 28 Qq [23, 24, 25, 26, 27], mv 22 28, ex 29 22 0, ex 30 22 1, mv 12 29, mv 13 30]) (Qb [0, 1, 2, 3, 9] (.block 0 (Qb [0, 1, 2, 3, 9, 12, 13, 31] (.reg [mv 32 13, bc 33 .neq 32 (V.int 0), mv 31 33]) (.cond (.t 31) (Qb [10, 11] (.reg [mv 34 13, xo 10 (.mknil 1), mv 11 34]) .ret) (Qb [0, 1, 2, 3, 9, 35] (.reg [mv 36 12, xo 37 (.un .not (.t 36)), mv 35 37]) (.cond (.t 35) (Qb [10, 11] (.reg [xo 10 (.mknil 1), mc 11 (V.int 4)]) .ret) .skip))))) (Qb [0, 1, 2, 3, 9, 14] (.reg [xo 14 (.mknil 1)]) (Qb [0, 1, 2, 3, 9, 14] (Qb [0, 1, 2, 3, 9, 14, 39, 40] (.reg [mv 38 0, ln 39 38, mc 40 (V.int 0)]) (.block 1 (Y6 [0, 1, 2, 3, 9, 14, 39, 40] (Qb [0, 1, 2, 3, 9, 14, 39, 40, 41] (.reg [bn 41 .lss 40 39]) (Qb [0, 1, 2, 3, 9, 14, 39, 40] (.cond (.t 41) .skip (.exit 1)) (Qb [0, 1, 2, 3, 9, 14, 39, 40] (.block 2 (Qb [0, 1, 2, 3, 9, 14, 15, 39, 40] (.reg [mv 42 40, mv 15 42]) (.reg [mv 43 14, mv 44 15, xo 45 (.bslice 1 1 false [vi0] [(0, (.t 44))]), xo 46 (.append 1 8 [vi0] (.t 43) (.t 45)), mv 14 46]))) (.reg [bc 47 .add 40 (V.int 1), mv 40 47]))))))) (Qb [14] (Qb [0, 1, 2, 3, 9, 14, 16] (.reg [mc 16 (V.bool true)]) (.block 3 (Y6 [0, 1, 2, 3, 9, 14, 16] (Qb [0, 1, 2, 3, 9, 14] (Qb [0, 1, 2, 3, 9, 14, 48] (.reg [mv 48 16]) (.cond (.t 48) .skip (.exit 3))) (.block 4 (Qb [0, 1, 2, 3, 9, 14, 16] (.reg [mc 16 (V.bool false)]) (Qb [0, 1, 2, 3, 9, 14, 16, 50, 51, 52] (.reg [mv 49 14, cl 50 Qz [49], ln 51 50, mc 52 (V.int 0)]) (.block 5 (Y6 [0, 1, 2, 3, 9, 14, 16, 50, 51, 52] (Qb [0, 1, 2, 3, 9, 14, 16, 50, 51, 52, 53] (.reg [bn 53 .lss 52 51]) (Qb [0, 1, 2, 3, 9, 14, 16, 50, 51, 52] (.cond (.t 53) .skip (.exit 5)) (Qb [0, 1, 2, 3, 9, 14, 16, 50, 51, 52] (.block 6 (Qb [0, 1, 2, 3, 9, 14, 16, 18, 50, 51, 52] (.reg [ia 54 1 50 52, ld 55 1 54, xo 18 (.alloc [.val vi0]), xs 1 18 55]) (Qb [0, 1, 2, 3, 9, 14, 16, 19, 50, 51, 52] (.reg [mv 56 14, cl 57 Qz [56], xo 58 (.mkfn Xg [(.t 18)]), cl 59 J3 [57, 58], mv 19 59]) (Qb [0, 1, 2, 3, 9, 14, 16, 19, 20, 21, 50, 51, 52] (wP [] jz (jC QQ Qq) (jE QQ Qq) jG) (Qb [0, 1, 2, 3, 9, 14, 16, 19, 50, 51, 52, 75] (.reg [mv 71 21, bc 72 .eql 71 (V.int 0), mv 73 72, mg 74 20 73 true, xo 75 (.pick (.t 73) (.t 74) (.c (V.bool false)))]) (.cond (.t 75) (.reg [mv 76 19, mv 14 76, mc 16 (V.bool true)]) .skip)))))) (.reg [bc 77 .add 52 (V.int 1), mv 52 77]))))))))))))) (Qb [10, 11] (.reg [mv 78 14, mv 10 78, mc 11 (V.int 0)]) .ret)))))) def r_exposure_Explain : List Jf := [.tmp 10, .tmp 11]
def Wx (Γ : Env) (f : Nat) : Prop := ∀ (l : List Qa) (gap day age : Int) (f0 : Qi) (hl : l.length ≤ 12) (hz : ∀ x ∈ l, x.Sz) (hdy : 0 ≤ day ∧ day ≤ 40000) (hag : 0 ≤ age ∧ age ≤ 4000), EvC Γ f [.sl 11 (l.map Qa.v), V.int gap, V.int day, V.int age, f0.v] (amG l gap day age f0)
attribute [local go_sem] Wo in
theorem aca {Γ : Env} {f Qq Qz Xg J3 QQ : Nat} (h : Has Γ.P f 79 (Kj Qq Qz Xg J3 QQ) r_exposure_Explain) (z0 : VP Γ Qq) (z1 : YW Γ Qz) (z3 : Vp Γ Xg) (z4 : Y3 Γ J3) (z5 : KJ Γ QQ) : Wx Γ f := by
  intro l gap day age f0 hl hz hdy hag
  refine Y8 h zsi (by unfold amG; (repeat' split) <;> simp only [V.closed, Qh, and_self]) fun C hC hm => ?_
  subst hC
  unfold Kj
  have g0 := (z0 l gap day age f0 hl hz hdy hag).b
  simp only [Qi.v, Qi.cells] at g0 ⊢
  by_cases hE : Yj l gap = 0
  rotate_left
  · rw [amG, if_neg hE]
    rw [aag, if_neg hE] at g0
    have e01 : (Yj l gap != 0) = true := by simpa using hE
    generalize Yj l gap = er at *
    (have zx := e01); exact zg
  rw [amG, if_pos hE]
  rw [aag, if_pos hE] at g0
  have e00 : ((0 : Int) != 0) = false := by decide
  rcases hH : yg l gap day age f0 with _ | _
  · rw [if_neg (by decide)]
    rw [hH] at g0
    (have zx := e00); exact zg
  rw [if_pos rfl]
  rw [hH] at g0
  have hgv : (l.map Qa.v).length = l.length := List.length_map _
  (have zx := And.intro e00 hgv); refine zgo ?_; repeat' first | exact zt | apply zan | intro hc
  refine QH (ι := Nat) (fun k => k ≤ l.length) (fun k => aok l gap day age f0 k) (fun k => l.length - k) 0 (Nat.zero_le _) (Ql [(1, 20000)]) (Qu [(1, 20000)] (by simp only [go_sem, zwl, Nat.reduceAdd, Nat.reduceMul, Nat.reduceEqDiff, Nat.reduceLT, Int.reduceToNat, reduceIte, reduceCtorEq, aok, exT, List.cons_append, List.nil_append] <;> exact zcc) (by simp only [go_sem, zwl, Nat.reduceAdd, Nat.reduceMul, Nat.reduceEqDiff, Nat.reduceLT, Int.reduceToNat, reduceIte, reduceCtorEq, aok, exT, Qi.cells, QD, QU] <;> exact zcc) (by simp [aok, Ql]) (by simp [aok]; omega) (by omega)) fun k hk K' hL => ?_
  rcases Nat.lt_or_ge k l.length with hk' | hkl
  · have hw := Qr (k := k) (by omega)
    have e1 : decide ((k : Int) < (l.length : Int)) = true := decide_eq_true (by omega)
    have hjn := ag7 k
    have hol : (QG (List.range k)).length = k := by rw [X8, List.length_range]
    have htl : List.take k (QG (List.range k)) = QG (List.range k) := List.take_of_length_le (by omega)
    simp only [aok, exT, Qi.cells, List.cons_append, List.nil_append]
    (have zx := And.intro e1 (And.intro hw (And.intro hjn (And.intro hol htl)))); refine zgo ?_; repeat' first | exact zt | apply zan | intro hc
    all_goals first | exact hL _ (k + 1) (Ql [(1, 6002)]) (by omega) (by omega) (Qu [(1, 6002)] (by simp only [go_sem, zwl, Nat.reduceAdd, Nat.reduceMul, Nat.reduceEqDiff, Nat.reduceLT, Int.reduceToNat, reduceIte, reduceCtorEq, aok, exT, List.cons_append, List.nil_append] <;> exact zcc) (by simp only [go_sem, zwl, Nat.reduceAdd, Nat.reduceMul, Nat.reduceEqDiff, Nat.reduceLT, Int.reduceToNat, reduceIte, reduceCtorEq, aok, exT, Qi.cells, QD, QU] <;> exact zcc) (by simp [aok, Ql]) (by simp [aok]; omega) (by omega)) | trace_state
  obtain rfl : k = l.length := by omega
  clear hL
  have e1 : decide ((l.length : Int) < (l.length : Int)) = false := by simp
  simp only [aok, exT, Qi.cells, List.cons_append, List.nil_append]
  (have zx := e1); refine zgo ?_; repeat' first | exact zt | apply zan | intro hc
  have hrl : (List.range l.length).length = l.length := List.length_range
  have hz0 := aph (List.range l.length)
  generalize hhh : ag8 l gap day age f0 = hh at *
  generalize hfin : afo hh (l.length + 1) (List.range l.length) = fin at *
  have hfo : ajI l gap day age f0 = fin := by rw [ajI, hhh, hfin]
  rw [hfo]
  refine QH (ι := List Nat × Nat × Bool × Nat) (fun q => q.1.Sublist (List.range l.length) ∧ if q.2.2.1 = true then q.1.length < q.2.2.2 ∧ afo hh q.2.2.2 q.1 = fin else q.1 = fin) (fun q => akN l gap day age f0 q.1 q.2.1 q.2.2.1) (fun q => if q.2.2.1 = true then q.2.2.2 else 0) (List.range l.length, 0, true, l.length + 1) ⟨List.Sublist.refl _, by dsimp only; rw [if_pos rfl]; exact ⟨by omega, hfin⟩⟩ (Ql []) (Qu [] (by simp only [go_sem, zwl, Nat.reduceAdd, Nat.reduceMul, Nat.reduceEqDiff, Nat.reduceLT, Int.reduceToNat, reduceIte, reduceCtorEq, akN, exT, hrl, List.cons_append, List.nil_append] <;> exact zcc) (by simp only [go_sem, zwl, Nat.reduceAdd, Nat.reduceMul, Nat.reduceEqDiff, Nat.reduceLT, Int.reduceToNat, reduceIte, reduceCtorEq, akN, exT, hz0, Qi.cells, QD, QU] <;> exact zcc) (by simp [akN, Ql]) (by simp [akN]) (by omega)) fun q hq K' hL => ?_
  obtain ⟨fs, z, b, n⟩ := q
  obtain ⟨hsb, hif⟩ := hq
  dsimp only at hsb hif
  have hfl := hsb.length_le
  rw [hrl] at hfl
  have hft := aif fs z
  have hll := akC fs z
  have hmem : ∀ gs : List Nat, gs.Sublist fs → ∀ i ∈ gs, i < l.length := fun gs h1 i h2 => List.mem_range.1 (hsb.subset (h1.subset h2))
  rcases b with _ | _
  · rw [if_neg (by decide)] at hif
    subst hif
    simp only [akN, exT, Qi.cells, List.cons_append, List.nil_append]
    (have zx := hft); refine zgo ?_; repeat' first | exact zt | apply zan | intro hc
    all_goals first | (refine Qv _ rfl ?_; simp only [go_sem, Nat.reduceEqDiff, Nat.reduceAdd, reduceIte, reduceCtorEq]; rw [hft]; done) | trace_state
  rw [if_pos rfl] at hif
  obtain ⟨hn, hex⟩ := hif
  obtain ⟨n, rfl⟩ : ∃ m, n = m + 1 := ⟨n - 1, by omega⟩
  rw [afo] at hex
  have gC := z1 (fs.map fun n : Nat => (n : Int)) (by rw [List.length_map]; omega)
  simp only [af0] at gC
  have hpl : (QG fs).length = fs.length := X8 fs
  simp only [akN, exT, Qi.cells, List.cons_append, List.nil_append]
  (have zx := And.intro hft hpl); refine zgo ?_; repeat' first | exact zt | apply zan | intro hc
  refine QH (ι := List Nat × Nat × Bool × Nat) (fun q => q.2.2.2 ≤ fs.length ∧ q.1.Sublist fs ∧ xL hh (fs.drop q.2.2.2) q.1 q.2.2.1 = xL hh fs fs false) (fun q => air l gap day age f0 fs q.1 q.2.1 q.2.2.1 q.2.2.2) (fun q => fs.length - q.2.2.2) (fs, z, false, 0) ⟨Nat.zero_le _, List.Sublist.refl _, by rw [List.drop_zero]⟩ (Ql [(2, 3002)]) (Qu [(2, 3002)] (by simp only [go_sem, zwl, Nat.reduceAdd, Nat.reduceMul, Nat.reduceEqDiff, Nat.reduceLT, Int.reduceToNat, reduceIte, reduceCtorEq, air, exT, List.cons_append, List.nil_append] <;> exact zcc) (by simp only [go_sem, zwl, Nat.reduceAdd, Nat.reduceMul, Nat.reduceEqDiff, Nat.reduceLT, Int.reduceToNat, reduceIte, reduceCtorEq, air, exT, Qi.cells, adT, ahN, QD, QU] <;> exact zcc) (by simp [air, Ql]) (by simp [air]; omega) (by omega)) fun q hq K2 hL2 => ?_
  obtain ⟨gs, z2, b2, k⟩ := q
  obtain ⟨hk, hgs, hps⟩ := hq
  dsimp only at hk hgs hps
  have hgl := hgs.length_le
  have hft2 := aif gs z2
  have hll2 := akC gs z2
  rcases hdr : fs.drop k with _ | ⟨i, r⟩
  · have hkl := Je hdr
    have e2 : decide ((k : Int) < (fs.length : Int)) = false := decide_eq_false (by omega)
    rw [hdr, xL] at hps
    have hlt := akr (h := hh) fs fs (List.nodup_range.sublist hsb) (fun i hi => hi)
    rw [← hps] at hex hlt
    dsimp only at hex hlt
    simp only [air, exT, Qi.cells, List.cons_append, List.nil_append]
    rcases b2 with _ | _
    · rw [if_neg (by decide)] at hex
      (have zx := e2); refine zgo ?_; repeat' first | exact zt | apply zan | intro hc
      all_goals first | exact hL _ (gs, z2, false, 0) (Ql []) ⟨hgs.trans hsb, by dsimp only; rw [if_neg (by decide)]; exact hex⟩ (by simp) (Qu [] (by simp only [go_sem, zwl, Nat.reduceAdd, Nat.reduceMul, Nat.reduceEqDiff, Nat.reduceLT, Int.reduceToNat, reduceIte, reduceCtorEq, akN, exT, List.cons_append, List.nil_append] <;> exact zcc) (by simp only [go_sem, zwl, Nat.reduceAdd, Nat.reduceMul, Nat.reduceEqDiff, Nat.reduceLT, Int.reduceToNat, reduceIte, reduceCtorEq, akN, exT, Qi.cells, adT, ahN] <;> exact zcc) (by simp [akN, Ql]) (by simp [akN]) (by omega)) | trace_state
    · rw [if_pos rfl] at hex
      have hlt2 := hlt rfl
      (have zx := e2); refine zgo ?_; repeat' first | exact zt | apply zan | intro hc
      all_goals first | exact hL _ (gs, z2, true, n) (Ql []) ⟨hgs.trans hsb, by dsimp only; rw [if_pos rfl]; exact ⟨by omega, hex⟩⟩ (by simp) (Qu [] (by simp only [go_sem, zwl, Nat.reduceAdd, Nat.reduceMul, Nat.reduceEqDiff, Nat.reduceLT, Int.reduceToNat, reduceIte, reduceCtorEq, akN, exT, List.cons_append, List.nil_append] <;> exact zcc) (by simp only [go_sem, zwl, Nat.reduceAdd, Nat.reduceMul, Nat.reduceEqDiff, Nat.reduceLT, Int.reduceToNat, reduceIte, reduceCtorEq, akN, exT, Qi.cells, adT, ahN] <;> exact zcc) (by simp [akN, Ql]) (by simp [akN]) (by omega)) | trace_state
  obtain ⟨hk', hget, hr⟩ := QJ hdr
  have hw := Qr (k := k) (by omega)
  have e2 : decide ((k : Int) < (fs.length : Int)) = true := decide_eq_true (by omega)
  have vi := WC hget
  have gC2 := z1 (gs.map fun n : Nat => (n : Int)) (by rw [List.length_map]; omega)
  have gZ := z4 (gs.map fun n : Nat => (n : Int)) Xg [.ro [V.int (i : Int)] 0] (fun x => x == (i : Int)) (fun x _ => z3 x i) (by simp only [V.closed, Qh, and_self]) (by rw [List.length_map]; omega)
  have hlf : QG (WN i gs) ++ List.replicate (gs.length - (WN i gs).length) (V.int 0) = lfc (WN i gs) (gs.length - (WN i gs).length) := rfl
  simp only [af0, api, List.length_map, hlf] at gC2 gZ
  have hls := afI i gs
  have hle := apj i gs
  have hft3 := aif (WN i gs) (gs.length - (WN i gs).length)
  have hll3 := akC (WN i gs) (gs.length - (WN i gs).length)
  have hcb := hmem (WN i gs) (hls.trans hgs)
  have hcl := wB hcb
  have p1 := z5 l (WN i gs) hcb (by omega)
  have hct : List.take (Qp l (WN i gs)).length ((Qp l (WN i gs)).map Qa.v) = (Qp l (WN i gs)).map Qa.v := List.take_of_length_le (by simp)
  have hcm : ((Qp l (WN i gs)).map Qa.v).length = (Qp l (WN i gs)).length := List.length_map _
  have p2 := (z0 (Qp l (WN i gs)) gap day age f0 (by omega) (ajX hz) hdy hag).b
  simp only [Qi.v, Qi.cells] at p2
  have hh1 : hh (WN i gs) = (decide (Yj (Qp l (WN i gs)) gap = 0) && yg (Qp l (WN i gs)) gap day age f0) := by rw [← hhh, ag8]
  rw [hdr, xL, hh1, ← hr] at hps
  clear hh1
  have hgp : (QG gs).length = gs.length := X8 gs
  simp only [air, exT, Qi.cells, List.cons_append, List.nil_append]
  rw [aag] at p2
  generalize WN i gs = ls at *
  by_cases h1 : Yj (Qp l ls) gap = 0
  · rw [if_pos h1] at p2
    rw [decide_eq_true h1, Bool.true_and] at hps
    have e3 : ((0 : Int) == 0) = true := by decide
    rcases h2 : yg (Qp l ls) gap day age f0 with _ | _
    · rw [h2, if_neg (by decide)] at hps
      rw [h2] at p2
      repeat' (first | (refine zsk ?_; intro K' hK) | (refine zrg ?_; intro K' hK) | refine zsp ?_ | (refine zsc ?_ ?_ <;> intro hc <;> first | exact znh | try simp only [znz] at hc) | simp (maxSteps := 1000000) only [go_sem, Nat.reduceAdd, Nat.reduceMul, Nat.reduceEqDiff, Nat.reduceLeDiff, Nat.reduceLT, Nat.reduceSub, Int.reduceEq, Int.reduceBEq, Int.reduceLT, Int.reduceLE, Int.reduceAdd, Int.reduceToNat, reduceIte, reduceCtorEq, Wo, e2, e3, hw, vi, hft2, hft3, hgp, hct, hcm, Int.toNat_natCast] | (refine hK _ ?_; clear hK K') | apply zan | (apply ak4; (focus exact rfl); (focus first | exact gZ); (focus exact rfl); (focus (first | exact rfl | (simp; done) | omega | (simp only [List.length_map]; omega))); (focus exact rfl); (focus first | exact rfl | decide); (focus (simp only [V.closed, Qh, and_self]))) | ((first | apply ae4 | apply aaG); (focus first | exact gC2 | exact p1 | exact (z1 _ zsd))) | (apply aj4; (focus exact rfl); (focus first | exact (z4 _ _ _ _ zsd zsd zsd)); (focus exact rfl); (focus (first | (simp; done) | omega | (simp only [List.length_map]; omega)))) | ((first | apply QS | apply Q1); (focus first | exact p2 | exact (z3 _ _).b)) | exact zsq | fail)
      all_goals first | exact hL2 _ (gs, z2, b2, k + 1) (Ql []) ⟨by simp only; omega, hgs, hps⟩ (by simp only; omega) (Qu [] (by simp only [go_sem, zwl, Nat.reduceAdd, Nat.reduceMul, Nat.reduceEqDiff, Nat.reduceLT, Int.reduceToNat, reduceIte, reduceCtorEq, air, exT, List.cons_append, List.nil_append] <;> exact zcc) (by simp only [go_sem, zwl, Nat.reduceAdd, Nat.reduceMul, Nat.reduceEqDiff, Nat.reduceLT, Int.reduceToNat, reduceIte, reduceCtorEq, air, exT, Qi.cells, adT, ahN, QD, QU] <;> exact zcc) (by simp [air, Ql]) (by simp [air]) (by omega)) | trace_state
    · rw [h2, if_pos rfl] at hps
      rw [h2] at p2
      repeat' (first | (refine zsk ?_; intro K' hK) | (refine zrg ?_; intro K' hK) | refine zsp ?_ | (refine zsc ?_ ?_ <;> intro hc <;> first | exact znh | try simp only [znz] at hc) | simp (maxSteps := 1000000) only [go_sem, Nat.reduceAdd, Nat.reduceMul, Nat.reduceEqDiff, Nat.reduceLeDiff, Nat.reduceLT, Nat.reduceSub, Int.reduceEq, Int.reduceBEq, Int.reduceLT, Int.reduceLE, Int.reduceAdd, Int.reduceToNat, reduceIte, reduceCtorEq, Wo, e2, e3, hw, vi, hft2, hft3, hgp, hct, hcm, Int.toNat_natCast] | (refine hK _ ?_; clear hK K') | apply zan | (apply ak4; (focus exact rfl); (focus first | exact gZ); (focus exact rfl); (focus (first | exact rfl | (simp; done) | omega | (simp only [List.length_map]; omega))); (focus exact rfl); (focus first | exact rfl | decide); (focus (simp only [V.closed, Qh, and_self]))) | ((first | apply ae4 | apply aaG); (focus first | exact gC2 | exact p1 | exact (z1 _ zsd))) | (apply aj4; (focus exact rfl); (focus first | exact (z4 _ _ _ _ zsd zsd zsd)); (focus exact rfl); (focus (first | (simp; done) | omega | (simp only [List.length_map]; omega)))) | ((first | apply QS | apply Q1); (focus first | exact p2 | exact (z3 _ _).b)) | exact zsq | fail)
      all_goals first | exact hL2 _ (ls, gs.length - ls.length, true, k + 1) (Ql [(1, 6003)]) ⟨by simp only; omega, hls.trans hgs, hps⟩ (by simp only; omega) (Qu [(1, 6003)] (by simp only [go_sem, zwl, Nat.reduceAdd, Nat.reduceMul, Nat.reduceEqDiff, Nat.reduceLT, Int.reduceToNat, reduceIte, reduceCtorEq, air, exT, List.cons_append, List.nil_append] <;> exact zcc) (by simp only [go_sem, zwl, Nat.reduceAdd, Nat.reduceMul, Nat.reduceEqDiff, Nat.reduceLT, Int.reduceToNat, reduceIte, reduceCtorEq, air, exT, Qi.cells, adT, ahN, QD, QU] <;> exact zcc) (by simp [air, Ql]) (by simp [air]; omega) (by omega)) | trace_state
  · rw [if_neg h1] at p2
    rw [decide_eq_false h1, Bool.false_and, if_neg (by decide)] at hps
    have e3 : (Yj (Qp l ls) gap == 0) = false := by rw [beq_eq_false_iff_ne]; exact h1
    repeat' (first | (refine zsk ?_; intro K' hK) | (refine zrg ?_; intro K' hK) | refine zsp ?_ | (refine zsc ?_ ?_ <;> intro hc <;> first | exact znh | try simp only [znz] at hc) | simp (maxSteps := 1000000) only [go_sem, Nat.reduceAdd, Nat.reduceMul, Nat.reduceEqDiff, Nat.reduceLeDiff, Nat.reduceLT, Nat.reduceSub, Int.reduceEq, Int.reduceBEq, Int.reduceLT, Int.reduceLE, Int.reduceAdd, Int.reduceToNat, reduceIte, reduceCtorEq, Wo, e2, e3, hw, vi, hft2, hft3, hgp, hct, hcm, Int.toNat_natCast] | (refine hK _ ?_; clear hK K') | apply zan | (apply ak4; (focus exact rfl); (focus first | exact gZ); (focus exact rfl); (focus (first | exact rfl | (simp; done) | omega | (simp only [List.length_map]; omega))); (focus exact rfl); (focus first | exact rfl | decide); (focus (simp only [V.closed, Qh, and_self]))) | ((first | apply ae4 | apply aaG); (focus first | exact gC2 | exact p1 | exact (z1 _ zsd))) | (apply aj4; (focus exact rfl); (focus first | exact (z4 _ _ _ _ zsd zsd zsd)); (focus exact rfl); (focus (first | (simp; done) | omega | (simp only [List.length_map]; omega)))) | ((first | apply QS | apply Q1); (focus first | exact p2 | exact (z3 _ _).b)) | exact zsq | fail)
    all_goals first | exact hL2 _ (gs, z2, b2, k + 1) (Ql []) ⟨by simp only; omega, hgs, hps⟩ (by simp only; omega) (Qu [] (by simp only [go_sem, zwl, Nat.reduceAdd, Nat.reduceMul, Nat.reduceEqDiff, Nat.reduceLT, Int.reduceToNat, reduceIte, reduceCtorEq, air, exT, List.cons_append, List.nil_append] <;> exact zcc) (by simp only [go_sem, zwl, Nat.reduceAdd, Nat.reduceMul, Nat.reduceEqDiff, Nat.reduceLT, Int.reduceToNat, reduceIte, reduceCtorEq, air, exT, Qi.cells, adT, ahN, QD, QU] <;> exact zcc) (by simp [air, Ql]) (by simp [air]) (by omega)) | trace_state
end Av
end

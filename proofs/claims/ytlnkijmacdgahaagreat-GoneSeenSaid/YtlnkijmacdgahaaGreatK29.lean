/- K29 -/
import Derived.Test.YtlnkijmacdgahaaGreatK28
import Derived.Test.YtlnkijmacdgahaaGreatK12
import Derived.Test.YtlnkijmacdgahaaGreatK20
import Derived.Test.YtlnkijmacdgahaaGreatK18
import Derived.Test.YtlnkijmacdgahaaGreatK13
import Derived.Test.YtlnkijmacdgahaaGreatK27
set_option linter.unusedVariables false
set_option linter.unusedSimpArgs false
noncomputable section
set_option maxRecDepth 10000
set_option maxHeartbeats 4000000
namespace Av
open Go
attribute [local irreducible] AWp VA K4 jR awS awC aa9 awQ abD QZ V9 aay awR Ug awB okR jL ris
theorem aga (l : List Qa) (num : Int) (fs : List Nat) (day age : Int) : (Wi l num fs day age).length ≤ fs.length := by
  have h := ahU l day age fs fs.length (Nat.le_refl _)
  rw [List.take_length] at h
  rw [Wi, yf]
  have := List.length_filterMap_le (xj l num) (afm l day age fs).2
  have := h.le; have := h.len
  omega
theorem aiN {α β : Type} {g : α → List β} {b : Nat} : ∀ (es : List α), (∀ e ∈ es, (g e).length ≤ b) → (es.flatMap g).length ≤ es.length * b
  | [], _ => by simp
  | e :: r, h => by
    have h1 := aiN r fun e he => h e (List.mem_cons_of_mem _ he)
    have h2 := h e List.mem_cons_self
    rw [List.flatMap_cons, List.length_append, List.length_cons, Nat.add_mul]; omega
theorem aiz {l : List Qa} (h : Ku l = true) : l.length ≤ 400 := by
  rw [Ku, Bool.and_eq_true, decide_eq_true_eq] at h; omega
def akS (l : List Qa) (gap day age alg : Int) (xs : List QF) (keys : List Int) (need : Int) (k : Nat) : List (Int × Bool) := ((Y7 l gap).take k).flatMap (evE l day age alg xs keys need)
def akQ (l : List Qa) (gap day age alg : Int) (xs : List QF) (keys : List Int) (need : Int) (k : Nat) (e : Q6) (j : Nat) : List (Int × Bool) := akS l gap day age alg xs keys need k ++ ((Wi l e.num e.finds day age).take j).filterMap (evF alg day xs keys need e)
theorem akR {l : List Qa} {gap day age alg : Int} {xs : List QF} {keys : List Int} {need : Int} {k : Nat} {e : Q6} (h : (Y7 l gap)[k]? = some e) : akS l gap day age alg xs keys need (k + 1) = akQ l gap day age alg xs keys need k e (Wi l e.num e.finds day age).length := by
  rw [akQ, List.take_length, akS, akS, List.take_add_one, h, List.flatMap_append]
  simp [evE]
theorem akO {l : List Qa} {gap day age alg : Int} {xs : List QF} {keys : List Int} {need : Int} {k : Nat} {e : Q6} : akQ l gap day age alg xs keys need k e 0 = akS l gap day age alg xs keys need k := by
  rw [akQ]; simp
theorem aeu (l : List Qa) (gap day age alg : Int) (xs : List QF) (keys : List Int) (need : Int) : akS l gap day age alg xs keys need (Y7 l gap).length = evL l gap day age alg xs keys need := by
  rw [akS, List.take_length, evL]
theorem akP {l : List Qa} {gap day age alg : Int} {xs : List QF} {keys : List Int} {need : Int} {k j : Nat} {e : Q6} {f : Jb} (h : (Wi l e.num e.finds day age)[j]? = some f) : akQ l gap day age alg xs keys need k e (j + 1) = akQ l gap day age alg xs keys need k e j ++ (evF alg day xs keys need e f).toList := by
  rw [akQ, akQ, List.take_add_one, h, List.filterMap_append, List.append_assoc]
  congr 2
theorem aet {l : List Qa} {gap day age alg : Int} {xs : List QF} {keys : List Int} {need : Int} (hl : l.length ≤ 400) {k : Nat} : (akS l gap day age alg xs keys need k).length ≤ k * 400 := by
  have h := aiN (g := evE l day age alg xs keys need) (b := 400) ((Y7 l gap).take k) fun e he => by
    obtain ⟨_, _, o3, _⟩ := alK (List.mem_of_mem_take he)
    have := aga l e.num e.finds day age
    have := List.length_filterMap_le (evF alg day xs keys need e) (Wi l e.num e.finds day age)
    rw [evE]; omega
  rw [List.length_take] at h
  have : min k (Y7 l gap).length * 400 ≤ k * 400 := Nat.mul_le_mul_right _ (Nat.min_le_left _ _)
  rw [akS]; omega
theorem aoD {l : List Qa} {gap day age alg : Int} {xs : List QF} {keys : List Int} {need : Int} (hl : l.length ≤ 400) {k j : Nat} {e : Q6} : (akQ l gap day age alg xs keys need k e j).length ≤ k * 400 + j := by
  have h1 := aet (gap := gap) (day := day) (age := age) (alg := alg) (xs := xs) (keys := keys) (need := need) hl (k := k)
  have h2 := List.length_filterMap_le (evF alg day xs keys need e) ((Wi l e.num e.finds day age).take j)
  rw [List.length_take] at h2
  rw [akQ, List.length_append]; omega
def alS (l : List Qa) (gap : Int) (sc : List V) (out : List (Int × Bool)) (k : Nat) : St := JY [(1, .ptr 0 0), (5, .hd 1 0 out.length), (24, .sl 4 ((Y7 l gap).map Q6.v)), (25, V.int (Y7 l gap).length), (26, V.int k)] [(0, .box true sc), (1, .buf true 2 (out.map evV))] 2
def alI (l : List Qa) (gap : Int) (sc : List V) (out : List (Int × Bool)) (k : Nat) (e : Q6) (fs : List Jb) (j : Nat) : St := JY [(1, .ptr 0 0), (5, .hd 1 0 out.length), (7, .ptr 2 0), (24, .sl 4 ((Y7 l gap).map Q6.v)), (25, V.int (Y7 l gap).length), (26, V.int k), (43, .sl 8 (fs.map Jb.v)), (44, V.int fs.length), (45, V.int j)] [(0, .box true sc), (1, .buf true 2 (out.map evV)), (2, .box true (fcE e))] 3
theorem aeJ (f : Nat → Nat) (xs : List (Int × Bool)) : US f (xs.map evV) = xs.map evV := QP _ _ (by induction xs with | nil => trivial | cons x r ih => exact ⟨by simp [evV, V.closed, Qc], ih⟩)
theorem aiT (n : Nat) (xs : List (Int × Bool)) : ltL n (xs.map evV) := JA _ _ (by induction xs with | nil => trivial | cons x r ih => exact ⟨by simp [evV, V.closed, Qc], ih⟩)
def Xf := qd Proofs.Tryz.f24 [⟨fun _ => false, [2, 5], .one 0 (.one 1 (.one 3 (.one 4 (.or 2 (.one 5 (.one 6 (.one 7 (.one 8 (.one 9 (.one 10 (.done))))))) (.or 5 (.one 2 (.one 6 (.one 7 (.one 8 (.one 9 (.one 10 (.done))))))) (.done))))))⟩]
def YZ (Γ : Env) (f : Nat) : Prop := ∀ (l : List Qa) (gap day age alg : Int) (xs : List QF) (keys : List Int) (need : Int) (hz : ∀ x ∈ l, x.Sz) (hE : Y2 l gap = 0) (hrg : amH day age = false) (hxz : ∀ x ∈ xs, x.Sz) (hx : xs.length < 2 ^ 62) (hk : keys.length < 2 ^ 62), EvC Γ f [.agg (srC gap day age alg xs keys need (.sl 11 (l.map Qa.v)))] (.sl 2 ((aeh l gap day age alg xs keys need).map evV))
attribute [local go_sem] List.length_nil JY in
theorem xR {Γ : Env} {f : Nat} (h : Has Γ.P f 76 Xf.1.1.ac Xf.1.2) (z1 : YG Γ 28) (z2 : qy Γ 36) (z3 : yO Γ 37) (z4 : XB Γ 38) (z5 : Q7 Γ 40) (z6 : Jl Γ 41) (z7 : XA Γ 42) : YZ Γ f := by
  intro l gap day age alg xs keys need hz hE hrg hxz hx hk
  refine Qm h zsi (by simp only [V.closed, Qc, and_self]) fun C hC hm => ?_
  subst hC
  simp only [Xf, qd, DC.ac]
  have hN := aaw hE
  have hl := aiz hN
  have g0 := (z1 l gap (by omega) hz).b
  rw [apK, if_pos hE] at g0
  have hok := fun e (he : e ∈ Y7 l gap) => alK he
  have hen := aiX l gap
  have hel : ((Y7 l gap).map Q6.v).length = (Y7 l gap).length := List.length_map _
  have hA := fun (e : Q6) (u : Int × Int) (any : Bool) (hh : e.hosts.length < 2 ^ 62) => z4 u any gap day age alg xs keys need (.sl 11 (l.map Qa.v)) trivial e.hosts (V.int e.num) (.sl 1 (e.machs.map V.int)) (.sl 1 (QX e.finds)) hxz hx hk hh
  have hC := fun (e : Q6) (us : List (Int × Int)) (any : Bool) (hh : e.hosts.length < 2 ^ 62) (hu : us.length < 2 ^ 62) => (z5 us 38 [.ro (srC gap day age alg xs keys need (.sl 11 (l.map Qa.v))) 0, .ro [V.bool any] 0, .ro [V.int e.num, .sl 1 (e.hosts.map V.str), .sl 1 (e.machs.map V.int), .sl 1 (QX e.finds)] 0] (fun u => !xs.any (xJ any u e.hosts day keys need)) (fun u _ => hA e u any hh) (by simp [V.closed, Qc, srC]) hu).b
  have hsort := z6 (evL l gap day age alg xs keys need) 42 (fun x y => Xv x.1 y.1) z7.1 (z7.2 _ rfl) (qG.by Prod.fst) (fun a ha b hb he => aqh a ha b hb (acf he)) (by rw [← aeu]; have := aet (gap := gap) (day := day) (age := age) (alg := alg) (xs := xs) (keys := keys) (need := need) hl (k := (Y7 l gap).length); omega)
  have hal : U1 (fun x y : Int × Bool => decide (Xv x.1 y.1 < 0)) (evL l gap day age alg xs keys need) = aeh l gap day age alg xs keys need := rfl
  rw [hal] at hsort
  have hzo : akS l gap day age alg xs keys need 0 = [] := rfl
  have hal2 := amk l gap day age alg xs keys need
  have hoi := fun (k : Nat) (e : Q6) (j : Nat) => aoD (gap := gap) (day := day) (age := age) (alg := alg) (xs := xs) (keys := keys) (need := need) hl (k := k) (e := e) (j := j)
  have hoa := fun (k : Nat) => aet (gap := gap) (day := day) (age := age) (alg := alg) (xs := xs) (keys := keys) (need := need) hl (k := k)
  have hsu := fun (k : Nat) (e : Q6) => akR (l := l) (gap := gap) (day := day) (age := age) (alg := alg) (xs := xs) (keys := keys) (need := need) (k := k) (e := e)
  have hsi := fun (k j : Nat) (e : Q6) (f : Jb) => akP (l := l) (gap := gap) (day := day) (age := age) (alg := alg) (xs := xs) (keys := keys) (need := need) (k := k) (j := j) (e := e) (f := f)
  have hzi := fun (k : Nat) (e : Q6) => akO (l := l) (gap := gap) (day := day) (age := age) (alg := alg) (xs := xs) (keys := keys) (need := need) (k := k) (e := e)
  have hall := aeu l gap day age alg xs keys need
  have hev : ∀ e f, evF alg day xs keys need e f = if Xr f alg = [] then none else some (f.find, !(Xr f alg).any fun u => !xs.any (xJ (K0 f alg) u e.hosts day keys need)) := fun _ _ => rfl
  simp only [srC] at *
  generalize akS l gap day age alg xs keys need = oA at *
  generalize akQ l gap day age alg xs keys need = oI at *
  generalize evF alg day xs keys need = eF at *
  generalize evL l gap day age alg xs keys need = oL at *
  generalize aeh l gap day age alg xs keys need = oR at *
  (have zx := hel); refine zgo ?_; repeat' first | exact zt | apply zan | intro hc
  refine Qp (ι := Nat) (fun k => k ≤ (Y7 l gap).length) (fun k => alS l gap (srC gap day age alg xs keys need (.sl 11 (l.map Qa.v))) (oA k) k) (fun k => (Y7 l gap).length - k) 0 (Nat.zero_le _) (Qd [(1, 13000)]) (Qh [(1, 13000)] (by simp only [go_sem, zwl, Nat.reduceAdd, Nat.reduceMul, Nat.reduceEqDiff, Nat.reduceLT, Int.reduceToNat, reduceIte, reduceCtorEq, alS, hzo, hel, List.length_nil] <;> exact zcc) (by simp only [go_sem, zwl, Nat.reduceAdd, Nat.reduceMul, Nat.reduceEqDiff, Nat.reduceLT, Int.reduceToNat, reduceIte, reduceCtorEq, alS, hzo, srC, List.map_nil] <;> exact zcc) (by simp [alS, Qd]) (by simp [alS]; omega) (by omega)) fun k hk K' hL => ?_
  rcases hdr : (Y7 l gap).drop k with _ | ⟨e, r⟩
  · have hkl := QB hdr
    have e1 : decide ((k : Int) < ((Y7 l gap).length : Int)) = false := by simp; omega
    obtain rfl : k = (Y7 l gap).length := by omega
    clear hL hC hA
    rw [hall]
    simp only [alS, srC]
    have htk : List.take oL.length (oR.map evV) = oR.map evV := List.take_of_length_le (by simp; omega)
    (have zx := And.intro e1 htk); refine zgo ?_; repeat' first | exact zt | apply zan | intro hc
    all_goals first | (refine Qi _ rfl ?_; simp only [go_sem, Nat.reduceEqDiff, Nat.reduceAdd, reduceIte, reduceCtorEq]; rw [htk]; done) | (refine Qi _ rfl ?_; simp only [go_sem, Nat.reduceEqDiff, Nat.reduceAdd, reduceIte, reduceCtorEq, htk]; done) | exact zr | trace_state
  obtain ⟨hk', hget, hr⟩ := Qo hdr
  have hw := Qg (k := k) (by omega)
  have e1 : decide ((k : Int) < ((Y7 l gap).length : Int)) = true := by simp; omega
  obtain ⟨o1, o2, o3, o4⟩ := hok e (List.mem_of_getElem? hget)
  have p1 := (z2 l e day age (by omega) hz hN o1 o2 (by omega)).b
  rw [agb, if_neg (by rw [hrg]; decide)] at p1
  have hfl := aga l e.num e.finds day age
  have hsu1 := hsu k e hget
  have hzi1 := hzi k e
  have hsi1 := fun (j : Nat) (f : Jb) => hsi k j e f
  have hoi1 := hoi k e
  clear hsi hsu hzi hoi
  simp only [alS, srC]
  have vx : ((Y7 l gap).map Q6.v)[k]? = some e.v := by rw [List.getElem?_map, hget]; rfl
  simp only [Q6.v] at vx p1
  generalize Wi l e.num e.finds day age = fs at *
  have hfm : (fs.map Jb.v).length = fs.length := List.length_map _
  rw [← hzi1]
  (have zx := And.intro e1 (And.intro hw (And.intro vx hfm))); refine zgo ?_; repeat' first | exact zt | apply zan | intro hc
  refine Qp (ι := Nat) (fun j => j ≤ fs.length) (fun j => alI l gap (srC gap day age alg xs keys need (.sl 11 (l.map Qa.v))) (oI k e j) k e fs j) (fun j => fs.length - j) 0 (Nat.zero_le _) (Qd [(2, 3002)]) (Qh [(2, 3002)] (by simp only [go_sem, zwl, Nat.reduceAdd, Nat.reduceMul, Nat.reduceEqDiff, Nat.reduceLT, Int.reduceToNat, reduceIte, reduceCtorEq, alI, hel, hfm] <;> exact zcc) (by simp only [go_sem, zwl, Nat.reduceAdd, Nat.reduceMul, Nat.reduceEqDiff, Nat.reduceLT, Int.reduceToNat, reduceIte, reduceCtorEq, alI, srC, fcE, QH, Q1, aeJ, aiT] <;> exact zcc) (by simp [alI, Qd]) (by simp [alI]; omega) (by omega)) fun j hj K2 hM => ?_
  rcases hds : fs.drop j with _ | ⟨f0, r2⟩
  · have hjl := QB hds
    have f1 : decide ((j : Int) < (fs.length : Int)) = false := by simp; omega
    obtain rfl : j = fs.length := by omega
    clear hM
    have hnn := fun s' => hL s' (k + 1) (Qd []) (by omega) (by omega)
    simp only [alI, srC]
    simp only [hsu1, alS, srC] at hnn
    generalize oI k e fs.length = out at *
    (have zx := And.intro f1 hw); refine zgo ?_; repeat' first | exact zt | apply zan | intro hc
    all_goals first | exact hnn _ (Qh [] zwa (by simp only [go_sem, zwl, Nat.reduceAdd, Nat.reduceMul, Nat.reduceEqDiff, Nat.reduceLT, Int.reduceToNat, reduceIte, reduceCtorEq, aeJ, aiT] <;> exact zcc) (by simp [Qd]) (by simp) (by omega)) | trace_state
  obtain ⟨hj', hgf, hrf⟩ := Qo hds
  have hwj := Qg (k := j) (by omega)
  have f1 : decide ((j : Int) < (fs.length : Int)) = true := by simp; omega
  have vf : (fs.map Jb.v)[j]? = some f0.v := by rw [List.getElem?_map, hgf]; rfl
  have gU := (z3 f0 alg).b
  have hnn := fun s' => hM s' (j + 1)
  have hs1 := hsi1 j f0 hgf
  have hol := hoi1 j
  clear hL hM hoi1 hsi1
  rw [hev] at hs1
  rw [ac7] at gU
  have hum : ((Xr f0 alg).map Yj).length = (Xr f0 alg).length := List.length_map _
  have hul : (Xr f0 alg).length ≤ 4 := by
    rw [Xr]
    (repeat' split) <;> first | simp | (refine Nat.le_trans (List.length_filter_le _ _) ?_; simp [suU])
  simp only [alI, srC, fcE, Jb.v, Jb.cells] at vf gU ⊢
  by_cases hu : Xr f0 alg = []
  · rw [if_pos hu, Option.toList_none, List.append_nil] at hs1
    rw [hu] at gU
    simp only [hs1, List.map_nil] at hnn gU
    generalize oI k e j = out at *
    have z0 : (((0 : Nat) : Int) == 0) = true := rfl
    (have zx := And.intro f1 (And.intro hwj (And.intro vf z0))); refine zgo ?_; repeat' first | exact zt | apply zan | intro hc
    all_goals first | exact hnn _ (Qd []) (by omega) (by omega) (Qh [] (by simp only [go_sem, zwl, Nat.reduceAdd, Nat.reduceMul, Nat.reduceEqDiff, Nat.reduceLT, Int.reduceToNat, reduceIte, reduceCtorEq, alI, hel, hfm] <;> exact zcc) (by simp only [go_sem, zwl, Nat.reduceAdd, Nat.reduceMul, Nat.reduceEqDiff, Nat.reduceLT, Int.reduceToNat, reduceIte, reduceCtorEq, alI, srC, fcE, QH, Q1, aeJ, aiT] <;> exact zcc) (by simp [alI, Qd]) (by simp [alI]) (by omega)) | trace_state
  rw [if_neg hu, Option.toList_some] at hs1
  have z0 : (((Xr f0 alg).length : Int) == 0) = false := by
    have : (Xr f0 alg).length ≠ 0 := fun h => hu (List.length_eq_zero_iff.1 h)
    simpa using this
  have hCC := hC e (Xr f0 alg) (K0 f0 alg) (by omega) (by omega)
  generalize (Xr f0 alg).any (fun u => !xs.any (xJ (K0 f0 alg) u e.hosts day keys need)) = cv at *
  generalize Xr f0 alg = us at *
  generalize K0 f0 alg = ub at *
  simp only [hs1] at hnn
  generalize oI k e j = out at *
  have hto : List.take out.length (out.map evV) = out.map evV := List.take_of_length_le (by simp)
  have hom : (out.map evV).length = out.length := List.length_map _
  have q1 : (out.length + 1) * 2 ≤ 2 ^ 40 := by omega
  have q2 : out.length + 1 ≤ 2 ^ 40 := by omega
  clear hsort hall hA hC
  (have zx := And.intro f1 (And.intro hwj (And.intro vf (And.intro z0 (And.intro hum (And.intro hto (And.intro hom (And.intro q1 q2)))))))); refine zgo ?_; repeat' first | exact zt | apply zan | intro hc
  all_goals first | exact hnn _ (Qd [(1, 30003)]) (by omega) (by omega) (Qh [(1, 30003)] (by simp only [go_sem, zwl, Nat.reduceAdd, Nat.reduceMul, Nat.reduceEqDiff, Nat.reduceLT, Int.reduceToNat, reduceIte, reduceCtorEq, alI, hel, hfm, List.length_append, List.length_singleton] <;> exact zcc) (by simp only [go_sem, zwl, Nat.reduceAdd, Nat.reduceMul, Nat.reduceEqDiff, Nat.reduceLT, Int.reduceToNat, reduceIte, reduceCtorEq, alI, srC, fcE, QH, Q1, aeJ, aiT, List.map_append, List.map_cons, List.map_nil, evV] <;> exact zcc) (by simp [alI, Qd]) (by simp [alI]; omega) (by omega)) | trace_state
theorem ame {l : List Qa} {gap age alg : Int} {xs : List QF} {days : List Int} (h : abb l gap age alg xs days = 0) : Y2 l gap = 0 ∧ ∀ d ∈ days, amH d age = false := by
  rw [abb] at h
  split at h
  · contradiction
  · rename_i h1
    split at h
    · cases h
    · rename_i h2
      refine ⟨by simpa using h1, fun d hd => ahc.2 ?_⟩
      have h2 := Bool.eq_false_iff.2 h2
      rw [Bool.or_eq_false_iff, Bool.or_eq_false_iff, decide_eq_false_iff_not, decide_eq_false_iff_not, List.any_eq_false] at h2
      obtain ⟨h3, h4, h5⟩ := h2
      have h6 := Bool.eq_false_iff.2 (h5 d hd)
      rw [yx, Bool.or_eq_false_iff, decide_eq_false_iff_not, decide_eq_false_iff_not] at h6
      omega
theorem agK {l : List Qa} {gap day age alg : Int} {xs : List QF} {keys : List Int} {need : Int} (hE : Y2 l gap = 0) : (aeh l gap day age alg xs keys need).length ≤ 160000 := by
  have hl := aiz (aaw hE)
  have := aet (gap := gap) (day := day) (age := age) (alg := alg) (xs := xs) (keys := keys) (need := need) hl (k := (Y7 l gap).length)
  have hen := aiX l gap
  rw [amk, ← aeu]
  have : (Y7 l gap).length * 400 ≤ 400 * 400 := Nat.mul_le_mul_right _ (by omega)
  omega
def YS := qd Proofs.Tryz.f23 []
def YH (Γ : Env) (f : Nat) : Prop := ∀ (l : List Qa) (gap day age alg : Int) (xs : List QF) (keys : List Int) (need : Int) (hz : ∀ x ∈ l, x.Sz) (hE : Y2 l gap = 0) (hrg : amH day age = false) (hxz : ∀ x ∈ xs, x.Sz) (hx : xs.length < 2 ^ 62) (hk : keys.length < 2 ^ 62), EvN Γ f [.agg (srC gap day age alg xs keys need (.sl 11 (l.map Qa.v)))] (V.bool (aal l gap day age alg xs keys need))
theorem xp {Γ : Env} {f : Nat} (h : Has Γ.P f 7 YS.1.1.ac YS.1.2) (z0 : YZ Γ 24) (z1 : QG Γ 34) (z2 : Xb Γ 35) : YH Γ f := by
  intro l gap day age alg xs keys need hz hE hrg hxz hx hk
  refine Qb h zsi zcl zcl fun C hC hm => ?_
  subst hC
  simp only [YS, qd, DC.ac]
  have gA := (z0 l gap day age alg xs keys need hz hE hrg hxz hx hk).b
  have gC := (z1 (aeh l gap day age alg xs keys need) 35 [] (fun e => !e.2) (fun x _ => z2 x) trivial (by have := agK (day := day) (age := age) (alg := alg) (xs := xs) (keys := keys) (need := need) hE; omega)).b
  rw [aal]
  simp only [srC] at *
  exact zg
def amp (l : List Qa) (gap day age alg : Int) (xs : List QF) (keys : List Int) (need : Int) : V := if abb l gap age alg xs [day] ≠ 0 then .tup [V.bool false, V.int (abb l gap age alg xs [day])] else .tup [V.bool (aal l gap day age alg xs keys need), V.int 0]
def jp := qd Proofs.Tryz.f11 []
def WX (Γ : Env) (f : Nat) : Prop := ∀ (l : List Qa) (gap day age alg : Int) (xs : List QF) (keys : List Int) (need : Int) (hl : l.length < 2 ^ 40) (hz : ∀ x ∈ l, x.Sz) (hxz : ∀ x ∈ xs, x.Sz) (hx : xs.length < 2 ^ 62) (hk : keys.length < 2 ^ 62), EvN Γ f [.sl 11 (l.map Qa.v), V.int gap, V.int day, V.int age, V.int alg, .sl 7 (xs.map QF.v), .agg [.sl 1 (keys.map V.int), V.int need]] (amp l gap day age alg xs keys need)
theorem agn {Γ : Env} {f : Nat} (h : Has Γ.P f 37 jp.1.1.ac jp.1.2) (z0 : JM Γ 22) (z1 : YH Γ 23) : WX Γ f := by
  intro l gap day age alg xs keys need hl hz hxz hx hk
  refine Qb h zsi (by unfold amp; split <;> simp only [V.closed, Qc, V.noSl, yc, and_self]) (by unfold amp; split <;> simp only [V.closed, Qc, V.noSl, yc, and_self]) fun C hC hm => ?_
  subst hC
  simp only [jp, qd, DC.ac]
  have gK := (z0 l gap day age alg xs keys need [day] hl hz hx hxz (by simp)).b
  rw [amp]
  by_cases hq : abb l gap age alg xs [day] = 0
  · obtain ⟨hE, hd⟩ := ame hq
    have gG := (z1 l gap day age alg xs keys need hz hE (hd day List.mem_cons_self) hxz hx hk).b
    rw [hq] at gK
    rw [if_neg (by simpa using hq)]
    have e0 : ((0 : Int) != 0) = false := rfl
    simp only [srC, List.map_cons, List.map_nil] at *
    (have zx := e0); exact zg
  · rw [if_pos hq]
    have e0 : (abb l gap age alg xs [day] != 0) = true := by simpa using hq
    generalize abb l gap age alg xs [day] = er at *
    simp only [srC, List.map_cons, List.map_nil] at *
    (have zx := e0); exact zg
def apM (l : List Qa) (gap day age alg : Int) (xs : List QF) (keys : List Int) (need : Int) : V := if abb l gap age alg xs [day] ≠ 0 then .tup [.sl 2 [], V.int (abb l gap age alg xs [day])] else .tup [.sl 2 ((aeh l gap day age alg xs keys need).map evV), V.int 0]
def xc := qd Proofs.Tryz.f12 []
def jF (Γ : Env) (f : Nat) : Prop := ∀ (l : List Qa) (gap day age alg : Int) (xs : List QF) (keys : List Int) (need : Int) (hl : l.length < 2 ^ 40) (hz : ∀ x ∈ l, x.Sz) (hxz : ∀ x ∈ xs, x.Sz) (hx : xs.length < 2 ^ 62) (hk : keys.length < 2 ^ 62), EvC Γ f [.sl 11 (l.map Qa.v), V.int gap, V.int day, V.int age, V.int alg, .sl 7 (xs.map QF.v), .agg [.sl 1 (keys.map V.int), V.int need]] (apM l gap day age alg xs keys need)
theorem ahM {Γ : Env} {f : Nat} (h : Has Γ.P f 37 xc.1.1.ac xc.1.2) (z0 : JM Γ 22) (z1 : YZ Γ 24) : jF Γ f := by
  intro l gap day age alg xs keys need hl hz hxz hx hk
  refine Qm h zsi (by unfold apM; split <;> simp only [V.closed, Qc, and_self]) fun C hC hm => ?_
  subst hC
  simp only [xc, qd, DC.ac]
  have gK := (z0 l gap day age alg xs keys need [day] hl hz hx hxz (by simp)).b
  rw [apM]
  by_cases hq : abb l gap age alg xs [day] = 0
  · obtain ⟨hE, hd⟩ := ame hq
    have gG := (z1 l gap day age alg xs keys need hz hE (hd day List.mem_cons_self) hxz hx hk).b
    rw [hq] at gK
    rw [if_neg (by simpa using hq)]
    have e0 : ((0 : Int) != 0) = false := rfl
    simp only [srC, List.map_cons, List.map_nil] at *
    (have zx := e0); exact zg
  · rw [if_pos hq]
    have e0 : (abb l gap age alg xs [day] != 0) = true := by simpa using hq
    generalize abb l gap age alg xs [day] = er at *
    simp only [srC, List.map_cons, List.map_nil] at *
    (have zx := e0); exact zg
def ad4 (l : List Qa) (gap age alg : Int) (xs : List QF) (keys : List Int) (need : Int) (days : List Int) : V :=
  if abb l gap age alg xs [] ≠ 0 then .tup [V.int 0, V.bool false, V.int (abb l gap age alg xs [])]
  else if abb l gap age alg xs days ≠ 0 then .tup [V.int 0, V.bool false, V.int (abb l gap age alg xs days)]
  else match days.find? fun d => aal l gap d age alg xs keys need with
  | some d => .tup [V.int d, V.bool true, V.int 0]
  | none => .tup [V.int 0, V.bool false, V.int 0]
def fiS (l : List Qa) (gap age alg : Int) (xs : List QF) (keys : List Int) (need : Int) (days : List Int) (q : Nat × Int) : St := JY [(17, .ptr 0 0), (40, .sl 1 (days.map V.int)), (41, V.int days.length), (42, V.int q.1)] [(0, .box true (srC gap q.2 age alg xs keys need (.sl 11 (l.map Qa.v))))] 1
def KR := qd Proofs.Tryz.f14 []
def UP (Γ : Env) (f : Nat) : Prop := ∀ (l : List Qa) (gap age alg : Int) (xs : List QF) (keys : List Int) (need : Int) (days : List Int) (hl : l.length < 2 ^ 40) (hz : ∀ x ∈ l, x.Sz) (hxz : ∀ x ∈ xs, x.Sz) (hx : xs.length < 2 ^ 62) (hk : keys.length < 2 ^ 62) (hdl : days.length < 2 ^ 62), EvN Γ f [.sl 11 (l.map Qa.v), V.int gap, V.int age, V.int alg, .sl 7 (xs.map QF.v), .agg [.sl 1 (keys.map V.int), V.int need], .sl 1 (days.map V.int)] (ad4 l gap age alg xs keys need days)
attribute [local go_sem] JY in
theorem aeV {Γ : Env} {f : Nat} (h : Has Γ.P f 54 KR.1.1.ac KR.1.2) (z0 : JM Γ 22) (z1 : YH Γ 23) : UP Γ f := by
  intro l gap age alg xs keys need days hl hz hxz hx hk hdl
  refine Qb h zsi (by unfold ad4; (repeat' split) <;> simp only [V.closed, Qc, V.noSl, yc, and_self]) (by unfold ad4; (repeat' split) <;> simp only [V.closed, Qc, V.noSl, yc, and_self]) fun C hC hm => ?_
  subst hC
  simp only [KR, qd, DC.ac]
  have gK1 := (z0 l gap 0 age alg xs keys need [] hl hz hx hxz (by simp)).b.le2 (LeV.refl _) (LeV.nil 1)
  have gK2 := (z0 l gap 0 age alg xs keys need days hl hz hx hxz hdl).b
  have hdm : (days.map V.int).length = days.length := List.length_map _
  rw [ad4]
  have e00 : ((0 : Int) != 0) = false := rfl
  by_cases hq : abb l gap age alg xs [] = 0
  rotate_left
  · rw [if_pos hq]
    have e0 : (abb l gap age alg xs [] != 0) = true := by simpa using hq
    generalize abb l gap age alg xs [] = er at *
    simp only [srC, List.map_cons, List.map_nil] at *
    (have zx := e0); exact zg
  rw [hq] at gK1
  rw [if_neg (by simpa using hq)]
  by_cases hq2 : abb l gap age alg xs days = 0
  rotate_left
  · rw [if_pos hq2]
    have e0 : (abb l gap age alg xs days != 0) = true := by simpa using hq2
    generalize abb l gap age alg xs days = er at *
    simp only [srC, List.map_cons, List.map_nil] at *
    (have zx := And.intro e00 e0); exact zg
  rw [hq2] at gK2
  rw [if_neg (by simpa using hq2)]
  obtain ⟨hE, hdd⟩ := ame hq2
  have gG := fun d (hd : d ∈ days) => (z1 l gap d age alg xs keys need hz hE (hdd d hd) hxz hx hk).b
  simp only [srC, List.map_cons, List.map_nil] at gK1 gK2 gG ⊢
  obtain ⟨p, hp0⟩ : ∃ p : Int → Bool, p = fun d => aal l gap d age alg xs keys need := ⟨_, rfl⟩
  have hpd : ∀ d, aal l gap d age alg xs keys need = p d := fun d => (congrFun hp0 d).symm
  rw [← hp0]
  simp only [hpd] at gG
  clear hp0 hpd
  (have zx := And.intro e00 hdm); refine zgo ?_; repeat' first | exact zt | apply zan | intro hc
  refine Qp (ι := Nat × Int) (fun q => q.1 ≤ days.length ∧ (days.drop q.1).find? p = days.find? p) (fun q => fiS l gap age alg xs keys need days q) (fun q => days.length - q.1) (0, 0) ⟨Nat.zero_le _, rfl⟩ (Qd [(0, 13000)]) (Qh [(0, 13000)] (by simp only [go_sem, zwl, Nat.reduceAdd, Nat.reduceMul, Nat.reduceEqDiff, Nat.reduceLT, Int.reduceToNat, reduceIte, reduceCtorEq, fiS, hdm] <;> exact zcc) (by simp only [go_sem, zwl, Nat.reduceAdd, Nat.reduceMul, Nat.reduceEqDiff, Nat.reduceLT, Int.reduceToNat, reduceIte, reduceCtorEq, fiS, srC] <;> exact zcc) (by simp [fiS, Qd]) (by simp [fiS]; omega) (by omega)) fun q hq3 K' hL => ?_
  obtain ⟨k, dd⟩ := q
  obtain ⟨hk3, hinv⟩ := hq3
  simp only at hk3 hinv hL ⊢
  rcases hds : days.drop k with _ | ⟨d, r⟩
  · have hkl := QB hds
    have f1 : decide ((k : Int) < (days.length : Int)) = false := by simp; omega
    rw [hds] at hinv
    rw [← hinv, List.find?_nil]
    clear hL
    simp only [fiS, srC]
    (have zx := f1); exact zg
  obtain ⟨hk', hget, hr⟩ := Qo hds
  have hw := Qg (k := k) (by omega)
  have f1 : decide ((k : Int) < (days.length : Int)) = true := by simp; omega
  have vd : (days.map V.int)[k]? = some (V.int d) := by rw [List.getElem?_map, hget]; rfl
  have gd := gG d (List.mem_of_getElem? hget)
  rw [hds, List.find?_cons] at hinv
  clear gK1 gK2 gG
  rcases hp : p d with _ | _
  · rw [hp] at gd hinv
    have hnn := fun s' => hL s' (k + 1, d)
    simp only [fiS, srC] at hnn ⊢
    (have zx := And.intro f1 (And.intro vd hw)); refine zgo ?_; repeat' first | exact zt | apply zan | intro hc
    all_goals first | exact hnn _ (Qd []) ⟨hk', by rw [hr]; exact hinv⟩ (by omega) (zwg []) | trace_state
  · rw [hp] at gd hinv
    rw [← hinv]
    clear hL
    simp only [fiS, srC]
    (have zx := And.intro f1 (And.intro vd hw)); exact zg
end Av
end

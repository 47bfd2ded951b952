/- Each operation of the model does what the Av kit says (twelfth part: greatest and least, comparisons of structs). -/
import Derived.Test.YtheehngibnbflaaGreatDoorAv1
set_option linter.unusedVariables false
set_option linter.unusedSimpArgs false
section
namespace Av
open Go
section
variable {C : Ctx} {w : World} {Z : Nat → Nat → Prop} {μ : Nat → Option Cn} {o : Nat → Option Ob} {b : Nat} {r : Opd → V}
theorem abu (hg : Good C w Z μ o) {mx : Bool} {ts : Array TypeId} {ty : TypeId} {ρ : Operand → Value} (hρ : ∀ x x', opd x = some x' → Rep w Z μ (ρ x) (r x')) {as : Array Operand} {xs : List Opd} (h : opds as.toList = some xs) :
    OpV C b w Z μ o ((if mx then Builtin.max_ ts ty (as.map ρ) else Builtin.min_ ts ty (as.map ρ)).run C.P w) (sem b r (.mm mx xs)) := by
  intro K hk
  obtain ⟨h1, h2⟩ := Ui hρ h
  simp only [sem] at hk
  split at hk
  · rename_i k n rest hxs
    split at hk
    · rename_i hall
      have hlen : (as.toList.map ρ).length = rest.length + 1 := by
        have : (xs.map r).length = rest.length + 1 := by rw [hxs]; rfl
        simp only [List.length_map] at this ⊢
        omega
      have hrep : ∀ j (hj : j < (as.toList.map ρ).length) (hj' : j < (xs.map r).length), Rep w Z μ (as.toList.map ρ)[j] (xs.map r)[j] := by
        intro j hj hj'
        simp only [List.length_map] at hj hj'
        simpa using h2 j hj hj'
      cases hv : as.toList.map ρ with
      | nil => rw [hv] at hlen; simp at hlen
      | cons v vs =>
        have hv0 : v = .int k n := by
          have := hrep 0 (by rw [hlen]; omega) (by rw [hxs]; simp)
          simp only [hv, hxs, List.getElem_cons_zero] at this
          exact this.scE.1
        subst hv0
        have hvs : ∀ j (hj : j < vs.length) (hj' : j < rest.length), Rep w Z μ vs[j] rest[j] := by
          intro j hj hj'
          have := hrep (j + 1) (by rw [hlen]; omega) (by rw [hxs]; simp; omega)
          simp only [hv, hxs, List.getElem_cons_succ] at this
          exact this
        have hvl : vs.length = rest.length := by rw [hv] at hlen; simpa using hlen
        have key : ∀ (vs : List Value) (rest : List V) (n : Int), vs.length = rest.length → (∀ j (hj : j < vs.length) (hj' : j < rest.length), Rep w Z μ vs[j] rest[j]) → rest.all (Ug k) = true →
            (vs.foldlM (if mx then Builtin.max2 else Builtin.min2) (.int k n)).run C.P w = .ok (.int k (rest.foldl (yE mx) n)) w := by
          intro vs
          induction vs with
          | nil => intro rest n hl _ _; cases rest with
            | nil => rfl
            | cons _ _ => simp at hl
          | cons v vs ih =>
            intro rest n hl hr ha
            cases rest with
            | nil => simp at hl
            | cons x rest =>
              simp only [List.all_cons, Bool.and_eq_true] at ha
              have h0 := hr 0 (by simp) (by simp)
              simp only [List.getElem_cons_zero] at h0
              have hx : ∃ y, x = .sc (.int k y) := by
                have := ha.1
                cases x with
                | sc u => cases u with
                  | int k' y => simp only [Ug, beq_iff_eq] at this; exact ⟨y, by rw [this]⟩
                  | _ => simp [Ug] at this
                | _ => simp [Ug] at this
              obtain ⟨y, rfl⟩ := hx
              obtain ⟨rfl, _⟩ := h0.scE
              have step : ((if mx then Builtin.max2 else Builtin.min2) (.int k n) (.int k y)).run C.P w = .ok (.int k (yE mx n (.sc (.int k y)))) w := by
                cases mx <;> simp [Builtin.max2, Builtin.min2, yE]
              simp only [List.foldlM_cons, Sem.run_bind, step, Result.andThen_ok, List.foldl_cons]
              exact ih rest _ (by simpa using hl) (fun j hj hj' => by
                have := hr (j + 1) (by simpa using hj) (by simpa using hj')
                simpa using this) ha.2
        refine ⟨_, _, w, Z, μ, ?_, hk, .sc rfl, hg, .refl⟩
        have hk' := key vs rest n hvl hvs hall
        have hm : (as.map ρ).toList = .int k n :: vs := by rw [Array.toList_map]; exact hv
        cases mx with
        | true => simp only [if_true] at hk' ⊢; simp only [Builtin.max_, hm]; exact hk'
        | false => simp only [Bool.false_eq_true, if_false] at hk' ⊢; simp only [Builtin.min_, hm]; exact hk'
    · exact hk.elim
  · exact hk.elim
def JT : List Nat → List Value → List Value → Option Bool
  | [], [], [] => some true
  | 0 :: ks, .int k a :: xs, .int k' b :: ys => if k = k' then (JT ks xs ys).map ((a == b) && ·) else none
  | 1 :: ks, .string a :: xs, .string b :: ys => (JT ks xs ys).map ((a == b) && ·)
  | 2 :: ks, .bool a :: xs, .bool b :: ys => (JT ks xs ys).map ((a == b) && ·)
  | _, _, _ => none
theorem yQ : ∀ (ks : List Nat) (vxs vys : List V) (t : Bool) (xs ys : List Value), Yf ks vxs vys = some t → xs.length = vxs.length → ys.length = vys.length →
    (∀ j (h : j < xs.length) (h' : j < vxs.length), Rep w Z μ xs[j] vxs[j]) → (∀ j (h : j < ys.length) (h' : j < vys.length), Rep w Z μ ys[j] vys[j]) → JT ks xs ys = some t := by
  intro ks
  induction ks with
  | nil =>
    intro vxs vys t xs ys h h1 h2 _ _
    unfold Yf at h
    split at h
    · simp at h1 h2; subst h1; subst h2; exact h
    · simp_all
    · simp_all
    · simp_all
    · cases h
  | cons k ks ih =>
    intro vxs vys t xs ys h h1 h2 h3 h4
    unfold Yf at h
    split at h
    · simp_all
    · rename_i ks' k a vxs' k' c vys' e1
      cases e1
      cases xs with
      | nil => simp at h1
      | cons x xs =>
        cases ys with
        | nil => simp at h2
        | cons y ys =>
          have r1 := h3 0 (by simp) (by simp)
          have r2 := h4 0 (by simp) (by simp)
          simp only [List.getElem_cons_zero] at r1 r2
          obtain ⟨rfl, _⟩ := r1.scE
          obtain ⟨rfl, _⟩ := r2.scE
          split at h
          · rename_i hkk
            simp only [Option.map_eq_some_iff] at h
            obtain ⟨t', e, rfl⟩ := h
            have := ih vxs' vys' t' xs ys e (by simpa using h1) (by simpa using h2) (fun j hj hj' => by have := h3 (j + 1) (by simpa using hj) (by simpa using hj'); simp only [List.getElem_cons_succ] at this; exact this) (fun j hj hj' => by have := h4 (j + 1) (by simpa using hj) (by simpa using hj'); simp only [List.getElem_cons_succ] at this; exact this)
            simp [JT, hkk, this]
          · cases h
    · rename_i ks' a vxs' c vys' e1
      cases e1
      cases xs with
      | nil => simp at h1
      | cons x xs =>
        cases ys with
        | nil => simp at h2
        | cons y ys =>
          have r1 := h3 0 (by simp) (by simp)
          have r2 := h4 0 (by simp) (by simp)
          simp only [List.getElem_cons_zero] at r1 r2
          obtain ⟨rfl, _⟩ := r1.scE
          obtain ⟨rfl, _⟩ := r2.scE
          simp only [Option.map_eq_some_iff] at h
          obtain ⟨t', e, rfl⟩ := h
          have := ih vxs' vys' t' xs ys e (by simpa using h1) (by simpa using h2) (fun j hj hj' => by have := h3 (j + 1) (by simpa using hj) (by simpa using hj'); simp only [List.getElem_cons_succ] at this; exact this) (fun j hj hj' => by have := h4 (j + 1) (by simpa using hj) (by simpa using hj'); simp only [List.getElem_cons_succ] at this; exact this)
          simp [JT, this]
    · rename_i ks' a vxs' c vys' e1
      cases e1
      cases xs with
      | nil => simp at h1
      | cons x xs =>
        cases ys with
        | nil => simp at h2
        | cons y ys =>
          have r1 := h3 0 (by simp) (by simp)
          have r2 := h4 0 (by simp) (by simp)
          simp only [List.getElem_cons_zero] at r1 r2
          obtain ⟨rfl, _⟩ := r1.scE
          obtain ⟨rfl, _⟩ := r2.scE
          simp only [Option.map_eq_some_iff] at h
          obtain ⟨t', e, rfl⟩ := h
          have := ih vxs' vys' t' xs ys e (by simpa using h1) (by simpa using h2) (fun j hj hj' => by have := h3 (j + 1) (by simpa using hj) (by simpa using hj'); simp only [List.getElem_cons_succ] at this; exact this) (fun j hj hj' => by have := h4 (j + 1) (by simpa using hj) (by simpa using hj'); simp only [List.getElem_cons_succ] at this; exact this)
          simp [JT, this]
    · cases h
theorem yg : ∀ (k1 : List Nat) (k2 : List Nat) (xs ys : List Value) (t : Bool), JT (k1 ++ k2) xs ys = some t →
    ∃ t1 t2, JT k1 (xs.take k1.length) (ys.take k1.length) = some t1 ∧ JT k2 (xs.drop k1.length) (ys.drop k1.length) = some t2 ∧ t = (t1 && t2) := by
  intro k1
  induction k1 with
  | nil => intro k2 xs ys t h; exact ⟨true, t, by simp [JT], by simpa using h, by simp⟩
  | cons k k1 ih =>
    intro k2 xs ys t h
    simp only [List.cons_append] at h
    unfold JT at h
    split at h
    · simp_all
    · rename_i ks' k a xs' k' c ys' e1
      cases e1
      split at h
      · rename_i hkk
        simp only [Option.map_eq_some_iff] at h
        obtain ⟨t', e, rfl⟩ := h
        obtain ⟨t1, t2, f1, f2, rfl⟩ := ih _ _ _ _ e
        exact ⟨(a == c) && t1, t2, by simp [JT, hkk, f1], by simpa using f2, by simp [Bool.and_assoc]⟩
      · cases h
    · rename_i ks' a xs' c ys' e1
      cases e1
      simp only [Option.map_eq_some_iff] at h
      obtain ⟨t', e, rfl⟩ := h
      obtain ⟨t1, t2, f1, f2, rfl⟩ := ih _ _ _ _ e
      exact ⟨(a == c) && t1, t2, by simp [JT, f1], by simpa using f2, by simp [Bool.and_assoc]⟩
    · rename_i ks' a xs' c ys' e1
      cases e1
      simp only [Option.map_eq_some_iff] at h
      obtain ⟨t', e, rfl⟩ := h
      obtain ⟨t1, t2, f1, f2, rfl⟩ := ih _ _ _ _ e
      exact ⟨(a == c) && t1, t2, by simp [JT, f1], by simpa using f2, by simp [Bool.and_assoc]⟩
    · cases h
theorem Um : ∀ (ks : List Nat) (xs ys : List Value) (t : Bool), JT ks xs ys = some t → xs.length = ks.length ∧ ys.length = ks.length := by
  intro ks
  induction ks with
  | nil =>
    intro xs ys t h
    unfold JT at h
    split at h <;> simp_all
  | cons k ks ih =>
    intro xs ys t h
    unfold JT at h
    split at h
    · simp_all
    · rename_i e1
      cases e1
      split at h
      · simp only [Option.map_eq_some_iff] at h
        obtain ⟨t', e, _⟩ := h
        have := ih _ _ _ e
        simp [this]
      · cases h
    · rename_i e1
      cases e1
      simp only [Option.map_eq_some_iff] at h
      obtain ⟨t', e, _⟩ := h
      have := ih _ _ _ e
      simp [this]
    · rename_i e1
      cases e1
      simp only [Option.map_eq_some_iff] at h
      obtain ⟨t', e, _⟩ := h
      have := ih _ _ _ e
      simp [this]
    · cases h
theorem yf (P : Program) : ∀ (d : Nat) (t : TypeId) (ks : List Nat), UN P d t = some ks → Jl P t = some ks.length → ∀ (m : Nat) (xs ys : Array Value) (off : Nat) (q : Bool),
    JT ks ((xs.toList.drop off).take ks.length) ((ys.toList.drop off).take ks.length) = some q →
    ∃ p1 p2, (part t xs off).run P w = .ok p1 w ∧ (part t ys off).run P w = .ok p2 w ∧ (Op.equalIn (d + m) t p1 p2).run P w = .ok q w := by
  intro d
  induction d with
  | zero => intro t ks h; simp [UN] at h
  | succ d ih =>
    intro t ks h hsz m xs ys off q hq
    obtain ⟨hl1, hl2⟩ := Um _ _ _ _ hq
    have one : ks.length = 1 → ∃ u1 u2, xs[off]? = some u1 ∧ ys[off]? = some u2 ∧ (xs.toList.drop off).take ks.length = [u1] ∧ (ys.toList.drop off).take ks.length = [u2] := by
      intro h1
      rw [h1] at hl1 hl2 ⊢
      have a1 : off < xs.size := by simp at hl1; omega
      have a2 : off < ys.size := by simp at hl2; omega
      refine ⟨xs[off], ys[off], Array.getElem?_eq_getElem a1, Array.getElem?_eq_getElem a2, ?_, ?_⟩
      · rw [List.drop_eq_getElem_cons (by simpa using a1)]; simp
      · rw [List.drop_eq_getElem_cons (by simpa using a2)]; simp
    simp only [UN] at h
    split at h
    ·
      rename_i fs hu
      split at h
      · cases h
      · rename_i hst
        have hag : qj P t = some true := by unfold qj; rw [hu]; rfl
        refine ⟨_, _, by rw [Xp hag hsz]; rfl, by rw [Xp hag hsz]; rfl, ?_⟩
        have hfo : P.fieldsOf t = fs := by unfold Program.fieldsOf; rw [hu]
        rw [show d + 1 + m = (d + m) + 1 by omega, run_equalIn_struct w (d + m) t _ _ (by rw [hfo]; exact hu) (by simpa using hst), hfo]
        have e1 : (xs.extract off (off + ks.length)).toList = (xs.toList.drop off).take ks.length := by simp [List.take_drop]
        have e2 : (ys.extract off (off + ks.length)).toList = (ys.toList.drop off).take ks.length := by simp [List.take_drop]
        rw [← e1, ← e2] at hq
        generalize xs.extract off (off + ks.length) = xa at hq
        generalize ys.extract off (off + ks.length) = ya at hq
        have fields : ∀ (l : List Field) (o' : Nat) (ks' : List Nat) (q : Bool), acH (UN P d) P l o' = some ks' → JT ks' ((xa.toList.drop o').take ks'.length) ((ya.toList.drop o').take ks'.length) = some q →
            (Op.eqFields (d + m) xa ya l).run P w = .ok q w := by
          intro l
          induction l with
          | nil =>
            intro o' ks' q h hq
            simp only [acH, Option.some.injEq] at h
            subst h
            simp [JT] at hq
            subst hq
            rfl
          | cons f l ihl =>
            intro o' ks' q h hq
            simp only [acH] at h
            split at h
            · rename_i hcond
              split at h
              · rename_i a ha
                split at h
                · rename_i hsa
                  simp only [Option.map_eq_some_iff] at h
                  obtain ⟨ks2, hks2, rfl⟩ := h
                  obtain ⟨t1, t2, f1, f2, rfl⟩ := yg _ _ _ _ _ hq
                  simp only [List.take_take, List.length_append, List.drop_take, List.drop_drop] at f1 f2
                  rw [Nat.min_eq_left (by omega)] at f1
                  rw [show a.length + ks2.length - a.length = ks2.length by omega] at f2
                  obtain ⟨p1, p2, g1, g2, g3⟩ := ih f.type a ha hsa m xa ya o' t1 f1
                  have := ihl (o' + a.length) ks2 t2 hks2 f2
                  simp only [Op.eqFields, hcond.2, ne_eq, not_false_eq_true, if_true, hcond.1, Sem.run_bind, g1, g2, g3, Result.andThen_ok]
                  cases t1 with
                  | true => simpa using this
                  | false => simp
                · cases h
              · cases h
            · cases h
        refine fields fs.toList 0 ks q h ?_
        simp only [List.drop_zero]
        have : xa.toList.length = ks.length := (Um _ _ _ _ hq).1
        have h2 : ya.toList.length = ks.length := (Um _ _ _ _ hq).2
        rw [List.take_of_length_le (by omega), List.take_of_length_le (by omega)]
        exact hq
    · rename_i k hu
      simp only [Option.some.injEq] at h; subst h
      have hag : qj P t = some false := by unfold qj; rw [hu]; rfl
      obtain ⟨u1, u2, a1, a2, a3, a4⟩ := one rfl
      rw [a3, a4] at hq
      refine ⟨u1, u2, by rw [Xp hag hsz]; simp [a1], by rw [Xp hag hsz]; simp [a2], ?_⟩
      unfold JT at hq
      split at hq
      all_goals (try (simp_all; done))
      rename_i e1 e2 e3
      cases e1; cases e2; cases e3
      split at hq
      · rename_i hkk
        subst hkk
        simp [JT] at hq
        subst hq
        rw [show d + 1 + m = (d + m) + 1 by omega, run_equalIn_int w (d + m) t _ _ _ _ hu]
      · cases hq
    · rename_i hu
      simp only [Option.some.injEq] at h; subst h
      have hag : qj P t = some false := by unfold qj; rw [hu]; rfl
      obtain ⟨u1, u2, a1, a2, a3, a4⟩ := one rfl
      rw [a3, a4] at hq
      refine ⟨u1, u2, by rw [Xp hag hsz]; simp [a1], by rw [Xp hag hsz]; simp [a2], ?_⟩
      unfold JT at hq
      split at hq
      all_goals (try (simp_all; done))
      rename_i e1 e2 e3
      cases e1; cases e2; cases e3
      simp [JT] at hq
      subst hq
      have key : ∀ d (a c : ByteArray), (Op.equalIn (d + 1) t (.string a) (.string c)).run P w = .ok (a == c) w := fun d a c => by simp [Op.equalIn, run_underlying hu w]
      rw [show d + 1 + m = (d + m) + 1 by omega, key]
    · rename_i hu
      simp only [Option.some.injEq] at h; subst h
      have hag : qj P t = some false := by unfold qj; rw [hu]; rfl
      obtain ⟨u1, u2, a1, a2, a3, a4⟩ := one rfl
      rw [a3, a4] at hq
      refine ⟨u1, u2, by rw [Xp hag hsz]; simp [a1], by rw [Xp hag hsz]; simp [a2], ?_⟩
      unfold JT at hq
      split at hq
      all_goals (try (simp_all; done))
      rename_i e1 e2 e3
      cases e1; cases e2; cases e3
      simp [JT] at hq
      subst hq
      have key : ∀ d (a c : Bool), (Op.equalIn (d + 1) t (.bool a) (.bool c)).run P w = .ok (a == c) w := fun d a c => by simp [Op.equalIn, run_underlying hu w]
      rw [show d + 1 + m = (d + m) + 1 by omega, key]
    · cases h
theorem yB (hg : Good C w Z μ o) {t : TypeId} {neg : Bool} {fs : Array Field} {ks : List Nat} {x y : Operand} {cx cy : Value} {x' y' : Opd} (hu : C.P.underlying t = some (.struct fs)) (hk : UN C.P 20 t = some ks) (hsz : Jl C.P t = some ks.length)
    (hgd : C.P.eqGuardType C.P.depth t = false) (hx : Rep w Z μ cx (r x')) (hy : Rep w Z μ cy (r y')) :
    OpV C b w Z μ o ((do eqGuard (if neg then .neq else .eql) t x y cx cy; binOp (if neg then .neq else .eql) t cx cy : Sem Value).run C.P w) (sem b r (.eqagg neg ks x' y')) := by
  intro K h
  simp only [sem] at h
  split at h
  · rename_i vxs vys h1 h2
    rw [h1] at hx; rw [h2] at hy
    obtain ⟨xs, rfl, s1, _, r1⟩ := hx.aggE
    obtain ⟨ys, rfl, s2, _, r2⟩ := hy.aggE
    split at h
    · rename_i q hq
      have hv := yQ (w := w) (Z := Z) (μ := μ) ks vxs vys q xs.toList ys.toList hq (by simpa using s1) (by simpa using s2) (fun j hj hj' => by simpa using r1 j hj' (by simpa using hj)) (fun j hj hj' => by simpa using r2 j hj' (by simpa using hj))
      obtain ⟨l1, l2⟩ := Um _ _ _ _ hv
      have hag : qj C.P t = some true := by unfold qj; rw [hu]; rfl
      obtain ⟨p1, p2, g1, g2, g3⟩ := yf (w := w) C.P 20 t ks hk hsz 9980 xs ys 0 q (by
        simp only [List.drop_zero]
        rw [List.take_of_length_le (by omega), List.take_of_length_le (by omega)]; exact hv)
      rw [Xp hag hsz] at g1 g2
      simp only [if_true, Nat.zero_add] at g1 g2
      have e1 : xs.extract 0 ks.length = xs := by
        have : xs.size = ks.length := by simpa using l1
        rw [← this]; simp
      have e2 : ys.extract 0 ks.length = ys := by
        have : ys.size = ks.length := by simpa using l2
        rw [← this]; simp
      rw [e1] at g1; rw [e2] at g2
      cases g1; cases g2
      refine ⟨_, .bool (if neg then !q else q), w, Z, μ, ?_, h, .sc rfl, hg, .refl⟩
      cases neg
      · simp only [Bool.false_eq_true, if_false, Sem.run_bind, run_eqGuard_agg w _ t x y xs ys hgd, Result.andThen_ok, run_eql_struct]
        rw [show (10000 : Nat) = 20 + 9980 from rfl, g3]; rfl
      · simp only [if_true, Sem.run_bind, run_eqGuard_agg w _ t x y xs ys hgd, Result.andThen_ok, run_neq_struct]
        rw [show (10000 : Nat) = 20 + 9980 from rfl, g3]; rfl
    · exact h.elim
  · exact h.elim
end
end Av
end
section
namespace Av
open Go
def OpS (C : Ctx) (b : Nat) (w : World) (Z : Nat → Nat → Prop) (μ : Nat → Option Cn) (o : Nat → Option Ob) (run : Result Next) (m : AM E) : Prop :=
  ∀ K : E → Prop, m.wp o K → ∃ e v w' Z' μ', (run = .ok (.value v) w' ∨ run = .ok .skip w' ∧ v = undef) ∧ K e ∧ Rep w' Z' μ' v e.v ∧ Good C w' Z' μ' (Uh o e.os) ∧ Evo b KK w Z μ w' Z' μ'
section
variable {C : Ctx} {w : World} {Z : Nat → Nat → Prop} {μ : Nat → Option Cn} {o : Nat → Option Ob} {b : Nat} {r : Opd → V}
theorem Qs {s : Sem Value} {m : AM E} (h : OpV C b w Z μ o (s.run C.P w) m) : OpS C b w Z μ o ((do pure (Next.value (← s)) : Sem Next).run C.P w) m := by
  intro K hk
  obtain ⟨e, v, w', Z', μ', h1, h2⟩ := h K hk
  exact ⟨e, v, w', Z', μ', .inl (by simp [h1]), h2⟩
theorem wF {s : Sem Unit} {m : AM E} (h : OpU C b w Z μ o (s.run C.P w) m) : OpS C b w Z μ o ((do s; pure Next.skip : Sem Next).run C.P w) m := by
  intro K hk
  obtain ⟨e, w', Z', μ', h1, h2, h3, h4⟩ := h K hk
  exact ⟨e, undef, w', Z', μ', .inr ⟨by simp [h1], rfl⟩, h2, by rw [h3]; exact .top, h4⟩
def AOp.plain : AOp → Bool
  | .call .. | .callv .. => false
  | _ => true
theorem UT {l : List Value} (h : l.all (·.oneCell') = true) : ∀ u ∈ l, u.oneCell' = true := by simpa using h
theorem yc {a : Act} {s : St} (h : ∀ i, Rep w Z μ (a.tmps.getD i undef) (s.t i)) : ∀ x x', opd x = some x' → Rep w Z μ (a.eval x) (s.ev x') := by
  intro x x' hx
  cases x with
  | tmp t => simp only [opd, Option.some.injEq] at hx; subst hx; exact h t
  | const v =>
    simp only [opd, Option.map_eq_some_iff] at hx
    obtain ⟨y, hy, rfl⟩ := hx
    have : v.oneCell' = true ∧ y = V.ofV v := by
      cases v <;> simp_all [cst, Value.oneCell']
    rw [St.ev, this.2]; exact qy this.1
  | func f => simp only [opd, Option.some.injEq] at hx; subst hx; exact .clo rfl fun j h _ => by simp at h
  | global g => simp [opd] at hx
theorem aaW {ρ : Operand → Value} (hρ : ∀ x x', opd x = some x' → Rep w Z μ (ρ x) (r x')) {as : Array Operand} {x : Opd} (h : opds as.toList = some [x]) : ∃ y, as = #[y] ∧ Rep w Z μ (ρ y) (r x) := by
  obtain ⟨h1, h2⟩ := Ui hρ h
  match hl : as.toList, h1 with
  | [y], _ =>
    refine ⟨y, ?_, ?_⟩
    · apply Array.ext'; simpa using hl
    · have := h2 0 (by rw [hl]; simp) (by simp)
      simpa [hl] using this
theorem xQ {ρ : Operand → Value} (hρ : ∀ x x', opd x = some x' → Rep w Z μ (ρ x) (r x')) {as : Array Operand} {x x2 : Opd} (h : opds as.toList = some [x, x2]) : ∃ y y2, as = #[y, y2] ∧ Rep w Z μ (ρ y) (r x) ∧ Rep w Z μ (ρ y2) (r x2) := by
  obtain ⟨h1, h2⟩ := Ui hρ h
  match hl : as.toList, h1 with
  | [y, y2], _ =>
    refine ⟨y, y2, ?_, ?_, ?_⟩
    · apply Array.ext'; simpa using hl
    · have := h2 0 (by rw [hl]; simp) (by simp)
      simpa [hl] using this
    · have := h2 1 (by rw [hl]; simp) (by simp)
      simpa [hl] using this
theorem Xi {P : Program} {x : Option TypeId} {d : TypeDesc} (h : x.bind P.underlying = some d) : ∃ t, x = some t ∧ P.underlying t = some d := by
  cases x with
  | none => cases h
  | some t => exact ⟨t, rfl, h⟩
theorem Yu (bi : Builtin) (ts : Array TypeId) (ty : TypeId) (args : Array Operand) (a : Act) {s : Sem Value} {m : AM E} {dst : Option Tmp} {pos : String} {after : Array Edge} {guard : Option (Nat × Bool)}
    (h : OpV C b w Z μ o (s.run C.P w) m) (hs : builtin bi ts ty (args.map fun | .const _ => true | _ => false) (args.map a.eval) = (do pure (.value (← s)))) :
    OpS C b w Z μ o ((execOp a.eval { dst, op := .call { callee := .builtin bi, args, argTypes := ts }, type := ty, pos, after, guard }).run C.P w) m := by
  have := Qs h
  rw [← hs] at this
  exact this
theorem aaX (hg : Good C w Z μ o) (hf : ∀ x, b ≤ x → x < b + KK → μ x = none) (hm : C.m ≤ b) {a : Act} {s : St} (ht : ∀ i, Rep w Z μ (a.tmps.getD i undef) (s.t i)) {op : Oper} {aop : AOp}
    (hc : VL C.P op.op op.type = some aop) (hp : aop.plain = true) : OpS C b w Z μ o ((execOp a.eval op).run C.P w) (sem b s.ev aop) := by
  have hρ := yc (s := s) ht
  obtain ⟨dst, op, type, pos, after, guard⟩ := op
  simp only at hc
  cases op with
  | move x =>
    simp only [VL] at hc
    split at hc
    · rename_i e hu
      simp only [Option.map_eq_some_iff] at hc
      obtain ⟨sz, hsz, rfl⟩ := hc
      intro K hk
      have hx := hf b (Nat.le_refl _) (by simp [KK])
      exact ⟨_, .slice none 0 0, w, Z, _, .inl rfl, hk, .hd (Qh _ _ _) (by simp [Hdr]), hg.nil (sz := sz) hx hm, Evo.name hx (Nat.le_refl _) (by simp [KK])⟩
    · simp only [Option.map_eq_some_iff] at hc
      obtain ⟨x', hx', rfl⟩ := hc
      intro K hk
      exact ⟨_, _, w, Z, μ, .inl rfl, hk, hρ _ _ hx', hg, .refl⟩
  | assign x =>
    simp only [VL] at hc
    split at hc
    · rename_i e hu
      simp only [Option.map_eq_some_iff] at hc
      obtain ⟨sz, hsz, rfl⟩ := hc
      intro K hk
      have hx := hf b (Nat.le_refl _) (by simp [KK])
      exact ⟨_, .slice none 0 0, w, Z, _, .inl rfl, hk, .hd (Qh _ _ _) (by simp [Hdr]), hg.nil (sz := sz) hx hm, Evo.name hx (Nat.le_refl _) (by simp [KK])⟩
    · simp only [Option.map_eq_some_iff] at hc
      obtain ⟨x', hx', rfl⟩ := hc
      intro K hk
      exact ⟨_, _, w, Z, μ, .inl rfl, hk, hρ _ _ hx', hg, .refl⟩
  | pick c x y =>
    simp only [VL] at hc
    split at hc
    · rename_i c' x' y' h1 h2 h3
      simp only [Option.some.injEq] at hc; subst hc
      have := Qs (aaM (b := b) hg (hρ _ _ h1) (hρ _ _ h2) (hρ _ _ h3))
      intro K hk
      obtain ⟨e, v, w', Z', μ', e1, e2⟩ := this K hk
      refine ⟨e, v, w', Z', μ', ?_, e2⟩
      simpa [execOp] using e1
    · cases hc
  | alloc t =>
    simp only [VL] at hc
    split at hc
    · split at hc
      · rename_i z n h1 h3
        split at hc
        · rename_i hcond
          simp only [Option.some.injEq] at hc; subst hc
          exact Qs (wE hg hf hm h1 (UT hcond.2))
        · cases hc
      · cases hc
    split at hc
    · rename_i z ss n h1 h2 h3
      split at hc
      · rename_i hcond
        simp only [Option.some.injEq] at hc; subst hc
        have hl : (zcs z.cells.toList ss).length = z.cells.toList.length := by
          have := congrArg List.length (yp z.cells.toList ss)
          simpa using this
        exact Qs (vM hg hf hm h1 (yp _ _) (UT hcond.2.2) (by rw [hl]; simp [KK]; omega))
      · cases hc
    · cases hc
  | box t x =>
    simp only [VL] at hc
    split at hc
    · rename_i g sz x' h1 h2 h3
      simp only [Option.some.injEq] at hc; subst hc
      exact Qs (abW hg hf hm (hρ _ _ h3))
    · cases hc
  | build t ps =>
    simp only [VL] at hc
    split at hc
    · rename_i z fs h1 h2
      split at hc
      · rename_i hcond
        simp only [Option.map_eq_some_iff] at hc
        obtain ⟨qs, hq, rfl⟩ := hc
        exact Qs (K0 hg hρ h1 h2 hcond.1 (UT hcond.2) hq)
      · cases hc
    · rename_i z n e h1 h2
      split at hc
      · rename_i sz h3
        split at hc
        · rename_i hcond
          simp only [Option.map_eq_some_iff] at hc
          obtain ⟨qs, hq, rfl⟩ := hc
          exact Qs (qE hg hρ h1 h2 h3 (UT hcond) hq)
        · cases hc
      · cases hc
    · cases hc
  | buildSlice t n ps =>
    simp only [VL] at hc
    split at hc
    · rename_i e hu
      split at hc
      · rename_i sz g z qs h1 h2 h3 h4
        split at hc
        · rename_i hcond
          simp only [Option.some.injEq] at hc; subst hc
          split
          · exact Qs (xf hg hf hm hρ hu h1 h3 hcond.1 hcond.2.1 hcond.2.2.1 hcond.2.2.2.1 (UT hcond.2.2.2.2) h4)
          · exact Qs (wC hg hf hm hρ hu h1 h3 hcond.1 hcond.2.1 hcond.2.2.1 hcond.2.2.2.1 (UT hcond.2.2.2.2) h4)
        · cases hc
      · cases hc
    · cases hc
  | load t x =>
    simp only [VL] at hc
    split at hc
    · rename_i g sz x' h1 h2 h3
      simp only [Option.some.injEq] at hc; subst hc
      exact Qs (aaP hg h1 h2 (hρ _ _ h3))
    · cases hc
  | store t x y =>
    simp only [VL] at hc
    split at hc
    · rename_i sz x' y' h1 h2 h3
      simp only [Option.some.injEq] at hc; subst hc
      exact wF (vE hg h1 (hρ _ _ h2) (hρ _ _ h3))
    · cases hc
  | nilCheck x =>
    simp only [VL, Option.map_eq_some_iff] at hc
    obtain ⟨x', hx', rfl⟩ := hc
    have hr := hρ _ _ hx'
    intro K hk
    simp only [sem] at hk
    split at hk
    · rename_i h1; rw [h1] at hr
      obtain ⟨c, hmu, e⟩ := hr.ptrE
      exact ⟨_, a.eval x, w, Z, μ, .inl (by simp [execOp, e]), hk, hr, hg, .refl⟩
    · rename_i h1; rw [h1] at hr
      obtain ⟨c, hmu, _, _, e⟩ := hr.eptE
      exact ⟨_, a.eval x, w, Z, μ, .inl (by simp [execOp, e]), hk, hr, hg, .refl⟩
    · rename_i h1; rw [h1] at hr
      obtain ⟨_, _, _, e, _⟩ := hr.roE
      exact ⟨_, a.eval x, w, Z, μ, .inl (by simp [execOp, e]), hk, hr, hg, .refl⟩
    · rename_i h1; rw [h1] at hr
      obtain ⟨cs, e, _⟩ := hr.cloE
      exact ⟨_, a.eval x, w, Z, μ, .inl (by rename_i fk _ _; cases fk <;> simp [execOp, e, FK.val]), hk, hr, hg, .refl⟩
    · exact hk.elim
  | binOp op t x y yt =>
    simp only [VL] at hc
    split at hc
    · rename_i x' y' h1 h2 h3
      simp only [Option.some.injEq] at hc; subst hc
      exact Qs (vL hg (hρ _ _ h2) (hρ _ _ h3))
    · rename_i x' y' h1 h2 h3
      simp only [Option.some.injEq] at hc; subst hc
      exact Qs (vL hg (hρ _ _ h2) (hρ _ _ h3))
    · rename_i x' y' h1 h2 h3
      split at hc
      · simp only [Option.some.injEq] at hc; subst hc
        exact Qs (vJ (neg := false) hg h1 (hρ _ _ h2) (hρ _ _ h3))
      · simp only [Option.some.injEq] at hc; subst hc
        exact Qs (vJ (neg := true) hg h1 (hρ _ _ h2) (hρ _ _ h3))
      · cases hc
    · rename_i fs x' y' h1 h2 h3
      split at hc
      · rename_i ks hks
        split at hc
        · cases hc
        · rename_i hcond
          have c1 : C.P.eqGuardType C.P.depth t = false := by
            cases h : C.P.eqGuardType C.P.depth t with
            | false => rfl
            | true => exact (hcond (.inl h)).elim
          have c2 : Jl C.P t = some ks.length := by
            by_cases h : Jl C.P t = some ks.length
            · exact h
            · exact (hcond (.inr h)).elim
          split at hc
          · simp only [Option.some.injEq] at hc; subst hc
            exact Qs (yB (neg := false) hg h1 hks c2 c1 (hρ _ _ h2) (hρ _ _ h3))
          · simp only [Option.some.injEq] at hc; subst hc
            exact Qs (yB (neg := true) hg h1 hks c2 c1 (hρ _ _ h2) (hρ _ _ h3))
          · cases hc
      · cases hc
    · rename_i e x' y' h1 h2 h3
      split at hc
      · rename_i hn
        have hy : y = .const (.slice none 0 0) := by
          unfold abz at hn; split at hn
          · rfl
          · cases hn
        subst hy
        split at hc
        · simp only [Option.some.injEq] at hc; subst hc
          exact Qs (VX (neg := false) hg h1 (hρ _ _ h2))
        · simp only [Option.some.injEq] at hc; subst hc
          exact Qs (VX (neg := true) hg h1 (hρ _ _ h2))
        · cases hc
      · cases hc
    · rename_i e x' y' h1 h2 h3
      split at hc
      · rename_i hn
        have hy : y = .const .nilIface := by
          unfold abA at hn; split at hn
          · rfl
          · cases hn
        subst hy
        split at hc
        · simp only [Option.some.injEq] at hc; subst hc
          exact Qs (VY (neg := false) hg h1 (hρ _ _ h2))
        · simp only [Option.some.injEq] at hc; subst hc
          exact Qs (VY (neg := true) hg h1 (hρ _ _ h2))
        · cases hc
      · cases hc
    · cases hc
  | unOp op t x =>
    simp only [VL, Option.map_eq_some_iff] at hc
    obtain ⟨x', hx', rfl⟩ := hc
    exact Qs (acz hg (hρ _ _ hx'))
  | convert sT dT x =>
    simp only [VL] at hc
    split at hc
    · rename_i k' k x' h1 h2 h3
      simp only [Option.some.injEq] at hc; subst hc
      exact Qs (vK hg h1 h2 (hρ _ _ h3))
    · rename_i x' h1 h2 h3
      simp only [Option.some.injEq] at hc; subst hc
      exact Qs (abT hg h1 h2 (hρ _ _ h3))
    · rename_i e x' h1 h2 h3
      split at hc
      · rename_i h4 h5
        simp only [Option.some.injEq] at hc; subst hc
        exact Qs (wA hg hf hm h1 h2 h4 (hρ _ _ h3))
      · cases hc
    · rename_i e x' h1 h2 h3
      split at hc
      · rename_i h4
        simp only [Option.some.injEq] at hc; subst hc
        exact Qs (wB hg h1 h2 h4 (hρ _ _ h3))
      · cases hc
    · cases hc
  | makeFunc fn first cap =>
    cases fn with
    | func f =>
      simp only [VL] at hc
      split at hc
      · rename_i hfi
        simp only [Option.map_eq_some_iff] at hc
        obtain ⟨cs, h1, rfl⟩ := hc
        exact Qs (aaO hg hρ hfi h1)
      · split at hc
        · rename_i hca
          simp only [Option.map_eq_some_iff] at hc
          obtain ⟨cs, h1, rfl⟩ := hc
          exact Qs (vG hg hρ hca h1)
        · cases hc
    | _ => simp [VL] at hc
  | makeSlice t l c =>
    simp only [VL] at hc
    split at hc
    · rename_i e hu
      split at hc
      · rename_i sz by_ g z l' c' h1 h2 h3 h4 h5 h6
        split at hc
        · rename_i hcond
          simp only [Option.some.injEq] at hc; subst hc
          exact Qs (xh hg hf hm hu h1 h2 h4 hcond.2.1 hcond.2.2.1 (UT hcond.2.2.2) (hρ _ _ h5) (hρ _ _ h6))
        · cases hc
      · cases hc
    · cases hc
  | slice t x lo hi mx =>
    simp only [VL] at hc
    split at hc
    · rename_i x' lo' hi' h1 h2 h3 h4
      simp only [Option.some.injEq] at hc; subst hc
      exact Qs (vF hg h1 hρ h3 h4 (hρ _ _ h2))
    · rename_i e x' lo' hi' h1 h2 h3 h4
      simp only [Option.map_eq_some_iff] at hc
      obtain ⟨sz, hsz, rfl⟩ := hc
      exact Qs (aaL hg h1 hsz hρ h3 h4 (hρ _ _ h2))
    · cases hc
  | fieldAddr t x i =>
    simp only [VL] at hc
    split at hc
    · rename_i fs x' h1 h2
      split at hc
      · rename_i f hf'
        split at hc
        · rename_i n hn
          simp only [Option.some.injEq] at hc; subst hc
          exact Qs (vI hg h1 hf' hn (hρ _ _ h2))
        · cases hc
      · cases hc
    · cases hc
  | field t x i =>
    simp only [VL] at hc
    split at hc
    · rename_i fs x' h1 h2
      split at hc
      · rename_i f hf'
        split at hc
        · rename_i g sz h3 h4
          simp only [Option.some.injEq] at hc; subst hc
          exact Qs (abU hg h1 hf' h3 h4 (hρ _ _ h2))
        · cases hc
      · cases hc
    · cases hc
  | indexAddr t x i =>
    simp only [VL] at hc
    split at hc
    · rename_i e x' i' h1 h2 h3
      simp only [Option.map_eq_some_iff] at hc
      obtain ⟨sz, hsz, rfl⟩ := hc
      exact Qs (vH hg h1 hsz (hρ _ _ h2) (hρ _ _ h3))
    · rename_i n e x' i' h1 h2 h3
      split at hc
      · rename_i hn
        simp only [Option.map_eq_some_iff] at hc
        obtain ⟨sz, hsz, rfl⟩ := hc
        exact Qs (wz hg hn h1 hsz (hρ _ _ h2) (hρ _ _ h3))
      · cases hc
    · cases hc
  | index t x i =>
    simp only [VL] at hc
    split at hc
    · rename_i x' i' h1 h2 h3
      simp only [Option.some.injEq] at hc; subst hc
      exact Qs (aaT hg h1 (hρ _ _ h2) (hρ _ _ h3))
    · rename_i n e x' i' h1 h2 h3
      split at hc
      · rename_i g sz h4 h5
        simp only [Option.some.injEq] at hc; subst hc
        exact Qs (aaU hg h1 h4 h5 (hρ _ _ h2) (hρ _ _ h3))
      · cases hc
    · cases hc
  | extract x i =>
    simp only [VL, Option.map_eq_some_iff] at hc
    obtain ⟨x', hx', rfl⟩ := hc
    exact Qs (abV hg (hρ _ _ hx'))
  | makeInterface t x =>
    simp only [VL] at hc
    split at hc
    · cases hc
    · rename_i d x' hni h1 h2
      simp only [Option.some.injEq] at hc; subst hc
      refine Qs (aaN hg h1 ?_)
      rintro ms rfl
      exact hni _ rfl
    · cases hc
  | call c =>
    obtain ⟨callee, args, argTypes⟩ := c
    simp only [VL] at hc
    split at hc
    · simp only [Option.some.injEq] at hc; subst hc; cases hp
    · simp only [Option.map_eq_some_iff] at hc
      obtain ⟨x', _, rfl⟩ := hc; cases hp
    ·
      rename_i x' h1 h2
      obtain ⟨y, rfl, hr⟩ := aaW hρ h2
      split at hc
      · rename_i h3
        obtain ⟨t, ht, hu⟩ := Xi h3
        simp only [Option.some.injEq] at hc; subst hc
        exact Yu (b := b) .len argTypes type #[y] a (aaQ (ty := type) hg ht hu hr) (by simp [builtin])
      · rename_i h3
        obtain ⟨t, ht, hu⟩ := Xi h3
        simp only [Option.some.injEq] at hc; subst hc
        exact Yu (b := b) .len argTypes type #[y] a (aaR (ty := type) hg ht hu hr) (by simp [builtin])
      · rename_i h3
        obtain ⟨t, ht, hu⟩ := Xi h3
        simp only [Option.some.injEq] at hc; subst hc
        exact Yu (b := b) .len argTypes type #[y] a (aaS (cx := a.eval y) (ty := type) hg ht hu) (by simp [builtin])
      · cases hc
    ·
      rename_i x' y' h1 h2
      obtain ⟨u, v, rfl, hr1, hr2⟩ := xQ hρ h2
      split at hc
      · rename_i e d h3 h4
        obtain ⟨st, hst, hu1⟩ := Xi h3
        obtain ⟨xt, hxt, hu2⟩ := Xi h4
        split at hc
        · rename_i sz by_ z q1 q2 q3
          split at hc
          · rename_i hcond
            simp only [Option.some.injEq] at hc; subst hc
            exact Yu (b := b) .append argTypes type #[u, v] a (wD (ty := type) hg hf hm ⟨hst, hu1, q1, hxt, .inl ⟨d, hu2⟩, q2, hcond.2.1, hcond.2.2.1, q3, hcond.2.2.2.1⟩ hr1 hr2) (by simp [builtin])
          · cases hc
        · cases hc
      · rename_i e h3 h4
        obtain ⟨st, hst, hu1⟩ := Xi h3
        obtain ⟨xt, hxt, hu2⟩ := Xi h4
        split at hc
        · rename_i z q1 q2 q3
          split at hc
          · rename_i hcond
            simp only [Option.some.injEq] at hc; subst hc
            exact Yu (b := b) .append argTypes type #[u, v] a (xi (ty := type) hg hf hm ⟨hst, hu1, q1, hxt, .inr hu2, q2, by omega, by omega, q3, hcond.1⟩ hr1 hr2) (by simp [builtin])
          · cases hc
        · cases hc
      · cases hc
    ·
      rename_i x' y' h1 h2
      obtain ⟨u, v, rfl, hr1, hr2⟩ := xQ hρ h2
      split at hc
      · rename_i e h3
        obtain ⟨st, hst, hu1⟩ := Xi h3
        simp only [Option.map_eq_some_iff] at hc
        obtain ⟨sz, hsz, rfl⟩ := hc
        exact Yu (b := b) .copy argTypes type #[u, v] a (aaV (ty := type) hg hst hu1 hsz hr1 hr2) (by simp [builtin])
      · cases hc
    · rename_i x' xs' h1 h2
      simp only [Option.some.injEq] at hc; subst hc
      exact Yu (b := b) .max argTypes type args a (abu (mx := true) (ts := argTypes) (ty := type) hg hρ h2) rfl
    · rename_i x' xs' h1 h2
      simp only [Option.some.injEq] at hc; subst hc
      exact Yu (b := b) .min argTypes type args a (abu (mx := false) (ts := argTypes) (ty := type) hg hρ h2) rfl
    · cases hc
  | _ => simp [VL] at hc
end
end Av
end
section
namespace Av
open Go
mutual
def V.ren (σ : Nat → Nat) : V → V
  | .hd a off len => .hd (σ a) off len
  | .ptr a off => .ptr (σ a) off
  | .ept a i off => .ept (σ a) i off
  | .agg cs => .agg (VH σ cs)
  | .tup cs => .tup (VH σ cs)
  | .clo f cs => .clo f (VH σ cs)
  | v => v
def VH (σ : Nat → Nat) : List V → List V
  | [] => []
  | v :: r => v.ren σ :: VH σ r
end
theorem Qz (σ : Nat → Nat) : ∀ cs : List V, (VH σ cs).length = cs.length
  | [] => rfl
  | v :: r => by simp [VH, Qz σ r]
theorem JY (σ : Nat → Nat) : ∀ (cs : List V) (j : Nat) (h : j < cs.length) (h' : j < (VH σ cs).length), (VH σ cs)[j] = cs[j].ren σ
  | [], j, h, _ => by simp at h
  | v :: r, 0, _, _ => rfl
  | v :: r, j + 1, h, h' => by
    simp only [VH, List.getElem_cons_succ]
    exact JY σ r j (by simpa using h) _
def Ob.ren (σ : Nat → Nat) : Ob → Ob
  | .box wr cs => .box wr (VH σ cs)
  | .typ T x => .typ T (x.ren σ)
  | .obuf wr s xs => .obuf wr s (VH σ xs)
  | x => x
theorem V4 (σ : Nat → Nat) (x : V) : (x.ren σ).cells = VH σ x.cells := by cases x <;> rfl
theorem Rep.ren {w : World} {Z : Nat → Nat → Prop} {μ μ' : Nat → Option Cn} {σ : Nat → Nat} {v : Value} {x : V} (h : Rep w Z μ v x) (hσ : ∀ a c, μ a = some c → μ' (σ a) = some c) : Rep w Z μ' v (x.ren σ) := by
  induction h generalizing μ' with
  | top => exact .top
  | sc h => exact .sc h
  | nn => exact .nn
  | sl0 => exact .sl0
  | sl f h0 h1 h2 h3 _ => exact .sl f h0 h1 h2 h3
  | hd h hv => exact .hd (hσ _ _ h) hv
  | ptr h => exact .ptr (hσ _ _ h)
  | ept h hv hi => exact .ept (hσ _ _ h) hv hi
  | ro f h1 h2 _ => exact .ro f h1 h2
  | agg hl ho _ ih => exact .agg (by rw [Qz]; exact hl) ho (fun j h h' => by rw [Qz] at h; rw [JY σ _ j h]; exact ih j h h' hσ)
  | tup hl _ ih => exact .tup (by rw [Qz]; exact hl) (fun j h h' => by rw [Qz] at h; rw [JY σ _ j h]; exact ih j h h' hσ)
  | clo hl _ ih => exact .clo (by rw [Qz]; exact hl) (fun j h h' => by rw [Qz] at h; rw [JY σ _ j h]; exact ih j h h' hσ)
  | clm hl _ ih => exact .clm (by rw [Qz]; exact hl) (fun j h h' => by rw [Qz] at h; rw [JY σ _ j h]; exact ih j h h' hσ)
theorem Uj {σ : Nat → Nat} {c : Cn} {x : Ob} : (x.ren σ).live c ↔ x.live c := by
  induction x with
  | typ T x ih => exact ih
  | _ => rfl
theorem BOk.ren {w : World} {Z : Nat → Nat → Prop} {μ μ' : Nat → Option Cn} {σ : Nat → Nat} {c : Cn} {wr : Bool} {s : Nat} {xs : List V} (h : BOk w Z μ c wr s xs) (hσ : ∀ a c, μ a = some c → μ' (σ a) = some c) : BOk w Z μ' c wr s (VH σ xs) := by
  refine ⟨by rw [Qz]; exact h.1, fun hv => ?_⟩
  obtain ⟨h0, h1, h2, h3, h4, cs, ty, fr, hh, h5, h6, h7⟩ := h.2 hv
  refine ⟨h0, h1, h2, h3, fun i hi => ?_, cs, ty, fr, hh, h5, h6, fun i hi j hj => ?_⟩
  · have hi' : i < xs.length := by rw [Qz] at hi; exact hi
    rw [JY σ _ i hi', V4, Qz]; exact h4 i hi'
  · have hi' : i < xs.length := by rw [Qz] at hi; exact hi
    have hj' : j < xs[i].cells.length := by
      have := hj; simp only [JY σ _ i hi', V4, Qz] at this; exact this
    obtain ⟨v, e1, e2, e3⟩ := h7 i hi' j hj'
    refine ⟨v, e1, e2, ?_⟩
    have : (VH σ xs)[i].cells[j] = (xs[i].cells[j]).ren σ := by
      simp only [JY σ _ i hi', V4]
      exact JY σ _ j hj' _
    rw [this]; exact e3.ren hσ
theorem Up.ren {w : World} {Z : Nat → Nat → Prop} {μ μ' : Nat → Option Cn} {σ : Nat → Nat} {c : Cn} {x : Ob} (h : Up w Z μ c x) (hσ : ∀ a c, μ a = some c → μ' (σ a) = some c) : Up w Z μ' c (x.ren σ) := by
  induction x with
  | dead => trivial
  | typ T x ih => exact ⟨ih h.1, h.2.1, fun hl => h.2.2 ((Uj).1 hl)⟩
  | box wr cells =>
    obtain ⟨hv, ⟨cs, ty, hh, hs, hr⟩, hz⟩ := h
    exact ⟨hv, ⟨cs, ty, hh, by rw [Qz]; exact hs, fun j h h' => by
      rw [Qz] at h
      rw [JY σ _ j h]
      exact ⟨(hr j h h').1.ren hσ, (hr j h h').2⟩⟩, hz⟩
  | buf wr sz xs => exact h
  | obuf wr sz xs => exact BOk.ren h hσ
def Yp (P : Program) (f : FuncId) (args : Array Value) (w : World) (R : Ending → World → Prop) : Prop :=
  match (callFunc f args).run P w with
  | .ok (.value v) w' => R (.returned v) w'
  | .ok (.enter f args) w' => Calls P f args w' R
  | .ok (.row row args) w' => Rows P row args w' fun v w'' => R (.returned v) w''
  | _ => False
def Own (P : Program) (f : FuncId) : Prop := ∃ fn, P.funcs[f]? = some fn ∧ fn.name ≠ "runtime.NumGoroutine" ∧ ∃ c, fn.body = some c
theorem YG {P : Program} {f : FuncId} (h : Own P f) (args : Array Value) (w : World) (R : Ending → World → Prop) : Yp P f args w R ↔ Calls P f args w R := by
  obtain ⟨fn, h1, h2, c, h3⟩ := h
  have : (callFunc f args).run P w = .ok (.enter f args) w := by simp [callFunc, h1, h2, h3]
  unfold Yp
  rw [this]
def Ev (Γ : Env) (f : FuncId) (args : List V) (ins : List Ob) (res : V) (outs : List Ob) : Prop :=
  ∀ (C : Ctx) (cargs : Array Value), C.env = Γ → C.m = ins.length → (∀ k, ins.length ≤ k → C.μ0 k = none) → Good C C.w0 C.Z0 C.μ0 (fun k => ins[k]?) →
    (∀ b, C.F b → ∃ k x c, ins[k]? = some x ∧ C.μ0 k = some c ∧ x.live c ∧ c.block = b) →
    cargs.size = args.length → (∀ i (h : i < args.length) (h' : i < cargs.size), Rep C.w0 C.Z0 C.μ0 cargs[i] args[i]) →
    Yp Γ.P f cargs C.w0 (fun e w' => ∃ v Z' μ', e = .returned v ∧ Rep w' Z' μ' v res ∧ Good C w' Z' μ' (fun k => outs[k]?) ∧ ∀ k, outs.length ≤ k → μ' k = none)
def EvP (Γ : Env) (f : FuncId) (args : List V) (ins : List Ob) (Q : V → List Ob → Prop) : Prop :=
  ∀ (C : Ctx) (cargs : Array Value), C.env = Γ → C.m = ins.length → (∀ k, ins.length ≤ k → C.μ0 k = none) → Good C C.w0 C.Z0 C.μ0 (fun k => ins[k]?) →
    (∀ b, C.F b → ∃ k x c, ins[k]? = some x ∧ C.μ0 k = some c ∧ x.live c ∧ c.block = b) →
    cargs.size = args.length → (∀ i (h : i < args.length) (h' : i < cargs.size), Rep C.w0 C.Z0 C.μ0 cargs[i] args[i]) →
    Yp Γ.P f cargs C.w0 (fun e w' => ∃ res outs, Q res outs ∧ ∃ v Z' μ', e = .returned v ∧ Rep w' Z' μ' v res ∧ Good C w' Z' μ' (fun k => outs[k]?) ∧ ∀ k, outs.length ≤ k → μ' k = none)
theorem Yp.mono {P : Program} {f : FuncId} {args : Array Value} {w : World} {R R' : Ending → World → Prop} (h : Yp P f args w R) (hr : ∀ e w', R e w' → R' e w') : Yp P f args w R' := by
  unfold Yp at h ⊢
  split
  · rename_i heq; simp only [heq] at h; exact hr _ _ h
  · rename_i heq; simp only [heq] at h; exact Calls.mono h (fun _ _ h => hr _ _ h)
  · rename_i heq; simp only [heq] at h; exact Rows.mono h (fun _ _ h => hr _ _ h)
  · rename_i x h1 h2 h3
    split at h
    · rename_i heq; exact h1 _ _ heq
    · rename_i heq; exact h2 _ _ _ heq
    · rename_i heq; exact h3 _ _ _ heq
    · exact h
theorem Ev.p {Γ : Env} {f : FuncId} {args : List V} {ins : List Ob} {res : V} {outs : List Ob} (h : Ev Γ f args ins res outs) : EvP Γ f args ins (fun r o => r = res ∧ o = outs) :=
  fun C cargs h1 h2 h3 h4 h5 h6 h7 => (h C cargs h1 h2 h3 h4 h5 h6 h7).mono fun _ _ h => ⟨res, outs, ⟨rfl, rfl⟩, h⟩
theorem EvP.one {Γ : Env} {f : FuncId} {args : List V} {ins : List Ob} {res : V} {outs : List Ob} (h : EvP Γ f args ins (fun r o => r = res ∧ o = outs)) : Ev Γ f args ins res outs :=
  fun C cargs h1 h2 h3 h4 h5 h6 h7 => (h C cargs h1 h2 h3 h4 h5 h6 h7).mono fun _ _ ⟨_, _, ⟨e1, e2⟩, hh⟩ => by subst e1; subst e2; exact hh
def ntL : List V → Prop
  | [] => True
  | v :: r => v ≠ .top ∧ ntL r
theorem vQ : ∀ {l : List V}, ntL l → ∀ i (h : i < l.length), l[i] ≠ .top
  | v :: r, h, 0, _ => h.1
  | v :: r, h, i + 1, hi => vQ (l := r) h.2 i (by simpa using hi)
def okB (B : Option (List Nat)) (a : Nat) : Prop :=
  match B with
  | none => True
  | some l => a ∈ l
mutual
def conv (o : Nat → Option Ob) (br : List Nat) (B : Option (List Nat)) : V → V → Prop
  | _, .top => True
  | .sl s xs, .sl s' ys => s = s' ∧ xs = ys
  | .hd a off len, .sl s' ys => okB B a ∧ a ∉ br ∧ ((∃ wr xs, o a = some (.buf wr s' xs) ∧ ys = (xs.drop off).take len) ∨ (∃ wr xs, o a = some (.obuf wr s' xs) ∧ Jc o br B ((xs.drop off).take len) ys ∧ ntL ys ∧ Qc ys))
  | .sc (.slice none 0 0), .sl _ ys => ys = []
  | .hd a off len, .hd k off' len' => br[k]? = some a ∧ off' = off ∧ len' = len
  | .ptr a off, .ptr k off' => br[k]? = some a ∧ off' = off
  | .ptr a off, .ro cells off' => okB B a ∧ a ∉ br ∧ off' = off ∧ Qc cells ∧ ∃ wr cs, o a = some (.box wr cs) ∧ Jc o br B cs cells
  | .ro cs off, .ro cells off' => cs = cells ∧ off' = off
  | .agg cs, .agg es => Jc o br B cs es
  | .tup cs, .tup es => Jc o br B cs es
  | .clo f cs, .clo g es => f = g ∧ Jc o br B cs es
  | .sc v, .sc u => v = u
  | .nn, .nn => True
  | _, _ => False
def Jc (o : Nat → Option Ob) (br : List Nat) (B : Option (List Nat)) : List V → List V → Prop
  | [], [] => True
  | v :: r, e :: r' => conv o br B v e ∧ Jc o br B r r'
  | _, _ => False
end
def xb (c : Cn) : Ob → Nat → Prop
  | .dead, _ => False
  | .box _ _, _ => True
  | .buf _ _ _, i => i < c.base + c.n * c.sz
  | .obuf _ _ _, i => i < c.base + c.n * c.sz
  | .typ _ x, i => xb c x i
section
variable {C : Ctx} {w : World} {Z : Nat → Nat → Prop} {μ : Nat → Option Cn} {o : Nat → Option Ob}
def Fb (o : Nat → Option Ob) (μ : Nat → Option Cn) (br : List Nat) (b : Nat) : Prop := ∃ a ∈ br, ∃ x c, o a = some x ∧ μ a = some c ∧ x.live c ∧ c.block = b
def Zc (Z : Nat → Nat → Prop) (o : Nat → Option Ob) (μ : Nat → Option Cn) (br : List Nat) (B : Option (List Nat)) (b i : Nat) : Prop :=
  Z b i ∨ ∃ a x c, okB B a ∧ a ∉ br ∧ o a = some x ∧ μ a = some c ∧ x.live c ∧ c.block = b ∧ xb c x i
def βc (μ : Nat → Option Cn) (br : List Nat) (k : Nat) : Option Cn := (br[k]?).bind μ
theorem JD {br : List Nat} {B : Option (List Nat)} : ∀ {cs es : List V}, Jc o br B cs es → cs.length = es.length
  | [], [], _ => rfl
  | [], _ :: _, h => by simp [Jc] at h
  | _ :: _, [], h => by simp [Jc] at h
  | v :: r, e :: r', h => by simp only [Jc] at h; simp [JD h.2]
theorem XA {br : List Nat} {B : Option (List Nat)} : ∀ {cs es : List V}, Jc o br B cs es → ∀ j (h : j < cs.length) (h' : j < es.length), conv o br B cs[j] es[j]
  | [], _, _, j, h, _ => by simp at h
  | v :: r, [], h, _, _, h' => by simp at h'
  | v :: r, e :: r', h, 0, _, _ => by simp only [Jc] at h; exact h.1
  | v :: r, e :: r', h, j + 1, hj, hj' => by simp only [Jc] at h; exact XA h.2 j (by simpa using hj) (by simpa using hj')
theorem vb (y : V) (j : Nat) (h : j < y.cells.length) : sizeOf y.cells[j] ≤ sizeOf y := by
  have one : y.cells = [y] → sizeOf y.cells[j] ≤ sizeOf y := fun e => by
    have : j = 0 := by rw [e] at h; simpa using h
    subst this
    simp only [e, List.getElem_cons_zero]; exact Nat.le_refl _
  cases y with
  | agg cs =>
    have := List.sizeOf_lt_of_mem (List.getElem_mem (l := cs) h)
    show sizeOf cs[j] ≤ sizeOf (V.agg cs)
    simp; omega
  | _ => exact one rfl
theorem wW {br : List Nat} {B : Option (List Nat)} {x e : V} (h : conv o br B x e) (he : e ≠ .top) : x.cells.length = e.cells.length ∧ ∀ j (h : j < x.cells.length) (h' : j < e.cells.length), conv o br B x.cells[j] e.cells[j] := by
  have one : ∀ {y z : V}, y.cells = [y] → z.cells = [z] → conv o br B y z → y.cells.length = z.cells.length ∧ ∀ j (h : j < y.cells.length) (h' : j < z.cells.length), conv o br B y.cells[j] z.cells[j] := by
    intro y z h1 h2 h
    refine ⟨by rw [h1, h2]; rfl, fun j hj hj' => ?_⟩
    have : j = 0 := by rw [h1] at hj; simpa using hj
    subst this
    simp only [h1, h2, List.getElem_cons_zero]; exact h
  cases e with
  | top => exact (he rfl).elim
  | agg es =>
    cases x <;> simp only [conv] at h
    rename_i cs
    exact ⟨JD h, fun j h1 h2 => XA h j h1 h2⟩
  | sl s ys => cases x <;> first | exact one rfl rfl h | simp [conv] at h
  | sc u => cases x <;> first | exact one rfl rfl h | simp [conv] at h
  | nn => cases x <;> first | exact one rfl rfl h | simp [conv] at h
  | hd a b c => cases x <;> first | exact one rfl rfl h | simp [conv] at h
  | ptr a b => cases x <;> first | exact one rfl rfl h | simp [conv] at h
  | ept a b c => cases x <;> first | exact one rfl rfl h | simp [conv] at h
  | ro a b => cases x <;> first | exact one rfl rfl h | simp [conv] at h
  | tup a => cases x <;> first | exact one rfl rfl h | simp [conv] at h
  | clo a b => cases x <;> first | exact one rfl rfl h | simp [conv] at h
theorem WV (hg : Good C w Z μ o) (br : List Nat) (B : Option (List Nat)) : ∀ (n : Nat) (exp act : V) (v : Value), sizeOf exp ≤ n → Rep w Z μ v act → conv o br B act exp → Rep w (Zc Z o μ br B) (βc μ br) v exp := by
  have hz : ∀ b i, Z b i → Zc Z o μ br B b i := fun b i h => .inl h
  intro n
  induction n with
  | zero => intro exp act v hs; cases exp <;> simp at hs
  | succ n ih =>
    intro exp act v hs hr hc
    have list : ∀ (es cs : List V) (vs : Array Value), sizeOf es ≤ n → vs.size = cs.length → (∀ j (h : j < cs.length) (h' : j < vs.size), Rep w Z μ vs[j] cs[j]) → Jc o br B cs es →
        vs.size = es.length ∧ ∀ j (h : j < es.length) (h' : j < vs.size), Rep w (Zc Z o μ br B) (βc μ br) vs[j] es[j] := by
      intro es cs vs hs hl hr hc
      have h1 := JD hc
      refine ⟨by omega, fun j h h' => ih _ _ _ ?_ (hr j (by omega) h') (XA hc j (by omega) h)⟩
      have := List.sizeOf_lt_of_mem (List.getElem_mem h)
      omega
    cases exp with
    | top => exact .top
    | sc u => cases act <;> simp only [conv] at hc; subst hc; obtain ⟨rfl, h⟩ := hr.scE; exact .sc h
    | nn => cases act <;> simp only [conv] at hc; obtain ⟨t, u, rfl⟩ := hr.nnE; exact .nn
    | sl s' ys =>
      cases act with
      | sl s xs =>
        simp only [conv] at hc
        obtain ⟨rfl, rfl⟩ := hc
        cases hr with
        | sl0 => exact .sl0
        | sl f h0 h1 h2 h3 => exact (Rep.sl f h0 h1 h2 h3 : Rep w Z (βc μ br) _ _).mono (fun _ _ _ => rfl) hz (fun _ _ h => h)
      | hd a off len =>
        simp only [conv] at hc
        obtain ⟨hB, hbr, hc⟩ := hc
        rcases hc with ⟨wr, xs, hoa, rfl⟩ | ⟨wr, xs, hoa, hcv, hnt, hcl⟩
        · skip
          obtain ⟨c, hm, hh⟩ := hr.hdE
          obtain ⟨c', hm', hok, _⟩ := hg.ob a _ hoa
          rw [hm] at hm'; cases hm'
          cases hvo : c.void with
          | true =>
            obtain ⟨rfl, rfl, rfl⟩ := U4 hh hvo
            simp only [List.take_zero]; exact .sl0
          | false =>
            obtain ⟨ad, rfl, h3, h4, h5⟩ := U5 hh hvo
            obtain ⟨hlen, hok⟩ := hok
            obtain ⟨h6, h7, h8, h9, h10, cs, ty, fr, hb, h11, h12, h13⟩ := hok hvo
            have hl : ((xs.drop off).take len).length = len := by simp; omega
            by_cases h0 : len = 0
            · subst h0; simp only [List.take_zero]; exact .sl0
            · rw [h5 (by omega)]
              have hrow : Row w Z noμ (fun k => w.cell? ⟨c.block, c.base + off * c.sz + k, none⟩) s' ((xs.drop off).take len) := by
                have h' : Row w Z noμ (fun k => w.cell? ⟨c.block, c.base + k, none⟩) s' xs := fun i hi => ⟨h10 i hi, fun j hj => by
                  obtain ⟨u, e1, e2, e3⟩ := h13 i hi j hj
                  rw [h6] at e1
                  exact ⟨u, by simp only [cell?_of_heap hb]; exact e1, e2, e3⟩⟩
                exact ((h'.drop off).take len).congr (fun k _ => by rw [h6, Nat.add_assoc])
              rw [← hl]
              have e0 : (xs.drop off).take ((xs.drop off).take len).length = (xs.drop off).take len := by rw [hl]
              rw [e0]
              have hfun : ∀ i (hi : i < ((xs.drop off).take len).length) j (hj : j < ((xs.drop off).take len)[i].cells.length), ∃ u, w.cell? ⟨c.block, c.base + off * c.sz + (i * s' + j), none⟩ = some u ∧ u.oneCell' = true ∧ Rep w Z noμ u ((xs.drop off).take len)[i].cells[j] :=
                fun i hi j hj => (hrow i hi).2 j hj
              refine Rep.sl (sz := s') (fun i j => (w.cell? ⟨c.block, c.base + off * c.sz + (i * s' + j), none⟩).getD undef) (by rw [hl]; omega) (fun i hi => (hrow i hi).1) (fun i hi j hj => ?_) (fun i hi j hj => ?_)
              · obtain ⟨u, e1, e2, e3⟩ := hfun i hi j hj
                refine ⟨by rw [e1]; rfl, .inr ⟨a, _, c, hB, hbr, hoa, hm, hvo, rfl, ?_⟩, by rw [e1]; exact e2⟩
                have hi' : i < len := by rw [hl] at hi; exact hi
                have hj' : j < s' := by rw [(hrow i hi).1] at hj; exact hj
                have b1 : (off + i + 1) * s' ≤ c.n * s' := Nat.mul_le_mul_right _ (by omega)
                have b2 : (off + i + 1) * s' = off * s' + i * s' + s' := by rw [Nat.add_mul, Nat.add_mul]; omega
                simp only [xb]
                rw [h6]; omega
              · obtain ⟨u, e1, e2, e3⟩ := hfun i hi j hj
                rw [e1]
                exact e3.mono (fun _ _ _ => rfl) hz (fun _ _ h => h)
        · skip
          obtain ⟨c, hm, hh⟩ := hr.hdE
          obtain ⟨c', hm', hok, _⟩ := hg.ob a _ hoa
          rw [hm] at hm'; cases hm'
          cases hvo : c.void with
          | true =>
            obtain ⟨rfl, rfl, rfl⟩ := U4 hh hvo
            have h0 := JD hcv
            have : ys = [] := by simpa using h0.symm
            subst this; exact .sl0
          | false =>
            obtain ⟨ad, rfl, h3, h4, h5⟩ := U5 hh hvo
            obtain ⟨hlen, hok⟩ := hok
            obtain ⟨h6, h7, h8, h9, h10, cs, ty, fr, hb, h11, h12, h13⟩ := hok hvo
            have hl : ((xs.drop off).take len).length = len := by simp; omega
            have hly : ys.length = len := by rw [← JD hcv, hl]
            by_cases h0 : len = 0
            · subst h0
              have : ys = [] := List.eq_nil_of_length_eq_zero hly
              subst this; exact .sl0
            · rw [h5 (by omega)]
              have hrow : Row w Z μ (fun k => w.cell? ⟨c.block, c.base + off * c.sz + k, none⟩) s' ((xs.drop off).take len) := by
                have h' : Row w Z μ (fun k => w.cell? ⟨c.block, c.base + k, none⟩) s' xs := fun i hi => ⟨h10 i hi, fun j hj => by
                  obtain ⟨u, e1, e2, e3⟩ := h13 i hi j hj
                  rw [h6] at e1
                  exact ⟨u, by simp only [cell?_of_heap hb]; exact e1, e2, e3⟩⟩
                exact ((h'.drop off).take len).congr (fun k _ => by rw [h6, Nat.add_assoc])
              have hcc := fun i (hi : i < ys.length) => wW (XA hcv i (by omega) hi) (vQ hnt i hi)
              have hsz' : ∀ i (hi : i < ys.length), ys[i].cells.length = s' := fun i hi => by rw [← (hcc i hi).1]; exact (hrow i (by omega)).1
              have hfun : ∀ i (hi : i < ys.length) j (hj : j < ys[i].cells.length), ∃ u, w.cell? ⟨c.block, c.base + off * c.sz + (i * s' + j), none⟩ = some u ∧ u.oneCell' = true ∧ Rep w (Zc Z o μ br B) noμ u ys[i].cells[j] := by
                intro i hi j hj
                obtain ⟨u, e1, e2, e3⟩ := (hrow i (by omega)).2 j (by rw [(hcc i hi).1]; exact hj)
                have hle : sizeOf ys[i].cells[j] ≤ n := by
                  have k1 := List.sizeOf_lt_of_mem (List.getElem_mem hi)
                  have k2 := vb ys[i] j hj
                  simp at hs; omega
                exact ⟨u, e1, e2, (ih _ _ _ hle e3 ((hcc i hi).2 j (by rw [(hcc i hi).1]; exact hj) hj)).close (KV (J9 hcl i hi) j hj)⟩
              rw [← hly]
              refine Rep.sl (sz := s') (fun i j => (w.cell? ⟨c.block, c.base + off * c.sz + (i * s' + j), none⟩).getD undef) (by rw [hly]; omega) hsz' (fun i hi j hj => ?_) (fun i hi j hj => ?_)
              · obtain ⟨u, e1, e2, e3⟩ := hfun i hi j hj
                refine ⟨by rw [e1]; rfl, .inr ⟨a, _, c, hB, hbr, hoa, hm, hvo, rfl, ?_⟩, by rw [e1]; exact e2⟩
                have hi' : i < len := by rw [hly] at hi; exact hi
                have hj' : j < s' := by rw [hsz' i hi] at hj; exact hj
                have b1 : (off + i + 1) * s' ≤ c.n * s' := Nat.mul_le_mul_right _ (by omega)
                have b2 : (off + i + 1) * s' = off * s' + i * s' + s' := by rw [Nat.add_mul, Nat.add_mul]; omega
                simp only [xb]
                rw [h6]; omega
              · obtain ⟨u, e1, e2, e3⟩ := hfun i hi j hj
                rw [e1]; exact e3
      | sc u =>
        cases u with
        | slice a l c =>
          cases a with
          | none =>
            cases l with
            | zero => cases c with
              | zero =>
                simp only [conv] at hc
                subst hc
                obtain ⟨rfl, _⟩ := hr.scE
                exact .sl0
              | succ _ => simp [conv] at hc
            | succ _ => simp [conv] at hc
          | some _ => simp [conv] at hc
        | _ => simp [conv] at hc
      | _ => simp [conv] at hc
    | hd k off' len' =>
      cases act <;> simp only [conv] at hc
      obtain ⟨h1, rfl, rfl⟩ := hc
      obtain ⟨c, hm, hh⟩ := hr.hdE
      exact .hd (c := c) (by simp [βc, h1, hm]) hh
    | ptr k off' =>
      cases act <;> simp only [conv] at hc
      obtain ⟨h1, rfl⟩ := hc
      obtain ⟨c, hm, rfl⟩ := hr.ptrE
      exact .ptr (c := c) (by simp [βc, h1, hm])
    | ept k i off' => cases act <;> simp only [conv] at hc
    | ro cells off' =>
      cases act with
      | ptr a off =>
        simp only [conv] at hc
        obtain ⟨hB, hbr, rfl, hcl, wr, cs, hoa, hconv⟩ := hc
        obtain ⟨c, hm, rfl⟩ := hr.ptrE
        obtain ⟨c', hm', hok, _⟩ := hg.ob a _ hoa
        rw [hm] at hm'; cases hm'
        obtain ⟨hvo, ⟨vs, ty, hb, hsz, hrr⟩, _⟩ := hok
        obtain ⟨l1, l2⟩ := list cells cs vs (by simp at hs; omega) hsz (fun j h h' => (hrr j h h').1) hconv
        have := Rep.ro (w := w) (Z := Zc Z o μ br B) (μ := βc μ br) (b := c.block) (o := 0) (off := off') (cells := cells) (fun j => vs.getD j undef) (fun j hj => by
          have hj' : j < vs.size := by omega
          refine ⟨?_, .inr ⟨a, _, c, hB, hbr, hoa, hm, trivial, rfl, trivial⟩, ?_⟩
          · rw [cell?_of_heap hb]; simp [hj']
          · simp only [Array.getD_eq_getD_getElem?, Array.getElem?_eq_getElem hj', Option.getD_some]
            exact (hrr j (by omega) hj').2) (fun j hj => by
          have hj' : j < vs.size := by omega
          simp only [Array.getD_eq_getD_getElem?, Array.getElem?_eq_getElem hj', Option.getD_some]
          exact (l2 j hj hj').close (J9 hcl j hj))
        simpa using this
      | ro cs off =>
        simp only [conv] at hc
        obtain ⟨rfl, rfl⟩ := hc
        cases hr with
        | ro f h1 h2 => exact (Rep.ro f h1 h2 : Rep w Z (βc μ br) _ _).mono (fun _ _ _ => rfl) hz (fun _ _ h => h)
      | _ => simp [conv] at hc
    | agg es =>
      cases act <;> simp only [conv] at hc
      obtain ⟨vs, rfl, h1, h2, h3⟩ := hr.aggE
      obtain ⟨l1, l2⟩ := list es _ vs (by simp at hs; omega) h1 h3 hc
      exact .agg l1 h2 l2
    | tup es =>
      cases act <;> simp only [conv] at hc
      obtain ⟨vs, rfl, h1, h3⟩ := hr.tupE
      obtain ⟨l1, l2⟩ := list es _ vs (by simp at hs; omega) h1 h3 hc
      exact .tup l1 l2
    | clo f es =>
      cases act <;> simp only [conv] at hc
      obtain ⟨rfl, hc⟩ := hc
      obtain ⟨vs, rfl, h1, h3⟩ := hr.cloE
      obtain ⟨l1, l2⟩ := list es _ vs (by simp at hs; omega) h1 h3 hc
      exact .cloI l1 l2
end
end Av
end
section
namespace Av
open Go
def qX (o : Nat → Option Ob) (br : List Nat) (B : Option (List Nat)) : List V → List V → Prop
  | [], [] => True
  | x :: r, y :: r' => Jc o br B x.cells y.cells ∧ qX o br B r r'
  | _, _ => False
theorem qW {o : Nat → Option Ob} {br : List Nat} {B : Option (List Nat)} : ∀ {xs ys : List V}, qX o br B xs ys → xs.length = ys.length ∧ ∀ i (h : i < xs.length) (h' : i < ys.length), Jc o br B xs[i].cells ys[i].cells
  | [], [], _ => ⟨rfl, fun i h => by simp at h⟩
  | [], _ :: _, h => h.elim
  | _ :: _, [], h => h.elim
  | x :: r, y :: r', h => by
    obtain ⟨l1, l2⟩ := qW h.2
    refine ⟨by simp [l1], fun i hi hi' => ?_⟩
    cases i with
    | zero => exact h.1
    | succ i => exact l2 i (by simpa using hi) (by simpa using hi')
def wX (o : Nat → Option Ob) (br : List Nat) (B : Option (List Nat)) : Ob → Ob → Prop
  | .box true cs, .box true es => Jc o br B cs es
  | .buf true s xs, .buf true s' ys => s = s' ∧ xs = ys
  | .obuf true s xs, .obuf true s' ys => s = s' ∧ qX o br B xs ys
  | .typ T x, .typ T' y => T = T' ∧ wX o br B x y
  | _, _ => False
def vm (o : Nat → Option Ob) (br : List Nat) (B : Option (List Nat)) : List Nat → List Ob → Prop
  | [], [] => True
  | a :: r, y :: r' => (∃ x, o a = some x ∧ wX o br B x y) ∧ vm o br B r r'
  | _, _ => False
theorem qh {o : Nat → Option Ob} {br : List Nat} {B : Option (List Nat)} : ∀ {l : List Nat} {ins : List Ob}, vm o br B l ins → l.length = ins.length ∧ ∀ (k a : Nat) (y : Ob), l[k]? = some a → ins[k]? = some y → ∃ x, o a = some x ∧ wX o br B x y
  | [], [], _ => ⟨rfl, fun k a y h => by simp at h⟩
  | [], _ :: _, h => h.elim
  | _ :: _, [], h => h.elim
  | a :: r, y :: r', h => by
    obtain ⟨h1, h2⟩ := h
    obtain ⟨l1, l2⟩ := qh h2
    refine ⟨by simp [l1], fun k a' y' ha hy => ?_⟩
    cases k with
    | zero => simp at ha hy; subst ha; subst hy; exact h1
    | succ k => exact l2 k a' y' (by simpa using ha) (by simpa using hy)
def sig (br : List Nat) (b : Nat) (k : Nat) : Nat := (br[k]?).getD (b + (k - br.length))
def Xq (σ : Nat → Nat) : Nat → List Ob → (Nat → Option Ob) → Nat → Option Ob
  | _, [], o => o
  | b, x :: r, o => upd (Xq σ (b + 1) r o) b (some (x.ren σ))
def YL (σ : Nat → Nat) (b : Nat) : List Nat → List Ob → (Nat → Option Ob) → Nat → Option Ob
  | a :: br, x :: outs, o => upd (YL σ b br outs o) a (some (x.ren σ))
  | _, outs, o => Xq σ b outs o
theorem jF (σ : Nat → Nat) : ∀ (outs : List Ob) (b : Nat) (o : Nat → Option Ob) (a : Nat),
    (∃ j x, a = b + j ∧ outs[j]? = some x ∧ Xq σ b outs o a = some (x.ren σ)) ∨ (Xq σ b outs o a = o a ∧ ¬ (b ≤ a ∧ a < b + outs.length))
  | [], b, o, a => .inr ⟨rfl, by simp⟩
  | x :: r, b, o, a => by
    by_cases h : a = b
    · subst h; exact .inl ⟨0, x, rfl, rfl, by simp [Xq, Qh]⟩
    · rcases jF σ r (b + 1) o a with ⟨j, y, h1, h2, h3⟩ | ⟨h1, h2⟩
      · exact .inl ⟨j + 1, y, by omega, by simpa using h2, by simp only [Xq]; rw [QI _ _ h]; exact h3⟩
      · exact .inr ⟨by simp only [Xq]; rw [QI _ _ h]; exact h1, by simp; omega⟩
theorem qA (σ : Nat → Nat) (b : Nat) : ∀ (br : List Nat) (outs : List Ob) (o : Nat → Option Ob) (a : Nat), br.length ≤ outs.length → (∀ x ∈ br, x < b) → br.Nodup →
    (∃ (k : Nat) (x : Ob), br[k]? = some a ∧ outs[k]? = some x ∧ YL σ b br outs o a = some (x.ren σ)) ∨
    (a ∉ br ∧ ∃ j x, a = b + j ∧ outs[br.length + j]? = some x ∧ YL σ b br outs o a = some (x.ren σ)) ∨
    (a ∉ br ∧ YL σ b br outs o a = o a ∧ ¬ (b ≤ a ∧ a < b + (outs.length - br.length)))
  | [], outs, o, a, _, _, _ => by
    rcases jF σ outs b o a with ⟨j, x, h1, h2, h3⟩ | ⟨h1, h2⟩
    · exact .inr (.inl ⟨by simp, j, x, h1, by simpa using h2, by simpa [YL] using h3⟩)
    · exact .inr (.inr ⟨by simp, by simpa [YL] using h1, by simpa using h2⟩)
  | c :: br, [], o, a, h, _, _ => by simp at h
  | c :: br, x :: outs, o, a, hl, hb, hn => by
    by_cases h : a = c
    · subst h; exact .inl ⟨0, x, rfl, rfl, by simp [YL, Qh]⟩
    · have hn' := (List.nodup_cons.1 hn).2
      rcases qA σ b br outs o a (by simpa using hl) (fun x hx => hb x (by simp [hx])) hn' with ⟨k, y, h1, h2, h3⟩ | ⟨h0, j, y, h1, h2, h3⟩ | ⟨h0, h1, h2⟩
      · exact .inl ⟨k + 1, y, by simpa using h1, by simpa using h2, by simp only [YL]; rw [QI _ _ h]; exact h3⟩
      · exact .inr (.inl ⟨by simp [h, h0], j, y, h1, by rw [List.length_cons, show br.length + 1 + j = (br.length + j) + 1 by omega]; simpa using h2, by simp only [YL]; rw [QI _ _ h]; exact h3⟩)
      · exact .inr (.inr ⟨by simp [h, h0], by simp only [YL]; rw [QI _ _ h]; exact h1, by simp; simpa using h2⟩)
def Ob.frz : Ob → Ob
  | .dead => .dead
  | .box _ cs => .box false cs
  | .buf _ s xs => .buf false s xs
  | .typ _ x => x.frz
  | .obuf _ s xs => .obuf false s xs
def KB (B : Option (List Nat)) (br : List Nat) (o : Nat → Option Ob) : Nat → Option Ob :=
  match B with
  | none => o
  | some l => fun a => if a ∈ l ∧ a ∉ br then (o a).map Ob.frz else o a
mutual
def V.noSl : V → Prop
  | .sl _ xs => xs = []
  | .ro _ _ => False
  | .agg cs => Jh cs
  | .tup cs => Jh cs
  | .clo _ cs => Jh cs
  | _ => True
def Jh : List V → Prop
  | [] => True
  | v :: r => v.noSl ∧ Jh r
end
def Ob.noSl : Ob → Prop
  | .dead => True
  | .box _ cs => Jh cs
  | .buf _ _ xs => ∀ x ∈ xs, x.noSl
  | .typ _ x => x.noSl
  | .obuf _ _ xs => ∀ x ∈ xs, x.noSl
theorem Wu : ∀ {cs : List V}, Jh cs → ∀ j (h : j < cs.length), cs[j].noSl
  | [], _, j, h => by simp at h
  | v :: r, hc, 0, h => hc.1
  | v :: r, hc, j + 1, h => Wu (cs := r) hc.2 j (by simpa using h)
theorem jJ {x : V} (h : x.noSl) : ∀ j (hj : j < x.cells.length), x.cells[j].noSl := by
  intro j hj
  cases x with
  | agg cs => exact Wu (cs := cs) h j hj
  | _ => simp [V.cells] at hj; subst hj; exact h
theorem Rep.anyZ {w : World} {Z Z' : Nat → Nat → Prop} {μ : Nat → Option Cn} {v : Value} {x : V} (h : Rep w Z μ v x) (hn : x.noSl) : Rep w Z' μ v x := by
  induction h with
  | top => exact .top
  | sc h => exact .sc h
  | nn => exact .nn
  | sl0 => exact .sl0
  | sl f h0 h1 h2 h3 _ => simp only [V.noSl] at hn; subst hn; exact .sl0
  | hd h hv => exact .hd h hv
  | ptr h => exact .ptr h
  | ept h hv hi => exact .ept h hv hi
  | ro f h1 h2 _ => exact hn.elim
  | agg hl ho _ ih => exact .agg hl ho (fun j h h' => ih j h h' (Wu hn j h))
  | tup hl _ ih => exact .tup hl (fun j h h' => ih j h h' (Wu hn j h))
  | clo hl _ ih => exact .clo hl (fun j h h' => ih j h h' (Wu hn j h))
  | clm hl _ ih => exact .clm hl (fun j h h' => ih j h h' (Wu hn j h))
section
variable {C : Ctx} {w : World} {Z : Nat → Nat → Prop} {μ : Nat → Option Cn} {o : Nat → Option Ob} {b : Nat}
theorem nodup_getElem? : ∀ {l : List Nat}, l.Nodup → ∀ {i j a : Nat}, l[i]? = some a → l[j]? = some a → i = j
  | [], _, i, j, a, hi, _ => by simp at hi
  | c :: l, h, i, j, a, hi, hj => by
    obtain ⟨h1, h2⟩ := List.nodup_cons.1 h
    cases i with
    | zero =>
      simp only [List.getElem?_cons_zero, Option.some.injEq] at hi
      subst hi
      cases j with
      | zero => rfl
      | succ j =>
        simp only [List.getElem?_cons_succ] at hj
        exact (h1 (List.mem_of_getElem? hj)).elim
    | succ i =>
      simp only [List.getElem?_cons_succ] at hi
      cases j with
      | zero =>
        simp only [List.getElem?_cons_zero, Option.some.injEq] at hj
        subst hj
        exact (h1 (List.mem_of_getElem? hi)).elim
      | succ j =>
        simp only [List.getElem?_cons_succ] at hj
        rw [nodup_getElem? h2 hi hj]
theorem vf (hg : Good C w Z μ o) {br : List Nat} {B : Option (List Nat)} {ins : List Ob} (hkn : ∀ b x, C.kn b = some x → w.heap[b]? = some x ∧ ¬ Fb o μ br b) (hn : br.Nodup) (hl : vm o br B br ins) :
    Good { P := C.P, w0 := w, Z0 := Zc Z o μ br B, F := Fb o μ br, m := ins.length, μ0 := βc μ br, kn := C.kn, mix := C.mix, hkn := hkn } w (Zc Z o μ br B) (βc μ br) (fun k => ins[k]?) ∧
      (∀ b, Fb o μ br b → ∃ k x c, ins[k]? = some x ∧ βc μ br k = some c ∧ x.live c ∧ c.block = b) ∧ ∀ k, ins.length ≤ k → βc μ br k = none := by
  obtain ⟨hlen, hget⟩ := qh hl
  have kth : ∀ k y, ins[k]? = some y → ∃ a x c, br[k]? = some a ∧ o a = some x ∧ μ a = some c ∧ βc μ br k = some c ∧ wX o br B x y ∧ Up w Z μ c x ∧ (x.live c → c.block < w.heap.size) := by
    intro k y hy
    obtain ⟨hk, _⟩ := List.getElem?_eq_some_iff.1 hy
    have hk' : k < br.length := by omega
    obtain ⟨x, hx, hc⟩ := hget k br[k] y (List.getElem?_eq_getElem hk') hy
    obtain ⟨c, hm, hok, hlv⟩ := hg.ob _ _ hx
    exact ⟨br[k], x, c, List.getElem?_eq_getElem hk', hx, hm, by simp [βc, hk', hm], hc, hok, fun h => (hlv h).1⟩
  have livex : ∀ x y c, wX o br B x y → (x.live c ↔ y.live c) := by
    intro x
    induction x with
    | typ T x ih =>
      intro y c h
      cases y with
      | typ T' y => exact ih y c h.2
      | _ => exact False.elim h
    | dead => intro y c h; cases y <;> exact False.elim h
    | box wr cs => intro y c h; cases wr <;> cases y <;> first | exact False.elim h | exact Iff.rfl
    | buf wr s xs => intro y c h; cases wr <;> cases y <;> first | exact False.elim h | exact Iff.rfl
    | obuf wr s xs => intro y c h; cases wr <;> cases y <;> first | exact False.elim h | exact Iff.rfl
  have noZ : ∀ a x c, a ∈ br → o a = some x → μ a = some c → x.live c → (∀ i, ¬ Z c.block i) → ∀ i, ¬ Zc Z o μ br B c.block i := by
    intro a x c ha hx hm hlv hz i h
    rcases h with h | ⟨a', x', c', _, hnb, hx', hm', hlv', hb', _⟩
    · exact hz i h
    · exact hg.sep a a' x x' c c' (fun e => hnb (e ▸ ha)) hx hx' hm hm' hlv hlv' hb'.symm
  refine ⟨⟨fun k y hy => ?_, fun k k' y y' c c' hkk hy hy' hc hc' hlv hlv' => ?_, fun b i h => ?_, Nat.le_refl _, fun _ _ _ => rfl, fun b i h => .inl h, fun _ _ h => h, fun _ _ _ => rfl, fun _ _ => rfl, V7.refl _⟩, fun b hb => ?_, fun k hk => ?_⟩
  · obtain ⟨a, x, c, ha, hx, hm, hβ, hc, hok, hlv⟩ := kth k y hy
    refine ⟨c, hβ, ?_, fun hly => ⟨hlv ((livex x y c hc).2 hly), .inr ⟨a, List.mem_of_getElem? ha, x, c, hx, hm, (livex x y c hc).2 hly, rfl⟩⟩⟩
    have ha' := List.mem_of_getElem? ha
    have hnz : x.live c → (∀ i, ¬ Z c.block i) → ∀ i, ¬ Zc Z o μ br B c.block i := fun hl => noZ a _ c ha' hx hm hl
    clear hx hlv
    clear hy
    induction x generalizing y with
    | dead => cases y <;> exact False.elim hc
    | typ T x ih =>
      cases y with
      | typ T' y =>
        replace hc : T = T' ∧ wX o br B x y := hc
        obtain ⟨rfl, hc⟩ := hc
        exact ⟨ih y hc hok.1 hnz, hok.2.1, fun hl => hok.2.2 ((livex x y c hc).2 hl)⟩
      | _ => exact False.elim hc
    | box wr cs =>
      cases wr <;> cases y <;> try exact False.elim hc
      rename_i wr' es
      cases wr' <;> try exact False.elim hc
      replace hc : Jc o br B cs es := hc
      obtain ⟨hvo, ⟨vs, ty, hb, hs, hr⟩, hz⟩ := hok
      have hlc := JD hc
      exact ⟨hvo, ⟨vs, ty, hb, by omega, fun j h h' => ⟨WV hg br B _ _ _ _ (Nat.le_refl _) (hr j (by omega) h').1 (XA hc j (by omega) h), (hr j (by omega) h').2⟩⟩,
        fun _ => hnz trivial (hz rfl)⟩
    | buf wr s xs =>
      cases wr <;> cases y <;> try exact False.elim hc
      rename_i wr' s' ys
      cases wr' <;> try exact False.elim hc
      replace hc : s = s' ∧ xs = ys := hc
      obtain ⟨rfl, rfl⟩ := hc
      refine ⟨hok.1, fun hv => ?_⟩
      obtain ⟨h0, h1, h2, h3, h4, cs, ty, fr, h5, h6, h7, h8⟩ := hok.2 hv
      have nz := hnz hv (h2 rfl)
      refine ⟨h0, h1, fun _ => nz, fun i h => (nz i h).elim, h4, cs, ty, fr, h5, h6, h7, fun i hi j hj => ?_⟩
      obtain ⟨u, e1, e2, e3⟩ := h8 i hi j hj
      exact ⟨u, e1, e2, e3.mono (fun _ _ _ => rfl) (fun _ _ h => .inl h) (fun _ _ h => h)⟩
    | obuf wr s xs =>
      cases wr <;> cases y <;> try exact False.elim hc
      rename_i wr' s' ys
      cases wr' <;> try exact False.elim hc
      replace hc : s = s' ∧ qX o br B xs ys := hc
      obtain ⟨rfl, hc⟩ := hc
      obtain ⟨hlc, hce⟩ := qW hc
      refine ⟨by have := hok.1; omega, fun hv => ?_⟩
      obtain ⟨h0, h1, h2, h3, h4, cs, ty, fr, h5, h6, h7, h8⟩ := hok.2 hv
      have nz := hnz hv (h2 rfl)
      have hcc : ∀ i (hi : i < ys.length), ys[i].cells.length = s := fun i hi => by
        rw [← JD (hce i (by omega) hi)]; exact h4 i (by omega)
      refine ⟨h0, h1, fun _ => nz, fun i h => (nz i h).elim, hcc, cs, ty, fr, h5, h6, h7, fun i hi j hj => ?_⟩
      have h4i := h4 i (by omega)
      have hci := hcc i hi
      obtain ⟨u, e1, e2, e3⟩ := h8 i (by omega) j (by omega)
      exact ⟨u, e1, e2, WV hg br B _ _ _ _ (Nat.le_refl _) e3 (XA (hce i (by omega) hi) j (by omega) hj)⟩
  · obtain ⟨a, x, c1, ha, hx, hm, hβ, hcv, _, _⟩ := kth k y hy
    obtain ⟨a', x', c1', ha', hx', hm', hβ', hcv', _, _⟩ := kth k' y' hy'
    have e1 := hβ.symm.trans hc
    have e2 := hβ'.symm.trans hc'
    cases e1; cases e2
    refine hg.sep a a' x x' c c' (fun e => hkk (nodup_getElem? hn ha (e ▸ ha'))) hx hx' hm hm' ((livex x y _ hcv).2 hlv) ((livex x' y' _ hcv').2 hlv')
  · rcases h with h | ⟨a, x, c, _, _, hx, hm, hlv, rfl, _⟩
    · exact hg.zlt b i h
    · obtain ⟨c', hm', _, hl'⟩ := hg.ob a x hx
      rw [hm] at hm'; cases hm'
      exact (hl' hlv).1
  · obtain ⟨a, ha, x, c, hx, hm, hlv, rfl⟩ := hb
    obtain ⟨k, hk, rfl⟩ := List.getElem_of_mem ha
    obtain ⟨x', hx', hcv⟩ := hget k br[k] ins[k] (List.getElem?_eq_getElem hk) (List.getElem?_eq_getElem (by omega))
    rw [hx] at hx'; cases hx'
    exact ⟨k, ins[k], c, List.getElem?_eq_getElem (by omega), by simp [βc, hk, hm], (livex x _ c hcv).1 hlv, rfl⟩
  · simp [βc, List.getElem?_eq_none (show br.length ≤ k by omega)]
def Vk (μ μ' : Nat → Option Cn) (m n b : Nat) (x : Nat) : Option Cn := if b ≤ x ∧ x < b + (n - m) then μ' (m + (x - b)) else μ x
theorem yY (hg : Good C w Z μ o) {br : List Nat} {B : Option (List Nat)} {ins outs : List Ob} (hkn : ∀ b x, C.kn b = some x → w.heap[b]? = some x ∧ ¬ Fb o μ br b) (hf : ∀ x, b ≤ x → x < b + KK → μ x = none) (hmb : C.m ≤ b) (hbl : ∀ x ∈ br, x < b) (hn : br.Nodup) (hl : br.length = ins.length)
    (hio : ins.length ≤ outs.length) (hK : outs.length - ins.length < KK) {w' : World} {Z' Zn : Nat → Nat → Prop} {μ' : Nat → Option Cn}
    (hc : Good { P := C.P, w0 := w, Z0 := Zc Z o μ br B, F := Fb o μ br, m := ins.length, μ0 := βc μ br, kn := C.kn, mix := C.mix, hkn := hkn } w' Z' μ' (fun k => outs[k]?)) (hend : ∀ k, outs.length ≤ k → μ' k = none)
    (z1 : ∀ b i, Z b i → Zn b i) (z2 : ∀ b i, Zn b i → Z b i ∨ (B ≠ none ∧ ∃ a x c, okB B a ∧ a ∉ br ∧ o a = some x ∧ μ a = some c ∧ x.live c ∧ c.block = b ∧ xb c x i) ∨ w.heap.size ≤ b ∨ Fb o μ br b)
    (z3 : ∀ b i, Zn b i → b < w'.heap.size) (hob : ∀ k x c, outs[k]? = some x → μ' k = some c → Up w' Z' μ' c x → Up w' Zn μ' c x) :
    Good C w' Zn (Vk μ μ' ins.length outs.length b) (YL (sig br b) b br outs (KB B br o)) ∧ (∀ k c, μ' k = some c → Vk μ μ' ins.length outs.length b (sig br b k) = some c) ∧
      (∀ a c, μ a = some c → Vk μ μ' ins.length outs.length b a = some c) ∧ (∀ b i, Z b i → w'.cell? ⟨b, i, none⟩ = w.cell? ⟨b, i, none⟩) ∧ ∀ a, a < b ∨ b + KK ≤ a → Vk μ μ' ins.length outs.length b a = μ a := by
  have hmu : ∀ a c, μ a = some c → Vk μ μ' ins.length outs.length b a = some c := by
    intro a c h
    unfold Vk
    rw [if_neg]
    · exact h
    · rintro ⟨h1, h2⟩; rw [hf a h1 (by omega)] at h; cases h
  have hsig : ∀ k c, μ' k = some c → Vk μ μ' ins.length outs.length b (sig br b k) = some c := by
    intro k c h
    by_cases hk : k < ins.length
    · have h1 := hc.fix k hk
      simp only at h1
      rw [h1] at h
      have hk' : k < br.length := by omega
      have e : sig br b k = br[k] := by simp [sig, hk']
      rw [e]
      refine hmu _ _ ?_
      simpa [βc, hk'] using h
    · have hk2 : k < outs.length := by
        rcases Nat.lt_or_ge k outs.length with h' | h'
        · exact h'
        · rw [hend k h'] at h; cases h
      have e : sig br b k = b + (k - ins.length) := by simp [sig, List.getElem?_eq_none (show br.length ≤ k by omega), hl]
      rw [e]
      unfold Vk
      rw [if_pos ⟨by omega, by omega⟩, show ins.length + (b + (k - ins.length) - b) = k by omega]
      exact h
  have hcell : ∀ b i, Z b i → w'.cell? ⟨b, i, none⟩ = w.cell? ⟨b, i, none⟩ := fun b i h => hc.zkeep b i (.inl h)
  have hblk : ∀ bb, bb < w.heap.size → ¬ Fb o μ br bb → w'.heap[bb]? = w.heap[bb]? := hc.frame
  have notF : ∀ a x c, a ∉ br → o a = some x → μ a = some c → x.live c → ¬ Fb o μ br c.block := by
    rintro a x c ha hx hm hlv ⟨a', ha', x', c', hx', hm', hlv', e⟩
    exact hg.sep a' a x' x c' c (fun e => ha (e ▸ ha')) hx' hx hm' hm hlv' hlv e
  have frz_live : ∀ x c, (Ob.frz x).live c ↔ x.live c := by
    intro x c
    induction x with
    | typ T x ih => exact ih
    | _ => rfl
  have old : ∀ a y, a ∉ br → KB B br o a = some y → ∃ x c, o a = some x ∧ μ a = some c ∧ (y.live c ↔ x.live c) ∧ Up w' Zn (Vk μ μ' ins.length outs.length b) c y := by
    intro a y ha hy
    have hx : ∃ x, o a = some x ∧ (y = x ∧ (∀ l, B = some l → a ∉ l) ∨ y = x.frz ∧ ∃ l, B = some l ∧ a ∈ l) := by
      cases B with
      | none => exact ⟨y, hy, .inl ⟨rfl, fun l h => by cases h⟩⟩
      | some l =>
        simp only [KB] at hy
        split at hy
        · rename_i h1
          simp only [Option.map_eq_some_iff] at hy
          obtain ⟨x, hx, rfl⟩ := hy
          exact ⟨x, hx, .inr ⟨rfl, l, rfl, h1.1⟩⟩
        · rename_i h1
          exact ⟨y, hy, .inl ⟨rfl, fun l' h hm => by cases h; exact h1 ⟨hm, ha⟩⟩⟩
    obtain ⟨x, hx, hcase⟩ := hx
    obtain ⟨c, hm, hok, hlv⟩ := hg.ob a x hx
    have hzn : x.live c → ∀ i, Zn c.block i → Z c.block i ∨ (∃ l, B = some l ∧ a ∈ l) ∧ xb c x i := by
      intro hl1 i hz
      rcases z2 _ _ hz with h | ⟨hB, a', x', c', hok', hnb, hx', hm', hlv', hbe, hsh⟩ | h | h
      · exact .inl h
      · by_cases haa : a' = a
        · subst haa
          rw [hx] at hx'; cases hx'
          rw [hm] at hm'; cases hm'
          cases B with
          | none => exact (hB rfl).elim
          | some l => exact .inr ⟨⟨l, rfl, hok'⟩, hsh⟩
        · exact (hg.sep a' a x' x c' c haa hx' hx hm' hm hlv' hl1 hbe).elim
      · have := (hlv hl1).1; omega
      · exact (notF a x c ha hx hm hl1 h).elim
    have hkeep : x.live c → w'.heap[c.block]? = w.heap[c.block]? := fun hl1 => hblk _ (hlv hl1).1 (notF a x c ha hx hm hl1)
    refine ⟨x, c, hx, hm, ?_, ?_⟩
    · rcases hcase with ⟨rfl, _⟩ | ⟨rfl, _⟩
      · exact Iff.rfl
      · exact frz_live x c
    · suffices key : ∀ x : Ob, Up w Z μ c x → (x.live c → ∀ i, Zn c.block i → Z c.block i ∨ (∃ l, B = some l ∧ a ∈ l) ∧ xb c x i) → (x.live c → w'.heap[c.block]? = w.heap[c.block]?) →
          ((∀ l, B = some l → a ∉ l) → Up w' Zn (Vk μ μ' ins.length outs.length b) c x) ∧ ((∃ l, B = some l ∧ a ∈ l) → Up w' Zn (Vk μ μ' ins.length outs.length b) c x.frz) by
        rcases hcase with ⟨rfl, h⟩ | ⟨rfl, h⟩
        · exact (key _ hok hzn hkeep).1 h
        · exact (key _ hok hzn hkeep).2 h
      clear hcase hok hlv hzn hkeep hx hy
      intro x
      induction x with
      | dead => intro _ _ _; exact ⟨fun _ => trivial, fun _ => trivial⟩
      | typ T x ih =>
        intro hok hzn hkeep
        obtain ⟨i1, i2⟩ := ih hok.1 hzn hkeep
        exact ⟨fun h => ⟨i1 h, hok.2.1, fun hl => by obtain ⟨cs, fr, e⟩ := hok.2.2 hl; exact ⟨cs, fr, (hkeep hl).trans e⟩⟩, i2⟩
      | box wr cells =>
        intro hok hzn hkeep
        obtain ⟨hvo, ⟨cs, ty, hb, hs, hr⟩, hz⟩ := hok
        have base : (∃ cs ty, w'.heap[c.block]? = some (.cells cs ty (0, 0)) ∧ cs.size = cells.length ∧ (∀ j (h : j < cells.length) (h' : j < cs.size), Rep w' Zn (Vk μ μ' ins.length outs.length b) cs[j] cells[j] ∧ cs[j].oneCell' = true)) :=
          ⟨cs, ty, (hkeep trivial).trans hb, hs, fun j h h' => ⟨(hr j h h').1.mono hcell z1 hmu, (hr j h h').2⟩⟩
        refine ⟨fun hnl => ⟨hvo, base, fun hwr i hzi => ?_⟩, fun _ => ⟨hvo, base, fun h => by cases h⟩⟩
        rcases hzn trivial i hzi with h | ⟨⟨l, h1, h2⟩, _⟩
        · exact hz hwr i h
        · exact hnl l h1 h2
      | buf wr sz xs =>
        intro hok hzn hkeep
        have base : ∀ wr', (wr' = true → wr = true ∧ ∀ l, B = some l → a ∉ l) → Up w' Zn (Vk μ μ' ins.length outs.length b) c (.buf wr' sz xs) := by
          intro wr' hwr'
          refine ⟨hok.1, fun hv => ?_⟩
          obtain ⟨h0, h1, h2, h3, h4, cs, ty, fr, h5, h6, h7, h8⟩ := hok.2 hv
          refine ⟨h0, h1, fun hw i hzi => ?_, fun i hzi => ?_, h4, cs, ty, fr, (hkeep hv).trans h5, h6, h7, fun i hi j hj => ?_⟩
          · rcases hzn hv i hzi with h | ⟨⟨l, e1, e2⟩, _⟩
            · exact h2 (hwr' hw).1 i h
            · exact (hwr' hw).2 l e1 e2
          · rcases hzn hv i hzi with h | ⟨_, h⟩
            · exact h3 i h
            · exact h
          · obtain ⟨u, e1, e2, e3⟩ := h8 i hi j hj
            exact ⟨u, e1, e2, e3.mono hcell z1 (fun _ _ h => h)⟩
        exact ⟨fun hnl => base wr (fun h => ⟨h, hnl⟩), fun _ => base false (fun h => by cases h)⟩
      | obuf wr sz xs =>
        intro hok hzn hkeep
        have base : ∀ wr', (wr' = true → wr = true ∧ ∀ l, B = some l → a ∉ l) → Up w' Zn (Vk μ μ' ins.length outs.length b) c (.obuf wr' sz xs) := by
          intro wr' hwr'
          refine ⟨hok.1, fun hv => ?_⟩
          obtain ⟨h0, h1, h2, h3, h4, cs, ty, fr, h5, h6, h7, h8⟩ := hok.2 hv
          refine ⟨h0, h1, fun hw i hzi => ?_, fun i hzi => ?_, h4, cs, ty, fr, (hkeep hv).trans h5, h6, h7, fun i hi j hj => ?_⟩
          · rcases hzn hv i hzi with h | ⟨⟨l, e1, e2⟩, _⟩
            · exact h2 (hwr' hw).1 i h
            · exact (hwr' hw).2 l e1 e2
          · rcases hzn hv i hzi with h | ⟨_, h⟩
            · exact h3 i h
            · exact h
          · obtain ⟨u, e1, e2, e3⟩ := h8 i hi j hj
            exact ⟨u, e1, e2, e3.mono hcell z1 hmu⟩
        exact ⟨fun hnl => base wr (fun h => ⟨h, hnl⟩), fun _ => base false (fun h => by cases h)⟩
  have new : ∀ k x, outs[k]? = some x → ∃ c, μ' k = some c ∧ Vk μ μ' ins.length outs.length b (sig br b k) = some c ∧ Up w' Zn (Vk μ μ' ins.length outs.length b) c (x.ren (sig br b)) ∧
      (x.live c → c.block < w'.heap.size ∧ (w.heap.size ≤ c.block ∨ Fb o μ br c.block)) := by
    intro k x hx
    obtain ⟨c, hm, hok, hlv⟩ := hc.ob k x hx
    exact ⟨c, hm, hsig k c hm, (hob k x c hx hm hok).ren hsig, hlv⟩
  have sigBr : ∀ k a, br[k]? = some a → sig br b k = a := fun k a h => by simp [sig, h]
  have sigNew : ∀ j, sig br b (br.length + j) = b + j := fun j => by simp [sig]
  have hFown : ∀ bb, Fb o μ br bb → C.w0.heap.size ≤ bb ∨ C.F bb := by
    rintro bb ⟨a, _, x, c, hx, hm, hlv, rfl⟩
    obtain ⟨c', hm', _, hl'⟩ := hg.ob a x hx
    rw [hm] at hm'; cases hm'
    exact (hl' hlv).2
  have all : ∀ a y, YL (sig br b) b br outs (KB B br o) a = some y →
      (∃ k x, sig br b k = a ∧ outs[k]? = some x ∧ y = x.ren (sig br b)) ∨ (a ∉ br ∧ ¬ (b ≤ a ∧ a < b + (outs.length - br.length)) ∧ KB B br o a = some y) := by
    intro a y h
    rcases qA (sig br b) b br outs (KB B br o) a (by omega) hbl hn with ⟨k, x, h1, h2, h3⟩ | ⟨_, j, x, h1, h2, h3⟩ | ⟨h1, h2, h3⟩
    · rw [h3] at h; cases h
      exact .inl ⟨k, x, sigBr k a h1, h2, rfl⟩
    · rw [h3] at h; cases h
      exact .inl ⟨br.length + j, x, by rw [sigNew, h1], h2, rfl⟩
    · rw [h2] at h
      exact .inr ⟨h1, h3, h⟩
  refine ⟨⟨fun a y ha => ?_, fun a a' y y' c c' haa hy hy' hm hm' hlv hlv' => ?_, z3, Nat.le_trans hg.grow hc.grow, fun bb hbb hF => ?_, fun bb i hz => ?_, fun bb i h => z1 _ _ (hg.zsup _ _ h), fun bb i h => ?_, fun k hk => ?_, hg.oo.trans hc.oo⟩, hsig, hmu, hcell, fun a ha => ?_⟩
  · rcases all a y ha with ⟨k, x, rfl, hx, rfl⟩ | ⟨h1, _, h3⟩
    · obtain ⟨c, _, h2, h3, h4⟩ := new k x hx
      refine ⟨c, h2, h3, fun hlv => ?_⟩
      obtain ⟨h5, h6⟩ := h4 (Uj.1 hlv)
      refine ⟨h5, ?_⟩
      rcases h6 with h6 | h6
      · exact .inl (Nat.le_trans hg.grow h6)
      · exact hFown _ h6
    · obtain ⟨x, c, hx, hm, hlv, hok⟩ := old a y h1 h3
      obtain ⟨c', hm', _, hl'⟩ := hg.ob a x hx
      rw [hm] at hm'; cases hm'
      exact ⟨c, hmu _ _ hm, hok, fun h => ⟨Nat.lt_of_lt_of_le (hl' (hlv.1 h)).1 hc.grow, (hl' (hlv.1 h)).2⟩⟩
  · have mixed : ∀ k x a y' c c', outs[k]? = some x → μ' k = some c → x.live c → a ∉ br → KB B br o a = some y' → Vk μ μ' ins.length outs.length b a = some c' → y'.live c' → c.block ≠ c'.block := by
      intro k x a y' c c' hx hmk hlx ha hy' hm' hly' e
      obtain ⟨x', c1, hx', hm1, hlv1, _⟩ := old a y' ha hy'
      rw [hmu _ _ hm1] at hm'; cases hm'
      obtain ⟨c2, hm2, _, hl2⟩ := hg.ob a x' hx'
      rw [hm1] at hm2; cases hm2
      obtain ⟨c3, hm3, _, hl3⟩ := hc.ob k x hx
      rw [hmk] at hm3; cases hm3
      rcases (hl3 hlx).2 with h | h
      · have := (hl2 (hlv1.1 hly')).1
        simp only at h; omega
      · rw [e] at h; exact notF a x' _ ha hx' hm1 (hlv1.1 hly') h
    rcases all a y hy with ⟨k, x, rfl, hx, rfl⟩ | ⟨h1, _, h3⟩
    · obtain ⟨c1, e1, e2, _, _⟩ := new k x hx
      rw [hm] at e2; cases e2
      rcases all a' y' hy' with ⟨k', x', rfl, hx', rfl⟩ | ⟨h1', _, h3'⟩
      · obtain ⟨c1', e1', e2', _, _⟩ := new k' x' hx'
        rw [hm'] at e2'; cases e2'
        exact hc.sep k k' x x' c c' (fun e => haa (by rw [e])) hx hx' e1 e1' (Uj.1 hlv) (Uj.1 hlv')
      · exact mixed k x a' y' c c' hx e1 (Uj.1 hlv) h1' h3' hm' hlv'
    · rcases all a' y' hy' with ⟨k', x', rfl, hx', rfl⟩ | ⟨h1', _, h3'⟩
      · obtain ⟨c1', e1', e2', _, _⟩ := new k' x' hx'
        rw [hm'] at e2'; cases e2'
        exact fun e => mixed k' x' a y c' c hx' e1' (Uj.1 hlv') h1 h3 hm hlv e.symm
      · obtain ⟨x, c1, hx, hm1, hl1, _⟩ := old a y h1 h3
        obtain ⟨x', c1', hx', hm1', hl1', _⟩ := old a' y' h1' h3'
        rw [hmu _ _ hm1] at hm; cases hm
        rw [hmu _ _ hm1'] at hm'; cases hm'
        exact hg.sep a a' x x' _ _ haa hx hx' hm1 hm1' (hl1.1 hlv) (hl1'.1 hlv')
  · rw [hblk bb (Nat.lt_of_lt_of_le hbb hg.grow)]
    · exact hg.frame bb hbb hF
    · intro h
      rcases hFown bb h with h | h
      · omega
      · exact hF h
  · rcases z2 bb i hz with h | ⟨_, a, x, c, _, _, hx, hm, hlv, rfl, _⟩ | h | h
    · exact hg.zsub _ _ h
    · obtain ⟨c', hm', _, hl'⟩ := hg.ob a x hx
      rw [hm] at hm'; cases hm'
      exact .inr (hl' hlv).2
    · exact .inr (.inl (Nat.le_trans hg.grow h))
    · exact .inr (hFown _ h)
  · exact (hcell _ _ (hg.zsup _ _ h)).trans (hg.zkeep _ _ h)
  · unfold Vk
    rw [if_neg (by omega)]; exact hg.fix k hk
  · unfold Vk
    rw [if_neg (by omega)]
end
end Av
end
section
namespace Av
open Go
def V.und : V := .tup []
def isG (v : V) (q : Option Bool) : Prop := match q with | some b => v = .bool b | none => v = V.und
def Uw (Γ : Env) (b : Nat) (s : St) (d : Option Nat) (f : FuncId) (acts : List V) (K : St → Prop) : Prop :=
  ∃ args ins Q br B, EvP Γ f args ins Q ∧ Jc s.o br B acts args ∧ vm s.o br B br ins ∧ br.Nodup ∧ (∀ x ∈ br, x < b) ∧
    ∀ res outs, Q res outs → ins.length ≤ outs.length ∧ outs.length - ins.length < KK ∧ (B = none → res.noSl ∧ ∀ x ∈ outs, x.noSl) ∧
      K { t := (s.put d (res.ren (sig br b))).t, o := YL (sig br b) b br outs (KB B br s.o), n := s.n }
theorem WF {Γ : Env} {b : Nat} {s : St} {d : Option Nat} {f : FuncId} {acts : List V} {K : St → Prop} (h : ∃ args ins res outs br B, Ev Γ f args ins res outs ∧ Jc s.o br B acts args ∧ vm s.o br B br ins ∧ br.Nodup ∧ (∀ x ∈ br, x < b) ∧
    ins.length ≤ outs.length ∧ outs.length - ins.length < KK ∧ (B = none → res.noSl ∧ ∀ x ∈ outs, x.noSl) ∧
    K { t := (s.put d (res.ren (sig br b))).t, o := YL (sig br b) b br outs (KB B br s.o), n := s.n }) : Uw Γ b s d f acts K := by
  obtain ⟨args, ins, res, outs, br, B, hev, hcv, hl, hnd, hlt, hio, hK, hB, hk⟩ := h
  refine ⟨args, ins, _, br, B, hev.p, hcv, hl, hnd, hlt, ?_⟩
  rintro _ _ ⟨rfl, rfl⟩
  exact ⟨hio, hK, hB, hk⟩
def wi (Γ : Env) (b : Nat) (s : St) (d : Option Nat) (aop : AOp) (K : St → Prop) : Prop :=
  match aop with
  | .call f as => Uw Γ b s d f (as.map s.ev) K
  | .callv x as => (match s.ev x with | .clo f cap => Uw Γ b s d f.f (f.args (as.map s.ev) cap) K | _ => False)
  | aop => (sem b s.ev aop).wp s.o fun e => K (s.eff d e)
def VD (Γ : Env) : Nat → List AO → St → (St → Prop) → Prop
  | b, [], s, K => K { s with n := b }
  | b, x :: r, s, K =>
    match x.g with
    | none => wi Γ b s x.d x.op fun s' => VD Γ (b + KK) r s' K
    | some (g, want) => ∃ q, isG (s.t g) q ∧ (q = some want → wi Γ b s x.d x.op fun s' => VD Γ (b + KK) r s' K) ∧ (q ≠ some want → VD Γ (b + KK) r (s.put x.d V.und) K)
def Sim (C : Ctx) (nt : Nat) (n : Nat) (s : St) (a : Act) (w : World) : Prop :=
  ∃ Z μ, Good C w Z μ s.o ∧ (∀ i, Rep w Z μ (a.tmps.getD i undef) (s.t i)) ∧ (∀ x, n ≤ x → μ x = none) ∧ C.m ≤ n ∧ a.defers = [] ∧ a.tmps.size = nt
def yk (C : Ctx) (nt : Nat) (U : Nat → Prop) (s : St) (a : Act) (w : World) : Prop :=
  ∃ Z μ, Good C w Z μ s.o ∧ (∀ i, Rep w Z μ (a.tmps.getD i undef) (s.t i)) ∧ (∀ x, ¬ U x → μ x = none) ∧ a.defers = [] ∧ a.tmps.size = nt
theorem Sim.toU {C : Ctx} {nt n : Nat} {s : St} {a : Act} {w : World} (h : Sim C nt n s a w) : yk C nt (fun x => x < n) s a w := by
  obtain ⟨Z, μ, hg, ht, hf, hm, hd, hn⟩ := h
  exact ⟨Z, μ, hg, ht, fun x hx => hf x (by omega), hd, hn⟩
theorem yk.toSim {C : Ctx} {nt n : Nat} {U : Nat → Prop} {s : St} {a : Act} {w : World} (h : yk C nt U s a w) (hU : ∀ x, U x → x < n) (hm : C.m ≤ n) : Sim C nt n s a w := by
  obtain ⟨Z, μ, hg, ht, hf, hd, hn⟩ := h
  exact ⟨Z, μ, hg, ht, fun x hx => hf x (fun hu => by have := hU x hu; omega), hm, hd, hn⟩
theorem yk.mono {C : Ctx} {nt : Nat} {U U' : Nat → Prop} {s : St} {a : Act} {w : World} (h : yk C nt U s a w) (hU : ∀ x, U x → U' x) : yk C nt U' s a w := by
  obtain ⟨Z, μ, hg, ht, hf, hd, hn⟩ := h
  exact ⟨Z, μ, hg, ht, fun x hx => hf x (fun hu => hx (hU x hu)), hd, hn⟩
theorem xd {w : World} {Z : Nat → Nat → Prop} {μ : Nat → Option Cn} {a : Act} {s : St} (h : ∀ i, Rep w Z μ (a.tmps.getD i undef) (s.t i)) {nt : Nat} (hn : a.tmps.size = nt) {d : Option Nat} (hd : ∀ k, d = some k → k < nt) {v : Value} {x : V} (hv : Rep w Z μ v x) :
    ∀ i, Rep w Z μ ((a.put d v).tmps.getD i undef) ((s.put d x).t i) := by
  intro i
  cases d with
  | none => exact h i
  | some k =>
    have hk := hd k rfl
    simp only [Act.put, St.put]
    by_cases hi : i = k
    · subst hi
      rw [Qh]
      have : (a.tmps.setIfInBounds i v).getD i undef = v := by simp [hn, hk]
      rw [this]; exact hv
    · rw [QI _ _ hi]
      have : (a.tmps.setIfInBounds k v).getD i undef = a.tmps.getD i undef := by
        simp [Array.getElem?_setIfInBounds_ne (Ne.symm hi)]
      rw [this]; exact h i
theorem j1 {a : Act} {d : Option Nat} {v : Value} : (a.put d v).tmps.size = a.tmps.size := by cases d <;> simp [Act.put]
theorem Kr {a : Act} {d : Option Nat} {v : Value} : (a.put d v).defers = a.defers := by cases d <;> rfl
theorem St.put_o {s : St} {d : Option Nat} {x : V} : (s.put d x).o = s.o := by cases d <;> rfl
section
variable {C : Ctx} {nt : Nat}
theorem Sim.step {b : Nat} {U : Nat → Prop} {s : St} {a : Act} {w w' : World} {Z Z' : Nat → Nat → Prop} {μ μ' : Nat → Option Cn} (ht : ∀ i, Rep w Z μ (a.tmps.getD i undef) (s.t i)) (hf : ∀ x, ¬ U x → μ x = none) (hd0 : a.defers = []) (hn : a.tmps.size = nt)
    (he : Evo b KK w Z μ w' Z' μ') {o' : Nat → Option Ob} (hg : Good C w' Z' μ' o') {v : Value} {x : V} (hv : Rep w' Z' μ' v x) {d : Option Nat} (hd : ∀ k, d = some k → k < nt) {nn : Nat} :
    yk C nt (fun x => U x ∨ (b ≤ x ∧ x < b + KK)) { t := (s.put d x).t, o := o', n := nn } (a.put d v) w' := by
  refine ⟨Z', μ', hg, xd (fun i => he.rep (ht i)) hn hd hv, fun y hy => ?_, Kr.trans hd0, j1.trans hn⟩
  rw [he.nw y (by omega)]; exact hf y (fun h => hy (.inl h))
theorem jT {n : Nat} {U : Nat → Prop} {s : St} {a : Act} {w : World} (hs : yk C nt U s a w) (hm : C.m ≤ n) (hfr : ∀ x, n ≤ x → x < n + KK → ¬ U x) {d : Option Nat} (hd : ∀ k, d = some k → k < nt) {f : FuncId} {cargs : Array Value} {acts : List V} {K : St → Prop}
    (hargs : ∀ Z μ, (∀ i, Rep w Z μ (a.tmps.getD i undef) (s.t i)) → cargs.size = acts.length ∧ ∀ i (h : i < acts.length) (h' : i < cargs.size), Rep w Z μ cargs[i] acts[i])
    (h : Uw C.env n s d f acts K) : Yp C.P f cargs w (fun e w' => ∃ v s', e = .returned v ∧ K s' ∧ yk C nt (fun x => U x ∨ (n ≤ x ∧ x < n + KK)) s' (a.put d v) w') := by
  obtain ⟨Z, μ, hg, ht, hf, hd0, hn⟩ := hs
  obtain ⟨hsz, hrep⟩ := hargs Z μ ht
  obtain ⟨args, ins, Q, br, B, hev, hcv, hl, hnd, hlt, hall⟩ := h
  obtain ⟨hlen, _⟩ := qh hl
  have hkn : ∀ b x, C.kn b = some x → w.heap[b]? = some x ∧ ¬ Fb s.o μ br b := by
    intro b x h
    obtain ⟨h1, h2⟩ := C.hkn b x h
    have hlt : b < C.w0.heap.size := (Array.getElem?_eq_some_iff.1 h1).1
    refine ⟨(hg.frame b hlt h2).trans h1, ?_⟩
    rintro ⟨a, _, y, c, hy, hc, hl, rfl⟩
    obtain ⟨c', hc', _, hlv⟩ := hg.ob a y hy
    rw [hc] at hc'; cases hc'
    rcases (hlv hl).2 with h' | h'
    · omega
    · exact h2 h'
  obtain ⟨e1, e2, e3⟩ := vf hg hkn hnd hl
  have hcl := JD hcv
  have := hev { P := C.P, w0 := w, Z0 := Zc Z s.o μ br B, F := Fb s.o μ br, m := ins.length, μ0 := βc μ br, kn := C.kn, mix := C.mix, hkn := hkn } cargs rfl rfl e3 e1 e2 (by omega)
    (fun i h h' => WV hg br B _ _ _ _ (Nat.le_refl _) (hrep i (by omega) h') (XA hcv i (by omega) h))
  have hf' : ∀ x, n ≤ x → x < n + KK → μ x = none := fun x h h' => hf x (hfr x h h')
  have mono : ∀ {e : Ending} {w' : World}, (∃ res outs, Q res outs ∧ ∃ v Z' μ', e = .returned v ∧ Rep w' Z' μ' v res ∧ Good { P := C.P, w0 := w, Z0 := Zc Z s.o μ br B, F := Fb s.o μ br, m := ins.length, μ0 := βc μ br, kn := C.kn, mix := C.mix, hkn := hkn } w' Z' μ' (fun k => outs[k]?) ∧ ∀ k, outs.length ≤ k → μ' k = none) →
      ∃ v s', e = .returned v ∧ K s' ∧ yk C nt (fun x => U x ∨ (n ≤ x ∧ x < n + KK)) s' (a.put d v) w' := by
    rintro e w' ⟨res, outs, hQ, v, Z', μ', rfl, hr, hgc, hend⟩
    obtain ⟨hio, hK, hB, hk⟩ := hall res outs hQ
    refine ⟨v, _, rfl, hk, ?_⟩
    cases hBc : B with
    | none =>
      obtain ⟨hns, hno⟩ := hB hBc
      have hx := yY (Zn := Z) hg hkn hf' hm hlt hnd hlen hio hK hgc hend (fun _ _ h => h) (fun _ _ h => .inl h) (fun b i h => Nat.lt_of_lt_of_le (hg.zlt b i h) hgc.grow) ?_
      · obtain ⟨x1, x2, x3, x4, x5⟩ := hx
        subst hBc
        exact Sim.step ht hf hd0 hn ⟨x4, fun _ _ h => h, x3, x5⟩ x1 ((hr.anyZ hns).ren x2) hd
      · intro k x c hx hmc hok
        have hnx := hno x (List.mem_of_getElem? hx)
        have zz : ∀ b i, Z b i → Z' b i := fun b i h => hgc.zsup b i (.inl h)
        clear hx
        induction x with
        | dead => trivial
        | typ T x ih => exact ⟨ih hok.1 hnx, hok.2⟩
        | box wr cells =>
          obtain ⟨h1, ⟨cs, ty, h2, h3, h4⟩, h5⟩ := hok
          exact ⟨h1, ⟨cs, ty, h2, h3, fun j hj hj' => ⟨(h4 j hj hj').1.anyZ (Wu hnx j hj), (h4 j hj hj').2⟩⟩, fun hw i hz => h5 hw i (zz _ _ hz)⟩
        | buf wr sz xs =>
          refine ⟨hok.1, fun hv => ?_⟩
          obtain ⟨h0, h1, h2, h3, h4, cs, ty, fr, h5, h6, h7, h8⟩ := hok.2 hv
          refine ⟨h0, h1, fun hw i hz => h2 hw i (zz _ _ hz), fun i hz => h3 i (zz _ _ hz), h4, cs, ty, fr, h5, h6, h7, fun i hi j hj => ?_⟩
          obtain ⟨u, q1, q2, q3⟩ := h8 i hi j hj
          exact ⟨u, q1, q2, q3.anyZ (jJ (hnx _ (List.getElem_mem hi)) j hj)⟩
        | obuf wr sz xs =>
          refine ⟨hok.1, fun hv => ?_⟩
          obtain ⟨h0, h1, h2, h3, h4, cs, ty, fr, h5, h6, h7, h8⟩ := hok.2 hv
          refine ⟨h0, h1, fun hw i hz => h2 hw i (zz _ _ hz), fun i hz => h3 i (zz _ _ hz), h4, cs, ty, fr, h5, h6, h7, fun i hi j hj => ?_⟩
          obtain ⟨u, q1, q2, q3⟩ := h8 i hi j hj
          exact ⟨u, q1, q2, q3.anyZ (jJ (hnx _ (List.getElem_mem hi)) j hj)⟩
    | some l =>
      have hx := yY (Zn := Z') hg hkn hf' hm hlt hnd hlen hio hK hgc hend (fun b i h => hgc.zsup b i (.inl h)) ?_ hgc.zlt (fun _ _ _ _ _ h => h)
      · obtain ⟨x1, x2, x3, x4, x5⟩ := hx
        subst hBc
        exact Sim.step ht hf hd0 hn ⟨x4, fun b i h => hgc.zsup b i (.inl h), x3, x5⟩ x1 (hr.ren x2) hd
      · intro b i hz
        rcases hgc.zsub b i hz with (h | ⟨a', x, c, q1, q2, q3, q4, q5, q6, q7⟩) | h | h
        · exact .inl h
        · exact .inr (.inl ⟨by simp [hBc], a', x, c, q1, q2, q3, q4, q5, q6, q7⟩)
        · exact .inr (.inr (.inl h))
        · exact .inr (.inr (.inr h))
  simp only [Yp, Ctx.env] at this ⊢
  split
  · rename_i heq; simp only [heq] at this; exact mono this
  · rename_i heq; simp only [heq] at this; exact Calls.mono this (fun _ _ h => mono h)
  · rename_i heq; simp only [heq] at this; exact Rows.mono this (fun _ _ h => mono h)
  · rename_i x h1 h2 h3
    split at this
    · rename_i heq; exact h1 _ _ heq
    · rename_i heq; exact h2 _ _ _ heq
    · rename_i heq; exact h3 _ _ _ heq
    · exact this
end
end Av
end
section
namespace Av
open Go
section
variable {C : Ctx} {nt : Nat}
theorem qn {P : Program} {o : Oper} {a : Act} {next : Act → World → Prop} {Q : Exit → Act → World → Prop} {f : FuncId} {args : Array Value} {w : World}
    (h : Yp P f args w (fun e w' => ∃ v, e = .returned v ∧ next (a.put o.dst v) w')) : o.upon P a next Q ((callFunc f args).run P w) := by
  unfold Yp at h
  split at h
  · rename_i v w' heq
    obtain ⟨u, hu, hn⟩ := h
    cases hu
    rw [heq]; exact hn
  · rename_i f' args' w' heq
    rw [heq]
    refine Calls.mono h ?_
    rintro e w'' ⟨v, rfl, hn⟩
    exact hn
  · rename_i row args' w' heq
    rw [heq]
    refine Rows.mono h ?_
    rintro e w'' ⟨v, hv, hn⟩
    cases hv
    exact hn
  · exact h.elim
theorem aaG (P : Program) (w : World) (ρ : Operand → Value) (dst : Option Tmp) (x : Operand) (as : Array Operand) (ts : Array TypeId) (ty : TypeId) (pos : String) (after : Array Edge) (guard : Option (Nat × Bool)) (f : FuncId) (cap : Array Value)
    (h : ρ x = .func (.func f) #[] cap) : (execOp ρ { dst, op := .call { callee := .value x, args := as, argTypes := ts }, type := ty, pos, after, guard }).run P w = (callFunc f (as.map ρ ++ cap)).run P w := by
  simp [execOp, resolve, Deferred.ofValue, h, invoke]
def FK.vargs : FK → Array Value → Array Value → Array Value
  | .n _, as, cs => as ++ cs
  | .m _, as, cs => cs ++ as
theorem vu (P : Program) (w : World) (ρ : Operand → Value) (dst : Option Tmp) (x : Operand) (as : Array Operand) (ts : Array TypeId) (ty : TypeId) (pos : String) (after : Array Edge) (guard : Option (Nat × Bool)) (f : FK) (cap : Array Value)
    (h : ρ x = f.val cap) : (execOp ρ { dst, op := .call { callee := .value x, args := as, argTypes := ts }, type := ty, pos, after, guard }).run P w = (callFunc f.f (f.vargs (as.map ρ) cap)).run P w := by
  cases f <;> simp [execOp, resolve, Deferred.ofValue, h, invoke, FK.val, FK.f, FK.vargs]
theorem j3 {w : World} {Z : Nat → Nat → Prop} {μ : Nat → Option Cn} {ρ : Operand → Value} {r : Opd → V} (hρ : ∀ x x', opd x = some x' → Rep w Z μ (ρ x) (r x')) : ∀ {l : List Operand} {as : List Opd}, opds l = some as → l.length = as.length ∧ ∀ i (h : i < as.length) (h' : i < l.length), Rep w Z μ (ρ l[i]) (r as[i])
  | [], as, h => by simp [opds] at h; subst h; exact ⟨rfl, fun i h => by simp at h⟩
  | x :: l, as, h => by
    simp only [opds] at h
    split at h
    · rename_i a b h1 h2
      simp only [Option.some.injEq] at h; subst h
      obtain ⟨e1, e2⟩ := j3 hρ h2
      refine ⟨by simp [e1], fun i hi hi' => ?_⟩
      cases i with
      | zero => exact hρ _ _ h1
      | succ i => simpa using e2 i (by simpa using hi) (by simpa using hi')
    · cases h
theorem wY {P : Program} {op : Op} {ty : TypeId} {aop : AOp} (h : VL P op ty = some aop) (hp : aop.plain = false) :
    ∃ x as ts xs, op = .call { callee := .value x, args := as, argTypes := ts } ∧ opds as.toList = some xs ∧ ((∃ f, x = .func f ∧ aop = .call f xs) ∨ ∃ y, opd x = some y ∧ aop = .callv y xs) := by
  cases op
  case call c =>
    obtain ⟨callee, as, ts⟩ := c
    cases callee with
    | value x =>
      cases hx : opds as.toList with
      | none => simp [VL, hx] at h
      | some xs =>
        cases x with
        | func f =>
          simp only [VL, hx, Option.some.injEq] at h; subst h
          exact ⟨_, as, ts, xs, rfl, hx, .inl ⟨f, rfl, rfl⟩⟩
        | _ =>
          simp only [VL, hx, Option.map_eq_some_iff] at h
          obtain ⟨y, hy, rfl⟩ := h
          exact ⟨_, as, ts, xs, rfl, hx, .inr ⟨y, hy, rfl⟩⟩
    | builtin bi =>
      exfalso
      simp only [VL] at h
      repeat' split at h
      all_goals first
        | (cases h; done)
        | (simp only [Option.some.injEq] at h; subst h; simp [AOp.plain] at hp; done)
        | (simp only [Option.map_eq_some_iff] at h; obtain ⟨_, _, rfl⟩ := h; simp [AOp.plain] at hp; done)
        | simp_all
    | invoke r m =>
      exfalso
      simp only [VL] at h
      repeat' split at h
      all_goals simp_all
  case makeFunc fn fi ca =>
    exfalso
    cases fn <;> simp only [VL] at h
    all_goals
      repeat' split at h
    all_goals first
      | (cases h; done)
      | (simp only [Option.map_eq_some_iff] at h; obtain ⟨_, _, rfl⟩ := h; simp [AOp.plain] at hp; done)
  all_goals
    exfalso
    simp only [VL] at h
    repeat' split at h
    all_goals first
      | (cases h; done)
      | (simp only [Option.some.injEq] at h; subst h; simp [AOp.plain] at hp; done)
      | (simp only [Option.map_eq_some_iff] at h; obtain ⟨_, _, rfl⟩ := h; simp [AOp.plain] at hp; done)
theorem abw {n : Nat} {U : Nat → Prop} {s : St} {a : Act} {w : World} (hs : yk C nt U s a w) (hm : C.m ≤ n) (hfr : ∀ x, n ≤ x → x < n + KK → ¬ U x) {o : Oper} {aop : AOp} (hd : ∀ k, o.dst = some k → k < nt) (hc : VL C.P o.op o.type = some aop) {K : St → Prop} {next : Act → World → Prop} {Q : Exit → Act → World → Prop}
    (h : wi C.env n s o.dst aop K) (hk : ∀ s' a' w', K s' → yk C nt (fun x => U x ∨ (n ≤ x ∧ x < n + KK)) s' a' w' → next a' w') : o.wp C.P a w next Q := by
  by_cases hp : aop.plain = true
  · have h' : (sem n s.ev aop).wp s.o fun e => K (s.eff o.dst e) := by
      cases aop <;> first | exact h | simp [AOp.plain] at hp
    obtain ⟨Z, μ, hg, ht, hf, hd0, hn⟩ := hs
    obtain ⟨e, v, w', Z', μ', e1, e2, e3, e4, e5⟩ := aaX hg (fun x h h' => hf x (hfr x h h')) hm ht hc hp _ h'
    have hs' := Sim.step (nn := s.n) ht hf hd0 hn e5 e4 e3 hd
    have he : ({ t := (s.put o.dst e.v).t, o := Uh s.o e.os, n := s.n } : St) = s.eff o.dst e := by
      cases hdst : o.dst <;> simp [St.eff, St.put]
    rw [he] at hs'
    unfold Oper.wp
    rcases e1 with h1 | ⟨h1, rfl⟩
    · rw [h1]; exact hk _ _ _ e2 hs'
    · rw [h1]; exact hk _ _ _ e2 hs'
  · obtain ⟨x, as, ts, xs, hop, hxs, hcase⟩ := wY hc (by simpa using hp)
    obtain ⟨dst, op, ty, pos, after, guard⟩ := o
    simp only at hop hd h hc ⊢
    subst hop
    unfold Oper.wp
    have hrep : ∀ Z μ, (∀ i, Rep w Z μ (a.tmps.getD i undef) (s.t i)) → ∀ x x', opd x = some x' → Rep w Z μ (a.eval x) (s.ev x') := fun Z μ ht => yc ht
    rcases hcase with ⟨f, rfl, rfl⟩ | ⟨y, hy, rfl⟩
    · rw [aaG C.P w a.eval dst (.func f) as ts ty pos after guard f #[] rfl]
      refine qn ?_
      have := jT (cargs := as.map a.eval ++ #[]) hs hm hfr hd (fun Z μ ht => ?_) h
      · unfold Yp at this ⊢
        split at this
        · obtain ⟨v, s', h1, h2, h3⟩ := this; exact ⟨v, h1, hk _ _ _ h2 h3⟩
        · exact Calls.mono this (fun e w' ⟨v, s', h1, h2, h3⟩ => ⟨v, h1, hk _ _ _ h2 h3⟩)
        · exact Rows.mono this (fun e w' ⟨v, s', h1, h2, h3⟩ => ⟨v, h1, hk _ _ _ h2 h3⟩)
        · exact this
      · obtain ⟨l1, l2⟩ := j3 (hrep Z μ ht) hxs
        simp only [Array.length_toList] at l1
        refine ⟨by simp [l1], fun i h h' => ?_⟩
        have := l2 i (by simpa using h) (by simp at h; simp; omega)
        simpa using this
    · simp only [wi] at h
      split at h
      · rename_i f cap hev
        obtain ⟨Z, μ, hg, ht, hf, hd0, hn⟩ := hs
        have hx := hrep Z μ ht x y hy
        rw [hev] at hx
        obtain ⟨cs, hxv, _, _⟩ := hx.cloE
        rw [vu C.P w a.eval dst x as ts ty pos after guard f cs hxv]
        refine qn ?_
        have := jT (cargs := f.vargs (as.map a.eval) cs) (⟨Z, μ, hg, ht, hf, hd0, hn⟩ : yk C nt U s a w) hm hfr hd (fun Z μ ht => ?_) h
        · unfold Yp at this ⊢
          split at this
          · obtain ⟨v, s', h1, h2, h3⟩ := this; exact ⟨v, h1, hk _ _ _ h2 h3⟩
          · exact Calls.mono this (fun e w' ⟨v, s', h1, h2, h3⟩ => ⟨v, h1, hk _ _ _ h2 h3⟩)
          · exact Rows.mono this (fun e w' ⟨v, s', h1, h2, h3⟩ => ⟨v, h1, hk _ _ _ h2 h3⟩)
          · exact this
        · obtain ⟨l1, l2⟩ := j3 (hrep Z μ ht) hxs
          have hx' := hrep Z μ ht x y hy
          rw [hev] at hx'
          obtain ⟨cs', hxv', hcl, hcr⟩ := hx'.cloE
          rw [hxv] at hxv'
          have hcs : cs' = cs := by cases f <;> simpa [FK.val] using hxv'.symm
          subst hcs
          simp only [Array.length_toList] at l1
          cases f with
          | n f =>
            simp only [FK.args, FK.vargs]
            refine ⟨by simp [l1, hcl], fun i h h' => ?_⟩
            by_cases hi : i < xs.length
            · have := l2 i hi (by simp; omega)
              simpa [Array.getElem_append, List.getElem_append, hi, l1] using this
            · have := hcr (i - xs.length) (by simp at h; omega) (by simp at h'; omega)
              simpa [Array.getElem_append, List.getElem_append, hi, l1] using this
          | m f =>
            simp only [FK.args, FK.vargs]
            refine ⟨by simp [l1, hcl], fun i h h' => ?_⟩
            by_cases hi : i < cap.length
            · have := hcr i hi (by omega)
              simpa [Array.getElem_append, List.getElem_append, hi, hcl] using this
            · have := l2 (i - cap.length) (by simp at h; omega) (by simp at h'; simp; omega)
              simpa [Array.getElem_append, List.getElem_append, hi, hcl] using this
      · exact h.elim
theorem ac9 {n : Nat} {s : St} {a : Act} {w : World} (hs : Sim C nt n s a w) {o : Oper} {aop : AOp} (hd : ∀ k, o.dst = some k → k < nt) (hc : VL C.P o.op o.type = some aop) {K : St → Prop} {next : Act → World → Prop} {Q : Exit → Act → World → Prop}
    (h : wi C.env n s o.dst aop K) (hk : ∀ s' a' w', K s' → Sim C nt (n + KK) s' a' w' → next a' w') : o.wp C.P a w next Q := by
  have hm : C.m ≤ n := by obtain ⟨_, _, _, _, _, hm, _⟩ := hs; exact hm
  refine abw hs.toU hm (fun x h _ hx => by omega) hd hc h fun s' a' w' hk' hs' => hk s' a' w' hk' (hs'.toSim (fun x hx => ?_) (by omega))
  rcases hx with h | h <;> omega
end
end Av
end
section
namespace Av
open Go
section
variable {C : Ctx} {nt : Nat}
def St.wn (s : St) (n : Nat) : St := { s with n := n }
def AQ (C : Ctx) (nt : Nat) (K : St → Prop) (E : Nat → St → Prop) (R : St → Prop) : Exit → Act → World → Prop
  | .normal, a, w => ∃ s, K s ∧ Sim C nt s.n s a w
  | .exit i, a, w => ∃ s, E i s ∧ Sim C nt s.n s a w
  | .ret, a, w => ∃ s, R s ∧ Sim C nt s.n s a w
  | _, _, _ => False
def AWp (C : Ctx) (nt : Nat) (c : AC) (s : St) (K : St → Prop) (E : Nat → St → Prop) (R : St → Prop) : Prop :=
  ∀ code, V3 C.P nt code = some c → ∀ a w, Sim C nt s.n s a w → code.wp C.P (AQ C nt K E R) a w
theorem Sim.any {n : Nat} {s s' : St} {a : Act} {w : World} (h : Sim C nt n s a w) (ht : s'.t = s.t) (ho : s'.o = s.o) : Sim C nt n s' a w := by
  obtain ⟨Z, μ, hg, h1, h2⟩ := h
  exact ⟨Z, μ, ho ▸ hg, fun i => ht ▸ h1 i, h2⟩
theorem Sim.wide {n m : Nat} {s : St} {a : Act} {w : World} (h : Sim C nt n s a w) (hnm : n ≤ m) : Sim C nt m s a w := by
  obtain ⟨Z, μ, hg, h1, h2, h3, h4⟩ := h
  exact ⟨Z, μ, hg, h1, fun x hx => h2 x (by omega), by omega, h4⟩
theorem qm {o : Oper} {y : Nat → Option Bool} (h : o.guard = none) : Region.wanted o y = true := by simp [Region.wanted, h]
theorem abr {w : World} {Z : Nat → Nat → Prop} {μ : Nat → Option Cn} {a : Act} {s : St} (ht : ∀ i, Rep w Z μ (a.tmps.getD i undef) (s.t i)) {ops : Array Oper} {j : Nat} {g : Nat} (hg : (ops[j]?).bind (·.dst) = some g) {q : Option Bool} (hq : isG (s.t g) q) :
    yielded ops a.tmps j = q := by
  have h := ht g
  unfold yielded
  rw [hg]
  simp only [Option.bind_some]
  cases q with
  | some b =>
    have hq : s.t g = .bool b := hq
    rw [hq] at h
    obtain ⟨h, _⟩ := h.scE
    rcases Nat.lt_or_ge g a.tmps.size with hlt | hge
    · simp [hlt] at h
      rw [Array.getElem?_eq_getElem hlt, h]
    · exfalso
      simp [hge] at h
      have : undef ≠ Value.bool b := by simp [undef]
      exact this h
  | none =>
    have hq : s.t g = .tup [] := hq
    rw [hq] at h
    generalize hv : a.tmps.getD g undef = v at h
    cases h with
    | tup hl hr =>
      rcases Nat.lt_or_ge g a.tmps.size with hlt | hge
      · simp [hlt] at hv
        rw [Array.getElem?_eq_getElem hlt, hv]
      · rw [Array.getElem?_eq_none hge]
theorem vo {o : Oper} {j : Nat} {want : Bool} {y : Nat → Option Bool} {q : Option Bool} (hgu : o.guard = some (j, want)) (hy : y j = q) : Region.wanted o y = decide (q = some want) := by
  simp only [Region.wanted, hgu, hy]
  rcases q with _ | b
  · cases want <;> rfl
  · cases b <;> cases want <;> rfl
theorem vA {w : World} {Z : Nat → Nat → Prop} {μ : Nat → Option Cn} : Rep w Z μ undef V.und := .tup rfl (fun j h => by simp at h)
theorem y9 {n : Nat} {s : St} {a : Act} {w : World} (hs : Sim C nt n s a w) {d : Option Nat} (hd : ∀ k, d = some k → k < nt) : Sim C nt n (s.put d V.und) (a.put d undef) w := by
  obtain ⟨Z, μ, hg, ht, hf, hm, hd0, hn⟩ := hs
  exact ⟨Z, μ, by rw [St.put_o]; exact hg, xd ht hn hd vA, hf, hm, Kr.trans hd0, j1.trans hn⟩
theorem jR {P : Program} {n : Nat} {ops : Array Oper} {o : Oper} {x : AO} (h : wZ P n ops o = some x) :
    VL P o.op o.type = some x.op ∧ KU ops o.guard = some x.g ∧ x.d = o.dst ∧ ∀ k, o.dst = some k → k < n := by
  unfold wZ at h
  split at h
  · rename_i a g h1 h2
    cases hdst : o.dst with
    | none =>
      simp only [hdst, if_true, Option.some.injEq] at h; subst h
      exact ⟨h1, h2, rfl, fun k hk => by cases hk⟩
    | some d =>
      simp only [hdst, decide_eq_true_eq] at h
      split at h
      · rename_i hd
        simp only [Option.some.injEq] at h; subst h
        exact ⟨h1, h2, rfl, fun k hk => by cases hk; exact hd⟩
      · cases h
  · cases h
theorem abv {ops : Array Oper} {Q : Exit → Act → World → Prop} : ∀ (l : List Nat) (xs : List AO) (n : Nat) (s : St) (a : Act) (w : World),
    (∀ i, i ∈ l → i < ops.size) → yW C.P nt ops (l.filterMap (ops[·]?)) = some xs → Sim C nt n s a w → ∀ K : St → Prop, VD C.env n xs s K →
    (∀ s' a' w', K s' → Sim C nt s'.n s' a' w' → Q .normal a' w') → wpOps C.P ops Q l a w
  | [], xs, n, s, a, w, _, hc, hs, K, h, hk => by
    simp [yW] at hc; subst hc
    exact hk _ _ _ h (hs.any rfl rfl)
  | i :: l, xs, n, s, a, w, hi, hc, hs, K, h, hk => by
    have hlt := hi i (by simp)
    have hget : ops[i]? = some ops[i] := Array.getElem?_eq_getElem hlt
    simp only [List.filterMap_cons, hget, yW] at hc
    split at hc
    · rename_i x xs' h1 h2
      simp only [Option.some.injEq] at hc; subst hc
      obtain ⟨c1, c2, c3, c4⟩ := jR h1
      simp only [wpOps, hget]
      have rest : ∀ s' a' w', VD C.env (n + KK) xs' s' K → Sim C nt (n + KK) s' a' w' → wpOps C.P ops Q l a' w' :=
        fun s' a' w' h' hs' => abv l xs' (n + KK) s' a' w' (fun i hm => hi i (by simp [hm])) h2 hs' K h' hk
      have run : wi C.env n s x.d x.op (fun s' => VD C.env (n + KK) xs' s' K) → (ops[i]).wp C.P a w (wpOps C.P ops Q l) Q := by
        rw [c3]
        exact fun h => ac9 hs c4 c1 h rest
      cases hg : x.g with
      | none =>
        simp only [VD, hg] at h
        rw [hg] at c2
        have : (ops[i]).guard = none := by
          cases hgu : (ops[i]).guard with
          | none => rfl
          | some p =>
            obtain ⟨j, want⟩ := p
            rw [hgu] at c2
            simp only [KU] at c2
            split at c2 <;> simp at c2
        rw [qm this]
        simp only [if_true]
        exact .inl (run h)
      | some p =>
        obtain ⟨g, want⟩ := p
        simp only [VD, hg] at h
        obtain ⟨q, hq, hq1, hq2⟩ := h
        rw [hg] at c2
        cases hgu : (ops[i]).guard with
        | none => rw [hgu] at c2; simp [KU] at c2
        | some p =>
          obtain ⟨j, want'⟩ := p
          rw [hgu] at c2
          simp only [KU] at c2
          split at c2
          · rename_i g' hg'
            simp only [Option.some.injEq, Prod.mk.injEq] at c2
            obtain ⟨rfl, rfl⟩ := c2
            have hy : yielded ops a.tmps j = q := by
              obtain ⟨Z, μ, _, ht, _⟩ := hs
              exact abr ht hg' hq
            rw [vo hgu hy]
            by_cases hqw : q = some want'
            · simp only [hqw, decide_true, if_true]; exact .inl (run (hq1 hqw))
            · simp only [hqw, decide_false, Bool.false_eq_true, if_false]
              refine rest _ _ _ (hq2 hqw) ?_
              rw [c3]
              exact (y9 hs c4).wide (by omega)
          · cases c2
    · cases hc
theorem qz (ops : Array Oper) : (List.range ops.size).filterMap (ops[·]?) = ops.toList := by
  apply List.ext_getElem?
  intro i
  have key : ∀ (l : List Nat) (hb : ∀ i ∈ l, i < ops.size), l.filterMap (ops[·]?) = l.pmap (fun i h => ops[i]'h) hb := by
    intro l
    induction l with
    | nil => intro _; rfl
    | cons i l ih =>
      intro hb
      have hlt := hb i (by simp)
      simp only [List.filterMap_cons, Array.getElem?_eq_getElem hlt, List.pmap]
      rw [ih]
  have := key (List.range ops.size) (fun i hi => by simpa using hi)
  rw [this]
  simp only [List.getElem?_pmap, Array.getElem?_toList]
  rcases Nat.lt_or_ge i ops.size with h | h
  · simp [h]
  · simp [h, Array.getElem?_eq_none h]
variable {s : St} {K : St → Prop} {E : Nat → St → Prop} {R : St → Prop}
theorem aar {ops : List AO} (h : VD C.env s.n ops s K) : AWp C nt (.reg ops) s K E R := by
  intro code hc a w hs
  cases code <;> simp only [V3] at hc
  case region id ops' draw =>
    simp only [Option.map_eq_some_iff] at hc
    obtain ⟨l, hl, he⟩ := hc
    cases draw
    · simp only [Bool.false_eq_true, if_false, AC.reg.injEq] at he; subst he
      refine wp_region (abv (List.range ops'.size) l s.n s a w (fun i hi => by simpa using hi) (by rw [qz]; exact hl) hs K h ?_)
      exact fun s' a' w' hk hs' => ⟨s', hk, hs'⟩
    · simp at he
  all_goals first
    | (cases hc; done)
    | (simp only [Option.map_eq_some_iff] at hc; obtain ⟨_, _, he⟩ := hc; cases he; done)
    | (split at hc <;> simp at hc; done)
theorem Qk (h : K s) : AWp C nt .skip s K E R := by
  intro code hc a w hs
  cases code <;> simp only [V3] at hc
  case skip => exact wp_skip ⟨s, h, hs⟩
  case region id ops' draw =>
    simp only [Option.map_eq_some_iff] at hc
    obtain ⟨l, hl, he⟩ := hc
    cases draw <;> simp at he
  all_goals first
    | (cases hc; done)
    | (simp only [Option.map_eq_some_iff] at hc; obtain ⟨_, _, he⟩ := hc; cases he; done)
    | (split at hc <;> simp at hc; done)
theorem Qm {i : Nat} (h : E i s) : AWp C nt (.exit i) s K E R := by
  intro code hc a w hs
  cases code <;> simp only [V3] at hc
  case exit id => simp only [Option.some.injEq, AC.exit.injEq] at hc; subst hc; exact wp_exit ⟨s, h, hs⟩
  case region id ops' draw =>
    simp only [Option.map_eq_some_iff] at hc
    obtain ⟨l, hl, he⟩ := hc
    cases draw <;> simp at he
  all_goals first
    | (cases hc; done)
    | (simp only [Option.map_eq_some_iff] at hc; obtain ⟨_, _, he⟩ := hc; cases he; done)
    | (split at hc <;> simp at hc; done)
theorem Qq (h : R s) : AWp C nt .ret s K E R := by
  intro code hc a w hs
  cases code <;> simp only [V3] at hc
  case ret => exact wp_ret ⟨s, h, hs⟩
  case region id ops' draw =>
    simp only [Option.map_eq_some_iff] at hc
    obtain ⟨l, hl, he⟩ := hc
    cases draw <;> simp at he
  all_goals first
    | (cases hc; done)
    | (simp only [Option.map_eq_some_iff] at hc; obtain ⟨_, _, he⟩ := hc; cases he; done)
    | (split at hc <;> simp at hc; done)
theorem ach {x y : AC} (h : AWp C nt x s (fun s' => AWp C nt y s' K E R) E R) : AWp C nt (.seq x y) s K E R := by
  intro code hc a w hs
  cases code <;> simp only [V3] at hc
  case seq c1 c2 =>
    split at hc
    · rename_i x' y' h1 h2
      simp only [Option.some.injEq, AC.seq.injEq] at hc
      obtain ⟨rfl, rfl⟩ := hc
      refine wp_seq (wp_mono (h c1 h1 a w hs) ?_)
      intro e a' w' hq
      cases e with
      | normal => obtain ⟨s', hk, hs'⟩ := hq; exact hk c2 h2 a' w' hs'
      | exit i => exact hq
      | ret => exact hq
      | _ => exact hq
    · cases hc
  case region id ops' draw =>
    simp only [Option.map_eq_some_iff] at hc
    obtain ⟨l, hl, he⟩ := hc
    cases draw <;> simp at he
  all_goals first
    | (cases hc; done)
    | (simp only [Option.map_eq_some_iff] at hc; obtain ⟨_, _, he⟩ := hc; cases he; done)
    | (split at hc <;> simp at hc; done)
theorem Qn {c : Opd} {x y : AC} (h : ∃ q, s.ev c = .bool q ∧ (q = true → AWp C nt x s K E R) ∧ (q = false → AWp C nt y s K E R)) : AWp C nt (.cond c x y) s K E R := by
  intro code hc a w hs
  cases code <;> simp only [V3] at hc
  case cond c0 c1 c2 =>
    split at hc
    · rename_i c' x' y' h0 h1 h2
      simp only [Option.some.injEq, AC.cond.injEq] at hc
      obtain ⟨rfl, rfl, rfl⟩ := hc
      obtain ⟨q, hq, ht, hf⟩ := h
      have hev : a.eval c0 = .bool q := by
        obtain ⟨Z, μ, _, htm, _⟩ := hs
        have := yc htm c0 c' h0
        rw [hq] at this
        exact this.scE.1
      exact wp_cond_split hev (fun e => ht e c1 h1 a w hs) (fun e => hf e c2 h2 a w hs)
    · cases hc
  case region id ops' draw =>
    simp only [Option.map_eq_some_iff] at hc
    obtain ⟨l, hl, he⟩ := hc
    cases draw <;> simp at he
  all_goals first
    | (cases hc; done)
    | (simp only [Option.map_eq_some_iff] at hc; obtain ⟨_, _, he⟩ := hc; cases he; done)
    | (split at hc <;> simp at hc; done)
theorem Qd {i : Nat} {x : AC} (h : AWp C nt x s K (fun j s' => if j = i then K s' else E j s') R) : AWp C nt (.block i x) s K E R := by
  intro code hc a w hs
  cases code <;> simp only [V3] at hc
  case block i' c1 =>
    simp only [Option.map_eq_some_iff, AC.block.injEq] at hc
    obtain ⟨x', h1, rfl, rfl⟩ := hc
    refine wp_block (wp_mono (h c1 h1 a w hs) ?_)
    intro e a' w' hq
    cases e with
    | normal => exact hq
    | exit j =>
      obtain ⟨s', hk, hs'⟩ := hq
      simp only [Exit.inBlock]
      split
      · rename_i hj; simp only [hj, if_true] at hk; exact ⟨s', hk, hs'⟩
      · rename_i hj; simp only [hj, if_false] at hk; exact ⟨s', hk, hs'⟩
    | ret => exact hq
    | _ => exact hq
  case region id ops' draw =>
    simp only [Option.map_eq_some_iff] at hc
    obtain ⟨l, hl, he⟩ := hc
    cases draw <;> simp at he
  all_goals first
    | (cases hc; done)
    | (simp only [Option.map_eq_some_iff] at hc; obtain ⟨_, _, he⟩ := hc; cases he; done)
    | (split at hc <;> simp at hc; done)
theorem wh {x : AC} (I : Nat → St → Prop) (h0 : ∃ k, I k s) (h : ∀ k s', I k s' → AWp C nt x s' (fun s'' => ∃ k', k' < k ∧ I k' s'') E R) : AWp C nt (.loop x) s K E R := by
  intro code hc a w hs
  cases code <;> simp only [V3] at hc
  case loop c1 =>
    simp only [Option.map_eq_some_iff, AC.loop.injEq] at hc
    obtain ⟨x', h1, rfl⟩ := hc
    obtain ⟨k0, hk0⟩ := h0
    intro b k cs
    have key : ∀ n s a w, I n s → Sim C nt s.n s a w →
        ∃ e a' w', AQ C nt K E R e a' w' ∧ Arrives C.P (lone (b.at a (.code c1 :: .inLoop c1 :: k)) cs w) b k cs e a' w' := by
      intro n
      induction n using Nat.strongRecOn with
      | _ n ih =>
        intro s a w hI hs
        obtain ⟨e, a1, w1, hq, harr⟩ := h n s hI c1 h1 a w hs b (.inLoop c1 :: k) cs
        cases e with
        | normal =>
          obtain ⟨s', ⟨k', hlt, hI'⟩, hs'⟩ := hq
          obtain ⟨e2, a2, w2, hq2, harr2⟩ := ih k' hlt s' a1 w1 hI' hs'
          exact ⟨e2, a2, w2, hq2, .of_steps (Steps.trans harr (.one step_inLoop)) harr2⟩
        | exit id => exact ⟨.exit id, a1, w1, (show AQ C nt K E R (.exit id) a1 w1 from hq), .pass (x := .inLoop c1) rfl (fun _ _ => .inl (by simp)) harr⟩
        | ret => exact ⟨.ret, a1, w1, (show AQ C nt K E R .ret a1 w1 from hq), .pass (x := .inLoop c1) rfl (fun _ _ => .inl (by simp)) harr⟩
        | _ => exact hq.elim
    obtain ⟨e, a', w', hq, harr⟩ := key k0 s a w hk0 hs
    exact ⟨e, a', w', hq, .of_steps (.one step_loop) harr⟩
  case region id ops' draw =>
    simp only [Option.map_eq_some_iff] at hc
    obtain ⟨l, hl, he⟩ := hc
    cases draw <;> simp at he
  all_goals first
    | (cases hc; done)
    | (simp only [Option.map_eq_some_iff] at hc; obtain ⟨_, _, he⟩ := hc; cases he; done)
    | (split at hc <;> simp at hc; done)
theorem yj {c : AC} {K' : St → Prop} {E' : Nat → St → Prop} {R' : St → Prop} (h : AWp C nt c s K' E' R') (hk : ∀ s, K' s → K s) (he : ∀ i s, E' i s → E i s) (hr : ∀ s, R' s → R s) : AWp C nt c s K E R :=
  fun code hc a w hs => wp_mono (h code hc a w hs) fun e a' w' hq => by
    cases e with
    | normal => obtain ⟨s', h1, h2⟩ := hq; exact ⟨s', hk _ h1, h2⟩
    | exit i => obtain ⟨s', h1, h2⟩ := hq; exact ⟨s', he _ _ h1, h2⟩
    | ret => obtain ⟨s', h1, h2⟩ := hq; exact ⟨s', hr _ h1, h2⟩
    | _ => exact hq.elim
end
end Av
end
section
namespace Av
open Go
def AOp.opds : AOp → List Opd
  | .mov x => [x]
  | .mknil _ => []
  | .pick c x y => [c, x, y]
  | .alloc _ => []
  | .box _ _ x => [x]
  | .build _ ps => ps.map (·.2.2)
  | .bslice _ _ _ _ ps => ps.map (·.2)
  | .obslice _ _ _ _ ps => ps.map (·.2)
  | .load _ _ a => [a]
  | .store _ a x => [a, x]
  | .nilck x => [x]
  | .bin _ x y => [x, y]
  | .eqb _ x y => [x, y]
  | .isnil _ x => [x]
  | .isnilI _ x => [x]
  | .idS x => [x]
  | .eqagg _ _ x y => [x, y]
  | .un _ x => [x]
  | .convI _ x => [x]
  | .convSB x => [x]
  | .convBS x => [x]
  | .mkfn _ cap => cap
  | .mkslice _ _ _ _ l c => [l, c]
  | .slstr x lo hi => x :: (lo.toList ++ hi.toList)
  | .slsl _ x lo hi => x :: (lo.toList ++ hi.toList)
  | .faddr _ x => [x]
  | .fld _ _ _ x => [x]
  | .iaddr _ x i => [x, i]
  | .iaddrA _ _ x i => [x, i]
  | .idxS x i => [x, i]
  | .idxA _ _ _ x i => [x, i]
  | .ext x _ => [x]
  | .call _ as => as
  | .callv x as => x :: as
  | .lenS x => [x]
  | .lenL x => [x]
  | .lenC _ x => [x]
  | .append _ _ _ x y => [x, y]
  | .appendS _ x y => [x, y]
  | .allocT _ _ => []
  | .copy _ x y => [x, y]
  | .mm _ xs => xs
  | .mkif x => [x]
theorem vt (b : Nat) {ρ ρ' : Opd → V} (aop : AOp) (h : ∀ x ∈ aop.opds, ρ x = ρ' x) : sem b ρ aop = sem b ρ' aop := by
  cases aop <;> simp only [AOp.opds] at h
  case build zs ps =>
    have e : ∀ p ∈ ps, ρ p.2.2 = ρ' p.2.2 := fun p hp => h _ (List.mem_map.2 ⟨p, hp, rfl⟩)
    have e1 : ps.map (fun p => (p.1, (ρ p.2.2).cells)) = ps.map (fun p => (p.1, (ρ' p.2.2).cells)) := List.map_congr_left fun p hp => by rw [e p hp]
    have e2 : (∀ p ∈ ps, (ρ p.2.2).cells.length = p.2.1 ∧ p.1 + p.2.1 ≤ zs.length ∧ ρ p.2.2 ≠ .top ∧ ∀ vs, ρ p.2.2 ≠ .tup vs) = (∀ p ∈ ps, (ρ' p.2.2).cells.length = p.2.1 ∧ p.1 + p.2.1 ≤ zs.length ∧ ρ' p.2.2 ≠ .top ∧ ∀ vs, ρ' p.2.2 ≠ .tup vs) := by
      apply propext
      constructor <;> intro hh p hp
      · rw [← e p hp]; exact hh p hp
      · rw [e p hp]; exact hh p hp
    simp only [sem, e1, e2]
  case bslice n sz ag zs ps =>
    have e : ∀ p ∈ ps, ρ p.2 = ρ' p.2 := fun p hp => h _ (List.mem_map.2 ⟨p, hp, rfl⟩)
    have e1 : ps.map (fun p => (p.1, ρ p.2)) = ps.map (fun p => (p.1, ρ' p.2)) := List.map_congr_left fun p hp => by rw [e p hp]
    have e2 : (∀ p ∈ ps, p.1 < n ∧ V2 ag sz (ρ p.2) ∧ (ρ p.2).closed) = (∀ p ∈ ps, p.1 < n ∧ V2 ag sz (ρ' p.2) ∧ (ρ' p.2).closed) := by
      apply propext
      constructor <;> intro hh p hp
      · rw [← e p hp]; exact hh p hp
      · rw [e p hp]; exact hh p hp
    simp only [sem, e1, e2]
  case obslice n sz ag zs ps =>
    have e : ∀ p ∈ ps, ρ p.2 = ρ' p.2 := fun p hp => h _ (List.mem_map.2 ⟨p, hp, rfl⟩)
    have e1 : ps.map (fun p => (p.1, ρ p.2)) = ps.map (fun p => (p.1, ρ' p.2)) := List.map_congr_left fun p hp => by rw [e p hp]
    have e2 : (∀ p ∈ ps, p.1 < n ∧ V2 ag sz (ρ p.2)) = (∀ p ∈ ps, p.1 < n ∧ V2 ag sz (ρ' p.2)) := by
      apply propext
      constructor <;> intro hh p hp
      · rw [← e p hp]; exact hh p hp
      · rw [e p hp]; exact hh p hp
    simp only [sem, e1, e2]
  case slstr x lo hi =>
    have e0 := h x (by simp)
    have e1 : lo.map ρ = lo.map ρ' := by cases lo <;> simp; exact h _ (by simp)
    have e2 : hi.map ρ = hi.map ρ' := by cases hi <;> simp; exact h _ (by simp)
    simp only [sem, e0, e1, e2]
  case slsl sz x lo hi =>
    have e0 := h x (by simp)
    have e1 : lo.map ρ = lo.map ρ' := by cases lo <;> simp; exact h _ (by simp)
    have e2 : hi.map ρ = hi.map ρ' := by cases hi <;> simp; exact h _ (by simp)
    simp only [sem, e0, e1, e2]
  case mkfn f cap => simp only [sem, List.map_congr_left h]
  case mm mx xs => simp only [sem, List.map_congr_left h]
  all_goals simp_all [sem]
def AO.looks (x : AO) : List Nat := (x.op.opds.filterMap fun | .t i => some i | _ => none) ++ (match x.g with | some (g, _) => [g] | none => [])
theorem abc {s s' : St} {x : AO} (h : ∀ i ∈ x.looks, s.t i = s'.t i) : ∀ y ∈ x.op.opds, s.ev y = s'.ev y := by
  intro y hy
  cases y with
  | c v => rfl
  | t i => exact h i (by simp only [AO.looks, List.mem_append, List.mem_filterMap]; exact .inl ⟨.t i, hy, rfl⟩)
def Y4 (A : Nat → Prop) [DecidablePred A] (o : Nat → Option Ob) (a : Nat) : Option Ob := if A a then o a else none
def Va (p o : Nat → Option Ob) (a : Nat) : Option Ob := match p a with | some x => some x | none => o a
def noP : Nat → Option Ob := fun _ => none
theorem AM.wp_mono {α : Type} {o o' : Nat → Option Ob} (ho : ∀ a x, o a = some x → o' a = some x) : ∀ (m : AM α) (K K' : α → Prop), (∀ x, K x → K' x) → m.wp o K → m.wp o' K'
  | .no, _, _, _, h => h
  | .ret _, _, _, hk, h => hk _ h
  | .asrt _ m, _, _, hk, h => ⟨h.1, AM.wp_mono ho m _ _ hk h.2⟩
  | .rd _ k, _, _, hk, h => by obtain ⟨ob, h1, h2⟩ := h; exact ⟨ob, ho _ _ h1, AM.wp_mono ho (k ob) _ _ hk h2⟩
  | .any k, _, _, hk, h => fun b => AM.wp_mono ho (k b) _ _ hk (h b)
theorem qw {A : Nat → Prop} [DecidablePred A] {o : Nat → Option Ob} : ∀ a x, Y4 A o a = some x → o a = some x := by
  intro a x h
  unfold Y4 at h
  split at h
  · exact h
  · cases h
theorem yA (o : Nat → Option Ob) : ∀ (os : List (Nat × Ob)) (p : Nat → Option Ob), Uh (Va p o) os = Va (Uh p os) o
  | [], _ => rfl
  | (a, x) :: r, p => by
    simp only [Uh]
    rw [← yA o r]
    congr 1
    funext c
    by_cases h : c = a
    · subst h; simp [Va, Qh]
    · simp [Va, QI _ _ h]
theorem jE (o : Nat → Option Ob) (os : List (Nat × Ob)) : Uh o os = Va (Uh noP os) o := by
  have := yA o os noP
  have e : Va noP o = o := by funext a; simp [Va, noP]
  rw [e] at this; exact this
theorem UD (σ : Nat → Nat) (o : Nat → Option Ob) : ∀ (outs : List Ob) (b : Nat), Xq σ b outs o = Va (Xq σ b outs noP) o
  | [], _ => by funext a; simp [Va, noP, Xq]
  | x :: r, b => by
    simp only [Xq]
    rw [UD σ o r]
    funext c
    by_cases h : c = b
    · subst h; simp [Va, Qh]
    · simp [Va, QI _ _ h]
theorem Ks (σ : Nat → Nat) (o : Nat → Option Ob) (b : Nat) : ∀ (br : List Nat) (outs : List Ob), YL σ b br outs o = Va (YL σ b br outs noP) o
  | [], outs => by simp only [YL]; exact UD σ o outs b
  | a :: br, [] => by simp only [YL]; exact UD σ o [] b
  | a :: br, x :: outs => by
    simp only [YL]
    rw [Ks σ o b br outs]
    funext c
    by_cases h : c = a
    · subst h; simp [Va, Qh]
    · simp [Va, QI _ _ h]
theorem vD {p q o : Nat → Option Ob} (h : ∀ a, p a = none ∨ q a = none) : Va p (Va q o) = Va q (Va p o) := by
  funext a
  rcases h a with e | e <;> simp [Va, e]
theorem jI (p q o : Nat → Option Ob) : Va p (Va q o) = Va (Va p q) o := by
  funext a
  cases h : p a <;> simp [Va, h]
def xY (B : Option (List Nat)) (br : List Nat) (o : Nat → Option Ob) (a : Nat) : Option Ob :=
  match B with
  | none => none
  | some l => if a ∈ l ∧ a ∉ br then (o a).map Ob.frz else none
theorem yO (B : Option (List Nat)) (br : List Nat) (o : Nat → Option Ob) : KB B br o = Va (xY B br o) o := by
  funext a
  cases B with
  | none => rfl
  | some l =>
    simp only [KB, Va, xY]
    by_cases h : a ∈ l ∧ a ∉ br
    · rw [if_pos h, if_pos h]
      cases o a <;> rfl
    · rw [if_neg h, if_neg h]
def KH (Γ : Env) (A W : Nat → Prop) [DecidablePred A] (b : Nat) (s : St) (aop : AOp) (v : V) (p : Nat → Option Ob) : Prop :=
  let call (f : FuncId) (acts : List V) : Prop := ∃ args ins res outs br B, Ev Γ f args ins res outs ∧ Jc (Y4 A s.o) br B acts args ∧ vm (Y4 A s.o) br B br ins ∧ br.Nodup ∧ (∀ x ∈ br, x < b ∧ W x) ∧
    ins.length ≤ outs.length ∧ outs.length - ins.length < KK ∧ (B = none → res.noSl ∧ ∀ x ∈ outs, x.noSl) ∧ (∀ l, B = some l → ∀ x ∈ l, A x ∧ W x) ∧ v = res.ren (sig br b) ∧ p = Va (YL (sig br b) b br outs noP) (xY B br (Y4 A s.o))
  match aop with
  | .call f as => call f (as.map s.ev)
  | .callv x as => (match s.ev x with | .clo f cap => call f.f (f.args (as.map s.ev) cap) | _ => False)
  | aop => (sem b s.ev aop).wp (Y4 A s.o) (fun e => v = e.v ∧ p = Uh noP e.os ∧ ∀ q ∈ e.os, W q.1 ∨ (b ≤ q.1 ∧ q.1 < b + KK))
def eff (Γ : Env) (A W : Nat → Prop) [DecidablePred A] (b : Nat) (s : St) (x : AO) (v : V) (p : Nat → Option Ob) : Prop :=
  match x.g with
  | none => KH Γ A W b s x.op v p
  | some (g, want) => ∃ q, isG (s.t g) q ∧ (q = some want → KH Γ A W b s x.op v p) ∧ (q ≠ some want → v = V.und ∧ p = noP)
def St.app (s : St) (d : Option Nat) (v : V) (p : Nat → Option Ob) : St := { t := (s.put d v).t, o := Va p s.o, n := s.n }
mutual
theorem aak {o o' : Nat → Option Ob} (ho : ∀ a x, o a = some x → o' a = some x) (br : List Nat) (B : Option (List Nat)) : ∀ (act exp : V), conv o br B act exp → conv o' br B act exp
  | act, exp, h => by
    cases exp with
    | top => cases act <;> simp [conv]
    | sl s' ys =>
      cases act with
      | hd a off len =>
        simp only [conv] at h ⊢
        obtain ⟨h1, h2, h⟩ := h
        rcases h with ⟨wr, xs, h3, h4⟩ | ⟨wr, xs, h3, h4, h5⟩
        · exact ⟨h1, h2, .inl ⟨wr, xs, ho _ _ h3, h4⟩⟩
        · exact ⟨h1, h2, .inr ⟨wr, xs, ho _ _ h3, YE ho br B _ ys h4, h5⟩⟩
      | sc u =>
        cases u with
        | slice a l c => cases a <;> cases l <;> cases c <;> exact h
        | _ => exact h
      | _ => exact h
    | ro cells off' =>
      cases act with
      | ptr a off =>
        simp only [conv] at h ⊢
        obtain ⟨h1, h2, h3, h4, wr, cs, h5, h6⟩ := h
        exact ⟨h1, h2, h3, h4, wr, cs, ho _ _ h5, YE ho br B cs cells h6⟩
      | _ => exact h
    | agg es =>
      cases act with
      | agg cs => simp only [conv] at h ⊢; exact YE ho br B cs es h
      | _ => exact h
    | tup es =>
      cases act with
      | tup cs => simp only [conv] at h ⊢; exact YE ho br B cs es h
      | _ => exact h
    | clo f es =>
      cases act with
      | clo g cs => simp only [conv] at h ⊢; exact ⟨h.1, YE ho br B cs es h.2⟩
      | _ => exact h
    | _ => cases act <;> exact h
theorem YE {o o' : Nat → Option Ob} (ho : ∀ a x, o a = some x → o' a = some x) (br : List Nat) (B : Option (List Nat)) : ∀ (acts exps : List V), Jc o br B acts exps → Jc o' br B acts exps
  | [], [], _ => trivial
  | [], _ :: _, h => h.elim
  | _ :: _, [], h => h.elim
  | v :: r, e :: r', h => ⟨aak ho br B v e h.1, YE ho br B r r' h.2⟩
end
theorem jQ {o o' : Nat → Option Ob} (ho : ∀ a x, o a = some x → o' a = some x) (br : List Nat) (B : Option (List Nat)) : ∀ (xs ys : List V), qX o br B xs ys → qX o' br B xs ys
  | [], [], _ => trivial
  | [], _ :: _, h => h.elim
  | _ :: _, [], h => h.elim
  | x :: r, y :: r', h => ⟨YE ho br B _ _ h.1, jQ ho br B r r' h.2⟩
theorem yG {o o' : Nat → Option Ob} (ho : ∀ a x, o a = some x → o' a = some x) (br : List Nat) (B : Option (List Nat)) : ∀ (l : List Nat) (ins : List Ob), vm o br B l ins → vm o' br B l ins
  | [], [], _ => trivial
  | [], _ :: _, h => h.elim
  | _ :: _, [], h => h.elim
  | a :: r, y :: r', h => by
    obtain ⟨⟨x, h1, h2⟩, h3⟩ := h
    refine ⟨⟨x, ho _ _ h1, ?_⟩, yG ho br B r r' h3⟩
    clear h1 h3
    induction x generalizing y with
    | dead => cases y <;> exact h2
    | typ T x ih =>
      cases y with
      | typ T' y => exact ⟨h2.1, ih y h2.2⟩
      | _ => exact False.elim h2
    | box wr cs =>
      cases wr <;> cases y <;> try exact h2
      rename_i wr' es
      cases wr'
      · exact h2
      · exact YE ho br B _ _ h2
    | buf wr s xs =>
      cases wr <;> cases y <;> try exact h2
      rename_i wr' s' ys
      cases wr' <;> exact h2
    | obuf wr s xs =>
      cases wr <;> cases y <;> try exact h2
      rename_i wr' s' ys
      cases wr'
      · exact h2
      · exact ⟨h2.1, jQ ho br B _ _ h2.2⟩
section
variable {Γ : Env} {A W : Nat → Prop} [DecidablePred A] {b : Nat} {s : St} {v : V} {p : Nat → Option Ob} {K : St → Prop}
theorem jP {aop : AOp} {d : Option Nat} (h : KH Γ A W b s aop v p) (hk : K (s.app d v p)) : wi Γ b s d aop K := by
  have call : ∀ f acts, (∃ args ins res outs br B, Ev Γ f args ins res outs ∧ Jc (Y4 A s.o) br B acts args ∧ vm (Y4 A s.o) br B br ins ∧ br.Nodup ∧ (∀ x ∈ br, x < b ∧ W x) ∧
      ins.length ≤ outs.length ∧ outs.length - ins.length < KK ∧ (B = none → res.noSl ∧ ∀ x ∈ outs, x.noSl) ∧ (∀ l, B = some l → ∀ x ∈ l, A x ∧ W x) ∧ v = res.ren (sig br b) ∧ p = Va (YL (sig br b) b br outs noP) (xY B br (Y4 A s.o))) → Uw Γ b s d f acts K := by
    rintro f acts ⟨args, ins, res, outs, br, B, h1, h2, h3, h4, h5, h6, h7, h8, h9, rfl, rfl⟩
    refine WF ⟨args, ins, res, outs, br, B, h1, YE qw _ _ _ _ h2, yG qw _ _ _ _ h3, h4, fun x hx => (h5 x hx).1, h6, h7, h8, ?_⟩
    have e : xY B br (Y4 A s.o) = xY B br s.o := by
      funext a
      cases B with
      | none => rfl
      | some l =>
        simp only [xY]
        by_cases h : a ∈ l ∧ a ∉ br
        · rw [if_pos h, if_pos h, Y4, if_pos (h9 l rfl a h.1).1]
        · rw [if_neg h, if_neg h]
    rw [Ks, yO, jI, ← e]
    exact hk
  have plain : ∀ m : AM E, m.wp (Y4 A s.o) (fun e => v = e.v ∧ p = Uh noP e.os ∧ ∀ q ∈ e.os, W q.1 ∨ (b ≤ q.1 ∧ q.1 < b + KK)) → m.wp s.o fun e => K (s.eff d e) := by
    intro m hm
    refine AM.wp_mono qw m _ _ ?_ hm
    rintro e ⟨rfl, rfl, _⟩
    have : s.eff d e = s.app d e.v (Uh noP e.os) := by
      simp only [St.eff, St.app]
      rw [← jE]
      cases d <;> rfl
    rw [this]; exact hk
  cases aop
  case call f as => exact call f _ h
  case callv y as =>
    simp only [KH] at h
    simp only [wi]
    split at h
    · rename_i f cap he
      first | (rw [he]; exact call _ _ h) | exact call _ _ h
    · exact h.elim
  all_goals exact plain _ h
theorem abe {x : AO} (h : eff Γ A W b s x v p) (hk : K (s.app x.d v p)) :
    match x.g with
    | none => wi Γ b s x.d x.op K
    | some (g, want) => ∃ q, isG (s.t g) q ∧ (q = some want → wi Γ b s x.d x.op K) ∧ (q ≠ some want → K (s.put x.d V.und)) := by
  unfold eff at h
  cases hg : x.g with
  | none => simp only [hg] at h; exact jP h hk
  | some gw =>
    obtain ⟨g, want⟩ := gw
    simp only [hg] at h
    obtain ⟨q, h1, h2, h3⟩ := h
    refine ⟨q, h1, fun e => jP (h2 e) hk, fun e => ?_⟩
    obtain ⟨rfl, rfl⟩ := h3 e
    have : s.app x.d V.und noP = s.put x.d V.und := by
      have e : Va noP s.o = s.o := by funext a; simp [Va, noP]
      cases x.d <;> simp [St.app, St.put, e]
    rw [← this]; exact hk
theorem xA {s' : St} {aop : AOp} (ht : ∀ y ∈ aop.opds, s.ev y = s'.ev y) (ho : Y4 A s.o = Y4 A s'.o) (h : KH Γ A W b s aop v p) : KH Γ A W b s' aop v p := by
  cases aop
  case call f as =>
    simp only [KH, AOp.opds] at h ht ⊢
    rw [← ho, ← List.map_congr_left ht]; exact h
  case callv y as =>
    simp only [KH, AOp.opds] at h ht ⊢
    rw [← ho, ← List.map_congr_left (fun z hz => ht z (by simp [hz])), ← ht y (by simp)]; exact h
  all_goals
    simp only [KH] at h ⊢
    rw [← ho, ← vt b _ ht]; exact h
theorem yS {s' : St} {x : AO} (ht : ∀ i ∈ x.looks, s.t i = s'.t i) (ho : Y4 A s.o = Y4 A s'.o) (h : eff Γ A W b s x v p) : eff Γ A W b s' x v p := by
  have hop := fun h => xA (Γ := Γ) (A := A) (W := W) (b := b) (v := v) (p := p) (abc ht) ho h
  unfold eff at h ⊢
  cases hg : x.g with
  | none => simp only [hg] at h; exact hop h
  | some gw =>
    obtain ⟨g, want⟩ := gw
    simp only [hg] at h
    obtain ⟨q, h1, h2, h3⟩ := h
    refine ⟨q, ?_, fun e => hop (h2 e), h3⟩
    rw [← ht g (by simp [AO.looks, hg])]; exact h1
theorem yz : ∀ (os : List (Nat × Ob)) (q : Nat → Option Ob) (a : Nat), Uh q os a ≠ none → q a ≠ none ∨ ∃ e ∈ os, e.1 = a
  | [], q, a, h => .inl h
  | (c, x) :: r, q, a, h => by
    rcases yz r _ a h with h1 | ⟨e, h1, h2⟩
    · by_cases hc : a = c
      · exact .inr ⟨(c, x), by simp, hc.symm⟩
      · rw [QI _ _ hc] at h1; exact .inl h1
    · exact .inr ⟨e, by simp [h1], h2⟩
theorem jO {aop : AOp} (h : KH Γ A W b s aop v p) : ∀ a, p a ≠ none → W a ∨ (b ≤ a ∧ a < b + KK) := by
  intro a ha
  have call : ∀ f acts, (∃ args ins res outs br B, Ev Γ f args ins res outs ∧ Jc (Y4 A s.o) br B acts args ∧ vm (Y4 A s.o) br B br ins ∧ br.Nodup ∧ (∀ x ∈ br, x < b ∧ W x) ∧
      ins.length ≤ outs.length ∧ outs.length - ins.length < KK ∧ (B = none → res.noSl ∧ ∀ x ∈ outs, x.noSl) ∧ (∀ l, B = some l → ∀ x ∈ l, A x ∧ W x) ∧ v = res.ren (sig br b) ∧ p = Va (YL (sig br b) b br outs noP) (xY B br (Y4 A s.o))) → W a ∨ (b ≤ a ∧ a < b + KK) := by
    rintro f acts ⟨args, ins, res, outs, br, B, h1, h2, h3, h4, h5, h6, h7, h8, h9, rfl, rfl⟩
    obtain ⟨hlen, _⟩ := qh h3
    by_cases hfr : xY B br (Y4 A s.o) a = none
    · have ha : YL (sig br b) b br outs noP a ≠ none := fun e => ha (by simp [Va, e, hfr])
      rcases qA (sig br b) b br outs noP a (by omega) (fun x hx => (h5 x hx).1) h4 with ⟨k, x, e1, _, _⟩ | ⟨_, j, x, rfl, e2, _⟩ | ⟨_, e2, _⟩
      · exact .inl (h5 a (List.mem_of_getElem? e1)).2
      · have := (List.getElem?_eq_some_iff.1 e2).1
        exact .inr ⟨by omega, by omega⟩
      · exact (ha e2).elim
    · cases B with
      | none => exact (hfr rfl).elim
      | some l =>
        simp only [xY] at hfr
        by_cases h : a ∈ l ∧ a ∉ br
        · exact .inl (h9 l rfl a h.1).2
        · rw [if_neg h] at hfr; exact (hfr rfl).elim
  have plain : ∀ m : AM E, m.wp (Y4 A s.o) (fun e => v = e.v ∧ p = Uh noP e.os ∧ ∀ q ∈ e.os, W q.1 ∨ (b ≤ q.1 ∧ q.1 < b + KK)) → W a ∨ (b ≤ a ∧ a < b + KK) := by
    intro m
    induction m with
    | no => intro h; exact h.elim
    | ret e =>
      rintro ⟨rfl, rfl, hq⟩
      rcases yz e.os noP a ha with h1 | ⟨q, h1, rfl⟩
      · exact (h1 rfl).elim
      · exact hq q h1
    | asrt q m ih => intro h; exact ih h.2
    | rd c k ih => rintro ⟨ob, _, h⟩; exact ih _ h
    | any k ih => intro h; exact ih true (h true)
  cases aop
  case call f as => exact call f _ h
  case callv y as =>
    simp only [KH] at h
    split at h
    · exact call _ _ h
    · exact h.elim
  all_goals exact plain _ h
theorem wa {x : AO} (h : eff Γ A W b s x v p) : ∀ a, p a ≠ none → W a ∨ (b ≤ a ∧ a < b + KK) := by
  unfold eff at h
  cases hg : x.g with
  | none => simp only [hg] at h; exact jO h
  | some gw =>
    obtain ⟨g, want⟩ := gw
    simp only [hg] at h
    obtain ⟨q, h1, h2, h3⟩ := h
    by_cases e : q = some want
    · exact jO (h2 e)
    · obtain ⟨_, rfl⟩ := h3 e
      intro a ha; exact (ha rfl).elim
end
theorem wj {s : St} {d : Option Nat} {v : V} {p : Nat → Option Ob} {i : Nat} (h : d ≠ some i) : (s.app d v p).t i = s.t i := by
  cases d with
  | none => rfl
  | some k => exact QI _ _ (fun e => h (by rw [e]))
theorem abn {s : St} {d e : Option Nat} {v u : V} {p q : Nat → Option Ob} (hde : ∀ k, d = some k → e ≠ some k) (hpq : ∀ a, p a = none ∨ q a = none) : (s.app d v p).app e u q = (s.app e u q).app d v p := by
  have ho : Va q (Va p s.o) = Va p (Va q s.o) := vD (fun a => (hpq a).symm)
  have ht : ((s.app d v p).put e u).t = ((s.app e u q).put d v).t := by
    cases d with
    | none => cases e <;> rfl
    | some k =>
      cases e with
      | none => rfl
      | some l =>
        have hkl : l ≠ k := fun h => hde k rfl (by rw [h])
        funext i
        simp only [St.app, St.put, upd]
        by_cases h1 : i = l
        · subst h1; simp [hkl]
        · simp [h1]
  simp only [St.app] at ht ⊢
  rw [ho]
  congr 1
theorem abd {Γ : Env} {A W A' W' : Nat → Prop} [DecidablePred A] [DecidablePred A'] {b b' : Nat} {s : St} {x y : AO} {v u : V} {p q : Nat → Option Ob}
    (h1 : ∀ k, x.d = some k → k ∉ y.looks ∧ y.d ≠ some k) (h2 : ∀ k, y.d = some k → k ∉ x.looks)
    (a1 : ∀ a, (W a ∨ (b ≤ a ∧ a < b + KK)) → ¬ A' a) (a2 : ∀ a, (W' a ∨ (b' ≤ a ∧ a < b' + KK)) → ¬ A a) (a3 : ∀ a, (W a ∨ (b ≤ a ∧ a < b + KK)) → ¬ (W' a ∨ (b' ≤ a ∧ a < b' + KK)))
    (hx : eff Γ A W b s x v p) (hy : eff Γ A' W' b' (s.app x.d v p) y u q) :
    eff Γ A' W' b' s y u q ∧ eff Γ A W b (s.app y.d u q) x v p ∧ (s.app x.d v p).app y.d u q = (s.app y.d u q).app x.d v p := by
  have sp := wa hx
  have sq := wa hy
  have keep : ∀ (B : Nat → Prop) [DecidablePred B] (r o : Nat → Option Ob), (∀ a, r a ≠ none → ¬ B a) → Y4 B (Va r o) = Y4 B o := by
    intro B _ r o h
    funext a
    unfold Y4
    split
    · rename_i hB
      have : r a = none := by
        cases hr : r a with
        | none => rfl
        | some z => exact (h a (by simp [hr]) hB).elim
      simp [Va, this]
    · rfl
  refine ⟨yS (fun i hi => wj fun e => (h1 i e).1 hi) (keep A' p s.o (fun a ha => a1 a (sp a ha))) hy,
    yS (fun i hi => (wj fun e => h2 i e hi).symm) (keep A q s.o (fun a ha => a2 a (sq a ha))).symm hx, abn (fun k hk => (h1 k hk).2) (fun a => ?_)⟩
  cases hp : p a with
  | none => exact .inl rfl
  | some z =>
    right
    cases hq : q a with
    | none => rfl
    | some z' => exact (a3 a (sp a (by simp [hp])) (sq a (by simp [hq]))).elim
end Av
end
section
namespace Av
open Go
def AOp.isX : AOp → Bool
  | .store .. | .append .. | .appendS .. | .copy .. => true
  | _ => false
def AOp.allocs : AOp → Bool
  | .mknil _ | .alloc _ | .box .. | .allocT .. | .bslice .. | .obslice .. | .convSB _ | .mkslice .. | .append .. | .appendS .. | .call .. | .callv .. => true
  | _ => false
def AOp.det : AOp → Bool
  | .isnil .. => false
  | _ => true
def ac1 : List AO → Nat → List (Option Nat × List Nat) → List (List Nat)
  | [], _, _ => []
  | x :: r, j, pre =>
    let l := x.looks
    let a := ((pre.filter fun e => match e.1 with | some d => l.contains d | none => false).flatMap (·.2)).eraseDups
    a :: ac1 r (j + 1) ((x.d, if x.op.allocs then j :: a else a) :: pre)
structure RI where
  x : AO
  X : Bool
  acl : List Nat
  ahead : List Nat
def yx (L : List Nat) : List AO → List (List Nat) → List (List Nat) → Nat → List RI
  | x :: r, a :: as, h :: hs, j => ⟨x, x.op.isX || L.contains j, a, h⟩ :: yx L r as hs (j + 1)
  | _, _, _, _ => []
def ris (ops : List AO) (ahead : List (List Nat)) (L : List Nat) : List RI := yx L ops (ac1 ops 0 []) ahead 0
def RI.inR (r : RI) (b0 a : Nat) : Bool := r.acl.any fun i => decide (b0 + i * KK ≤ a) && decide (a < b0 + i * KK + KK)
def RI.A (r : RI) (fz : Nat → Bool) (b0 a : Nat) : Bool := (decide (a < b0) && (r.X || fz a)) || r.inR b0 a
def RI.W (r : RI) (fz : Nat → Bool) (b0 a : Nat) : Bool := r.X && ((decide (a < b0) && !fz a) || r.inR b0 a)
def wk (d : Option Nat) (l : List Nat) : Bool := match d with | some k => !l.contains k | none => true
def RI.comm (r q : RI) (i j : Nat) : Bool :=
  wk r.x.d q.x.looks && wk q.x.d r.x.looks && (match r.x.d with | some k => q.x.d != some k | none => true) &&
    !(r.X && q.X) && !q.acl.contains i && !r.acl.contains j && (!(r.X || q.X) || r.acl.all fun k => !q.acl.contains k)
theorem aab {r : RI} {b0 a : Nat} : r.inR b0 a = true ↔ ∃ i ∈ r.acl, b0 + i * KK ≤ a ∧ a < b0 + i * KK + KK := by
  simp [RI.inR, List.any_eq_true]
theorem Kp {b0 i j a : Nat} (h : b0 + i * KK ≤ a ∧ a < b0 + i * KK + KK) (h' : b0 + j * KK ≤ a ∧ a < b0 + j * KK + KK) : i = j := by
  simp only [KK] at h h'
  omega
theorem yv {b0 i a : Nat} (h : b0 + i * KK ≤ a ∧ a < b0 + i * KK + KK) : b0 ≤ a := by omega
theorem RI.A_cases {r : RI} {fz : Nat → Bool} {b0 a : Nat} (h : r.A fz b0 a = true) : (a < b0 ∧ (r.X = false → fz a = true)) ∨ ∃ i ∈ r.acl, b0 + i * KK ≤ a ∧ a < b0 + i * KK + KK := by
  simp only [RI.A, Bool.or_eq_true, Bool.and_eq_true, decide_eq_true_eq] at h
  rcases h with ⟨h0, h⟩ | h
  · refine .inl ⟨h0, fun hx => ?_⟩
    rcases h with h | h
    · rw [hx] at h; cases h
    · exact h
  · exact .inr (aab.1 h)
theorem RI.W_cases {r : RI} {fz : Nat → Bool} {b0 a : Nat} (h : r.W fz b0 a = true) : r.X = true ∧ ((a < b0 ∧ fz a = false) ∨ ∃ i ∈ r.acl, b0 + i * KK ≤ a ∧ a < b0 + i * KK + KK) := by
  simp only [RI.W, Bool.and_eq_true, Bool.or_eq_true] at h
  obtain ⟨h1, h⟩ := h
  refine ⟨h1, ?_⟩
  rcases h with h | h
  · left; simpa using h
  · exact .inr (aab.1 h)
theorem jS {r q : RI} {i j : Nat} {fz : Nat → Bool} {b0 : Nat} (hij : i ≠ j) (hx : ¬ (r.X = true ∧ q.X = true)) (hq : i ∉ q.acl) (hr : j ∉ r.acl) (hs : (r.X = true ∨ q.X = true) → ∀ k ∈ r.acl, k ∉ q.acl) :
    ∀ a, (r.W fz b0 a = true ∨ (b0 + i * KK ≤ a ∧ a < b0 + i * KK + KK)) → ¬ q.A fz b0 a = true ∧ ¬ (q.W fz b0 a = true ∨ (b0 + j * KK ≤ a ∧ a < b0 + j * KK + KK)) := by
  intro a ha
  rcases ha with ha | ha
  · obtain ⟨rx, ha⟩ := RI.W_cases ha
    have qx : q.X = false := by
      cases h : q.X
      · rfl
      · exact (hx ⟨rx, h⟩).elim
    refine ⟨fun hA => ?_, fun hW => ?_⟩
    · rcases RI.A_cases hA with ⟨h1, h2⟩ | ⟨k, h1, h2⟩
      · rcases ha with ⟨_, h3⟩ | ⟨k, _, h4⟩
        · rw [h2 qx] at h3; cases h3
        · have := yv h4; omega
      · rcases ha with ⟨h3, _⟩ | ⟨k', h3, h4⟩
        · have := yv h2; omega
        · have := Kp h4 h2
          subst this
          exact hs (.inl rx) _ h3 h1
    · rcases hW with hW | hW
      · have := (RI.W_cases hW).1; rw [qx] at this; cases this
      · rcases ha with ⟨h3, _⟩ | ⟨k', h3, h4⟩
        · have := yv hW; omega
        · have := Kp h4 hW
          subst this
          exact hr h3
  · refine ⟨fun hA => ?_, fun hW => ?_⟩
    · rcases RI.A_cases hA with ⟨h1, _⟩ | ⟨k, h1, h2⟩
      · have := yv ha; omega
      · have := Kp ha h2
        subst this
        exact hq h1
    · rcases hW with hW | hW
      · rcases (RI.W_cases hW).2 with ⟨h1, _⟩ | ⟨k, h1, h2⟩
        · have := yv ha; omega
        · have := Kp ha h2
          subst this
          exact hq h1
      · exact hij (Kp ha hW)
theorem aal {r q : RI} {i j : Nat} (h : r.comm q i j = true) :
    (∀ k, r.x.d = some k → k ∉ q.x.looks ∧ q.x.d ≠ some k) ∧ (∀ k, q.x.d = some k → k ∉ r.x.looks) ∧ ¬ (r.X = true ∧ q.X = true) ∧ i ∉ q.acl ∧ j ∉ r.acl ∧ ((r.X = true ∨ q.X = true) → ∀ k ∈ r.acl, k ∉ q.acl) := by
  simp only [RI.comm, Bool.and_eq_true, Bool.or_eq_true, Bool.not_eq_true', List.contains_eq_mem, decide_eq_false_iff_not] at h
  obtain ⟨⟨⟨⟨⟨⟨h1, h2⟩, h3⟩, h4⟩, h5⟩, h6⟩, h7⟩ := h
  refine ⟨fun k hk => ⟨?_, ?_⟩, fun k hk => ?_, fun hh => ?_, h5, h6, fun hh k hk => ?_⟩
  · simp [wk, hk] at h1; exact h1
  · simp [hk] at h3; exact h3
  · simp [wk, hk] at h2; exact h2
  · simp [hh.1, hh.2] at h4
  · rcases h7 with h7 | h7
    · rcases hh with hh | hh <;> simp [hh] at h7
    · have := List.all_eq_true.1 h7 k hk
      simpa using this
end Av
end
section
namespace Av
open Go
inductive OT where
  | done
  | one (i : Nat) (t : OT)
  | or (i : Nat) (t r : OT)
def ins (l : Nat → Bool) (i : Nat) (a : Nat) : Bool := a == i || l a
theorem aa9 (l : Nat → Bool) (i j : Nat) : ins (ins l i) j = ins (ins l j) i := by
  funext a
  simp only [ins]
  cases (a == i) <;> cases (a == j) <;> rfl
def rdy (rs : List RI) (l : Nat → Bool) : List Nat := (List.range rs.length).filter fun j => !l j && (match rs[j]? with | some r => r.ahead.all l | none => false)
theorem Kt {rs : List RI} {l : Nat → Bool} {j : Nat} : j ∈ rdy rs l ↔ l j = false ∧ ∃ r, rs[j]? = some r ∧ ∀ k ∈ r.ahead, l k = true := by
  unfold rdy
  rw [List.mem_filter, List.mem_range]
  cases h : rs[j]? with
  | none => simp
  | some r =>
    have := (List.getElem?_eq_some_iff.1 h).1
    simp [this]
def OT.heads : OT → List Nat
  | .or i _ r => i :: r.heads
  | _ => []
def Vm (rs : List RI) (l : Nat → Bool) (i : Nat) : Bool :=
  match rs[i]? with
  | none => false
  | some r => (List.range rs.length).all fun j => j == i || l j || match rs[j]? with | some q => q.ahead.contains i || r.comm q i j | none => true
mutual
def chk (rs : List RI) : (Nat → Bool) → OT → Bool
  | l, .done => (rdy rs l).isEmpty
  | l, .one i t => (rdy rs l).contains i && Vm rs l i && chk rs (ins l i) t
  | l, .or i t r => (rdy rs l).contains i && (rdy rs l).all (fun j => j == i || r.heads.contains j) && chk rs (ins l i) t && wd rs l r
def wd (rs : List RI) : (Nat → Bool) → OT → Bool
  | l, .or i t r => chk rs (ins l i) t && wd rs l r
  | _, _ => true
end
section
variable (Γ : Env) (fz : Nat → Bool) (b0 : Nat) (rs : List RI) (K : St → Prop)
def VP (j : Nat) (K : St → Prop) (s : St) : Prop :=
  match rs[j]? with
  | none => K s
  | some r => ∃ v p, eff Γ (fun a => r.A fz b0 a = true) (fun a => r.W fz b0 a = true) (b0 + j * KK) s r.x v p ∧ K (s.app r.x.d v p)
def ac4 : Nat → (Nat → Bool) → St → Prop
  | 0, l, s => rdy rs l = [] ∧ K s
  | f + 1, l, s => (rdy rs l = [] → K s) ∧ ∀ j ∈ rdy rs l, VP Γ fz b0 rs j (ac4 f (ins l j)) s
def awT : OT → St → Prop
  | .done, s => K s
  | .one i t, s => VP Γ fz b0 rs i (awT t) s
  | .or i t r, s => VP Γ fz b0 rs i (awT t) s ∧ awT' r s
where awT' : OT → St → Prop
  | .or i t r, s => VP Γ fz b0 rs i (awT t) s ∧ awT' r s
  | _, _ => True
variable {Γ : Env} {fz : Nat → Bool} {b0 : Nat} {rs : List RI} {K : St → Prop}
theorem Km {j : Nat} {K K' : St → Prop} {s : St} (hk : ∀ s, K s → K' s) (h : VP Γ fz b0 rs j K s) : VP Γ fz b0 rs j K' s := by
  unfold VP at h ⊢
  split
  · rename_i e; simp only [e] at h; exact hk _ h
  · rename_i r e; simp only [e] at h; obtain ⟨v, p, h1, h2⟩ := h; exact ⟨v, p, h1, hk _ h2⟩
theorem j0 {l : Nat → Bool} {i j : Nat} (hj : j ∈ rdy rs l) (hne : j ≠ i) : j ∈ rdy rs (ins l i) := by
  rw [Kt] at hj ⊢
  obtain ⟨h1, r, h2, h3⟩ := hj
  exact ⟨by simp [ins, h1, hne], r, h2, fun k hk => by simp [ins, h3 k hk]⟩
theorem Vl {l : Nat → Bool} {i : Nat} (h : Vm rs l i = true) : ∃ r, rs[i]? = some r ∧ ∀ j q, rs[j]? = some q → j ≠ i → l j = false → i ∉ q.ahead → r.comm q i j = true := by
  unfold Vm at h
  split at h
  · cases h
  · rename_i r hr
    refine ⟨r, hr, fun j q hq hne hl hn => ?_⟩
    have hj := (List.getElem?_eq_some_iff.1 hq).1
    have := List.all_eq_true.1 h j (by simpa using hj)
    simp only [hq, Bool.or_eq_true, beq_iff_eq, hne, hl, Bool.false_eq_true, false_or, List.contains_eq_mem, decide_eq_true_eq, hn] at this
    exact this
theorem yF {l : Nat → Bool} {i j : Nat} (h : Vm rs l i = true) : Vm rs (ins l j) i = true := by
  obtain ⟨r, hr, _⟩ := Vl h
  · simp only [Vm, hr] at h ⊢
    refine List.all_eq_true.2 fun k hk => ?_
    have := List.all_eq_true.1 h k hk
    simp only [Bool.or_eq_true] at this ⊢
    rcases this with (h1 | h1) | h1
    · exact .inl (.inl h1)
    · exact .inl (.inr (by simp [ins, h1]))
    · exact .inr h1
theorem aay {i : Nat} : ∀ (f : Nat) (l : Nat → Bool) (s : St), i ∈ rdy rs l → Vm rs l i = true → VP Γ fz b0 rs i (ac4 Γ fz b0 rs K f (ins l i)) s → ac4 Γ fz b0 rs K (f + 1) l s := by
  intro f
  induction f with
  | zero =>
    intro l s hi hm h
    refine ⟨fun e => (by rw [e] at hi; cases hi), fun j hj => ?_⟩
    by_cases hji : j = i
    · subst hji; exact h
    · exfalso
      have hj' := j0 hj hji
      obtain ⟨r, hr, _⟩ := Vl hm
      unfold VP at h
      simp only [hr] at h
      obtain ⟨v, p, _, h2⟩ := h
      rw [h2.1] at hj'
      cases hj'
  | succ f ih =>
    intro l s hi hm h
    refine ⟨fun e => (by rw [e] at hi; cases hi), fun j hj => ?_⟩
    by_cases hji : j = i
    · subst hji; exact h
    · obtain ⟨r, hr, hcomm⟩ := Vl hm
      obtain ⟨hlj, q, hq, hah⟩ := Kt.1 hj
      obtain ⟨hli, _, _, _⟩ := Kt.1 hi
      have hnot : i ∉ q.ahead := fun e => by have := hah i e; rw [hli] at this; cases this
      have hc := hcomm j q hq hji hlj hnot
      obtain ⟨c1, c2, c3, c4, c5, c6⟩ := aal hc
      have ap := jS (fz := fz) (b0 := b0) (Ne.symm hji) c3 c4 c5 c6
      have ap' := jS (fz := fz) (b0 := b0) hji (fun e => c3 ⟨e.2, e.1⟩) c5 c4 (fun e k hk hk' => c6 e.symm k hk' hk)
      unfold VP at h
      simp only [hr] at h
      obtain ⟨v, p, h1, h2⟩ := h
      have h3 := h2.2 j (j0 hj hji)
      unfold VP at h3
      simp only [hq] at h3
      obtain ⟨u, p', h4, h5⟩ := h3
      obtain ⟨w1, w2, w3⟩ := abd c1 c2 (fun a ha => (ap a ha).1) (fun a ha => (ap' a ha).1) (fun a ha => (ap a ha).2) h1 h4
      unfold VP
      simp only [hq]
      refine ⟨u, p', w1, ih (ins l j) _ (j0 hi (Ne.symm hji)) (yF hm) ?_⟩
      unfold VP
      simp only [hr]
      refine ⟨v, p, w2, ?_⟩
      rw [← w3, aa9]
      exact h5
def unl (rs : List RI) (l : Nat → Bool) : Nat := ((List.range rs.length).filter fun j => !l j).length
theorem Kc {p q : Nat → Bool} : ∀ (xs : List Nat) {i : Nat}, i ∈ xs → p i = true → q i = false → (∀ a, q a = true → p a = true) → (xs.filter q).length < (xs.filter p).length
  | [], _, h, _, _, _ => by cases h
  | x :: xs, i, h, hp, hq, hs => by
    have le : ∀ ys : List Nat, (ys.filter q).length ≤ (ys.filter p).length := by
      intro ys
      induction ys with
      | nil => exact Nat.le_refl _
      | cons y ys ih =>
        cases hy : q y
        · cases hy' : p y <;> simp [hy, hy'] <;> omega
        · simp [hy, hs y hy]; exact ih
    rcases List.mem_cons.1 h with rfl | h'
    · simp [hp, hq]; have := le xs; omega
    · have ih := Kc xs h' hp hq hs
      cases hy : q x
      · cases hy' : p x <;> simp [hy, hy'] <;> omega
      · simp [hy, hs x hy]; exact ih
theorem vp {l : Nat → Bool} {i : Nat} (h : i ∈ rdy rs l) : unl rs (ins l i) < unl rs l := by
  obtain ⟨h1, r, h2, _⟩ := Kt.1 h
  refine Kc _ (i := i) (by simpa using (List.getElem?_eq_some_iff.1 h2).1) (by simp [h1]) (by simp [ins]) (fun a ha => ?_)
  simp [ins] at ha
  simp [ha.2]
end
end Av
end
section
namespace Av
open Go
section
variable {Γ : Env} {fz : Nat → Bool} {b0 : Nat} {rs : List RI} {K : St → Prop}
theorem aaz {l : Nat → Bool} : ∀ (r : OT) (s : St), wd rs l r = true → awT.awT' Γ fz b0 rs K r s → ∀ j ∈ r.heads, ∃ t : OT, SizeOf.sizeOf t < SizeOf.sizeOf r ∧ chk rs (ins l j) t = true ∧ VP Γ fz b0 rs j (awT Γ fz b0 rs K t) s
  | .done, _, _, _, j, h => by simp [OT.heads] at h
  | .one _ _, _, _, _, j, h => by simp [OT.heads] at h
  | .or i t r, s, hc, h, j, hj => by
    simp only [wd, Bool.and_eq_true] at hc
    simp only [awT.awT'] at h
    simp only [OT.heads, List.mem_cons] at hj
    rcases hj with rfl | hj
    · exact ⟨t, by simp; omega, hc.1, h.1⟩
    · obtain ⟨t', h1, h2, h3⟩ := aaz r s hc.2 h.2 j hj
      exact ⟨t', by simp; omega, h2, h3⟩
theorem abo : ∀ (k : Nat) (ot : OT) (l : Nat → Bool) (f : Nat) (s : St), SizeOf.sizeOf ot ≤ k → unl rs l ≤ f → chk rs l ot = true → awT Γ fz b0 rs K ot s → ac4 Γ fz b0 rs K f l s := by
  intro k
  induction k with
  | zero => intro ot l f s hk; cases ot <;> simp at hk
  | succ k ih =>
    intro ot l f s hk hf hc h
    cases ot with
    | done =>
      simp only [chk, List.isEmpty_iff] at hc
      cases f with
      | zero => exact ⟨hc, h⟩
      | succ f => exact ⟨fun _ => h, fun j hj => by rw [hc] at hj; cases hj⟩
    | one i t =>
      simp only [chk, Bool.and_eq_true, List.contains_eq_mem, decide_eq_true_eq] at hc
      obtain ⟨⟨h1, h2⟩, h3⟩ := hc
      have hu := vp h1
      cases f with
      | zero => omega
      | succ f =>
        refine aay f l s h1 h2 ?_
        simp only [awT] at h
        exact Km (fun s' hs' => ih t _ f s' (by simp at hk; omega) (by omega) h3 hs') h
    | or i t r =>
      simp only [chk, Bool.and_eq_true, List.contains_eq_mem, decide_eq_true_eq] at hc
      obtain ⟨⟨⟨h1, h2⟩, h3⟩, h4⟩ := hc
      have hu := vp h1
      simp only [awT] at h
      cases f with
      | zero => omega
      | succ f =>
        refine ⟨fun e => (by rw [e] at h1; cases h1), fun j hj => ?_⟩
        have huj := vp hj
        have hmem := List.all_eq_true.1 h2 j hj
        simp only [Bool.or_eq_true, beq_iff_eq, decide_eq_true_eq] at hmem
        by_cases hji : j = i
        · subst hji
          exact Km (fun s' hs' => ih t _ f s' (by simp at hk; omega) (by omega) h3 hs') h.1
        · have hmem : j ∈ r.heads := by
            rcases hmem with e | e
            · exact (hji e).elim
            · simpa using e
          obtain ⟨t', e1, e2, e3⟩ := aaz r s h4 h.2 j hmem
          exact Km (fun s' hs' => ih t' _ f s' (by simp at hk; omega) (by omega) e2 hs') e3
end
section
variable {C : Ctx} {nt : Nat}
def Ul (b0 : Nat) (l : Nat → Bool) (x : Nat) : Prop := x < b0 ∨ ∃ j, l j = true ∧ b0 + j * KK ≤ x ∧ x < b0 + j * KK + KK
theorem yu {U : Nat → Prop} {s : St} {a : Act} {w : World} (hs : yk C nt U s a w) {d : Option Nat} (hd : ∀ k, d = some k → k < nt) : yk C nt U (s.put d V.und) (a.put d undef) w := by
  obtain ⟨Z, μ, hg, ht, hf, hd0, hn⟩ := hs
  exact ⟨Z, μ, by rw [St.put_o]; exact hg, xd ht hn hd vA, hf, Kr.trans hd0, j1.trans hn⟩
theorem acA {ops : Array Oper} {Q : Exit → Act → World → Prop} {U : Nat → Prop} {n j : Nat} {s : St} {a : Act} {w : World} (hs : yk C nt U s a w) (hm : C.m ≤ n) (hfr : ∀ x, n ≤ x → x < n + KK → ¬ U x)
    {o : Oper} (ho : ops[j]? = some o) {x : AO} (hc : wZ C.P nt ops o = some x) {K : St → Prop} {next : Act → World → Prop}
    (h : match x.g with
      | none => wi C.env n s x.d x.op K
      | some (g, want) => ∃ q, isG (s.t g) q ∧ (q = some want → wi C.env n s x.d x.op K) ∧ (q ≠ some want → K (s.put x.d V.und)))
    (hk : ∀ s' a' w', K s' → yk C nt (fun x => U x ∨ (n ≤ x ∧ x < n + KK)) s' a' w' → next a' w') : wpOp C.P ops Q j next a w := by
  obtain ⟨c1, c2, c3, c4⟩ := jR hc
  have run : wi C.env n s x.d x.op K → o.wp C.P a w next Q := by
    rw [c3]
    exact fun h => abw hs hm hfr c4 c1 h hk
  simp only [wpOp, ho]
  cases hg : x.g with
  | none =>
    simp only [hg] at h
    rw [hg] at c2
    have : o.guard = none := by
      cases hgu : o.guard with
      | none => rfl
      | some p =>
        obtain ⟨j, want⟩ := p
        rw [hgu] at c2
        simp only [KU] at c2
        split at c2 <;> simp at c2
    rw [qm this]
    simp only [if_true]
    exact .inl (run h)
  | some p =>
    obtain ⟨g, want⟩ := p
    simp only [hg] at h
    obtain ⟨q, hq, hq1, hq2⟩ := h
    rw [hg] at c2
    cases hgu : o.guard with
    | none => rw [hgu] at c2; simp [KU] at c2
    | some p =>
      obtain ⟨j', want'⟩ := p
      rw [hgu] at c2
      simp only [KU] at c2
      split at c2
      · rename_i g' hg'
        simp only [Option.some.injEq, Prod.mk.injEq] at c2
        obtain ⟨rfl, rfl⟩ := c2
        have hy : yielded ops a.tmps j' = q := by
          obtain ⟨Z, μ, _, ht, _⟩ := hs
          exact abr ht hg' hq
        rw [vo hgu hy]
        by_cases hqw : q = some want'
        · simp only [hqw, decide_true, if_true]; exact .inl (run (hq1 hqw))
        · simp only [hqw, decide_false, Bool.false_eq_true, if_false]
          refine hk _ _ _ (hq2 hqw) ?_
          rw [c3]
          exact (yu hs c4).mono (fun x hx => .inl hx)
      · cases c2
theorem aax {ops : Array Oper} {Q : Exit → Act → World → Prop} {rs : List RI} (hlen : rs.length = ops.size)
    (hrs : ∀ (j : Nat) (r : RI) (o : Oper), rs[j]? = some r → ops[j]? = some o → wZ C.P nt ops o = some r.x ∧ r.ahead = (o.after.toList.filter (Region.binds .any)).map (·.on)) {b0 : Nat} (hm : C.m ≤ b0) {fz : Nat → Bool} {K : St → Prop}
    (hQ : ∀ s a w l, (∀ j, l j = true → j < ops.size) → K s → yk C nt (Ul b0 l) s a w → Q .normal a w) :
    ∀ (f : Nat) (listed : Array Bool) (l : Nat → Bool) (s : St) (a : Act) (w : World), listed.size = ops.size → (∀ j, listed.getD j false = l j) → yk C nt (Ul b0 l) s a w → ac4 C.env fz b0 rs K f l s → wpAny C.P .any ops Q f listed a w := by
  have hready : ∀ (listed : Array Bool) (l : Nat → Bool), listed.size = ops.size → (∀ j, listed.getD j false = l j) → ∀ j, j ∈ Region.ready .any ops listed ↔ j ∈ rdy rs l := by
    intro listed l hsz hl j
    rw [mem_ready, Kt]
    constructor
    · rintro ⟨h1, o, ho, h2⟩
      have hj := (Array.getElem?_eq_some_iff.1 ho).1
      have hr : rs[j]? = some (rs[j]'(by omega)) := List.getElem?_eq_getElem (by omega)
      refine ⟨?_, _, hr, fun k hk => ?_⟩
      · rw [← hl]; simp [hsz, hj] at h1 ⊢; exact h1
      · rw [(hrs j _ o hr ho).2] at hk
        obtain ⟨e, he, rfl⟩ := List.mem_map.1 hk
        obtain ⟨he1, he2⟩ := List.mem_filter.1 he
        rw [← hl]; exact h2 e (by simpa using he1) he2
    · rintro ⟨h1, r, hr, h2⟩
      have hj : j < ops.size := by have := (List.getElem?_eq_some_iff.1 hr).1; omega
      have ho : ops[j]? = some ops[j] := Array.getElem?_eq_getElem hj
      refine ⟨?_, _, ho, fun e he hb => ?_⟩
      · rw [← hl] at h1; simp [hsz, hj] at h1 ⊢; exact h1
      · rw [hl]
        refine h2 e.on ?_
        rw [(hrs j r _ hr ho).2]
        exact List.mem_map.2 ⟨e, List.mem_filter.2 ⟨by simpa using he, hb⟩, rfl⟩
  have hin : ∀ (listed : Array Bool) (l : Nat → Bool), listed.size = ops.size → (∀ j, listed.getD j false = l j) → ∀ j, l j = true → j < ops.size := by
    intro listed l hsz hl j hj
    rw [← hl] at hj
    rcases Nat.lt_or_ge j ops.size with h | h
    · exact h
    · simp [Array.getElem?_eq_none (show listed.size ≤ j by omega)] at hj
  intro f
  induction f with
  | zero =>
    intro listed l s a w hsz hl hs h
    refine ⟨?_, hQ s a w l (hin listed l hsz hl) h.2 hs⟩
    cases hr : Region.ready .any ops listed with
    | nil => rfl
    | cons i r =>
      have : i ∈ rdy rs l := (hready listed l hsz hl i).1 (by rw [hr]; simp)
      rw [h.1] at this; cases this
  | succ f ih =>
    intro listed l s a w hsz hl hs h
    refine ⟨fun hr => hQ s a w l (hin listed l hsz hl) (h.1 ?_) hs, fun j hj => ?_⟩
    · cases hr' : rdy rs l with
      | nil => rfl
      | cons i r =>
        have : i ∈ Region.ready .any ops listed := (hready listed l hsz hl i).2 (by rw [hr']; simp)
        rw [hr] at this; cases this
    · have hj' := (hready listed l hsz hl j).1 hj
      have hst := h.2 j hj'
      obtain ⟨hlj, r, hr, _⟩ := Kt.1 hj'
      have hjs : j < ops.size := by have := (List.getElem?_eq_some_iff.1 hr).1; omega
      have ho : ops[j]? = some ops[j] := Array.getElem?_eq_getElem hjs
      unfold VP at hst
      simp only [hr] at hst
      obtain ⟨v, p, h1, h2⟩ := hst
      have hreal := abe h1 h2
      refine acA hs (by omega) (fun x hx hx' hu => ?_) ho (hrs j r _ hr ho).1 hreal (fun s' a' w' hk' hs' => ?_)
      · rcases hu with hu | ⟨i, hi, hi'⟩
        · omega
        · have := Kp ⟨hx, hx'⟩ hi'
          subst this
          rw [hlj] at hi; cases hi
      · refine ih (listed.setIfInBounds j true) (ins l j) s' a' w' (by simpa using hsz) (fun k => ?_) (hs'.mono fun x hx => ?_) hk'
        · by_cases hkj : k = j
          · subst hkj; simp [ins, hsz, hjs]
          · rw [getD_set_ne false (Ne.symm hkj), hl]; simp [ins, hkj]
        · rcases hx with (hx | ⟨i, hi, hi'⟩) | hx
          · exact .inl hx
          · exact .inr ⟨i, by simp [ins, hi], hi'⟩
          · exact .inr ⟨j, by simp [ins], hx⟩
theorem je : ∀ (ops : List AO) (j : Nat) (pre : List (Option Nat × List Nat)), (ac1 ops j pre).length = ops.length
  | [], _, _ => rfl
  | x :: r, j, pre => by simp [ac1, je r]
theorem yw (L : List Nat) : ∀ (ops : List AO) (as hs : List (List Nat)) (k : Nat), as.length = ops.length → hs.length = ops.length →
    (yx L ops as hs k).length = ops.length ∧ ∀ (j : Nat) (r : RI), (yx L ops as hs k)[j]? = some r → ops[j]? = some r.x ∧ hs[j]? = some r.ahead
  | [], _, _, _, _, _ => by simp [yx]
  | x :: r, [], _, _, h, _ => by simp at h
  | x :: r, _ :: _, [], _, _, h => by simp at h
  | x :: r, a :: as, h :: hs, k, h1, h2 => by
    obtain ⟨l1, l2⟩ := yw L r as hs (k + 1) (by simpa using h1) (by simpa using h2)
    refine ⟨by simp [yx, l1], fun j q hq => ?_⟩
    cases j with
    | zero => simp [yx] at hq; subst hq; simp
    | succ j => simp [yx] at hq; simpa using l2 j q hq
theorem yV {P : Program} {n : Nat} {ops : Array Oper} : ∀ {l : List Oper} {xs : List AO}, yW P n ops l = some xs → l.length = xs.length ∧ ∀ (j : Nat) (o : Oper) (x : AO), l[j]? = some o → xs[j]? = some x → wZ P n ops o = some x
  | [], xs, h => by simp [yW] at h; subst h; simp
  | o :: l, xs, h => by
    simp only [yW] at h
    split at h
    · rename_i a b h1 h2
      simp only [Option.some.injEq] at h; subst h
      obtain ⟨l1, l2⟩ := yV h2
      refine ⟨by simp [l1], fun j o' x ho hx => ?_⟩
      cases j with
      | zero => simp at ho hx; subst ho; subst hx; exact h1
      | succ j => exact l2 j o' x (by simpa using ho) (by simpa using hx)
    · cases h
theorem Sim.drew {n : Nat} {s : St} {a : Act} {w w' : World} (h : Sim C nt n s a w) (hw : w'.heap = w.heap) (ho : V7 w w' := by exact ⟨rfl, rfl, rfl⟩) : Sim C nt n s a w' := by
  obtain ⟨Z, μ, hg, ht, hf, hm, hd, hn⟩ := h
  exact ⟨Z, μ, hg.heap hw ho, fun i => (Evo.heap (b := 0) (K := 0) (μ := μ) hw).rep (ht i), hf, hm, hd, hn⟩
variable {s : St} {K : St → Prop} {E : Nat → St → Prop} {R : St → Prop}
theorem abi {ops : List AO} {ahead : List (List Nat)} (L : List Nat) (fz : Nat → Bool) (ot : OT) (hc : chk (ris ops ahead L) (fun _ => false) ot = true)
    (h : awT C.env fz s.n (ris ops ahead L) (fun s' => K (s'.wn (s.n + ops.length * KK))) ot s) : AWp C nt (.regD ops ahead) s K E R := by
  intro code hcc a w hs
  cases code <;> simp only [V3] at hcc
  case region id ops' draw =>
    simp only [Option.map_eq_some_iff] at hcc
    obtain ⟨l, hl, he⟩ := hcc
    cases draw
    · simp at he
    · simp only [if_true, AC.regD.injEq] at he
      obtain ⟨rfl, rfl⟩ := he
      obtain ⟨q1, q2⟩ := yV hl
      have hsz : ops'.size = l.length := by simpa using q1
      obtain ⟨r1, r2⟩ := yw L l (ac1 l 0 []) (jd ops') 0 (je _ _ _) (by simp [jd, hsz])
      have hm : C.m ≤ s.n := by obtain ⟨_, _, _, _, _, hm, _⟩ := hs; exact hm
      refine wp_region_any C.mix (aax (nt := nt) (rs := ris l (jd ops') L) (b0 := s.n) (fz := fz) (K := fun s' => K (s'.wn (s.n + l.length * KK))) (by rw [ris, r1, hsz]) (fun j r o hr ho => ?_) hm (fun s' a' w' ll hll hk hs' => ?_) ops'.size _ (fun _ => false) s a _ (by simp) (fun j => ?_) ?_ ?_)
      · obtain ⟨e1, e2⟩ := r2 j r hr
        refine ⟨q2 j o r.x (by simpa using ho) e1, ?_⟩
        simp only [jd, List.getElem?_map, Array.getElem?_toList, ho, Option.map_some, Option.some.injEq] at e2
        exact e2.symm
      · refine ⟨_, hk, ?_⟩
        have : Sim C nt (s.n + l.length * KK) s' a' w' := hs'.toSim (fun x hx => ?_) (by omega)
        · exact this.any rfl rfl
        · rcases hx with hx | ⟨j, hj, hj'⟩
          · omega
          · have := hll j hj
            have : (j + 1) * KK ≤ l.length * KK := Nat.mul_le_mul_right _ (by omega)
            rw [Nat.add_mul] at this
            omega
      · simp [Array.getElem?_replicate]; split <;> rfl
      · have hs1 : Sim C nt s.n s a { w with drawn := w.drawn + 1 } := hs.drew rfl
        exact hs1.toU.mono fun x hx => .inl hx
      · refine abo _ ot _ _ s (Nat.le_refl _) ?_ hc h
        unfold unl
        refine Nat.le_trans (List.length_filter_le _ _) ?_
        simp [ris, r1, hsz]
  all_goals first
    | (cases hcc; done)
    | (simp only [Option.map_eq_some_iff] at hcc; obtain ⟨_, _, he⟩ := hcc; cases he; done)
    | (split at hcc <;> simp at hcc; done)
end
end Av
end
section
namespace Av
open Go
def AM.noAny {α : Type} : AM α → Prop
  | .no => True
  | .ret _ => True
  | .asrt _ m => m.noAny
  | .rd _ k => ∀ ob, (k ob).noAny
  | .any _ => False
theorem AM.det_wp {α : Type} {o : Nat → Option Ob} {P : α → Prop} : ∀ (m : AM α), m.noAny → m.wp o P → ∃ e, P e ∧ m.wp o (fun x => x = e)
  | .no, _, h => h.elim
  | .ret e, _, h => ⟨e, h, rfl⟩
  | .asrt _ m, hn, h => by obtain ⟨e, h1, h2⟩ := AM.det_wp m hn h.2; exact ⟨e, h1, h.1, h2⟩
  | .rd _ k, hn, h => by
    obtain ⟨ob, h0, h⟩ := h
    obtain ⟨e, h1, h2⟩ := AM.det_wp (k ob) (hn ob) h
    exact ⟨e, h1, ob, h0, h2⟩
  | .any _, hn, _ => hn.elim
theorem vS {α : Type} {v : V} {k : Int → AM α} (h : ∀ n, (k n).noAny) : (AM.int v k).noAny := by
  unfold AM.int; split
  · exact h _
  · trivial
theorem vR {α : Type} {v : V} {k : ByteArray → AM α} (h : ∀ n, (k n).noAny) : (AM.str v k).noAny := by
  unfold AM.str; split
  · exact h _
  · trivial
theorem xk {α : Type} {v : V} {sz : Nat} {k : List V → AM α} (h : ∀ n, (k n).noAny) : (AM.slice v sz k).noAny := by
  unfold AM.slice; split
  · exact h _
  · intro ob
    simp only
    split
    · exact h _
    · trivial
  · exact h _
  · trivial
theorem yD {α : Type} {v : V} {sz : Nat} {k : Bool → List V → AM α} (h : ∀ op n, (k op n).noAny) : (AM.sliceK v sz k).noAny := by
  unfold AM.sliceK; split
  · exact h _ _
  · intro ob
    simp only
    split
    · exact h _ _
    · exact h _ _
    · trivial
  · exact h _ _
  · trivial
theorem j4 {α : Type} {v : V} {k : List V → Nat → AM α} (h : ∀ n m, (k n m).noAny) : (AM.cellsAt v k).noAny := by
  unfold AM.cellsAt; split
  · intro ob; simp only; split
    · exact h _ _
    · exact h _ _
    · trivial
  · intro ob; simp only; split
    · split
      · exact h _ _
      · trivial
    · split
      · exact h _ _
      · trivial
    · trivial
  · exact h _ _
  · trivial
theorem wH (op : BinOp) (k : IntKind) (a b : Int) : (acp op k a b).noAny := by
  cases op <;> simp [acp, AM.noAny]
theorem wG (op : BinOp) (a b : ByteArray) : (KX op a b).noAny := by
  cases op <;> simp [KX, AM.noAny]
theorem vr (b : Nat) (ρ : Opd → V) (aop : AOp) (h : aop.det = true) : (sem b ρ aop).noAny := by
  cases aop <;> simp only [sem]
  case isnil => simp [AOp.det] at h
  all_goals
    repeat' first
      | trivial
      | exact wH _ _ _ _
      | exact wG _ _ _
      | (refine vS fun _ => ?_)
      | (refine vR fun _ => ?_)
      | (refine xk fun _ => ?_)
      | (refine yD fun _ _ => ?_)
      | (refine j4 fun _ _ => ?_)
      | (intro ob; simp only; split)
      | (simp only [AM.noAny]; done)
      | split
      | (simp only [AM.noAny])
inductive OP where
  | done
  | one (j : Nat) (X : Bool) (acl : List Nat) (x : AO) (t : OP)
  | or (j : Nat) (X : Bool) (acl : List Nat) (x : AO) (t r : OP)
def Yk (rs : List RI) : OT → OP
  | .done => .done
  | .one i t => match rs[i]? with | some r => .one i r.X r.acl r.x (Yk rs t) | none => Yk rs t
  | .or i t r => match rs[i]? with | some q => .or i q.X q.acl q.x (Yk rs t) (Yk rs r) | none => .done
def okT (rs : List RI) : OT → Bool
  | .done => true
  | .one i t => (match rs[i]? with | some r => r.x.op.det | none => false) && okT rs t
  | .or i t r => (match rs[i]? with | some q => q.x.op.det | none => false) && okT rs t && okT rs r
def rA (X : Bool) (acl : List Nat) (fz : Nat → Bool) (b0 a : Nat) : Bool := (decide (a < b0) && (X || fz a)) || acl.any fun i => decide (b0 + i * KK ≤ a) && decide (a < b0 + i * KK + KK)
def rW (X : Bool) (acl : List Nat) (fz : Nat → Bool) (b0 a : Nat) : Bool := X && ((decide (a < b0) && !fz a) || acl.any fun i => decide (b0 + i * KK ≤ a) && decide (a < b0 + i * KK + KK))
def Jp (A : Nat → Bool) (o : Nat → Option Ob) (a : Nat) : Option Ob := if A a = true then o a else none
def Qr (Γ : Env) (A W : Nat → Bool) (b : Nat) (s : St) (d : Option Nat) (f : FuncId) (acts : List V) (K : St → Prop) : Prop :=
  ∃ args ins res outs br B, Ev Γ f args ins res outs ∧ Jc (Jp A s.o) br B acts args ∧ vm (Jp A s.o) br B br ins ∧ br.Nodup ∧ (∀ x ∈ br, x < b ∧ W x = true) ∧
    ins.length ≤ outs.length ∧ outs.length - ins.length < KK ∧ (B = none → res.noSl ∧ ∀ x ∈ outs, x.noSl) ∧ (∀ l, B = some l → ∀ x ∈ l, A x = true ∧ W x = true) ∧
    K { t := (s.put d (res.ren (sig br b))).t, o := YL (sig br b) b br outs (KB B br s.o), n := s.n }
def okW (W : Nat → Bool) (b : Nat) (os : List (Nat × Ob)) : Prop := os.all (fun q => W q.1 || (decide (b ≤ q.1) && decide (q.1 < b + KK))) = true
def aau (Γ : Env) (A W : Nat → Bool) (b : Nat) (s : St) (d : Option Nat) (aop : AOp) (K : St → Prop) : Prop :=
  match aop with
  | .call f as => Qr Γ A W b s d f (as.map s.ev) K
  | .callv x as => (match s.ev x with | .clo f cap => Qr Γ A W b s d f.f (f.args (as.map s.ev) cap) K | _ => False)
  | aop => (sem b s.ev aop).wp (Jp A s.o) fun e => okW W b e.os ∧ K (s.eff d e)
def awG (Γ : Env) (A W : Nat → Bool) (b : Nat) (s : St) (x : AO) (K : St → Prop) : Prop :=
  match x.g with
  | none => aau Γ A W b s x.d x.op K
  | some (g, want) => ∃ q, isG (s.t g) q ∧ (q = some want → aau Γ A W b s x.d x.op K) ∧ (q ≠ some want → K (s.put x.d V.und))
section
variable (Γ : Env) (fz : Nat → Bool) (b0 : Nat) (K : St → Prop)
mutual
def awP : OP → St → Prop
  | .done, s => K s
  | .one j X acl x t, s => awG Γ (rA X acl fz b0) (rW X acl fz b0) (b0 + j * KK) s x (awP t)
  | .or j X acl x t r, s => awG Γ (rA X acl fz b0) (rW X acl fz b0) (b0 + j * KK) s x (awP t) ∧ aci r s
def aci : OP → St → Prop
  | .or j X acl x t r, s => awG Γ (rA X acl fz b0) (rW X acl fz b0) (b0 + j * KK) s x (awP t) ∧ aci r s
  | _, _ => True
end
end
section
variable {Γ : Env} {fz : Nat → Bool} {b0 : Nat} {rs : List RI} {K : St → Prop}
theorem abQ {s : St} {d : Option Nat} {e : E} : s.eff d e = s.app d e.v (Uh noP e.os) := by
  simp only [St.eff, St.app]
  rw [← jE]
  cases d <;> rfl
theorem wb {A W : Nat → Bool} {b : Nat} {s : St} {d : Option Nat} {aop : AOp} (hd : aop.det = true) (h : aau Γ A W b s d aop K) :
    ∃ v p, KH Γ (fun a => A a = true) (fun a => W a = true) b s aop v p ∧ K (s.app d v p) := by
  have hr : Jp A s.o = Y4 (fun a => A a = true) s.o := rfl
  have call : ∀ f acts, Qr Γ A W b s d f acts K → ∃ v p, (∃ args ins res outs br B, Ev Γ f args ins res outs ∧ Jc (Y4 (fun a => A a = true) s.o) br B acts args ∧ vm (Y4 (fun a => A a = true) s.o) br B br ins ∧ br.Nodup ∧ (∀ x ∈ br, x < b ∧ W x = true) ∧
      ins.length ≤ outs.length ∧ outs.length - ins.length < KK ∧ (B = none → res.noSl ∧ ∀ x ∈ outs, x.noSl) ∧ (∀ l, B = some l → ∀ x ∈ l, A x = true ∧ W x = true) ∧ v = res.ren (sig br b) ∧ p = Va (YL (sig br b) b br outs noP) (xY B br (Y4 (fun a => A a = true) s.o))) ∧ K (s.app d v p) := by
    rintro f acts ⟨args, ins, res, outs, br, B, h1, h2, h3, h4, h5, h6, h7, h8, h9, h10⟩
    refine ⟨_, _, ⟨args, ins, res, outs, br, B, h1, h2, h3, h4, h5, h6, h7, h8, h9, rfl, rfl⟩, ?_⟩
    have e : xY B br (Y4 (fun a => A a = true) s.o) = xY B br s.o := by
      funext a
      cases B with
      | none => rfl
      | some l =>
        simp only [xY]
        by_cases h : a ∈ l ∧ a ∉ br
        · rw [if_pos h, if_pos h, Y4, if_pos (h9 l rfl a h.1).1]
        · rw [if_neg h, if_neg h]
    rw [Ks, yO, jI, ← e] at h10
    exact h10
  have plain : ∀ m : AM E, m.noAny → m.wp (Jp A s.o) (fun e => okW W b e.os ∧ K (s.eff d e)) →
      ∃ v p, m.wp (Y4 (fun a => A a = true) s.o) (fun e => v = e.v ∧ p = Uh noP e.os ∧ ∀ q ∈ e.os, W q.1 = true ∨ (b ≤ q.1 ∧ q.1 < b + KK)) ∧ K (s.app d v p) := by
    intro m hn hm
    obtain ⟨e, ⟨h1, h2⟩, h3⟩ := AM.det_wp m hn hm
    refine ⟨e.v, Uh noP e.os, AM.wp_mono (fun _ _ h => h) m _ _ ?_ h3, by rw [← abQ]; exact h2⟩
    rintro x rfl
    refine ⟨rfl, rfl, fun q hq => ?_⟩
    have := List.all_eq_true.1 h1 q hq
    simpa using this
  have hns := vr b s.ev aop hd
  cases aop
  case call f as => exact call f _ h
  case callv y as =>
    simp only [aau] at h
    simp only [KH]
    split at h
    · rename_i f cap he
      obtain ⟨v, p, h1, h2⟩ := call _ _ h
      refine ⟨v, p, ?_, h2⟩
      first | (rw [he]; exact h1) | exact h1
    · exact h.elim
  all_goals exact plain _ hns h
theorem aah {A W : Nat → Bool} {b : Nat} {s : St} {x : AO} (hd : x.op.det = true) (h : awG Γ A W b s x K) :
    ∃ v p, eff Γ (fun a => A a = true) (fun a => W a = true) b s x v p ∧ K (s.app x.d v p) := by
  unfold awG at h
  unfold eff
  cases hg : x.g with
  | none => simp only [hg] at h ⊢; exact wb hd h
  | some gw =>
    obtain ⟨g, want⟩ := gw
    simp only [hg] at h ⊢
    obtain ⟨q, h1, h2, h3⟩ := h
    by_cases hq : q = some want
    · obtain ⟨v, p, e1, e2⟩ := wb hd (h2 hq)
      exact ⟨v, p, ⟨q, h1, fun _ => e1, fun h => (h hq).elim⟩, e2⟩
    · refine ⟨V.und, noP, ⟨q, h1, fun h => (hq h).elim, fun _ => ⟨rfl, rfl⟩⟩, ?_⟩
      have : s.app x.d V.und noP = s.put x.d V.und := by
        have e : Va noP s.o = s.o := by funext a; simp [Va, noP]
        cases x.d <;> simp [St.app, St.put, e]
      rw [this]; exact h3 hq
theorem jU : ∀ (ot : OT), okT rs ot = true → (∀ s, awP Γ fz b0 K (Yk rs ot) s → awT Γ fz b0 rs K ot s) ∧ (∀ s, aci Γ fz b0 K (Yk rs ot) s → awT.awT' Γ fz b0 rs K ot s)
  | .done, _ => ⟨fun s h => h, fun _ _ => trivial⟩
  | .one i t, hk => by
    simp only [okT, Bool.and_eq_true] at hk
    refine ⟨fun s h => ?_, fun _ _ => trivial⟩
    cases hr : rs[i]? with
    | none => simp [hr] at hk
    | some r =>
      simp only [hr] at hk
      simp only [Yk, hr, awP] at h
      simp only [awT, VP, hr]
      obtain ⟨v, p, h1, h2⟩ := aah hk.1 h
      exact ⟨v, p, h1, (jU t hk.2).1 _ h2⟩
  | .or i t r, hk => by
    simp only [okT, Bool.and_eq_true] at hk
    cases hr : rs[i]? with
    | none => simp [hr] at hk
    | some q =>
      simp only [hr] at hk
      refine ⟨fun s h => ?_, fun s h => ?_⟩
      · simp only [Yk, hr, awP] at h
        simp only [awT, VP, hr]
        obtain ⟨v, p, h1, h2⟩ := aah hk.1.1 h.1
        exact ⟨⟨v, p, h1, (jU t hk.1.2).1 _ h2⟩, (jU r hk.2).2 _ h.2⟩
      · simp only [Yk, hr, aci] at h
        simp only [awT.awT', VP, hr]
        obtain ⟨v, p, h1, h2⟩ := aah hk.1.1 h.1
        exact ⟨⟨v, p, h1, (jU t hk.1.2).1 _ h2⟩, (jU r hk.2).2 _ h.2⟩
end
section
variable {C : Ctx} {nt : Nat} {s : St} {K : St → Prop} {E : Nat → St → Prop} {R : St → Prop}
def okR (ops : List AO) (ahead : List (List Nat)) (L : List Nat) (ot : OT) : Bool := chk (ris ops ahead L) (fun _ => false) ot && okT (ris ops ahead L) ot
theorem abj {ops : List AO} {ahead : List (List Nat)} (L : List Nat) (fz : Nat → Bool) (ot : OT) (p : OP) (hc : okR ops ahead L ot = true) (hp : Yk (ris ops ahead L) ot = p)
    (h : awP C.env fz s.n (fun s' => K (s'.wn (s.n + ops.length * KK))) p s) : AWp C nt (.regD ops ahead) s K E R := by
  simp only [okR, Bool.and_eq_true] at hc
  subst hp
  exact abi L fz ot hc.1 ((jU ot hc.2).1 s h)
end
theorem xG {Γ : Env} {A W : Nat → Bool} {b : Nat} {s : St} {d : Option Nat} {f : FuncId} {acts args : List V} {res : V} {K : St → Prop} (h : Ev Γ f args [] res []) (hc : Jc (Jp A s.o) [] none acts args) (hr : res.ren (sig [] b) = res) (hn : res.noSl)
    (hk : K { t := (s.put d res).t, o := s.o, n := s.n }) : Qr Γ A W b s d f acts K := by
  refine ⟨args, [], res, [], [], none, h, hc, trivial, List.nodup_nil, fun x hx => by simp at hx, Nat.le_refl _, by simp [KK], fun _ => ⟨hn, fun x hx => by simp at hx⟩, fun l hl => (by cases hl), ?_⟩
  rw [hr]
  exact hk
theorem xZ (br : List Nat) (o : Nat → Option Ob) : KB (some []) br o = o := by funext a; simp [KB]
theorem aao {Γ : Env} {A W : Nat → Bool} {b : Nat} {s : St} {d : Option Nat} {f : FuncId} {acts args : List V} {res : V} {K : St → Prop} (h : Ev Γ f args [] res []) (hc : Jc (Jp A s.o) [] (some []) acts args) (hr : res.ren (sig [] b) = res)
    (hk : K { t := (s.put d res).t, o := s.o, n := s.n }) : Qr Γ A W b s d f acts K := by
  refine ⟨args, [], res, [], [], some [], h, hc, trivial, List.nodup_nil, fun x hx => by simp at hx, Nat.le_refl _, by simp [KK], fun h => (by cases h), fun l hl x hx => (by cases hl; cases hx), ?_⟩
  rw [hr, xZ]
  exact hk
end Av
end
section
namespace Av
open Go
mutual
def V.lt (n : Nat) : V → Prop
  | .hd a _ _ => a < n
  | .ptr a _ => a < n
  | .ept a _ _ => a < n
  | .agg cs => ltL n cs
  | .tup cs => ltL n cs
  | .clo _ cs => ltL n cs
  | _ => True
def ltL (n : Nat) : List V → Prop
  | [] => True
  | v :: r => v.lt n ∧ ltL n r
end
theorem qF {n : Nat} : ∀ {cs : List V}, ltL n cs → ∀ j (h : j < cs.length), cs[j].lt n
  | [], _, j, h => by simp at h
  | v :: r, hc, 0, h => hc.1
  | v :: r, hc, j + 1, h => qF (cs := r) hc.2 j (by simpa using h)
theorem Rep.back {w : World} {Z : Nat → Nat → Prop} {μ μ' : Nat → Option Cn} {τ : Nat → Nat} {n : Nat} (hτ : ∀ a, a < n → μ' a = μ (τ a)) :
    ∀ (k : Nat) (x : V) (v : Value), sizeOf x ≤ k → x.lt n → Rep w Z μ v (x.ren τ) → Rep w Z μ' v x := by
  intro k
  induction k with
  | zero => intro x v hs; cases x <;> simp at hs
  | succ k ih =>
    intro x v hs hl hr
    have list : ∀ (es : List V) (vs : Array Value), sizeOf es ≤ k → ltL n es → vs.size = (VH τ es).length → (∀ j (h : j < (VH τ es).length) (h' : j < vs.size), Rep w Z μ vs[j] (VH τ es)[j]) →
        vs.size = es.length ∧ ∀ j (h : j < es.length) (h' : j < vs.size), Rep w Z μ' vs[j] es[j] := by
      intro es vs hs hl hsz hr
      rw [Qz] at hsz
      refine ⟨hsz, fun j h h' => ih _ _ ?_ (qF hl j h) ?_⟩
      · have := List.sizeOf_lt_of_mem (List.getElem_mem h); omega
      · have := hr j (by rw [Qz]; exact h) h'
        rw [JY τ es j h] at this; exact this
    cases x with
    | top => exact .top
    | sc u => obtain ⟨rfl, h⟩ := hr.scE; exact .sc h
    | nn => obtain ⟨t, u, rfl⟩ := hr.nnE; exact .nn
    | sl sz xs =>
      simp only [V.ren] at hr
      cases hr with
      | sl0 => exact .sl0
      | sl f h0 h1 h2 h3 => exact .sl f h0 h1 h2 h3
    | hd a off len => obtain ⟨c, hm, hh⟩ := hr.hdE; exact .hd (c := c) ((hτ a hl).trans hm) hh
    | ptr a off => obtain ⟨c, hm, rfl⟩ := hr.ptrE; exact .ptr (c := c) ((hτ a hl).trans hm)
    | ept a i off =>
      simp only [V.ren] at hr
      cases hr with
      | ept h1 h2 h3 => exact .ept ((hτ a hl).trans h1) h2 h3
    | ro cells off =>
      simp only [V.ren] at hr
      cases hr with
      | ro f h1 h2 => exact .ro f h1 h2
    | agg es =>
      obtain ⟨vs, rfl, h1, h2, h3⟩ := hr.aggE
      obtain ⟨l1, l2⟩ := list es vs (by simp at hs; omega) hl h1 h3
      exact .agg l1 h2 l2
    | tup es =>
      obtain ⟨vs, rfl, h1, h3⟩ := hr.tupE
      obtain ⟨l1, l2⟩ := list es vs (by simp at hs; omega) hl h1 h3
      exact .tup l1 l2
    | clo f es =>
      obtain ⟨vs, rfl, h1, h3⟩ := hr.cloE
      obtain ⟨l1, l2⟩ := list es vs (by simp at hs; omega) hl h1 h3
      exact .cloI l1 l2
def Ob.lt (n : Nat) : Ob → Prop
  | .box _ cs => ltL n cs
  | .typ _ x => x.lt n
  | .obuf _ _ xs => ltL n xs
  | _ => True
def KI : List V → Prop
  | [] => True
  | x :: r => Qc x.cells ∧ KI r
theorem UP : ∀ {ys : List V}, KI ys → ∀ i (h : i < ys.length) j (hj : j < ys[i].cells.length), (ys[i].cells[j]).closed
  | x :: r, h, 0, _, j, hj => J9 h.1 j hj
  | x :: r, h, i + 1, hi, j, hj => UP (ys := r) h.2 i (by simpa using hi) j hj
def Ob.weak (τ : Nat → Nat) (n : Nat) : Ob → Ob → Prop
  | _, .dead => True
  | .box wr cs, .box wr' es => (wr' = true → wr = true) ∧ cs = VH τ es ∧ ltL n es
  | .buf wr s xs, .buf wr' s' ys => (wr' = true → wr = true) ∧ s = s' ∧ xs = ys
  | .obuf wr s xs, .obuf wr' s' ys => (wr' = true → wr = true) ∧ s = s' ∧ xs = VH τ ys ∧ ltL n ys
  | .buf wr s xs, .obuf wr' s' ys => (wr' = true → wr = true) ∧ s = s' ∧ xs = ys
  | .obuf wr s xs, .buf wr' s' ys => (wr' = true → wr = true) ∧ s = s' ∧ xs = ys ∧ KI ys
  | .typ T x, .typ T' y => T = T' ∧ x.weak τ n y
  | _, _ => False
theorem VS {τ : Nat → Nat} {n : Nat} {c : Cn} : ∀ {x y : Ob}, x.weak τ n y → y.live c → x.live c
  | _, .dead, _, hl => hl.elim
  | .typ _ x, .typ _ y, h, hl => VS (x := x) (y := y) h.2 hl
  | .box .., .box .., _, _ => trivial
  | .buf .., .buf .., _, hl => hl
  | .buf .., .obuf .., _, hl => hl
  | .obuf .., .obuf .., _, hl => hl
  | .dead, .obuf .., h, _ => False.elim h
  | .box .., .obuf .., h, _ => False.elim h
  | .typ .., .obuf .., h, _ => False.elim h
  | .obuf .., .buf .., _, hl => hl
  | .obuf .., .box .., h, _ => False.elim h
  | .obuf .., .typ .., h, _ => False.elim h
  | .dead, .box .., h, _ => False.elim h
  | .dead, .buf .., h, _ => False.elim h
  | .dead, .typ .., h, _ => False.elim h
  | .box .., .buf .., h, _ => False.elim h
  | .box .., .typ .., h, _ => False.elim h
  | .buf .., .box .., h, _ => False.elim h
  | .buf .., .typ .., h, _ => False.elim h
  | .typ .., .box .., h, _ => False.elim h
  | .typ .., .buf .., h, _ => False.elim h
theorem vZ {n : Nat} {x : V} (h : x.lt n) : ltL n x.cells := by
  cases x <;> first | exact h | exact ⟨h, trivial⟩
theorem BOk.back {w : World} {Z : Nat → Nat → Prop} {μ μ' : Nat → Option Cn} {τ : Nat → Nat} {n : Nat} (hτ : ∀ a, a < n → μ' a = μ (τ a)) {c : Cn} {wr : Bool} {s : Nat} {ys : List V} (h : BOk w Z μ c wr s (VH τ ys)) (hl : ltL n ys) : BOk w Z μ' c wr s ys := by
  refine ⟨by have := h.1; rwa [Qz] at this, fun hv => ?_⟩
  obtain ⟨h0, h1, h2, h3, h4, cs, ty, fr, hh, h5, h6, h7⟩ := h.2 hv
  refine ⟨h0, h1, h2, h3, fun i hi => ?_, cs, ty, fr, hh, h5, h6, fun i hi j hj => ?_⟩
  · have := h4 i (by rw [Qz]; exact hi)
    rwa [JY τ _ i hi, V4, Qz] at this
  · have hi' : i < (VH τ ys).length := by rw [Qz]; exact hi
    have e0 : (VH τ ys)[i].cells = VH τ ys[i].cells := by rw [JY τ _ i hi, V4]
    have hj' : j < (VH τ ys)[i].cells.length := by rw [e0, Qz]; exact hj
    obtain ⟨v, e1, e2, e3⟩ := h7 i hi' j hj'
    refine ⟨v, e1, e2, ?_⟩
    have e4 : (VH τ ys)[i].cells[j] = (ys[i].cells[j]).ren τ := by
      simp only [e0]
      exact JY τ _ j hj _
    rw [e4] at e3
    exact Rep.back hτ _ _ _ (Nat.le_refl _) (qF (vZ (qF hl i hi)) j hj) e3
theorem Up.weak {w : World} {Z : Nat → Nat → Prop} {μ μ' : Nat → Option Cn} {τ : Nat → Nat} {n : Nat} (hτ : ∀ a, a < n → μ' a = μ (τ a)) {c : Cn} {x y : Ob} (h : Up w Z μ c x) (hw : x.weak τ n y) : Up w Z μ' c y := by
  induction y generalizing x with
  | dead => trivial
  | typ T y ih =>
    cases x with
    | typ T' x =>
      obtain ⟨rfl, hw⟩ : T' = T ∧ x.weak τ n y := hw
      exact ⟨ih h.1 hw, h.2.1, fun hl => h.2.2 (VS hw hl)⟩
    | _ => exact False.elim hw
  | box wr' es =>
    cases x <;> try exact False.elim hw
    rename_i wr cells
    replace hw : (wr' = true → wr = true) ∧ cells = VH τ es ∧ ltL n es := hw
    obtain ⟨h1, rfl, h2⟩ := hw
    obtain ⟨hv, ⟨cs, ty, hh, hs, hr⟩, hz⟩ := h
    refine ⟨hv, ⟨cs, ty, hh, by rw [Qz] at hs; exact hs, fun j hj hj' => ?_⟩, fun e => hz (h1 e)⟩
    have := hr j (by rw [Qz]; exact hj) hj'
    rw [JY τ es j hj] at this
    exact ⟨Rep.back hτ _ _ _ (Nat.le_refl _) (qF h2 j hj) this.1, this.2⟩
  | buf wr' s' ys =>
    cases x <;> try exact False.elim hw
    · rename_i wr s xs
      replace hw : (wr' = true → wr = true) ∧ s = s' ∧ xs = ys := hw
      obtain ⟨h1, rfl, rfl⟩ := hw
      refine ⟨h.1, fun hv => ?_⟩
      obtain ⟨q0, q1, q2, q3⟩ := h.2 hv
      exact ⟨q0, q1, fun e => q2 (h1 e), q3⟩
    · rename_i wr s xs
      replace hw : (wr' = true → wr = true) ∧ s = s' ∧ xs = ys ∧ KI ys := hw
      obtain ⟨h1, rfl, rfl, hcl⟩ := hw
      have h := BOk.close h (UP hcl)
      refine ⟨h.1, fun hv => ?_⟩
      obtain ⟨q0, q1, q2, q3⟩ := h.2 hv
      exact ⟨q0, q1, fun e => q2 (h1 e), q3⟩
  | obuf wr' s' ys =>
    cases x <;> try exact False.elim hw
    · rename_i wr s xs
      replace hw : (wr' = true → wr = true) ∧ s = s' ∧ xs = ys := hw
      obtain ⟨h1, rfl, rfl⟩ := hw
      have h := BOk.lift (μ := μ') h
      refine ⟨h.1, fun hv => ?_⟩
      obtain ⟨q0, q1, q2, q3⟩ := h.2 hv
      exact ⟨q0, q1, fun e => q2 (h1 e), q3⟩
    · rename_i wr s xs
      replace hw : (wr' = true → wr = true) ∧ s = s' ∧ xs = VH τ ys ∧ ltL n ys := hw
      obtain ⟨h1, rfl, rfl, h2⟩ := hw
      have h := BOk.back hτ h h2
      refine ⟨h.1, fun hv => ?_⟩
      obtain ⟨q0, q1, q2, q3⟩ := h.2 hv
      exact ⟨q0, q1, fun e => q2 (h1 e), q3⟩
structure abp (m : Nat) (τ : Nat → Nat) (s s1 : St) : Prop where
  t : ∀ i, s1.t i = .top ∨ (s.t i = (s1.t i).ren τ ∧ (s1.t i).lt s1.n)
  o : ∀ a y, s1.o a = some y → a < s1.n ∧ ∃ x, s.o (τ a) = some x ∧ x.weak τ s1.n y
  inj : ∀ a b, s1.o a ≠ none → s1.o b ≠ none → τ a = τ b → a = b
  fix : ∀ k, k < m → τ k = k
  le : m ≤ s1.n
theorem Sim.weak {C : Ctx} {nt n : Nat} {s s1 : St} {a : Act} {w : World} {τ : Nat → Nat} (h : Sim C nt n s a w) (hw : abp C.m τ s s1) : Sim C nt s1.n s1 a w := by
  obtain ⟨Z, μ, hg, ht, hf, hm, hd, hn⟩ := h
  let μ' : Nat → Option Cn := fun x => if x < s1.n then μ (τ x) else none
  have hτ : ∀ x, x < s1.n → μ' x = μ (τ x) := fun x hx => if_pos hx
  have hle := hw.le
  refine ⟨Z, μ', ⟨fun x y hy => ?_, fun x y u v c d hxy hu hv hc hd hl hl' => ?_, hg.zlt, hg.grow, hg.frame, hg.zsub, hg.zsup, hg.zkeep, fun k hk => ?_, hg.oo⟩, fun i => ?_, fun x hx => if_neg (by omega), hle, hd, hn⟩
  · obtain ⟨h1, u, h2, h3⟩ := hw.o x y hy
    obtain ⟨c, hm1, hok, hl⟩ := hg.ob _ _ h2
    exact ⟨c, (hτ x h1).trans hm1, hok.weak hτ h3, fun hly => hl (VS h3 hly)⟩
  · obtain ⟨h1, u', h2, h3⟩ := hw.o x u hu
    obtain ⟨h1', v', h2', h3'⟩ := hw.o y v hv
    rw [hτ x h1] at hc
    rw [hτ y h1'] at hd
    exact hg.sep (τ x) (τ y) u' v' c d (fun e => hxy (hw.inj x y (by simp [hu]) (by simp [hv]) e)) h2 h2' hc hd (VS h3 hl) (VS h3' hl')
  · rw [hτ k (by omega), hw.fix k hk]; exact hg.fix k hk
  · rcases hw.t i with h | ⟨h1, h2⟩
    · rw [h]; exact .top
    · have := ht i
      rw [h1] at this
      exact Rep.back hτ _ _ _ (Nat.le_refl _) h2 this
def Vn : List (Nat × V) → Nat → V
  | [], _ => .top
  | (k, v) :: r, i => if i = k then v else Vn r i
def jk : List (Nat × Ob) → Nat → Option Ob
  | [], _ => none
  | (k, v) :: r, i => if i = k then some v else jk r i
def Yq : List (Nat × Nat) → Nat → Nat
  | [], i => i
  | (k, v) :: r, i => if i = k then v else Yq r i
def wJ (ts : List (Nat × V)) (os : List (Nat × Ob)) (n : Nat) : St := { t := Vn ts, o := jk os, n }
theorem qG : ∀ (ts : List (Nat × V)) (i : Nat), Vn ts i = .top ∨ (i, Vn ts i) ∈ ts
  | [], i => .inl rfl
  | (k, v) :: r, i => by
    simp only [Vn]
    split
    · rename_i h; subst h; exact .inr (by simp)
    · rcases qG r i with h | h
      · exact .inl h
      · exact .inr (by simp [h])
theorem U2 : ∀ (os : List (Nat × Ob)) (i : Nat) (x : Ob), jk os i = some x → (i, x) ∈ os
  | [], i, x, h => by cases h
  | (k, v) :: r, i, x, h => by
    simp only [jk] at h
    split at h
    · rename_i e; subst e; cases h; simp
    · simp [U2 r i x h]
theorem Vj {α β : Type} {f : α → β} : ∀ {l : List α}, (l.map f).Nodup → ∀ {x y : α}, x ∈ l → y ∈ l → f x = f y → x = y
  | [], _, x, y, hx, _, _ => by cases hx
  | c :: l, h, x, y, hx, hy, he => by
    simp only [List.map_cons, List.nodup_cons] at h
    rcases List.mem_cons.1 hx with rfl | hx'
    · rcases List.mem_cons.1 hy with rfl | hy'
      · rfl
      · exact (h.1 (he ▸ List.mem_map_of_mem hy')).elim
    · rcases List.mem_cons.1 hy with rfl | hy'
      · exact (h.1 (he ▸ List.mem_map_of_mem hx')).elim
      · exact Vj h.2 hx' hy' he
theorem abF {m n : Nat} {s : St} (tau : List (Nat × Nat)) {ts : List (Nat × V)} {os : List (Nat × Ob)}
    (ht : ∀ p ∈ ts, s.t p.1 = p.2.ren (Yq tau) ∧ p.2.lt n)
    (ho : ∀ p ∈ os, p.1 < n ∧ ∃ x, s.o (Yq tau p.1) = some x ∧ x.weak (Yq tau) n p.2)
    (hn : (os.map fun p => Yq tau p.1).Nodup) (hf : ∀ p ∈ tau, m ≤ p.1) (hm : m ≤ n) : abp m (Yq tau) s (wJ ts os n) := by
  have keep : ∀ (l : List (Nat × Nat)), (∀ p ∈ l, m ≤ p.1) → ∀ k, k < m → Yq l k = k := by
    intro l
    induction l with
    | nil => intro _ k _; rfl
    | cons p l ih =>
      intro hl k hk
      have := hl p (by simp)
      simp only [Yq]
      rw [if_neg (by omega)]
      exact ih (fun q hq => hl q (by simp [hq])) k hk
  refine ⟨fun i => ?_, fun a y h => ho _ (U2 os a y h), fun a b ha hb hab => ?_, keep tau hf, hm⟩
  · rcases qG ts i with h | h
    · exact .inl h
    · exact .inr (ht _ h)
  · simp only [wJ] at ha hb
    obtain ⟨x, hx⟩ := Option.ne_none_iff_exists'.1 ha
    obtain ⟨y, hy⟩ := Option.ne_none_iff_exists'.1 hb
    have := Vj (f := fun p : Nat × Ob => Yq tau p.1) hn (U2 os a x hx) (U2 os b y hy) hab
    simpa using congrArg Prod.fst this
section
variable {C : Ctx} {nt : Nat} {s : St} {K : St → Prop} {E : Nat → St → Prop} {R : St → Prop}
theorem abh {c : AC} {s1 : St} {τ : Nat → Nat} (hw : abp C.m τ s s1) (h : AWp C nt c s1 K E R) : AWp C nt c s K E R :=
  fun code hc a w hs => h code hc a w (hs.weak hw)
theorem aas {x : AC} {ι : Type} (good : ι → Prop) (inv : ι → St) (msr : ι → Nat) (h0 : ∃ i τ, good i ∧ abp C.m τ s (inv i))
    (h : ∀ i, good i → AWp C nt x (inv i) (fun s' => ∃ i' τ, good i' ∧ msr i' < msr i ∧ abp C.m τ s' (inv i')) E R) : AWp C nt (.loop x) s K E R := by
  obtain ⟨i0, τ, hg, hw⟩ := h0
  refine abh hw (wh (fun k s' => ∃ i, good i ∧ msr i = k ∧ s' = inv i) ⟨msr i0, i0, hg, rfl, rfl⟩ ?_)
  rintro k s' ⟨i, hi, rfl, rfl⟩
  exact fun code hc a w hs => wp_mono (h i hi code hc a w hs) fun e a' w' hq => by
    cases e with
    | normal => obtain ⟨s', ⟨i', τ', h1, h2, h3⟩, h4⟩ := hq; exact ⟨inv i', ⟨msr i', h2, i', h1, rfl, rfl⟩, h4.weak h3⟩
    | exit i => exact hq
    | ret => exact hq
    | _ => exact hq.elim
end
end Av
end
section
namespace Av
open Go
def abO (o : Nat → Option Ob) (br : List Nat) (B : Option (List Nat)) : Ob → Ob → Prop
  | _, .dead => True
  | .box wr cs, .box wr' es => (wr' = true → wr = true) ∧ Jc o br B cs es
  | .buf wr s xs, .buf wr' s' ys => (wr' = true → wr = true) ∧ s = s' ∧ xs = ys
  | .obuf wr s xs, .obuf wr' s' ys => (wr' = true → wr = true) ∧ s = s' ∧ qX o br B xs ys
  | .buf wr s xs, .obuf wr' s' ys => (wr' = true → wr = true) ∧ s = s' ∧ xs = ys
  | .obuf wr s xs, .buf wr' s' ys => (wr' = true → wr = true) ∧ s = s' ∧ qX o br B xs ys ∧ KI ys
  | .typ T x, .typ T' y => T = T' ∧ abO o br B x y
  | _, _ => False
def acn (o : Nat → Option Ob) (br : List Nat) (B : Option (List Nat)) : List Nat → List Ob → Prop
  | [], [] => True
  | a :: r, y :: r' => (∃ x, o a = some x ∧ abO o br B x y) ∧ acn o br B r r'
  | _, _ => False
theorem xM {o : Nat → Option Ob} {br : List Nat} {B : Option (List Nat)} : ∀ {l : List Nat} {outs : List Ob}, acn o br B l outs → l.length = outs.length ∧ ∀ (k : Nat) (y : Ob), outs[k]? = some y → ∃ a x, l[k]? = some a ∧ o a = some x ∧ abO o br B x y
  | [], [], _ => ⟨rfl, fun k y h => by simp at h⟩
  | [], _ :: _, h => h.elim
  | _ :: _, [], h => h.elim
  | a :: r, y :: r', h => by
    obtain ⟨⟨x, h1, h1'⟩, h2⟩ := h
    obtain ⟨l1, l2⟩ := xM h2
    refine ⟨by simp [l1], fun k y' hy => ?_⟩
    cases k with
    | zero => simp at hy; subst hy; exact ⟨a, x, rfl, h1, h1'⟩
    | succ k => simpa using l2 k y' (by simpa using hy)
theorem VU {o : Nat → Option Ob} {br : List Nat} {B : Option (List Nat)} {c : Cn} : ∀ {x y : Ob}, abO o br B x y → y.live c → x.live c
  | _, .dead, _, hl => hl.elim
  | .typ _ x, .typ _ y, h, hl => VU (x := x) (y := y) h.2 hl
  | .box .., .box .., _, _ => trivial
  | .buf .., .buf .., _, hl => hl
  | .buf .., .obuf .., _, hl => hl
  | .obuf .., .obuf .., _, hl => hl
  | .obuf .., .buf .., _, hl => hl
  | .dead, .obuf .., h, _ => False.elim h
  | .box .., .obuf .., h, _ => False.elim h
  | .typ .., .obuf .., h, _ => False.elim h
  | .obuf .., .box .., h, _ => False.elim h
  | .obuf .., .typ .., h, _ => False.elim h
  | .dead, .box .., h, _ => False.elim h
  | .dead, .buf .., h, _ => False.elim h
  | .dead, .typ .., h, _ => False.elim h
  | .box .., .buf .., h, _ => False.elim h
  | .box .., .typ .., h, _ => False.elim h
  | .buf .., .box .., h, _ => False.elim h
  | .buf .., .typ .., h, _ => False.elim h
  | .typ .., .box .., h, _ => False.elim h
  | .typ .., .buf .., h, _ => False.elim h
section
variable {C : Ctx} {w : World} {Z : Nat → Nat → Prop} {μ : Nat → Option Cn} {o : Nat → Option Ob}
theorem Good.close (hg : Good C w Z μ o) {br : List Nat} {B : Option (List Nat)} {outs : List Ob} (hn : br.Nodup) (hl : acn o br B br outs) (hf : br.take C.m = List.range C.m) :
    Good C w (Zc Z o μ br B) (βc μ br) (fun k => outs[k]?) ∧ (∀ k, outs.length ≤ k → βc μ br k = none) ∧ C.m ≤ outs.length := by
  obtain ⟨hlen, hget⟩ := xM hl
  have hm : C.m ≤ br.length := by
    have := congrArg List.length hf
    simp at this; omega
  have kth : ∀ k y, outs[k]? = some y → ∃ a x c, br[k]? = some a ∧ o a = some x ∧ μ a = some c ∧ βc μ br k = some c ∧ abO o br B x y ∧ Up w Z μ c x ∧ (x.live c → c.block < w.heap.size ∧ (C.w0.heap.size ≤ c.block ∨ C.F c.block)) := by
    intro k y hy
    obtain ⟨a, x, h1, h2, h3⟩ := hget k y hy
    obtain ⟨c, hm, hok, hlv⟩ := hg.ob _ _ h2
    obtain ⟨hk, he⟩ := List.getElem?_eq_some_iff.1 h1
    exact ⟨a, x, c, h1, h2, hm, by simp [βc, hk, he, hm], h3, hok, hlv⟩
  have noZ : ∀ a x c, a ∈ br → o a = some x → μ a = some c → x.live c → ∀ i, Zc Z o μ br B c.block i → Z c.block i := by
    intro a x c ha hx hm hlv i h
    rcases h with h | ⟨a', x', c', _, hnb, hx', hm', hlv', hb', _⟩
    · exact h
    · exact (hg.sep a a' x x' c c' (fun e => hnb (e ▸ ha)) hx hx' hm hm' hlv hlv' hb'.symm).elim
  have open' : ∀ (wr wr' : Bool) (s : Nat) (xs ys : List V) {c : Cn}, (wr' = true → wr = true) → qX o br B xs ys → BOk w Z μ c wr s xs → (c.void = false → ∀ i, Zc Z o μ br B c.block i → Z c.block i) → BOk w (Zc Z o μ br B) (βc μ br) c wr' s ys := by
    intro wr wr' s xs ys c hw hc hok nz
    obtain ⟨hlc, hce⟩ := qW hc
    refine ⟨by have := hok.1; omega, fun hv => ?_⟩
    obtain ⟨h0, h1, h2, h3, h4, cs, ty, fr, h5, h6, h7, h8⟩ := hok.2 hv
    have hcc : ∀ i (hi : i < ys.length), ys[i].cells.length = s := fun i hi => by
      rw [← JD (hce i (by omega) hi)]; exact h4 i (by omega)
    refine ⟨h0, h1, fun e i h => h2 (hw e) i (nz hv i h), fun i h => h3 i (nz hv i h), hcc, cs, ty, fr, h5, h6, h7, fun i hi j hj => ?_⟩
    have h4i := h4 i (by omega)
    have hci := hcc i hi
    obtain ⟨u, e1, e2, e3⟩ := h8 i (by omega) j (by omega)
    exact ⟨u, e1, e2, WV hg br B _ _ _ _ (Nat.le_refl _) e3 (XA (hce i (by omega) hi) j (by omega) hj)⟩
  refine ⟨⟨fun k y hy => ?_, fun k k' y y' c c' hkk hy hy' hc hc' hlv hlv' => ?_, fun b i h => ?_, hg.grow, hg.frame, fun b i h => ?_, fun b i h => .inl (hg.zsup b i h), hg.zkeep, fun k hk => ?_, hg.oo⟩, fun k hk => ?_, by omega⟩
  · obtain ⟨a, x, c, ha, hx, hm, hβ, hc, hok, hlv⟩ := kth k y hy
    refine ⟨c, hβ, ?_, fun hly => hlv (VU hc hly)⟩
    have ha' := List.mem_of_getElem? ha
    have hnz : x.live c → ∀ i, Zc Z o μ br B c.block i → Z c.block i := fun hl => noZ a _ c ha' hx hm hl
    clear hx hlv hy
    induction y generalizing x with
    | dead => trivial
    | typ T y ih =>
      cases x with
      | typ T' x =>
        obtain ⟨rfl, hc⟩ : T' = T ∧ abO o br B x y := hc
        exact ⟨ih x hc hok.1 hnz, hok.2.1, fun hl => hok.2.2 (VU hc hl)⟩
      | _ => exact False.elim hc
    | box wr' es =>
      cases x <;> try exact False.elim hc
      rename_i wr cs
      replace hc : (wr' = true → wr = true) ∧ Jc o br B cs es := hc
      obtain ⟨hw, hc⟩ := hc
      obtain ⟨hvo, ⟨vs, ty, hb, hs, hr⟩, hz⟩ := hok
      have hlc := JD hc
      exact ⟨hvo, ⟨vs, ty, hb, by omega, fun j h h' => ⟨WV hg br B _ _ _ _ (Nat.le_refl _) (hr j (by omega) h').1 (XA hc j (by omega) h), (hr j (by omega) h').2⟩⟩,
        fun e i h => hz (hw e) i (hnz trivial i h)⟩
    | buf wr' s' ys =>
      cases x <;> try exact False.elim hc
      · rename_i wr s xs
        replace hc : (wr' = true → wr = true) ∧ s = s' ∧ xs = ys := hc
        obtain ⟨hw, rfl, rfl⟩ := hc
        refine ⟨hok.1, fun hv => ?_⟩
        obtain ⟨h0, h1, h2, h3, h4, cs, ty, fr, h5, h6, h7, h8⟩ := hok.2 hv
        have nz := hnz hv
        refine ⟨h0, h1, fun e i h => h2 (hw e) i (nz i h), fun i h => h3 i (nz i h), h4, cs, ty, fr, h5, h6, h7, fun i hi j hj => ?_⟩
        obtain ⟨u, e1, e2, e3⟩ := h8 i hi j hj
        exact ⟨u, e1, e2, e3.mono (fun _ _ _ => rfl) (fun _ _ h => .inl h) (fun _ _ h => h)⟩
      · rename_i wr s xs
        replace hc : (wr' = true → wr = true) ∧ s = s' ∧ qX o br B xs ys ∧ KI ys := hc
        obtain ⟨hw, rfl, hc, hcl⟩ := hc
        exact BOk.close (open' wr wr' s xs ys hw hc hok (fun hv => hnz hv)) (UP hcl)
    | obuf wr' s' ys =>
      cases x <;> try exact False.elim hc
      · rename_i wr s xs
        replace hc : (wr' = true → wr = true) ∧ s = s' ∧ xs = ys := hc
        obtain ⟨hw, rfl, rfl⟩ := hc
        have hok := BOk.lift (μ := βc μ br) hok
        refine ⟨hok.1, fun hv => ?_⟩
        obtain ⟨h0, h1, h2, h3, h4, cs, ty, fr, h5, h6, h7, h8⟩ := hok.2 hv
        have nz := hnz hv
        refine ⟨h0, h1, fun e i h => h2 (hw e) i (nz i h), fun i h => h3 i (nz i h), h4, cs, ty, fr, h5, h6, h7, fun i hi j hj => ?_⟩
        obtain ⟨u, e1, e2, e3⟩ := h8 i hi j hj
        exact ⟨u, e1, e2, e3.mono (fun _ _ _ => rfl) (fun _ _ h => .inl h) (fun _ _ h => h)⟩
      · rename_i wr s xs
        replace hc : (wr' = true → wr = true) ∧ s = s' ∧ qX o br B xs ys := hc
        obtain ⟨hw, rfl, hc⟩ := hc
        exact open' wr wr' s xs ys hw hc hok (fun hv => hnz hv)
  · obtain ⟨a, x, c1, ha, hx, hm, hβ, hcv, _, _⟩ := kth k y hy
    obtain ⟨a', x', c1', ha', hx', hm', hβ', hcv', _, _⟩ := kth k' y' hy'
    have e1 := hβ.symm.trans hc
    have e2 := hβ'.symm.trans hc'
    cases e1; cases e2
    exact hg.sep a a' x x' c c' (fun e => hkk (nodup_getElem? hn ha (e ▸ ha'))) hx hx' hm hm' (VU hcv hlv) (VU hcv' hlv')
  · rcases h with h | ⟨a, x, c, _, _, hx, hm, hlv, rfl, _⟩
    · exact hg.zlt b i h
    · obtain ⟨c', hm', _, hl'⟩ := hg.ob a x hx
      rw [hm] at hm'; cases hm'
      exact (hl' hlv).1
  · rcases h with h | ⟨a, x, c, _, _, hx, hm, hlv, rfl, _⟩
    · exact hg.zsub b i h
    · obtain ⟨c', hm', _, hl'⟩ := hg.ob a x hx
      rw [hm] at hm'; cases hm'
      exact .inr (hl' hlv).2
  · have hkb : br[k]? = some k := by
      have : (br.take C.m)[k]? = some k := by rw [hf]; simp [hk]
      rw [List.getElem?_take] at this
      simpa [hk] using this
    simp only [βc, hkb, Option.bind_some]
    exact hg.fix k hk
  · simp [βc, List.getElem?_eq_none (show br.length ≤ k by omega)]
end
structure Cl (m : Nat) (s s1 : St) : Prop where
  h : ∃ br B outs, (∀ i, conv s.o br B (s.t i) (s1.t i)) ∧ s1.o = (fun k => outs[k]?) ∧ s1.n = outs.length ∧ acn s.o br B br outs ∧ br.Nodup ∧ br.take m = List.range m
theorem Sim.close {C : Ctx} {nt n : Nat} {s s1 : St} {a : Act} {w : World} (h : Sim C nt n s a w) (hc : Cl C.m s s1) : Sim C nt s1.n s1 a w := by
  obtain ⟨br, B, outs, h1, h2, h3, h4, h5, h6⟩ := hc.h
  obtain ⟨Z, μ, hg, ht, hf, hm, hd, hn⟩ := h
  obtain ⟨e1, e2, e3⟩ := hg.close h5 h4 h6
  refine ⟨_, _, h2 ▸ e1, fun i => WV hg br B _ _ _ _ (Nat.le_refl _) (ht i) (h1 i), fun x hx => e2 x (by omega), by omega, hd, hn⟩
section
variable {C : Ctx} {nt : Nat} {s : St} {K : St → Prop} {E : Nat → St → Prop} {R : St → Prop}
end
end Av
end
section
namespace Av
open Go
inductive YJ where
  | tmp (t : Nat)
  | cell (a : Nat) (agg : Bool) (sz : Nat)
def abg (P : Program) : ResultVar → Option YJ
  | .tmp t => some (.tmp t)
  | .cell a t => match qj P t, Jl P t with | some g, some s => some (.cell a g s) | _, _ => none
def yU (P : Program) : List ResultVar → Option (List YJ)
  | [] => some []
  | r :: rs => match abg P r, yU P rs with | some a, some b => some (a :: b) | _, _ => none
def YJ.val (s : St) : YJ → AM V
  | .tmp t => .ret (s.t t)
  | .cell a g sz => .cellsAt (s.t a) fun cells off =>
      if g then .asrt (off + sz ≤ cells.length) (.ret (.agg ((cells.drop off).take sz))) else match cells[off]? with | some v => .ret v | none => .no
def y1 (s : St) : List YJ → (List V → Prop) → Prop
  | [], K => K []
  | r :: rs, K => (r.val s).wp s.o fun v => y1 s rs fun vs => K (v :: vs)
def aac : List V → V
  | [v] => v
  | vs => .tup vs
def jt (m : Nat) (rs : List YJ) (res : V) (outs : List Ob) (s : St) : Prop :=
  y1 s rs fun vs => ∃ br B, conv s.o br B (aac vs) res ∧ acn s.o br B br outs ∧ br.Nodup ∧ br.take m = List.range m
def Y9 (args : List V) (ins : List Ob) : St := { t := fun i => (args[i]?).getD .top, o := fun k => ins[k]?, n := ins.length }
def acw (a : Act) : ResultVar → Sem Value
  | .tmp t => pure (a.tmps.getD t undef)
  | .cell b t => do loadVar t (← asAddr (a.tmps.getD b undef))
section
variable {C : Ctx} {w : World} {Z : Nat → Nat → Prop} {μ : Nat → Option Cn}
theorem abP {a : Act} {s : St} (hg : Good C w Z μ s.o) (ht : ∀ i, Rep w Z μ (a.tmps.getD i undef) (s.t i)) {r : ResultVar} {x : YJ} (hx : abg C.P r = some x) {K : V → Prop} (h : (x.val s).wp s.o K) :
    ∃ v y, ((acw a r).run C.P w) = .ok v w ∧ Rep w Z μ v y ∧ K y := by
  cases r with
  | tmp t =>
    simp only [abg, Option.some.injEq] at hx; subst hx
    exact ⟨_, _, rfl, ht t, h⟩
  | cell b t =>
    simp only [abg] at hx
    split at hx
    · rename_i ag sz h1 h2
      simp only [Option.some.injEq] at hx; subst hx
      obtain ⟨cells, off, bb, oo, f, hv, h, hc⟩ := qZ hg (ht b) h
      cases ag with
      | true =>
        simp only [if_true] at h
        obtain ⟨hb, hk⟩ := h
        refine ⟨.agg ((List.range sz).map fun j => f (off + j)).toArray, _, ?_, ?_, hk⟩
        · have := WR h1 h2 w bb (oo + off) (fun j => f (off + j)) (fun j hj => by
            simp only [if_true] at hj
            rw [Nat.add_assoc]; exact (hc (off + j) (by omega)).1)
          simpa [acw, hv, asAddr] using this
        · refine .agg (by simp; omega) (fun j hj => ?_) (fun j hj hj' => ?_)
          · simp at hj; simp; exact (hc (off + j) (by omega)).2.1
          · simp at hj hj'; simp; exact (hc (off + j) (by omega)).2.2
      | false =>
        simp only [Bool.false_eq_true, if_false] at h
        split at h
        · rename_i u hu
          obtain ⟨ho, rfl⟩ := List.getElem?_eq_some_iff.1 hu
          refine ⟨f off, _, ?_, (hc off ho).2.2, h⟩
          have := WR h1 h2 w bb (oo + off) (fun j => f (off + j)) (fun j hj => by
            simp at hj; subst hj; exact (hc off ho).1)
          simpa [acw, hv, asAddr] using this
        · exact h.elim
    · cases hx
theorem xN {a : Act} {s : St} (hg : Good C w Z μ s.o) (ht : ∀ i, Rep w Z μ (a.tmps.getD i undef) (s.t i)) : ∀ {rs : List ResultVar} {xs : List YJ}, yU C.P rs = some xs → ∀ {K : List V → Prop}, y1 s xs K →
    ∃ vs ys, (rs.mapM (acw a)).run C.P w = .ok vs w ∧ vs.length = ys.length ∧ (∀ j (h : j < ys.length) (h' : j < vs.length), Rep w Z μ vs[j] ys[j]) ∧ K ys
  | [], xs, hx, K, h => by
    simp only [yU, Option.some.injEq] at hx; subst hx
    exact ⟨[], [], rfl, rfl, fun j h => by simp at h, h⟩
  | r :: rs, xs, hx, K, h => by
    simp only [yU] at hx
    split at hx
    · rename_i x xs' h1 h2
      simp only [Option.some.injEq] at hx; subst hx
      obtain ⟨v, y, e1, e2, e3⟩ := abP hg ht h1 h
      obtain ⟨vs, ys, f1, f2, f3, f4⟩ := xN hg ht h2 e3
      refine ⟨v :: vs, y :: ys, ?_, by simp [f2], fun j hj hj' => ?_, f4⟩
      · rw [List.mapM_cons]
        simp only [Sem.run_bind, e1, Result.andThen, f1]
        rfl
      · cases j with
        | zero => exact e2
        | succ j => simpa using f3 j (by simpa using hj) (by simpa using hj')
    · cases hx
end
structure Has (P : Program) (f : FuncId) (nt : Nat) (ac : AC) (rs : List YJ) : Prop where
  has : ∃ fn code, P.funcs[f]? = some fn ∧ fn.name ≠ "runtime.NumGoroutine" ∧ fn.body = some code ∧ fn.ntmps = nt ∧ V3 P nt code = some ac ∧ yU P fn.results.toList = some rs
theorem Has.own {P : Program} {f : FuncId} {nt : Nat} {ac : AC} {rs : List YJ} (h : Has P f nt ac rs) : Own P f := by
  obtain ⟨fn, code, h1, h2, h3, _⟩ := h.has
  exact ⟨fn, h1, h2, code, h3⟩
def acj (m : Nat) (rs : List YJ) (Q : V → List Ob → Prop) (s : St) : Prop := ∃ res outs, Q res outs ∧ jt m rs res outs s
theorem xy {Γ : Env} {f : FuncId} {nt : Nat} {ac : AC} {rs : List YJ} (hb : Has Γ.P f nt ac rs) {args : List V} {ins : List Ob} {Q : V → List Ob → Prop} (ha : args.length ≤ nt)
    (h : ∀ C : Ctx, C.env = Γ → C.m = ins.length → AWp C nt ac (Y9 args ins) (acj ins.length rs Q) (fun _ _ => False) (acj ins.length rs Q)) : EvP Γ f args ins Q := by
  intro C cargs hP hm hmu hg hF hsz hrep
  have hown := hb.own
  obtain ⟨fn, code, h1, h2, h3, h4, h5, h6⟩ := hb.has
  subst hP
  rw [YG hown]
  refine calls_of_wp h1 h3 ?_
  have hs : Sim C nt (Y9 args ins).n (Y9 args ins) { tmps := cargs ++ Array.replicate (fn.ntmps - cargs.size) undef, defers := [] } C.w0 := by
    refine ⟨C.Z0, C.μ0, hg, fun i => ?_, fun x hx => hmu x hx, by simp [Y9, hm], rfl, by simp; omega⟩
    simp only [Y9]
    rcases Nat.lt_or_ge i args.length with hi | hi
    · rw [List.getElem?_eq_getElem hi, Option.getD_some]
      have := hrep i hi (by omega)
      simpa [Array.getElem?_append, show i < cargs.size by omega] using this
    · rw [List.getElem?_eq_none hi]; exact .top
  refine wp_mono (h C rfl hm code h5 _ _ hs) ?_
  have fin : ∀ a' w', (∃ s, acj ins.length rs Q s ∧ Sim C nt s.n s a' w') → a'.defers = [] ∧ ∃ v, (results fn a'.tmps).run C.P w' = .ok v w' ∧
      ∃ res outs, Q res outs ∧ ∃ u Z' μ', Ending.returned v = .returned u ∧ Rep w' Z' μ' u res ∧ Good C w' Z' μ' (fun k => outs[k]?) ∧ ∀ k, outs.length ≤ k → μ' k = none := by
    rintro a' w' ⟨s, ⟨res, outs, hQ, he⟩, Z, μ, hg', ht, hf, hm', hd, hn⟩
    refine ⟨hd, ?_⟩
    obtain ⟨vs, ys, f1, f2, f3, br, B, f4, f6, f7, f8⟩ := xN hg' ht h6 he
    refine ⟨if h : vs.toArray.size = 1 then vs.toArray[0] else .tuple vs.toArray, ?_, ?_⟩
    · have e : results fn a'.tmps = (do let vs ← fn.results.mapM (acw a'); pure (if h : vs.size = 1 then vs[0] else .tuple vs)) := by
        unfold results
        congr 1
      rw [e, ← Array.toArray_toList (xs := fn.results), List.mapM_toArray]
      simp only [Sem.run_bind, Sem.run_map, f1]
      rfl
    · have hrep' : Rep w' Z μ (if h : vs.toArray.size = 1 then vs.toArray[0] else .tuple vs.toArray) (aac ys) := by
        by_cases h : vs.toArray.size = 1
        · rw [dif_pos h]
          have hl : vs.length = 1 := by simpa using h
          match ys, f2, f3 with
          | [y], _, f3 => simpa [aac] using f3 0 (by simp) (by omega)
          | [], f2, _ => rw [hl] at f2; cases f2
          | _ :: _ :: _, f2, _ => rw [hl] at f2; simp at f2
        · rw [dif_neg h]
          have hl : vs.length ≠ 1 := by simpa using h
          have : aac ys = .tup ys := by
            match ys, f2 with
            | [y], f2 => exact (hl f2).elim
            | [], _ => rfl
            | _ :: _ :: _, _ => rfl
          rw [this]
          exact .tup (by simpa using f2) (fun j h h' => by simpa using f3 j h (by simpa using h'))
      obtain ⟨e1, e2, e3⟩ := hg'.close (C := C) f7 f6 (by rw [hm]; exact f8)
      exact ⟨res, outs, hQ, _, _, _, rfl, WV hg' br B _ _ _ _ (Nat.le_refl _) hrep' f4, e1, e2⟩
  intro e a' w' hq
  cases e with
  | normal => exact fin a' w' hq
  | ret => exact fin a' w' hq
  | exit i => obtain ⟨s, h, _⟩ := hq; exact h.elim
  | _ => exact hq.elim
theorem Wo {Γ : Env} {f : FuncId} {nt : Nat} {ac : AC} {rs : List YJ} (hb : Has Γ.P f nt ac rs) {args : List V} {ins : List Ob} {res : V} {outs : List Ob} (ha : args.length ≤ nt)
    (h : ∀ C : Ctx, C.env = Γ → C.m = ins.length → AWp C nt ac (Y9 args ins) (jt ins.length rs res outs) (fun _ _ => False) (jt ins.length rs res outs)) : Ev Γ f args ins res outs :=
  (xy hb ha fun C hC hm => yj (h C hC hm) (fun s hs => ⟨res, outs, ⟨rfl, rfl⟩, hs⟩) (fun _ _ h => h) (fun s hs => ⟨res, outs, ⟨rfl, rfl⟩, hs⟩)).one
end Av
end
section
namespace Av
open Go
mutual
theorem Jg (σ : Nat → Nat) : ∀ v : V, v.closed → v.ren σ = v
  | .top, _ => rfl
  | .sc _, _ => rfl
  | .nn, _ => rfl
  | .sl _ _, _ => rfl
  | .hd _ _ _, h => h.elim
  | .ptr _ _, h => h.elim
  | .ept _ _ _, h => h.elim
  | .ro _ _, _ => rfl
  | .agg cs, h => by simp only [V.ren]; rw [Q5 σ cs h]
  | .tup cs, h => by simp only [V.ren]; rw [Q5 σ cs h]
  | .clo f cs, h => by simp only [V.ren]; rw [Q5 σ cs h]
theorem Q5 (σ : Nat → Nat) : ∀ cs : List V, Qc cs → VH σ cs = cs
  | [], _ => rfl
  | v :: r, h => by simp only [VH]; rw [Jg σ v h.1, Q5 σ r h.2]
end
mutual
theorem aam (n : Nat) : ∀ v : V, v.closed → v.lt n
  | .top, _ => trivial
  | .sc _, _ => trivial
  | .nn, _ => trivial
  | .sl _ _, _ => trivial
  | .hd _ _ _, h => h.elim
  | .ptr _ _, h => h.elim
  | .ept _ _ _, h => h.elim
  | .ro _ _, _ => trivial
  | .agg cs, h => Un n cs h
  | .tup cs, h => Un n cs h
  | .clo f cs, h => Un n cs h
theorem Un (n : Nat) : ∀ cs : List V, Qc cs → ltL n cs
  | [], _ => trivial
  | v :: r, h => ⟨aam n v h.1, Un n r h.2⟩
end
mutual
theorem xC (o : Nat → Option Ob) (br : List Nat) (B : Option (List Nat)) : ∀ v : V, v.closed → conv o br B v v
  | .top, _ => by simp [conv]
  | .sc _, _ => by simp [conv]
  | .nn, _ => by simp [conv]
  | .sl _ _, _ => by simp [conv]
  | .hd _ _ _, h => h.elim
  | .ptr _ _, h => h.elim
  | .ept _ _ _, h => h.elim
  | .ro _ _, _ => by simp [conv]
  | .agg cs, h => by simp only [conv]; exact Jd o br B cs h
  | .tup cs, h => by simp only [conv]; exact Jd o br B cs h
  | .clo _ cs, h => by simp only [conv]; exact ⟨trivial, Jd o br B cs h⟩
theorem Jd (o : Nat → Option Ob) (br : List Nat) (B : Option (List Nat)) : ∀ cs : List V, Qc cs → Jc o br B cs cs
  | [], _ => trivial
  | v :: r, h => ⟨xC o br B v h.1, Jd o br B r h.2⟩
end
theorem vi {s : St} : ∀ (rs : List YJ) (K K' : List V → Prop), (∀ vs, K vs → K' vs) → y1 s rs K → y1 s rs K' := by
  intro rs
  induction rs with
  | nil => intro K K' hk h; exact hk _ h
  | cons r rs ih =>
    intro K K' hk h
    have wpm : ∀ {α : Type} (m : AM α) (Q Q' : α → Prop), (∀ x, Q x → Q' x) → m.wp s.o Q → m.wp s.o Q' := by
      intro α m
      induction m with
      | no => intro _ _ _ h; exact h
      | ret x => intro _ _ hq h; exact hq _ h
      | asrt p m ih => intro _ _ hq h; exact ⟨h.1, ih _ _ hq h.2⟩
      | rd a k ih => intro _ _ hq h; obtain ⟨ob, h1, h2⟩ := h; exact ⟨ob, h1, ih _ _ _ hq h2⟩
      | any k ih => intro _ _ hq h b; exact ih b _ _ hq (h b)
    exact wpm _ _ _ (fun v hv => ih _ _ (fun vs hvs => hk _ hvs) hv) h
theorem wS {rs : List YJ} {res : V} {s : St} (h : y1 s rs fun vs => conv s.o [] none (aac vs) res) : jt 0 rs res [] s :=
  vi rs _ _ (fun _ hvs => ⟨[], none, hvs, trivial, List.nodup_nil, rfl⟩) h
theorem ve {Γ : Env} {b : Nat} {s : St} {d : Option Nat} {f : FuncId} {acts args : List V} {res : V} {K : St → Prop} (h : Ev Γ f args [] res []) (hc : Jc s.o [] none acts args) (hr : res.closed) (hn : res.noSl)
    (hk : K { t := (s.put d res).t, o := s.o, n := s.n }) : Uw Γ b s d f acts K := by
  refine WF ⟨args, [], res, [], [], none, h, hc, trivial, List.nodup_nil, fun x hx => by simp at hx, Nat.le_refl _, by simp [KK], fun _ => ⟨hn, fun x hx => by simp at hx⟩, ?_⟩
  rw [Jg _ _ hr]
  exact hk
theorem vd {Γ : Env} {b : Nat} {s : St} {d : Option Nat} {f : FuncId} {acts args : List V} {res : V} {K : St → Prop} (l : List Nat) (h : Ev Γ f args [] res []) (hc : Jc s.o [] (some l) acts args) (hr : res.closed)
    (hk : K { t := (s.put d res).t, o := KB (some l) [] s.o, n := s.n }) : Uw Γ b s d f acts K := by
  refine WF ⟨args, [], res, [], [], some l, h, hc, trivial, List.nodup_nil, fun x hx => by simp at hx, Nat.le_refl _, by simp [KK], fun h => by simp at h, ?_⟩
  rw [Jg _ _ hr]
  exact hk
end Av
end

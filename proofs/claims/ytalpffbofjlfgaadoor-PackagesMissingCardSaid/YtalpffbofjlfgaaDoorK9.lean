/- Strings as lists of bytes, lists of integers: what the operations do to them. -/
import Derived.Test.YtalpffbofjlfgaaDoorK8
import Derived.Laws.Strings
set_option linter.unusedVariables false
set_option linter.unusedSimpArgs false
section
namespace Av
open Go
theorem jr (l : List UInt8) : (⟨l.toArray⟩ : ByteArray).size = l.length := by simp [ByteArray.size]
theorem acX (a b : List UInt8) : (⟨a.toArray⟩ : ByteArray) ++ ⟨b.toArray⟩ = ⟨(a ++ b).toArray⟩ := by
  apply ByteArray.ext
  simp
theorem UR (l : List UInt8) : (⟨l.toArray⟩ : ByteArray).toList = l := by
  exact ByteArray.toList_mk l
theorem acW (l : List UInt8) (a b : Nat) : (⟨l.toArray⟩ : ByteArray).extract a b = ⟨((l.drop a).take (b - a)).toArray⟩ := by
  apply ByteArray.ext
  simp [List.extract_eq_take_drop]
theorem adx (a b : List UInt8) : jd .add ⟨a.toArray⟩ ⟨b.toArray⟩ = .asrt (a.length + b.length < 2 ^ 62) (.ret { v := V.str (a ++ b) }) := by
  simp only [jd, jr, acX]
theorem adw (a b : List UInt8) : jd .eql ⟨a.toArray⟩ ⟨b.toArray⟩ = .ret { v := .bool (a == b) } := by
  simp only [jd, UR]
theorem adr (a b : List UInt8) : jd .neq ⟨a.toArray⟩ ⟨b.toArray⟩ = .ret { v := .bool (!(a == b)) } := by
  simp only [jd, UR]
theorem ads (a b : List UInt8) : jd .lss ⟨a.toArray⟩ ⟨b.toArray⟩ = .ret { v := .bool (Op.bytesLess a b) } := by
  simp only [jd, UR]
theorem adt (a b : List UInt8) : jd .leq ⟨a.toArray⟩ ⟨b.toArray⟩ = .ret { v := .bool (Op.bytesLess a b || a == b) } := by
  simp only [jd, UR]
theorem adu (a b : List UInt8) : jd .gtr ⟨a.toArray⟩ ⟨b.toArray⟩ = .ret { v := .bool (!(Op.bytesLess a b || a == b)) } := by
  simp only [jd, UR]
theorem adv (a b : List UInt8) : jd .geq ⟨a.toArray⟩ ⟨b.toArray⟩ = .ret { v := .bool (!(Op.bytesLess a b)) } := by
  simp only [jd, UR]
end Av
end
section
namespace Av
open Go
theorem WK {α : Type} {l : List α} {k : Nat} {y : α} {r : List α} (h : l.drop k = y :: r) : k < l.length ∧ l[k]? = some y ∧ l.drop (k + 1) = r := by
  have hk : k < l.length := by
    rcases Nat.lt_or_ge k l.length with h' | h'
    · exact h'
    · rw [List.drop_of_length_le h'] at h; cases h
  rw [List.drop_eq_getElem_cons hk] at h
  simp only [List.cons.injEq] at h
  exact ⟨hk, by rw [List.getElem?_eq_getElem hk, h.1], h.2⟩
theorem Vt {α : Type} {l : List α} {k : Nat} (h : l.drop k = []) : l.length ≤ k := by simpa using h
theorem Yg {k : Nat} (h : k < 2 ^ 62) : IntKind.i64.wrap ((k : Int) + 1) = ((k + 1 : Nat) : Int) := by
  rw [Wq (by omega) (by omega)]; omega
def YL : List (Nat × V) → Nat → V → V
  | [], _, v => v
  | (j, u) :: r, k, v => if k = j then u else YL r k v
def ovT (ts : List (Nat × V)) : List (Nat × V) → List (Nat × V)
  | [] => []
  | (k, v) :: r => (k, YL ts k v) :: ovT ts r
def ltO (n : Nat) (o : Nat → Option Ob) : Prop := ∀ a x, o a = some x → a < n ∧ x.lt n
theorem VZ {n : Nat} {o : Nat → Option Ob} {a : Nat} {x : Ob} (h1 : a < n) (h2 : x.lt n) (h : ltO n o) : ltO n (upd o a (some x)) := by
  intro b y hb
  by_cases e : b = a
  · subst e; rw [Qr] at hb; cases hb; exact ⟨h1, h2⟩
  · rw [QT _ _ e] at hb; exact h b y hb
theorem WY {n : Nat} : ltO n (fun _ => none) := by intro a x h; cases h
def ltT (n : Nat) (l : List (Nat × V)) : Prop := ∀ p ∈ l, p.2.lt n
theorem VY {n : Nat} : ltT n [] := by intro p hp; cases hp
theorem WX {n k : Nat} {v : V} {r : List (Nat × V)} (h1 : v.lt n) (h : ltT n r) : ltT n ((k, v) :: r) := by
  intro p hp
  rcases List.mem_cons.1 hp with rfl | hp
  · exact h1
  · exact h p hp
def eqT (t : Nat → V) (τ : Nat → Nat) (l : List (Nat × V)) : Prop := ∀ p ∈ l, t p.1 = p.2.ren τ
theorem YP {t : Nat → V} {τ : Nat → Nat} : eqT t τ [] := by intro p hp; cases hp
theorem J7 {t : Nat → V} {τ : Nat → Nat} {k : Nat} {v : V} {r : List (Nat × V)} : eqT t τ ((k, v) :: r) ↔ t k = v.ren τ ∧ eqT t τ r := by
  constructor
  · intro h; exact ⟨h (k, v) (by simp), fun p hp => h p (by simp [hp])⟩
  · rintro ⟨h1, h2⟩ p hp
    rcases List.mem_cons.1 hp with rfl | hp
    · exact h1
    · exact h2 p hp
def okN (n m : Nat) (rn : List (Nat × Nat)) : Prop := (∀ p ∈ rn, n ≤ p.2 ∧ m ≤ p.1) ∧ (rn.map (·.2)).Nodup
theorem V0 : ∀ (rn : List (Nat × Nat)) (a : Nat), (Ja rn a = a ∧ ∀ p ∈ rn, p.1 ≠ a) ∨ (a, Ja rn a) ∈ rn
  | [], a => .inl ⟨rfl, by simp⟩
  | (k, v) :: r, a => by
    simp only [Ja]
    split
    · rename_i h; subst h; exact .inr (by simp)
    · rename_i h
      rcases V0 r a with ⟨h1, h2⟩ | h'
      · refine .inl ⟨h1, fun p hp => ?_⟩
        rcases List.mem_cons.1 hp with rfl | hp
        · exact fun e => h e.symm
        · exact h2 p hp
      · exact .inr (by simp [h'])
theorem abf {n m : Nat} {rn : List (Nat × Nat)} (h : okN n m rn) {a b : Nat} (ha : a < n) (hb : b < n) (e : Ja rn a = Ja rn b) : a = b := by
  rcases V0 rn a with ⟨h1, _⟩ | h1 <;> rcases V0 rn b with ⟨h2, _⟩ | h2
  · omega
  · have := (h.1 _ h2).1; simp only at this; omega
  · have := (h.1 _ h1).1; simp only at this; omega
  · have := VV h.2 h1 h2 e
    simpa using congrArg Prod.fst this
theorem abg {n m : Nat} {rn : List (Nat × Nat)} (h : okN n m rn) {k : Nat} (hk : k < m) : Ja rn k = k := by
  rcases V0 rn k with ⟨h1, _⟩ | h1
  · exact h1
  · have := (h.1 _ h1).2; simp only at this; omega
theorem aay (τ : Nat → Nat) (n : Nat) (x : Ob) (h : x.lt n) : (x.ren τ).weak τ n x := by
  induction x with
  | dead => trivial
  | typ T x ih => exact ⟨rfl, ih h⟩
  | box wr cs => exact ⟨fun h => h, rfl, h⟩
  | buf wr s xs => exact ⟨fun h => h, rfl, rfl⟩
  | obuf wr s xs => exact ⟨fun h => h, rfl, rfl, h⟩
  | map ks vs c0 => exact ⟨rfl, rfl, rfl, h⟩
  | iter a since seen last => exact ⟨rfl, h, rfl, rfl, rfl⟩
theorem acC {m n : Nat} {s : St} {l : List (Nat × V)} {o : Nat → Option Ob} (rn : List (Nat × Nat)) (hn : okN n m rn) (hm : m ≤ n) (hl : ltT n l) (hlo : ltO n o)
    (ht : eqT s.t (Ja rn) l) (ho : ∀ a, a < n → s.o (Ja rn a) = (o a).map (Ob.ren (Ja rn))) : vH m (Ja rn) s { t := Vm l, o := o, n := n } := by
  refine ⟨fun i => ?_, fun a y h => ?_, fun a b ha hb e => ?_, fun k hk => abg hn hk, hm⟩
  · rcases Uy l i with h | h
    · exact .inl h
    · exact .inr ⟨ht _ h, hl _ h⟩
  · obtain ⟨h1, h2⟩ := hlo a y h
    refine ⟨h1, _, ?_, aay (Ja rn) n y h2⟩
    have := ho a h1
    simp only at h
    rw [h] at this
    exact this
  · obtain ⟨x, hx⟩ := Option.ne_none_iff_exists'.1 ha
    obtain ⟨y, hy⟩ := Option.ne_none_iff_exists'.1 hb
    exact abf hn (hlo a x hx).1 (hlo b y hy).1 e
section
variable {C : Ctx} {nt : Nat} {K : St → Prop} {E : Nat → St → Prop} {R : St → Prop}
theorem adJ : ∀ (k : Nat) (v : V), SizeOf.sizeOf v ≤ k → v.ren (fun a => a) = v := by
  intro k
  induction k with
  | zero => intro v h; cases v <;> simp at h
  | succ k ih =>
    intro v h
    have list : ∀ cs : List V, SizeOf.sizeOf cs ≤ k → W3 (fun a => a) cs = cs := by
      intro cs
      induction cs with
      | nil => intro _; rfl
      | cons u r ihr => intro hs; simp at hs; simp only [W3]; rw [ih u (by omega), ihr (by omega)]
    cases v <;> simp only [V.ren] <;> simp at h
    all_goals (rw [list _ (by omega)])
theorem yz (v : V) : v.ren (fun a => a) = v := adJ _ v (Nat.le_refl _)
theorem aeq (cs : List V) : W3 (fun a => a) cs = cs := by induction cs with
  | nil => rfl
  | cons v r ih => simp only [W3, yz, ih]
theorem aep (x : Ob) : x.ren (fun a => a) = x := by induction x <;> simp_all [Ob.ren, aeq]
theorem jP : Ja [] = fun a => a := by funext a; rfl
theorem Wg {ks : List Nat} {x : AC} {base : List (Nat × V)} {o0 : Nat → Option Ob} {n0 : Nat} {ι : Type} (good : ι → Prop) (ts : ι → List (Nat × V)) (msr : ι → Nat) (i0 : ι)
    (hm : C.m ≤ n0) (h0 : good i0) (hlo : ltO n0 o0) (hl : ∀ i, good i → ltT n0 (ovT (ts i) base)) (ht : eqT (Vm base) (fun a => a) (ovT (ts i0) base))
    (h : ∀ i, good i → ∀ K' : St → Prop, (∀ s' i', eqT s'.t (fun a => a) (ovT (ts i') base) → good i' → msr i' < msr i → (∀ a, a < n0 → s'.o a = o0 a) → K' s') →
      AWp C nt x { t := Vm (ovT (ts i) base), o := o0, n := n0 } K' E R) : AWp C nt (VC ks x) { t := Vm base, o := o0, n := n0 } K E R := by
  have hn : okN n0 C.m [] := ⟨by simp, by simp⟩
  have ren0 : ∀ oo : Nat → Option Ob, ∀ a, (oo a).map (Ob.ren (Ja [])) = oo a := by
    intro oo a
    rw [jP]
    cases oo a with
    | none => rfl
    | some x => simp [aep]
  refine Wf good (fun i => { t := Vm (ovT (ts i) base), o := o0, n := n0 }) msr i0 h0 (Ja []) (acC [] hn hm (hl i0 h0) hlo (by rw [jP]; exact ht) (fun a _ => (ren0 o0 a).symm)) ?_
  intro i hi K' hK
  exact h i hi K' fun s' i' h1 h2 h3 h4 => hK s' i' (Ja []) h2 h3 (acC [] hn hm (hl i' h2) hlo (by rw [jP]; exact h1) (fun a ha => (h4 a ha).trans (ren0 o0 a).symm))
end
end Av
end
section
namespace Av
open Go
def awR (A W : Nat → Bool) (b : Nat) (s : St) (d : Option Nat) (J : St → Prop) (m : AM E) : Prop := m.wp (J8 A s.o) fun e => okW W b e.os ∧ J (s.eff d e)
def JV (A W : Nat → Bool) (b : Nat) (s : St) (d : Option Nat) (J : St → Prop) (k : Ob → AM E) (x : Option Ob) : Prop :=
  match x with
  | some ob => awR A W b s d J (k ob)
  | none => False
def Xo (Γ : Env) (A W : Nat → Bool) (b : Nat) (s : St) (x : AO) (J : St → Prop) : Prop := awG Γ A W b s x J
def Xe (Γ : Env) (fz : Nat → Bool) (b0 : Nat) (K : St → Prop) (t : OP) (s : St) : Prop := awP Γ fz b0 K t s
def jH (Γ : Env) (fz : Nat → Bool) (b0 : Nat) (K : St → Prop) (t : OP) (s : St) : Prop := adA Γ fz b0 K t s
def Wm (Γ : Env) (A W : Nat → Bool) (b : Nat) (s : St) (x : AO) (g : Nat) (want : Bool) (v : V) (J : St → Prop) : Prop :=
  match v with
  | .sc (.bool q) => (q = want → Xo Γ A W b (s.put (some g) (.bool want)) { d := x.d, op := x.op } J) ∧ (q = !want → J ((s.put (some g) (.bool !want)).put x.d V.und))
  | .tup [] => J (s.put x.d V.und)
  | _ => False
def JT (Γ : Env) (A W : Nat → Bool) (b : Nat) (s : St) (d : Option Nat) (v : V) (acts : List V) (J : St → Prop) : Prop :=
  match v with
  | .clo f cap => QS Γ A W b s d f.f (f.args acts cap) J
  | _ => False
section
variable {Γ : Env} {A W : Nat → Bool} {fz : Nat → Bool} {b b0 : Nat} {s : St} {d : Option Nat} {J K : St → Prop}
theorem aaJ : Xe Γ fz b0 K .done s ↔ K s := by simp only [Xe, awP]
theorem abM {j : Nat} {X : Bool} {acl : List Nat} {x : AO} {t : OP} : Xe Γ fz b0 K (.one j X acl x t) s ↔ Xo Γ (rA X acl fz b0) (rW X acl fz b0) (b0 + j * KK) s x (Xe Γ fz b0 K t) := by
  simp only [Xe, awP, Xo]; exact Iff.rfl
theorem ac1 {j : Nat} {X : Bool} {acl : List Nat} {x : AO} {t r : OP} : Xe Γ fz b0 K (.or j X acl x t r) s ↔ Xo Γ (rA X acl fz b0) (rW X acl fz b0) (b0 + j * KK) s x (Xe Γ fz b0 K t) ∧ jH Γ fz b0 K r s := by
  simp only [Xe, jH, awP, Xo]; exact Iff.rfl
theorem abN {j : Nat} {X : Bool} {acl : List Nat} {x : AO} {t r : OP} : jH Γ fz b0 K (.or j X acl x t r) s ↔ Xo Γ (rA X acl fz b0) (rW X acl fz b0) (b0 + j * KK) s x (Xe Γ fz b0 K t) ∧ jH Γ fz b0 K r s := by
  simp only [Xe, jH, adA, Xo]; exact Iff.rfl
theorem vN : jH Γ fz b0 K .done s ↔ True := by simp only [jH, adA]
theorem vP {x : Opd} {as : List Opd} : Xo Γ A W b s ⟨d, .callv x as, none⟩ J ↔ JT Γ A W b s d (s.ev x) (as.map s.ev) J := by
  simp only [Xo, awG, abD, JT]
  cases s.ev x <;> rfl
theorem adH {aop : AOp} {g : Nat} {want : Bool} : Xo Γ A W b s ⟨d, aop, some (g, want)⟩ J ↔ Wm Γ A W b s ⟨d, aop, none⟩ g want (s.t g) J := by
  simp only [Xo, awG]
  constructor
  · rintro ⟨q, hq, h1, h2⟩
    unfold Wm
    rcases q with _ | q
    · have hq : s.t g = .tup [] := hq
      rw [hq]
      exact h2 (by simp)
    · have hq : s.t g = .bool q := hq
      rw [hq]
      refine ⟨fun e => ?_, fun e => ?_⟩
      · rw [Vo (by rw [hq, e])]; exact h1 (by rw [e])
      · rw [Vo (by rw [hq, e])]
        exact h2 (by rw [e]; cases want <;> simp)
  · intro h
    unfold Wm at h
    split at h
    · rename_i q hq
      refine ⟨some q, hq, fun e => ?_, fun e => ?_⟩
      · cases e
        have := h.1 rfl
        rw [Vo hq] at this
        exact this
      · have e' : q = !want := by cases q <;> cases want <;> simp_all
        have := h.2 e'
        rw [Vo (by rw [hq, e'])] at this
        exact this
    · rename_i hq
      exact ⟨none, hq, (fun e => by cases e), fun _ => h⟩
    · exact h.elim
theorem ad6 {a : Nat} {k : Ob → AM E} : awR A W b s d J (.rd a k) ↔ JV A W b s d J k (J8 A s.o a) := by
  unfold JV
  cases h : J8 A s.o a with
  | none => simp [awR, AM.wp, h]
  | some ob => simp [awR, AM.wp, h]
theorem vQ (A : Nat → Bool) (o : Nat → Option Ob) (a : Nat) : J8 A o a = if A a = true then o a else none := rfl
theorem adb : okW W b [] ↔ True := by simp [okW]
theorem ab3 {q : Nat × Ob} {r : List (Nat × Ob)} : okW W b (q :: r) ↔ (W q.1 || (decide (b ≤ q.1) && decide (q.1 < b + KK))) = true ∧ okW W b r := by simp [okW]
theorem aea {f : FuncId} {acts : List V} {res : V} (hc : Jf (J8 A s.o) none acts) (h : EvN Γ f (Yc (J8 A s.o) acts) res) (hk : J { t := (s.put d res).t, o := s.o, n := s.n }) : QS Γ A W b s d f acts J :=
  ado h.1 rfl hc h.2.1 h.2.2 hk
theorem aec {f : FuncId} {acts : List V} {res : V} (hc : Jf (J8 A s.o) (some []) acts) (h : EvC Γ f (Yc (J8 A s.o) acts) res) (hk : J { t := (s.put d res).t, o := s.o, n := s.n }) : QS Γ A W b s d f acts J :=
  adp h.1 rfl hc h.2 hk
end
section
variable {C : Ctx} {nt : Nat} {s : St} {K : St → Prop} {E : Nat → St → Prop} {R : St → Prop}
theorem Qy {ks L : List Nat} {ot : OT} {p : OP} {ops : List AO} {ahead : List (List Nat)} {y : AC} (N : Nat) (fz : Nat → Bool) (hN : ops.length = N) (hc : okR ops ahead L ot = true) (hp : Y6 (ris ops ahead L) ot = p)
    (h : ∀ K' : St → Prop, (∀ s', AWp C nt y s' K E R → K' s') → Xe C.env fz s.n (fun s' => K' ((s'.wn (s.n + N * KK)).keep ks)) p s) : AWp C nt (QP ks (aaM L ot p ops ahead) y) s K E R := by
  subst hN
  exact Qf (vB fz hc hp (h _ fun _ h => h))
theorem Qz {L : List Nat} {ot : OT} {p : OP} {ops : List AO} {ahead : List (List Nat)} (N : Nat) (fz : Nat → Bool) (hN : ops.length = N) (hc : okR ops ahead L ot = true) (hp : Y6 (ris ops ahead L) ot = p)
    (h : ∀ K' : St → Prop, (∀ s', K s' → K' s') → Xe C.env fz s.n (fun s' => K' (s'.wn (s.n + N * KK))) p s) : AWp C nt (aaM L ot p ops ahead) s K E R := by
  subst hN
  exact vB fz hc hp (h _ fun _ h => h)
end
end Av
end
section
set_option linter.unusedVariables false
namespace Av
open Go
def aej (o : Nat → Option Ob) (off len : Nat) : Option Ob → V
  | some (.buf _ s xs) => .sl s ((xs.drop off).take len)
  | some (.obuf _ s xs) => .sl s (WI o ((xs.drop off).take len))
  | _ => .top
def hdC (o : Nat → Option Ob) (br : List Nat) (B : Option (List Nat)) (off len s : Nat) (ys : List V) : Option Ob → Prop
  | some (.buf _ s1 xs) => s1 = s ∧ ys = (xs.drop off).take len
  | some (.obuf _ s1 xs) => s1 = s ∧ JL o br B ((xs.drop off).take len) ys ∧ ntL ys ∧ Qg ys
  | _ => False
theorem adY (o : Nat → Option Ob) (br : List Nat) (B : Option (List Nat)) (a off len s : Nat) (ys : List V) : conv o br B (.hd a off len) (.sl s ys) ↔ okB B a ∧ a ∉ br ∧ hdC o br B off len s ys (o a) := by
  rw [aeD]; unfold hdC; constructor
  · rintro ⟨h1, h2, ⟨wr, xs, h3, h4⟩ | ⟨wr, xs, h3, h4⟩⟩ <;> rw [h3] <;> exact ⟨h1, h2, rfl, h4⟩
  · rintro ⟨h1, h2, h3⟩; split at h3
    · rename_i wr s1 xs e; obtain ⟨rfl, h4⟩ := h3; exact ⟨h1, h2, .inl ⟨wr, xs, e, h4⟩⟩
    · rename_i wr s1 xs e; obtain ⟨rfl, h4⟩ := h3; exact ⟨h1, h2, .inr ⟨wr, xs, e, h4⟩⟩
    · exact h3.elim
def acZ (off : Nat) : Option Ob → V
  | some (.box _ cs) => .ro cs off
  | _ => .top
def awB (q want : Bool) (A B : Prop) : Prop := (q = want → A) ∧ (q = !want → B)
@[congr] theorem aee {q q2 want : Bool} {A B : Prop} (h : q = q2) : awB q want A B = awB q2 want A B := by rw [h]
@[go_sem ↓] theorem ae4 {A B : Prop} : awB true true A B = A := by simp [awB]
@[go_sem ↓] theorem ae3 {A B : Prop} : awB false true A B = B := by simp [awB]
@[go_sem ↓] theorem ae2 {A B : Prop} : awB true false A B = B := by simp [awB]
@[go_sem ↓] theorem ae1 {A B : Prop} : awB false false A B = A := by simp [awB]
theorem QY {q : Bool} {A B : Prop} (h1 : q = true → A) (h2 : q = false → B) : awB q true A B := ⟨h1, h2⟩
theorem QZ {q : Bool} {A B : Prop} (h1 : q = false → A) (h2 : q = true → B) : awB q false A B := ⟨h1, h2⟩
section
variable {Γ : Env} {A W : Nat → Bool} {fz : Nat → Bool} {b b0 : Nat} {r : List AO} {s : St} {d : Option Nat} {J K : St → Prop} {o : Nat → Option Ob} {br : List Nat} {B : Option (List Nat)}
@[go_sem] theorem u1 : Y0 Γ b [] s K = K { t := s.t, o := s.o, n := b } := propext Iff.rfl
@[go_sem] theorem u2 {x : AO} : Y0 Γ b (x :: r) s K = (match x.g with | none => (match x.op with | .call f as => awC Γ b r s x.d f (as.map s.ev) K | .callv y as => Wo Γ b r s x.d (s.ev y) (as.map s.ev) K | op => awS Γ b r s x.d K (sem b s.ev op)) | some (g, want) => awQ Γ b r s ⟨x.d, x.op, none⟩ g want (s.t g) K) := by
  obtain ⟨d, op, g⟩ := x
  cases g with
  | some p => obtain ⟨g, want⟩ := p; exact propext adG
  | none =>
    cases op
    case callv y as => exact propext vO
    all_goals rfl
@[go_sem] theorem u3 {f : FuncId} {cap acts : List V} : Wo Γ b r s d (.clo (.n f) cap) acts K = awC Γ b r s d f (acts ++ cap) K := propext Iff.rfl
@[go_sem] theorem u4 {x : AO} {g : Nat} {want q : Bool} : awQ Γ b r s x g want (.sc (.bool q)) K = awB q want (Y0 Γ b (⟨x.d, x.op, none⟩ :: r) (s.put (some g) (.bool want)) K) (Y0 Γ (b + KK) r ((s.put (some g) (.bool !want)).put x.d V.und) K) := propext Iff.rfl
@[go_sem] theorem u5 {x : AO} {g : Nat} {want : Bool} : awQ Γ b r s x g want (.tup []) K = Y0 Γ (b + KK) r (s.put x.d V.und) K := propext Iff.rfl
@[go_sem] theorem u6 {e : E} : awS Γ b r s d K (.ret e) = Y0 Γ (b + KK) r (s.eff d e) K := propext Iff.rfl
@[go_sem] theorem u7 {p : Prop} {m : AM E} : awS Γ b r s d K (.asrt p m) = (p ∧ awS Γ b r s d K m) := propext Iff.rfl
@[go_sem] theorem u8 {a : Nat} {k : Ob → AM E} : awS Γ b r s d K (.rd a k) = Wp Γ b r s d K k (s.o a) := propext ad5
@[go_sem] theorem u9 {k : Bool → AM E} : awS Γ b r s d K (.any k) = ∀ t, awS Γ b r s d K (k t) := propext Iff.rfl
@[go_sem] theorem u10 : awS Γ b r s d K .no = False := propext Iff.rfl
@[go_sem] theorem u11 {k : Ob → AM E} {ob : Ob} : Wp Γ b r s d K k (some ob) = awS Γ b r s d K (k ob) := propext Iff.rfl
@[go_sem] theorem u12 : Xe Γ fz b0 K .done s = K s := propext aaJ
@[go_sem] theorem u13 {j : Nat} {X : Bool} {acl : List Nat} {x : AO} {t r : OP} : Xe Γ fz b0 K (.or j X acl x t r) s = (Xo Γ (rA X acl fz b0) (rW X acl fz b0) (b0 + j * KK) s x (Xe Γ fz b0 K t) ∧ jH Γ fz b0 K r s) := propext ac1
@[go_sem] theorem u14 {j : Nat} {X : Bool} {acl : List Nat} {x : AO} {t r : OP} : jH Γ fz b0 K (.or j X acl x t r) s = (Xo Γ (rA X acl fz b0) (rW X acl fz b0) (b0 + j * KK) s x (Xe Γ fz b0 K t) ∧ jH Γ fz b0 K r s) := propext abN
@[go_sem] theorem u15 {j : Nat} {X : Bool} {acl : List Nat} {x : AO} {t : OP} : Xe Γ fz b0 K (.one j X acl x t) s = Xo Γ (rA X acl fz b0) (rW X acl fz b0) (b0 + j * KK) s x (Xe Γ fz b0 K t) := propext abM
@[go_sem] theorem u16 : jH Γ fz b0 K .done s = True := propext vN
@[go_sem] theorem u17 {x : AO} : Xo Γ A W b s x J = (match x.g with | none => (match x.op with | .call f as => QS Γ A W b s x.d f (as.map s.ev) J | .callv y as => JT Γ A W b s x.d (s.ev y) (as.map s.ev) J | op => awR A W b s x.d J (sem b s.ev op)) | some (g, want) => Wm Γ A W b s ⟨x.d, x.op, none⟩ g want (s.t g) J) := by
  obtain ⟨d, op, g⟩ := x
  cases g with
  | some p => obtain ⟨g, want⟩ := p; exact propext adH
  | none =>
    cases op
    case callv y as => exact propext vP
    all_goals rfl
@[go_sem] theorem u18 {f : FuncId} {cap acts : List V} : JT Γ A W b s d (.clo (.n f) cap) acts J = QS Γ A W b s d f (acts ++ cap) J := propext Iff.rfl
@[go_sem] theorem u19 {x : AO} {g : Nat} {want q : Bool} : Wm Γ A W b s x g want (.sc (.bool q)) J = awB q want (Xo Γ A W b (s.put (some g) (.bool want)) ⟨x.d, x.op, none⟩ J) (J ((s.put (some g) (.bool !want)).put x.d V.und)) := propext Iff.rfl
@[go_sem] theorem u20 {x : AO} {g : Nat} {want : Bool} : Wm Γ A W b s x g want (.tup []) J = J (s.put x.d V.und) := propext Iff.rfl
@[go_sem] theorem u21 : awR A W b s d J .no = False := propext Iff.rfl
@[go_sem] theorem u22 {e : E} : awR A W b s d J (.ret e) = (okW W b e.os ∧ J (s.eff d e)) := propext Iff.rfl
@[go_sem] theorem u23 {p : Prop} {m : AM E} : awR A W b s d J (.asrt p m) = (p ∧ awR A W b s d J m) := propext Iff.rfl
@[go_sem] theorem u24 {a : Nat} {k : Ob → AM E} : awR A W b s d J (.rd a k) = JV A W b s d J k (J8 A s.o a) := propext ad6
@[go_sem] theorem u25 {k : Ob → AM E} {ob : Ob} : JV A W b s d J k (some ob) = awR A W b s d J (k ob) := propext Iff.rfl
@[go_sem] theorem u26 {A : Nat → Bool} {o : Nat → Option Ob} {a : Nat} : J8 A o a = if A a = true then o a else none := rfl
@[go_sem] theorem u27 {W : Nat → Bool} {b : Nat} : okW W b [] = True := propext adb
@[go_sem] theorem u28 {W : Nat → Bool} {b : Nat} {q : Nat × Ob} {r : List (Nat × Ob)} : okW W b (q :: r) = ((W q.1 || (decide (b ≤ q.1) && decide (q.1 < b + KK))) = true ∧ okW W b r) := propext ab3
@[go_sem] theorem u29 {X : Bool} {acl : List Nat} {fz : Nat → Bool} {b0 a : Nat} : rA X acl fz b0 a = ((decide (a < b0) && (X || fz a)) || acl.any fun i => decide (b0 + i * KK ≤ a) && decide (a < b0 + i * KK + KK)) := rfl
@[go_sem] theorem u30 {X : Bool} {acl : List Nat} {fz : Nat → Bool} {b0 a : Nat} : rW X acl fz b0 a = (X && ((decide (a < b0) && !fz a) || acl.any fun i => decide (b0 + i * KK ≤ a) && decide (a < b0 + i * KK + KK))) := rfl
@[go_sem] theorem u31 {s : St} {n : Nat} : s.wn n = { t := s.t, o := s.o, n := n } := rfl
@[go_sem] theorem u32 {ks : List Nat} {s : St} : s.keep ks = { t := Vm (ks.map fun k => (k, s.t k)), o := s.o, n := s.n } := rfl
@[go_sem] theorem u33 {α : Type} {f : Nat → α} {a : Nat} {v : α} {i : Nat} : upd f a v i = if i = a then v else f i := rfl
@[go_sem] theorem u34 {k : Nat} {v : V} {r : List (Nat × V)} {i : Nat} : Vm ((k, v) :: r) i = if i = k then v else Vm r i := rfl
@[go_sem] theorem u35 {i : Nat} : Vm [] i = .top := rfl
@[go_sem] theorem u36 {k : Nat} {v : Ob} {r : List (Nat × Ob)} {i : Nat} : yh ((k, v) :: r) i = if i = k then some v else yh r i := rfl
@[go_sem] theorem u37 {i : Nat} : yh [] i = none := rfl
@[go_sem] theorem u38 {args : List V} {ins : List Ob} : W7 args ins = { t := fun i => (args[i]?).getD .top, o := fun k => ins[k]?, n := ins.length } := rfl
@[go_sem] theorem u39 {ts : List (Nat × V)} {os : List (Nat × Ob)} {n : Nat} : q8 ts os n = { t := Vm ts, o := yh os, n := n } := rfl
@[go_sem] theorem u40 {α : Type} : ([] : List α).length = 0 := rfl
@[go_sem] theorem u41 {α : Type} {a : α} {l : List α} : (a :: l).length = l.length + 1 := rfl
@[go_sem] theorem u42 {α : Type} {a : α} {l : List α} : (a :: l)[0]? = some a := rfl
@[go_sem] theorem u43 {α : Type} {a : α} {l : List α} {i : Nat} : (a :: l)[i + 1]? = l[i]? := rfl
@[go_sem] theorem u44 {α : Type} {a b : α} : (some a).getD b = a := rfl
@[go_sem] theorem u45 {α : Type} {b : α} : (none : Option α).getD b = b := rfl
@[go_sem] theorem u46 {α β : Type} {f : α → β} : (none : Option α).map f = none := rfl
@[go_sem] theorem u47 {α β : Type} {f : α → β} {a : α} : (some a).map f = some (f a) := rfl
@[go_sem] theorem u48 {α β : Type} {f : α → β} : ([] : List α).map f = [] := rfl
@[go_sem] theorem u49 {α β : Type} {f : α → β} {a : α} {l : List α} : (a :: l).map f = f a :: l.map f := rfl
@[go_sem] theorem u50 {α : Type} {l : List α} : [] ++ l = l := rfl
@[go_sem] theorem u51 {α : Type} {a : α} {l r : List α} : (a :: l) ++ r = a :: (l ++ r) := rfl
@[go_sem] theorem u52 {α : Type} {l : List α} : l.take 0 = [] := rfl
@[go_sem] theorem u53 {α : Type} {a : α} {l : List α} {n : Nat} : (a :: l).take (n + 1) = a :: l.take n := rfl
@[go_sem] theorem u54 {α : Type} {l : List α} : l.drop 0 = l := rfl
@[go_sem] theorem u55 {α : Type} {a : α} {l : List α} {n : Nat} : (a :: l).drop (n + 1) = l.drop n := rfl
@[go_sem] theorem u56 {α : Type} {p : α → Bool} : ([] : List α).any p = false := rfl
@[go_sem] theorem u57 {α : Type} {p : α → Bool} {a : α} {l : List α} : (a :: l).any p = (p a || l.any p) := rfl
@[go_sem] theorem u58 {α β : Type} {f : β → α → β} {b : β} : ([] : List α).foldl f b = b := rfl
@[go_sem] theorem u59 {α β : Type} {f : β → α → β} {b : β} {a : α} {l : List α} : (a :: l).foldl f b = l.foldl f (f b a) := rfl
@[go_sem] theorem u60 {α : Type} {a : α} : List.replicate 0 a = [] := rfl
@[go_sem] theorem u61 {α : Type} {n : Nat} {a : α} : List.replicate (n + 1) a = a :: List.replicate n a := rfl
@[go_sem] theorem u62 {α : Type} {a b : α} {l : List α} : (a :: l).set 0 b = b :: l := rfl
@[go_sem] theorem u63 {α : Type} {a b : α} {l : List α} {n : Nat} : (a :: l).set (n + 1) b = a :: l.set n b := rfl
@[go_sem] theorem u64 {n : Nat} : n + 0 = n := rfl
@[go_sem] theorem u65 {n : Nat} : (n : Int).toNat = n := rfl
@[go_sem] theorem u66 {α : Type} {i : Nat} : ([] : List α)[i]? = none := by simp
@[go_sem] theorem u67 {α : Type} {l : List α} : l ++ [] = l := by simp
@[go_sem] theorem u68 {α : Type} {n : Nat} : ([] : List α).take n = [] := by simp
@[go_sem] theorem u69 {α : Type} {n : Nat} : ([] : List α).drop n = [] := by simp
@[go_sem] theorem u70 {n : Nat} : 0 + n = n := by simp
@[go_sem] theorem u71 {n : Nat} : (0 ≤ (n : Int)) = True := by simp
@[go_sem] theorem u72 {n : Nat} : (n ≤ n) = True := by simp
@[go_sem] theorem u73 {α : Type} {p : α → Prop} {a : α} {l : List α} : (∀ x ∈ a :: l, p x) = (p a ∧ ∀ x ∈ l, p x) := by simp
@[go_sem] theorem u74 {α : Type} {p : α → Prop} : (∀ x ∈ ([] : List α), p x) = True := by simp
@[go_sem] theorem u75 {α : Type} {a : α} : (a ∈ ([] : List α)) = False := by simp
@[go_sem] theorem u76 {p : Prop} : (True ∧ p) = p := by simp
@[go_sem] theorem u77 {p : Prop} : (p ∧ True) = p := by simp
@[go_sem] theorem u78 {p : Prop} : (False ∧ p) = False := by simp
@[go_sem] theorem u79 {p : Prop} : (True ∨ p) = True := by simp
@[go_sem] theorem u80 {p : Prop} : (p ∨ True) = True := by simp
@[go_sem] theorem u81 {p : Prop} : (False ∨ p) = p := by simp
@[go_sem] theorem u82 {p : Prop} : (p ∨ False) = p := by simp
@[go_sem] theorem u83 : (¬ True) = False := by simp
@[go_sem] theorem u84 : (¬ False) = True := by simp
@[go_sem] theorem u85 {p : Prop} : (False → p) = True := by simp
@[go_sem] theorem u86 {p : Prop} : (True → p) = p := by simp
@[go_sem] theorem u87 {α : Type} : (α → True) = True := by simp
@[go_sem] theorem u88 {p : Prop} : (p → True) = True := by simp
@[go_sem] theorem u89 : (false = true) = False := by simp
@[go_sem] theorem u90 : (true = false) = False := by simp
@[go_sem] theorem u91 {α : Type} {a b : α} : (some a = some b) = (a = b) := by simp
@[go_sem] theorem u92 {α : Type} {a : α} : (a = a) = True := by simp
@[go_sem] theorem u93 : decide True = true := by simp
@[go_sem] theorem u94 : decide False = false := by simp
@[go_sem] theorem u95 : (!true) = false := rfl
@[go_sem] theorem u96 : (!false) = true := rfl
@[go_sem] theorem u97 {b : Bool} : (true && b) = b := rfl
@[go_sem] theorem u98 {b : Bool} : (false && b) = false := rfl
@[go_sem] theorem u99 {b : Bool} : (true || b) = true := rfl
@[go_sem] theorem agL {b : Bool} : (false || b) = b := rfl
@[go_sem] theorem agK {α : Type} {a b : α} : (a ≠ b) = ¬ (a = b) := rfl
@[go_sem] theorem agJ {b : Bool} : (b && true) = b := by simp
@[go_sem] theorem agI {b : Bool} : (b && false) = false := by simp
@[go_sem] theorem agH {b : Bool} : (b || true) = true := by simp
@[go_sem] theorem agG {b : Bool} : (b || false) = b := by simp
@[go_sem] theorem agF {v : V} : conv o br B v .top = True := propext (by apply adV)
@[go_sem] theorem agE {v u : Value} : conv o br B (.sc v) (.sc u) = (v = u) := propext (by apply aeA)
@[go_sem] theorem agD {s : Nat} {ys : List V} : conv o br B (.sc (.slice none 0 0)) (.sl s ys) = (ys = []) := propext (by apply adX)
@[go_sem] theorem agC {s s' : Nat} {xs ys : List V} : conv o br B (.sl s xs) (.sl s' ys) = (s = s' ∧ xs = ys) := propext (by apply aez)
@[go_sem] theorem agB {a off len s : Nat} {ys : List V} : conv o br B (.hd a off len) (.sl s ys) = (okB B a ∧ a ∉ br ∧ hdC o br B off len s ys (o a)) := propext (by apply adY)
@[go_sem] theorem agA {a off off' : Nat} {es : List V} : conv o br B (.ptr a off) (.ro es off') = (okB B a ∧ a ∉ br ∧ off' = off ∧ Qg es ∧ ∃ wr cs, o a = some (.box wr cs) ∧ JL o br B cs es) := propext (by apply adW)
@[go_sem] theorem agz {off off' : Nat} {cs es : List V} : conv o br B (.ro cs off) (.ro es off') = (cs = es ∧ off' = off) := propext (by apply aeB)
@[go_sem] theorem agy {cs es : List V} : conv o br B (.agg cs) (.agg es) = JL o br B cs es := propext (by apply ad0)
@[go_sem] theorem agx {cs es : List V} : conv o br B (.tup cs) (.tup es) = JL o br B cs es := propext (by apply adU)
@[go_sem] theorem agw {f g : FK} {cs es : List V} : conv o br B (.clo f cs) (.clo g es) = (f = g ∧ JL o br B cs es) := propext (by apply adZ)
@[go_sem] theorem agv  : conv o br B .nn .nn = True := propext (by apply aeC)
@[go_sem] theorem agu : JL o br B [] [] = True := propext (adj _ _ _)
@[go_sem] theorem agt {v e : V} {r r' : List V} : JL o br B (v :: r) (e :: r') = (conv o br B v e ∧ JL o br B r r') := propext (acj _ _ _ _ _ _ _)
@[go_sem] theorem ags {a : Nat} : okB none a = True := propext (ab5 _)
@[go_sem] theorem agr {l : List Nat} {a : Nat} : okB (some l) a = (a ∈ l) := propext (ab4 _ _)
@[go_sem] theorem agq {wr0 : Bool} {s0 s : Nat} {xs0 : List V} {p : List V → Prop} : (∃ wr xs, some (Ob.buf wr0 s0 xs0) = some (Ob.buf wr s xs) ∧ p xs) = (s0 = s ∧ p xs0) := propext aaf
@[go_sem] theorem agp {wr0 : Bool} {s0 s : Nat} {xs0 : List V} {p : List V → Prop} : (∃ wr xs, Ob.buf wr0 s0 xs0 = Ob.buf wr s xs ∧ p xs) = (s0 = s ∧ p xs0) := propext wN
@[go_sem] theorem ago {wr0 : Bool} {cs0 : List V} {p : List V → Prop} : (∃ wr cs, some (Ob.box wr0 cs0) = some (Ob.box wr cs) ∧ p cs) = p cs0 := propext aag
@[go_sem] theorem agn {wr0 : Bool} {cs0 : List V} {p : List V → Prop} : (∃ wr cs, Ob.box wr0 cs0 = Ob.box wr cs ∧ p cs) = p cs0 := propext wO
@[go_sem] theorem agm {wr0 : Bool} {s0 : Nat} {xs0 : List V} : (∃ wr s xs, some (Ob.buf wr0 s0 xs0) = some (Ob.buf wr s xs)) = True := eq_true ⟨wr0, s0, xs0, rfl⟩
@[go_sem] theorem agl {wr0 : Bool} {s0 : Nat} {xs0 : List V} : (∃ wr s xs, Ob.buf wr0 s0 xs0 = Ob.buf wr s xs) = True := eq_true ⟨wr0, s0, xs0, rfl⟩
@[go_sem] theorem agk {k : IntKind} {a b : Int} : (Value.int k a = Value.int k b) = (a = b) := by simp
@[go_sem] theorem agj {a b : Bool} : (Value.bool a = Value.bool b) = (a = b) := by simp
@[go_sem] theorem agi {l : List UInt8} : (⟨l.toArray⟩ : ByteArray).size = l.length := jr l
@[go_sem] theorem agh {l : List UInt8} : l.toArray.toList = l := by simp
@[go_sem] theorem agf {l : List UInt8} {a b : Nat} : (⟨l.toArray⟩ : ByteArray).extract a b = ⟨((l.drop a).take (b - a)).toArray⟩ := acW l a b
@[go_sem] theorem age {a b : List UInt8} : jd .add ⟨a.toArray⟩ ⟨b.toArray⟩ = .asrt (a.length + b.length < 2 ^ 62) (.ret { v := V.str (a ++ b) }) := adx a b
@[go_sem] theorem agd {a b : List UInt8} : jd .eql ⟨a.toArray⟩ ⟨b.toArray⟩ = .ret { v := .bool (a == b) } := adw a b
@[go_sem] theorem agc {a b : List UInt8} : jd .neq ⟨a.toArray⟩ ⟨b.toArray⟩ = .ret { v := .bool (!(a == b)) } := adr a b
@[go_sem] theorem agb {a b : List UInt8} : jd .lss ⟨a.toArray⟩ ⟨b.toArray⟩ = .ret { v := .bool (Op.bytesLess a b) } := ads a b
@[go_sem] theorem aga {a b : List UInt8} : jd .leq ⟨a.toArray⟩ ⟨b.toArray⟩ = .ret { v := .bool (Op.bytesLess a b || a == b) } := adt a b
@[go_sem] theorem af9 {a b : List UInt8} : jd .gtr ⟨a.toArray⟩ ⟨b.toArray⟩ = .ret { v := .bool (!(Op.bytesLess a b || a == b)) } := adu a b
@[go_sem] theorem af8 {a b : List UInt8} : jd .geq ⟨a.toArray⟩ ⟨b.toArray⟩ = .ret { v := .bool (!(Op.bytesLess a b)) } := adv a b
@[go_sem] theorem af7 {a b : List UInt8} : (Value.string ⟨a.toArray⟩ = Value.string ⟨b.toArray⟩) = (a = b) := by simp
@[go_sem] theorem af6 {v : Value} : V.shut o (.sc v) = .sc v := by simp only [V.shut]
@[go_sem] theorem af5  : V.shut o .nn = .nn := by simp only [V.shut]
@[go_sem] theorem af4  : V.shut o .top = .top := by simp only [V.shut]
@[go_sem] theorem af3 {k : Nat} {xs : List V} : V.shut o (.sl k xs) = .sl k xs := by simp only [V.shut]
@[go_sem] theorem af2 {cs : List V} {k : Nat} : V.shut o (.ro cs k) = .ro cs k := by simp only [V.shut]
@[go_sem] theorem af1 {cs : List V} : V.shut o (.agg cs) = .agg (Yc o cs) := by simp only [V.shut]
@[go_sem] theorem af0 {cs : List V} : V.shut o (.tup cs) = .tup (Yc o cs) := by simp only [V.shut]
@[go_sem] theorem afZ {f : FK} {cs : List V} : V.shut o (.clo f cs) = .clo f (Yc o cs) := by simp only [V.shut]
@[go_sem] theorem afY {a off len : Nat} : V.shut o (.hd a off len) = aej o off len (o a) := by simp only [V.shut, aej] <;> rfl
@[go_sem] theorem afX {a off : Nat} : V.shut o (.ptr a off) = acZ off (o a) := by simp only [V.shut, acZ] <;> rfl
@[go_sem] theorem afW {off len s : Nat} {wr : Bool} {xs : List V} : aej o off len (some (.buf wr s xs)) = .sl s ((xs.drop off).take len) := rfl
@[go_sem] theorem afV {off : Nat} {wr : Bool} {cs : List V} : acZ off (some (.box wr cs)) = .ro cs off := rfl
@[go_sem] theorem afU : Yc o [] = [] := by simp only [Yc]
@[go_sem] theorem afT {v : V} {cs : List V} : Yc o (v :: cs) = v.shut o :: Yc o cs := by simp only [Yc]
@[go_sem] theorem afS {v : Value} : V.shutOk o B (.sc v) = True := by simp only [V.shutOk]
@[go_sem] theorem afR  : V.shutOk o B .nn = True := by simp only [V.shutOk]
@[go_sem] theorem afQ  : V.shutOk o B .top = True := by simp only [V.shutOk]
@[go_sem] theorem afP {k : Nat} {xs : List V} : V.shutOk o B (.sl k xs) = True := by simp only [V.shutOk]
@[go_sem] theorem afO {cs : List V} {k : Nat} : V.shutOk o B (.ro cs k) = True := by simp only [V.shutOk]
@[go_sem] theorem afN {a off len : Nat} : V.shutOk o B (.hd a off len) = (okB B a ∧ adC o B off len (o a)) := by simp only [V.shutOk]
@[go_sem] theorem afM {a off : Nat} : V.shutOk o B (.ptr a off) = (okB B a ∧ ∃ wr cs, o a = some (.box wr cs) ∧ Qg cs) := by simp only [V.shutOk]
@[go_sem] theorem afL {cs : List V} : V.shutOk o B (.agg cs) = Jf o B cs := by simp only [V.shutOk]
@[go_sem] theorem afK {cs : List V} : V.shutOk o B (.tup cs) = Jf o B cs := by simp only [V.shutOk]
@[go_sem] theorem afJ {f : FK} {cs : List V} : V.shutOk o B (.clo f cs) = Jf o B cs := by simp only [V.shutOk]
@[go_sem] theorem afI : Jf o B [] = True := by simp only [Jf]
@[go_sem] theorem afH {v : V} {cs : List V} : Jf o B (v :: cs) = (v.shutOk o B ∧ Jf o B cs) := by simp only [Jf]
@[go_sem] theorem afG {v : Value} : V.closed (.sc v) = True := by simp only [V.closed]
@[go_sem] theorem afF  : V.closed .nn = True := by simp only [V.closed]
@[go_sem] theorem afE  : V.closed .top = True := by simp only [V.closed]
@[go_sem] theorem afD {k : Nat} {xs : List V} : V.closed (.sl k xs) = True := by simp only [V.closed]
@[go_sem] theorem afC {cs : List V} {k : Nat} : V.closed (.ro cs k) = True := by simp only [V.closed]
@[go_sem] theorem afB {cs : List V} : V.closed (.agg cs) = Qg cs := by simp only [V.closed]
@[go_sem] theorem afA {cs : List V} : V.closed (.tup cs) = Qg cs := by simp only [V.closed]
@[go_sem] theorem afz {f : FK} {cs : List V} : V.closed (.clo f cs) = Qg cs := by simp only [V.closed]
@[go_sem] theorem afy : Qg [] = True := by simp only [Qg]
@[go_sem] theorem afx {v : V} {cs : List V} : Qg (v :: cs) = (v.closed ∧ Qg cs) := by simp only [Qg]
@[go_sem] theorem afw {v : Value} : V.cells (.sc v) = [.sc v] := by simp only [V.cells]
@[go_sem] theorem afv {k : Nat} {xs : List V} : V.cells (.sl k xs) = [.sl k xs] := by simp only [V.cells]
@[go_sem] theorem afu {a off len : Nat} : V.cells (.hd a off len) = [.hd a off len] := by simp only [V.cells]
@[go_sem] theorem aft {a off : Nat} : V.cells (.ptr a off) = [.ptr a off] := by simp only [V.cells]
@[go_sem] theorem afs {cs : List V} {k : Nat} : V.cells (.ro cs k) = [.ro cs k] := by simp only [V.cells]
@[go_sem] theorem afr {cs : List V} : V.cells (.agg cs) = cs := by simp only [V.cells]
@[go_sem] theorem afq {f : FK} {cs : List V} : V.cells (.clo f cs) = [.clo f cs] := by simp only [V.cells]
@[go_sem] theorem afp  : V.cells .nn = [.nn] := by simp only [V.cells]
@[go_sem] theorem afo : J3 [] [] [] = some true := by simp only [J3]
@[go_sem] theorem afn {ks : List Nat} {k k' : IntKind} {a b : Int} {xs ys : List V} : J3 (0 :: ks) (.sc (.int k a) :: xs) (.sc (.int k' b) :: ys) = if k = k' then (J3 ks xs ys).map ((a == b) && ·) else none := by simp only [J3]
@[go_sem] theorem afm {ks : List Nat} {a b : List UInt8} {xs ys : List V} : J3 (1 :: ks) (.sc (.string ⟨a.toArray⟩) :: xs) (.sc (.string ⟨b.toArray⟩) :: ys) = (J3 ks xs ys).map ((a == b) && ·) := by simp only [J3]; congr; funext t; congr 1; rw [Bool.eq_iff_iff]; simp; show (a.toArray == b.toArray) = true ↔ a = b; simp
@[go_sem] theorem afl {ks : List Nat} {a b : Bool} {xs ys : List V} : J3 (2 :: ks) (.sc (.bool a) :: xs) (.sc (.bool b) :: ys) = (J3 ks xs ys).map ((a == b) && ·) := by simp only [J3]
@[go_sem] theorem afk {l : List UInt8} : (l == l) = true := by simp
@[go_sem] theorem afj {n : Int} : (n == n) = true := by simp
@[go_sem] theorem afi {k : IntKind} : (k == k) = true := by cases k <;> rfl
@[go_sem] theorem afh {f : FuncId} {cap acts : List V} : Wo Γ b r s d (.clo (.m f) cap) acts K = awC Γ b r s d f (cap ++ acts) K := propext Iff.rfl
@[go_sem] theorem afg {f : FuncId} {cap acts : List V} : JT Γ A W b s d (.clo (.m f) cap) acts J = QS Γ A W b s d f (cap ++ acts) J := propext Iff.rfl
@[go_sem] theorem aff {off len s : Nat} {ys : List V} {wr : Bool} {s1 : Nat} {xs : List V} : hdC o br B off len s ys (some (.buf wr s1 xs)) = (s1 = s ∧ ys = (xs.drop off).take len) := rfl
@[go_sem] theorem afe {off len s : Nat} {ys : List V} {wr : Bool} {s1 : Nat} {xs : List V} : hdC o br B off len s ys (some (.obuf wr s1 xs)) = (s1 = s ∧ JL o br B ((xs.drop off).take len) ys ∧ ntL ys ∧ Qg ys) := rfl
@[go_sem] theorem afd {off len s : Nat} {wr : Bool} {xs : List V} : aej o off len (some (.obuf wr s xs)) = .sl s (WI o ((xs.drop off).take len)) := rfl
@[go_sem] theorem afc {off len s : Nat} {wr : Bool} {xs : List V} : adC o B off len (some (.buf wr s xs)) = True := rfl
@[go_sem] theorem afb {off len s : Nat} {wr : Bool} {xs : List V} : adC o B off len (some (.obuf wr s xs)) = (Xx o B ((xs.drop off).take len) ∧ ntL (WI o ((xs.drop off).take len))) := rfl
@[go_sem] theorem afa {l : List Nat} {k : Nat → AM E} : awS Γ b r s d K (.anyN l k) = (l ≠ [] ∧ ∀ i ∈ l, awS Γ b r s d K (k i)) := propext Iff.rfl
@[go_sem] theorem ae9 {ag : Bool} {ks : List Nat} {k : V} {i : Nat} : ja ag ks k [] i = some none := rfl
@[go_sem] theorem ae8 {ks : List Nat} {u v : Value} : qb false ks (.sc u) (.sc v) = J3 ks [.sc u] [.sc v] := rfl
@[go_sem] theorem ae7 {ks : List Nat} {u v : List V} : qb true ks (.agg u) (.agg v) = J3 ks u v := rfl
@[go_sem] theorem ae6 {a : Nat} : V.cells (.mp a) = [.mp a] := by simp only [V.cells]
@[go_sem] theorem ae5 {a k : Nat} : conv o br B (.mp a) (.mp k) = (br[k]? = some a) := by simp only [conv]
end
attribute [go_sem] KK sem AM.int AM.str AM.slice AM.sliceK adq AM.cellsAt adF St.eff St.put St.ev Uv V.ofV ZC.v Ug adB splice xj V.mk UD V.small W8 acf VR xM Int.cast_ofNat_Int V.und
end Av
end
section
namespace Av
open Go
theorem wL {α : Type} {p : α → Prop} {a : α} {l : List α} : (∀ x ∈ a :: l, p x) ↔ (p a ∧ ∀ x ∈ l, p x) := by simp
theorem aae {α : Type} {p : α → Prop} : (∀ x ∈ ([] : List α), p x) ↔ True := by simp
theorem zsd {p : Prop} (h : p := by first | assumption | omega | (simp; done)) : p := h
theorem zlo {p : Prop} (h : p := by simp only [List.length_append, List.length_cons, List.length_nil, List.length_map, Nat.reducePow, Nat.reduceAdd]; omega) : p := h
theorem zms {α : Type} {a : α} : a ∈ [a] := List.mem_singleton_self _
theorem znf {p : Prop} (h : p := by first | (exfalso; simp only [List.length_map] at hc; omega) | (exfalso; omega)) : p := h
theorem znz : (∀ {p : Prop} [Decidable p], (decide p = true) = p) ∧ (∀ {p : Prop} [Decidable p], (decide p = false) = ¬ p) ∧ (∀ {α : Type} [BEq α] [LawfulBEq α] {a b : α}, ((a == b) = true) = (a = b)) ∧
    (∀ {α : Type} [BEq α] [LawfulBEq α] {a b : α}, ((a == b) = false) = ¬ (a = b)) ∧ (∀ {α : Type} {a b : α}, (a ≠ b) = ¬ (a = b)) ∧ (∀ {b : Bool}, ((!b) = true) = (b = false)) ∧ (∀ {b : Bool}, ((!b) = false) = (b = true)) :=
  ⟨propext decide_eq_true_iff, propext decide_eq_false_iff_not, propext beq_iff_eq, propext beq_eq_false_iff_ne, rfl, Bool.not_eq_true' _, Bool.not_eq_false' _⟩
structure EvB (Γ : Env) (f : FuncId) (args : List V) (res : V) (B : Option (List Nat)) : Prop where
  ev : Ev Γ f args [] res []
  cl : res.closed
  sh : (B = none ∧ res.noSl) ∨ B = some []
theorem EvN.b {Γ : Env} {f : FuncId} {args : List V} {res : V} (h : EvN Γ f args res) : EvB Γ f args res none := ⟨h.1, h.2.1, .inl ⟨rfl, h.2.2⟩⟩
theorem EvC.b {Γ : Env} {f : FuncId} {args : List V} {res : V} (h : EvC Γ f args res) : EvB Γ f args res (some []) := ⟨h.1, h.2, .inr rfl⟩
section
variable {Γ : Env} {A W : Nat → Bool} {b : Nat} {r : List AO} {s : St} {d : Option Nat} {f : FuncId} {acts : List V} {res : V} {J K : St → Prop} {B : Option (List Nat)}
theorem aeK (h : EvB Γ f (Yc s.o acts) res B) (hc : Jf s.o B acts) (hk : Y0 Γ (b + KK) r { t := (s.put d res).t, o := s.o, n := s.n } K) : awC Γ b r s d f acts K := by
  obtain ⟨h1, h2, ⟨rfl, h3⟩ | rfl⟩ := h
  · exact aeH hc ⟨h1, h2, h3⟩ hk
  · exact aeJ hc ⟨h1, h2⟩ hk
theorem aed (h : EvB Γ f (Yc (J8 A s.o) acts) res B) (hc : Jf (J8 A s.o) B acts) (hk : J { t := (s.put d res).t, o := s.o, n := s.n }) : QS Γ A W b s d f acts J := by
  obtain ⟨h1, h2, ⟨rfl, h3⟩ | rfl⟩ := h
  · exact aea hc ⟨h1, h2, h3⟩ hk
  · exact aec hc ⟨h1, h2⟩ hk
def ad8 (Γ : Env) (b : Nat) (r : List AO) (s : St) (d : Option Nat) (f : FuncId) (acts args : List V) (okf : Option (List Nat) → Prop) (K : St → Prop) : Prop :=
  args = Yc s.o acts → okf = (fun B => Jf s.o B acts) → awC Γ b r s d f acts K
def acs (Γ : Env) (A W : Nat → Bool) (b : Nat) (s : St) (d : Option Nat) (f : FuncId) (acts args : List V) (okf : Option (List Nat) → Prop) (J : St → Prop) : Prop :=
  args = Yc (J8 A s.o) acts → okf = (fun B => Jf (J8 A s.o) B acts) → QS Γ A W b s d f acts J
@[go_sem] theorem ae0 : awC Γ b r s d f acts K = ad8 Γ b r s d f acts (Yc s.o acts) (fun B => Jf s.o B acts) K := propext ⟨fun h _ _ => h, fun h => h rfl rfl⟩
@[go_sem] theorem aeO : QS Γ A W b s d f acts J = acs Γ A W b s d f acts (Yc (J8 A s.o) acts) (fun B => Jf (J8 A s.o) B acts) J := propext ⟨fun h _ _ => h, fun h => h rfl rfl⟩
theorem Q7 {args : List V} {okf : Option (List Nat) → Prop} (h : EvB Γ f args res B) (hc : okf B) (hk : Y0 Γ (b + KK) r { t := (s.put d res).t, o := s.o, n := s.n } K) : ad8 Γ b r s d f acts args okf K := by
  rintro rfl rfl; exact aeK h hc hk
theorem JP {args : List V} {okf : Option (List Nat) → Prop} (h : EvB Γ f args res B) (hc : okf B) (hk : J { t := (s.put d res).t, o := s.o, n := s.n }) : acs Γ A W b s d f acts args okf J := by
  rintro rfl rfl; exact aed h hc hk
end
mutual
theorem wU (o : Nat → Option Ob) : ∀ v : V, v.closed → v.shut o = v
  | .top, _ => by simp only [V.shut]
  | .sc _, _ => by simp only [V.shut]
  | .nn, _ => by simp only [V.shut]
  | .sl _ _, _ => by simp only [V.shut]
  | .hd _ _ _, h => h.elim
  | .ptr _ _, h => h.elim
  | .ept _ _ _, h => h.elim
  | .mp _, h => h.elim
  | .ro _ _, _ => by simp only [V.shut]
  | .agg cs, h => by simp only [V.shut]; rw [JS o cs h]
  | .tup cs, h => by simp only [V.shut]; rw [JS o cs h]
  | .clo _ cs, h => by simp only [V.shut]; rw [JS o cs h]
theorem JS (o : Nat → Option Ob) : ∀ cs : List V, Qg cs → Yc o cs = cs
  | [], _ => by simp only [Yc]
  | v :: r, h => by simp only [Yc]; rw [wU o v h.1, JS o r h.2]
end
mutual
theorem xp (o : Nat → Option Ob) (B : Option (List Nat)) : ∀ v : V, v.closed → v.shutOk o B
  | .top, _ => by simp only [V.shutOk]
  | .sc _, _ => by simp only [V.shutOk]
  | .nn, _ => by simp only [V.shutOk]
  | .sl _ _, _ => by simp only [V.shutOk]
  | .hd _ _ _, h => h.elim
  | .ptr _ _, h => h.elim
  | .ept _ _ _, h => h.elim
  | .mp _, h => h.elim
  | .ro _ _, _ => by simp only [V.shutOk]
  | .agg cs, h => by simp only [V.shutOk]; exact JC o B cs h
  | .tup cs, h => by simp only [V.shutOk]; exact JC o B cs h
  | .clo _ cs, h => by simp only [V.shutOk]; exact JC o B cs h
theorem JC (o : Nat → Option Ob) (B : Option (List Nat)) : ∀ cs : List V, Qg cs → Jf o B cs
  | [], _ => by simp only [Jf]
  | v :: r, h => by simp only [Jf]; exact ⟨xp o B v h.1, JC o B r h.2⟩
end
@[go_sem] def mv (d x : Nat) : AO := ⟨some d, .mov (.t x), none⟩
@[go_sem] def mc (d : Nat) (v : V) : AO := ⟨some d, .mov (.c v), none⟩
@[go_sem] def mg (d x g : Nat) (q : Bool) : AO := ⟨some d, .mov (.t x), some (g, q)⟩
@[go_sem] def ld (d s x : Nat) : AO := ⟨some d, .load false s (.t x), none⟩
@[go_sem] def ia (d s x i : Nat) : AO := ⟨some d, .iaddr s (.t x) (.t i), none⟩
@[go_sem] def fa (d o x : Nat) : AO := ⟨some d, .faddr o (.t x), none⟩
@[go_sem] def nk (d x : Nat) : AO := ⟨some d, .nilck (.t x), none⟩
@[go_sem] def ex (d x i : Nat) : AO := ⟨some d, .ext (.t x) i, none⟩
@[go_sem] def ln (d x : Nat) : AO := ⟨some d, .lenL (.t x), none⟩
@[go_sem] def bn (d : Nat) (op : BinOp) (x y : Nat) : AO := ⟨some d, .bin op (.t x) (.t y), none⟩
@[go_sem] def bc (d : Nat) (op : BinOp) (x : Nat) (v : V) : AO := ⟨some d, .bin op (.t x) (.c v), none⟩
@[go_sem] def cl (d f : Nat) (ts : List Nat) : AO := ⟨some d, .call f (ts.map .t), none⟩
@[go_sem] def xo (d : Nat) (op : AOp) : AO := ⟨some d, op, none⟩
@[go_sem] def xg (d : Nat) (op : AOp) (g : Nat) (q : Bool) : AO := ⟨some d, op, some (g, q)⟩
@[go_sem] def xs (s a x : Nat) : AO := ⟨none, .store s (.t a) (.t x), none⟩
attribute [go_sem] wL aae V.ren W3 Ja V.lt ltL Ob.weak KK
end Av
end

/- Strings as lists of bytes, lists of integers: what the operations do to them. -/
import Derived.Test.YtalpffbofjlfgaaGreatDoorK8
import Derived.Laws.Strings
set_option linter.unusedVariables false
set_option linter.unusedSimpArgs false
section
namespace Av
open Go
theorem abp (l : List UInt8) : (⟨l.toArray⟩ : ByteArray).size = l.length := by simp [ByteArray.size]
theorem akb (a b : List UInt8) : (⟨a.toArray⟩ : ByteArray) ++ ⟨b.toArray⟩ = ⟨(a ++ b).toArray⟩ := by
  apply ByteArray.ext
  simp
theorem xp (l : List UInt8) : (⟨l.toArray⟩ : ByteArray).toList = l := by
  exact ByteArray.toList_mk l
theorem aka (l : List UInt8) (a b : Nat) : (⟨l.toArray⟩ : ByteArray).extract a b = ⟨((l.drop a).take (b - a)).toArray⟩ := by
  apply ByteArray.ext
  simp [List.extract_eq_take_drop]
theorem akN (a b : List UInt8) : aa0 .add ⟨a.toArray⟩ ⟨b.toArray⟩ = .asrt (a.length + b.length < 2 ^ 62) (.ret { v := V.str (a ++ b) }) := by
  simp only [aa0, abp, akb]
theorem akM (a b : List UInt8) : aa0 .eql ⟨a.toArray⟩ ⟨b.toArray⟩ = .ret { v := .bool (a == b) } := by
  simp only [aa0, xp]
theorem akH (a b : List UInt8) : aa0 .neq ⟨a.toArray⟩ ⟨b.toArray⟩ = .ret { v := .bool (!(a == b)) } := by
  simp only [aa0, xp]
theorem akI (a b : List UInt8) : aa0 .lss ⟨a.toArray⟩ ⟨b.toArray⟩ = .ret { v := .bool (Op.bytesLess a b) } := by
  simp only [aa0, xp]
theorem akJ (a b : List UInt8) : aa0 .leq ⟨a.toArray⟩ ⟨b.toArray⟩ = .ret { v := .bool (Op.bytesLess a b || a == b) } := by
  simp only [aa0, xp]
theorem akK (a b : List UInt8) : aa0 .gtr ⟨a.toArray⟩ ⟨b.toArray⟩ = .ret { v := .bool (!(Op.bytesLess a b || a == b)) } := by
  simp only [aa0, xp]
theorem akL (a b : List UInt8) : aa0 .geq ⟨a.toArray⟩ ⟨b.toArray⟩ = .ret { v := .bool (!(Op.bytesLess a b)) } := by
  simp only [aa0, xp]
theorem ahb {l : List V} (h : ∀ v ∈ l, v.closed) : Qj l := by
  induction l with
  | nil => trivial
  | cons v l ih => exact ⟨h v (by simp), ih fun u hu => h u (by simp [hu])⟩
end Av
end
section
namespace Av
open Go
theorem Wx {α : Type} {l : List α} {k : Nat} {y : α} {r : List α} (h : l.drop k = y :: r) : k < l.length ∧ l[k]? = some y ∧ l.drop (k + 1) = r := by
  have hk : k < l.length := by
    rcases Nat.lt_or_ge k l.length with h' | h'
    · exact h'
    · rw [List.drop_of_length_le h'] at h; cases h
  rw [List.drop_eq_getElem_cons hk] at h
  simp only [List.cons.injEq] at h
  exact ⟨hk, by rw [List.getElem?_eq_getElem hk, h.1], h.2⟩
theorem Vg {α : Type} {l : List α} {k : Nat} (h : l.drop k = []) : l.length ≤ k := by simpa using h
theorem JS {k : Nat} (h : k < 2 ^ 62) : IntKind.i64.wrap ((k : Int) + 1) = ((k + 1 : Nat) : Int) := by
  rw [Wl (by omega) (by omega)]; omega
def XZ : List (Nat × V) → Nat → V → V
  | [], _, v => v
  | (j, u) :: r, k, v => if k = j then u else XZ r k v
def ovT (ts : List (Nat × V)) : List (Nat × V) → List (Nat × V)
  | [] => []
  | (k, v) :: r => (k, XZ ts k v) :: ovT ts r
def ltO (n : Nat) (o : Nat → Option Ob) : Prop := ∀ a x, o a = some x → a < n ∧ x.lt n
theorem qu {n : Nat} {o : Nat → Option Ob} {a : Nat} {x : Ob} (h1 : a < n) (h2 : x.lt n) (h : ltO n o) : ltO n (upd o a (some x)) := by
  intro b y hb
  by_cases e : b = a
  · subst e; rw [QP] at hb; cases hb; exact ⟨h1, h2⟩
  · rw [Jo _ _ e] at hb; exact h b y hb
theorem UE {n : Nat} : ltO n (fun _ => none) := by intro a x h; cases h
def ltT (n : Nat) (l : List (Nat × V)) : Prop := ∀ p ∈ l, p.2.lt n
theorem qt {n : Nat} : ltT n [] := by intro p hp; cases hp
theorem UD {n k : Nat} {v : V} {r : List (Nat × V)} (h1 : v.lt n) (h : ltT n r) : ltT n ((k, v) :: r) := by
  intro p hp
  rcases List.mem_cons.1 hp with rfl | hp
  · exact h1
  · exact h p hp
def eqT (t : Nat → V) (τ : Nat → Nat) (l : List (Nat × V)) : Prop := ∀ p ∈ l, t p.1 = p.2.ren τ
theorem XO {t : Nat → V} {τ : Nat → Nat} : eqT t τ [] := by intro p hp; cases hp
theorem Yx {t : Nat → V} {τ : Nat → Nat} {k : Nat} {v : V} {r : List (Nat × V)} : eqT t τ ((k, v) :: r) ↔ t k = v.ren τ ∧ eqT t τ r := by
  constructor
  · intro h; exact ⟨h (k, v) (by simp), fun p hp => h p (by simp [hp])⟩
  · rintro ⟨h1, h2⟩ p hp
    rcases List.mem_cons.1 hp with rfl | hp
    · exact h1
    · exact h2 p hp
def okN (n m : Nat) (rn : List (Nat × Nat)) : Prop := (∀ p ∈ rn, n ≤ p.2 ∧ m ≤ p.1) ∧ (rn.map (·.2)).Nodup
theorem ye : ∀ (rn : List (Nat × Nat)) (a : Nat), (Q0 rn a = a ∧ ∀ p ∈ rn, p.1 ≠ a) ∨ (a, Q0 rn a) ∈ rn
  | [], a => .inl ⟨rfl, by simp⟩
  | (k, v) :: r, a => by
    simp only [Q0]
    split
    · rename_i h; subst h; exact .inr (by simp)
    · rename_i h
      rcases ye r a with ⟨h1, h2⟩ | h'
      · refine .inl ⟨h1, fun p hp => ?_⟩
        rcases List.mem_cons.1 hp with rfl | hp
        · exact fun e => h e.symm
        · exact h2 p hp
      · exact .inr (by simp [h'])
theorem aib {n m : Nat} {rn : List (Nat × Nat)} (h : okN n m rn) {a b : Nat} (ha : a < n) (hb : b < n) (e : Q0 rn a = Q0 rn b) : a = b := by
  rcases ye rn a with ⟨h1, _⟩ | h1 <;> rcases ye rn b with ⟨h2, _⟩ | h2
  · omega
  · have := (h.1 _ h2).1; simp only at this; omega
  · have := (h.1 _ h1).1; simp only at this; omega
  · have := yb h.2 h1 h2 e
    simpa using congrArg Prod.fst this
theorem aic {n m : Nat} {rn : List (Nat × Nat)} (h : okN n m rn) {k : Nat} (hk : k < m) : Q0 rn k = k := by
  rcases ye rn k with ⟨h1, _⟩ | h1
  · exact h1
  · have := (h.1 _ h1).2; simp only at this; omega
theorem ahp (τ : Nat → Nat) (n : Nat) (x : Ob) (h : x.lt n) : (x.ren τ).weak τ n x := by
  induction x with
  | dead => trivial
  | typ T x ih => exact ⟨rfl, ih h⟩
  | box wr cs => exact ⟨fun h => h, rfl, h⟩
  | buf wr s xs => exact ⟨fun h => h, rfl, rfl⟩
  | obuf wr s xs => exact ⟨fun h => h, rfl, rfl, h⟩
  | map ks vs c0 => exact ⟨rfl, rfl, rfl, h⟩
  | iter a since seen last => exact ⟨rfl, h, rfl, rfl, rfl⟩
theorem ajG {m n : Nat} {s : St} {l : List (Nat × V)} {o : Nat → Option Ob} (rn : List (Nat × Nat)) (hn : okN n m rn) (hm : m ≤ n) (hl : ltT n l) (hlo : ltO n o)
    (ht : eqT s.t (Q0 rn) l) (ho : ∀ a, a < n → s.o (Q0 rn a) = (o a).map (Ob.ren (Q0 rn))) : ahk m (Q0 rn) s { t := qR l, o := o, n := n } := by
  refine ⟨fun i => ?_, fun a y h => ?_, fun a b ha hb e => ?_, fun k hk => aic hn hk, hm⟩
  · rcases w8 l i with h | h
    · exact .inl h
    · exact .inr ⟨ht _ h, hl _ h⟩
  · obtain ⟨h1, h2⟩ := hlo a y h
    refine ⟨h1, _, ?_, ahp (Q0 rn) n y h2⟩
    have := ho a h1
    simp only at h
    rw [h] at this
    exact this
  · obtain ⟨x, hx⟩ := Option.ne_none_iff_exists'.1 ha
    obtain ⟨y, hy⟩ := Option.ne_none_iff_exists'.1 hb
    exact aib hn (hlo a x hx).1 (hlo b y hy).1 e
section
variable {C : Ctx} {nt : Nat} {K : St → Prop} {E : Nat → St → Prop} {R : St → Prop}
theorem ak1 : ∀ (k : Nat) (v : V), SizeOf.sizeOf v ≤ k → v.ren (fun a => a) = v := by
  intro k
  induction k with
  | zero => intro v h; cases v <;> simp at h
  | succ k ih =>
    intro v h
    have list : ∀ cs : List V, SizeOf.sizeOf cs ≤ k → KF (fun a => a) cs = cs := by
      intro cs
      induction cs with
      | nil => intro _; rfl
      | cons u r ihr => intro hs; simp at hs; simp only [KF]; rw [ih u (by omega), ihr (by omega)]
    cases v <;> simp only [V.ren] <;> simp at h
    all_goals (rw [list _ (by omega)])
theorem wL (v : V) : v.ren (fun a => a) = v := ak1 _ v (Nat.le_refl _)
theorem alL (cs : List V) : KF (fun a => a) cs = cs := by induction cs with
  | nil => rfl
  | cons v r ih => simp only [KF, wL, ih]
theorem alK (x : Ob) : x.ren (fun a => a) = x := by induction x <;> simp_all [Ob.ren, alL]
theorem abR : Q0 [] = fun a => a := by funext a; rfl
theorem Vv {ks : List Nat} {x : AC} {base : List (Nat × V)} {o0 : Nat → Option Ob} {n0 : Nat} {ι : Type} (good : ι → Prop) (ts : ι → List (Nat × V)) (msr : ι → Nat) (i0 : ι)
    (hm : C.m ≤ n0) (h0 : good i0) (hlo : ltO n0 o0) (hl : ∀ i, good i → ltT n0 (ovT (ts i) base)) (ht : eqT (qR base) (fun a => a) (ovT (ts i0) base))
    (h : ∀ i, good i → ∀ K' : St → Prop, (∀ s' i', eqT s'.t (fun a => a) (ovT (ts i') base) → good i' → msr i' < msr i → (∀ a, a < n0 → s'.o a = o0 a) → K' s') →
      AWp C nt x { t := qR (ovT (ts i) base), o := o0, n := n0 } K' E R) : AWp C nt (W5 ks x) { t := qR base, o := o0, n := n0 } K E R := by
  have hn : okN n0 C.m [] := ⟨by simp, by simp⟩
  have ren0 : ∀ oo : Nat → Option Ob, ∀ a, (oo a).map (Ob.ren (Q0 [])) = oo a := by
    intro oo a
    rw [abR]
    cases oo a with
    | none => rfl
    | some x => simp [alK]
  refine Yj good (fun i => { t := qR (ovT (ts i) base), o := o0, n := n0 }) msr i0 h0 (Q0 []) (ajG [] hn hm (hl i0 h0) hlo (by rw [abR]; exact ht) (fun a _ => (ren0 o0 a).symm)) ?_
  intro i hi K' hK
  exact h i hi K' fun s' i' h1 h2 h3 h4 => hK s' i' (Q0 []) h2 h3 (ajG [] hn hm (hl i' h2) hlo (by rw [abR]; exact h1) (fun a ha => (h4 a ha).trans (ren0 o0 a).symm))
end
end Av
end
section
namespace Av
open Go
def awR (A W : Nat → Bool) (b : Nat) (s : St) (d : Option Nat) (J : St → Prop) (m : AM E) : Prop := m.wp (Wu A s.o) fun e => okW W b e.os ∧ J (s.eff d e)
def YY (A W : Nat → Bool) (b : Nat) (s : St) (d : Option Nat) (J : St → Prop) (k : Ob → AM E) (x : Option Ob) : Prop :=
  match x with
  | some ob => awR A W b s d J (k ob)
  | none => False
def W4 (Γ : Env) (A W : Nat → Bool) (b : Nat) (s : St) (x : AO) (J : St → Prop) : Prop := awG Γ A W b s x J
def WQ (Γ : Env) (fz : Nat → Bool) (b0 : Nat) (K : St → Prop) (t : OP) (s : St) : Prop := awP Γ fz b0 K t s
def abH (Γ : Env) (fz : Nat → Bool) (b0 : Nat) (K : St → Prop) (t : OP) (s : St) : Prop := akP Γ fz b0 K t s
def VY (Γ : Env) (A W : Nat → Bool) (b : Nat) (s : St) (x : AO) (g : Nat) (want : Bool) (v : V) (J : St → Prop) : Prop :=
  match v with
  | .sc (.bool q) => (q = want → W4 Γ A W b (s.put (some g) (.bool want)) { d := x.d, op := x.op } J) ∧ (q = !want → J ((s.put (some g) (.bool !want)).put x.d V.und))
  | .tup [] => J (s.put x.d V.und)
  | _ => False
def YR (Γ : Env) (A W : Nat → Bool) (b : Nat) (s : St) (d : Option Nat) (v : V) (acts : List V) (J : St → Prop) : Prop :=
  match v with
  | .clo f cap => Jc Γ A W b s d f.f (f.args acts cap) J
  | _ => False
section
variable {Γ : Env} {A W : Nat → Bool} {fz : Nat → Bool} {b b0 : Nat} {s : St} {d : Option Nat} {J K : St → Prop}
theorem ahD : WQ Γ fz b0 K .done s ↔ K s := by simp only [WQ, awP]
theorem aiY {j : Nat} {X : Bool} {acl : List Nat} {x : AO} {t : OP} : WQ Γ fz b0 K (.one j X acl x t) s ↔ W4 Γ (rA X acl fz b0) (rW X acl fz b0) (b0 + j * KK) s x (WQ Γ fz b0 K t) := by
  simp only [WQ, awP, W4]; exact Iff.rfl
theorem akf {j : Nat} {X : Bool} {acl : List Nat} {x : AO} {t r : OP} : WQ Γ fz b0 K (.or j X acl x t r) s ↔ W4 Γ (rA X acl fz b0) (rW X acl fz b0) (b0 + j * KK) s x (WQ Γ fz b0 K t) ∧ abH Γ fz b0 K r s := by
  simp only [WQ, abH, awP, W4]; exact Iff.rfl
theorem aiZ {j : Nat} {X : Bool} {acl : List Nat} {x : AO} {t r : OP} : abH Γ fz b0 K (.or j X acl x t r) s ↔ W4 Γ (rA X acl fz b0) (rW X acl fz b0) (b0 + j * KK) s x (WQ Γ fz b0 K t) ∧ abH Γ fz b0 K r s := by
  simp only [WQ, abH, akP, W4]; exact Iff.rfl
theorem agz : abH Γ fz b0 K .done s ↔ True := by simp only [abH, akP]
theorem agB {x : Opd} {as : List Opd} : W4 Γ A W b s ⟨d, .callv x as, none⟩ J ↔ YR Γ A W b s d (s.ev x) (as.map s.ev) J := by
  simp only [W4, awG, aiP, YR]
  cases s.ev x <;> rfl
theorem akZ {aop : AOp} {g : Nat} {want : Bool} : W4 Γ A W b s ⟨d, aop, some (g, want)⟩ J ↔ VY Γ A W b s ⟨d, aop, none⟩ g want (s.t g) J := by
  simp only [W4, awG]
  constructor
  · rintro ⟨q, hq, h1, h2⟩
    unfold VY
    rcases q with _ | q
    · have hq : s.t g = .tup [] := hq
      rw [hq]
      exact h2 (by simp)
    · have hq : s.t g = .bool q := hq
      rw [hq]
      refine ⟨fun e => ?_, fun e => ?_⟩
      · rw [jt (by rw [hq, e])]; exact h1 (by rw [e])
      · rw [jt (by rw [hq, e])]
        exact h2 (by rw [e]; cases want <;> simp)
  · intro h
    unfold VY at h
    split at h
    · rename_i q hq
      refine ⟨some q, hq, fun e => ?_, fun e => ?_⟩
      · cases e
        have := h.1 rfl
        rw [jt hq] at this
        exact this
      · have e' : q = !want := by cases q <;> cases want <;> simp_all
        have := h.2 e'
        rw [jt (by rw [hq, e'])] at this
        exact this
    · rename_i hq
      exact ⟨none, hq, (fun e => by cases e), fun _ => h⟩
    · exact h.elim
theorem alt {a : Nat} {k : Ob → AM E} : awR A W b s d J (.rd a k) ↔ YY A W b s d J k (Wu A s.o a) := by
  unfold YY
  cases h : Wu A s.o a with
  | none => simp [awR, AM.wp, h]
  | some ob => simp [awR, AM.wp, h]
theorem agC (A : Nat → Bool) (o : Nat → Option Ob) (a : Nat) : Wu A o a = if A a = true then o a else none := rfl
theorem akp : okW W b [] ↔ True := by simp [okW]
theorem aje {q : Nat × Ob} {r : List (Nat × Ob)} : okW W b (q :: r) ↔ (W q.1 || (decide (b ≤ q.1) && decide (q.1 < b + KK))) = true ∧ okW W b r := by simp [okW]
theorem alv {f : FuncId} {acts : List V} {res : V} (hc : JB (Wu A s.o) none acts) (h : EvN Γ f (XY (Wu A s.o) acts) res) (hk : J { t := (s.put d res).t, o := s.o, n := s.n }) : Jc Γ A W b s d f acts J :=
  akE h.1 rfl hc h.2.1 h.2.2 hk
theorem alx {f : FuncId} {acts : List V} {res : V} (hc : JB (Wu A s.o) (some []) acts) (h : EvC Γ f (XY (Wu A s.o) acts) res) (hk : J { t := (s.put d res).t, o := s.o, n := s.n }) : Jc Γ A W b s d f acts J :=
  akF h.1 rfl hc h.2 hk
end
section
variable {C : Ctx} {nt : Nat} {s : St} {K : St → Prop} {E : Nat → St → Prop} {R : St → Prop}
theorem Qp {ks L : List Nat} {ot : OT} {p : OP} {ops : List AO} {ahead : List (List Nat)} {y : AC} (N : Nat) (fz : Nat → Bool) (hN : ops.length = N) (hc : okR ops ahead L ot = true) (hp : Wt (ris ops ahead L) ot = p)
    (h : ∀ K' : St → Prop, (∀ s', AWp C nt y s' K E R → K' s') → WQ C.env fz s.n (fun s' => K' ((s'.wn (s.n + N * KK)).keep ks)) p s) : AWp C nt (Qr ks (acq L ot p ops ahead) y) s K E R := by
  subst hN
  exact Qc (agn fz hc hp (h _ fun _ h => h))
theorem Qq {L : List Nat} {ot : OT} {p : OP} {ops : List AO} {ahead : List (List Nat)} (N : Nat) (fz : Nat → Bool) (hN : ops.length = N) (hc : okR ops ahead L ot = true) (hp : Wt (ris ops ahead L) ot = p)
    (h : ∀ K' : St → Prop, (∀ s', K s' → K' s') → WQ C.env fz s.n (fun s' => K' (s'.wn (s.n + N * KK))) p s) : AWp C nt (acq L ot p ops ahead) s K E R := by
  subst hN
  exact agn fz hc hp (h _ fun _ h => h)
end
end Av
end
section
set_option linter.unusedVariables false
namespace Av
open Go
def alE (o : Nat → Option Ob) (off len : Nat) : Option Ob → V
  | some (.buf _ s xs) => .sl s ((xs.drop off).take len)
  | some (.obuf _ s xs) => .sl s (yF o ((xs.drop off).take len))
  | _ => .top
def hdC (o : Nat → Option Ob) (br : List Nat) (B : Option (List Nat)) (off len s : Nat) (ys : List V) : Option Ob → Prop
  | some (.buf _ s1 xs) => s1 = s ∧ ys = (xs.drop off).take len
  | some (.obuf _ s1 xs) => s1 = s ∧ Xx o br B ((xs.drop off).take len) ys ∧ ntL ys ∧ Qj ys
  | _ => False
theorem alj (o : Nat → Option Ob) (br : List Nat) (B : Option (List Nat)) (a off len s : Nat) (ys : List V) : conv o br B (.hd a off len) (.sl s ys) ↔ okB B a ∧ a ∉ br ∧ hdC o br B off len s ys (o a) := by
  rw [ag3]; unfold hdC; constructor
  · rintro ⟨h1, h2, ⟨wr, xs, h3, h4⟩ | ⟨wr, xs, h3, h4⟩⟩ <;> rw [h3] <;> exact ⟨h1, h2, rfl, h4⟩
  · rintro ⟨h1, h2, h3⟩; split at h3
    · rename_i wr s1 xs e; obtain ⟨rfl, h4⟩ := h3; exact ⟨h1, h2, .inl ⟨wr, xs, e, h4⟩⟩
    · rename_i wr s1 xs e; obtain ⟨rfl, h4⟩ := h3; exact ⟨h1, h2, .inr ⟨wr, xs, e, h4⟩⟩
    · exact h3.elim
def akd (off : Nat) : Option Ob → V
  | some (.box _ cs) => .ro cs off
  | _ => .top
def awB (q want : Bool) (A B : Prop) : Prop := (q = want → A) ∧ (q = !want → B)
@[congr] theorem alz {q q2 want : Bool} {A B : Prop} (h : q = q2) : awB q want A B = awB q2 want A B := by rw [h]
@[go_sem ↓] theorem amt {A B : Prop} : awB true true A B = A := by simp [awB]
@[go_sem ↓] theorem ams {A B : Prop} : awB false true A B = B := by simp [awB]
@[go_sem ↓] theorem amr {A B : Prop} : awB true false A B = B := by simp [awB]
@[go_sem ↓] theorem amq {A B : Prop} : awB false false A B = A := by simp [awB]
theorem QL {q : Bool} {A B : Prop} (h1 : q = true → A) (h2 : q = false → B) : awB q true A B := ⟨h1, h2⟩
theorem QM {q : Bool} {A B : Prop} (h1 : q = false → A) (h2 : q = true → B) : awB q false A B := ⟨h1, h2⟩
section
variable {Γ : Env} {A W : Nat → Bool} {fz : Nat → Bool} {b b0 : Nat} {r : List AO} {s : St} {d : Option Nat} {J K : St → Prop} {o : Nat → Option Ob} {br : List Nat} {B : Option (List Nat)}
@[go_sem] theorem u1 : Wz Γ b [] s K = K { t := s.t, o := s.o, n := b } := propext Iff.rfl
@[go_sem] theorem u2 {x : AO} : Wz Γ b (x :: r) s K = (match x.g with | none => (match x.op with | .call f as => awC Γ b r s x.d f (as.map s.ev) K | .callv y as => V1 Γ b r s x.d (s.ev y) (as.map s.ev) K | op => awS Γ b r s x.d K (sem b s.ev op)) | some (g, want) => awQ Γ b r s ⟨x.d, x.op, none⟩ g want (s.t g) K) := by
  obtain ⟨d, op, g⟩ := x
  cases g with
  | some p => obtain ⟨g, want⟩ := p; exact propext akY
  | none =>
    cases op
    case callv y as => exact propext agA
    all_goals rfl
@[go_sem] theorem u3 {f : FuncId} {cap acts : List V} : V1 Γ b r s d (.clo (.n f) cap) acts K = awC Γ b r s d f (acts ++ cap) K := propext Iff.rfl
@[go_sem] theorem u4 {x : AO} {g : Nat} {want q : Bool} : awQ Γ b r s x g want (.sc (.bool q)) K = awB q want (Wz Γ b (⟨x.d, x.op, none⟩ :: r) (s.put (some g) (.bool want)) K) (Wz Γ (b + KK) r ((s.put (some g) (.bool !want)).put x.d V.und) K) := propext Iff.rfl
@[go_sem] theorem u5 {x : AO} {g : Nat} {want : Bool} : awQ Γ b r s x g want (.tup []) K = Wz Γ (b + KK) r (s.put x.d V.und) K := propext Iff.rfl
@[go_sem] theorem u6 {e : E} : awS Γ b r s d K (.ret e) = Wz Γ (b + KK) r (s.eff d e) K := propext Iff.rfl
@[go_sem] theorem u7 {p : Prop} {m : AM E} : awS Γ b r s d K (.asrt p m) = (p ∧ awS Γ b r s d K m) := propext Iff.rfl
@[go_sem] theorem u8 {a : Nat} {k : Ob → AM E} : awS Γ b r s d K (.rd a k) = Ue Γ b r s d K k (s.o a) := propext als
@[go_sem] theorem u9 {k : Bool → AM E} : awS Γ b r s d K (.any k) = ∀ t, awS Γ b r s d K (k t) := propext Iff.rfl
@[go_sem] theorem u10 : awS Γ b r s d K .no = False := propext Iff.rfl
@[go_sem] theorem u11 {k : Ob → AM E} {ob : Ob} : Ue Γ b r s d K k (some ob) = awS Γ b r s d K (k ob) := propext Iff.rfl
@[go_sem] theorem u12 : WQ Γ fz b0 K .done s = K s := propext ahD
@[go_sem] theorem u13 {j : Nat} {X : Bool} {acl : List Nat} {x : AO} {t r : OP} : WQ Γ fz b0 K (.or j X acl x t r) s = (W4 Γ (rA X acl fz b0) (rW X acl fz b0) (b0 + j * KK) s x (WQ Γ fz b0 K t) ∧ abH Γ fz b0 K r s) := propext akf
@[go_sem] theorem u14 {j : Nat} {X : Bool} {acl : List Nat} {x : AO} {t r : OP} : abH Γ fz b0 K (.or j X acl x t r) s = (W4 Γ (rA X acl fz b0) (rW X acl fz b0) (b0 + j * KK) s x (WQ Γ fz b0 K t) ∧ abH Γ fz b0 K r s) := propext aiZ
@[go_sem] theorem u15 {j : Nat} {X : Bool} {acl : List Nat} {x : AO} {t : OP} : WQ Γ fz b0 K (.one j X acl x t) s = W4 Γ (rA X acl fz b0) (rW X acl fz b0) (b0 + j * KK) s x (WQ Γ fz b0 K t) := propext aiY
@[go_sem] theorem u16 : abH Γ fz b0 K .done s = True := propext agz
@[go_sem] theorem u17 {x : AO} : W4 Γ A W b s x J = (match x.g with | none => (match x.op with | .call f as => Jc Γ A W b s x.d f (as.map s.ev) J | .callv y as => YR Γ A W b s x.d (s.ev y) (as.map s.ev) J | op => awR A W b s x.d J (sem b s.ev op)) | some (g, want) => VY Γ A W b s ⟨x.d, x.op, none⟩ g want (s.t g) J) := by
  obtain ⟨d, op, g⟩ := x
  cases g with
  | some p => obtain ⟨g, want⟩ := p; exact propext akZ
  | none =>
    cases op
    case callv y as => exact propext agB
    all_goals rfl
@[go_sem] theorem u18 {f : FuncId} {cap acts : List V} : YR Γ A W b s d (.clo (.n f) cap) acts J = Jc Γ A W b s d f (acts ++ cap) J := propext Iff.rfl
@[go_sem] theorem u19 {x : AO} {g : Nat} {want q : Bool} : VY Γ A W b s x g want (.sc (.bool q)) J = awB q want (W4 Γ A W b (s.put (some g) (.bool want)) ⟨x.d, x.op, none⟩ J) (J ((s.put (some g) (.bool !want)).put x.d V.und)) := propext Iff.rfl
@[go_sem] theorem u20 {x : AO} {g : Nat} {want : Bool} : VY Γ A W b s x g want (.tup []) J = J (s.put x.d V.und) := propext Iff.rfl
@[go_sem] theorem u21 : awR A W b s d J .no = False := propext Iff.rfl
@[go_sem] theorem u22 {e : E} : awR A W b s d J (.ret e) = (okW W b e.os ∧ J (s.eff d e)) := propext Iff.rfl
@[go_sem] theorem u23 {p : Prop} {m : AM E} : awR A W b s d J (.asrt p m) = (p ∧ awR A W b s d J m) := propext Iff.rfl
@[go_sem] theorem u24 {a : Nat} {k : Ob → AM E} : awR A W b s d J (.rd a k) = YY A W b s d J k (Wu A s.o a) := propext alt
@[go_sem] theorem u25 {k : Ob → AM E} {ob : Ob} : YY A W b s d J k (some ob) = awR A W b s d J (k ob) := propext Iff.rfl
@[go_sem] theorem u26 {A : Nat → Bool} {o : Nat → Option Ob} {a : Nat} : Wu A o a = if A a = true then o a else none := rfl
@[go_sem] theorem u27 {W : Nat → Bool} {b : Nat} : okW W b [] = True := propext akp
@[go_sem] theorem u28 {W : Nat → Bool} {b : Nat} {q : Nat × Ob} {r : List (Nat × Ob)} : okW W b (q :: r) = ((W q.1 || (decide (b ≤ q.1) && decide (q.1 < b + KK))) = true ∧ okW W b r) := propext aje
@[go_sem] theorem u29 {X : Bool} {acl : List Nat} {fz : Nat → Bool} {b0 a : Nat} : rA X acl fz b0 a = ((decide (a < b0) && (X || fz a)) || acl.any fun i => decide (b0 + i * KK ≤ a) && decide (a < b0 + i * KK + KK)) := rfl
@[go_sem] theorem u30 {X : Bool} {acl : List Nat} {fz : Nat → Bool} {b0 a : Nat} : rW X acl fz b0 a = (X && ((decide (a < b0) && !fz a) || acl.any fun i => decide (b0 + i * KK ≤ a) && decide (a < b0 + i * KK + KK))) := rfl
@[go_sem] theorem u31 {s : St} {n : Nat} : s.wn n = { t := s.t, o := s.o, n := n } := rfl
@[go_sem] theorem u32 {ks : List Nat} {s : St} : s.keep ks = { t := qR (ks.map fun k => (k, s.t k)), o := s.o, n := s.n } := rfl
@[go_sem] theorem u33 {α : Type} {f : Nat → α} {a : Nat} {v : α} {i : Nat} : upd f a v i = if i = a then v else f i := rfl
@[go_sem] theorem u34 {k : Nat} {v : V} {r : List (Nat × V)} {i : Nat} : qR ((k, v) :: r) i = if i = k then v else qR r i := rfl
@[go_sem] theorem u35 {i : Nat} : qR [] i = .top := rfl
@[go_sem] theorem u36 {k : Nat} {v : Ob} {r : List (Nat × Ob)} {i : Nat} : w9 ((k, v) :: r) i = if i = k then some v else w9 r i := rfl
@[go_sem] theorem u37 {i : Nat} : w9 [] i = none := rfl
@[go_sem] theorem u38 {args : List V} {ins : List Ob} : VW args ins = { t := fun i => (args[i]?).getD .top, o := fun k => ins[k]?, n := ins.length } := rfl
@[go_sem] theorem u39 {ts : List (Nat × V)} {os : List (Nat × Ob)} {n : Nat} : Vn ts os n = { t := qR ts, o := w9 os, n := n } := rfl
@[go_sem] theorem u40 {α : Type} : ([] : List α).length = 0 := rfl
@[go_sem] theorem u41 {α : Type} {a : α} {l : List α} : (a :: l).length = l.length + 1 := rfl
@[go_sem] theorem u42 {α : Type} {a : α} {l : List α} : (a :: l)[0]? = some a := rfl
@[go_sem] theorem u43 {α : Type} {a : α} {l : List α} {i : Nat} : (a :: l)[i + 1]? = l[i]? := rfl
@[go_sem] theorem u44 {α : Type} {a b : α} : (some a).getD b = a := rfl
@[go_sem] theorem u45 {α : Type} {b : α} : (none : Option α).getD b = b := rfl
@[go_sem] theorem u46 {α β : Type} {f : α → β} : (none : Option α).map f = none := rfl
@[go_sem] theorem u47 {α β : Type} {f : α → β} {a : α} : (some a).map f = some (f a) := rfl
@[go_sem] theorem u48 {α β : Type} {f : α → β} : ([] : List α).map f = [] := rfl
@[go_sem] theorem u49 {α β : Type} {f : α → β} {a : α} {l : List α} : (a :: l).map f = f a :: l.map f := rfl
@[go_sem] theorem u50 {α : Type} {l : List α} : [] ++ l = l := rfl
@[go_sem] theorem u51 {α : Type} {a : α} {l r : List α} : (a :: l) ++ r = a :: (l ++ r) := rfl
@[go_sem] theorem u52 {α : Type} {l : List α} : l.take 0 = [] := rfl
@[go_sem] theorem u53 {α : Type} {a : α} {l : List α} {n : Nat} : (a :: l).take (n + 1) = a :: l.take n := rfl
@[go_sem] theorem u54 {α : Type} {l : List α} : l.drop 0 = l := rfl
@[go_sem] theorem u55 {α : Type} {a : α} {l : List α} {n : Nat} : (a :: l).drop (n + 1) = l.drop n := rfl
@[go_sem] theorem u56 {α : Type} {p : α → Bool} : ([] : List α).any p = false := rfl
@[go_sem] theorem u57 {α : Type} {p : α → Bool} {a : α} {l : List α} : (a :: l).any p = (p a || l.any p) := rfl
@[go_sem] theorem u58 {α β : Type} {f : β → α → β} {b : β} : ([] : List α).foldl f b = b := rfl
@[go_sem] theorem u59 {α β : Type} {f : β → α → β} {b : β} {a : α} {l : List α} : (a :: l).foldl f b = l.foldl f (f b a) := rfl
@[go_sem] theorem u60 {α : Type} {a : α} : List.replicate 0 a = [] := rfl
@[go_sem] theorem u61 {α : Type} {n : Nat} {a : α} : List.replicate (n + 1) a = a :: List.replicate n a := rfl
@[go_sem] theorem u62 {α : Type} {a b : α} {l : List α} : (a :: l).set 0 b = b :: l := rfl
@[go_sem] theorem u63 {α : Type} {a b : α} {l : List α} {n : Nat} : (a :: l).set (n + 1) b = a :: l.set n b := rfl
@[go_sem] theorem u64 {n : Nat} : n + 0 = n := rfl
@[go_sem] theorem u65 {n : Nat} : (n : Int).toNat = n := rfl
@[go_sem] theorem u66 {α : Type} {i : Nat} : ([] : List α)[i]? = none := by simp
@[go_sem] theorem u67 {α : Type} {l : List α} : l ++ [] = l := by simp
@[go_sem] theorem u68 {α : Type} {n : Nat} : ([] : List α).take n = [] := by simp
@[go_sem] theorem u69 {α : Type} {n : Nat} : ([] : List α).drop n = [] := by simp
@[go_sem] theorem u70 {n : Nat} : 0 + n = n := by simp
@[go_sem] theorem u71 {n : Nat} : (0 ≤ (n : Int)) = True := by simp
@[go_sem] theorem u72 {n : Nat} : (n ≤ n) = True := by simp
@[go_sem] theorem u73 {α : Type} {p : α → Prop} {a : α} {l : List α} : (∀ x ∈ a :: l, p x) = (p a ∧ ∀ x ∈ l, p x) := by simp
@[go_sem] theorem u74 {α : Type} {p : α → Prop} : (∀ x ∈ ([] : List α), p x) = True := by simp
@[go_sem] theorem u75 {α : Type} {a : α} : (a ∈ ([] : List α)) = False := by simp
@[go_sem] theorem u76 {p : Prop} : (True ∧ p) = p := by simp
@[go_sem] theorem u77 {p : Prop} : (p ∧ True) = p := by simp
@[go_sem] theorem u78 {p : Prop} : (False ∧ p) = False := by simp
@[go_sem] theorem u79 {p : Prop} : (True ∨ p) = True := by simp
@[go_sem] theorem u80 {p : Prop} : (p ∨ True) = True := by simp
@[go_sem] theorem u81 {p : Prop} : (False ∨ p) = p := by simp
@[go_sem] theorem u82 {p : Prop} : (p ∨ False) = p := by simp
@[go_sem] theorem u83 : (¬ True) = False := by simp
@[go_sem] theorem u84 : (¬ False) = True := by simp
@[go_sem] theorem u85 {p : Prop} : (False → p) = True := by simp
@[go_sem] theorem u86 {p : Prop} : (True → p) = p := by simp
@[go_sem] theorem u87 {α : Type} : (α → True) = True := by simp
@[go_sem] theorem u88 {p : Prop} : (p → True) = True := by simp
@[go_sem] theorem u89 : (false = true) = False := by simp
@[go_sem] theorem u90 : (true = false) = False := by simp
@[go_sem] theorem u91 {α : Type} {a b : α} : (some a = some b) = (a = b) := by simp
@[go_sem] theorem u92 {α : Type} {a : α} : (a = a) = True := by simp
@[go_sem] theorem u93 : decide True = true := by simp
@[go_sem] theorem u94 : decide False = false := by simp
@[go_sem] theorem u95 : (!true) = false := rfl
@[go_sem] theorem u96 : (!false) = true := rfl
@[go_sem] theorem u97 {b : Bool} : (true && b) = b := rfl
@[go_sem] theorem u98 {b : Bool} : (false && b) = false := rfl
@[go_sem] theorem u99 {b : Bool} : (true || b) = true := rfl
@[go_sem] theorem aob {b : Bool} : (false || b) = b := rfl
@[go_sem] theorem aoa {α : Type} {a b : α} : (a ≠ b) = ¬ (a = b) := rfl
@[go_sem] theorem an9 {b : Bool} : (b && true) = b := by simp
@[go_sem] theorem an8 {b : Bool} : (b && false) = false := by simp
@[go_sem] theorem an7 {b : Bool} : (b || true) = true := by simp
@[go_sem] theorem an6 {b : Bool} : (b || false) = b := by simp
@[go_sem] theorem an5 {v : V} : conv o br B v .top = True := propext (by apply alg)
@[go_sem] theorem an4 {v u : Value} : conv o br B (.sc v) (.sc u) = (v = u) := propext (by apply al0)
@[go_sem] theorem an3 {s : Nat} {ys : List V} : conv o br B (.sc (.slice none 0 0)) (.sl s ys) = (ys = []) := propext (by apply ali)
@[go_sem] theorem an2 {s s' : Nat} {xs ys : List V} : conv o br B (.sl s xs) (.sl s' ys) = (s = s' ∧ xs = ys) := propext (by apply alZ)
@[go_sem] theorem an1 {a off len s : Nat} {ys : List V} : conv o br B (.hd a off len) (.sl s ys) = (okB B a ∧ a ∉ br ∧ hdC o br B off len s ys (o a)) := propext (by apply alj)
@[go_sem] theorem an0 {a off off' : Nat} {es : List V} : conv o br B (.ptr a off) (.ro es off') = (okB B a ∧ a ∉ br ∧ off' = off ∧ Qj es ∧ ∃ wr cs, o a = some (.box wr cs) ∧ Xx o br B cs es) := propext (by apply alh)
@[go_sem] theorem anZ {off off' : Nat} {cs es : List V} : conv o br B (.ro cs off) (.ro es off') = (cs = es ∧ off' = off) := propext (by apply al1)
@[go_sem] theorem anY {cs es : List V} : conv o br B (.agg cs) (.agg es) = Xx o br B cs es := propext (by apply alm)
@[go_sem] theorem anX {cs es : List V} : conv o br B (.tup cs) (.tup es) = Xx o br B cs es := propext (by apply alf)
@[go_sem] theorem anW {f g : FK} {cs es : List V} : conv o br B (.clo f cs) (.clo g es) = (f = g ∧ Xx o br B cs es) := propext (by apply alk)
@[go_sem] theorem anV  : conv o br B .nn .nn = True := propext (by apply al2)
@[go_sem] theorem anU : Xx o br B [] [] = True := propext (aky _ _ _)
@[go_sem] theorem anT {v e : V} {r r' : List V} : Xx o br B (v :: r) (e :: r') = (conv o br B v e ∧ Xx o br B r r') := propext (ajv _ _ _ _ _ _ _)
@[go_sem] theorem anS {a : Nat} : okB none a = True := propext (ajg _)
@[go_sem] theorem anR {l : List Nat} {a : Nat} : okB (some l) a = (a ∈ l) := propext (ajf _ _)
@[go_sem] theorem anQ {wr0 : Bool} {s0 s : Nat} {xs0 : List V} {p : List V → Prop} : (∃ wr xs, some (Ob.buf wr0 s0 xs0) = some (Ob.buf wr s xs) ∧ p xs) = (s0 = s ∧ p xs0) := propext ag0
@[go_sem] theorem anP {wr0 : Bool} {s0 s : Nat} {xs0 : List V} {p : List V → Prop} : (∃ wr xs, Ob.buf wr0 s0 xs0 = Ob.buf wr s xs ∧ p xs) = (s0 = s ∧ p xs0) := propext afl
@[go_sem] theorem anO {wr0 : Bool} {cs0 : List V} {p : List V → Prop} : (∃ wr cs, some (Ob.box wr0 cs0) = some (Ob.box wr cs) ∧ p cs) = p cs0 := propext ag1
@[go_sem] theorem anN {wr0 : Bool} {cs0 : List V} {p : List V → Prop} : (∃ wr cs, Ob.box wr0 cs0 = Ob.box wr cs ∧ p cs) = p cs0 := propext afm
@[go_sem] theorem anM {wr0 : Bool} {s0 : Nat} {xs0 : List V} : (∃ wr s xs, some (Ob.buf wr0 s0 xs0) = some (Ob.buf wr s xs)) = True := eq_true ⟨wr0, s0, xs0, rfl⟩
@[go_sem] theorem anL {wr0 : Bool} {s0 : Nat} {xs0 : List V} : (∃ wr s xs, Ob.buf wr0 s0 xs0 = Ob.buf wr s xs) = True := eq_true ⟨wr0, s0, xs0, rfl⟩
@[go_sem] theorem anK {k : IntKind} {a b : Int} : (Value.int k a = Value.int k b) = (a = b) := by simp
@[go_sem] theorem anJ {a b : Bool} : (Value.bool a = Value.bool b) = (a = b) := by simp
@[go_sem] theorem anI {l : List UInt8} : (⟨l.toArray⟩ : ByteArray).size = l.length := abp l
@[go_sem] theorem anH {l : List UInt8} : l.toArray.toList = l := by simp
@[go_sem] theorem anG {l : List UInt8} {a b : Nat} : (⟨l.toArray⟩ : ByteArray).extract a b = ⟨((l.drop a).take (b - a)).toArray⟩ := aka l a b
@[go_sem] theorem anF {a b : List UInt8} : aa0 .add ⟨a.toArray⟩ ⟨b.toArray⟩ = .asrt (a.length + b.length < 2 ^ 62) (.ret { v := V.str (a ++ b) }) := akN a b
@[go_sem] theorem anE {a b : List UInt8} : aa0 .eql ⟨a.toArray⟩ ⟨b.toArray⟩ = .ret { v := .bool (a == b) } := akM a b
@[go_sem] theorem anD {a b : List UInt8} : aa0 .neq ⟨a.toArray⟩ ⟨b.toArray⟩ = .ret { v := .bool (!(a == b)) } := akH a b
@[go_sem] theorem anC {a b : List UInt8} : aa0 .lss ⟨a.toArray⟩ ⟨b.toArray⟩ = .ret { v := .bool (Op.bytesLess a b) } := akI a b
@[go_sem] theorem anB {a b : List UInt8} : aa0 .leq ⟨a.toArray⟩ ⟨b.toArray⟩ = .ret { v := .bool (Op.bytesLess a b || a == b) } := akJ a b
@[go_sem] theorem anA {a b : List UInt8} : aa0 .gtr ⟨a.toArray⟩ ⟨b.toArray⟩ = .ret { v := .bool (!(Op.bytesLess a b || a == b)) } := akK a b
@[go_sem] theorem anz {a b : List UInt8} : aa0 .geq ⟨a.toArray⟩ ⟨b.toArray⟩ = .ret { v := .bool (!(Op.bytesLess a b)) } := akL a b
@[go_sem] theorem anx {a b : List UInt8} : (Value.string ⟨a.toArray⟩ = Value.string ⟨b.toArray⟩) = (a = b) := by simp
@[go_sem] theorem anw {v : Value} : V.shut o (.sc v) = .sc v := by simp only [V.shut]
@[go_sem] theorem anv  : V.shut o .nn = .nn := by simp only [V.shut]
@[go_sem] theorem anu  : V.shut o .top = .top := by simp only [V.shut]
@[go_sem] theorem ant {k : Nat} {xs : List V} : V.shut o (.sl k xs) = .sl k xs := by simp only [V.shut]
@[go_sem] theorem ans {cs : List V} {k : Nat} : V.shut o (.ro cs k) = .ro cs k := by simp only [V.shut]
@[go_sem] theorem anr {cs : List V} : V.shut o (.agg cs) = .agg (XY o cs) := by simp only [V.shut]
@[go_sem] theorem anq {cs : List V} : V.shut o (.tup cs) = .tup (XY o cs) := by simp only [V.shut]
@[go_sem] theorem anp {f : FK} {cs : List V} : V.shut o (.clo f cs) = .clo f (XY o cs) := by simp only [V.shut]
@[go_sem] theorem ano {a off len : Nat} : V.shut o (.hd a off len) = alE o off len (o a) := by simp only [V.shut, alE] <;> rfl
@[go_sem] theorem ann {a off : Nat} : V.shut o (.ptr a off) = akd off (o a) := by simp only [V.shut, akd] <;> rfl
@[go_sem] theorem anm {off len s : Nat} {wr : Bool} {xs : List V} : alE o off len (some (.buf wr s xs)) = .sl s ((xs.drop off).take len) := rfl
@[go_sem] theorem anl {off : Nat} {wr : Bool} {cs : List V} : akd off (some (.box wr cs)) = .ro cs off := rfl
@[go_sem] theorem ank : XY o [] = [] := by simp only [XY]
@[go_sem] theorem anj {v : V} {cs : List V} : XY o (v :: cs) = v.shut o :: XY o cs := by simp only [XY]
@[go_sem] theorem ani {v : Value} : V.shutOk o B (.sc v) = True := by simp only [V.shutOk]
@[go_sem] theorem anh  : V.shutOk o B .nn = True := by simp only [V.shutOk]
@[go_sem] theorem ang  : V.shutOk o B .top = True := by simp only [V.shutOk]
@[go_sem] theorem anf {k : Nat} {xs : List V} : V.shutOk o B (.sl k xs) = True := by simp only [V.shutOk]
@[go_sem] theorem ane {cs : List V} {k : Nat} : V.shutOk o B (.ro cs k) = True := by simp only [V.shutOk]
@[go_sem] theorem anc {a off len : Nat} : V.shutOk o B (.hd a off len) = (okB B a ∧ akS o B off len (o a)) := by simp only [V.shutOk]
@[go_sem] theorem anb {a off : Nat} : V.shutOk o B (.ptr a off) = (okB B a ∧ ∃ wr cs, o a = some (.box wr cs) ∧ Qj cs) := by simp only [V.shutOk]
@[go_sem] theorem ana {cs : List V} : V.shutOk o B (.agg cs) = JB o B cs := by simp only [V.shutOk]
@[go_sem] theorem am9 {cs : List V} : V.shutOk o B (.tup cs) = JB o B cs := by simp only [V.shutOk]
@[go_sem] theorem am8 {f : FK} {cs : List V} : V.shutOk o B (.clo f cs) = JB o B cs := by simp only [V.shutOk]
@[go_sem] theorem am7 : JB o B [] = True := by simp only [JB]
@[go_sem] theorem am6 {v : V} {cs : List V} : JB o B (v :: cs) = (v.shutOk o B ∧ JB o B cs) := by simp only [JB]
@[go_sem] theorem am5 {v : Value} : V.closed (.sc v) = True := by simp only [V.closed]
@[go_sem] theorem am4  : V.closed .nn = True := by simp only [V.closed]
@[go_sem] theorem am3  : V.closed .top = True := by simp only [V.closed]
@[go_sem] theorem am2 {k : Nat} {xs : List V} : V.closed (.sl k xs) = True := by simp only [V.closed]
@[go_sem] theorem am1 {cs : List V} {k : Nat} : V.closed (.ro cs k) = True := by simp only [V.closed]
@[go_sem] theorem am0 {cs : List V} : V.closed (.agg cs) = Qj cs := by simp only [V.closed]
@[go_sem] theorem amZ {cs : List V} : V.closed (.tup cs) = Qj cs := by simp only [V.closed]
@[go_sem] theorem amY {f : FK} {cs : List V} : V.closed (.clo f cs) = Qj cs := by simp only [V.closed]
@[go_sem] theorem amX : Qj [] = True := by simp only [Qj]
@[go_sem] theorem amW {v : V} {cs : List V} : Qj (v :: cs) = (v.closed ∧ Qj cs) := by simp only [Qj]
@[go_sem] theorem amV {v : Value} : V.cells (.sc v) = [.sc v] := by simp only [V.cells]
@[go_sem] theorem amU {k : Nat} {xs : List V} : V.cells (.sl k xs) = [.sl k xs] := by simp only [V.cells]
@[go_sem] theorem amT {a off len : Nat} : V.cells (.hd a off len) = [.hd a off len] := by simp only [V.cells]
@[go_sem] theorem amS {a off : Nat} : V.cells (.ptr a off) = [.ptr a off] := by simp only [V.cells]
@[go_sem] theorem amR {cs : List V} {k : Nat} : V.cells (.ro cs k) = [.ro cs k] := by simp only [V.cells]
@[go_sem] theorem amQ {cs : List V} : V.cells (.agg cs) = cs := by simp only [V.cells]
@[go_sem] theorem amP {f : FK} {cs : List V} : V.cells (.clo f cs) = [.clo f cs] := by simp only [V.cells]
@[go_sem] theorem amO  : V.cells .nn = [.nn] := by simp only [V.cells]
@[go_sem] theorem amN : XP [] [] [] = some true := by simp only [XP]
@[go_sem] theorem amM {ks : List Nat} {k k' : IntKind} {a b : Int} {xs ys : List V} : XP (0 :: ks) (.sc (.int k a) :: xs) (.sc (.int k' b) :: ys) = if k = k' then (XP ks xs ys).map ((a == b) && ·) else none := by simp only [XP]
@[go_sem] theorem amL {ks : List Nat} {a b : List UInt8} {xs ys : List V} : XP (1 :: ks) (.sc (.string ⟨a.toArray⟩) :: xs) (.sc (.string ⟨b.toArray⟩) :: ys) = (XP ks xs ys).map ((a == b) && ·) := by simp only [XP]; congr; funext t; congr 1; rw [Bool.eq_iff_iff]; simp; show (a.toArray == b.toArray) = true ↔ a = b; simp
@[go_sem] theorem amK {ks : List Nat} {a b : Bool} {xs ys : List V} : XP (2 :: ks) (.sc (.bool a) :: xs) (.sc (.bool b) :: ys) = (XP ks xs ys).map ((a == b) && ·) := by simp only [XP]
@[go_sem] theorem amJ {l : List UInt8} : (l == l) = true := by simp
@[go_sem] theorem amI {n : Int} : (n == n) = true := by simp
@[go_sem] theorem amH {k : IntKind} : (k == k) = true := by cases k <;> rfl
@[go_sem] theorem amG {f : FuncId} {cap acts : List V} : V1 Γ b r s d (.clo (.m f) cap) acts K = awC Γ b r s d f (cap ++ acts) K := propext Iff.rfl
@[go_sem] theorem amF {f : FuncId} {cap acts : List V} : YR Γ A W b s d (.clo (.m f) cap) acts J = Jc Γ A W b s d f (cap ++ acts) J := propext Iff.rfl
@[go_sem] theorem amE {off len s : Nat} {ys : List V} {wr : Bool} {s1 : Nat} {xs : List V} : hdC o br B off len s ys (some (.buf wr s1 xs)) = (s1 = s ∧ ys = (xs.drop off).take len) := rfl
@[go_sem] theorem amD {off len s : Nat} {ys : List V} {wr : Bool} {s1 : Nat} {xs : List V} : hdC o br B off len s ys (some (.obuf wr s1 xs)) = (s1 = s ∧ Xx o br B ((xs.drop off).take len) ys ∧ ntL ys ∧ Qj ys) := rfl
@[go_sem] theorem amC {off len s : Nat} {wr : Bool} {xs : List V} : alE o off len (some (.obuf wr s xs)) = .sl s (yF o ((xs.drop off).take len)) := rfl
@[go_sem] theorem amB {off len s : Nat} {wr : Bool} {xs : List V} : akS o B off len (some (.buf wr s xs)) = True := rfl
@[go_sem] theorem amA {off len s : Nat} {wr : Bool} {xs : List V} : akS o B off len (some (.obuf wr s xs)) = (jr o B ((xs.drop off).take len) ∧ ntL (yF o ((xs.drop off).take len))) := rfl
@[go_sem] theorem amz {l : List Nat} {k : Nat → AM E} : awS Γ b r s d K (.anyN l k) = (l ≠ [] ∧ ∀ i ∈ l, awS Γ b r s d K (k i)) := propext Iff.rfl
@[go_sem] theorem amy {ag : Bool} {ks : List Nat} {k : V} {i : Nat} : y3 ag ks k [] i = some none := rfl
@[go_sem] theorem amx {ks : List Nat} {u v : Value} : wE false ks (.sc u) (.sc v) = XP ks [.sc u] [.sc v] := rfl
@[go_sem] theorem amw {ks : List Nat} {u v : List V} : wE true ks (.agg u) (.agg v) = XP ks u v := rfl
@[go_sem] theorem amv {a : Nat} : V.cells (.mp a) = [.mp a] := by simp only [V.cells]
@[go_sem] theorem amu {a k : Nat} : conv o br B (.mp a) (.mp k) = (br[k]? = some a) := by simp only [conv]
end
attribute [go_sem] KK sem AM.int AM.str AM.slice AM.sliceK akG AM.cellsAt akW St.eff St.put St.ev yV V.ofV ZC.v yE akR splice adF V.mk y5 V.small qU age j6 aef Int.cast_ofNat_Int V.und
end Av
end
section
namespace Av
open Go
theorem afj {α : Type} {p : α → Prop} {a : α} {l : List α} : (∀ x ∈ a :: l, p x) ↔ (p a ∧ ∀ x ∈ l, p x) := by simp
theorem agY {α : Type} {p : α → Prop} : (∀ x ∈ ([] : List α), p x) ↔ True := by simp
theorem zsd {p : Prop} (h : p := by first | assumption | omega | (simp; done)) : p := h
theorem zlo {p : Prop} (h : p := by simp only [List.length_append, List.length_cons, List.length_nil, List.length_map, Nat.reducePow, Nat.reduceAdd]; omega) : p := h
theorem zms {α : Type} {a : α} : a ∈ [a] := List.mem_singleton_self _
theorem znf {p : Prop} (h : p := by first | (exfalso; simp only [List.length_map] at hc; omega) | (exfalso; omega)) : p := h
theorem znz : (∀ {p : Prop} [Decidable p], (decide p = true) = p) ∧ (∀ {p : Prop} [Decidable p], (decide p = false) = ¬ p) ∧ (∀ {α : Type} [BEq α] [LawfulBEq α] {a b : α}, ((a == b) = true) = (a = b)) ∧
    (∀ {α : Type} [BEq α] [LawfulBEq α] {a b : α}, ((a == b) = false) = ¬ (a = b)) ∧ (∀ {α : Type} {a b : α}, (a ≠ b) = ¬ (a = b)) ∧ (∀ {b : Bool}, ((!b) = true) = (b = false)) ∧ (∀ {b : Bool}, ((!b) = false) = (b = true)) :=
  ⟨propext decide_eq_true_iff, propext decide_eq_false_iff_not, propext beq_iff_eq, propext beq_eq_false_iff_ne, rfl, Bool.not_eq_true' _, Bool.not_eq_false' _⟩
structure EvB (Γ : Env) (f : FuncId) (args : List V) (res : V) (B : Option (List Nat)) : Prop where
  ev : Ev Γ f args [] res []
  cl : res.closed
  sh : (B = none ∧ res.noSl) ∨ B = some []
theorem EvN.b {Γ : Env} {f : FuncId} {args : List V} {res : V} (h : EvN Γ f args res) : EvB Γ f args res none := ⟨h.1, h.2.1, .inl ⟨rfl, h.2.2⟩⟩
theorem EvC.b {Γ : Env} {f : FuncId} {args : List V} {res : V} (h : EvC Γ f args res) : EvB Γ f args res (some []) := ⟨h.1, h.2, .inr rfl⟩
section
variable {Γ : Env} {A W : Nat → Bool} {b : Nat} {r : List AO} {s : St} {d : Option Nat} {f : FuncId} {acts : List V} {res : V} {J K : St → Prop} {B : Option (List Nat)}
theorem amb (h : EvB Γ f (XY s.o acts) res B) (hc : JB s.o B acts) (hk : Wz Γ (b + KK) r { t := (s.put d res).t, o := s.o, n := s.n } K) : awC Γ b r s d f acts K := by
  obtain ⟨h1, h2, ⟨rfl, h3⟩ | rfl⟩ := h
  · exact al6 hc ⟨h1, h2, h3⟩ hk
  · exact ama hc ⟨h1, h2⟩ hk
theorem aly (h : EvB Γ f (XY (Wu A s.o) acts) res B) (hc : JB (Wu A s.o) B acts) (hk : J { t := (s.put d res).t, o := s.o, n := s.n }) : Jc Γ A W b s d f acts J := by
  obtain ⟨h1, h2, ⟨rfl, h3⟩ | rfl⟩ := h
  · exact alv hc ⟨h1, h2, h3⟩ hk
  · exact alx hc ⟨h1, h2⟩ hk
def ajZ (Γ : Env) (b : Nat) (r : List AO) (s : St) (d : Option Nat) (f : FuncId) (acts args : List V) (okf : Option (List Nat) → Prop) (K : St → Prop) : Prop :=
  args = XY s.o acts → okf = (fun B => JB s.o B acts) → awC Γ b r s d f acts K
def akQ (Γ : Env) (A W : Nat → Bool) (b : Nat) (s : St) (d : Option Nat) (f : FuncId) (acts args : List V) (okf : Option (List Nat) → Prop) (J : St → Prop) : Prop :=
  args = XY (Wu A s.o) acts → okf = (fun B => JB (Wu A s.o) B acts) → Jc Γ A W b s d f acts J
@[go_sem] theorem amp : awC Γ b r s d f acts K = ajZ Γ b r s d f acts (XY s.o acts) (fun B => JB s.o B acts) K := propext ⟨fun h _ _ => h, fun h => h rfl rfl⟩
@[go_sem] theorem ame : Jc Γ A W b s d f acts J = akQ Γ A W b s d f acts (XY (Wu A s.o) acts) (fun B => JB (Wu A s.o) B acts) J := propext ⟨fun h _ _ => h, fun h => h rfl rfl⟩
theorem QX {args : List V} {okf : Option (List Nat) → Prop} (h : EvB Γ f args res B) (hc : okf B) (hk : Wz Γ (b + KK) r { t := (s.put d res).t, o := s.o, n := s.n } K) : ajZ Γ b r s d f acts args okf K := by
  rintro rfl rfl; exact amb h hc hk
theorem YB {args : List V} {okf : Option (List Nat) → Prop} (h : EvB Γ f args res B) (hc : okf B) (hk : J { t := (s.put d res).t, o := s.o, n := s.n }) : akQ Γ A W b s d f acts args okf J := by
  rintro rfl rfl; exact aly h hc hk
end
mutual
theorem afx (o : Nat → Option Ob) : ∀ v : V, v.closed → v.shut o = v
  | .top, _ => by simp only [V.shut]
  | .sc _, _ => by simp only [V.shut]
  | .nn, _ => by simp only [V.shut]
  | .sl _ _, _ => by simp only [V.shut]
  | .hd _ _ _, h => h.elim
  | .ptr _ _, h => h.elim
  | .ept _ _ _, h => h.elim
  | .mp _, h => h.elim
  | .ro _ _, _ => by simp only [V.shut]
  | .agg cs, h => by simp only [V.shut]; rw [Yp o cs h]
  | .tup cs, h => by simp only [V.shut]; rw [Yp o cs h]
  | .clo _ cs, h => by simp only [V.shut]; rw [Yp o cs h]
theorem Yp (o : Nat → Option Ob) : ∀ cs : List V, Qj cs → XY o cs = cs
  | [], _ => by simp only [XY]
  | v :: r, h => by simp only [XY]; rw [afx o v h.1, Yp o r h.2]
end
mutual
theorem adM (o : Nat → Option Ob) (B : Option (List Nat)) : ∀ v : V, v.closed → v.shutOk o B
  | .top, _ => by simp only [V.shutOk]
  | .sc _, _ => by simp only [V.shutOk]
  | .nn, _ => by simp only [V.shutOk]
  | .sl _ _, _ => by simp only [V.shutOk]
  | .hd _ _ _, h => h.elim
  | .ptr _ _, h => h.elim
  | .ept _ _ _, h => h.elim
  | .mp _, h => h.elim
  | .ro _ _, _ => by simp only [V.shutOk]
  | .agg cs, h => by simp only [V.shutOk]; exact JR o B cs h
  | .tup cs, h => by simp only [V.shutOk]; exact JR o B cs h
  | .clo _ cs, h => by simp only [V.shutOk]; exact JR o B cs h
theorem JR (o : Nat → Option Ob) (B : Option (List Nat)) : ∀ cs : List V, Qj cs → JB o B cs
  | [], _ => by simp only [JB]
  | v :: r, h => by simp only [JB]; exact ⟨adM o B v h.1, JR o B r h.2⟩
end
@[go_sem] def mv (d x : Nat) : AO := ⟨some d, .mov (.t x), none⟩
@[go_sem] def mc (d : Nat) (v : V) : AO := ⟨some d, .mov (.c v), none⟩
@[go_sem] def mg (d x g : Nat) (q : Bool) : AO := ⟨some d, .mov (.t x), some (g, q)⟩
@[go_sem] def ld (d s x : Nat) : AO := ⟨some d, .load false s (.t x), none⟩
@[go_sem] def ia (d s x i : Nat) : AO := ⟨some d, .iaddr s (.t x) (.t i), none⟩
@[go_sem] def fa (d o x : Nat) : AO := ⟨some d, .faddr o (.t x), none⟩
@[go_sem] def nk (d x : Nat) : AO := ⟨some d, .nilck (.t x), none⟩
@[go_sem] def ex (d x i : Nat) : AO := ⟨some d, .ext (.t x) i, none⟩
@[go_sem] def ln (d x : Nat) : AO := ⟨some d, .lenL (.t x), none⟩
@[go_sem] def bn (d : Nat) (op : BinOp) (x y : Nat) : AO := ⟨some d, .bin op (.t x) (.t y), none⟩
@[go_sem] def bc (d : Nat) (op : BinOp) (x : Nat) (v : V) : AO := ⟨some d, .bin op (.t x) (.c v), none⟩
@[go_sem] def cl (d f : Nat) (ts : List Nat) : AO := ⟨some d, .call f (ts.map .t), none⟩
@[go_sem] def xo (d : Nat) (op : AOp) : AO := ⟨some d, op, none⟩
@[go_sem] def xg (d : Nat) (op : AOp) (g : Nat) (q : Bool) : AO := ⟨some d, op, some (g, q)⟩
@[go_sem] def xs (s a x : Nat) : AO := ⟨none, .store s (.t a) (.t x), none⟩
attribute [go_sem] afj agY V.ren KF Q0 V.lt ltL Ob.weak KK
end Av
end

/- Strings as lists of bytes, lists of integers: what the operations do to them. -/
import Derived.Test.YtlnkijmacdgahaaGreatK9
import Derived.Laws.Strings
set_option linter.unusedVariables false
set_option linter.unusedSimpArgs false
section
namespace Av
open Go
theorem aij (l : List UInt8) : (⟨l.toArray⟩ : ByteArray).size = l.length := by simp [ByteArray.size]
theorem aom (a b : List UInt8) : (⟨a.toArray⟩ : ByteArray) ++ ⟨b.toArray⟩ = ⟨(a ++ b).toArray⟩ := by
  apply ByteArray.ext
  simp
theorem yQ (l : List UInt8) : (⟨l.toArray⟩ : ByteArray).toList = l := by
  simp
theorem aol (l : List UInt8) (a b : Nat) : (⟨l.toArray⟩ : ByteArray).extract a b = ⟨((l.drop a).take (b - a)).toArray⟩ := by
  apply ByteArray.ext
  simp
theorem apw (a b : List UInt8) : aa8 .add ⟨a.toArray⟩ ⟨b.toArray⟩ = .asrt (a.length + b.length < 2 ^ 62) (.ret { v := V.str (a ++ b) }) := by
  simp only [aa8, aij, aom]
theorem apv (a b : List UInt8) : aa8 .eql ⟨a.toArray⟩ ⟨b.toArray⟩ = .ret { v := .bool (a == b) } := by
  simp only [aa8, yQ]
theorem apq (a b : List UInt8) : aa8 .neq ⟨a.toArray⟩ ⟨b.toArray⟩ = .ret { v := .bool (!(a == b)) } := by
  simp only [aa8, yQ]
theorem apr (a b : List UInt8) : aa8 .lss ⟨a.toArray⟩ ⟨b.toArray⟩ = .ret { v := .bool (Op.bytesLess a b) } := by
  simp only [aa8, yQ]
theorem aps (a b : List UInt8) : aa8 .leq ⟨a.toArray⟩ ⟨b.toArray⟩ = .ret { v := .bool (Op.bytesLess a b || a == b) } := by
  simp only [aa8, yQ]
theorem apt (a b : List UInt8) : aa8 .gtr ⟨a.toArray⟩ ⟨b.toArray⟩ = .ret { v := .bool (!(Op.bytesLess a b || a == b)) } := by
  simp only [aa8, yQ]
theorem apu (a b : List UInt8) : aa8 .geq ⟨a.toArray⟩ ⟨b.toArray⟩ = .ret { v := .bool (!(Op.bytesLess a b)) } := by
  simp only [aa8, yQ]
theorem aj7 {l : List V} (h : ∀ v ∈ l, v.closed) : Qc l := by
  induction l with
  | nil => trivial
  | cons v l ih => exact ⟨h v (by simp), by grind⟩
end Av
end
section
namespace Av
open Go
theorem Qo {α : Type} {l : List α} {k : Nat} {y : α} {r : List α} (h : l.drop k = y :: r) : k < l.length ∧ l[k]? = some y ∧ l.drop (k + 1) = r := by
  grind [Nat.lt_or_ge,List.drop_of_length_le,List.drop_eq_getElem_cons,List.cons.injEq]
theorem QB {α : Type} {l : List α} {k : Nat} (h : l.drop k = []) : l.length ≤ k := by simpa using h
theorem Qg {k : Nat} (h : k < 2 ^ 62) : IntKind.i64.wrap ((k : Int) + 1) = ((k + 1 : Nat) : Int) := by
  grind [QE]
def Xs : List (Nat × V) → Nat → V → V
  | [], _, v => v
  | (j, u) :: r, k, v => if k = j then u else Xs r k v
def ovT (ts : List (Nat × V)) : List (Nat × V) → List (Nat × V)
  | [] => []
  | (k, v) :: r => (k, Xs ts k v) :: ovT ts r
def ltO (n : Nat) (o : Nat → Option Ob) : Prop := ∀ a x, o a = some x → a < n ∧ x.lt n
theorem aht {n : Nat} {o : Nat → Option Ob} {a : Nat} {x : Ob} (h1 : a < n) (h2 : x.lt n) (h : ltO n o) : ltO n (upd o a (some x)) := by
  intro b y hb
  by_cases e : b = a
  · grind [Qe]
  · rw [QM _ _ e] at hb; exact h b y hb
theorem am8 {n : Nat} : ltO n (fun _ => none) := by intro a x h; cases h
def ltT (n : Nat) (l : List (Nat × V)) : Prop := ∀ p ∈ l, p.2.lt n
theorem xM {n : Nat} : ltT n [] := by intro p hp; cases hp
theorem ja {n k : Nat} {v : V} {r : List (Nat × V)} (h1 : v.lt n) (h : ltT n r) : ltT n ((k, v) :: r) := by
  intro p hp
  rcases List.mem_cons.1 hp with rfl | hp
  · exact h1
  · exact h p hp
def eqT (t : Nat → V) (τ : Nat → Nat) (l : List (Nat × V)) : Prop := ∀ p ∈ l, t p.1 = p.2.ren τ
theorem yq {t : Nat → V} {τ : Nat → Nat} : eqT t τ [] := by intro p hp; cases hp
theorem KE {t : Nat → V} {τ : Nat → Nat} {k : Nat} {v : V} {r : List (Nat × V)} : eqT t τ ((k, v) :: r) ↔ t k = v.ren τ ∧ eqT t τ r := by
  constructor
  · intro h; exact ⟨h (k, v) (by simp), fun p hp => h p (by simp [hp])⟩
  · rintro ⟨h1, h2⟩ p hp
    rcases List.mem_cons.1 hp with rfl | hp
    · exact h1
    · exact h2 p hp
def okN (n m : Nat) (rn : List (Nat × Nat)) : Prop := (∀ p ∈ rn, n ≤ p.2 ∧ m ≤ p.1) ∧ (rn.map (·.2)).Nodup
theorem jb : ∀ (rn : List (Nat × Nat)) (a : Nat), (Qd rn a = a ∧ ∀ p ∈ rn, p.1 ≠ a) ∨ (a, Qd rn a) ∈ rn
  | [], a => .inl ⟨rfl, by simp⟩
  | (k, v) :: r, a => by
    simp only [Qd]
    split
    · grind
    · rename_i h
      rcases jb r a with ⟨h1, h2⟩ | h'
      · grind
      grind
theorem ali {n m : Nat} {rn : List (Nat × Nat)} (h : okN n m rn) {a b : Nat} (ha : a < n) (hb : b < n) (e : Qd rn a = Qd rn b) : a = b := by
  rcases jb rn a with ⟨h1, _⟩ | h1 <;> rcases jb rn b with ⟨h2, _⟩ | h2
  · omega
  · have := (h.1 _ h2).1; grind
  · have := (h.1 _ h1).1; grind
  · have := qX h.2 h1 h2 e
    grind
theorem alj {n m : Nat} {rn : List (Nat × Nat)} (h : okN n m rn) {k : Nat} (hk : k < m) : Qd rn k = k := by
  rcases jb rn k with ⟨h1, _⟩ | h1
  · exact h1
  · have := (h.1 _ h1).2; grind
theorem akn (τ : Nat → Nat) (n : Nat) (x : Ob) (h : x.lt n) : (x.ren τ).weak τ n x := by
  induction x with
  | dead => trivial
  | typ T x ih => exact ⟨rfl, ih h⟩
  | box wr cs => exact ⟨fun h => h, rfl, h⟩
  | buf wr s xs => exact ⟨fun h => h, rfl, rfl⟩
  | obuf wr s xs => exact ⟨fun h => h, rfl, rfl, h⟩
  | map ks vs c0 => exact ⟨rfl, rfl, rfl, h⟩
  | iter a since seen last => exact ⟨rfl, h, rfl, rfl, rfl⟩
theorem anX {m n : Nat} {s : St} {l : List (Nat × V)} {o : Nat → Option Ob} (rn : List (Nat × Nat)) (hn : okN n m rn) (hm : m ≤ n) (hl : ltT n l) (hlo : ltO n o)
    (ht : eqT s.t (Qd rn) l) (ho : ∀ a, a < n → s.o (Qd rn a) = (o a).map (Ob.ren (Qd rn))) : ah7 m (Qd rn) s { t := Ut l, o := o, n := n } := by
  refine ⟨fun i => ?_, fun a y h => ?_, fun a b ha hb e => ?_, fun k hk => alj hn hk, hm⟩
  · rcases yd l i with h | h
    · exact .inl h
    · exact .inr ⟨ht _ h, hl _ h⟩
  · obtain ⟨h1, h2⟩ := hlo a y h
    grind [akn,Qd]
  · obtain ⟨x, hx⟩ := Option.ne_none_iff_exists'.1 ha
    obtain ⟨y, hy⟩ := Option.ne_none_iff_exists'.1 hb
    exact ali hn (hlo a x hx).1 (hlo b y hy).1 e
section
variable {C : Ctx} {nt : Nat} {K : St → Prop} {E : Nat → St → Prop} {R : St → Prop}
theorem apV : ∀ (k : Nat) (v : V), SizeOf.sizeOf v ≤ k → v.ren (fun a => a) = v := by
  intro k
  induction k with
  | zero => intro v h; cases v <;> simp at h
  | succ k ih =>
    intro v h
    have list : ∀ cs : List V, SizeOf.sizeOf cs ≤ k → US (fun a => a) cs = cs := by
      intro cs
      induction cs with
      | nil => intro _; rfl
      | cons u r ihr => grind [US]
    cases v <;> simp only [V.ren] <;> simp at h
    all_goals (rw [list _ (by omega)])
theorem amI (v : V) : v.ren (fun a => a) = v := apV _ v (Nat.le_refl _)
theorem aqZ (cs : List V) : US (fun a => a) cs = cs := by induction cs with
  | nil => rfl
  | cons v r ih => simp only [US, amI, ih]
theorem aqY (x : Ob) : x.ren (fun a => a) = x := by induction x <;> simp_all [Ob.ren, aqZ]
theorem acm : Qd [] = fun a => a := by funext a; rfl
theorem Jz {ks : List Nat} {x : AC} {base : List (Nat × V)} {o0 : Nat → Option Ob} {n0 : Nat} {ι : Type} (good : ι → Prop) (ts : ι → List (Nat × V)) (msr : ι → Nat) (i0 : ι)
    (hm : C.m ≤ n0) (h0 : good i0) (hlo : ltO n0 o0) (hl : ∀ i, good i → ltT n0 (ovT (ts i) base)) (ht : eqT (Ut base) (fun a => a) (ovT (ts i0) base))
    (h : ∀ i, good i → ∀ K' : St → Prop, (∀ s' i', eqT s'.t (fun a => a) (ovT (ts i') base) → good i' → msr i' < msr i → (∀ a, a < n0 → s'.o a = o0 a) → K' s') →
      AWp C nt x { t := Ut (ovT (ts i) base), o := o0, n := n0 } K' E R) : AWp C nt (abl ks x) { t := Ut base, o := o0, n := n0 } K E R := by
  have hn : okN n0 C.m [] := ⟨by simp, by simp⟩
  have ren0 : ∀ oo : Nat → Option Ob, ∀ a, (oo a).map (Ob.ren (Qd [])) = oo a := by
    intro oo a
    rw [acm]
    cases oo a with
    | none => rfl
    | some x => simp [aqY]
  refine Qp good (fun i => { t := Ut (ovT (ts i) base), o := o0, n := n0 }) msr i0 h0 (Qd []) (anX [] hn hm (hl i0 h0) hlo (by rw [acm]; exact ht) (fun a _ => (ren0 o0 a).symm)) ?_
  intro i hi K' hK
  exact h i hi K' fun s' i' h1 h2 h3 h4 => hK s' i' (Qd []) h2 h3 (anX [] hn hm (hl i' h2) hlo (by rw [acm]; exact h1) (fun a ha => (h4 a ha).trans (ren0 o0 a).symm))
end
end Av
end
section
namespace Av
open Go
def awR (A W : Nat → Bool) (b : Nat) (s : St) (d : Option Nat) (J : St → Prop) (m : AM E) : Prop := m.wp (Jw A s.o) fun e => okW W b e.os ∧ J (s.eff d e)
def Ug (A W : Nat → Bool) (b : Nat) (s : St) (d : Option Nat) (J : St → Prop) (k : Ob → AM E) (x : Option Ob) : Prop :=
  match x with
  | some ob => awR A W b s d J (k ob)
  | none => False
def jR (Γ : Env) (A W : Nat → Bool) (b : Nat) (s : St) (x : AO) (J : St → Prop) : Prop := awG Γ A W b s x J
def K4 (Γ : Env) (fz : Nat → Bool) (b0 : Nat) (K : St → Prop) (t : OP) (s : St) : Prop := awP Γ fz b0 K t s
def ab5 (Γ : Env) (fz : Nat → Bool) (b0 : Nat) (K : St → Prop) (t : OP) (s : St) : Prop := apB Γ fz b0 K t s
def aay (Γ : Env) (A W : Nat → Bool) (b : Nat) (s : St) (x : AO) (g : Nat) (want : Bool) (v : V) (J : St → Prop) : Prop :=
  match v with
  | .sc (.bool q) => (q = want → jR Γ A W b (s.put (some g) (.bool want)) { d := x.d, op := x.op } J) ∧ (q = !want → J ((s.put (some g) (.bool !want)).put x.d V.und))
  | .tup [] => J (s.put x.d V.und)
  | _ => False
def V9 (Γ : Env) (A W : Nat → Bool) (b : Nat) (s : St) (d : Option Nat) (v : V) (acts : List V) (J : St → Prop) : Prop :=
  match v with
  | .clo f cap => QZ Γ A W b s d f.f (f.args acts cap) J
  | _ => False
section
variable {Γ : Env} {A W : Nat → Bool} {fz : Nat → Bool} {b b0 : Nat} {s : St} {d : Option Nat} {J K : St → Prop}
theorem akE : K4 Γ fz b0 K .done s ↔ K s := by simp only [K4, awP]
theorem amE {j : Nat} {X : Bool} {acl : List Nat} {x : AO} {t : OP} : K4 Γ fz b0 K (.one j X acl x t) s ↔ jR Γ (rA X acl fz b0) (rW X acl fz b0) (b0 + j * KK) s x (K4 Γ fz b0 K t) := by
  simp only [K4, awP, jR]; exact Iff.rfl
theorem aow {j : Nat} {X : Bool} {acl : List Nat} {x : AO} {t r : OP} : K4 Γ fz b0 K (.or j X acl x t r) s ↔ jR Γ (rA X acl fz b0) (rW X acl fz b0) (b0 + j * KK) s x (K4 Γ fz b0 K t) ∧ ab5 Γ fz b0 K r s := by
  simp only [K4, ab5, awP, jR]; exact Iff.rfl
theorem amF {j : Nat} {X : Bool} {acl : List Nat} {x : AO} {t r : OP} : ab5 Γ fz b0 K (.or j X acl x t r) s ↔ jR Γ (rA X acl fz b0) (rW X acl fz b0) (b0 + j * KK) s x (K4 Γ fz b0 K t) ∧ ab5 Γ fz b0 K r s := by
  simp only [K4, ab5, apB, jR]; exact Iff.rfl
theorem ajq : ab5 Γ fz b0 K .done s ↔ True := by simp only [ab5, apB]
theorem ajs {x : Opd} {as : List Opd} : jR Γ A W b s ⟨d, .callv x as, none⟩ J ↔ V9 Γ A W b s d (s.ev x) (as.map s.ev) J := by
  simp only [jR, awG, amc, V9]
  cases s.ev x <;> rfl
theorem apQ {aop : AOp} {g : Nat} {want : Bool} : jR Γ A W b s ⟨d, aop, some (g, want)⟩ J ↔ aay Γ A W b s ⟨d, aop, none⟩ g want (s.t g) J := by
  simp only [jR, awG]
  constructor
  · rintro ⟨q, hq, h1, h2⟩
    unfold aay
    rcases q with _ | q
    · have hq : s.t g = .tup [] := hq
      grind
    · have hq : s.t g = .bool q := hq
      rw [hq]
      refine ⟨fun e => ?_, fun e => ?_⟩
      · rw [KA (by rw [hq, e])]; exact h1 (by rw [e])
      grind [KA]
  · intro h
    unfold aay at h
    split at h
    · rename_i q hq
      refine ⟨some q, hq, fun e => ?_, fun e => ?_⟩
      · cases e
        have := h.1 rfl
        rw [KA hq] at this
        exact this
      · have e' : q = !want := by cases q <;> cases want <;> simp_all
        grind [KA]
    · rename_i hq
      exact ⟨none, hq, (fun e => by cases e), fun _ => h⟩
    · exact h.elim
theorem aqv {a : Nat} {k : Ob → AM E} : awR A W b s d J (.rd a k) ↔ Ug A W b s d J k (Jw A s.o a) := by
  unfold Ug
  grind [Jw,awR,AM.wp]
theorem v6 (A : Nat → Bool) (o : Nat → Option Ob) (a : Nat) : Jw A o a = if A a = true then o a else none := rfl
theorem aoM : okW W b [] ↔ True := by simp [okW]
theorem am1 {q : Nat × Ob} {r : List (Nat × Ob)} : okW W b (q :: r) ↔ (W q.1 || (decide (b ≤ q.1) && decide (q.1 < b + KK))) = true ∧ okW W b r := by simp [okW]
theorem aqz {f : FuncId} {acts : List V} {res : V} (hc : Qj (Jw A s.o) none acts) (h : EvN Γ f (Jv (Jw A s.o) acts) res) (hk : J { t := (s.put d res).t, o := s.o, n := s.n }) : QZ Γ A W b s d f acts J :=
  apm h.1 rfl hc h.2.1 h.2.2 hk
theorem aqB {f : FuncId} {acts : List V} {res : V} (hc : Qj (Jw A s.o) (some []) acts) (h : EvC Γ f (Jv (Jw A s.o) acts) res) (hk : J { t := (s.put d res).t, o := s.o, n := s.n }) : QZ Γ A W b s d f acts J :=
  apn h.1 rfl hc h.2 hk
end
section
variable {C : Ctx} {nt : Nat} {s : St} {K : St → Prop} {E : Nat → St → Prop} {R : St → Prop}
theorem ai7 {ks L : List Nat} {ot : OT} {p : OP} {ops : List AO} {ahead : List (List Nat)} {y : AC} (N : Nat) (fz : Nat → Bool) (hN : ops.length = N) (hc : okR ops ahead L ot = true) (hp : jL (ris ops ahead L) ot = p)
    (h : ∀ K' : St → Prop, (∀ s', AWp C nt y s' K E R → K' s') → K4 C.env fz s.n (fun s' => K' ((s'.wn (s.n + N * KK)).keep ks)) p s) : AWp C nt (Yq ks (aoB L ot p ops ahead) y) s K E R := by
  subst hN
  exact abY (ai9 fz hc hp (h _ fun _ h => h))
theorem ai8 {L : List Nat} {ot : OT} {p : OP} {ops : List AO} {ahead : List (List Nat)} (N : Nat) (fz : Nat → Bool) (hN : ops.length = N) (hc : okR ops ahead L ot = true) (hp : jL (ris ops ahead L) ot = p)
    (h : ∀ K' : St → Prop, (∀ s', K s' → K' s') → K4 C.env fz s.n (fun s' => K' (s'.wn (s.n + N * KK))) p s) : AWp C nt (aoB L ot p ops ahead) s K E R := by
  subst hN
  exact ai9 fz hc hp (h _ fun _ h => h)
end
end Av
end
section
set_option linter.unusedVariables false
namespace Av
open Go
def aqK (o : Nat → Option Ob) (off len : Nat) : Option Ob → V
  | some (.buf _ s xs) => .sl s ((xs.drop off).take len)
  | some (.obuf _ s xs) => .sl s (V2 o ((xs.drop off).take len))
  | _ => .top
def hdC (o : Nat → Option Ob) (br : List Nat) (B : Option (List Nat)) (off len s : Nat) (ys : List V) : Option Ob → Prop
  | some (.buf _ s1 xs) => s1 = s ∧ ys = (xs.drop off).take len
  | some (.obuf _ s1 xs) => s1 = s ∧ Jh o br B ((xs.drop off).take len) ys ∧ ntL ys ∧ Qc ys
  | _ => False
theorem aqo (o : Nat → Option Ob) (br : List Nat) (B : Option (List Nat)) (a off len s : Nat) (ys : List V) : conv o br B (.hd a off len) (.sl s ys) ↔ okB B a ∧ a ∉ br ∧ hdC o br B off len s ys (o a) := by
  rw [ahV]; unfold hdC; constructor
  · rintro ⟨h1, h2, ⟨wr, xs, h3, h4⟩ | ⟨wr, xs, h3, h4⟩⟩ <;> rw [h3] <;> exact ⟨h1, h2, rfl, h4⟩
  · rintro ⟨h1, h2, h3⟩; split at h3
    · rename_i wr s1 xs e; obtain ⟨rfl, h4⟩ := h3; exact ⟨h1, h2, .inl ⟨wr, xs, e, h4⟩⟩
    · rename_i wr s1 xs e; obtain ⟨rfl, h4⟩ := h3; exact ⟨h1, h2, .inr ⟨wr, xs, e, h4⟩⟩
    · exact h3.elim
def aos (off : Nat) : Option Ob → V
  | some (.box _ cs) => .ro cs off
  | _ => .top
def awB (q want : Bool) (A B : Prop) : Prop := (q = want → A) ∧ (q = !want → B)
@[congr] theorem aqD {q q2 want : Bool} {A B : Prop} (h : q = q2) : awB q want A B = awB q2 want A B := by rw [h]
@[go_sem ↓] theorem ar5 {A B : Prop} : awB true true A B = A := by simp [awB]
@[go_sem ↓] theorem ar4 {A B : Prop} : awB false true A B = B := by simp [awB]
@[go_sem ↓] theorem ar3 {A B : Prop} : awB true false A B = B := by simp [awB]
@[go_sem ↓] theorem ar2 {A B : Prop} : awB false false A B = A := by simp [awB]
theorem apD {q : Bool} {A B : Prop} (h1 : q = true → A) (h2 : q = false → B) : awB q true A B := ⟨h1, h2⟩
theorem apE {q : Bool} {A B : Prop} (h1 : q = false → A) (h2 : q = true → B) : awB q false A B := ⟨h1, h2⟩
section
variable {Γ : Env} {A W : Nat → Bool} {fz : Nat → Bool} {b b0 : Nat} {r : List AO} {s : St} {d : Option Nat} {J K : St → Prop} {o : Nat → Option Ob} {br : List Nat} {B : Option (List Nat)}
@[go_sem] theorem u1 : VA Γ b [] s K = K { t := s.t, o := s.o, n := b } := propext Iff.rfl
@[go_sem] theorem u2 {x : AO} : VA Γ b (x :: r) s K = (match x.g with | none => (match x.op with | .call f as => awC Γ b r s x.d f (as.map s.ev) K | .callv y as => aa9 Γ b r s x.d (s.ev y) (as.map s.ev) K | op => awS Γ b r s x.d K (sem b s.ev op)) | some (g, want) => awQ Γ b r s ⟨x.d, x.op, none⟩ g want (s.t g) K) := by
  obtain ⟨d, op, g⟩ := x
  cases g with
  | some p => obtain ⟨g, want⟩ := p; exact propext apP
  | none =>
    cases op
    case callv y as => exact propext ajr
    all_goals rfl
@[go_sem] theorem u3 {f : FuncId} {cap acts : List V} : aa9 Γ b r s d (.clo (.n f) cap) acts K = awC Γ b r s d f (acts ++ cap) K := propext Iff.rfl
@[go_sem] theorem u4 {x : AO} {g : Nat} {want q : Bool} : awQ Γ b r s x g want (.sc (.bool q)) K = awB q want (VA Γ b (⟨x.d, x.op, none⟩ :: r) (s.put (some g) (.bool want)) K) (VA Γ (b + KK) r ((s.put (some g) (.bool !want)).put x.d V.und) K) := propext Iff.rfl
@[go_sem] theorem u5 {x : AO} {g : Nat} {want : Bool} : awQ Γ b r s x g want (.tup []) K = VA Γ (b + KK) r (s.put x.d V.und) K := propext Iff.rfl
@[go_sem] theorem u6 {e : E} : awS Γ b r s d K (.ret e) = VA Γ (b + KK) r (s.eff d e) K := propext Iff.rfl
@[go_sem] theorem u7 {p : Prop} {m : AM E} : awS Γ b r s d K (.asrt p m) = (p ∧ awS Γ b r s d K m) := propext Iff.rfl
@[go_sem] theorem u8 {a : Nat} {k : Ob → AM E} : awS Γ b r s d K (.rd a k) = abD Γ b r s d K k (s.o a) := propext aqu
@[go_sem] theorem u9 {k : Bool → AM E} : awS Γ b r s d K (.any k) = ∀ t, awS Γ b r s d K (k t) := propext Iff.rfl
@[go_sem] theorem u10 : awS Γ b r s d K .no = False := propext Iff.rfl
@[go_sem] theorem u11 {k : Ob → AM E} {ob : Ob} : abD Γ b r s d K k (some ob) = awS Γ b r s d K (k ob) := propext Iff.rfl
@[go_sem] theorem u12 : K4 Γ fz b0 K .done s = K s := propext akE
@[go_sem] theorem u13 {j : Nat} {X : Bool} {acl : List Nat} {x : AO} {t r : OP} : K4 Γ fz b0 K (.or j X acl x t r) s = (jR Γ (rA X acl fz b0) (rW X acl fz b0) (b0 + j * KK) s x (K4 Γ fz b0 K t) ∧ ab5 Γ fz b0 K r s) := propext aow
@[go_sem] theorem u14 {j : Nat} {X : Bool} {acl : List Nat} {x : AO} {t r : OP} : ab5 Γ fz b0 K (.or j X acl x t r) s = (jR Γ (rA X acl fz b0) (rW X acl fz b0) (b0 + j * KK) s x (K4 Γ fz b0 K t) ∧ ab5 Γ fz b0 K r s) := propext amF
@[go_sem] theorem u15 {j : Nat} {X : Bool} {acl : List Nat} {x : AO} {t : OP} : K4 Γ fz b0 K (.one j X acl x t) s = jR Γ (rA X acl fz b0) (rW X acl fz b0) (b0 + j * KK) s x (K4 Γ fz b0 K t) := propext amE
@[go_sem] theorem u16 : ab5 Γ fz b0 K .done s = True := propext ajq
@[go_sem] theorem u17 {x : AO} : jR Γ A W b s x J = (match x.g with | none => (match x.op with | .call f as => QZ Γ A W b s x.d f (as.map s.ev) J | .callv y as => V9 Γ A W b s x.d (s.ev y) (as.map s.ev) J | op => awR A W b s x.d J (sem b s.ev op)) | some (g, want) => aay Γ A W b s ⟨x.d, x.op, none⟩ g want (s.t g) J) := by
  obtain ⟨d, op, g⟩ := x
  cases g with
  | some p => obtain ⟨g, want⟩ := p; exact propext apQ
  | none =>
    cases op
    case callv y as => exact propext ajs
    all_goals rfl
@[go_sem] theorem u18 {f : FuncId} {cap acts : List V} : V9 Γ A W b s d (.clo (.n f) cap) acts J = QZ Γ A W b s d f (acts ++ cap) J := propext Iff.rfl
@[go_sem] theorem u19 {x : AO} {g : Nat} {want q : Bool} : aay Γ A W b s x g want (.sc (.bool q)) J = awB q want (jR Γ A W b (s.put (some g) (.bool want)) ⟨x.d, x.op, none⟩ J) (J ((s.put (some g) (.bool !want)).put x.d V.und)) := propext Iff.rfl
@[go_sem] theorem u20 {x : AO} {g : Nat} {want : Bool} : aay Γ A W b s x g want (.tup []) J = J (s.put x.d V.und) := propext Iff.rfl
@[go_sem] theorem u21 : awR A W b s d J .no = False := propext Iff.rfl
@[go_sem] theorem u22 {e : E} : awR A W b s d J (.ret e) = (okW W b e.os ∧ J (s.eff d e)) := propext Iff.rfl
@[go_sem] theorem u23 {p : Prop} {m : AM E} : awR A W b s d J (.asrt p m) = (p ∧ awR A W b s d J m) := propext Iff.rfl
@[go_sem] theorem u24 {a : Nat} {k : Ob → AM E} : awR A W b s d J (.rd a k) = Ug A W b s d J k (Jw A s.o a) := propext aqv
@[go_sem] theorem u25 {k : Ob → AM E} {ob : Ob} : Ug A W b s d J k (some ob) = awR A W b s d J (k ob) := propext Iff.rfl
@[go_sem] theorem u26 {A : Nat → Bool} {o : Nat → Option Ob} {a : Nat} : Jw A o a = if A a = true then o a else none := rfl
@[go_sem] theorem u27 {W : Nat → Bool} {b : Nat} : okW W b [] = True := propext aoM
@[go_sem] theorem u28 {W : Nat → Bool} {b : Nat} {q : Nat × Ob} {r : List (Nat × Ob)} : okW W b (q :: r) = ((W q.1 || (decide (b ≤ q.1) && decide (q.1 < b + KK))) = true ∧ okW W b r) := propext am1
@[go_sem] theorem u29 {X : Bool} {acl : List Nat} {fz : Nat → Bool} {b0 a : Nat} : rA X acl fz b0 a = ((decide (a < b0) && (X || fz a)) || acl.any fun i => decide (b0 + i * KK ≤ a) && decide (a < b0 + i * KK + KK)) := rfl
@[go_sem] theorem u30 {X : Bool} {acl : List Nat} {fz : Nat → Bool} {b0 a : Nat} : rW X acl fz b0 a = (X && ((decide (a < b0) && !fz a) || acl.any fun i => decide (b0 + i * KK ≤ a) && decide (a < b0 + i * KK + KK))) := rfl
@[go_sem] theorem u31 {s : St} {n : Nat} : s.wn n = { t := s.t, o := s.o, n := n } := rfl
@[go_sem] theorem u32 {ks : List Nat} {s : St} : s.keep ks = { t := Ut (ks.map fun k => (k, s.t k)), o := s.o, n := s.n } := rfl
@[go_sem] theorem u33 {α : Type} {f : Nat → α} {a : Nat} {v : α} {i : Nat} : upd f a v i = if i = a then v else f i := rfl
@[go_sem] theorem u34 {k : Nat} {v : V} {r : List (Nat × V)} {i : Nat} : Ut ((k, v) :: r) i = if i = k then v else Ut r i := rfl
@[go_sem] theorem u35 {i : Nat} : Ut [] i = .top := rfl
@[go_sem] theorem u36 {k : Nat} {v : Ob} {r : List (Nat × Ob)} {i : Nat} : ada ((k, v) :: r) i = if i = k then some v else ada r i := rfl
@[go_sem] theorem u37 {i : Nat} : ada [] i = none := rfl
@[go_sem] theorem u38 {args : List V} {ins : List Ob} : Xx args ins = { t := fun i => (args[i]?).getD .top, o := fun k => ins[k]?, n := ins.length } := rfl
@[go_sem] theorem u39 {ts : List (Nat × V)} {os : List (Nat × Ob)} {n : Nat} : JY ts os n = { t := Ut ts, o := ada os, n := n } := rfl
@[go_sem] theorem u40 {α : Type} : ([] : List α).length = 0 := rfl
@[go_sem] theorem u41 {α : Type} {a : α} {l : List α} : (a :: l).length = l.length + 1 := rfl
@[go_sem] theorem u42 {α : Type} {a : α} {l : List α} : (a :: l)[0]? = some a := rfl
@[go_sem] theorem u43 {α : Type} {a : α} {l : List α} {i : Nat} : (a :: l)[i + 1]? = l[i]? := rfl
@[go_sem] theorem u44 {α : Type} {a b : α} : (some a).getD b = a := rfl
@[go_sem] theorem u45 {α : Type} {b : α} : (none : Option α).getD b = b := rfl
@[go_sem] theorem u46 {α β : Type} {f : α → β} : (none : Option α).map f = none := rfl
@[go_sem] theorem u47 {α β : Type} {f : α → β} {a : α} : (some a).map f = some (f a) := rfl
@[go_sem] theorem u48 {α β : Type} {f : α → β} : ([] : List α).map f = [] := rfl
@[go_sem] theorem u49 {α β : Type} {f : α → β} {a : α} {l : List α} : (a :: l).map f = f a :: l.map f := rfl
@[go_sem] theorem u50 {α : Type} {l : List α} : [] ++ l = l := rfl
@[go_sem] theorem u51 {α : Type} {a : α} {l r : List α} : (a :: l) ++ r = a :: (l ++ r) := rfl
@[go_sem] theorem u52 {α : Type} {l : List α} : l.take 0 = [] := rfl
@[go_sem] theorem u53 {α : Type} {a : α} {l : List α} {n : Nat} : (a :: l).take (n + 1) = a :: l.take n := rfl
@[go_sem] theorem u54 {α : Type} {l : List α} : l.drop 0 = l := rfl
@[go_sem] theorem u55 {α : Type} {a : α} {l : List α} {n : Nat} : (a :: l).drop (n + 1) = l.drop n := rfl
@[go_sem] theorem u56 {α : Type} {p : α → Bool} : ([] : List α).any p = false := rfl
@[go_sem] theorem u57 {α : Type} {p : α → Bool} {a : α} {l : List α} : (a :: l).any p = (p a || l.any p) := rfl
@[go_sem] theorem u58 {α β : Type} {f : β → α → β} {b : β} : ([] : List α).foldl f b = b := rfl
@[go_sem] theorem u59 {α β : Type} {f : β → α → β} {b : β} {a : α} {l : List α} : (a :: l).foldl f b = l.foldl f (f b a) := rfl
@[go_sem] theorem u60 {α : Type} {a : α} : List.replicate 0 a = [] := rfl
@[go_sem] theorem u61 {α : Type} {n : Nat} {a : α} : List.replicate (n + 1) a = a :: List.replicate n a := rfl
@[go_sem] theorem u62 {α : Type} {a b : α} {l : List α} : (a :: l).set 0 b = b :: l := rfl
@[go_sem] theorem u63 {α : Type} {a b : α} {l : List α} {n : Nat} : (a :: l).set (n + 1) b = a :: l.set n b := rfl
@[go_sem] theorem u64 {n : Nat} : n + 0 = n := rfl
@[go_sem] theorem u65 {n : Nat} : (n : Int).toNat = n := rfl
@[go_sem] theorem u66 {α : Type} {i : Nat} : ([] : List α)[i]? = none := by simp
@[go_sem] theorem u67 {α : Type} {l : List α} : l ++ [] = l := by simp
@[go_sem] theorem u68 {α : Type} {n : Nat} : ([] : List α).take n = [] := by simp
@[go_sem] theorem u69 {α : Type} {n : Nat} : ([] : List α).drop n = [] := by simp
@[go_sem] theorem u70 {n : Nat} : 0 + n = n := by simp
@[go_sem] theorem u71 {n : Nat} : (0 ≤ (n : Int)) = True := by simp
@[go_sem] theorem u72 {n : Nat} : (n ≤ n) = True := by simp
@[go_sem] theorem u73 {α : Type} {p : α → Prop} {a : α} {l : List α} : (∀ x ∈ a :: l, p x) = (p a ∧ ∀ x ∈ l, p x) := by simp
@[go_sem] theorem u74 {α : Type} {p : α → Prop} : (∀ x ∈ ([] : List α), p x) = True := by simp
@[go_sem] theorem u75 {α : Type} {a : α} : (a ∈ ([] : List α)) = False := by simp
@[go_sem] theorem u76 {p : Prop} : (True ∧ p) = p := by simp
@[go_sem] theorem u77 {p : Prop} : (p ∧ True) = p := by simp
@[go_sem] theorem u78 {p : Prop} : (False ∧ p) = False := by simp
@[go_sem] theorem u79 {p : Prop} : (True ∨ p) = True := by simp
@[go_sem] theorem u80 {p : Prop} : (p ∨ True) = True := by simp
@[go_sem] theorem u81 {p : Prop} : (False ∨ p) = p := by simp
@[go_sem] theorem u82 {p : Prop} : (p ∨ False) = p := by simp
@[go_sem] theorem u83 : (¬ True) = False := by simp
@[go_sem] theorem u84 : (¬ False) = True := by simp
@[go_sem] theorem u85 {p : Prop} : (False → p) = True := by simp
@[go_sem] theorem u86 {p : Prop} : (True → p) = p := by simp
@[go_sem] theorem u87 {α : Type} : (α → True) = True := by simp
@[go_sem] theorem u88 {p : Prop} : (p → True) = True := by simp
@[go_sem] theorem u89 : (false = true) = False := by simp
@[go_sem] theorem u90 : (true = false) = False := by simp
@[go_sem] theorem u91 {α : Type} {a b : α} : (some a = some b) = (a = b) := by simp
@[go_sem] theorem u92 {α : Type} {a : α} : (a = a) = True := by simp
@[go_sem] theorem u93 : decide True = true := by simp
@[go_sem] theorem u94 : decide False = false := by simp
@[go_sem] theorem u95 : (!true) = false := rfl
@[go_sem] theorem u96 : (!false) = true := rfl
@[go_sem] theorem u97 {b : Bool} : (true && b) = b := rfl
@[go_sem] theorem u98 {b : Bool} : (false && b) = false := rfl
@[go_sem] theorem u99 {b : Bool} : (true || b) = true := rfl
@[go_sem] theorem atN {b : Bool} : (false || b) = b := rfl
@[go_sem] theorem atM {α : Type} {a b : α} : (a ≠ b) = ¬ (a = b) := rfl
@[go_sem] theorem atL {b : Bool} : (b && true) = b := by simp
@[go_sem] theorem atK {b : Bool} : (b && false) = false := by simp
@[go_sem] theorem atJ {b : Bool} : (b || true) = true := by simp
@[go_sem] theorem atI {b : Bool} : (b || false) = b := by simp
@[go_sem] theorem atH {v : V} : conv o br B v .top = True := propext (by apply aql)
@[go_sem] theorem atG {v u : Value} : conv o br B (.sc v) (.sc u) = (v = u) := propext (by apply ari)
@[go_sem] theorem atE {s : Nat} {ys : List V} : conv o br B (.sc (.slice none 0 0)) (.sl s ys) = (ys = []) := propext (by apply aqn)
@[go_sem] theorem atD {s s' : Nat} {xs ys : List V} : conv o br B (.sl s xs) (.sl s' ys) = (s = s' ∧ xs = ys) := propext (by apply arh)
@[go_sem] theorem atC {a off len s : Nat} {ys : List V} : conv o br B (.hd a off len) (.sl s ys) = (okB B a ∧ a ∉ br ∧ hdC o br B off len s ys (o a)) := propext (by apply aqo)
@[go_sem] theorem atB {a off off' : Nat} {es : List V} : conv o br B (.ptr a off) (.ro es off') = (okB B a ∧ a ∉ br ∧ off' = off ∧ Qc es ∧ ∃ wr cs, o a = some (.box wr cs) ∧ Jh o br B cs es) := propext (by apply aqm)
@[go_sem] theorem atA {off off' : Nat} {cs es : List V} : conv o br B (.ro cs off) (.ro es off') = (cs = es ∧ off' = off) := propext (by apply arj)
@[go_sem] theorem atz {cs es : List V} : conv o br B (.agg cs) (.agg es) = Jh o br B cs es := propext (by apply aqq)
@[go_sem] theorem aty {cs es : List V} : conv o br B (.tup cs) (.tup es) = Jh o br B cs es := propext (by apply aqk)
@[go_sem] theorem atx {f g : FK} {cs es : List V} : conv o br B (.clo f cs) (.clo g es) = (f = g ∧ Jh o br B cs es) := propext (by apply aqp)
@[go_sem] theorem atw  : conv o br B .nn .nn = True := propext (by apply ark)
@[go_sem] theorem atv : Jh o br B [] [] = True := propext (apg _ _ _)
@[go_sem] theorem atu {v e : V} {r r' : List V} : Jh o br B (v :: r) (e :: r') = (conv o br B v e ∧ Jh o br B r r') := propext (anA _ _ _ _ _ _ _)
@[go_sem] theorem att {a : Nat} : okB none a = True := propext (am4 _)
@[go_sem] theorem ats {l : List Nat} {a : Nat} : okB (some l) a = (a ∈ l) := propext (am3 _ _)
@[go_sem] theorem atr {wr0 : Bool} {s0 s : Nat} {xs0 : List V} {p : List V → Prop} : (∃ wr xs, some (Ob.buf wr0 s0 xs0) = some (Ob.buf wr s xs) ∧ p xs) = (s0 = s ∧ p xs0) := propext ajR
@[go_sem] theorem atq {wr0 : Bool} {s0 s : Nat} {xs0 : List V} {p : List V → Prop} : (∃ wr xs, Ob.buf wr0 s0 xs0 = Ob.buf wr s xs ∧ p xs) = (s0 = s ∧ p xs0) := propext ahI
@[go_sem] theorem atp {wr0 : Bool} {cs0 : List V} {p : List V → Prop} : (∃ wr cs, some (Ob.box wr0 cs0) = some (Ob.box wr cs) ∧ p cs) = p cs0 := propext ajS
@[go_sem] theorem ato {wr0 : Bool} {cs0 : List V} {p : List V → Prop} : (∃ wr cs, Ob.box wr0 cs0 = Ob.box wr cs ∧ p cs) = p cs0 := propext ahJ
@[go_sem] theorem atn {wr0 : Bool} {s0 : Nat} {xs0 : List V} : (∃ wr s xs, some (Ob.buf wr0 s0 xs0) = some (Ob.buf wr s xs)) = True := eq_true ⟨wr0, s0, xs0, rfl⟩
@[go_sem] theorem atm {wr0 : Bool} {s0 : Nat} {xs0 : List V} : (∃ wr s xs, Ob.buf wr0 s0 xs0 = Ob.buf wr s xs) = True := eq_true ⟨wr0, s0, xs0, rfl⟩
@[go_sem] theorem atl {k : IntKind} {a b : Int} : (Value.int k a = Value.int k b) = (a = b) := by simp
@[go_sem] theorem atk {a b : Bool} : (Value.bool a = Value.bool b) = (a = b) := by simp
@[go_sem] theorem atj {l : List UInt8} : (⟨l.toArray⟩ : ByteArray).size = l.length := aij l
@[go_sem] theorem ati {l : List UInt8} : l.toArray.toList = l := by simp
@[go_sem] theorem ath {l : List UInt8} {a b : Nat} : (⟨l.toArray⟩ : ByteArray).extract a b = ⟨((l.drop a).take (b - a)).toArray⟩ := aol l a b
@[go_sem] theorem atg {a b : List UInt8} : aa8 .add ⟨a.toArray⟩ ⟨b.toArray⟩ = .asrt (a.length + b.length < 2 ^ 62) (.ret { v := V.str (a ++ b) }) := apw a b
@[go_sem] theorem atf {a b : List UInt8} : aa8 .eql ⟨a.toArray⟩ ⟨b.toArray⟩ = .ret { v := .bool (a == b) } := apv a b
@[go_sem] theorem ate {a b : List UInt8} : aa8 .neq ⟨a.toArray⟩ ⟨b.toArray⟩ = .ret { v := .bool (!(a == b)) } := apq a b
@[go_sem] theorem atd {a b : List UInt8} : aa8 .lss ⟨a.toArray⟩ ⟨b.toArray⟩ = .ret { v := .bool (Op.bytesLess a b) } := apr a b
@[go_sem] theorem atc {a b : List UInt8} : aa8 .leq ⟨a.toArray⟩ ⟨b.toArray⟩ = .ret { v := .bool (Op.bytesLess a b || a == b) } := aps a b
@[go_sem] theorem atb {a b : List UInt8} : aa8 .gtr ⟨a.toArray⟩ ⟨b.toArray⟩ = .ret { v := .bool (!(Op.bytesLess a b || a == b)) } := apt a b
@[go_sem] theorem ata {a b : List UInt8} : aa8 .geq ⟨a.toArray⟩ ⟨b.toArray⟩ = .ret { v := .bool (!(Op.bytesLess a b)) } := apu a b
@[go_sem] theorem as9 {a b : List UInt8} : (Value.string ⟨a.toArray⟩ = Value.string ⟨b.toArray⟩) = (a = b) := by simp
@[go_sem] theorem as8 {v : Value} : V.shut o (.sc v) = .sc v := by simp only [V.shut]
@[go_sem] theorem as7  : V.shut o .nn = .nn := by simp only [V.shut]
@[go_sem] theorem as6  : V.shut o .top = .top := by simp only [V.shut]
@[go_sem] theorem as5 {k : Nat} {xs : List V} : V.shut o (.sl k xs) = .sl k xs := by simp only [V.shut]
@[go_sem] theorem as4 {cs : List V} {k : Nat} : V.shut o (.ro cs k) = .ro cs k := by simp only [V.shut]
@[go_sem] theorem as3 {cs : List V} : V.shut o (.agg cs) = .agg (Jv o cs) := by simp only [V.shut]
@[go_sem] theorem as2 {cs : List V} : V.shut o (.tup cs) = .tup (Jv o cs) := by simp only [V.shut]
@[go_sem] theorem as1 {f : FK} {cs : List V} : V.shut o (.clo f cs) = .clo f (Jv o cs) := by simp only [V.shut]
@[go_sem] theorem as0 {a off len : Nat} : V.shut o (.hd a off len) = aqK o off len (o a) := by simp only [V.shut, aqK] <;> rfl
@[go_sem] theorem asZ {a off : Nat} : V.shut o (.ptr a off) = aos off (o a) := by simp only [V.shut, aos] <;> rfl
@[go_sem] theorem asY {off len s : Nat} {wr : Bool} {xs : List V} : aqK o off len (some (.buf wr s xs)) = .sl s ((xs.drop off).take len) := rfl
@[go_sem] theorem asX {off : Nat} {wr : Bool} {cs : List V} : aos off (some (.box wr cs)) = .ro cs off := rfl
@[go_sem] theorem asW : Jv o [] = [] := by simp only [Jv]
@[go_sem] theorem asV {v : V} {cs : List V} : Jv o (v :: cs) = v.shut o :: Jv o cs := by simp only [Jv]
@[go_sem] theorem asU {v : Value} : V.shutOk o B (.sc v) = True := by simp only [V.shutOk]
@[go_sem] theorem asT  : V.shutOk o B .nn = True := by simp only [V.shutOk]
@[go_sem] theorem asS  : V.shutOk o B .top = True := by simp only [V.shutOk]
@[go_sem] theorem asR {k : Nat} {xs : List V} : V.shutOk o B (.sl k xs) = True := by simp only [V.shutOk]
@[go_sem] theorem asQ {cs : List V} {k : Nat} : V.shutOk o B (.ro cs k) = True := by simp only [V.shutOk]
@[go_sem] theorem asP {a off len : Nat} : V.shutOk o B (.hd a off len) = (okB B a ∧ apJ o B off len (o a)) := by simp only [V.shutOk]
@[go_sem] theorem asO {a off : Nat} : V.shutOk o B (.ptr a off) = (okB B a ∧ ∃ wr cs, o a = some (.box wr cs) ∧ Qc cs) := by simp only [V.shutOk]
@[go_sem] theorem asN {cs : List V} : V.shutOk o B (.agg cs) = Qj o B cs := by simp only [V.shutOk]
@[go_sem] theorem asM {cs : List V} : V.shutOk o B (.tup cs) = Qj o B cs := by simp only [V.shutOk]
@[go_sem] theorem asL {f : FK} {cs : List V} : V.shutOk o B (.clo f cs) = Qj o B cs := by simp only [V.shutOk]
@[go_sem] theorem asK : Qj o B [] = True := by simp only [Qj]
@[go_sem] theorem asJ {v : V} {cs : List V} : Qj o B (v :: cs) = (v.shutOk o B ∧ Qj o B cs) := by simp only [Qj]
@[go_sem] theorem asI {v : Value} : V.closed (.sc v) = True := by simp only [V.closed]
@[go_sem] theorem asH  : V.closed .nn = True := by simp only [V.closed]
@[go_sem] theorem asG  : V.closed .top = True := by simp only [V.closed]
@[go_sem] theorem asF {k : Nat} {xs : List V} : V.closed (.sl k xs) = True := by simp only [V.closed]
@[go_sem] theorem asE {cs : List V} {k : Nat} : V.closed (.ro cs k) = True := by simp only [V.closed]
@[go_sem] theorem asD {cs : List V} : V.closed (.agg cs) = Qc cs := by simp only [V.closed]
@[go_sem] theorem asC {cs : List V} : V.closed (.tup cs) = Qc cs := by simp only [V.closed]
@[go_sem] theorem asB {f : FK} {cs : List V} : V.closed (.clo f cs) = Qc cs := by simp only [V.closed]
@[go_sem] theorem asA : Qc [] = True := by simp only [Qc]
@[go_sem] theorem asz {v : V} {cs : List V} : Qc (v :: cs) = (v.closed ∧ Qc cs) := by simp only [Qc]
@[go_sem] theorem asy {v : Value} : V.cells (.sc v) = [.sc v] := by simp only [V.cells]
@[go_sem] theorem asx {k : Nat} {xs : List V} : V.cells (.sl k xs) = [.sl k xs] := by simp only [V.cells]
@[go_sem] theorem asw {a off len : Nat} : V.cells (.hd a off len) = [.hd a off len] := by simp only [V.cells]
@[go_sem] theorem asv {a off : Nat} : V.cells (.ptr a off) = [.ptr a off] := by simp only [V.cells]
@[go_sem] theorem asu {cs : List V} {k : Nat} : V.cells (.ro cs k) = [.ro cs k] := by simp only [V.cells]
@[go_sem] theorem ast {cs : List V} : V.cells (.agg cs) = cs := by simp only [V.cells]
@[go_sem] theorem ass {f : FK} {cs : List V} : V.cells (.clo f cs) = [.clo f cs] := by simp only [V.cells]
@[go_sem] theorem asr  : V.cells .nn = [.nn] := by simp only [V.cells]
@[go_sem] theorem asq : Jk [] [] [] = some true := by simp only [Jk]
@[go_sem] theorem asp {ks : List Nat} {k k' : IntKind} {a b : Int} {xs ys : List V} : Jk (0 :: ks) (.sc (.int k a) :: xs) (.sc (.int k' b) :: ys) = if k = k' then (Jk ks xs ys).map ((a == b) && ·) else none := by simp only [Jk]
@[go_sem] theorem aso {ks : List Nat} {a b : List UInt8} {xs ys : List V} : Jk (1 :: ks) (.sc (.string ⟨a.toArray⟩) :: xs) (.sc (.string ⟨b.toArray⟩) :: ys) = (Jk ks xs ys).map ((a == b) && ·) := by simp only [Jk]; congr; funext t; congr 1; rw [Bool.eq_iff_iff]; simp; show (a.toArray == b.toArray) = true ↔ a = b; simp
@[go_sem] theorem asn {ks : List Nat} {a b : Bool} {xs ys : List V} : Jk (2 :: ks) (.sc (.bool a) :: xs) (.sc (.bool b) :: ys) = (Jk ks xs ys).map ((a == b) && ·) := by simp only [Jk]
@[go_sem] theorem asm {l : List UInt8} : (l == l) = true := by simp
@[go_sem] theorem asl {n : Int} : (n == n) = true := by simp
@[go_sem] theorem ask {k : IntKind} : (k == k) = true := by cases k <;> rfl
@[go_sem] theorem asj {f : FuncId} {cap acts : List V} : aa9 Γ b r s d (.clo (.m f) cap) acts K = awC Γ b r s d f (cap ++ acts) K := propext Iff.rfl
@[go_sem] theorem asi {f : FuncId} {cap acts : List V} : V9 Γ A W b s d (.clo (.m f) cap) acts J = QZ Γ A W b s d f (cap ++ acts) J := propext Iff.rfl
@[go_sem] theorem ash {off len s : Nat} {ys : List V} {wr : Bool} {s1 : Nat} {xs : List V} : hdC o br B off len s ys (some (.buf wr s1 xs)) = (s1 = s ∧ ys = (xs.drop off).take len) := rfl
@[go_sem] theorem asg {off len s : Nat} {ys : List V} {wr : Bool} {s1 : Nat} {xs : List V} : hdC o br B off len s ys (some (.obuf wr s1 xs)) = (s1 = s ∧ Jh o br B ((xs.drop off).take len) ys ∧ ntL ys ∧ Qc ys) := rfl
@[go_sem] theorem asf {off len s : Nat} {wr : Bool} {xs : List V} : aqK o off len (some (.obuf wr s xs)) = .sl s (V2 o ((xs.drop off).take len)) := rfl
@[go_sem] theorem ase {off len s : Nat} {wr : Bool} {xs : List V} : apJ o B off len (some (.buf wr s xs)) = True := rfl
@[go_sem] theorem asd {off len s : Nat} {wr : Bool} {xs : List V} : apJ o B off len (some (.obuf wr s xs)) = (XC o B ((xs.drop off).take len) ∧ ntL (V2 o ((xs.drop off).take len))) := rfl
@[go_sem] theorem asc {l : List Nat} {k : Nat → AM E} : awS Γ b r s d K (.anyN l k) = (l ≠ [] ∧ ∀ i ∈ l, awS Γ b r s d K (k i)) := propext Iff.rfl
@[go_sem] theorem asb {ag : Bool} {ks : List Nat} {k : V} {i : Nat} : Uq ag ks k [] i = some none := rfl
@[go_sem] theorem asa {ks : List Nat} {u v : Value} : VE false ks (.sc u) (.sc v) = Jk ks [.sc u] [.sc v] := rfl
@[go_sem] theorem ar9 {ks : List Nat} {u v : List V} : VE true ks (.agg u) (.agg v) = Jk ks u v := rfl
@[go_sem] theorem ar8 {a : Nat} : V.cells (.mp a) = [.mp a] := by simp only [V.cells]
@[go_sem] theorem ar7 {a k : Nat} : conv o br B (.mp a) (.mp k) = (br[k]? = some a) := by simp only [conv]
end
attribute [go_sem] KK sem AM.int AM.str AM.slice AM.sliceK apo AM.cellsAt anH St.eff St.put St.ev yS V.ofV ZC.v jK apG splice aeF V.mk yu V.small U4 afk VP afO Int.cast_ofNat_Int V.und
end Av
end

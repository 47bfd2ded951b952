/- Strings as lists of bytes, lists of integers: what the operations do to them. -/
import Derived.Test.YtmekajmjncbhgaaDoorK8
import Derived.Laws.Strings
set_option linter.unusedVariables false
set_option linter.unusedSimpArgs false
section
namespace Av
open Go
theorem abj (l : List UInt8) : (⟨l.toArray⟩ : ByteArray).size = l.length := by simp [ByteArray.size]
theorem ahl (a b : List UInt8) : (⟨a.toArray⟩ : ByteArray) ++ ⟨b.toArray⟩ = ⟨(a ++ b).toArray⟩ := by
  apply ByteArray.ext
  simp
theorem yd (l : List UInt8) : (⟨l.toArray⟩ : ByteArray).toList = l := by
  exact ByteArray.toList_mk l
theorem ahk (l : List UInt8) (a b : Nat) : (⟨l.toArray⟩ : ByteArray).extract a b = ⟨((l.drop a).take (b - a)).toArray⟩ := by
  apply ByteArray.ext
  simp [List.extract_eq_take_drop]
theorem ahZ (a b : List UInt8) : wE .add ⟨a.toArray⟩ ⟨b.toArray⟩ = .asrt (a.length + b.length < 2 ^ 62) (.ret { v := V.str (a ++ b) }) := by
  simp only [wE, abj, ahl]
theorem ahY (a b : List UInt8) : wE .eql ⟨a.toArray⟩ ⟨b.toArray⟩ = .ret { v := .bool (a == b) } := by
  simp only [wE, yd]
theorem ahT (a b : List UInt8) : wE .neq ⟨a.toArray⟩ ⟨b.toArray⟩ = .ret { v := .bool (!(a == b)) } := by
  simp only [wE, yd]
theorem ahU (a b : List UInt8) : wE .lss ⟨a.toArray⟩ ⟨b.toArray⟩ = .ret { v := .bool (Op.bytesLess a b) } := by
  simp only [wE, yd]
theorem ahV (a b : List UInt8) : wE .leq ⟨a.toArray⟩ ⟨b.toArray⟩ = .ret { v := .bool (Op.bytesLess a b || a == b) } := by
  simp only [wE, yd]
theorem ahW (a b : List UInt8) : wE .gtr ⟨a.toArray⟩ ⟨b.toArray⟩ = .ret { v := .bool (!(Op.bytesLess a b || a == b)) } := by
  simp only [wE, yd]
theorem ahX (a b : List UInt8) : wE .geq ⟨a.toArray⟩ ⟨b.toArray⟩ = .ret { v := .bool (!(Op.bytesLess a b)) } := by
  simp only [wE, yd]
theorem aeV {l : List V} (h : ∀ v ∈ l, v.closed) : QK l := by
  induction l with
  | nil => trivial
  | cons v l ih => exact ⟨h v (by simp), ih fun u hu => h u (by simp [hu])⟩
end Av
end
section
namespace Av
open Go
theorem Yf {α : Type} {l : List α} {k : Nat} {y : α} {r : List α} (h : l.drop k = y :: r) : k < l.length ∧ l[k]? = some y ∧ l.drop (k + 1) = r := by
  have hk : k < l.length := by
    rcases Nat.lt_or_ge k l.length with h' | h'
    · exact h'
    · rw [List.drop_of_length_le h'] at h; cases h
  rw [List.drop_eq_getElem_cons hk] at h
  simp only [List.cons.injEq] at h
  exact ⟨hk, by rw [List.getElem?_eq_getElem hk, h.1], h.2⟩
theorem YL {α : Type} {l : List α} {k : Nat} (h : l.drop k = []) : l.length ≤ k := by simpa using h
theorem JD {k : Nat} (h : k < 2 ^ 62) : IntKind.i64.wrap ((k : Int) + 1) = ((k + 1 : Nat) : Int) := by
  rw [JY (by omega) (by omega)]; omega
def JV : List (Nat × V) → Nat → V → V
  | [], _, v => v
  | (j, u) :: r, k, v => if k = j then u else JV r k v
def ovT (ts : List (Nat × V)) : List (Nat × V) → List (Nat × V)
  | [] => []
  | (k, v) :: r => (k, JV ts k v) :: ovT ts r
def ltO (n : Nat) (o : Nat → Option Ob) : Prop := ∀ a x, o a = some x → a < n ∧ x.lt n
theorem WR {n : Nat} {o : Nat → Option Ob} {a : Nat} {x : Ob} (h1 : a < n) (h2 : x.lt n) (h : ltO n o) : ltO n (upd o a (some x)) := by
  intro b y hb
  by_cases e : b = a
  · subst e; rw [QW] at hb; cases hb; exact ⟨h1, h2⟩
  · rw [JG _ _ e] at hb; exact h b y hb
theorem XR {n : Nat} : ltO n (fun _ => none) := by intro a x h; cases h
def ltT (n : Nat) (l : List (Nat × V)) : Prop := ∀ p ∈ l, p.2.lt n
theorem WQ {n : Nat} : ltT n [] := by intro p hp; cases hp
theorem XQ {n k : Nat} {v : V} {r : List (Nat × V)} (h1 : v.lt n) (h : ltT n r) : ltT n ((k, v) :: r) := by
  intro p hp
  rcases List.mem_cons.1 hp with rfl | hp
  · exact h1
  · exact h p hp
def eqT (t : Nat → V) (τ : Nat → Nat) (l : List (Nat × V)) : Prop := ∀ p ∈ l, t p.1 = p.2.ren τ
theorem JQ {t : Nat → V} {τ : Nat → Nat} : eqT t τ [] := by intro p hp; cases hp
theorem Jr {t : Nat → V} {τ : Nat → Nat} {k : Nat} {v : V} {r : List (Nat × V)} : eqT t τ ((k, v) :: r) ↔ t k = v.ren τ ∧ eqT t τ r := by
  constructor
  · intro h; exact ⟨h (k, v) (by simp), fun p hp => h p (by simp [hp])⟩
  · rintro ⟨h1, h2⟩ p hp
    rcases List.mem_cons.1 hp with rfl | hp
    · exact h1
    · exact h2 p hp
def okN (n m : Nat) (rn : List (Nat × Nat)) : Prop := (∀ p ∈ rn, n ≤ p.2 ∧ m ≤ p.1) ∧ (rn.map (·.2)).Nodup
theorem qQ : ∀ (rn : List (Nat × Nat)) (a : Nat), (Jb rn a = a ∧ ∀ p ∈ rn, p.1 ≠ a) ∨ (a, Jb rn a) ∈ rn
  | [], a => .inl ⟨rfl, by simp⟩
  | (k, v) :: r, a => by
    simp only [Jb]
    split
    · rename_i h; subst h; exact .inr (by simp)
    · rename_i h
      rcases qQ r a with ⟨h1, h2⟩ | h'
      · refine .inl ⟨h1, fun p hp => ?_⟩
        rcases List.mem_cons.1 hp with rfl | hp
        · exact fun e => h e.symm
        · exact h2 p hp
      · exact .inr (by simp [h'])
theorem afP {n m : Nat} {rn : List (Nat × Nat)} (h : okN n m rn) {a b : Nat} (ha : a < n) (hb : b < n) (e : Jb rn a = Jb rn b) : a = b := by
  rcases qQ rn a with ⟨h1, _⟩ | h1 <;> rcases qQ rn b with ⟨h2, _⟩ | h2
  · omega
  · have := (h.1 _ h2).1; simp only at this; omega
  · have := (h.1 _ h1).1; simp only at this; omega
  · have := qK h.2 h1 h2 e
    simpa using congrArg Prod.fst this
theorem afQ {n m : Nat} {rn : List (Nat × Nat)} (h : okN n m rn) {k : Nat} (hk : k < m) : Jb rn k = k := by
  rcases qQ rn k with ⟨h1, _⟩ | h1
  · exact h1
  · have := (h.1 _ h1).2; simp only at this; omega
theorem ae6 (τ : Nat → Nat) (n : Nat) (x : Ob) (h : x.lt n) : (x.ren τ).weak τ n x := by
  induction x with
  | dead => trivial
  | typ T x ih => exact ⟨rfl, ih h⟩
  | box wr cs => exact ⟨fun h => h, rfl, h⟩
  | buf wr s xs => exact ⟨fun h => h, rfl, rfl⟩
  | obuf wr s xs => exact ⟨fun h => h, rfl, rfl, h⟩
  | map ks vs c0 => exact ⟨rfl, rfl, rfl, h⟩
  | iter a since seen last => exact ⟨rfl, h, rfl, rfl, rfl⟩
theorem ag4 {m n : Nat} {s : St} {l : List (Nat × V)} {o : Nat → Option Ob} (rn : List (Nat × Nat)) (hn : okN n m rn) (hm : m ≤ n) (hl : ltT n l) (hlo : ltO n o)
    (ht : eqT s.t (Jb rn) l) (ho : ∀ a, a < n → s.o (Jb rn a) = (o a).map (Ob.ren (Jb rn))) : agk m (Jb rn) s { t := qP l, o := o, n := n } := by
  refine ⟨fun i => ?_, fun a y h => ?_, fun a b ha hb e => ?_, fun k hk => afQ hn hk, hm⟩
  · rcases vx l i with h | h
    · exact .inl h
    · exact .inr ⟨ht _ h, hl _ h⟩
  · obtain ⟨h1, h2⟩ := hlo a y h
    refine ⟨h1, _, ?_, ae6 (Jb rn) n y h2⟩
    have := ho a h1
    simp only at h
    rw [h] at this
    exact this
  · obtain ⟨x, hx⟩ := Option.ne_none_iff_exists'.1 ha
    obtain ⟨y, hy⟩ := Option.ne_none_iff_exists'.1 hb
    exact afP hn (hlo a x hx).1 (hlo b y hy).1 e
section
variable {C : Ctx} {nt : Nat} {K : St → Prop} {E : Nat → St → Prop} {R : St → Prop}
theorem aii : ∀ (k : Nat) (v : V), SizeOf.sizeOf v ≤ k → v.ren (fun a => a) = v := by
  intro k
  induction k with
  | zero => intro v h; cases v <;> simp at h
  | succ k ih =>
    intro v h
    have list : ∀ cs : List V, SizeOf.sizeOf cs ≤ k → jt (fun a => a) cs = cs := by
      intro cs
      induction cs with
      | nil => intro _; rfl
      | cons u r ihr => intro hs; simp at hs; simp only [jt]; rw [ih u (by omega), ihr (by omega)]
    cases v <;> simp only [V.ren] <;> simp at h
    all_goals (rw [list _ (by omega)])
theorem qv (v : V) : v.ren (fun a => a) = v := aii _ v (Nat.le_refl _)
theorem aiP (cs : List V) : jt (fun a => a) cs = cs := by induction cs with
  | nil => rfl
  | cons v r ih => simp only [jt, qv, ih]
theorem aiO (x : Ob) : x.ren (fun a => a) = x := by induction x <;> simp_all [Ob.ren, aiP]
theorem vy : Jb [] = fun a => a := by funext a; rfl
theorem Xb {ks : List Nat} {x : AC} {base : List (Nat × V)} {o0 : Nat → Option Ob} {n0 : Nat} {ι : Type} (good : ι → Prop) (ts : ι → List (Nat × V)) (msr : ι → Nat) (i0 : ι)
    (hm : C.m ≤ n0) (h0 : good i0) (hlo : ltO n0 o0) (hl : ∀ i, good i → ltT n0 (ovT (ts i) base)) (ht : eqT (qP base) (fun a => a) (ovT (ts i0) base))
    (h : ∀ i, good i → ∀ K' : St → Prop, (∀ s' i', eqT s'.t (fun a => a) (ovT (ts i') base) → good i' → msr i' < msr i → (∀ a, a < n0 → s'.o a = o0 a) → K' s') →
      AWp C nt x { t := qP (ovT (ts i) base), o := o0, n := n0 } K' E R) : AWp C nt (X2 ks x) { t := qP base, o := o0, n := n0 } K E R := by
  have hn : okN n0 C.m [] := ⟨by simp, by simp⟩
  have ren0 : ∀ oo : Nat → Option Ob, ∀ a, (oo a).map (Ob.ren (Jb [])) = oo a := by
    intro oo a
    rw [vy]
    cases oo a with
    | none => rfl
    | some x => simp [aiO]
  refine Ju good (fun i => { t := qP (ovT (ts i) base), o := o0, n := n0 }) msr i0 h0 (Jb []) (ag4 [] hn hm (hl i0 h0) hlo (by rw [vy]; exact ht) (fun a _ => (ren0 o0 a).symm)) ?_
  intro i hi K' hK
  exact h i hi K' fun s' i' h1 h2 h3 h4 => hK s' i' (Jb []) h2 h3 (ag4 [] hn hm (hl i' h2) hlo (by rw [vy]; exact h1) (fun a ha => (h4 a ha).trans (ren0 o0 a).symm))
end
end Av
end
section
namespace Av
open Go
def awR (A W : Nat → Bool) (b : Nat) (s : St) (d : Option Nat) (J : St → Prop) (m : AM E) : Prop := m.wp (X4 A s.o) fun e => okW W b e.os ∧ J (s.eff d e)
def XZ (A W : Nat → Bool) (b : Nat) (s : St) (d : Option Nat) (J : St → Prop) (k : Ob → AM E) (x : Option Ob) : Prop :=
  match x with
  | some ob => awR A W b s d J (k ob)
  | none => False
def V8 (Γ : Env) (A W : Nat → Bool) (b : Nat) (s : St) (x : AO) (J : St → Prop) : Prop := awG Γ A W b s x J
def V7 (Γ : Env) (fz : Nat → Bool) (b0 : Nat) (K : St → Prop) (t : OP) (s : St) : Prop := awP Γ fz b0 K t s
def vl (Γ : Env) (fz : Nat → Bool) (b0 : Nat) (K : St → Prop) (t : OP) (s : St) : Prop := ah1 Γ fz b0 K t s
def KE (Γ : Env) (A W : Nat → Bool) (b : Nat) (s : St) (x : AO) (g : Nat) (want : Bool) (v : V) (J : St → Prop) : Prop :=
  match v with
  | .sc (.bool q) => (q = want → V8 Γ A W b (s.put (some g) (.bool want)) { d := x.d, op := x.op } J) ∧ (q = !want → J ((s.put (some g) (.bool !want)).put x.d V.und))
  | .tup [] => J (s.put x.d V.und)
  | _ => False
def XK (Γ : Env) (A W : Nat → Bool) (b : Nat) (s : St) (d : Option Nat) (v : V) (acts : List V) (J : St → Prop) : Prop :=
  match v with
  | .clo f cap => Ji Γ A W b s d f.f (f.args acts cap) J
  | _ => False
section
variable {Γ : Env} {A W : Nat → Bool} {fz : Nat → Bool} {b b0 : Nat} {s : St} {d : Option Nat} {J K : St → Prop}
theorem afj : V7 Γ fz b0 K .done s ↔ K s := by simp only [V7, awP]
theorem agq {j : Nat} {X : Bool} {acl : List Nat} {x : AO} {t : OP} : V7 Γ fz b0 K (.one j X acl x t) s ↔ V8 Γ (rA X acl fz b0) (rW X acl fz b0) (b0 + j * KK) s x (V7 Γ fz b0 K t) := by
  simp only [V7, awP, V8]; exact Iff.rfl
theorem ahq {j : Nat} {X : Bool} {acl : List Nat} {x : AO} {t r : OP} : V7 Γ fz b0 K (.or j X acl x t r) s ↔ V8 Γ (rA X acl fz b0) (rW X acl fz b0) (b0 + j * KK) s x (V7 Γ fz b0 K t) ∧ vl Γ fz b0 K r s := by
  simp only [V7, vl, awP, V8]; exact Iff.rfl
theorem agr {j : Nat} {X : Bool} {acl : List Nat} {x : AO} {t r : OP} : vl Γ fz b0 K (.or j X acl x t r) s ↔ V8 Γ (rA X acl fz b0) (rW X acl fz b0) (b0 + j * KK) s x (V7 Γ fz b0 K t) ∧ vl Γ fz b0 K r s := by
  simp only [V7, vl, ah1, V8]; exact Iff.rfl
theorem aek : vl Γ fz b0 K .done s ↔ True := by simp only [vl, ah1]
theorem aem {x : Opd} {as : List Opd} : V8 Γ A W b s ⟨d, .callv x as, none⟩ J ↔ XK Γ A W b s d (s.ev x) (as.map s.ev) J := by
  simp only [V8, awG, agd, XK]
  cases s.ev x <;> rfl
theorem aif {aop : AOp} {g : Nat} {want : Bool} : V8 Γ A W b s ⟨d, aop, some (g, want)⟩ J ↔ KE Γ A W b s ⟨d, aop, none⟩ g want (s.t g) J := by
  simp only [V8, awG]
  constructor
  · rintro ⟨q, hq, h1, h2⟩
    unfold KE
    rcases q with _ | q
    · have hq : s.t g = .tup [] := hq
      rw [hq]
      exact h2 (by simp)
    · have hq : s.t g = .bool q := hq
      rw [hq]
      refine ⟨fun e => ?_, fun e => ?_⟩
      · rw [KP (by rw [hq, e])]; exact h1 (by rw [e])
      · rw [KP (by rw [hq, e])]
        exact h2 (by rw [e]; cases want <;> simp)
  · intro h
    unfold KE at h
    split at h
    · rename_i q hq
      refine ⟨some q, hq, fun e => ?_, fun e => ?_⟩
      · cases e
        have := h.1 rfl
        rw [KP hq] at this
        exact this
      · have e' : q = !want := by cases q <;> cases want <;> simp_all
        have := h.2 e'
        rw [KP (by rw [hq, e'])] at this
        exact this
    · rename_i hq
      exact ⟨none, hq, (fun e => by cases e), fun _ => h⟩
    · exact h.elim
theorem aiB {a : Nat} {k : Ob → AM E} : awR A W b s d J (.rd a k) ↔ XZ A W b s d J k (X4 A s.o a) := by
  unfold XZ
  cases h : X4 A s.o a with
  | none => simp [awR, AM.wp, h]
  | some ob => simp [awR, AM.wp, h]
theorem ahB : okW W b [] ↔ True := by simp [okW]
theorem agF {q : Nat × Ob} {r : List (Nat × Ob)} : okW W b (q :: r) ↔ (W q.1 || (decide (b ≤ q.1) && decide (q.1 < b + KK))) = true ∧ okW W b r := by simp [okW]
theorem aiE {f : FuncId} {acts : List V} {res : V} (hc : JK (X4 A s.o) none acts) (h : EvN Γ f (X6 (X4 A s.o) acts) res) (hk : J { t := (s.put d res).t, o := s.o, n := s.n }) : Ji Γ A W b s d f acts J :=
  ahQ h.1 rfl hc h.2.1 h.2.2 hk
theorem aiF {f : FuncId} {acts : List V} {res : V} (hc : JK (X4 A s.o) (some []) acts) (h : EvC Γ f (X6 (X4 A s.o) acts) res) (hk : J { t := (s.put d res).t, o := s.o, n := s.n }) : Ji Γ A W b s d f acts J :=
  ahR h.1 rfl hc h.2 hk
end
section
variable {C : Ctx} {nt : Nat} {s : St} {K : St → Prop} {E : Nat → St → Prop} {R : St → Prop}
theorem Qn {ks L : List Nat} {ot : OT} {p : OP} {ops : List AO} {ahead : List (List Nat)} {y : AC} (N : Nat) (fz : Nat → Bool) (hN : ops.length = N) (hc : okR ops ahead L ot = true) (hp : WO (ris ops ahead L) ot = p)
    (h : ∀ K' : St → Prop, (∀ s', AWp C nt y s' K E R → K' s') → V7 C.env fz s.n (fun s' => K' ((s'.wn (s.n + N * KK)).keep ks)) p s) : AWp C nt (QI ks (aaf L ot p ops ahead) y) s K E R := by
  subst hN
  exact Qq (ad6 fz hc hp (h _ fun _ h => h))
theorem Qo {L : List Nat} {ot : OT} {p : OP} {ops : List AO} {ahead : List (List Nat)} (N : Nat) (fz : Nat → Bool) (hN : ops.length = N) (hc : okR ops ahead L ot = true) (hp : WO (ris ops ahead L) ot = p)
    (h : ∀ K' : St → Prop, (∀ s', K s' → K' s') → V7 C.env fz s.n (fun s' => K' (s'.wn (s.n + N * KK))) p s) : AWp C nt (aaf L ot p ops ahead) s K E R := by
  subst hN
  exact ad6 fz hc hp (h _ fun _ h => h)
end
end Av
end
section
set_option linter.unusedVariables false
namespace Av
open Go
def aiM (o : Nat → Option Ob) (off len : Nat) : Option Ob → V
  | some (.buf _ s xs) => .sl s ((xs.drop off).take len)
  | some (.obuf _ s xs) => .sl s (js o ((xs.drop off).take len))
  | _ => .top
def hdC (o : Nat → Option Ob) (br : List Nat) (B : Option (List Nat)) (off len s : Nat) (ys : List V) : Option Ob → Prop
  | some (.buf _ s1 xs) => s1 = s ∧ ys = (xs.drop off).take len
  | some (.obuf _ s1 xs) => s1 = s ∧ Yw o br B ((xs.drop off).take len) ys ∧ ntL ys ∧ QK ys
  | _ => False
theorem aiv (o : Nat → Option Ob) (br : List Nat) (B : Option (List Nat)) (a off len s : Nat) (ys : List V) : conv o br B (.hd a off len) (.sl s ys) ↔ okB B a ∧ a ∉ br ∧ hdC o br B off len s ys (o a) := by
  rw [ai2]; unfold hdC; constructor
  · rintro ⟨h1, h2, ⟨wr, xs, h3, h4⟩ | ⟨wr, xs, h3, h4⟩⟩ <;> rw [h3] <;> exact ⟨h1, h2, rfl, h4⟩
  · rintro ⟨h1, h2, h3⟩; split at h3
    · rename_i wr s1 xs e; obtain ⟨rfl, h4⟩ := h3; exact ⟨h1, h2, .inl ⟨wr, xs, e, h4⟩⟩
    · rename_i wr s1 xs e; obtain ⟨rfl, h4⟩ := h3; exact ⟨h1, h2, .inr ⟨wr, xs, e, h4⟩⟩
    · exact h3.elim
def ahn (off : Nat) : Option Ob → V
  | some (.box _ cs) => .ro cs off
  | _ => .top
def awB (q want : Bool) (A B : Prop) : Prop := (q = want → A) ∧ (q = !want → B)
@[congr] theorem aiH {q q2 want : Bool} {A B : Prop} (h : q = q2) : awB q want A B = awB q2 want A B := by rw [h]
@[go_sem ↓] theorem aji {A B : Prop} : awB true true A B = A := by simp [awB]
@[go_sem ↓] theorem ajh {A B : Prop} : awB false true A B = B := by simp [awB]
@[go_sem ↓] theorem ajg {A B : Prop} : awB true false A B = B := by simp [awB]
@[go_sem ↓] theorem ajf {A B : Prop} : awB false false A B = A := by simp [awB]
theorem QQ {q : Bool} {A B : Prop} (h1 : q = true → A) (h2 : q = false → B) : awB q true A B := ⟨h1, h2⟩
theorem QR {q : Bool} {A B : Prop} (h1 : q = false → A) (h2 : q = true → B) : awB q false A B := ⟨h1, h2⟩
section
variable {Γ : Env} {A W : Nat → Bool} {fz : Nat → Bool} {b b0 : Nat} {r : List AO} {s : St} {d : Option Nat} {J K : St → Prop} {o : Nat → Option Ob} {br : List Nat} {B : Option (List Nat)}
@[go_sem] theorem u1 : W8 Γ b [] s K = K { t := s.t, o := s.o, n := b } := propext Iff.rfl
@[go_sem] theorem u2 {x : AO} : W8 Γ b (x :: r) s K = (match x.g with | none => (match x.op with | .call f as => awC Γ b r s x.d f (as.map s.ev) K | .callv y as => KI Γ b r s x.d (s.ev y) (as.map s.ev) K | op => awS Γ b r s x.d K (sem b s.ev op)) | some (g, want) => awQ Γ b r s ⟨x.d, x.op, none⟩ g want (s.t g) K) := by
  obtain ⟨d, op, g⟩ := x
  cases g with
  | some p => obtain ⟨g, want⟩ := p; exact propext aie
  | none =>
    cases op
    case callv y as => exact propext ael
    all_goals rfl
@[go_sem] theorem u3 {f : FuncId} {cap acts : List V} : KI Γ b r s d (.clo (.n f) cap) acts K = awC Γ b r s d f (acts ++ cap) K := propext Iff.rfl
@[go_sem] theorem u4 {x : AO} {g : Nat} {want q : Bool} : awQ Γ b r s x g want (.sc (.bool q)) K = awB q want (W8 Γ b (⟨x.d, x.op, none⟩ :: r) (s.put (some g) (.bool want)) K) (W8 Γ (b + KK) r ((s.put (some g) (.bool !want)).put x.d V.und) K) := propext Iff.rfl
@[go_sem] theorem u5 {x : AO} {g : Nat} {want : Bool} : awQ Γ b r s x g want (.tup []) K = W8 Γ (b + KK) r (s.put x.d V.und) K := propext Iff.rfl
@[go_sem] theorem u6 {e : E} : awS Γ b r s d K (.ret e) = W8 Γ (b + KK) r (s.eff d e) K := propext Iff.rfl
@[go_sem] theorem u7 {p : Prop} {m : AM E} : awS Γ b r s d K (.asrt p m) = (p ∧ awS Γ b r s d K m) := propext Iff.rfl
@[go_sem] theorem u8 {a : Nat} {k : Ob → AM E} : awS Γ b r s d K (.rd a k) = KY Γ b r s d K k (s.o a) := propext aiA
@[go_sem] theorem u9 {k : Bool → AM E} : awS Γ b r s d K (.any k) = ∀ t, awS Γ b r s d K (k t) := propext Iff.rfl
@[go_sem] theorem u10 : awS Γ b r s d K .no = False := propext Iff.rfl
@[go_sem] theorem u11 {k : Ob → AM E} {ob : Ob} : KY Γ b r s d K k (some ob) = awS Γ b r s d K (k ob) := propext Iff.rfl
@[go_sem] theorem u12 : V7 Γ fz b0 K .done s = K s := propext afj
@[go_sem] theorem u13 {j : Nat} {X : Bool} {acl : List Nat} {x : AO} {t r : OP} : V7 Γ fz b0 K (.or j X acl x t r) s = (V8 Γ (rA X acl fz b0) (rW X acl fz b0) (b0 + j * KK) s x (V7 Γ fz b0 K t) ∧ vl Γ fz b0 K r s) := propext ahq
@[go_sem] theorem u14 {j : Nat} {X : Bool} {acl : List Nat} {x : AO} {t r : OP} : vl Γ fz b0 K (.or j X acl x t r) s = (V8 Γ (rA X acl fz b0) (rW X acl fz b0) (b0 + j * KK) s x (V7 Γ fz b0 K t) ∧ vl Γ fz b0 K r s) := propext agr
@[go_sem] theorem u15 {j : Nat} {X : Bool} {acl : List Nat} {x : AO} {t : OP} : V7 Γ fz b0 K (.one j X acl x t) s = V8 Γ (rA X acl fz b0) (rW X acl fz b0) (b0 + j * KK) s x (V7 Γ fz b0 K t) := propext agq
@[go_sem] theorem u16 : vl Γ fz b0 K .done s = True := propext aek
@[go_sem] theorem u17 {x : AO} : V8 Γ A W b s x J = (match x.g with | none => (match x.op with | .call f as => Ji Γ A W b s x.d f (as.map s.ev) J | .callv y as => XK Γ A W b s x.d (s.ev y) (as.map s.ev) J | op => awR A W b s x.d J (sem b s.ev op)) | some (g, want) => KE Γ A W b s ⟨x.d, x.op, none⟩ g want (s.t g) J) := by
  obtain ⟨d, op, g⟩ := x
  cases g with
  | some p => obtain ⟨g, want⟩ := p; exact propext aif
  | none =>
    cases op
    case callv y as => exact propext aem
    all_goals rfl
@[go_sem] theorem u18 {f : FuncId} {cap acts : List V} : XK Γ A W b s d (.clo (.n f) cap) acts J = Ji Γ A W b s d f (acts ++ cap) J := propext Iff.rfl
@[go_sem] theorem u19 {x : AO} {g : Nat} {want q : Bool} : KE Γ A W b s x g want (.sc (.bool q)) J = awB q want (V8 Γ A W b (s.put (some g) (.bool want)) ⟨x.d, x.op, none⟩ J) (J ((s.put (some g) (.bool !want)).put x.d V.und)) := propext Iff.rfl
@[go_sem] theorem u20 {x : AO} {g : Nat} {want : Bool} : KE Γ A W b s x g want (.tup []) J = J (s.put x.d V.und) := propext Iff.rfl
@[go_sem] theorem u21 : awR A W b s d J .no = False := propext Iff.rfl
@[go_sem] theorem u22 {e : E} : awR A W b s d J (.ret e) = (okW W b e.os ∧ J (s.eff d e)) := propext Iff.rfl
@[go_sem] theorem u23 {p : Prop} {m : AM E} : awR A W b s d J (.asrt p m) = (p ∧ awR A W b s d J m) := propext Iff.rfl
@[go_sem] theorem u24 {a : Nat} {k : Ob → AM E} : awR A W b s d J (.rd a k) = XZ A W b s d J k (X4 A s.o a) := propext aiB
@[go_sem] theorem u25 {k : Ob → AM E} {ob : Ob} : XZ A W b s d J k (some ob) = awR A W b s d J (k ob) := propext Iff.rfl
@[go_sem] theorem u26 {A : Nat → Bool} {o : Nat → Option Ob} {a : Nat} : X4 A o a = if A a = true then o a else none := rfl
@[go_sem] theorem u27 {W : Nat → Bool} {b : Nat} : okW W b [] = True := propext ahB
@[go_sem] theorem u28 {W : Nat → Bool} {b : Nat} {q : Nat × Ob} {r : List (Nat × Ob)} : okW W b (q :: r) = ((W q.1 || (decide (b ≤ q.1) && decide (q.1 < b + KK))) = true ∧ okW W b r) := propext agF
@[go_sem] theorem u29 {X : Bool} {acl : List Nat} {fz : Nat → Bool} {b0 a : Nat} : rA X acl fz b0 a = ((decide (a < b0) && (X || fz a)) || acl.any fun i => decide (b0 + i * KK ≤ a) && decide (a < b0 + i * KK + KK)) := rfl
@[go_sem] theorem u30 {X : Bool} {acl : List Nat} {fz : Nat → Bool} {b0 a : Nat} : rW X acl fz b0 a = (X && ((decide (a < b0) && !fz a) || acl.any fun i => decide (b0 + i * KK ≤ a) && decide (a < b0 + i * KK + KK))) := rfl
@[go_sem] theorem u31 {s : St} {n : Nat} : s.wn n = { t := s.t, o := s.o, n := n } := rfl
@[go_sem] theorem u32 {ks : List Nat} {s : St} : s.keep ks = { t := qP (ks.map fun k => (k, s.t k)), o := s.o, n := s.n } := rfl
@[go_sem] theorem u33 {α : Type} {f : Nat → α} {a : Nat} {v : α} {i : Nat} : upd f a v i = if i = a then v else f i := rfl
@[go_sem] theorem u34 {k : Nat} {v : V} {r : List (Nat × V)} {i : Nat} : qP ((k, v) :: r) i = if i = k then v else qP r i := rfl
@[go_sem] theorem u35 {i : Nat} : qP [] i = .top := rfl
@[go_sem] theorem u36 {k : Nat} {v : Ob} {r : List (Nat × Ob)} {i : Nat} : wL ((k, v) :: r) i = if i = k then some v else wL r i := rfl
@[go_sem] theorem u37 {i : Nat} : wL [] i = none := rfl
@[go_sem] theorem u38 {args : List V} {ins : List Ob} : Va args ins = { t := fun i => (args[i]?).getD .top, o := fun k => ins[k]?, n := ins.length } := rfl
@[go_sem] theorem u39 {ts : List (Nat × V)} {os : List (Nat × Ob)} {n : Nat} : J0 ts os n = { t := qP ts, o := wL os, n := n } := rfl
@[go_sem] theorem u40 {α : Type} : ([] : List α).length = 0 := rfl
@[go_sem] theorem u41 {α : Type} {a : α} {l : List α} : (a :: l).length = l.length + 1 := rfl
@[go_sem] theorem u42 {α : Type} {a : α} {l : List α} : (a :: l)[0]? = some a := rfl
@[go_sem] theorem u43 {α : Type} {a : α} {l : List α} {i : Nat} : (a :: l)[i + 1]? = l[i]? := rfl
@[go_sem] theorem u44 {α : Type} {a b : α} : (some a).getD b = a := rfl
@[go_sem] theorem u45 {α : Type} {b : α} : (none : Option α).getD b = b := rfl
@[go_sem] theorem u46 {α β : Type} {f : α → β} : (none : Option α).map f = none := rfl
@[go_sem] theorem u47 {α β : Type} {f : α → β} {a : α} : (some a).map f = some (f a) := rfl
@[go_sem] theorem u48 {α β : Type} {f : α → β} : ([] : List α).map f = [] := rfl
@[go_sem] theorem u49 {α β : Type} {f : α → β} {a : α} {l : List α} : (a :: l).map f = f a :: l.map f := rfl
@[go_sem] theorem u50 {α : Type} {l : List α} : [] ++ l = l := rfl
@[go_sem] theorem u51 {α : Type} {a : α} {l r : List α} : (a :: l) ++ r = a :: (l ++ r) := rfl
@[go_sem] theorem u52 {α : Type} {l : List α} : l.take 0 = [] := rfl
@[go_sem] theorem u53 {α : Type} {a : α} {l : List α} {n : Nat} : (a :: l).take (n + 1) = a :: l.take n := rfl
@[go_sem] theorem u54 {α : Type} {l : List α} : l.drop 0 = l := rfl
@[go_sem] theorem u55 {α : Type} {a : α} {l : List α} {n : Nat} : (a :: l).drop (n + 1) = l.drop n := rfl
@[go_sem] theorem u56 {α : Type} {p : α → Bool} : ([] : List α).any p = false := rfl
@[go_sem] theorem u57 {α : Type} {p : α → Bool} {a : α} {l : List α} : (a :: l).any p = (p a || l.any p) := rfl
@[go_sem] theorem u58 {α β : Type} {f : β → α → β} {b : β} : ([] : List α).foldl f b = b := rfl
@[go_sem] theorem u59 {α β : Type} {f : β → α → β} {b : β} {a : α} {l : List α} : (a :: l).foldl f b = l.foldl f (f b a) := rfl
@[go_sem] theorem u60 {α : Type} {a : α} : List.replicate 0 a = [] := rfl
@[go_sem] theorem u61 {α : Type} {n : Nat} {a : α} : List.replicate (n + 1) a = a :: List.replicate n a := rfl
@[go_sem] theorem u62 {α : Type} {a b : α} {l : List α} : (a :: l).set 0 b = b :: l := rfl
@[go_sem] theorem u63 {α : Type} {a b : α} {l : List α} {n : Nat} : (a :: l).set (n + 1) b = a :: l.set n b := rfl
@[go_sem] theorem u64 {n : Nat} : n + 0 = n := rfl
@[go_sem] theorem u65 {n : Nat} : (n : Int).toNat = n := rfl
@[go_sem] theorem u66 {α : Type} {i : Nat} : ([] : List α)[i]? = none := by simp
@[go_sem] theorem u67 {α : Type} {l : List α} : l ++ [] = l := by simp
@[go_sem] theorem u68 {α : Type} {n : Nat} : ([] : List α).take n = [] := by simp
@[go_sem] theorem u69 {α : Type} {n : Nat} : ([] : List α).drop n = [] := by simp
@[go_sem] theorem u70 {n : Nat} : 0 + n = n := by simp
@[go_sem] theorem u71 {n : Nat} : (0 ≤ (n : Int)) = True := by simp
@[go_sem] theorem u72 {n : Nat} : (n ≤ n) = True := by simp
@[go_sem] theorem u73 {α : Type} {p : α → Prop} {a : α} {l : List α} : (∀ x ∈ a :: l, p x) = (p a ∧ ∀ x ∈ l, p x) := by simp
@[go_sem] theorem u74 {α : Type} {p : α → Prop} : (∀ x ∈ ([] : List α), p x) = True := by simp
@[go_sem] theorem u75 {α : Type} {a : α} : (a ∈ ([] : List α)) = False := by simp
@[go_sem] theorem u76 {p : Prop} : (True ∧ p) = p := by simp
@[go_sem] theorem u77 {p : Prop} : (p ∧ True) = p := by simp
@[go_sem] theorem u78 {p : Prop} : (False ∧ p) = False := by simp
@[go_sem] theorem u79 {p : Prop} : (True ∨ p) = True := by simp
@[go_sem] theorem u80 {p : Prop} : (p ∨ True) = True := by simp
@[go_sem] theorem u81 {p : Prop} : (False ∨ p) = p := by simp
@[go_sem] theorem u82 {p : Prop} : (p ∨ False) = p := by simp
@[go_sem] theorem u83 : (¬ True) = False := by simp
@[go_sem] theorem u84 : (¬ False) = True := by simp
@[go_sem] theorem u85 {p : Prop} : (False → p) = True := by simp
@[go_sem] theorem u86 {p : Prop} : (True → p) = p := by simp
@[go_sem] theorem u87 {α : Type} : (α → True) = True := by simp
@[go_sem] theorem u88 {p : Prop} : (p → True) = True := by simp
@[go_sem] theorem u89 : (false = true) = False := by simp
@[go_sem] theorem u90 : (true = false) = False := by simp
@[go_sem] theorem u91 {α : Type} {a b : α} : (some a = some b) = (a = b) := by simp
@[go_sem] theorem u92 {α : Type} {a : α} : (a = a) = True := by simp
@[go_sem] theorem u93 : decide True = true := by simp
@[go_sem] theorem u94 : decide False = false := by simp
@[go_sem] theorem u95 : (!true) = false := rfl
@[go_sem] theorem u96 : (!false) = true := rfl
@[go_sem] theorem u97 {b : Bool} : (true && b) = b := rfl
@[go_sem] theorem u98 {b : Bool} : (false && b) = false := rfl
@[go_sem] theorem u99 {b : Bool} : (true || b) = true := rfl
@[go_sem] theorem akY {b : Bool} : (false || b) = b := rfl
@[go_sem] theorem akX {α : Type} {a b : α} : (a ≠ b) = ¬ (a = b) := rfl
@[go_sem] theorem akW {b : Bool} : (b && true) = b := by simp
@[go_sem] theorem akV {b : Bool} : (b && false) = false := by simp
@[go_sem] theorem akU {b : Bool} : (b || true) = true := by simp
@[go_sem] theorem akT {b : Bool} : (b || false) = b := by simp
@[go_sem] theorem akS {v : V} : conv o br B v .top = True := propext (by apply ais)
@[go_sem] theorem akR {v u : Value} : conv o br B (.sc v) (.sc u) = (v = u) := propext (by apply aiZ)
@[go_sem] theorem akQ {s : Nat} {ys : List V} : conv o br B (.sc (.slice none 0 0)) (.sl s ys) = (ys = []) := propext (by apply aiu)
@[go_sem] theorem akP {s s' : Nat} {xs ys : List V} : conv o br B (.sl s xs) (.sl s' ys) = (s = s' ∧ xs = ys) := propext (by apply aiY)
@[go_sem] theorem akO {a off len s : Nat} {ys : List V} : conv o br B (.hd a off len) (.sl s ys) = (okB B a ∧ a ∉ br ∧ hdC o br B off len s ys (o a)) := propext (by apply aiv)
@[go_sem] theorem akN {a off off' : Nat} {es : List V} : conv o br B (.ptr a off) (.ro es off') = (okB B a ∧ a ∉ br ∧ off' = off ∧ QK es ∧ ∃ wr cs, o a = some (.box wr cs) ∧ Yw o br B cs es) := propext (by apply ait)
@[go_sem] theorem akM {off off' : Nat} {cs es : List V} : conv o br B (.ro cs off) (.ro es off') = (cs = es ∧ off' = off) := propext (by apply ai0)
@[go_sem] theorem akL {cs es : List V} : conv o br B (.agg cs) (.agg es) = Yw o br B cs es := propext (by apply aix)
@[go_sem] theorem akK {cs es : List V} : conv o br B (.tup cs) (.tup es) = Yw o br B cs es := propext (by apply air)
@[go_sem] theorem akJ {f g : FK} {cs es : List V} : conv o br B (.clo f cs) (.clo g es) = (f = g ∧ Yw o br B cs es) := propext (by apply aiw)
@[go_sem] theorem akI  : conv o br B .nn .nn = True := propext (by apply ai1)
@[go_sem] theorem akH : Yw o br B [] [] = True := propext (ahM _ _ _)
@[go_sem] theorem akG {v e : V} {r r' : List V} : Yw o br B (v :: r) (e :: r') = (conv o br B v e ∧ Yw o br B r r') := propext (agT _ _ _ _ _ _ _)
@[go_sem] theorem akF {a : Nat} : okB none a = True := propext (agH _)
@[go_sem] theorem akE {l : List Nat} {a : Nat} : okB (some l) a = (a ∈ l) := propext (agG _ _)
@[go_sem] theorem akD {wr0 : Bool} {s0 s : Nat} {xs0 : List V} {p : List V → Prop} : (∃ wr xs, some (Ob.buf wr0 s0 xs0) = some (Ob.buf wr s xs) ∧ p xs) = (s0 = s ∧ p xs0) := propext aeJ
@[go_sem] theorem akC {wr0 : Bool} {s0 s : Nat} {xs0 : List V} {p : List V → Prop} : (∃ wr xs, Ob.buf wr0 s0 xs0 = Ob.buf wr s xs ∧ p xs) = (s0 = s ∧ p xs0) := propext adq
@[go_sem] theorem akB {wr0 : Bool} {cs0 : List V} {p : List V → Prop} : (∃ wr cs, some (Ob.box wr0 cs0) = some (Ob.box wr cs) ∧ p cs) = p cs0 := propext aeK
@[go_sem] theorem akA {wr0 : Bool} {cs0 : List V} {p : List V → Prop} : (∃ wr cs, Ob.box wr0 cs0 = Ob.box wr cs ∧ p cs) = p cs0 := propext adr
@[go_sem] theorem akz {wr0 : Bool} {s0 : Nat} {xs0 : List V} : (∃ wr s xs, some (Ob.buf wr0 s0 xs0) = some (Ob.buf wr s xs)) = True := eq_true ⟨wr0, s0, xs0, rfl⟩
@[go_sem] theorem aky {wr0 : Bool} {s0 : Nat} {xs0 : List V} : (∃ wr s xs, Ob.buf wr0 s0 xs0 = Ob.buf wr s xs) = True := eq_true ⟨wr0, s0, xs0, rfl⟩
@[go_sem] theorem akx {k : IntKind} {a b : Int} : (Value.int k a = Value.int k b) = (a = b) := by simp
@[go_sem] theorem akw {a b : Bool} : (Value.bool a = Value.bool b) = (a = b) := by simp
@[go_sem] theorem akv {l : List UInt8} : (⟨l.toArray⟩ : ByteArray).size = l.length := abj l
@[go_sem] theorem aku {l : List UInt8} : l.toArray.toList = l := by simp
@[go_sem] theorem akt {l : List UInt8} {a b : Nat} : (⟨l.toArray⟩ : ByteArray).extract a b = ⟨((l.drop a).take (b - a)).toArray⟩ := ahk l a b
@[go_sem] theorem aks {a b : List UInt8} : wE .add ⟨a.toArray⟩ ⟨b.toArray⟩ = .asrt (a.length + b.length < 2 ^ 62) (.ret { v := V.str (a ++ b) }) := ahZ a b
@[go_sem] theorem akr {a b : List UInt8} : wE .eql ⟨a.toArray⟩ ⟨b.toArray⟩ = .ret { v := .bool (a == b) } := ahY a b
@[go_sem] theorem akq {a b : List UInt8} : wE .neq ⟨a.toArray⟩ ⟨b.toArray⟩ = .ret { v := .bool (!(a == b)) } := ahT a b
@[go_sem] theorem akp {a b : List UInt8} : wE .lss ⟨a.toArray⟩ ⟨b.toArray⟩ = .ret { v := .bool (Op.bytesLess a b) } := ahU a b
@[go_sem] theorem ako {a b : List UInt8} : wE .leq ⟨a.toArray⟩ ⟨b.toArray⟩ = .ret { v := .bool (Op.bytesLess a b || a == b) } := ahV a b
@[go_sem] theorem akn {a b : List UInt8} : wE .gtr ⟨a.toArray⟩ ⟨b.toArray⟩ = .ret { v := .bool (!(Op.bytesLess a b || a == b)) } := ahW a b
@[go_sem] theorem akm {a b : List UInt8} : wE .geq ⟨a.toArray⟩ ⟨b.toArray⟩ = .ret { v := .bool (!(Op.bytesLess a b)) } := ahX a b
@[go_sem] theorem akl {a b : List UInt8} : (Value.string ⟨a.toArray⟩ = Value.string ⟨b.toArray⟩) = (a = b) := by simp
@[go_sem] theorem akk {v : Value} : V.shut o (.sc v) = .sc v := by simp only [V.shut]
@[go_sem] theorem akj  : V.shut o .nn = .nn := by simp only [V.shut]
@[go_sem] theorem aki  : V.shut o .top = .top := by simp only [V.shut]
@[go_sem] theorem akh {k : Nat} {xs : List V} : V.shut o (.sl k xs) = .sl k xs := by simp only [V.shut]
@[go_sem] theorem akg {cs : List V} {k : Nat} : V.shut o (.ro cs k) = .ro cs k := by simp only [V.shut]
@[go_sem] theorem akf {cs : List V} : V.shut o (.agg cs) = .agg (X6 o cs) := by simp only [V.shut]
@[go_sem] theorem ake {cs : List V} : V.shut o (.tup cs) = .tup (X6 o cs) := by simp only [V.shut]
@[go_sem] theorem akd {f : FK} {cs : List V} : V.shut o (.clo f cs) = .clo f (X6 o cs) := by simp only [V.shut]
@[go_sem] theorem akc {a off len : Nat} : V.shut o (.hd a off len) = aiM o off len (o a) := by simp only [V.shut, aiM] <;> rfl
@[go_sem] theorem akb {a off : Nat} : V.shut o (.ptr a off) = ahn off (o a) := by simp only [V.shut, ahn] <;> rfl
@[go_sem] theorem aka {off len s : Nat} {wr : Bool} {xs : List V} : aiM o off len (some (.buf wr s xs)) = .sl s ((xs.drop off).take len) := rfl
@[go_sem] theorem aj9 {off : Nat} {wr : Bool} {cs : List V} : ahn off (some (.box wr cs)) = .ro cs off := rfl
@[go_sem] theorem aj8 : X6 o [] = [] := by simp only [X6]
@[go_sem] theorem aj7 {v : V} {cs : List V} : X6 o (v :: cs) = v.shut o :: X6 o cs := by simp only [X6]
@[go_sem] theorem aj6 {v : Value} : V.shutOk o B (.sc v) = True := by simp only [V.shutOk]
@[go_sem] theorem aj5  : V.shutOk o B .nn = True := by simp only [V.shutOk]
@[go_sem] theorem aj4  : V.shutOk o B .top = True := by simp only [V.shutOk]
@[go_sem] theorem aj3 {k : Nat} {xs : List V} : V.shutOk o B (.sl k xs) = True := by simp only [V.shutOk]
@[go_sem] theorem aj2 {cs : List V} {k : Nat} : V.shutOk o B (.ro cs k) = True := by simp only [V.shutOk]
@[go_sem] theorem aj1 {a off len : Nat} : V.shutOk o B (.hd a off len) = (okB B a ∧ ah9 o B off len (o a)) := by simp only [V.shutOk]
@[go_sem] theorem aj0 {a off : Nat} : V.shutOk o B (.ptr a off) = (okB B a ∧ ∃ wr cs, o a = some (.box wr cs) ∧ QK cs) := by simp only [V.shutOk]
@[go_sem] theorem ajZ {cs : List V} : V.shutOk o B (.agg cs) = JK o B cs := by simp only [V.shutOk]
@[go_sem] theorem ajY {cs : List V} : V.shutOk o B (.tup cs) = JK o B cs := by simp only [V.shutOk]
@[go_sem] theorem ajX {f : FK} {cs : List V} : V.shutOk o B (.clo f cs) = JK o B cs := by simp only [V.shutOk]
@[go_sem] theorem ajW : JK o B [] = True := by simp only [JK]
@[go_sem] theorem ajV {v : V} {cs : List V} : JK o B (v :: cs) = (v.shutOk o B ∧ JK o B cs) := by simp only [JK]
@[go_sem] theorem ajU {v : Value} : V.closed (.sc v) = True := by simp only [V.closed]
@[go_sem] theorem ajT  : V.closed .nn = True := by simp only [V.closed]
@[go_sem] theorem ajS  : V.closed .top = True := by simp only [V.closed]
@[go_sem] theorem ajR {k : Nat} {xs : List V} : V.closed (.sl k xs) = True := by simp only [V.closed]
@[go_sem] theorem ajQ {cs : List V} {k : Nat} : V.closed (.ro cs k) = True := by simp only [V.closed]
@[go_sem] theorem ajP {cs : List V} : V.closed (.agg cs) = QK cs := by simp only [V.closed]
@[go_sem] theorem ajO {cs : List V} : V.closed (.tup cs) = QK cs := by simp only [V.closed]
@[go_sem] theorem ajN {f : FK} {cs : List V} : V.closed (.clo f cs) = QK cs := by simp only [V.closed]
@[go_sem] theorem ajM : QK [] = True := by simp only [QK]
@[go_sem] theorem ajL {v : V} {cs : List V} : QK (v :: cs) = (v.closed ∧ QK cs) := by simp only [QK]
@[go_sem] theorem ajK {v : Value} : V.cells (.sc v) = [.sc v] := by simp only [V.cells]
@[go_sem] theorem ajJ {k : Nat} {xs : List V} : V.cells (.sl k xs) = [.sl k xs] := by simp only [V.cells]
@[go_sem] theorem ajI {a off len : Nat} : V.cells (.hd a off len) = [.hd a off len] := by simp only [V.cells]
@[go_sem] theorem ajH {a off : Nat} : V.cells (.ptr a off) = [.ptr a off] := by simp only [V.cells]
@[go_sem] theorem ajG {cs : List V} {k : Nat} : V.cells (.ro cs k) = [.ro cs k] := by simp only [V.cells]
@[go_sem] theorem ajF {cs : List V} : V.cells (.agg cs) = cs := by simp only [V.cells]
@[go_sem] theorem ajE {f : FK} {cs : List V} : V.cells (.clo f cs) = [.clo f cs] := by simp only [V.cells]
@[go_sem] theorem ajD  : V.cells .nn = [.nn] := by simp only [V.cells]
@[go_sem] theorem ajC : Xm [] [] [] = some true := by simp only [Xm]
@[go_sem] theorem ajB {ks : List Nat} {k k' : IntKind} {a b : Int} {xs ys : List V} : Xm (0 :: ks) (.sc (.int k a) :: xs) (.sc (.int k' b) :: ys) = if k = k' then (Xm ks xs ys).map ((a == b) && ·) else none := by simp only [Xm]
@[go_sem] theorem ajA {ks : List Nat} {a b : List UInt8} {xs ys : List V} : Xm (1 :: ks) (.sc (.string ⟨a.toArray⟩) :: xs) (.sc (.string ⟨b.toArray⟩) :: ys) = (Xm ks xs ys).map ((a == b) && ·) := by simp only [Xm]; congr; funext t; congr 1; rw [Bool.eq_iff_iff]; simp; show (a.toArray == b.toArray) = true ↔ a = b; simp
@[go_sem] theorem ajz {ks : List Nat} {a b : Bool} {xs ys : List V} : Xm (2 :: ks) (.sc (.bool a) :: xs) (.sc (.bool b) :: ys) = (Xm ks xs ys).map ((a == b) && ·) := by simp only [Xm]
@[go_sem] theorem ajy {l : List UInt8} : (l == l) = true := by simp
@[go_sem] theorem ajx {n : Int} : (n == n) = true := by simp
@[go_sem] theorem ajw {k : IntKind} : (k == k) = true := by cases k <;> rfl
@[go_sem] theorem ajv {f : FuncId} {cap acts : List V} : KI Γ b r s d (.clo (.m f) cap) acts K = awC Γ b r s d f (cap ++ acts) K := propext Iff.rfl
@[go_sem] theorem aju {f : FuncId} {cap acts : List V} : XK Γ A W b s d (.clo (.m f) cap) acts J = Ji Γ A W b s d f (cap ++ acts) J := propext Iff.rfl
@[go_sem] theorem ajt {off len s : Nat} {ys : List V} {wr : Bool} {s1 : Nat} {xs : List V} : hdC o br B off len s ys (some (.buf wr s1 xs)) = (s1 = s ∧ ys = (xs.drop off).take len) := rfl
@[go_sem] theorem ajs {off len s : Nat} {ys : List V} {wr : Bool} {s1 : Nat} {xs : List V} : hdC o br B off len s ys (some (.obuf wr s1 xs)) = (s1 = s ∧ Yw o br B ((xs.drop off).take len) ys ∧ ntL ys ∧ QK ys) := rfl
@[go_sem] theorem ajr {off len s : Nat} {wr : Bool} {xs : List V} : aiM o off len (some (.obuf wr s xs)) = .sl s (js o ((xs.drop off).take len)) := rfl
@[go_sem] theorem ajq {off len s : Nat} {wr : Bool} {xs : List V} : ah9 o B off len (some (.buf wr s xs)) = True := rfl
@[go_sem] theorem ajp {off len s : Nat} {wr : Bool} {xs : List V} : ah9 o B off len (some (.obuf wr s xs)) = (KN o B ((xs.drop off).take len) ∧ ntL (js o ((xs.drop off).take len))) := rfl
@[go_sem] theorem ajo {l : List Nat} {k : Nat → AM E} : awS Γ b r s d K (.anyN l k) = (l ≠ [] ∧ ∀ i ∈ l, awS Γ b r s d K (k i)) := propext Iff.rfl
@[go_sem] theorem ajn {ag : Bool} {ks : List Nat} {k : V} {i : Nat} : wA ag ks k [] i = some none := rfl
@[go_sem] theorem ajm {ks : List Nat} {u v : Value} : xy false ks (.sc u) (.sc v) = Xm ks [.sc u] [.sc v] := rfl
@[go_sem] theorem ajl {ks : List Nat} {u v : List V} : xy true ks (.agg u) (.agg v) = Xm ks u v := rfl
@[go_sem] theorem ajk {a : Nat} : V.cells (.mp a) = [.mp a] := by simp only [V.cells]
@[go_sem] theorem ajj {a k : Nat} : conv o br B (.mp a) (.mp k) = (br[k]? = some a) := by simp only [conv]
end
attribute [go_sem] KK sem AM.int AM.str AM.slice AM.sliceK ahS AM.cellsAt aib St.eff St.put St.ev jM V.ofV ZC.v jr ah7 splice abC V.mk jU V.small Kv ae5 yf acn Int.cast_ofNat_Int V.und
end Av
end
section
namespace Av
open Go
theorem ado {α : Type} {p : α → Prop} {a : α} {l : List α} : (∀ x ∈ a :: l, p x) ↔ (p a ∧ ∀ x ∈ l, p x) := by simp
theorem aeI {α : Type} {p : α → Prop} : (∀ x ∈ ([] : List α), p x) ↔ True := by simp
theorem zsd {p : Prop} (h : p := by first | assumption | omega | (simp; done)) : p := h
theorem zlo {p : Prop} (h : p := by simp only [List.length_append, List.length_cons, List.length_nil, List.length_map, Nat.reducePow, Nat.reduceAdd]; omega) : p := h
theorem zms {α : Type} {a : α} : a ∈ [a] := List.mem_singleton_self _
theorem znf {p : Prop} (h : p := by first | (exfalso; simp only [List.length_map] at hc; omega) | (exfalso; omega)) : p := h
theorem znz : (∀ {p : Prop} [Decidable p], (decide p = true) = p) ∧ (∀ {p : Prop} [Decidable p], (decide p = false) = ¬ p) ∧ (∀ {α : Type} [BEq α] [LawfulBEq α] {a b : α}, ((a == b) = true) = (a = b)) ∧
    (∀ {α : Type} [BEq α] [LawfulBEq α] {a b : α}, ((a == b) = false) = ¬ (a = b)) ∧ (∀ {α : Type} {a b : α}, (a ≠ b) = ¬ (a = b)) ∧ (∀ {b : Bool}, ((!b) = true) = (b = false)) ∧ (∀ {b : Bool}, ((!b) = false) = (b = true)) :=
  ⟨propext decide_eq_true_iff, propext decide_eq_false_iff_not, propext beq_iff_eq, propext beq_eq_false_iff_ne, rfl, Bool.not_eq_true' _, Bool.not_eq_false' _⟩
structure EvB (Γ : Env) (f : FuncId) (args : List V) (res : V) (B : Option (List Nat)) : Prop where
  ev : Ev Γ f args [] res []
  cl : res.closed
  sh : (B = none ∧ res.noSl) ∨ B = some []
theorem EvN.b {Γ : Env} {f : FuncId} {args : List V} {res : V} (h : EvN Γ f args res) : EvB Γ f args res none := ⟨h.1, h.2.1, .inl ⟨rfl, h.2.2⟩⟩
theorem EvC.b {Γ : Env} {f : FuncId} {args : List V} {res : V} (h : EvC Γ f args res) : EvB Γ f args res (some []) := ⟨h.1, h.2, .inr rfl⟩
section
variable {Γ : Env} {A W : Nat → Bool} {b : Nat} {r : List AO} {s : St} {d : Option Nat} {f : FuncId} {acts : List V} {res : V} {J K : St → Prop} {B : Option (List Nat)}
theorem aja (h : EvB Γ f (X6 s.o acts) res B) (hc : JK s.o B acts) (hk : W8 Γ (b + KK) r { t := (s.put d res).t, o := s.o, n := s.n } K) : awC Γ b r s d f acts K := by
  obtain ⟨h1, h2, ⟨rfl, h3⟩ | rfl⟩ := h
  · exact ai6 hc ⟨h1, h2, h3⟩ hk
  · exact ai9 hc ⟨h1, h2⟩ hk
theorem aiG (h : EvB Γ f (X6 (X4 A s.o) acts) res B) (hc : JK (X4 A s.o) B acts) (hk : J { t := (s.put d res).t, o := s.o, n := s.n }) : Ji Γ A W b s d f acts J := by
  obtain ⟨h1, h2, ⟨rfl, h3⟩ | rfl⟩ := h
  · exact aiE hc ⟨h1, h2, h3⟩ hk
  · exact aiF hc ⟨h1, h2⟩ hk
def ah2 (Γ : Env) (b : Nat) (r : List AO) (s : St) (d : Option Nat) (f : FuncId) (acts args : List V) (okf : Option (List Nat) → Prop) (K : St → Prop) : Prop :=
  args = X6 s.o acts → okf = (fun B => JK s.o B acts) → awC Γ b r s d f acts K
def ah3 (Γ : Env) (A W : Nat → Bool) (b : Nat) (s : St) (d : Option Nat) (f : FuncId) (acts args : List V) (okf : Option (List Nat) → Prop) (J : St → Prop) : Prop :=
  args = X6 (X4 A s.o) acts → okf = (fun B => JK (X4 A s.o) B acts) → Ji Γ A W b s d f acts J
@[go_sem] theorem aje : awC Γ b r s d f acts K = ah2 Γ b r s d f acts (X6 s.o acts) (fun B => JK s.o B acts) K := propext ⟨fun h _ _ => h, fun h => h rfl rfl⟩
@[go_sem] theorem ajb : Ji Γ A W b s d f acts J = ah3 Γ A W b s d f acts (X6 (X4 A s.o) acts) (fun B => JK (X4 A s.o) B acts) J := propext ⟨fun h _ _ => h, fun h => h rfl rfl⟩
theorem QT {args : List V} {okf : Option (List Nat) → Prop} (h : EvB Γ f args res B) (hc : okf B) (hk : W8 Γ (b + KK) r { t := (s.put d res).t, o := s.o, n := s.n } K) : ah2 Γ b r s d f acts args okf K := by
  rintro rfl rfl; exact aja h hc hk
theorem Jl {args : List V} {okf : Option (List Nat) → Prop} (h : EvB Γ f args res B) (hc : okf B) (hk : J { t := (s.put d res).t, o := s.o, n := s.n }) : ah3 Γ A W b s d f acts args okf J := by
  rintro rfl rfl; exact aiG h hc hk
end
mutual
theorem adA (o : Nat → Option Ob) : ∀ v : V, v.closed → v.shut o = v
  | .top, _ => by simp only [V.shut]
  | .sc _, _ => by simp only [V.shut]
  | .nn, _ => by simp only [V.shut]
  | .sl _ _, _ => by simp only [V.shut]
  | .hd _ _ _, h => h.elim
  | .ptr _ _, h => h.elim
  | .ept _ _ _, h => h.elim
  | .mp _, h => h.elim
  | .ro _ _, _ => by simp only [V.shut]
  | .agg cs, h => by simp only [V.shut]; rw [UC o cs h]
  | .tup cs, h => by simp only [V.shut]; rw [UC o cs h]
  | .clo _ cs, h => by simp only [V.shut]; rw [UC o cs h]
theorem UC (o : Nat → Option Ob) : ∀ cs : List V, QK cs → X6 o cs = cs
  | [], _ => by simp only [X6]
  | v :: r, h => by simp only [X6]; rw [adA o v h.1, UC o r h.2]
end
mutual
theorem abL (o : Nat → Option Ob) (B : Option (List Nat)) : ∀ v : V, v.closed → v.shutOk o B
  | .top, _ => by simp only [V.shutOk]
  | .sc _, _ => by simp only [V.shutOk]
  | .nn, _ => by simp only [V.shutOk]
  | .sl _ _, _ => by simp only [V.shutOk]
  | .hd _ _ _, h => h.elim
  | .ptr _ _, h => h.elim
  | .ept _ _ _, h => h.elim
  | .mp _, h => h.elim
  | .ro _ _, _ => by simp only [V.shutOk]
  | .agg cs, h => by simp only [V.shutOk]; exact Vj o B cs h
  | .tup cs, h => by simp only [V.shutOk]; exact Vj o B cs h
  | .clo _ cs, h => by simp only [V.shutOk]; exact Vj o B cs h
theorem Vj (o : Nat → Option Ob) (B : Option (List Nat)) : ∀ cs : List V, QK cs → JK o B cs
  | [], _ => by simp only [JK]
  | v :: r, h => by simp only [JK]; exact ⟨abL o B v h.1, Vj o B r h.2⟩
end
@[go_sem] def mv (d x : Nat) : AO := ⟨some d, .mov (.t x), none⟩
@[go_sem] def mc (d : Nat) (v : V) : AO := ⟨some d, .mov (.c v), none⟩
@[go_sem] def mg (d x g : Nat) (q : Bool) : AO := ⟨some d, .mov (.t x), some (g, q)⟩
@[go_sem] def ld (d s x : Nat) : AO := ⟨some d, .load false s (.t x), none⟩
@[go_sem] def ia (d s x i : Nat) : AO := ⟨some d, .iaddr s (.t x) (.t i), none⟩
@[go_sem] def fa (d o x : Nat) : AO := ⟨some d, .faddr o (.t x), none⟩
@[go_sem] def nk (d x : Nat) : AO := ⟨some d, .nilck (.t x), none⟩
@[go_sem] def ex (d x i : Nat) : AO := ⟨some d, .ext (.t x) i, none⟩
@[go_sem] def ln (d x : Nat) : AO := ⟨some d, .lenL (.t x), none⟩
@[go_sem] def bn (d : Nat) (op : BinOp) (x y : Nat) : AO := ⟨some d, .bin op (.t x) (.t y), none⟩
@[go_sem] def bc (d : Nat) (op : BinOp) (x : Nat) (v : V) : AO := ⟨some d, .bin op (.t x) (.c v), none⟩
@[go_sem] def cl (d f : Nat) (ts : List Nat) : AO := ⟨some d, .call f (ts.map .t), none⟩
@[go_sem] def xo (d : Nat) (op : AOp) : AO := ⟨some d, op, none⟩
@[go_sem] def xg (d : Nat) (op : AOp) (g : Nat) (q : Bool) : AO := ⟨some d, op, some (g, q)⟩
@[go_sem] def xs (s a x : Nat) : AO := ⟨none, .store s (.t a) (.t x), none⟩
attribute [go_sem] ado aeI V.ren jt Jb V.lt ltL Ob.weak KK
end Av
end

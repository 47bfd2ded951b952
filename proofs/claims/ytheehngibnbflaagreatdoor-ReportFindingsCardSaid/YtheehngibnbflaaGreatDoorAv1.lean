/- The abstract values of the Av kit: values without memory addresses, what they stand for in a world of the model, and that this stays so. -/
import Derived.Calls
import Derived.Orders
import Derived.Laws.World
import Derived.Laws.Sem
import Derived.Laws.Entries
import Derived.Laws.Rows
import Derived.Laws.CopyRow
import Derived.Laws.BytesString
import Derived.Laws.StructEq
set_option linter.unusedVariables false
set_option linter.unusedSimpArgs false
section
namespace Av
open Go
inductive FK where
  | n (f : FuncId)
  | m (f : FuncId)
  deriving Inhabited
instance : Coe Nat FK := ⟨.n⟩
inductive V where
  | top
  | sc (v : Value)
  | nn
  | sl (sz : Nat) (xs : List V)
  | hd (a off len : Nat)
  | ptr (a off : Nat)
  | ept (a i off : Nat)
  | ro (cells : List V) (off : Nat)
  | agg (cells : List V)
  | tup (vs : List V)
  | clo (f : FK) (cap : List V)
  deriving Inhabited
def V.cells : V → List V
  | .agg cs => cs
  | v => [v]
def FK.f : FK → FuncId
  | .n f => f
  | .m f => f
def FK.args : FK → List V → List V → List V
  | .n _, as, cs => as ++ cs
  | .m _, as, cs => cs ++ as
def FK.val : FK → Array Value → Value
  | .n f, cs => .func (.func f) #[] cs
  | .m f, cs => .func (.func f) cs #[]
abbrev V.int (n : Int) : V := .sc (.int .i64 n)
abbrev V.bool (b : Bool) : V := .sc (.bool b)
abbrev V.str (l : List UInt8) : V := .sc (.string ⟨l.toArray⟩)
structure Cn where
  block : Nat
  base : Nat := 0
  cap : Nat := 0
  sz : Nat := 1
  n : Nat := 0
  void : Bool := false
def Hdr (c : Cn) (off len : Nat) (v : Value) : Prop :=
  if c.void then v = .slice none 0 0 ∧ off = 0 ∧ len = 0
  else ∃ ad, v = .slice (some ad) len (c.cap - off) ∧ off + len ≤ c.n ∧ off ≤ c.cap ∧ (off < c.cap → ad = ⟨c.block, c.base + off * c.sz, none⟩)
def noμ : Nat → Option Cn := fun _ => none
inductive Rep (w : World) (Z : Nat → Nat → Prop) : (Nat → Option Cn) → Value → V → Prop
  | top {μ : Nat → Option Cn} {v : Value} : Rep w Z μ v .top
  | sc {μ : Nat → Option Cn} {v : Value} (h : v.oneCell' = true) : Rep w Z μ v (.sc v)
  | nn {μ : Nat → Option Cn} {t : TypeId} {v : Value} : Rep w Z μ (.iface t v) .nn
  | sl0 {μ : Nat → Option Cn} {a : Option Addr} {cap sz : Nat} : Rep w Z μ (.slice a 0 cap) (.sl sz [])
  | sl {μ : Nat → Option Cn} {b o cap sz : Nat} {xs : List V} (f : Nat → Nat → Value) (hcap : xs.length ≤ cap)
      (hsz : ∀ i (h : i < xs.length), xs[i].cells.length = sz)
      (hc : ∀ i (h : i < xs.length) j, j < xs[i].cells.length → w.cell? ⟨b, o + (i * sz + j), none⟩ = some (f i j) ∧ Z b (o + (i * sz + j)) ∧ (f i j).oneCell' = true)
      (hr : ∀ i (h : i < xs.length) j (hj : j < xs[i].cells.length), Rep w Z noμ (f i j) xs[i].cells[j]) :
      Rep w Z μ (.slice (some ⟨b, o, none⟩) xs.length cap) (.sl sz xs)
  | hd {μ : Nat → Option Cn} {a off len : Nat} {v : Value} {c : Cn} (h : μ a = some c) (hv : Hdr c off len v) : Rep w Z μ v (.hd a off len)
  | ptr {μ : Nat → Option Cn} {a off : Nat} {c : Cn} (h : μ a = some c) : Rep w Z μ (.pointer (some ⟨c.block, off, none⟩)) (.ptr a off)
  | ept {μ : Nat → Option Cn} {a i off : Nat} {c : Cn} (h : μ a = some c) (hv : c.void = false) (hi : i < c.n) :
      Rep w Z μ (.pointer (some ⟨c.block, c.base + (i * c.sz + off), none⟩)) (.ept a i off)
  | ro {μ : Nat → Option Cn} {b o off : Nat} {cells : List V} (f : Nat → Value)
      (hc : ∀ j, j < cells.length → w.cell? ⟨b, o + j, none⟩ = some (f j) ∧ Z b (o + j) ∧ (f j).oneCell' = true)
      (hr : ∀ j (h : j < cells.length), Rep w Z noμ (f j) cells[j]) : Rep w Z μ (.pointer (some ⟨b, o + off, none⟩)) (.ro cells off)
  | agg {μ : Nat → Option Cn} {cs : Array Value} {vs : List V} (hl : cs.size = vs.length)
      (ho : ∀ j (h : j < cs.size), cs[j].oneCell' = true)
      (hr : ∀ j (h : j < vs.length) (h' : j < cs.size), Rep w Z μ cs[j] vs[j]) : Rep w Z μ (.agg cs) (.agg vs)
  | tup {μ : Nat → Option Cn} {cs : Array Value} {vs : List V} (hl : cs.size = vs.length)
      (hr : ∀ j (h : j < vs.length) (h' : j < cs.size), Rep w Z μ cs[j] vs[j]) : Rep w Z μ (.tuple cs) (.tup vs)
  | clo {μ : Nat → Option Cn} {f : FuncId} {cs : Array Value} {vs : List V} (hl : cs.size = vs.length)
      (hr : ∀ j (h : j < vs.length) (h' : j < cs.size), Rep w Z μ cs[j] vs[j]) : Rep w Z μ (.func (.func f) #[] cs) (.clo (.n f) vs)
  | clm {μ : Nat → Option Cn} {f : FuncId} {cs : Array Value} {vs : List V} (hl : cs.size = vs.length)
      (hr : ∀ j (h : j < vs.length) (h' : j < cs.size), Rep w Z μ cs[j] vs[j]) : Rep w Z μ (.func (.func f) cs #[]) (.clo (.m f) vs)
theorem Rep.mono {w w' : World} {Z Z' : Nat → Nat → Prop} {μ μ' : Nat → Option Cn} {v : Value} {x : V}
    (hw : ∀ b o, Z b o → w'.cell? ⟨b, o, none⟩ = w.cell? ⟨b, o, none⟩) (hZ : ∀ b o, Z b o → Z' b o)
    (hμ : ∀ a c, μ a = some c → μ' a = some c) (h : Rep w Z μ v x) : Rep w' Z' μ' v x := by
  induction h generalizing μ' with
  | top => exact .top
  | sc h => exact .sc h
  | nn => exact .nn
  | sl0 => exact .sl0
  | sl f hcap hsz hc _ ih =>
    exact .sl f hcap hsz (fun i h j hj => ⟨(hw _ _ (hc i h j hj).2.1).trans (hc i h j hj).1, hZ _ _ (hc i h j hj).2.1, (hc i h j hj).2.2⟩) (fun i h j hj => ih i h j hj (fun _ _ h => h))
  | hd h hv => exact .hd (hμ _ _ h) hv
  | ptr h => exact .ptr (hμ _ _ h)
  | ept h hv hi => exact .ept (hμ _ _ h) hv hi
  | ro f hc _ ih => exact .ro f (fun j h => ⟨(hw _ _ (hc j h).2.1).trans (hc j h).1, hZ _ _ (hc j h).2.1, (hc j h).2.2⟩) (fun j h => ih j h (fun _ _ h => h))
  | agg hl ho _ ih => exact .agg hl ho (fun j h h' => ih j h h' hμ)
  | tup hl _ ih => exact .tup hl (fun j h h' => ih j h h' hμ)
  | clo hl _ ih => exact .clo hl (fun j h h' => ih j h h' hμ)
  | clm hl _ ih => exact .clm hl (fun j h h' => ih j h h' hμ)
inductive Ob where
  | dead
  | box (wr : Bool) (cells : List V)
  | buf (wr : Bool) (sz : Nat) (xs : List V)
  | typ (T : TypeId) (x : Ob)
  | obuf (wr : Bool) (sz : Nat) (xs : List V)
  deriving Inhabited
def Ob.live : Ob → Cn → Prop
  | .dead, _ => False
  | .box .., _ => True
  | .buf .., c => c.void = false
  | .typ _ x, c => x.live c
  | .obuf .., c => c.void = false
def BOk (w : World) (Z : Nat → Nat → Prop) (ν : Nat → Option Cn) (c : Cn) (wr : Bool) (sz : Nat) (xs : List V) : Prop :=
  xs.length = c.n ∧ (c.void = false → c.sz = sz ∧ c.n ≤ c.cap ∧ (wr = true → ∀ o, ¬ Z c.block o) ∧ (∀ o, Z c.block o → o < c.base + c.n * c.sz) ∧
      (∀ i (h : i < xs.length), xs[i].cells.length = sz) ∧
      ∃ cs ty fr, w.heap[c.block]? = some (.cells cs ty fr) ∧ c.base + c.cap * c.sz ≤ cs.size ∧ (∀ o, o < cs.size → ¬ (fr.1 ≤ o ∧ o < fr.2)) ∧
        ∀ i (h : i < xs.length) j (hj : j < xs[i].cells.length), ∃ v, cs[c.base + (i * c.sz + j)]? = some v ∧ v.oneCell' = true ∧ Rep w Z ν v xs[i].cells[j])
def Up (w : World) (Z : Nat → Nat → Prop) (μ : Nat → Option Cn) (c : Cn) : Ob → Prop
  | .dead => True
  | .box wr cells => c.void = false ∧ (∃ cs ty, w.heap[c.block]? = some (.cells cs ty (0, 0)) ∧ cs.size = cells.length ∧
      (∀ j (h : j < cells.length) (h' : j < cs.size), Rep w Z μ cs[j] cells[j] ∧ cs[j].oneCell' = true)) ∧ (wr = true → ∀ o, ¬ Z c.block o)
  | .buf wr sz xs => BOk w Z noμ c wr sz xs
  | .obuf wr sz xs => BOk w Z μ c wr sz xs
  | .typ T x => Up w Z μ c x ∧ c.base = 0 ∧ (x.live c → ∃ cs fr, w.heap[c.block]? = some (.cells cs T fr))
theorem cell?_of_heap {w : World} {b o : Nat} {cs : Array Value} {ty : TypeId} {fr : Nat × Nat} (h : w.heap[b]? = some (.cells cs ty fr)) :
    w.cell? ⟨b, o, none⟩ = cs[o]? := by
  simp [World.cell?, h]
theorem frozen?_of_heap {w : World} {b o : Nat} {cs : Array Value} {ty : TypeId} {fr : Nat × Nat} (h : w.heap[b]? = some (.cells cs ty fr)) :
    w.frozen? ⟨b, o, none⟩ = (decide (fr.1 ≤ o) && decide (o < fr.2)) := by
  obtain ⟨lo, hi⟩ := fr
  simp [World.frozen?, h]
theorem BOk.mono {w w' : World} {Z Z' : Nat → Nat → Prop} {μ μ' : Nat → Option Cn} {c : Cn} {wr : Bool} {sz : Nat} {xs : List V}
    (hw : ∀ b o, Z b o → w'.cell? ⟨b, o, none⟩ = w.cell? ⟨b, o, none⟩) (hZ : ∀ b o, Z b o → Z' b o)
    (hμ : ∀ a c, μ a = some c → μ' a = some c) (hb : c.void = false → w'.heap[c.block]? = w.heap[c.block]?)
    (hZb : c.void = false → ∀ o, Z' c.block o → Z c.block o)
    (h : BOk w Z μ c wr sz xs) : BOk w' Z' μ' c wr sz xs := by
  refine ⟨h.1, fun hv => ?_⟩
  obtain ⟨h0, h1, h2, h3, h4, cs, ty, fr, hh, h5, h6, h7⟩ := h.2 hv
  refine ⟨h0, h1, fun hwr o ho => h2 hwr o (hZb hv o ho), fun o ho => h3 o (hZb hv o ho), h4, cs, ty, fr, (hb hv).trans hh, h5, h6, fun i h j hj => ?_⟩
  obtain ⟨v, e1, e2, e3⟩ := h7 i h j hj
  exact ⟨v, e1, e2, e3.mono hw hZ hμ⟩
theorem Up.mono {w w' : World} {Z Z' : Nat → Nat → Prop} {μ μ' : Nat → Option Cn} {c : Cn} {ob : Ob}
    (hw : ∀ b o, Z b o → w'.cell? ⟨b, o, none⟩ = w.cell? ⟨b, o, none⟩) (hZ : ∀ b o, Z b o → Z' b o)
    (hμ : ∀ a c, μ a = some c → μ' a = some c) (hb : ob.live c → w'.heap[c.block]? = w.heap[c.block]?)
    (hZb : ob.live c → ∀ o, Z' c.block o → Z c.block o)
    (h : Up w Z μ c ob) : Up w' Z' μ' c ob := by
  induction ob with
  | dead => trivial
  | typ T x ih =>
    refine ⟨ih hb hZb h.1, h.2.1, fun hl => ?_⟩
    obtain ⟨cs, fr, e⟩ := h.2.2 hl
    exact ⟨cs, fr, (hb hl).trans e⟩
  | box wr cells =>
    obtain ⟨hv, ⟨cs, ty, hh, hs, hr⟩, hz⟩ := h
    exact ⟨hv, ⟨cs, ty, (hb trivial).trans hh, hs, fun j h h' => ⟨(hr j h h').1.mono hw hZ hμ, (hr j h h').2⟩⟩, fun hwr o ho => hz hwr o (hZb trivial o ho)⟩
  | buf wr sz xs => exact BOk.mono hw hZ (fun _ _ h => h) hb hZb h
  | obuf wr sz xs => exact BOk.mono hw hZ hμ hb hZb h
theorem Rep.lift {w : World} {Z : Nat → Nat → Prop} {μ : Nat → Option Cn} {v : Value} {x : V} (h : Rep w Z noμ v x) : Rep w Z μ v x :=
  h.mono (fun _ _ _ => rfl) (fun _ _ h => h) (fun _ _ h => by cases h)
mutual
def V.closed : V → Prop
  | .hd _ _ _ => False
  | .ptr _ _ => False
  | .ept _ _ _ => False
  | .agg cs => Qc cs
  | .tup cs => Qc cs
  | .clo _ cs => Qc cs
  | _ => True
def Qc : List V → Prop
  | [] => True
  | v :: r => v.closed ∧ Qc r
end
theorem J9 : ∀ {cs : List V}, Qc cs → ∀ j (h : j < cs.length), cs[j].closed
  | [], _, j, h => by simp at h
  | v :: r, hc, 0, h => hc.1
  | v :: r, hc, j + 1, h => J9 (cs := r) hc.2 j (by simpa using h)
theorem Rep.close {w : World} {Z : Nat → Nat → Prop} {μ : Nat → Option Cn} {v : Value} {x : V} (h : Rep w Z μ v x) (hc : x.closed) : Rep w Z noμ v x := by
  induction h with
  | top => exact .top
  | sc h => exact .sc h
  | nn => exact .nn
  | sl0 => exact .sl0
  | sl f h0 h1 h2 h3 _ => exact .sl f h0 h1 h2 h3
  | hd h hv => exact hc.elim
  | ptr h => exact hc.elim
  | ept h hv hi => exact hc.elim
  | ro f h1 h2 _ => exact .ro f h1 h2
  | agg hl ho _ ih => exact .agg hl ho (fun j h h' => ih j h h' (J9 hc j h))
  | tup hl _ ih => exact .tup hl (fun j h h' => ih j h h' (J9 hc j h))
  | clo hl _ ih => exact .clo hl (fun j h h' => ih j h h' (J9 hc j h))
  | clm hl _ ih => exact .clm hl (fun j h h' => ih j h h' (J9 hc j h))
theorem Rep.closed_of {w : World} {Z : Nat → Nat → Prop} {ν : Nat → Option Cn} (hν : ν = noμ) {v : Value} {x : V} (h : Rep w Z ν v x) : x.closed := by
  have list : ∀ (es : List V), (∀ j (h : j < es.length), es[j].closed) → Qc es := by
    intro es
    induction es with
    | nil => intro _; trivial
    | cons y es ih => intro h; exact ⟨h 0 (by simp), ih fun j hj => h (j + 1) (by simpa using hj)⟩
  induction h with
  | top => trivial
  | sc h => trivial
  | nn => trivial
  | sl0 => trivial
  | sl f h0 h1 h2 h3 _ => trivial
  | hd h hv => subst hν; cases h
  | ptr h => subst hν; cases h
  | ept h hv hi => subst hν; cases h
  | ro f h1 h2 _ => trivial
  | agg hl ho _ ih => exact list _ (fun j h => ih j h (by omega) hν)
  | tup hl _ ih => exact list _ (fun j h => ih j h (by omega) hν)
  | clo hl _ ih => exact list _ (fun j h => ih j h (by omega) hν)
  | clm hl _ ih => exact list _ (fun j h => ih j h (by omega) hν)
theorem BOk.lift {w : World} {Z : Nat → Nat → Prop} {μ : Nat → Option Cn} {c : Cn} {wr : Bool} {sz : Nat} {xs : List V} (h : BOk w Z noμ c wr sz xs) : BOk w Z μ c wr sz xs :=
  h.mono (fun _ _ _ => rfl) (fun _ _ h => h) (fun _ _ h => by cases h) (fun _ => rfl) (fun _ _ h => h)
theorem BOk.close {w : World} {Z : Nat → Nat → Prop} {μ : Nat → Option Cn} {c : Cn} {wr : Bool} {sz : Nat} {xs : List V} (h : BOk w Z μ c wr sz xs)
    (hc : ∀ i (h : i < xs.length) j (hj : j < xs[i].cells.length), (xs[i].cells[j]).closed) : BOk w Z noμ c wr sz xs := by
  refine ⟨h.1, fun hv => ?_⟩
  obtain ⟨h0, h1, h2, h3, h4, cs, ty, fr, hh, h5, h6, h7⟩ := h.2 hv
  refine ⟨h0, h1, h2, h3, h4, cs, ty, fr, hh, h5, h6, fun i hi j hj => ?_⟩
  obtain ⟨v, e1, e2, e3⟩ := h7 i hi j hj
  exact ⟨v, e1, e2, e3.close (hc i hi j hj)⟩
theorem BOk.closed {w : World} {Z : Nat → Nat → Prop} {c : Cn} {wr : Bool} {sz : Nat} {xs : List V} (h : BOk w Z noμ c wr sz xs) (hv : c.void = false) :
    ∀ i (h : i < xs.length) j (hj : j < xs[i].cells.length), (xs[i].cells[j]).closed := by
  intro i hi j hj
  obtain ⟨h0, h1, h2, h3, h4, cs, ty, fr, hh, h5, h6, h7⟩ := h.2 hv
  obtain ⟨v, e1, e2, e3⟩ := h7 i hi j hj
  exact e3.closed_of rfl
theorem KV {x : V} (h : x.closed) : ∀ j (hj : j < x.cells.length), x.cells[j].closed := by
  intro j hj
  cases x with
  | agg cs => exact J9 (cs := cs) h j hj
  | _ => simp [V.cells] at hj; subst hj; exact h
end Av
end
section
namespace Av
open Go
inductive AM (α : Type) where
  | no
  | ret (x : α)
  | asrt (p : Prop) (m : AM α)
  | rd (a : Nat) (k : Ob → AM α)
  | any (k : Bool → AM α)
def AM.wp {α : Type} (o : Nat → Option Ob) (K : α → Prop) : AM α → Prop
  | .no => False
  | .ret x => K x
  | .asrt p m => p ∧ m.wp o K
  | .rd a k => ∃ ob, o a = some ob ∧ (k ob).wp o K
  | .any k => ∀ b, (k b).wp o K
inductive Opd where
  | t (i : Nat)
  | c (v : V)
  deriving Inhabited
inductive ZC where
  | val (v : Value)
  | nil (sz : Nat)
inductive AOp where
  | mov (x : Opd)
  | mknil (sz : Nat)
  | pick (c a b : Opd)
  | alloc (zs : List ZC)
  | box (agg : Bool) (sz : Nat) (x : Opd)
  | build (zs : List Value) (parts : List (Nat × Nat × Opd))
  | bslice (n sz : Nat) (agg : Bool) (zs : List Value) (parts : List (Nat × Opd))
  | obslice (n sz : Nat) (agg : Bool) (zs : List Value) (parts : List (Nat × Opd))
  | load (agg : Bool) (sz : Nat) (a : Opd)
  | store (sz : Nat) (a x : Opd)
  | nilck (x : Opd)
  | bin (op : BinOp) (x y : Opd)
  | eqb (neg : Bool) (x y : Opd)
  | isnil (neg : Bool) (x : Opd)
  | isnilI (neg : Bool) (x : Opd)
  | idS (x : Opd)
  | eqagg (neg : Bool) (ks : List Nat) (x y : Opd)
  | un (op : UnOp) (x : Opd)
  | convI (k : IntKind) (x : Opd)
  | convSB (x : Opd)
  | convBS (x : Opd)
  | mkfn (f : FK) (cap : List Opd)
  | mkslice (sz bytes : Nat) (agg : Bool) (zs : List Value) (l c : Opd)
  | slstr (x : Opd) (lo hi : Option Opd)
  | slsl (sz : Nat) (x : Opd) (lo hi : Option Opd)
  | faddr (off : Nat) (x : Opd)
  | fld (agg : Bool) (off sz : Nat) (x : Opd)
  | iaddr (sz : Nat) (x i : Opd)
  | iaddrA (n sz : Nat) (x i : Opd)
  | idxS (x i : Opd)
  | idxA (agg : Bool) (n sz : Nat) (x i : Opd)
  | ext (x : Opd) (i : Nat)
  | call (f : FuncId) (args : List Opd)
  | callv (x : Opd) (args : List Opd)
  | lenS (x : Opd)
  | lenL (x : Opd)
  | lenC (n : Nat) (x : Opd)
  | append (sz bytes : Nat) (zs : List Value) (x y : Opd)
  | appendS (e : TypeId) (x y : Opd)
  | allocT (T : TypeId) (vs : List Value)
  | copy (sz : Nat) (x y : Opd)
  | mm (mx : Bool) (xs : List Opd)
  | mkif (x : Opd)
structure E where
  v : V
  os : List (Nat × Ob) := []
def V.small : V → Bool
  | .top | .agg _ | .tup _ => false
  | _ => true
def V.ofV : Value → V
  | .func (.func f) first cap => if first.isEmpty && cap.isEmpty then .clo (.n f) [] else .sc (.func (.func f) first cap)
  | v => .sc v
def ZC.v : ZC → V
  | .val v => V.ofV v
  | .nil _ => .sc (.slice none 0 0)
def VF (b : Nat) : List ZC → List V
  | [] => []
  | .val v :: r => V.ofV v :: VF (b + 1) r
  | .nil _ :: r => .hd b 0 0 :: VF (b + 1) r
def ack (b : Nat) : List ZC → List (Nat × Ob)
  | [] => []
  | .val _ :: r => ack (b + 1) r
  | .nil sz :: r => (b, .buf true sz []) :: ack (b + 1) r
def splice (cells : List V) (off : Nat) (cs : List V) : List V := cells.take off ++ cs ++ cells.drop (off + cs.length)
def yb : List V → List (Nat × List V) → List V
  | cells, [] => cells
  | cells, (off, cs) :: r => yb (splice cells off cs) r
def V.mk (agg : Bool) (cs : List V) : V := if agg then .agg cs else cs.headD .top
def Wy (n : Nat) (z : V) (parts : List (Nat × V)) : List V := parts.foldl (fun xs p => xs.set p.1 p.2) (List.replicate n z)
def AM.slice {α : Type} (v : V) (sz : Nat) (k : List V → AM α) : AM α :=
  match v with
  | .sl s xs => .asrt (s = sz ∨ xs = []) (k xs)
  | .hd a off len => .rd a fun
    | .buf _ s xs => .asrt (s = sz ∨ xs = []) (k ((xs.drop off).take len))
    | _ => .no
  | .sc (.slice none 0 0) => k []
  | _ => .no
def AM.sliceK {α : Type} (v : V) (sz : Nat) (k : Bool → List V → AM α) : AM α :=
  match v with
  | .sl s xs => .asrt (s = sz ∨ xs = []) (k false xs)
  | .hd a off len => .rd a fun
    | .buf _ s xs => .asrt (s = sz ∨ xs = []) (k false ((xs.drop off).take len))
    | .obuf _ s xs => .asrt (s = sz ∨ xs = []) (k true ((xs.drop off).take len))
    | _ => .no
  | .sc (.slice none 0 0) => k false []
  | _ => .no
def ab8 (op wr : Bool) (sz : Nat) (xs : List V) : Ob := match op with | true => .obuf wr sz xs | false => .buf wr sz xs
def AM.int {α : Type} (v : V) (k : Int → AM α) : AM α :=
  match v with
  | .sc (.int _ n) => k n
  | _ => .no
def AM.str {α : Type} (v : V) (k : ByteArray → AM α) : AM α :=
  match v with
  | .sc (.string s) => k s
  | _ => .no
def AM.cellsAt {α : Type} (v : V) (k : List V → Nat → AM α) : AM α :=
  match v with
  | .ptr a off => .rd a fun | .box _ cells => k cells off | .typ _ (.box _ cells) => k cells off | _ => .no
  | .ept a i off => .rd a fun | .buf _ _ xs => (match xs[i]? with | some e => k e.cells off | none => .no) | .obuf _ _ xs => (match xs[i]? with | some e => k e.cells off | none => .no) | _ => .no
  | .ro cells off => k cells off
  | _ => .no
def acp (op : BinOp) (k : IntKind) (a b : Int) : AM E :=
  match op with
  | .add => .ret { v := .sc (.int k (k.wrap (a + b))) }
  | .sub => .ret { v := .sc (.int k (k.wrap (a - b))) }
  | .mul => .ret { v := .sc (.int k (k.wrap (a * b))) }
  | .quo => .asrt (b ≠ 0) (.ret { v := .sc (.int k (k.wrap (a.tdiv b))) })
  | .rem => .asrt (b ≠ 0) (.ret { v := .sc (.int k (a.tmod b)) })
  | .eql => .ret { v := .bool (a == b) }
  | .neq => .ret { v := .bool (a != b) }
  | .lss => .ret { v := .bool (decide (a < b)) }
  | .leq => .ret { v := .bool (decide (a ≤ b)) }
  | .gtr => .ret { v := .bool (decide (a > b)) }
  | .geq => .ret { v := .bool (decide (a ≥ b)) }
  | _ => .no
def KX (op : BinOp) (a b : ByteArray) : AM E :=
  match op with
  | .add => .asrt (a.size + b.size < 2 ^ 62) (.ret { v := .sc (.string (a ++ b)) })
  | .eql => .ret { v := .bool (a.toList == b.toList) }
  | .neq => .ret { v := .bool (!(a.toList == b.toList)) }
  | .lss => .ret { v := .bool (Op.bytesLess a.toList b.toList) }
  | .leq => .ret { v := .bool (Op.bytesLess a.toList b.toList || a.toList == b.toList) }
  | .gtr => .ret { v := .bool (!(Op.bytesLess a.toList b.toList || a.toList == b.toList)) }
  | .geq => .ret { v := .bool (!(Op.bytesLess a.toList b.toList)) }
  | _ => .no
def Yf : List Nat → List V → List V → Option Bool
  | [], [], [] => some true
  | 0 :: ks, .sc (.int k a) :: xs, .sc (.int k' b) :: ys => if k = k' then (Yf ks xs ys).map ((a == b) && ·) else none
  | 1 :: ks, .sc (.string a) :: xs, .sc (.string b) :: ys => (Yf ks xs ys).map ((a == b) && ·)
  | 2 :: ks, .sc (.bool a) :: xs, .sc (.bool b) :: ys => (Yf ks xs ys).map ((a == b) && ·)
  | _, _, _ => none
def yE (mx : Bool) (a : Int) (v : V) : Int :=
  match v with
  | .sc (.int _ y) => if mx then (if a < y then y else a) else (if y < a then y else a)
  | _ => a
def Ug (k : IntKind) : V → Bool
  | .sc (.int k' _) => k' == k
  | _ => false
def abC : V → UInt8
  | .sc (.int _ n) => UInt8.ofNat n.toNat
  | _ => 0
def V2 (ag : Bool) (sz : Nat) (v : V) : Prop :=
  match ag, v with
  | true, .agg cs => cs.length = sz
  | true, _ => False
  | false, v => v.small = true
def sem (b : Nat) (ρ : Opd → V) : AOp → AM E
  | .mov x => .ret { v := ρ x }
  | .mknil sz => .ret { v := .hd b 0 0, os := [(b, .buf true sz [])] }
  | .pick c x y => match ρ c with | .sc (.bool t) => .ret { v := if t then ρ x else ρ y } | _ => .no
  | .alloc zs => .ret { v := .ptr b 0, os := ack (b + 1) zs ++ [(b, .box true (VF (b + 1) zs))] }
  | .box agg sz x =>
    (match agg, ρ x with
     | true, .agg cs => .asrt (cs.length = sz) (.ret { v := .ptr b 0, os := [(b, .box true cs)] })
     | false, v => .asrt (v.small = true ∧ sz = 1) (.ret { v := .ptr b 0, os := [(b, .box true [v])] })
     | _, _ => .no)
  | .build zs parts => .asrt (∀ p ∈ parts, (ρ p.2.2).cells.length = p.2.1 ∧ p.1 + p.2.1 ≤ zs.length ∧ ρ p.2.2 ≠ .top ∧ ∀ vs, ρ p.2.2 ≠ .tup vs)
      (.ret { v := .agg (yb (zs.map V.ofV) (parts.map fun p => (p.1, (ρ p.2.2).cells))) })
  | .bslice n sz agg zs parts => .asrt (∀ p ∈ parts, p.1 < n ∧ V2 agg sz (ρ p.2) ∧ (ρ p.2).closed)
      (.ret { v := .hd b 0 n, os := [(b, .buf true sz (Wy n (V.mk agg (zs.map V.ofV)) (parts.map fun p => (p.1, ρ p.2))))] })
  | .obslice n sz agg zs parts => .asrt (∀ p ∈ parts, p.1 < n ∧ V2 agg sz (ρ p.2))
      (.ret { v := .hd b 0 n, os := [(b, .obuf true sz (Wy n (V.mk agg (zs.map V.ofV)) (parts.map fun p => (p.1, ρ p.2))))] })
  | .load agg sz a => .cellsAt (ρ a) fun cells off =>
      if agg then .asrt (off + sz ≤ cells.length) (.ret { v := .agg ((cells.drop off).take sz) })
      else match cells[off]? with | some v => .ret { v } | none => .no
  | .store sz a x => .asrt ((ρ x).cells.length = sz ∧ ρ x ≠ .top ∧ ∀ vs, ρ x ≠ .tup vs) <|
      (match ρ a with
       | .ptr n off => .rd n fun
         | .box true cells => .asrt (off + sz ≤ cells.length) (.ret { v := .top, os := [(n, .box true (splice cells off (ρ x).cells))] })
         | .typ T (.box true cells) => .asrt (off + sz ≤ cells.length) (.ret { v := .top, os := [(n, .typ T (.box true (splice cells off (ρ x).cells)))] })
         | _ => .no
       | .ept n i off => .rd n fun
         | .buf true s xs => .asrt (ρ x).closed
           (match xs[i]? with
            | some (.agg cs) => .asrt (off + sz ≤ cs.length) (.ret { v := .top, os := [(n, .buf true s (xs.set i (.agg (splice cs off (ρ x).cells))))] })
            | some _ => .asrt (off = 0 ∧ s = 1 ∧ (ρ x).small = true) (.ret { v := .top, os := [(n, .buf true s (xs.set i (ρ x)))] })
            | none => .no)
         | .obuf true s xs =>
           (match xs[i]? with
            | some (.agg cs) => .asrt (off + sz ≤ cs.length) (.ret { v := .top, os := [(n, .obuf true s (xs.set i (.agg (splice cs off (ρ x).cells))))] })
            | some _ => .asrt (off = 0 ∧ s = 1 ∧ (ρ x).small = true) (.ret { v := .top, os := [(n, .obuf true s (xs.set i (ρ x)))] })
            | none => .no)
         | _ => .no
       | _ => .no)
  | .nilck x => match ρ x with | .ptr a o => .ret { v := .ptr a o } | .ept a i o => .ret { v := .ept a i o } | .ro cs o => .ret { v := .ro cs o } | .clo f cs => .ret { v := .clo f cs } | _ => .no
  | .bin op x y =>
    (match ρ x, ρ y with
     | .sc (.int k a), .sc (.int k' c) => .asrt (k = k') (acp op k a c)
     | .sc (.string a), .sc (.string c) => KX op a c
     | _, _ => .no)
  | .eqb neg x y => match ρ x, ρ y with | .sc (.bool a), .sc (.bool c) => .ret { v := .bool (if neg then a != c else a == c) } | _, _ => .no
  | .isnil neg x =>
    (match ρ x with
     | .sc (.slice none 0 0) => .ret { v := .bool !neg }
     | .sl _ (_ :: _) => .ret { v := .bool neg }
     | .sl _ xs => .any fun t => .asrt (t = true → xs = []) (.ret { v := .bool (if neg then !t else t) })
     | .hd a _ _ => .rd a fun
       | .buf _ _ _ => .any fun t => .ret { v := .bool (if neg then !t else t) }
       | .obuf _ _ _ => .any fun t => .ret { v := .bool (if neg then !t else t) }
       | _ => .no
     | _ => .no)
  | .isnilI neg x =>
    (match ρ x with
     | .nn => .ret { v := .bool neg }
     | .sc .nilIface => .ret { v := .bool !neg }
     | _ => .no)
  | .idS x => .str (ρ x) fun s => .ret { v := .sc (.string s) }
  | .eqagg neg ks x y => match ρ x, ρ y with
     | .agg xs, .agg ys => (match Yf ks xs ys with | some t => .ret { v := .bool (if neg then !t else t) } | none => .no)
     | _, _ => .no
  | .un op x => match op, ρ x with
     | .neg, .sc (.int k n) => .ret { v := .sc (.int k (k.wrap (0 - n))) }
     | .not, .sc (.bool t) => .ret { v := .bool !t }
     | _, _ => .no
  | .convI k x => .int (ρ x) fun n => .ret { v := .sc (.int k (k.wrap n)) }
  | .convSB x => .str (ρ x) fun s => .ret { v := .hd b 0 s.size, os := [(b, .buf true 1 (s.data.toList.map fun c => .sc (.int .u8 c.toNat)))] }
  | .convBS x => .slice (ρ x) 1 fun xs => .asrt (∃ l : List UInt8, xs = l.map fun c => .sc (.int .u8 c.toNat))
      (.ret { v := .sc (.string ⟨(xs.map abC).toArray⟩) })
  | .mkfn f cap => .ret { v := .clo f (cap.map ρ) }
  | .mkslice sz bytes agg zs l c => .int (ρ l) fun l => .int (ρ c) fun c => .asrt (0 ≤ l ∧ l ≤ c ∧ c * bytes ≤ 2 ^ 40 ∧ c ≤ 2 ^ 40)
      (.ret { v := .hd b 0 l.toNat, os := [(b, .buf true sz (List.replicate l.toNat (V.mk agg (zs.map V.ofV))))] })
  | .slstr x lo hi => .str (ρ x) fun s =>
      .int ((lo.map ρ).getD (.int 0)) fun l => .int ((hi.map ρ).getD (.int s.size)) fun h =>
      .asrt (0 ≤ l ∧ l ≤ h ∧ h ≤ s.size) (.ret { v := .sc (.string (s.extract l.toNat h.toNat)) })
  | .slsl sz x lo hi =>
      let go (n : Nat) (k : Nat → Nat → E) : AM E := .int ((lo.map ρ).getD (.int 0)) fun l => .int ((hi.map ρ).getD (.int n)) fun h =>
        .asrt (0 ≤ l ∧ l ≤ h ∧ h ≤ n) (.ret (k l.toNat h.toNat))
      (match ρ x with
       | .hd a off len => .rd a fun | .buf _ s xs => .asrt (s = sz ∨ xs = []) (go len fun l h => { v := .hd a (off + l) (h - l) }) | .obuf _ s xs => .asrt (s = sz ∨ xs = []) (go len fun l h => { v := .hd a (off + l) (h - l) }) | _ => .no
       | .sl s xs => .asrt (s = sz ∨ xs = []) (go xs.length fun l h => { v := .sl s ((xs.drop l).take (h - l)) })
       | _ => .no)
  | .faddr off x => match ρ x with | .ptr a o => .ret { v := .ptr a (o + off) } | .ept a i o => .ret { v := .ept a i (o + off) } | .ro cs o => .ret { v := .ro cs (o + off) } | _ => .no
  | .fld agg off sz x => match ρ x with
     | .agg cs => if agg then .asrt (off + sz ≤ cs.length) (.ret { v := .agg ((cs.drop off).take sz) }) else (match cs[off]? with | some v => .ret { v } | none => .no)
     | _ => .no
  | .iaddr sz x i => .int (ρ i) fun n =>
      (match ρ x with
       | .hd a off len => .rd a fun | .buf _ s xs => .asrt ((s = sz ∨ xs = []) ∧ 0 ≤ n ∧ n < len) (.ret { v := .ept a (off + n.toNat) 0 }) | .obuf _ s xs => .asrt ((s = sz ∨ xs = []) ∧ 0 ≤ n ∧ n < len) (.ret { v := .ept a (off + n.toNat) 0 }) | _ => .no
       | .sl s xs => .asrt (s = sz ∧ 0 ≤ n) (match xs[n.toNat]? with | some e => .ret { v := .ro e.cells 0 } | none => .no)
       | _ => .no)
  | .iaddrA n sz x i => .int (ρ i) fun k => .asrt (0 ≤ k ∧ k < n)
      (match ρ x with | .ptr a o => .ret { v := .ptr a (o + k.toNat * sz) } | .ept a j o => .ret { v := .ept a j (o + k.toNat * sz) } | .ro cs o => .ret { v := .ro cs (o + k.toNat * sz) } | _ => .no)
  | .idxS x i => .str (ρ x) fun s => .int (ρ i) fun n => .asrt (0 ≤ n) (match s.data.toList[n.toNat]? with | some c => .ret { v := .sc (.int .u8 c.toNat) } | none => .no)
  | .idxA agg n sz x i => .int (ρ i) fun k => .asrt (0 ≤ k ∧ k < n)
      (match ρ x with
       | .agg cs => if agg then .asrt (k.toNat * sz + sz ≤ cs.length) (.ret { v := .agg ((cs.drop (k.toNat * sz)).take sz) }) else (match cs[k.toNat * sz]? with | some v => .ret { v } | none => .no)
       | _ => .no)
  | .ext x i => match ρ x with | .tup vs => (match vs[i]? with | some v => .ret { v } | none => .no) | _ => .no
  | .call _ _ | .callv _ _ => .no
  | .lenS x => .str (ρ x) fun s => .ret { v := .int s.size }
  | .lenL x => match ρ x with
     | .sl _ xs => .ret { v := .int xs.length }
     | .hd _ _ len => .ret { v := .int len }
     | .sc (.slice none 0 0) => .ret { v := .int 0 }
     | _ => .no
  | .lenC n _ => .ret { v := .int n }
  | .append sz bytes _ x y => .sliceK (ρ y) sz fun op ys => .asrt (∀ y ∈ ys, y.cells.length = sz) <|
      (match ρ x with
       | .hd a off len => .rd a fun
         | .buf wr s xs => .asrt (s = sz ∧ (off + len = xs.length ∨ wr = true) ∧ (len + ys.length) * bytes ≤ 2 ^ 40 ∧ len + ys.length ≤ 2 ^ 40)
           (.ret { v := .hd b 0 (len + ys.length), os := [(a, .dead), (b, ab8 op wr sz ((xs.drop off).take len ++ ys))] })
         | .obuf wr s xs => .asrt (s = sz ∧ (off + len = xs.length ∨ wr = true) ∧ (len + ys.length) * bytes ≤ 2 ^ 40 ∧ len + ys.length ≤ 2 ^ 40)
           (.ret { v := .hd b 0 (len + ys.length), os := [(a, .dead), (b, .obuf wr sz ((xs.drop off).take len ++ ys))] })
         | _ => .no
       | .sc (.slice none 0 0) => .asrt (ys.length * bytes ≤ 2 ^ 40 ∧ ys.length ≤ 2 ^ 40) (.ret { v := .hd b 0 ys.length, os := [(b, ab8 op true sz ys)] })
       | _ => .no)
  | .appendS e x y => .str (ρ y) fun t =>
      (match ρ x with
       | .hd a off len => .rd a fun
         | .typ e' (.buf wr s xs) => .asrt (e' = e ∧ s = 1 ∧ off = 0 ∧ (len = xs.length ∨ wr = true) ∧ len + t.size ≤ 2 ^ 40)
           (.ret { v := .hd b 0 (len + t.size), os := [(a, .dead), (b, .typ e (.buf wr 1 (xs.take len ++ t.data.toList.map fun c => .sc (.int .u8 c.toNat))))] })
         | _ => .no
       | .sc (.slice none 0 0) => .asrt (t.size ≤ 2 ^ 40) (.ret { v := .hd b 0 t.size, os := [(b, .typ e (.buf true 1 (t.data.toList.map fun c => .sc (.int .u8 c.toNat))))] })
       | _ => .no)
  | .copy sz x y => .slice (ρ y) sz fun ys => .asrt (∀ y ∈ ys, y.cells.length = sz) <|
      (match ρ x with
       | .hd a off len => .rd a fun
         | .buf true s xs => .asrt (s = sz ∨ xs = []) (.ret { v := .int (min ys.length len : Nat), os := [(a, .buf true s (xs.take off ++ ys.take (min ys.length len) ++ xs.drop (off + min ys.length len)))] })
         | _ => .no
       | _ => .no)
  | .mm mx xs => match xs.map ρ with
     | .sc (.int k n) :: rest => if rest.all (Ug k) then
         .ret { v := .sc (.int k (rest.foldl (yE mx) n)) } else .no
     | _ => .no
  | .mkif _ => .ret { v := .nn }
  | .allocT T vs => .ret { v := .ptr b 0, os := [(b, .typ T (.box true (vs.map V.ofV)))] }
structure St where
  t : Nat → V
  o : Nat → Option Ob
  n : Nat
def upd {α : Type} (f : Nat → α) (a : Nat) (v : α) : Nat → α := fun b => if b = a then v else f b
def St.ev (s : St) : Opd → V
  | .t i => s.t i
  | .c v => v
def Uh (o : Nat → Option Ob) : List (Nat × Ob) → Nat → Option Ob
  | [] => o
  | (a, x) :: r => Uh (upd o a (some x)) r
def St.put (s : St) (d : Option Nat) (v : V) : St := match d with | some d => { s with t := upd s.t d v } | none => s
def St.eff (s : St) (d : Option Nat) (e : E) : St := { s.put d e.v with o := Uh s.o e.os }
end Av
end
section
namespace Av
open Go
def Jl (P : Program) (t : TypeId) : Option Nat := (P.info? t).map (·.size)
def KW (P : Program) (t : TypeId) : Option Nat := (P.info? t).map (·.bytes)
def VO (P : Program) (t : TypeId) : Option Value := (P.info? t).bind (·.zero)
def qj (P : Program) (t : TypeId) : Option Bool := (P.underlying t).map fun | .struct _ | .array .. => true | _ => false
def xK (P : Program) : Nat → TypeId → Option (List (Option Nat))
  | 0, _ => none
  | d + 1, t =>
    match P.underlying t with
    | some (.struct fs) => fs.toList.foldr (fun f acc => match xK P d f.type, acc with | some a, some b => some (a ++ b) | _, _ => none) (some [])
    | some (.array n e) => (xK P d e).map fun a => (List.replicate n a).flatten
    | some (.slice e) => (Jl P e).map fun s => [some s]
    | some _ => some [none]
    | none => none
def zc : Value → Option Nat → ZC
  | .slice none 0 0, some s => .nil s
  | v, _ => .val v
def zcs : List Value → List (Option Nat) → List ZC
  | [], _ => []
  | v :: vs, [] => .val v :: zcs vs []
  | v :: vs, s :: ss => zc v s :: zcs vs ss
def ZC.value : ZC → Value
  | .val v => v
  | .nil _ => .slice none 0 0
theorem yp (vs : List Value) (ss : List (Option Nat)) : (zcs vs ss).map ZC.value = vs := by
  induction vs generalizing ss with
  | nil => simp [zcs]
  | cons v vs ih =>
    cases ss with
    | nil => simp [zcs, ih, ZC.value]
    | cons s ss =>
      simp only [zcs, List.map_cons, ih, List.cons.injEq, and_true]
      unfold zc
      split <;> rfl
def cst : Value → Option V
  | .agg _ | .tuple _ => none
  | v => some (V.ofV v)
def opd : Operand → Option Opd
  | .tmp t => some (.t t)
  | .const v => (cst v).map .c
  | .func f => some (.c (.clo (.n f) []))
  | .global _ => none
def vN : Option Operand → Option (Option Opd)
  | none => some none
  | some x => (opd x).map some
def opds : List Operand → Option (List Opd)
  | [] => some []
  | x :: xs => match opd x, opds xs with | some a, some b => some (a :: b) | _, _ => none
def acH (rec : TypeId → Option (List Nat)) (P : Program) : List Field → Nat → Option (List Nat)
  | [], _ => some []
  | f :: r, off =>
    if f.offset = off ∧ f.name ≠ "_" then
      match rec f.type with
      | some a => if Jl P f.type = some a.length then (acH rec P r (off + a.length)).map (a ++ ·) else none
      | none => none
    else none
def UN (P : Program) : Nat → TypeId → Option (List Nat)
  | 0, _ => none
  | d + 1, t =>
    match P.underlying t with
    | some (.struct fs) => if P.stoodInHeld t then none else acH (UN P d) P fs.toList 0
    | some (.int _) => some [0]
    | some .string => some [1]
    | some .bool => some [2]
    | _ => none
def jG (P : Program) (fs : Array Field) : List (Nat × Operand) → Option (List (Nat × Nat × Opd))
  | [] => some []
  | (i, x) :: r => match fs[i]?, opd x, jG P fs r with
    | some f, some x', some r' => (match Jl P f.type with | some s => some ((f.offset, s, x') :: r') | none => none)
    | _, _, _ => none
def jH (sz : Nat) : List (Nat × Operand) → Option (List (Nat × Nat × Opd))
  | [] => some []
  | (i, x) :: r => match opd x, jH sz r with
    | some x', some r' => some ((i * sz, sz, x') :: r')
    | _, _ => none
def qB : List (Nat × Operand) → Option (List (Nat × Opd))
  | [] => some []
  | (i, x) :: r => match opd x, qB r with | some x', some r' => some ((i, x') :: r') | _, _ => none
def abz : Operand → Bool
  | .const (.slice none 0 0) => true
  | _ => false
def abA : Operand → Bool
  | .const .nilIface => true
  | _ => false
def aaa (P : Program) (t : TypeId) : Bool := match P.underlying t with
  | some (.struct fs) => (match fs.toList with | [f, _] => f.name == "addr" && (match P.underlying f.type with | some (.pointer u) => u == t | _ => false) | _ => false)
  | _ => false
def adb (P : Program) (t : TypeId) : Bool := match xK P 20 t with | some l => l.any (·.isSome) | none => false
def VL (P : Program) (op : Op) (ty : TypeId) : Option AOp :=
  match op with
  | .move x | .assign x =>
    (match x, P.underlying ty with
     | .const (.slice none 0 0), some (.slice e) => (Jl P e).map .mknil
     | _, _ => (opd x).map .mov)
  | .pick c a b => match opd c, opd a, opd b with | some c, some a, some b => some (.pick c a b) | _, _, _ => none
  | .alloc t => if aaa P t then (match VO P t, Jl P t with
    | some z, some n => if z.cells.size = n ∧ z.cells.toList.all (·.oneCell') then some (.allocT t z.cells.toList) else none
    | _, _ => none) else match VO P t, xK P 20 t, Jl P t with
    | some z, some ss, some n => if z.cells.size = n ∧ n < 900 ∧ z.cells.toList.all (·.oneCell') then some (.alloc (zcs z.cells.toList ss)) else none
    | _, _, _ => none
  | .box t x => match qj P t, Jl P t, opd x with | some g, some s, some x => some (.box g s x) | _, _, _ => none
  | .build t ps => match VO P t, P.underlying t with
    | some z, some (.struct fs) => if fs.all (fun f => (Jl P f.type).isSome) ∧ z.cells.toList.all (·.oneCell') then (jG P fs ps.toList).map (.build z.cells.toList) else none
    | some z, some (.array _ e) => (match Jl P e with | some s => if z.cells.toList.all (·.oneCell') then (jH s ps.toList).map (.build z.cells.toList) else none | none => none)
    | _, _ => none
  | .buildSlice t n ps => match P.underlying t with
    | some (.slice e) => (match Jl P e, qj P e, VO P e, qB ps.toList with
      | some s, some g, some z, some ps => if n * s ≤ 2 ^ 24 ∧ 1 ≤ s ∧ z.cells.size = s ∧ (g = false → s = 1) ∧ z.cells.toList.all (·.oneCell') then some (if adb P e then .obslice n s g z.cells.toList ps else .bslice n s g z.cells.toList ps) else none
      | _, _, _, _ => none)
    | _ => none
  | .load t a => match qj P t, Jl P t, opd a with | some g, some s, some a => some (.load g s a) | _, _, _ => none
  | .store t a x => match Jl P t, opd a, opd x with | some s, some a, some x => some (.store s a x) | _, _, _ => none
  | .nilCheck x => (opd x).map .nilck
  | .binOp op t x y _ => match P.underlying t, opd x, opd y with
    | some (.int _), some x, some y => some (.bin op x y)
    | some .string, some x, some y => some (.bin op x y)
    | some .bool, some x, some y => (match op with | .eql => some (.eqb false x y) | .neq => some (.eqb true x y) | _ => none)
    | some (.struct _), some x, some y => (match UN P 20 t with
      | some ks => if P.eqGuardType P.depth t = true ∨ Jl P t ≠ some ks.length then none else (match op with | .eql => some (.eqagg false ks x y) | .neq => some (.eqagg true ks x y) | _ => none)
      | none => none)
    | some (.slice _), some x', some _ => if abz y then (match op with | .eql => some (.isnil false x') | .neq => some (.isnil true x') | _ => none) else none
    | some (.interface _), some x', some _ => if abA y then (match op with | .eql => some (.isnilI false x') | .neq => some (.isnilI true x') | _ => none) else none
    | _, _, _ => none
  | .unOp op _ x => (opd x).map (.un op)
  | .convert s d x => match P.underlying s, P.underlying d, opd x with
    | some (.int _), some (.int k), some x => some (.convI k x)
    | some .string, some .string, some x => some (.idS x)
    | some .string, some (.slice e), some x => (match P.underlying e, Jl P e with | some (.int .u8), some 1 => some (.convSB x) | _, _ => none)
    | some (.slice e), some .string, some x => (match P.underlying e with | some (.int .u8) => some (.convBS x) | _ => none)
    | _, _, _ => none
  | .makeFunc (.func f) first cap => if first.isEmpty then (opds cap.toList).map (.mkfn (.n f)) else if cap.isEmpty then (opds first.toList).map (.mkfn (.m f)) else none
  | .makeSlice t l c => match P.underlying t with
    | some (.slice e) => (match Jl P e, KW P e, qj P e, VO P e, opd l, opd c with
      | some s, some by_, some g, some z, some l, some c => if 1 ≤ s ∧ z.cells.size = s ∧ (g = false → s = 1) ∧ z.cells.toList.all (·.oneCell') then some (.mkslice s by_ g z.cells.toList l c) else none
      | _, _, _, _, _, _ => none)
    | _ => none
  | .slice t x lo hi mx => match P.underlying t, opd x, vN lo, vN hi, mx with
    | some .string, some x, some lo, some hi, none => some (.slstr x lo hi)
    | some (.slice e), some x, some lo, some hi, none => (Jl P e).map fun s => .slsl s x lo hi
    | _, _, _, _, _ => none
  | .fieldAddr t x i => match P.underlying t, opd x with
    | some (.struct fs), some x => (match fs[i]? with
      | some f => (match Jl P f.type with | some (_ + 1) => some (.faddr f.offset x) | _ => none)
      | none => none)
    | _, _ => none
  | .field t x i => match P.underlying t, opd x with
    | some (.struct fs), some x => (match fs[i]? with
      | some f => (match qj P f.type, Jl P f.type with | some g, some s => some (.fld g f.offset s x) | _, _ => none)
      | none => none)
    | _, _ => none
  | .indexAddr t x i => match P.underlying t, opd x, opd i with
    | some (.slice e), some x, some i => (Jl P e).map fun s => .iaddr s x i
    | some (.array n e), some x, some i => if 2 ≤ n then (Jl P e).map fun s => .iaddrA n s x i else none
    | _, _, _ => none
  | .index t x i => match P.underlying t, opd x, opd i with
    | some .string, some x, some i => some (.idxS x i)
    | some (.array n e), some x, some i => (match qj P e, Jl P e with | some g, some s => some (.idxA g n s x i) | _, _ => none)
    | _, _, _ => none
  | .extract x i => (opd x).map fun x => .ext x i
  | .call c => match c.callee, opds c.args.toList with
    | .value (.func f), some as => some (.call f as)
    | .value x, some as => (opd x).map fun x => .callv x as
    | .builtin .len, some [x] => (match (c.argTypes[0]?).bind P.underlying with
      | some .string => some (.lenS x)
      | some (.slice _) => some (.lenL x)
      | some (.array n _) => some (.lenC n x)
      | _ => none)
    | .builtin .append, some [x, y] => (match (c.argTypes[0]?).bind P.underlying, (c.argTypes[1]?).bind P.underlying with
      | some (.slice e), some (.slice _) => (match Jl P e, KW P e, VO P e with
        | some s, some by_, some z => if 1 ≤ s ∧ 1 ≤ by_ ∧ by_ ≤ 2 ^ 20 ∧ z.cells.size = s ∧ z.cells.toList.all (·.oneCell') then some (.append s by_ z.cells.toList x y) else none
        | _, _, _ => none)
      | some (.slice e), some .string => (match Jl P e, KW P e, VO P e with
        | some 1, some 1, some z => if z.cells.size = 1 ∧ z.cells.toList.all (·.oneCell') then some (.appendS e x y) else none
        | _, _, _ => none)
      | _, _ => none)
    | .builtin .copy, some [x, y] => (match (c.argTypes[0]?).bind P.underlying with
      | some (.slice e) => (Jl P e).map fun s => .copy s x y
      | _ => none)
    | .builtin .max, some (x :: xs) => some (.mm true (x :: xs))
    | .builtin .min, some (x :: xs) => some (.mm false (x :: xs))
    | _, _ => none
  | .makeInterface t x => match P.underlying t, opd x with
    | some (.interface _), _ => none
    | some _, some x => some (.mkif x)
    | _, _ => none
  | _ => none
structure AO where
  d : Option Nat
  op : AOp
  g : Option (Nat × Bool) := none
def KU (ops : Array Oper) : Option (Nat × Bool) → Option (Option (Nat × Bool))
  | none => some none
  | some (j, want) => match (ops[j]?).bind (·.dst) with | some s => some (some (s, want)) | none => none
def wZ (P : Program) (n : Nat) (ops : Array Oper) (o : Oper) : Option AO :=
  match VL P o.op o.type, KU ops o.guard with
  | some a, some g => if (match o.dst with | some d => decide (d < n) | none => true) then some { d := o.dst, op := a, g } else none
  | _, _ => none
def yW (P : Program) (n : Nat) (ops : Array Oper) : List Oper → Option (List AO)
  | [] => some []
  | o :: r => match wZ P n ops o, yW P n ops r with | some a, some b => some (a :: b) | _, _ => none
inductive AC where
  | skip
  | reg (ops : List AO)
  | regD (ops : List AO) (ahead : List (List Nat))
  | seq (a b : AC)
  | cond (c : Opd) (a b : AC)
  | block (id : Nat) (a : AC)
  | loop (a : AC)
  | exit (id : Nat)
  | ret
def jd (ops : Array Oper) : List (List Nat) := ops.toList.map fun o => (o.after.toList.filter (Region.binds .any)).map (·.on)
def V3 (P : Program) (n : Nat) : Code → Option AC
  | .skip => some .skip
  | .region _ ops draw => (yW P n ops ops.toList).map fun l => if draw then .regD l (jd ops) else .reg l
  | .seq a b => match V3 P n a, V3 P n b with | some a, some b => some (.seq a b) | _, _ => none
  | .cond c a b => match opd c, V3 P n a, V3 P n b with | some c, some a, some b => some (.cond c a b) | _, _, _ => none
  | .block i a => (V3 P n a).map (.block i)
  | .loop a => (V3 P n a).map .loop
  | .exit i => some (.exit i)
  | .ret => some .ret
  | _ => none
end Av
end
section
namespace Av
open Go
structure Ctx where
  P : Program
  w0 : World
  Z0 : Nat → Nat → Prop
  F : Nat → Prop
  m : Nat
  μ0 : Nat → Option Cn
  kn : Nat → Option Obj := fun _ => none
  mix : P.follows .mixedOrders = true
  hkn : ∀ b x, kn b = some x → w0.heap[b]? = some x ∧ ¬ F b := by intro _ _ h; cases h
structure Env where
  P : Program
  kn : Nat → Option Obj
def Ctx.env (C : Ctx) : Env := ⟨C.P, C.kn⟩
def V7 (w w' : World) : Prop := w'.os = w.os ∧ w'.tape = w.tape ∧ w'.output = w.output
theorem V7.refl (w : World) : V7 w w := ⟨rfl, rfl, rfl⟩
theorem V7.trans {w w1 w2 : World} (h : V7 w w1) (h' : V7 w1 w2) : V7 w w2 := ⟨h'.1.trans h.1, h'.2.1.trans h.2.1, h'.2.2.trans h.2.2⟩
structure Good (C : Ctx) (w : World) (Z : Nat → Nat → Prop) (μ : Nat → Option Cn) (o : Nat → Option Ob) : Prop where
  ob : ∀ a x, o a = some x → ∃ c, μ a = some c ∧ Up w Z μ c x ∧ (x.live c → c.block < w.heap.size ∧ (C.w0.heap.size ≤ c.block ∨ C.F c.block))
  sep : ∀ a b x y c d, a ≠ b → o a = some x → o b = some y → μ a = some c → μ b = some d → x.live c → y.live d → c.block ≠ d.block
  zlt : ∀ b i, Z b i → b < w.heap.size
  grow : C.w0.heap.size ≤ w.heap.size
  frame : ∀ b, b < C.w0.heap.size → ¬ C.F b → w.heap[b]? = C.w0.heap[b]?
  zsub : ∀ b i, Z b i → C.Z0 b i ∨ C.w0.heap.size ≤ b ∨ C.F b
  zsup : ∀ b i, C.Z0 b i → Z b i
  zkeep : ∀ b i, C.Z0 b i → w.cell? ⟨b, i, none⟩ = C.w0.cell? ⟨b, i, none⟩
  fix : ∀ k, k < C.m → μ k = C.μ0 k
  oo : V7 C.w0 w
structure Evo (b K : Nat) (w : World) (Z : Nat → Nat → Prop) (μ : Nat → Option Cn) (w' : World) (Z' : Nat → Nat → Prop) (μ' : Nat → Option Cn) : Prop where
  cell : ∀ x i, Z x i → w'.cell? ⟨x, i, none⟩ = w.cell? ⟨x, i, none⟩
  zs : ∀ x i, Z x i → Z' x i
  mu : ∀ a c, μ a = some c → μ' a = some c
  nw : ∀ a, a < b ∨ b + K ≤ a → μ' a = μ a
theorem Evo.refl {b K : Nat} {w : World} {Z : Nat → Nat → Prop} {μ : Nat → Option Cn} : Evo b K w Z μ w Z μ :=
  ⟨fun _ _ _ => rfl, fun _ _ h => h, fun _ _ h => h, fun _ _ => rfl⟩
theorem Evo.trans {b K : Nat} {w w1 w2 : World} {Z Z1 Z2 : Nat → Nat → Prop} {μ μ1 μ2 : Nat → Option Cn}
    (h : Evo b K w Z μ w1 Z1 μ1) (h' : Evo b K w1 Z1 μ1 w2 Z2 μ2) : Evo b K w Z μ w2 Z2 μ2 :=
  ⟨fun x i hz => (h'.cell x i (h.zs x i hz)).trans (h.cell x i hz), fun x i hz => h'.zs x i (h.zs x i hz), fun a c hm => h'.mu a c (h.mu a c hm),
    fun a ha => (h'.nw a ha).trans (h.nw a ha)⟩
theorem Evo.rep {b K : Nat} {w w' : World} {Z Z' : Nat → Nat → Prop} {μ μ' : Nat → Option Cn} (h : Evo b K w Z μ w' Z' μ') {v : Value} {x : V}
    (hr : Rep w Z μ v x) : Rep w' Z' μ' v x := hr.mono h.cell h.zs h.mu
theorem Qh {α : Type} (f : Nat → α) (a : Nat) (v : α) : upd f a v a = v := by simp [upd]
theorem QI {α : Type} (f : Nat → α) {a b : Nat} (v : α) (h : b ≠ a) : upd f a v b = f b := by simp [upd, h]
theorem Wq {μ : Nat → Option Cn} {x : Nat} {c : Cn} (hx : μ x = none) : ∀ a d, μ a = some d → upd μ x (some c) a = some d := by
  intro a d h
  rw [QI]
  · exact h
  · rintro rfl; rw [hx] at h; cases h
section
variable {C : Ctx} {w : World} {Z : Nat → Nat → Prop} {μ : Nat → Option Cn} {o : Nat → Option Ob}
theorem Good.heap (h : Good C w Z μ o) {w' : World} (hw : w'.heap = w.heap) (ho : V7 w w' := by exact ⟨rfl, rfl, rfl⟩) : Good C w' Z μ o := by
  have hc : ∀ a, w'.cell? a = w.cell? a := fun a => by simp [World.cell?, hw]
  refine ⟨fun a x ha => ?_, h.sep, fun b i hz => by rw [hw]; exact h.zlt b i hz, by rw [hw]; exact h.grow, fun b hb hf => by rw [hw]; exact h.frame b hb hf,
    h.zsub, h.zsup, fun b i hz => (hc _).trans (h.zkeep b i hz), h.fix, h.oo.trans ho⟩
  obtain ⟨c, hm, hok, hl⟩ := h.ob a x ha
  refine ⟨c, hm, hok.mono (fun b i _ => hc _) (fun _ _ hz => hz) (fun _ _ h => h) (fun _ => by rw [hw]) (fun _ _ h => h), fun hx => by rw [hw]; exact hl hx⟩
theorem Evo.heap {b K : Nat} {w' : World} (hw : w'.heap = w.heap) : Evo b K w Z μ w' Z μ :=
  ⟨fun x i _ => by simp [World.cell?, hw], fun _ _ h => h, fun _ _ h => h, fun _ _ => rfl⟩
theorem Good.free (h : Good C w Z μ o) {x : Nat} (hx : μ x = none) : o x = none := by
  cases ho : o x with
  | none => rfl
  | some y => obtain ⟨c, hm, _⟩ := h.ob x y ho; rw [hx] at hm; cases hm
theorem Vq {ob : Obj} {b : Nat} (hb : b < w.heap.size) : (w.alloc ob).heap[b]? = w.heap[b]? := by
  simp only [World.alloc, Array.getElem?_push]
  rw [if_neg (by omega)]
theorem heap_alloc_new {ob : Obj} : (w.alloc ob).heap[w.heap.size]? = some ob := by
  simp only [World.alloc, Array.getElem?_push_size]
theorem Ya {ob : Obj} {b i : Nat} (hb : b < w.heap.size) : (w.alloc ob).cell? ⟨b, i, none⟩ = w.cell? ⟨b, i, none⟩ :=
  World.cell?_alloc_lt w ob ⟨b, i, none⟩ hb
theorem Evo.alloc {b K : Nat} (hz : ∀ x i, Z x i → x < w.heap.size) {ob : Obj} {x : Nat} {c : Cn} (hx : μ x = none) (hb : b ≤ x) (hk : x < b + K) :
    Evo b K w Z μ (w.alloc ob) Z (upd μ x (some c)) :=
  ⟨fun y i h => Ya (hz y i h), fun _ _ h => h, Wq hx, fun a ha => QI _ _ (by omega)⟩
theorem Good.alloc (h : Good C w Z μ o) {ob : Obj} {x : Nat} {c : Cn} {y : Ob} (hx : μ x = none) (hc : c.block = w.heap.size) (hm : C.m ≤ x)
    (hob : Up (w.alloc ob) Z (upd μ x (some c)) c y) : Good C (w.alloc ob) Z (upd μ x (some c)) (upd o x (some y)) := by
  have hox := h.free hx
  refine ⟨fun a z ha => ?_, fun a b p q d e hab hp hq hd he lp lq => ?_, fun b i hz => by have := h.zlt b i hz; simp; omega, by have := h.grow; simp; omega,
    fun b hb hf => ?_, h.zsub, h.zsup, fun b i hz => ?_, fun k hk => ?_, h.oo.trans ⟨rfl, rfl, rfl⟩⟩
  · by_cases hax : a = x
    · subst hax
      rw [Qh] at ha; cases ha
      exact ⟨c, Qh _ _ _, hob, fun _ => ⟨by simp; omega, .inl (by rw [hc]; exact h.grow)⟩⟩
    · rw [QI _ _ hax] at ha
      obtain ⟨d, hd, hok, hl⟩ := h.ob a z ha
      refine ⟨d, by rw [QI _ _ hax]; exact hd, hok.mono (fun b i hz => Ya (h.zlt b i hz)) (fun _ _ h => h) (Wq hx) (fun hlz => Vq (hl hlz).1) (fun _ _ h => h), fun hlz => ⟨?_, (hl hlz).2⟩⟩
      have := (hl hlz).1; simp; omega
  · by_cases hax : a = x
    · subst hax
      rw [Qh] at hd; cases hd
      have hbx : b ≠ a := fun e => hab e.symm
      rw [QI _ _ hbx] at hq he
      obtain ⟨e', he', _, hl⟩ := h.ob b q hq
      rw [he] at he'; cases he'
      have := (hl lq).1; omega
    · rw [QI _ _ hax] at hp hd
      by_cases hbx : b = x
      · subst hbx
        rw [Qh] at he; cases he
        obtain ⟨e', he', _, hl⟩ := h.ob a p hp
        rw [hd] at he'; cases he'
        have := (hl lp).1; omega
      · rw [QI _ _ hbx] at hq he
        exact h.sep a b p q d e hab hp hq hd he lp lq
  · have := h.grow
    rw [Vq (by omega)]; exact h.frame b hb hf
  · rw [Ya (h.zlt b i (h.zsup b i hz))]; exact h.zkeep b i hz
  · rw [QI _ _ (by omega)]; exact h.fix k hk
theorem Good.nil (h : Good C w Z μ o) {x sz : Nat} (hx : μ x = none) (hm : C.m ≤ x) :
    Good C w Z (upd μ x (some { block := 0, void := true })) (upd o x (some (.buf true sz []))) := by
  refine ⟨fun a z ha => ?_, fun a b p q d e hab hp hq hd he lp lq => ?_, h.zlt, h.grow, h.frame, h.zsub, h.zsup, h.zkeep, fun k hk => ?_, h.oo⟩
  · by_cases hax : a = x
    · subst hax
      rw [Qh] at ha; cases ha
      exact ⟨_, Qh _ _ _, ⟨rfl, fun hv => by simp at hv⟩, fun hl => by simp [Ob.live] at hl⟩
    · rw [QI _ _ hax] at ha
      obtain ⟨d, hd, hok, hl⟩ := h.ob a z ha
      exact ⟨d, by rw [QI _ _ hax]; exact hd, hok.mono (fun _ _ _ => rfl) (fun _ _ h => h) (Wq hx) (fun _ => rfl) (fun _ _ h => h), hl⟩
  · by_cases hax : a = x
    · subst hax
      rw [Qh] at hp hd; cases hp; cases hd; simp [Ob.live] at lp
    · by_cases hbx : b = x
      · subst hbx
        rw [Qh] at hq he; cases hq; cases he; simp [Ob.live] at lq
      · rw [QI _ _ hax] at hp hd
        rw [QI _ _ hbx] at hq he
        exact h.sep a b p q d e hab hp hq hd he lp lq
  · rw [QI _ _ (by omega)]; exact h.fix k hk
theorem Evo.name {b K : Nat} {x : Nat} {c : Cn} (hx : μ x = none) (hb : b ≤ x) (hk : x < b + K) : Evo b K w Z μ w Z (upd μ x (some c)) :=
  ⟨fun _ _ _ => rfl, fun _ _ h => h, Wq hx, fun a ha => QI _ _ (by omega)⟩
theorem Good.write (h : Good C w Z μ o) {w' : World} {a : Nat} {x x' : Ob} {c : Cn} (ha : o a = some x) (hm : μ a = some c) (hl : x.live c)
    (hw : ∀ b, b ≠ c.block → w'.heap[b]? = w.heap[b]?) (hs : w'.heap.size = w.heap.size)
    (hz : ∀ i, Z c.block i → w'.cell? ⟨c.block, i, none⟩ = w.cell? ⟨c.block, i, none⟩) (hob : Up w' Z μ c x') (hoo : V7 w w' := by exact ⟨rfl, rfl, rfl⟩) :
    Good C w' Z μ (upd o a (some x')) := by
  obtain ⟨c', hm', _, hlive⟩ := h.ob a x ha
  rw [hm] at hm'; cases hm'
  have hcell : ∀ b i, Z b i → w'.cell? ⟨b, i, none⟩ = w.cell? ⟨b, i, none⟩ := by
    intro b i hzb
    by_cases hb : b = c.block
    · subst hb; exact hz i hzb
    · simp [World.cell?, hw b hb]
  refine ⟨fun b z hb => ?_, fun b d p q e f hbd hp hq he hf lp lq => ?_, fun b i hzb => by rw [hs]; exact h.zlt b i hzb, by rw [hs]; exact h.grow,
    fun b hb hf => ?_, h.zsub, h.zsup, fun b i hzb => (hcell b i (h.zsup b i hzb)).trans (h.zkeep b i hzb), h.fix, h.oo.trans hoo⟩
  · by_cases hba : b = a
    · subst hba
      rw [Qh] at hb; cases hb
      exact ⟨c, hm, hob, fun _ => by rw [hs]; exact hlive hl⟩
    · rw [QI _ _ hba] at hb
      obtain ⟨d, hd, hok, hl'⟩ := h.ob b z hb
      refine ⟨d, hd, hok.mono hcell (fun _ _ h => h) (fun _ _ h => h) (fun lz => hw _ ?_) (fun _ _ h => h), fun lz => by rw [hs]; exact hl' lz⟩
      exact h.sep b a z x d c hba hb ha hd hm lz hl
  · have live : ∀ {b p e}, upd o a (some x') b = some p → μ b = some e → p.live e → ∃ p', o b = some p' ∧ p'.live e := by
      intro b p e hp he lp
      by_cases hba : b = a
      · subst hba; rw [hm] at he; cases he; exact ⟨x, ha, hl⟩
      · rw [QI _ _ hba] at hp; exact ⟨p, hp, lp⟩
    obtain ⟨p', hp', lp'⟩ := live hp he lp
    obtain ⟨q', hq', lq'⟩ := live hq hf lq
    exact h.sep b d p' q' e f hbd hp' hq' he hf lp' lq'
  · by_cases hbc : b = c.block
    · subst hbc
      rcases (hlive hl).2 with h1 | h1
      · omega
      · exact (hf h1).elim
    · rw [hw b hbc]; exact h.frame b hb hf
theorem Good.kill (h : Good C w Z μ o) {a : Nat} {x : Ob} (ha : o a = some x) : Good C w Z μ (upd o a (some .dead)) := by
  refine ⟨fun b z hb => ?_, fun b d p q e f hbd hp hq he hf lp lq => ?_, h.zlt, h.grow, h.frame, h.zsub, h.zsup, h.zkeep, h.fix, h.oo⟩
  · by_cases hba : b = a
    · subst hba
      rw [Qh] at hb; cases hb
      obtain ⟨c, hm, _⟩ := h.ob b x ha
      exact ⟨c, hm, trivial, fun hl => hl.elim⟩
    · rw [QI _ _ hba] at hb; exact h.ob b z hb
  · by_cases hba : b = a
    · subst hba; rw [Qh] at hp; cases hp; exact lp.elim
    · by_cases hda : d = a
      · subst hda; rw [Qh] at hq; cases hq; exact lq.elim
      · rw [QI _ _ hba] at hp; rw [QI _ _ hda] at hq
        exact h.sep b d p q e f hbd hp hq he hf lp lq
theorem Good.pass (h : Good C w Z μ o) {w' : World} {a n : Nat} {x x' : Ob} {c c' : Cn} (ha : o a = some x) (hm : μ a = some c) (hl : x.live c)
    (hn : μ n = none) (hnm : C.m ≤ n) (hcc : c'.block = c.block)
    (hw : ∀ b, b ≠ c.block → w'.heap[b]? = w.heap[b]?) (hs : w'.heap.size = w.heap.size)
    (hz : ∀ i, Z c.block i → w'.cell? ⟨c.block, i, none⟩ = w.cell? ⟨c.block, i, none⟩) (hob : Up w' Z (upd μ n (some c')) c' x') (hoo : V7 w w' := by exact ⟨rfl, rfl, rfl⟩) :
    Good C w' Z (upd μ n (some c')) (upd (upd o a (some .dead)) n (some x')) := by
  have g := (h.write (x' := .dead) ha hm hl hw hs hz trivial hoo)
  have hna : n ≠ a := by rintro rfl; rw [hn] at hm; cases hm
  have hon := h.free hn
  obtain ⟨c1, hm1, _, hlive⟩ := h.ob a x ha
  rw [hm] at hm1; cases hm1
  refine ⟨fun b z hb => ?_, fun b d p q e f hbd hp hq he hf lp lq => ?_, g.zlt, g.grow, g.frame, g.zsub, g.zsup, g.zkeep, fun k hk => ?_, g.oo⟩
  · by_cases hbn : b = n
    · subst hbn
      rw [Qh] at hb; cases hb
      exact ⟨c', Qh _ _ _, hob, fun _ => by rw [hs, hcc]; exact hlive hl⟩
    · rw [QI _ _ hbn] at hb
      obtain ⟨d, hd, hok, hl'⟩ := g.ob b z hb
      exact ⟨d, by rw [QI _ _ hbn]; exact hd, hok.mono (fun _ _ _ => rfl) (fun _ _ h => h) (Wq hn) (fun _ => rfl) (fun _ _ h => h), hl'⟩
  · have key : ∀ {b p e}, b ≠ n → upd (upd o a (some .dead)) n (some x') b = some p → upd μ n (some c') b = some e → p.live e → c.block ≠ e.block := by
      intro b p e hbn hp he lp
      rw [QI _ _ hbn] at hp he
      by_cases hba : b = a
      · subst hba; rw [Qh] at hp; cases hp; exact lp.elim
      · rw [QI _ _ hba] at hp
        exact (h.sep a b x p c e (fun e => hba e.symm) ha hp hm he hl lp)
    by_cases hbn : b = n
    · subst hbn
      rw [Qh] at he; cases he
      rw [hcc]; exact key (fun e => hbd e.symm) hq hf lq
    · by_cases hdn : d = n
      · subst hdn
        rw [Qh] at hf; cases hf
        rw [hcc]; exact fun e' => key hbn hp he lp e'.symm
      · rw [QI _ _ hbn] at hp he
        rw [QI _ _ hdn] at hq hf
        exact g.sep b d p q e f hbd hp hq he hf lp lq
  · rw [QI _ _ (by omega)]; exact g.fix k hk
end
end Av
end
section
namespace Av
open Go
def Row (w : World) (Z : Nat → Nat → Prop) (μ : Nat → Option Cn) (g : Nat → Option Value) (sz : Nat) (xs : List V) : Prop :=
  ∀ i (h : i < xs.length), xs[i].cells.length = sz ∧ ∀ j (hj : j < xs[i].cells.length), ∃ u, g (i * sz + j) = some u ∧ u.oneCell' = true ∧ Rep w Z μ u xs[i].cells[j]
section
variable {w w' : World} {Z Z' : Nat → Nat → Prop} {μ μ' : Nat → Option Cn} {g g' : Nat → Option Value} {sz : Nat} {xs ys : List V}
theorem Row.mono (h : Row w Z μ g sz xs) (hr : ∀ v x, Rep w Z μ v x → Rep w' Z' μ' v x) : Row w' Z' μ' g sz xs :=
  fun i hi => ⟨(h i hi).1, fun j hj => let ⟨u, a, b, c⟩ := (h i hi).2 j hj; ⟨u, a, b, hr _ _ c⟩⟩
theorem Row.congr (h : Row w Z μ g sz xs) (hg : ∀ k, k < xs.length * sz → g' k = g k) : Row w Z μ g' sz xs := by
  intro i hi
  refine ⟨(h i hi).1, fun j hj => ?_⟩
  obtain ⟨u, a, b, c⟩ := (h i hi).2 j hj
  refine ⟨u, ?_, b, c⟩
  rw [hg]; exact a
  have h1 := (h i hi).1
  have : (i + 1) * sz ≤ xs.length * sz := Nat.mul_le_mul_right _ hi
  rw [Nat.add_mul] at this; omega
theorem Row.nil : Row w Z μ g sz [] := fun i hi => by simp at hi
theorem Row.drop (h : Row w Z μ g sz xs) (n : Nat) : Row w Z μ (fun k => g (n * sz + k)) sz (xs.drop n) := by
  intro i hi
  have hi' : n + i < xs.length := by simp at hi; omega
  have := h (n + i) hi'
  simp only [List.getElem_drop]
  refine ⟨this.1, fun j hj => ?_⟩
  obtain ⟨u, a, b, c⟩ := this.2 j hj
  exact ⟨u, by rw [← a]; congr 1; rw [Nat.add_mul]; omega, b, c⟩
theorem Row.take (h : Row w Z μ g sz xs) (n : Nat) : Row w Z μ g sz (xs.take n) := by
  intro i hi
  have hi' : i < xs.length := by simp at hi; omega
  simp only [List.getElem_take]
  exact h i hi'
theorem Row.append (h : Row w Z μ g sz xs) (h' : Row w Z μ (fun k => g (xs.length * sz + k)) sz ys) : Row w Z μ g sz (xs ++ ys) := by
  intro i hi
  by_cases hx : i < xs.length
  · simp only [List.getElem_append_left hx]; exact h i hx
  · have hx' : xs.length ≤ i := Nat.le_of_not_lt hx
    have hy : i - xs.length < ys.length := by simp at hi; omega
    have := h' (i - xs.length) hy
    simp only [List.getElem_append_right hx']
    refine ⟨this.1, fun j hj => ?_⟩
    obtain ⟨u, a, b, c⟩ := this.2 j hj
    refine ⟨u, ?_, b, c⟩
    rw [← a]
    have e : i = xs.length + (i - xs.length) := by omega
    have e2 : i * sz = xs.length * sz + (i - xs.length) * sz := by rw [← Nat.add_mul, ← e]
    rw [e2, Nat.add_assoc]
theorem Row.one {e : V} (hl : e.cells.length = sz) (h : ∀ j (hj : j < e.cells.length), ∃ u, g j = some u ∧ u.oneCell' = true ∧ Rep w Z μ u e.cells[j]) : Row w Z μ g sz [e] := by
  intro i hi
  have : i = 0 := by simp at hi; omega
  subst this
  refine ⟨hl, fun j hj => ?_⟩
  obtain ⟨u, a, b, c⟩ := h j hj
  exact ⟨u, by simpa using a, b, c⟩
theorem Row.set (h : Row w Z μ g sz xs) {i : Nat} {e : V} (hl : e.cells.length = sz)
    (h1 : ∀ j (hj : j < e.cells.length), ∃ u, g' (i * sz + j) = some u ∧ u.oneCell' = true ∧ Rep w Z μ u e.cells[j])
    (h2 : ∀ k, k < i * sz ∨ i * sz + sz ≤ k → g' k = g k) : Row w Z μ g' sz (xs.set i e) := by
  intro k hk
  simp only [List.length_set] at hk
  by_cases hki : i = k
  · subst hki; simp only [List.getElem_set_self]; exact ⟨hl, h1⟩
  · simp only [List.getElem_set_ne hki]
    refine ⟨(h k hk).1, fun j hj => ?_⟩
    obtain ⟨u, a, b, c⟩ := (h k hk).2 j hj
    refine ⟨u, ?_, b, c⟩
    rw [h2, a]
    have := (h k hk).1
    rcases Nat.lt_or_gt_of_ne hki with h3 | h3
    · right
      have : (i + 1) * sz ≤ k * sz := Nat.mul_le_mul_right _ h3
      rw [Nat.add_mul] at this; omega
    · left
      have : (k + 1) * sz ≤ i * sz := Nat.mul_le_mul_right _ h3
      rw [Nat.add_mul] at this; omega
theorem Rep.cells {v : Value} {x : V} (h : Rep w Z μ v x) (ht : x ≠ .top) (hu : ∀ vs, x ≠ .tup vs) :
    v.cells.size = x.cells.length ∧ ∀ j (hj : j < x.cells.length), ∃ u, v.cells[j]? = some u ∧ u.oneCell' = true ∧ Rep w Z μ u x.cells[j] := by
  cases h with
  | top => exact (ht rfl).elim
  | tup hl hr => exact (hu _ rfl).elim
  | agg hl ho hr =>
    refine ⟨by simpa [Value.cells, V.cells] using hl, fun j hj => ?_⟩
    simp only [V.cells] at hj
    exact ⟨_, Array.getElem?_eq_getElem (by rw [Value.cells]; omega), ho j (by omega), hr j hj (by omega)⟩
  | sc h =>
    have hv : v.cells = #[v] := by cases v <;> simp_all [Value.cells, Value.oneCell']
    refine ⟨by simp [hv, V.cells], fun j hj => ?_⟩
    simp [V.cells] at hj; subst hj
    exact ⟨v, by simp [hv], h, .sc h⟩
  | nn => exact ⟨rfl, fun j hj => by simp [V.cells] at hj; subst hj; exact ⟨_, rfl, rfl, .nn⟩⟩
  | sl0 => exact ⟨rfl, fun j hj => by simp [V.cells] at hj; subst hj; exact ⟨_, rfl, rfl, .sl0⟩⟩
  | sl f h0 h1 h2 h3 => exact ⟨rfl, fun j hj => by simp [V.cells] at hj; subst hj; exact ⟨_, rfl, rfl, .sl f h0 h1 h2 h3⟩⟩
  | hd h1 h2 =>
    have : ∃ a l c, v = .slice a l c := by
      unfold Hdr at h2; split at h2
      · exact ⟨_, _, _, h2.1⟩
      · obtain ⟨ad, h, _⟩ := h2; exact ⟨_, _, _, h⟩
    obtain ⟨a, l, c, rfl⟩ := this
    exact ⟨rfl, fun j hj => by simp [V.cells] at hj; subst hj; exact ⟨_, rfl, rfl, .hd h1 h2⟩⟩
  | ptr h => exact ⟨rfl, fun j hj => by simp [V.cells] at hj; subst hj; exact ⟨_, rfl, rfl, .ptr h⟩⟩
  | ept h1 h2 h3 => exact ⟨rfl, fun j hj => by simp [V.cells] at hj; subst hj; exact ⟨_, rfl, rfl, .ept h1 h2 h3⟩⟩
  | ro f h1 h2 => exact ⟨rfl, fun j hj => by simp [V.cells] at hj; subst hj; exact ⟨_, rfl, rfl, .ro f h1 h2⟩⟩
  | clo h1 h2 => exact ⟨rfl, fun j hj => by simp [V.cells] at hj; subst hj; exact ⟨_, rfl, rfl, .clo h1 h2⟩⟩
  | clm h1 h2 => exact ⟨rfl, fun j hj => by simp [V.cells] at hj; subst hj; exact ⟨_, rfl, rfl, .clm h1 h2⟩⟩
theorem V.small_ne {x : V} (h : x.small = true) : x ≠ .top ∧ (∀ vs, x ≠ .tup vs) ∧ x.cells = [x] := by
  cases x <;> simp_all [V.small, V.cells]
theorem Rep.small {v : Value} {x : V} (h : Rep w Z μ v x) (hx : x.small = true) : v.oneCell' = true ∧ v.cells = #[v] := by
  obtain ⟨h1, h2, h3⟩ := V.small_ne hx
  obtain ⟨hs, hc⟩ := h.cells h1 h2
  have : v.oneCell' = true := by
    obtain ⟨u, e1, e2, _⟩ := hc 0 (by simp [h3])
    cases v with
    | agg cs =>
      cases h with
      | top => exact (h1 rfl).elim
      | sc h => exact h
      | agg _ _ _ => simp [V.small] at hx
      | hd _ hv =>
        unfold Hdr at hv; split at hv
        · cases hv.1
        · obtain ⟨ad, h, _⟩ := hv; cases h
    | tuple cs =>
      cases h with
      | top => exact (h1 rfl).elim
      | sc h => exact h
      | tup _ _ => simp [V.small] at hx
      | hd _ hv =>
        unfold Hdr at hv; split at hv
        · cases hv.1
        · obtain ⟨ad, h, _⟩ := hv; cases h
    | _ => rfl
  refine ⟨this, ?_⟩
  cases v <;> simp_all [Value.cells, Value.oneCell']
end
theorem Xb (b o n : Nat) : (⟨b, o, none⟩ : Addr).add n = ⟨b, o + n, none⟩ := by
  unfold Addr.add; split <;> simp_all
section
variable {P : Program}
theorem jD {t : TypeId} {g : Bool} (h : qj P t = some g) (w : World) : (isAgg t).run P w = .ok g w := by
  unfold qj at h
  cases hu : P.underlying t with
  | none => simp [hu] at h
  | some d =>
    simp only [hu, Option.map_some, Option.some.injEq] at h
    unfold isAgg
    rw [Sem.run_bind, run_underlying hu w]
    cases d <;> simp_all
theorem Ji {t : TypeId} {n : Nat} (h : Jl P t = some n) (w : World) : (Go.sizeOf t).run P w = .ok n w := by
  unfold Jl at h
  cases hi : P.info? t with
  | none => simp [hi] at h
  | some i =>
    simp only [hi, Option.map_some, Option.some.injEq] at h
    simp [Go.sizeOf, typeInfo, hi, h]
theorem X8 {t : TypeId} {z : Value} (h : VO P t = some z) (w : World) : (zeroValue t).run P w = .ok z w := by
  unfold VO at h
  cases hi : P.info? t with
  | none => simp [hi] at h
  | some i =>
    simp only [hi, Option.bind_some] at h
    simp [zeroValue, typeInfo, hi, h]
theorem Ko {t : TypeId} {n : Nat} (h : KW P t = some n) (w : World) : ∃ i, (typeInfo t).run P w = .ok i w ∧ i.bytes = n := by
  unfold KW at h
  cases hi : P.info? t with
  | none => simp [hi] at h
  | some i =>
    simp only [hi, Option.map_some, Option.some.injEq] at h
    exact ⟨i, by simp [typeInfo, hi], h⟩
theorem WR {t : TypeId} {g : Bool} {n : Nat} (hg : qj P t = some g) (hn : Jl P t = some n) (w : World) (b o : Nat) (f : Nat → Value)
    (h : ∀ j, j < (if g then n else 1) → w.cell? ⟨b, o + j, none⟩ = some (f j)) :
    (loadVar t ⟨b, o, none⟩).run P w = .ok (if g then .agg ((List.range n).map f).toArray else f 0) w := by
  unfold loadVar
  simp only [Sem.run_bind, jD hg w, Result.andThen_ok]
  cases g with
  | true =>
    simp only [if_true, Sem.run_bind, Ji hn w, Result.andThen_ok]
    have := run_loadCells (P := P) w ⟨b, o, none⟩ n f (fun j hj => by rw [Xb]; exact h j (by simpa using hj))
    simp only [this, Result.andThen_ok, Sem.run_pure]
  | false =>
    have h0 := h 0 (by simp)
    simp only [Nat.add_zero] at h0
    simp [h0]
theorem YN (b : Nat) (t : TypeId) (fr : Nat × Nat) : ∀ (vs : List Value) (o i : Nat) (cur : Array Value) (w : World), w.heap[b]? = some (.cells cur t fr) →
    (∀ k, k < cur.size → ¬ (fr.1 ≤ k ∧ k < fr.2)) → o + i + vs.length ≤ cur.size → (∀ v ∈ vs, v.oneCell' = true) →
    ∃ cur', (storeCells ⟨b, o, none⟩ vs i).run P w = .ok () { w with heap := w.heap.setIfInBounds b (.cells cur' t fr) } ∧ cur'.size = cur.size ∧
      (∀ k, k < vs.length → cur'[o + i + k]? = vs[k]?) ∧ (∀ k, k < o + i ∨ o + i + vs.length ≤ k → cur'[k]? = cur[k]?)
  | [], o, i, cur, w, hb, _, _, _ => by
    refine ⟨cur, ?_, rfl, fun k hk => by simp at hk, fun _ _ => rfl⟩
    simp only [storeCells, Sem.run_pure]
    congr 1
    obtain ⟨hlt, he⟩ := Array.getElem?_eq_some_iff.1 hb
    have : w.heap.setIfInBounds b (.cells cur t fr) = w.heap := by
      apply Array.ext_getElem?
      intro k
      rw [Array.getElem?_setIfInBounds]
      split
      · rename_i hk; subst hk; exact hb.symm
      · rfl
    rw [this]
  | v :: rest, o, i, cur, w, hb, hfr, hl, h1 => by
    have hi : o + i < cur.size := by simp at hl; omega
    have hcell : w.cell? ⟨b, o + i, none⟩ = some cur[o + i] := by rw [cell?_of_heap hb]; exact Array.getElem?_eq_getElem hi
    have hfro : w.frozen? ⟨b, o + i, none⟩ = false := by
      rw [frozen?_of_heap hb]
      have := hfr (o + i) hi
      simp only [Bool.and_eq_false_iff, decide_eq_false_iff_not]
      omega
    have hset : w.setCell ⟨b, o + i, none⟩ v = { w with heap := w.heap.setIfInBounds b (.cells (cur.setIfInBounds (o + i) v) t fr) } := by
      unfold World.setCell
      congr 1
      apply Array.ext'
      apply List.ext_getElem?
      intro k
      simp only [Array.getElem?_toList, Array.getElem?_modify, Array.getElem?_setIfInBounds]
      obtain ⟨hlt, he⟩ := Array.getElem?_eq_some_iff.1 hb
      by_cases hk : b = k
      · subst hk; simp [hlt, he]
      · simp [hk]
    have hst : (store ((⟨b, o, none⟩ : Addr).add i) v).run P w = .ok () { w with heap := w.heap.setIfInBounds b (.cells (cur.setIfInBounds (o + i) v) t fr) } := by
      rw [Xb, run_store P w _ v _ (h1 v (by simp)), hcell]
      simp [hfro, hset]
    obtain ⟨hlt, _⟩ := Array.getElem?_eq_some_iff.1 hb
    obtain ⟨cur', e1, e2, e3, e4⟩ := YN b t fr rest o (i + 1) (cur.setIfInBounds (o + i) v) { w with heap := w.heap.setIfInBounds b (.cells (cur.setIfInBounds (o + i) v) t fr) }
      (by simp [hlt]) (by simpa using hfr) (by simp at hl ⊢; omega) (fun x hx => h1 x (by simp [hx]))
    refine ⟨cur', ?_, by simpa using e2, fun k hk => ?_, fun k hk => ?_⟩
    · simp only [storeCells, Sem.run_bind, hst, Result.andThen_ok, e1, Array.setIfInBounds_setIfInBounds]
    · cases k with
      | zero =>
        rw [e4 _ (by omega)]
        simp [hi]
      | succ k =>
        have := e3 k (by simp at hk; omega)
        simp only [List.getElem?_cons_succ]
        rw [← this]; congr 1; omega
    · rw [e4 k (by simp at hk; omega), Array.getElem?_setIfInBounds_ne (by simp at hk; omega)]
theorem UC {w : World} {b : Nat} {ob : Obj} (hb : b < w.heap.size) :
    ({ w with heap := w.heap.setIfInBounds b ob } : World).heap.size = w.heap.size ∧ ({ w with heap := w.heap.setIfInBounds b ob } : World).heap[b]? = some ob ∧
    ∀ k, k ≠ b → ({ w with heap := w.heap.setIfInBounds b ob } : World).heap[k]? = w.heap[k]? := by
  refine ⟨by simp, by simp [hb], fun k hk => ?_⟩
  simp [Array.getElem?_setIfInBounds_ne (Ne.symm hk)]
end
end Av
end
section
namespace Av
open Go
def KK : Nat := 1000
def OpV (C : Ctx) (b : Nat) (w : World) (Z : Nat → Nat → Prop) (μ : Nat → Option Cn) (o : Nat → Option Ob) (run : Result Value) (m : AM E) : Prop :=
  ∀ K : E → Prop, m.wp o K → ∃ e v w' Z' μ', run = .ok v w' ∧ K e ∧ Rep w' Z' μ' v e.v ∧ Good C w' Z' μ' (Uh o e.os) ∧ Evo b KK w Z μ w' Z' μ'
section
variable {C : Ctx} {w : World} {Z : Nat → Nat → Prop} {μ : Nat → Option Cn} {o : Nat → Option Ob} {b : Nat}
theorem Rep.scE {v u : Value} (h : Rep w Z μ v (.sc u)) : v = u ∧ u.oneCell' = true := by cases h; exact ⟨rfl, ‹_›⟩
theorem Rep.aggE {v : Value} {vs : List V} (h : Rep w Z μ v (.agg vs)) : ∃ cs, v = .agg cs ∧ cs.size = vs.length ∧ (∀ j (h : j < cs.size), cs[j].oneCell' = true) ∧
    ∀ j (h : j < vs.length) (h' : j < cs.size), Rep w Z μ cs[j] vs[j] := by cases h; exact ⟨_, rfl, ‹_›, ‹_›, ‹_›⟩
theorem Rep.tupE {v : Value} {vs : List V} (h : Rep w Z μ v (.tup vs)) : ∃ cs, v = .tuple cs ∧ cs.size = vs.length ∧
    ∀ j (h : j < vs.length) (h' : j < cs.size), Rep w Z μ cs[j] vs[j] := by cases h; exact ⟨_, rfl, ‹_›, ‹_›⟩
theorem Rep.hdE {v : Value} {a off len : Nat} (h : Rep w Z μ v (.hd a off len)) : ∃ c, μ a = some c ∧ Hdr c off len v := by cases h; exact ⟨_, ‹_›, ‹_›⟩
theorem Rep.ptrE {v : Value} {a off : Nat} (h : Rep w Z μ v (.ptr a off)) : ∃ c, μ a = some c ∧ v = .pointer (some ⟨c.block, off, none⟩) := by cases h; exact ⟨_, ‹_›, rfl⟩
theorem Rep.eptE {v : Value} {a i off : Nat} (h : Rep w Z μ v (.ept a i off)) : ∃ c, μ a = some c ∧ c.void = false ∧ i < c.n ∧ v = .pointer (some ⟨c.block, c.base + (i * c.sz + off), none⟩) := by
  cases h; exact ⟨_, ‹_›, ‹_›, ‹_›, rfl⟩
theorem Rep.roE {v : Value} {cells : List V} {off : Nat} (h : Rep w Z μ v (.ro cells off)) : ∃ bb oo, ∃ f : Nat → Value, v = .pointer (some ⟨bb, oo + off, none⟩) ∧
    (∀ j, j < cells.length → w.cell? ⟨bb, oo + j, none⟩ = some (f j) ∧ Z bb (oo + j) ∧ (f j).oneCell' = true) ∧ ∀ j (h : j < cells.length), Rep w Z noμ (f j) cells[j] := by
  cases h; exact ⟨_, _, _, rfl, ‹_›, ‹_›⟩
theorem Rep.slE {v : Value} {sz : Nat} {xs : List V} (h : Rep w Z μ v (.sl sz xs)) : ∃ a cap, v = .slice a xs.length cap ∧ xs.length ≤ cap ∧
    (xs ≠ [] → ∃ bb oo, a = some ⟨bb, oo, none⟩ ∧ Row w Z noμ (fun k => w.cell? ⟨bb, oo + k, none⟩) sz xs ∧ ∀ i (h : i < xs.length) j, j < xs[i].cells.length → Z bb (oo + (i * sz + j))) := by
  cases h with
  | sl0 => exact ⟨_, _, rfl, Nat.zero_le _, fun h => (h rfl).elim⟩
  | sl f h0 h1 h2 h3 => exact ⟨_, _, rfl, h0, fun _ => ⟨_, _, rfl, fun i hi => ⟨h1 i hi, fun j hj => ⟨_, (h2 i hi j hj).1, (h2 i hi j hj).2.2, h3 i hi j hj⟩⟩, fun i hi j hj => (h2 i hi j hj).2.1⟩⟩
theorem Rep.cloE {v : Value} {f : FK} {vs : List V} (h : Rep w Z μ v (.clo f vs)) : ∃ cs, v = f.val cs ∧ cs.size = vs.length ∧
    ∀ j (h : j < vs.length) (h' : j < cs.size), Rep w Z μ cs[j] vs[j] := by cases h <;> exact ⟨_, rfl, ‹_›, ‹_›⟩
theorem Rep.cloI {f : FK} {cs : Array Value} {vs : List V} (hl : cs.size = vs.length) (hr : ∀ j (h : j < vs.length) (h' : j < cs.size), Rep w Z μ cs[j] vs[j]) : Rep w Z μ (f.val cs) (.clo f vs) := by
  cases f
  · exact .clo hl hr
  · exact .clm hl hr
theorem Rep.nnE {v : Value} (h : Rep w Z μ v .nn) : ∃ t u, v = .iface t u := by cases h; exact ⟨_, _, rfl⟩
theorem qy {v : Value} (h : v.oneCell' = true) : Rep w Z μ v (V.ofV v) := by
  unfold V.ofV
  split
  · rename_i f first cap
    split
    · rename_i hc
      simp only [Bool.and_eq_true, Array.isEmpty_iff] at hc
      obtain ⟨rfl, rfl⟩ := hc
      exact .clo rfl fun j h _ => by simp at h
    · exact .sc h
  · exact .sc h
theorem vO {v : Value} (h : v.oneCell' = true) : (V.ofV v).cells = [V.ofV v] := by
  unfold V.ofV; split
  · split <;> rfl
  · rfl
theorem yr {α : Type} (hg : Good C w Z μ o) {cv : Value} {v : V} {sz : Nat} {k : List V → AM α} {K : α → Prop} (hr : Rep w Z μ cv v) (h : (AM.slice v sz k).wp o K) :
    ∃ xs a cap, cv = .slice a xs.length cap ∧ (k xs).wp o K ∧
      (xs ≠ [] → ∃ bb oo, a = some ⟨bb, oo, none⟩ ∧ Row w Z noμ (fun k => w.cell? ⟨bb, oo + k, none⟩) sz xs) := by
  unfold AM.slice at h
  split at h
  · rename_i s xs
    obtain ⟨a, cap, e, _, hx⟩ := hr.slE
    refine ⟨xs, a, cap, e, h.2, fun hne => ?_⟩
    obtain ⟨bb, oo, e1, e2, _⟩ := hx hne
    rcases h.1 with rfl | h1
    · exact ⟨bb, oo, e1, e2⟩
    · exact (hne h1).elim
  · rename_i a off len
    obtain ⟨c, hm, hh⟩ := hr.hdE
    obtain ⟨ob, hoa, h⟩ := h
    dsimp only at h
    split at h
    · rename_i wr s xs
      obtain ⟨h1, h2⟩ := h
      obtain ⟨c', hm', hok, _⟩ := hg.ob a _ hoa
      rw [hm] at hm'; cases hm'
      obtain ⟨hlen, hok⟩ := hok
      unfold Hdr at hh
      split at hh
      · obtain ⟨rfl, rfl, rfl⟩ := hh
        exact ⟨_, none, 0, by simp, h2, fun hne => by simp at hne⟩
      · rename_i hv
        have hv : c.void = false := by simpa using hv
        obtain ⟨ad, e, h3, h4, h5⟩ := hh
        obtain ⟨h6, h7, h8, h9, h10, cs, ty, fr, hb, h11, h12, h13⟩ := hok hv
        have hl : ((xs.drop off).take len).length = len := by simp; omega
        refine ⟨_, some ad, c.cap - off, by rw [hl]; exact e, h2, fun hne => ?_⟩
        have hpos : 0 < len := by
          rcases Nat.eq_zero_or_pos len with h0 | h0
          · subst h0; simp at hne
          · exact h0
        refine ⟨c.block, c.base + off * c.sz, by rw [h5 (by omega)], ?_⟩
        have hs : s = sz := by
          rcases h1 with h1 | h1
          · exact h1
          · subst h1; simp at hne
        subst hs
        have hrow : Row w Z noμ (fun k => w.cell? ⟨c.block, c.base + k, none⟩) s xs := by
          intro i hi
          refine ⟨h10 i hi, fun j hj => ?_⟩
          obtain ⟨u, e1, e2, e3⟩ := h13 i hi j hj
          rw [h6] at e1
          exact ⟨u, by simp only [cell?_of_heap hb]; exact e1, e2, e3⟩
        have := (hrow.drop off).take len
        refine this.congr (fun k _ => ?_)
        rw [h6, Nat.add_assoc]
    · exact h.elim
  · obtain ⟨rfl, _⟩ := hr.scE
    exact ⟨[], none, 0, rfl, h, fun hne => (hne rfl).elim⟩
  · exact h.elim
theorem Vp {α : Type} {cv : Value} {v : V} {k : Int → AM α} {K : α → Prop} (hr : Rep w Z μ cv v) (h : (AM.int v k).wp o K) :
    ∃ kd n, cv = .int kd n ∧ (k n).wp o K := by
  unfold AM.int at h
  split at h
  · obtain ⟨rfl, _⟩ := hr.scE; exact ⟨_, _, rfl, h⟩
  · exact h.elim
theorem Kl {α : Type} {cv : Value} {v : V} {k : ByteArray → AM α} {K : α → Prop} (hr : Rep w Z μ cv v) (h : (AM.str v k).wp o K) :
    ∃ s, cv = .string s ∧ (k s).wp o K := by
  unfold AM.str at h
  split at h
  · obtain ⟨rfl, _⟩ := hr.scE; exact ⟨_, rfl, h⟩
  · exact h.elim
theorem abB {ν : Nat → Option Cn} {cv : Value} {c : Cn} {wr : Bool} {s sz off len : Nat} {xs : List V} (hh : Hdr c off len cv) (h1 : s = sz ∨ xs = []) (hok : BOk w Z ν c wr s xs) :
    ∃ a cap, cv = .slice a ((xs.drop off).take len).length cap ∧ ((xs.drop off).take len ≠ [] → ∃ bb oo, a = some ⟨bb, oo, none⟩ ∧ Row w Z ν (fun k => w.cell? ⟨bb, oo + k, none⟩) sz ((xs.drop off).take len)) := by
  obtain ⟨hlen, hok⟩ := hok
  unfold Hdr at hh
  split at hh
  · obtain ⟨rfl, rfl, rfl⟩ := hh
    exact ⟨none, 0, by simp, fun hne => by simp at hne⟩
  · rename_i hv
    have hv : c.void = false := by simpa using hv
    obtain ⟨ad, e, h3, h4, h5⟩ := hh
    obtain ⟨h6, h7, h8, h9, h10, cs, ty, fr, hb, h11, h12, h13⟩ := hok hv
    have hl : ((xs.drop off).take len).length = len := by simp; omega
    refine ⟨some ad, c.cap - off, by rw [hl]; exact e, fun hne => ?_⟩
    have hpos : 0 < len := by
      rcases Nat.eq_zero_or_pos len with h0 | h0
      · subst h0; simp at hne
      · exact h0
    refine ⟨c.block, c.base + off * c.sz, by rw [h5 (by omega)], ?_⟩
    have hs : s = sz := by
      rcases h1 with h1 | h1
      · exact h1
      · subst h1; simp at hne
    subst hs
    have hrow : Row w Z ν (fun k => w.cell? ⟨c.block, c.base + k, none⟩) s xs := by
      intro i hi
      refine ⟨h10 i hi, fun j hj => ?_⟩
      obtain ⟨u, e1, e2, e3⟩ := h13 i hi j hj
      rw [h6] at e1
      exact ⟨u, by simp only [cell?_of_heap hb]; exact e1, e2, e3⟩
    have := (hrow.drop off).take len
    refine this.congr (fun k _ => ?_)
    rw [h6, Nat.add_assoc]
theorem wo {α : Type} (hg : Good C w Z μ o) {cv : Value} {v : V} {sz : Nat} {k : Bool → List V → AM α} {K : α → Prop} (hr : Rep w Z μ cv v) (h : (AM.sliceK v sz k).wp o K) :
    ∃ op xs a cap, cv = .slice a xs.length cap ∧ (k op xs).wp o K ∧
      (xs ≠ [] → ∃ bb oo, a = some ⟨bb, oo, none⟩ ∧ Row w Z (if op = true then μ else noμ) (fun k => w.cell? ⟨bb, oo + k, none⟩) sz xs) := by
  unfold AM.sliceK at h
  split at h
  · rename_i s xs
    obtain ⟨a, cap, e, _, hx⟩ := hr.slE
    refine ⟨false, xs, a, cap, e, h.2, fun hne => ?_⟩
    obtain ⟨bb, oo, e1, e2, _⟩ := hx hne
    rcases h.1 with rfl | h1
    · exact ⟨bb, oo, e1, e2⟩
    · exact (hne h1).elim
  · rename_i a off len
    obtain ⟨c, hm, hh⟩ := hr.hdE
    obtain ⟨ob, hoa, h⟩ := h
    dsimp only at h
    split at h
    · rename_i wr s xs
      obtain ⟨h1, h2⟩ := h
      obtain ⟨c', hm', hok, _⟩ := hg.ob a _ hoa
      rw [hm] at hm'; cases hm'
      obtain ⟨a', cap, e1, e2⟩ := abB hh h1 hok
      exact ⟨false, _, a', cap, e1, h2, e2⟩
    · rename_i wr s xs
      obtain ⟨h1, h2⟩ := h
      obtain ⟨c', hm', hok, _⟩ := hg.ob a _ hoa
      rw [hm] at hm'; cases hm'
      obtain ⟨a', cap, e1, e2⟩ := abB hh h1 hok
      exact ⟨true, _, a', cap, e1, h2, e2⟩
    · exact h.elim
  · obtain ⟨rfl, _⟩ := hr.scE
    exact ⟨false, [], none, 0, rfl, h, fun hne => (hne rfl).elim⟩
  · exact h.elim
theorem qZ {α : Type} (hg : Good C w Z μ o) {cv : Value} {v : V} {k : List V → Nat → AM α} {K : α → Prop} (hr : Rep w Z μ cv v) (h : (AM.cellsAt v k).wp o K) :
    ∃ cells off bb oo, ∃ f : Nat → Value, cv = .pointer (some ⟨bb, oo + off, none⟩) ∧ (k cells off).wp o K ∧
      ∀ j (hj : j < cells.length), w.cell? ⟨bb, oo + j, none⟩ = some (f j) ∧ (f j).oneCell' = true ∧ Rep w Z μ (f j) cells[j] := by
  unfold AM.cellsAt at h
  split at h
  · rename_i a off
    obtain ⟨c, hm, e⟩ := hr.ptrE
    obtain ⟨ob, hoa, h⟩ := h
    dsimp only at h
    split at h
    · rename_i wr cells
      obtain ⟨c', hm', hok, _⟩ := hg.ob a _ hoa
      rw [hm] at hm'; cases hm'
      obtain ⟨_, ⟨cs, ty, hb, hs, hc⟩, _⟩ := hok
      refine ⟨cells, off, c.block, 0, fun j => cs.getD j undef, by simpa using e, h, fun j hj => ?_⟩
      have hj' : j < cs.size := by omega
      rw [cell?_of_heap hb]
      simp only [Nat.zero_add, Array.getD_eq_getD_getElem?, Array.getElem?_eq_getElem hj', Option.getD_some]
      exact ⟨trivial, (hc j hj hj').2, (hc j hj hj').1⟩
    · rename_i T wr cells
      obtain ⟨c', hm', hok, _⟩ := hg.ob a _ hoa
      rw [hm] at hm'; cases hm'
      obtain ⟨_, ⟨cs, ty, hb, hs, hc⟩, _⟩ := hok.1
      refine ⟨cells, off, c.block, 0, fun j => cs.getD j undef, by simpa using e, h, fun j hj => ?_⟩
      have hj' : j < cs.size := by omega
      rw [cell?_of_heap hb]
      simp only [Nat.zero_add, Array.getD_eq_getD_getElem?, Array.getElem?_eq_getElem hj', Option.getD_some]
      exact ⟨trivial, (hc j hj hj').2, (hc j hj hj').1⟩
    · exact h.elim
  · rename_i a i off
    obtain ⟨c, hm, hv, hi, e⟩ := hr.eptE
    obtain ⟨ob, hoa, h⟩ := h
    have key : ∀ wr s xs, BOk w Z μ c wr s xs → AM.wp o K (match xs[i]? with | some e => k e.cells off | none => .no) →
        ∃ cells off bb oo, ∃ f : Nat → Value, cv = Value.pointer (some ⟨bb, oo + off, none⟩) ∧ AM.wp o K (k cells off) ∧
          ∀ j (hj : j < cells.length), w.cell? ⟨bb, oo + j, none⟩ = some (f j) ∧ (f j).oneCell' = true ∧ Rep w Z μ (f j) cells[j] := by
      intro wr s xs hok h
      obtain ⟨h6, h7, h8, h9, h10, cs, ty, fr, hb, h11, h12, h13⟩ := hok.2 hv
      split at h
      · rename_i el hel
        obtain ⟨hix, rfl⟩ := List.getElem?_eq_some_iff.1 hel
        refine ⟨_, off, c.block, c.base + i * c.sz, fun j => cs.getD (c.base + (i * c.sz + j)) undef, by rw [e]; congr 3; omega, h, fun j hj => ?_⟩
        obtain ⟨u, e1, e2, e3⟩ := h13 i hix j hj
        rw [cell?_of_heap hb]
        simp only [Nat.add_assoc, Array.getD_eq_getD_getElem?, e1, Option.getD_some]
        exact ⟨trivial, e2, e3⟩
      · exact h.elim
    dsimp only at h
    split at h
    · rename_i wr s xs
      obtain ⟨c', hm', hok, _⟩ := hg.ob a _ hoa
      rw [hm] at hm'; cases hm'
      exact key wr s xs (BOk.lift hok) h
    · rename_i wr s xs
      obtain ⟨c', hm', hok, _⟩ := hg.ob a _ hoa
      rw [hm] at hm'; cases hm'
      exact key wr s xs hok h
    · exact h.elim
  · rename_i cells off
    obtain ⟨bb, oo, f, e, h1, h2⟩ := hr.roE
    exact ⟨cells, off, bb, oo, f, e, h, fun j hj => ⟨(h1 j hj).1, (h1 j hj).2.2, (h2 j hj).lift⟩⟩
  · exact h.elim
theorem aaP (hg : Good C w Z μ o) {t : TypeId} {ag : Bool} {sz : Nat} (h1 : qj C.P t = some ag) (h2 : Jl C.P t = some sz) {cv : Value} {v : V} (hr : Rep w Z μ cv v) :
    OpV C b w Z μ o ((Instr.loadAt t cv).run C.P w) (.cellsAt v fun cells off =>
      if ag then .asrt (off + sz ≤ cells.length) (.ret { v := .agg ((cells.drop off).take sz) })
      else match cells[off]? with | some v => .ret { v } | none => .no) := by
  intro K h
  obtain ⟨cells, off, bb, oo, f, rfl, h, hc⟩ := qZ hg hr h
  cases ag with
  | true =>
    simp only [if_true] at h
    obtain ⟨hb, hk⟩ := h
    refine ⟨_, .agg ((List.range sz).map fun j => f (off + j)).toArray, w, Z, μ, ?_, hk, ?_, hg, .refl⟩
    · have := WR h1 h2 w bb (oo + off) (fun j => f (off + j)) (fun j hj => by
        simp only [if_true] at hj
        rw [Nat.add_assoc]; exact (hc (off + j) (by omega)).1)
      simpa [Instr.loadAt, Instr.sureAddr] using this
    · refine .agg (by simp; omega) (fun j hj => ?_) (fun j hj hj' => ?_)
      · simp at hj; simp; exact (hc (off + j) (by omega)).2.1
      · simp at hj hj'; simp; exact (hc (off + j) (by omega)).2.2
  | false =>
    simp only [Bool.false_eq_true, if_false] at h
    split at h
    · rename_i u hu
      obtain ⟨ho, rfl⟩ := List.getElem?_eq_some_iff.1 hu
      refine ⟨_, f off, w, Z, μ, ?_, h, (hc off ho).2.2, hg, .refl⟩
      have := WR h1 h2 w bb (oo + off) (fun j => f (off + j)) (fun j hj => by
        simp at hj; subst hj; exact (hc off ho).1)
      simpa [Instr.loadAt, Instr.sureAddr] using this
    · exact h.elim
theorem aaq (op : BinOp) (k : IntKind) (x y : Int) (t : TypeId) {K : E → Prop} (h : (acp op k x y).wp o K) :
    ∃ u, (binOp op t (.int k x) (.int k y)).run C.P w = .ok u w ∧ u.oneCell' = true ∧ K { v := .sc u } := by
  cases op <;> simp only [acp, AM.wp] at h <;> first
    | exact h.elim
    | (refine ⟨_, ?_, rfl, h⟩; simp [binOp, Op.intArith, Op.intCmp]; done)
    | (refine ⟨_, ?_, rfl, h.2⟩; simp [binOp, Op.intDiv, h.1]; done)
theorem aap (op : BinOp) (x y : ByteArray) (t : TypeId) {K : E → Prop} (h : (KX op x y).wp o K) :
    ∃ u, (binOp op t (.string x) (.string y)).run C.P w = .ok u w ∧ u.oneCell' = true ∧ K { v := .sc u } := by
  cases op <;> simp only [KX, AM.wp] at h <;> first
    | exact h.elim
    | (refine ⟨_, ?_, rfl, h⟩; simp [binOp, Op.stringOp]; done)
    | (refine ⟨_, ?_, rfl, h.2⟩
       have h1 := h.1
       have : ¬ ((x.size + y.size : Nat) : Int) > IntKind.i64.max := by
         have e : IntKind.i64.max = 9223372036854775807 := by decide
         rw [e]; omega
       simp only [binOp, Op.stringOp, this, if_false]; rfl)
end
end Av
end
section
namespace Av
open Go
section
variable {C : Ctx} {w : World} {Z : Nat → Nat → Prop} {μ : Nat → Option Cn} {o : Nat → Option Ob} {b : Nat}
theorem aaM (hg : Good C w Z μ o) {c x y : Value} {r : Opd → V} {c' x' y' : Opd} (hc : Rep w Z μ c (r c')) (hx : Rep w Z μ x (r x')) (hy : Rep w Z μ y (r y')) :
    OpV C b w Z μ o ((do pure (if ← asBool c then x else y) : Sem Value).run C.P w) (sem b r (.pick c' x' y')) := by
  intro K h
  simp only [sem] at h
  split at h
  · rename_i t ht
    rw [ht] at hc
    obtain ⟨rfl, _⟩ := hc.scE
    refine ⟨_, if t then x else y, w, Z, μ, ?_, h, ?_, hg, .refl⟩
    · simp [asBool]
    · cases t <;> simp_all
  · exact h.elim
theorem j5 (hg : Good C w Z μ o) (hf : ∀ x, b ≤ x → x < b + KK → μ x = none) (hm : C.m ≤ b) {cells : Array Value} {elem : TypeId} {c : Cn} {y : Ob} {v : Value} {x : V}
    (hc : c.block = w.heap.size) (hob : Up (w.alloc (.cells cells elem)) Z (upd μ b (some c)) c y)
    (hr : Rep (w.alloc (.cells cells elem)) Z (upd μ b (some c)) v x) {K : E → Prop} (hk : K { v := x, os := [(b, y)] }) :
    ∃ e v' w' Z' μ', (Result.ok v (w.alloc (.cells cells elem)) : Result Value) = .ok v' w' ∧ K e ∧ Rep w' Z' μ' v' e.v ∧ Good C w' Z' μ' (Uh o e.os) ∧ Evo b KK w Z μ w' Z' μ' :=
  ⟨_, v, _, Z, _, rfl, hk, hr, hg.alloc (hf b (Nat.le_refl _) (by simp [KK])) hc hm hob, Evo.alloc hg.zlt (hf b (Nat.le_refl _) (by simp [KK])) (Nat.le_refl _) (by simp [KK])⟩
theorem yy (hg : Good C w Z μ o) {x : Nat} (hx : μ x = none) {ob : Obj} {c : Cn} {v : Value} {y : V} (h : Rep w Z μ v y) : Rep (w.alloc ob) Z (upd μ x (some c)) v y :=
  h.mono (fun b i hz => Ya (hg.zlt b i hz)) (fun _ _ h => h) (Wq hx)
theorem zx (hg : Good C w Z μ o) : ∀ i, ¬ Z w.heap.size i := fun i hz => Nat.lt_irrefl _ (hg.zlt _ _ hz)
theorem abW (hg : Good C w Z μ o) (hf : ∀ x, b ≤ x → x < b + KK → μ x = none) (hm : C.m ≤ b) {t : TypeId} {ag : Bool} {sz : Nat} {cv : Value} {r : Opd → V} {x : Opd} (hr : Rep w Z μ cv (r x)) :
    OpV C b w Z μ o ((Instr.box t cv).run C.P w) (sem b r (.box ag sz x)) := by
  intro K h
  simp only [sem] at h
  generalize r x = v at h hr
  have hx := hf b (Nat.le_refl _) (by simp [KK])
  have hrun : (Instr.box t cv).run C.P w = .ok (.pointer (some ⟨w.heap.size, 0, none⟩)) (w.alloc (.cells cv.cells t)) := by
    simp [Instr.box, newVar, newRow, newObj, Sem.run]
  rw [hrun]
  have key : ∀ cells : List V, (cv.cells.size = cells.length ∧ ∀ j (hj : j < cells.length), ∃ u, cv.cells[j]? = some u ∧ u.oneCell' = true ∧ Rep w Z μ u cells[j]) →
      K { v := .ptr b 0, os := [(b, .box true cells)] } → ∃ e v' w' Z' μ', (Result.ok (.pointer (some ⟨w.heap.size, 0, none⟩)) (w.alloc (.cells cv.cells t)) : Result Value) = .ok v' w' ∧ K e ∧ Rep w' Z' μ' v' e.v ∧ Good C w' Z' μ' (Uh o e.os) ∧ Evo b KK w Z μ w' Z' μ' := by
    intro cells ⟨hs, hc⟩ hk
    refine j5 (c := { block := w.heap.size }) hg hf hm rfl ?_ ?_ hk
    · refine ⟨rfl, ⟨cv.cells, t, heap_alloc_new, hs, fun j h h' => ?_⟩, fun _ => zx hg⟩
      obtain ⟨u, e1, e2, e3⟩ := hc j h
      rw [Array.getElem?_eq_getElem h'] at e1
      cases e1
      exact ⟨yy hg hx e3, e2⟩
    · exact .ptr (c := { block := w.heap.size }) (Qh _ _ _)
  cases ag with
  | true =>
    cases v with
    | agg cs => exact key cs (by simpa [V.cells] using hr.cells (by simp) (by simp)) h.2
    | _ => exact h.elim
  | false =>
    obtain ⟨⟨h1, h2⟩, h3⟩ : (v.small = true ∧ sz = 1) ∧ K { v := .ptr b 0, os := [(b, .box true [v])] } := h
    obtain ⟨n1, n2, n3⟩ := V.small_ne h1
    have := hr.cells n1 n2
    rw [n3] at this
    exact key [v] this h3
theorem qk : ∀ (zs : List ZC) (x : Nat) (w : World) (Z : Nat → Nat → Prop) (μ : Nat → Option Cn) (o : Nat → Option Ob), Good C w Z μ o →
    (∀ z ∈ zs, z.value.oneCell' = true) → b ≤ x → x + zs.length ≤ b + KK → (∀ y, x ≤ y → y < b + KK → μ y = none) → C.m ≤ x →
    ∃ μ', Good C w Z μ' (Uh o (ack x zs)) ∧ Evo b KK w Z μ w Z μ' ∧ (∀ y, y < x → μ' y = μ y) ∧ (VF x zs).length = zs.length ∧
      ∀ j (h : j < zs.length) (h' : j < (VF x zs).length), Rep w Z μ' zs[j].value (VF x zs)[j]
  | [], x, w, Z, μ, o, hg, _, _, _, _, _ => ⟨μ, hg, .refl, fun _ _ => rfl, rfl, fun j h => by simp at h⟩
  | .val v :: r, x, w, Z, μ, o, hg, h1, hb, hl, hf, hm => by
    obtain ⟨μ', g, e, lo, el, hr⟩ := qk r (x + 1) w Z μ o hg (fun z hz => h1 z (by simp [hz])) (by omega) (by simp at hl; omega) (fun y hy => hf y (by omega)) (by omega)
    refine ⟨μ', g, e, fun y hy => lo y (by omega), by simp [VF, el], fun j h h' => ?_⟩
    cases j with
    | zero => exact qy (h1 (.val v) (by simp))
    | succ j => exact hr j (by simpa using h) (by simpa [VF] using h')
  | .nil sz :: r, x, w, Z, μ, o, hg, h1, hb, hl, hf, hm => by
    have hx : μ x = none := hf x (Nat.le_refl _) (by simp at hl; omega)
    obtain ⟨μ', g, e, lo, el, hr⟩ := qk r (x + 1) w Z (upd μ x (some { block := 0, void := true })) (upd o x (some (.buf true sz []))) (hg.nil hx hm) (fun z hz => h1 z (by simp [hz])) (by omega) (by simp at hl; omega)
      (fun y hy hy' => by rw [QI _ _ (by omega)]; exact hf y (by omega) hy') (by omega)
    refine ⟨μ', g, (Evo.name hx hb (by simp at hl; omega)).trans e, fun y hy => (lo y (by omega)).trans (QI _ _ (by omega)), by simp [VF, el], fun j h h' => ?_⟩
    cases j with
    | zero =>
      refine Rep.hd (c := { block := 0, void := true }) (e.mu _ _ (Qh _ _ _)) ?_
      simp [Hdr, ZC.value]
    | succ j => exact hr j (by simpa using h) (by simpa [VF] using h')
theorem xe (o : Nat → Option Ob) (l l' : List (Nat × Ob)) : Uh o (l ++ l') = Uh (Uh o l) l' := by
  induction l generalizing o with
  | nil => rfl
  | cons x r ih => obtain ⟨a, y⟩ := x; simp [Uh, ih]
theorem vM (hg : Good C w Z μ o) (hf : ∀ x, b ≤ x → x < b + KK → μ x = none) (hm : C.m ≤ b) {t : TypeId} {z : Value} {zs : List ZC} (hz : VO C.P t = some z)
    (hzs : zs.map ZC.value = z.cells.toList) (h1 : ∀ u ∈ z.cells.toList, u.oneCell' = true) (hk : zs.length < KK - 1) :
    OpV C b w Z μ o ((Instr.alloc t true (.tuple #[])).run C.P w) (.ret { v := .ptr b 0, os := ack (b + 1) zs ++ [(b, .box true (VF (b + 1) zs))] }) := by
  intro K hK
  have hrun : (Instr.alloc t true (.tuple #[])).run C.P w = .ok (.pointer (some ⟨w.heap.size, 0, none⟩)) (w.alloc (.cells z.cells t)) := by
    simp [Instr.alloc, X8 hz, newVar, newRow, newObj, Sem.run]
  have hone : ∀ z ∈ zs, z.value.oneCell' = true := fun y hy => h1 _ (by rw [← hzs]; exact List.mem_map_of_mem hy)
  obtain ⟨μ', g, e, lo, el, hr⟩ := qk (b := b) zs (b + 1) _ _ _ _ hg hone (by omega) (by simp [KK] at hk ⊢; omega) (fun y hy hy' => hf y (by omega) hy') (by omega)
  have hx : μ' b = none := (lo b (by omega)).trans (hf b (Nat.le_refl _) (by simp [KK]))
  have hlen : z.cells.size = zs.length := by rw [← Array.length_toList, ← hzs, List.length_map]
  rw [hrun]
  refine ⟨_, _, _, Z, upd μ' b (some { block := w.heap.size }), rfl, hK, .ptr (c := { block := w.heap.size }) (Qh _ _ _), ?_, ?_⟩
  · rw [xe]
    refine g.alloc hx rfl hm ⟨rfl, ⟨z.cells, t, heap_alloc_new, by rw [el, hlen], fun j h h' => ?_⟩, fun _ => zx g⟩
    have hj : j < zs.length := by rw [← el]; exact h
    have e1 : z.cells[j] = zs[j].value := by
      have : z.cells.toList[j]? = (zs.map ZC.value)[j]? := by rw [hzs]
      simp [hj, h'] at this
      exact this
    rw [e1]
    exact ⟨yy g hx (hr j hj h), hone _ (List.getElem_mem hj)⟩
  · exact e.trans (Evo.alloc g.zlt hx (Nat.le_refl _) (by simp [KK]))
theorem wE (hg : Good C w Z μ o) (hf : ∀ x, b ≤ x → x < b + KK → μ x = none) (hm : C.m ≤ b) {t : TypeId} {z : Value} {r : Opd → V} (hz : VO C.P t = some z) (h1 : ∀ u ∈ z.cells.toList, u.oneCell' = true) :
    OpV C b w Z μ o ((Instr.alloc t true (.tuple #[])).run C.P w) (sem b r (.allocT t z.cells.toList)) := by
  intro K h
  simp only [sem] at h
  have hrun : (Instr.alloc t true (.tuple #[])).run C.P w = .ok (.pointer (some ⟨w.heap.size, 0, none⟩)) (w.alloc (.cells z.cells t)) := by
    simp [Instr.alloc, X8 hz, newVar, newRow, newObj, Sem.run]
  rw [hrun]
  have hx := hf b (Nat.le_refl _) (by simp [KK])
  refine j5 (c := { block := w.heap.size }) hg hf hm rfl ?_ ?_ h
  · refine ⟨⟨rfl, ⟨z.cells, t, heap_alloc_new, by simp, fun j h h' => ?_⟩, fun _ => zx hg⟩, rfl, fun _ => ⟨_, _, heap_alloc_new⟩⟩
    have ho := h1 z.cells[j] (by simp)
    refine ⟨?_, ho⟩
    simp only [List.getElem_map, Array.getElem_toList]
    exact qy ho
  · exact .ptr (c := { block := w.heap.size }) (Qh _ _ _)
end
end Av
end
section
namespace Av
open Go
def Yo (w : World) (Z : Nat → Nat → Prop) (μ : Nat → Option Cn) (g : Nat → Option Value) (vs : List V) : Prop :=
  ∀ j (hj : j < vs.length), ∃ u, g j = some u ∧ u.oneCell' = true ∧ Rep w Z μ u vs[j]
section
variable {w : World} {Z : Nat → Nat → Prop} {μ : Nat → Option Cn} {g g' h : Nat → Option Value} {vs cs : List V}
theorem JA {off : Nat} (hl : off + cs.length ≤ vs.length) : (splice vs off cs).length = vs.length := by
  simp [splice]; omega
theorem Yo.splice {off : Nat} (hv : Yo w Z μ g vs) (hc : Yo w Z μ h cs) (hl : off + cs.length ≤ vs.length)
    (h1 : ∀ k, k < cs.length → g' (off + k) = h k) (h2 : ∀ k, k < off ∨ off + cs.length ≤ k → g' k = g k) : Yo w Z μ g' (splice vs off cs) := by
  intro j hj
  rw [JA hl] at hj
  by_cases hlt : j < off
  · obtain ⟨u, a, b, c⟩ := hv j hj
    refine ⟨u, by rw [h2 j (.inl hlt)]; exact a, b, ?_⟩
    simp only [Av.splice, List.append_assoc]
    rw [List.getElem_append_left (by simp; omega), List.getElem_take]
    exact c
  · by_cases hlt2 : j < off + cs.length
    · obtain ⟨u, a, b, c⟩ := hc (j - off) (by omega)
      refine ⟨u, by rw [← a, ← h1 _ (by omega)]; congr 1; omega, b, ?_⟩
      have e : (Av.splice vs off cs)[j]? = some cs[j - off] := by
        simp only [Av.splice, List.append_assoc]
        rw [List.getElem?_append_right (by simp; omega), List.getElem?_append_left (by simp; omega)]
        simp only [List.length_take]
        rw [Nat.min_eq_left (by omega)]
        exact List.getElem?_eq_getElem (by omega)
      obtain ⟨_, e⟩ := List.getElem?_eq_some_iff.1 e
      rw [e]; exact c
    · obtain ⟨u, a, b, c⟩ := hv j hj
      refine ⟨u, by rw [h2 j (.inr (by omega))]; exact a, b, ?_⟩
      have e : (Av.splice vs off cs)[j]? = some vs[j] := by
        simp only [Av.splice, List.append_assoc]
        rw [List.getElem?_append_right (by simp; omega), List.getElem?_append_right (by simp; omega), List.getElem?_drop]
        simp only [List.length_take]
        rw [Nat.min_eq_left (by omega)]
        rw [show off + cs.length + (j - off - cs.length) = j by omega]
        exact List.getElem?_eq_getElem hj
      obtain ⟨_, e⟩ := List.getElem?_eq_some_iff.1 e
      rw [e]; exact c
theorem qN (off : Nat) : ∀ (l : List Value) (s : Nat) (a : Array Value), off + s + l.length ≤ a.size →
    ((l.zipIdx s).foldl (fun cs p => cs.setIfInBounds (off + p.2) p.1) a).size = a.size ∧
    (∀ k, k < l.length → ((l.zipIdx s).foldl (fun cs p => cs.setIfInBounds (off + p.2) p.1) a)[off + s + k]? = l[k]?) ∧
    ∀ k, k < off + s ∨ off + s + l.length ≤ k → ((l.zipIdx s).foldl (fun cs p => cs.setIfInBounds (off + p.2) p.1) a)[k]? = a[k]?
  | [], s, a, _ => ⟨rfl, fun k hk => by simp at hk, fun _ _ => rfl⟩
  | v :: l, s, a, hl => by
    simp only [List.length_cons] at hl
    obtain ⟨h1, h2, h3⟩ := qN off l (s + 1) (a.setIfInBounds (off + s) v) (by simp; omega)
    simp only [List.zipIdx_cons, List.foldl_cons]
    refine ⟨by rw [h1]; simp, fun k hk => ?_, fun k hk => ?_⟩
    · cases k with
      | zero =>
        rw [h3 _ (by omega)]
        simp only [Nat.add_zero, List.getElem?_cons_zero]
        rw [Array.getElem?_setIfInBounds_self_of_lt (by omega)]
      | succ k =>
        have := h2 k (by simp at hk; omega)
        rw [List.getElem?_cons_succ, ← this]; congr 1; omega
    · simp only [List.length_cons] at hk
      rw [h3 k (by omega), Array.getElem?_setIfInBounds_ne (by omega)]
theorem x9 (place : Nat → Option (Nat × Nat)) : ∀ (parts : List (Nat × Value)) (ps : List (Nat × List V)) (a : Array Value) (vs : List V),
    a.size = vs.length → Yo w Z μ (fun k => a[k]?) vs → parts.length = ps.length →
    (∀ i (h : i < parts.length) (h' : i < ps.length), place parts[i].1 = some (ps[i].1, parts[i].2.cells.size) ∧ parts[i].2.cells.size = ps[i].2.length ∧
      ps[i].1 + ps[i].2.length ≤ vs.length ∧ Yo w Z μ (fun k => parts[i].2.cells[k]?) ps[i].2) →
    ∃ a', Instr.fill place a parts = some a' ∧ a'.size = vs.length ∧ (yb vs ps).length = vs.length ∧ Yo w Z μ (fun k => a'[k]?) (yb vs ps)
  | [], [], a, vs, hs, hc, _, _ => ⟨a, rfl, hs, rfl, hc⟩
  | [], _ :: _, _, _, _, _, hl, _ => by simp at hl
  | _ :: _, [], _, _, _, _, hl, _ => by simp at hl
  | (i, v) :: parts, (off, cs) :: ps, a, vs, hs, hc, hl, hp => by
    obtain ⟨p1, p2, p3, p4⟩ := hp 0 (by simp) (by simp)
    simp only [List.getElem_cons_zero] at p1 p2 p3 p4
    obtain ⟨f1, f2, f3⟩ := qN off v.cells.toList 0 a (by simp; omega)
    simp only [Nat.add_zero, Array.length_toList] at f1 f2 f3
    have hc' := hc.splice (off := off) (g' := fun k => ((v.cells.toList.zipIdx 0).foldl (fun cs p => cs.setIfInBounds (off + p.2) p.1) a)[k]?) p4 p3
      (fun k hk => by rw [f2 k (by omega)]; simp) (fun k hk => f3 k (by omega))
    obtain ⟨a', e1, e2, e3, e4⟩ := x9 place parts ps _ (splice vs off cs) (by rw [f1, JA p3]; exact hs) hc' (by simpa using hl) (fun j h h' => by
      have := hp (j + 1) (by simpa using h) (by simpa using h')
      simp only [List.getElem_cons_succ] at this
      rw [JA p3]; exact this)
    refine ⟨a', ?_, by rw [e2, JA p3], by simp only [yb]; rw [e3, JA p3], e4⟩
    simp only [Instr.fill, p1]
    rw [if_neg (by simp; omega)]
    rw [← e1]
    congr 1
    rw [← Array.foldl_toList, Array.toList_zipIdx]
theorem jZ {a : Array Value} (hs : a.size = vs.length) (hc : Yo w Z μ (fun k => a[k]?) vs) : Rep w Z μ (.agg a) (.agg vs) := by
  refine .agg hs (fun j hj => ?_) (fun j hj hj' => ?_)
  · obtain ⟨u, e1, e2, _⟩ := hc j (by omega)
    simp only [Array.getElem?_eq_getElem hj] at e1; cases e1; exact e2
  · obtain ⟨u, e1, _, e3⟩ := hc j hj
    simp only [Array.getElem?_eq_getElem hj'] at e1; cases e1; exact e3
theorem vc {l : List Value} (h : ∀ u ∈ l, u.oneCell' = true) : Yo w Z μ (fun k => l[k]?) (l.map V.ofV) := by
  intro j hj
  simp only [List.length_map] at hj
  exact ⟨l[j], List.getElem?_eq_getElem hj, h _ (List.getElem_mem hj), by simp; exact qy (h _ (List.getElem_mem hj))⟩
end
section
variable {C : Ctx} {w : World} {Z : Nat → Nat → Prop} {μ : Nat → Option Cn} {o : Nat → Option Ob} {b : Nat}
theorem qC {P : Program} {fs : Array Field} {ρ : Operand → Value} {r : Opd → V} (hρ : ∀ x x', opd x = some x' → Rep w Z μ (ρ x) (r x')) :
    ∀ {ps : List (Nat × Operand)} {qs : List (Nat × Nat × Opd)}, jG P fs ps = some qs → ps.length = qs.length ∧
      ∀ i (h : i < ps.length) (h' : i < qs.length), (∃ f, fs[ps[i].1]? = some f ∧ qs[i].1 = f.offset ∧ Jl P f.type = some qs[i].2.1) ∧ Rep w Z μ (ρ ps[i].2) (r qs[i].2.2)
  | [], qs, h => by simp [jG] at h; subst h; exact ⟨rfl, fun i h => by simp at h⟩
  | (i, x) :: ps, qs, h => by
    simp only [jG] at h
    split at h
    · rename_i f x' r' e1 e2 e3
      split at h
      · rename_i s e4
        simp only [Option.some.injEq] at h; subst h
        obtain ⟨h1, h2⟩ := qC hρ e3
        refine ⟨by simp [h1], fun j h h' => ?_⟩
        cases j with
        | zero => exact ⟨⟨f, e1, rfl, e4⟩, hρ _ _ e2⟩
        | succ j => exact h2 j (by simpa using h) (by simpa using h')
      · cases h
    · cases h
theorem qD {sz : Nat} {ρ : Operand → Value} {r : Opd → V} (hρ : ∀ x x', opd x = some x' → Rep w Z μ (ρ x) (r x')) :
    ∀ {ps : List (Nat × Operand)} {qs : List (Nat × Nat × Opd)}, jH sz ps = some qs → ps.length = qs.length ∧
      ∀ i (h : i < ps.length) (h' : i < qs.length), (qs[i].1 = ps[i].1 * sz ∧ qs[i].2.1 = sz) ∧ Rep w Z μ (ρ ps[i].2) (r qs[i].2.2)
  | [], qs, h => by simp [jH] at h; subst h; exact ⟨rfl, fun i h => by simp at h⟩
  | (i, x) :: ps, qs, h => by
    simp only [jH] at h
    split at h
    · rename_i x' r' e1 e2
      simp only [Option.some.injEq] at h; subst h
      obtain ⟨h1, h2⟩ := qD hρ e2
      refine ⟨by simp [h1], fun j h h' => ?_⟩
      cases j with
      | zero => exact ⟨⟨rfl, rfl⟩, hρ _ _ e1⟩
      | succ j => exact h2 j (by simpa using h) (by simpa using h')
    · cases h
theorem yZ {ρ : Operand → Value} {r : Opd → V} {zs : List Value} (hz : ∀ u ∈ zs, u.oneCell' = true) {ps : List (Nat × Operand)} {qs : List (Nat × Nat × Opd)} (place : Nat → Option (Nat × Nat))
    (hl : ps.length = qs.length) (hp : ∀ i (h : i < ps.length) (h' : i < qs.length), place ps[i].1 = some (qs[i].1, qs[i].2.1) ∧ Rep w Z μ (ρ ps[i].2) (r qs[i].2.2))
    (hq : ∀ p ∈ qs, (r p.2.2).cells.length = p.2.1 ∧ p.1 + p.2.1 ≤ zs.length ∧ r p.2.2 ≠ .top ∧ ∀ vs, r p.2.2 ≠ .tup vs) :
    ∃ a', Instr.fill place zs.toArray (ps.map fun p => (p.1, ρ p.2)) = some a' ∧ Rep w Z μ (.agg a') (.agg (yb (zs.map V.ofV) (qs.map fun p => (p.1, (r p.2.2).cells)))) := by
  obtain ⟨a', e1, e2, e3, e4⟩ := x9 (w := w) (Z := Z) (μ := μ) place (ps.map fun p => (p.1, ρ p.2)) (qs.map fun p => (p.1, (r p.2.2).cells)) zs.toArray (zs.map V.ofV) (by simp)
    (by simpa using vc (w := w) (Z := Z) (μ := μ) hz) (by simpa using hl) (fun i h h' => by
      simp only [List.length_map] at h h'
      obtain ⟨p1, p2⟩ := hp i h h'
      obtain ⟨q1, q2, q3, q4⟩ := hq qs[i] (List.getElem_mem h')
      obtain ⟨c1, c2⟩ := p2.cells q3 q4
      simp only [List.getElem_map, List.length_map]
      exact ⟨by rw [p1, c1, q1], c1, by rw [q1]; exact q2, c2⟩)
  exact ⟨a', e1, jZ (by rw [e2, e3]) e4⟩
theorem K0 (hg : Good C w Z μ o) {t : TypeId} {z : Value} {fs : Array Field} {ps : Array (Nat × Operand)} {qs : List (Nat × Nat × Opd)} {ρ : Operand → Value} {r : Opd → V}
    (hρ : ∀ x x', opd x = some x' → Rep w Z μ (ρ x) (r x')) (hz : VO C.P t = some z) (hu : C.P.underlying t = some (.struct fs)) (hfs : fs.all (fun f => (Jl C.P f.type).isSome) = true)
    (h1 : ∀ u ∈ z.cells.toList, u.oneCell' = true) (hq : jG C.P fs ps.toList = some qs) :
    OpV C b w Z μ o ((Instr.build t (ps.map fun (i, x) => (i, ρ x))).run C.P w) (.asrt (∀ p ∈ qs, (r p.2.2).cells.length = p.2.1 ∧ p.1 + p.2.1 ≤ z.cells.toList.length ∧ r p.2.2 ≠ .top ∧ ∀ vs, r p.2.2 ≠ .tup vs)
      (.ret { v := .agg (yb (z.cells.toList.map V.ofV) (qs.map fun p => (p.1, (r p.2.2).cells))) })) := by
  intro K hK
  obtain ⟨hK1, hK2⟩ := hK
  obtain ⟨hl, hp⟩ := qC hρ hq
  have hplaces : ∀ (l : List Field), (∀ f ∈ l, (Jl C.P f.type).isSome = true) → (l.mapM (fun f => do pure (f.offset, ← Go.sizeOf f.type) : Field → Sem (Nat × Nat))).run C.P w =
      .ok (l.map fun f => (f.offset, (Jl C.P f.type).getD 0)) w := by
    intro l
    induction l with
    | nil => intro _; rfl
    | cons f l ih =>
      intro hf
      obtain ⟨n, hn⟩ := Option.isSome_iff_exists.1 (hf f (by simp))
      have ih' := ih (fun x hx => hf x (by simp [hx]))
      simp only [List.mapM_cons, Sem.run_bind, Ji hn w, Result.andThen_ok, Sem.run_pure, ih', List.map_cons, hn, Option.getD_some]
  obtain ⟨a', e1, e2⟩ := yZ (ρ := ρ) (r := r) h1 (ps := ps.toList) (qs := qs) (fun i => (fs.toList.map fun f => (f.offset, (Jl C.P f.type).getD 0)).toArray[i]?) hl (fun i h h' => by
    obtain ⟨⟨f, f1, f2, f3⟩, f4⟩ := hp i h h'
    refine ⟨?_, f4⟩
    simp only [List.getElem?_toArray, List.getElem?_map, Array.getElem?_toList, f1, Option.map_some, f3, Option.getD_some, f2]) hK1
  refine ⟨_, .agg a', w, Z, μ, ?_, hK2, e2, hg, .refl⟩
  have hpl := hplaces fs.toList (fun f hf => by
    rw [Array.all_eq_true_iff_forall_mem] at hfs
    exact hfs f (by simpa using hf))
  have hmap : (ps.map fun (i, x) => (i, ρ x)).toList = ps.toList.map fun p => (p.1, ρ p.2) := by simp
  simp only [Instr.build, Sem.run_bind, X8 hz w, Result.andThen_ok, run_underlying hu w, Array.mapM_eq_mapM_toList, Sem.run_map, hpl, hmap]
  simp only [Array.toArray_toList] at e1
  rw [e1]
  rfl
end
end Av
end
section
namespace Av
open Go
section
variable {C : Ctx} {w : World} {Z : Nat → Nat → Prop} {μ : Nat → Option Cn} {o : Nat → Option Ob} {b : Nat}
theorem qE (hg : Good C w Z μ o) {t e : TypeId} {n sz : Nat} {z : Value} {ps : Array (Nat × Operand)} {qs : List (Nat × Nat × Opd)} {ρ : Operand → Value} {r : Opd → V}
    (hρ : ∀ x x', opd x = some x' → Rep w Z μ (ρ x) (r x')) (hz : VO C.P t = some z) (hu : C.P.underlying t = some (.array n e)) (he : Jl C.P e = some sz)
    (h1 : ∀ u ∈ z.cells.toList, u.oneCell' = true) (hq : jH sz ps.toList = some qs) :
    OpV C b w Z μ o ((Instr.build t (ps.map fun (i, x) => (i, ρ x))).run C.P w) (.asrt (∀ p ∈ qs, (r p.2.2).cells.length = p.2.1 ∧ p.1 + p.2.1 ≤ z.cells.toList.length ∧ r p.2.2 ≠ .top ∧ ∀ vs, r p.2.2 ≠ .tup vs)
      (.ret { v := .agg (yb (z.cells.toList.map V.ofV) (qs.map fun p => (p.1, (r p.2.2).cells))) })) := by
  intro K hK
  obtain ⟨hK1, hK2⟩ := hK
  obtain ⟨hl, hp⟩ := qD hρ hq
  obtain ⟨a', e1, e2⟩ := yZ (ρ := ρ) (r := r) h1 (ps := ps.toList) (qs := qs) (fun i => some (i * sz, sz)) hl (fun i h h' => by
    obtain ⟨⟨f1, f2⟩, f4⟩ := hp i h h'
    exact ⟨by rw [f1, f2], f4⟩) hK1
  refine ⟨_, .agg a', w, Z, μ, ?_, hK2, e2, hg, .refl⟩
  have hmap : (ps.map fun (i, x) => (i, ρ x)).toList = ps.toList.map fun p => (p.1, ρ p.2) := by simp
  simp only [Instr.build, Sem.run_bind, X8 hz w, Result.andThen_ok, run_underlying hu w, Ji he w, hmap]
  simp only [Array.toArray_toList] at e1
  rw [e1]
  rfl
theorem KD {μ : Nat → Option Cn} (sz : Nat) : ∀ (parts : List (Nat × Value)) (ps : List (Nat × V)) (a : Array Value) (xs : List V), Row w Z μ (fun k => a[k]?) sz xs → xs.length * sz ≤ a.size →
    parts.length = ps.length → (∀ i (h : i < parts.length) (h' : i < ps.length), parts[i].1 = ps[i].1 ∧ ps[i].1 < xs.length ∧ parts[i].2.cells.size = sz ∧ ps[i].2.cells.length = sz ∧
      Yo w Z μ (fun k => parts[i].2.cells[k]?) ps[i].2.cells) →
    ∃ a', Instr.fill (fun i => some (i * sz, sz)) a parts = some a' ∧ a'.size = a.size ∧ Row w Z μ (fun k => a'[k]?) sz (ps.foldl (fun xs p => xs.set p.1 p.2) xs)
  | [], [], a, xs, hr, _, _, _ => ⟨a, rfl, rfl, hr⟩
  | [], _ :: _, _, _, _, _, hl, _ => by simp at hl
  | _ :: _, [], _, _, _, _, hl, _ => by simp at hl
  | (i, v) :: parts, (i', x) :: ps, a, xs, hr, hs, hl, hp => by
    obtain ⟨p1, p2, p3, p4, p5⟩ := hp 0 (by simp) (by simp)
    simp only [List.getElem_cons_zero] at p1 p2 p3 p4 p5
    subst p1
    have hb : (i + 1) * sz ≤ xs.length * sz := Nat.mul_le_mul_right _ p2
    rw [Nat.add_mul] at hb
    obtain ⟨f1, f2, f3⟩ := qN (i * sz) v.cells.toList 0 a (by simp; omega)
    simp only [Nat.add_zero, Array.length_toList] at f1 f2 f3
    have hr' : Row w Z μ (fun k => ((v.cells.toList.zipIdx 0).foldl (fun cs p => cs.setIfInBounds (i * sz + p.2) p.1) a)[k]?) sz (xs.set i x) :=
      hr.set p4 (fun j hj => by
        obtain ⟨u, e1, e2, e3⟩ := p5 j hj
        exact ⟨u, by rw [f2 j (by omega)]; simpa using e1, e2, e3⟩) (fun k hk => f3 k (by omega))
    obtain ⟨a', e1, e2, e3⟩ := KD sz parts ps _ (xs.set i x) hr' (by rw [f1, List.length_set]; exact hs) (by simpa using hl) (fun j h h' => by
      have := hp (j + 1) (by simpa using h) (by simpa using h')
      simp only [List.getElem_cons_succ] at this
      rw [List.length_set]; exact this)
    refine ⟨a', ?_, by rw [e2, f1], e3⟩
    simp only [Instr.fill]
    rw [if_neg (by simp; omega), ← e1]
    congr 1
    rw [← Array.foldl_toList, Array.toList_zipIdx]
theorem VK (ps : List (Nat × V)) : ∀ xs : List V, (ps.foldl (fun xs p => xs.set p.1 p.2) xs).length = xs.length := by
  induction ps with
  | nil => intro _; rfl
  | cons p ps ih => intro xs; simp [ih]
theorem aa2 {ag : Bool} {sz : Nat} {zs : List Value} (hs : zs.length = sz) (h1 : ag = false → sz = 1) (hone : ∀ u ∈ zs, u.oneCell' = true) :
    (V.mk ag (zs.map V.ofV)).cells = zs.map V.ofV := by
  cases ag with
  | true => simp [V.mk, V.cells]
  | false =>
    have := h1 rfl
    subst this
    match zs, hs with
    | [z], _ => simp [V.mk]; exact vO (hone z (by simp))
theorem jV {μ : Nat → Option Cn} {ag : Bool} {sz n m : Nat} {zs : Array Value} (hs : zs.size = sz) (h1 : ag = false → sz = 1) (hone : ∀ u ∈ zs.toList, u.oneCell' = true) (hnm : n * sz ≤ m) :
    Row w Z μ (fun k => ((Array.range m).map (fun k => zs[k % zs.size]!))[k]?) sz (List.replicate n (V.mk ag (zs.toList.map V.ofV))) := by
  intro i hi
  simp only [List.length_replicate] at hi
  have hc := aa2 (ag := ag) (zs := zs.toList) (sz := sz) (by simpa using hs) h1 hone
  simp only [List.getElem_replicate]
  have hb : (i + 1) * sz ≤ n * sz := Nat.mul_le_mul_right _ hi
  rw [Nat.add_mul] at hb
  have e0 : ∀ j, j < sz → ((Array.range m).map (fun k => zs[k % zs.size]!))[i * sz + j]? = some zs[j]! := by
    intro j hj
    rw [Array.getElem?_map, Array.getElem?_range, if_pos (by omega), Option.map_some, hs]
    rw [Nat.mul_comm, Nat.mul_add_mod, Nat.mod_eq_of_lt hj]
  have el : (V.mk ag (zs.toList.map V.ofV)).cells.length = sz := by rw [hc]; simpa using hs
  refine ⟨el, fun j hj => ?_⟩
  have hj' : j < sz := by omega
  have hj2 : j < zs.size := by omega
  refine ⟨zs[j]!, e0 j hj', ?_, ?_⟩
  · rw [getElem!_pos zs j hj2]; exact hone _ (by simp)
  · have e1 : (V.mk ag (zs.toList.map V.ofV)).cells[j]? = some (V.ofV zs[j]) := by rw [hc]; simp [hj2]
    obtain ⟨_, e1⟩ := List.getElem?_eq_some_iff.1 e1
    rw [e1, getElem!_pos zs j hj2]; exact qy (hone _ (by simp))
theorem UE {ρ : Operand → Value} {r : Opd → V} (hρ : ∀ x x', opd x = some x' → Rep w Z μ (ρ x) (r x')) :
    ∀ {ps : List (Nat × Operand)} {qs : List (Nat × Opd)}, qB ps = some qs → ps.length = qs.length ∧
      ∀ i (h : i < ps.length) (h' : i < qs.length), ps[i].1 = qs[i].1 ∧ Rep w Z μ (ρ ps[i].2) (r qs[i].2)
  | [], qs, h => by simp [qB] at h; subst h; exact ⟨rfl, fun i h => by simp at h⟩
  | (i, x) :: ps, qs, h => by
    simp only [qB] at h
    split at h
    · rename_i x' r' e1 e2
      simp only [Option.some.injEq] at h; subst h
      obtain ⟨h1, h2⟩ := UE hρ e2
      refine ⟨by simp [h1], fun j h h' => ?_⟩
      cases j with
      | zero => exact ⟨rfl, hρ _ _ e1⟩
      | succ j => exact h2 j (by simpa using h) (by simpa using h')
    · cases h
theorem vT (hg : Good C w Z μ o) (hf : ∀ x, b ≤ x → x < b + KK → μ x = none) (hm : C.m ≤ b) {cells : Array Value} {e : TypeId} {sz cap : Nat} {xs : List V}
    (hr : Row w Z noμ (fun k => cells[k]?) sz xs) (hl : xs.length ≤ cap) (hs : cap * sz ≤ cells.size) {K : E → Prop} (hk : K { v := .hd b 0 xs.length, os := [(b, .buf true sz xs)] }) :
    ∃ e' v' w' Z' μ', (Result.ok (.slice (some ⟨w.heap.size, 0, none⟩) xs.length cap) (w.alloc (.cells cells e)) : Result Value) = .ok v' w' ∧ K e' ∧ Rep w' Z' μ' v' e'.v ∧
      Good C w' Z' μ' (Uh o e'.os) ∧ Evo b KK w Z μ w' Z' μ' := by
  have hx := hf b (Nat.le_refl _) (by simp [KK])
  refine j5 (c := { block := w.heap.size, base := 0, cap, sz, n := xs.length }) hg hf hm rfl ?_ ?_ hk
  · refine ⟨rfl, fun _ => ⟨rfl, hl, fun _ => zx hg, fun i hz => ((zx hg i) hz).elim, fun i hi => (hr i hi).1, cells, e, (0, 0), heap_alloc_new, by simpa using hs, fun k _ => by omega, fun i hi j hj => ?_⟩⟩
    obtain ⟨u, e1, e2, e3⟩ := (hr i hi).2 j hj
    exact ⟨u, by simpa using e1, e2, e3.mono (fun b i hz => Ya (hg.zlt b i hz)) (fun _ _ h => h) (fun _ _ h => h)⟩
  · refine .hd (c := { block := w.heap.size, base := 0, cap, sz, n := xs.length }) (Qh _ _ _) ?_
    simp [Hdr]
theorem wC (hg : Good C w Z μ o) (hf : ∀ x, b ≤ x → x < b + KK → μ x = none) (hm : C.m ≤ b) {t e : TypeId} {n sz : Nat} {ag : Bool} {z : Value} {ps : Array (Nat × Operand)} {qs : List (Nat × Opd)}
    {ρ : Operand → Value} {r : Opd → V} (hρ : ∀ x x', opd x = some x' → Rep w Z μ (ρ x) (r x')) (hu : C.P.underlying t = some (.slice e)) (he : Jl C.P e = some sz) (hz : VO C.P e = some z)
    (h24 : n * sz ≤ 2 ^ 24) (h0 : 1 ≤ sz) (hzs : z.cells.size = sz) (h1 : ag = false → sz = 1) (hone : ∀ u ∈ z.cells.toList, u.oneCell' = true) (hq : qB ps.toList = some qs) :
    OpV C b w Z μ o ((Instr.buildSlice t n (ps.map fun (i, x) => (i, ρ x))).run C.P w) (.asrt (∀ p ∈ qs, p.1 < n ∧ V2 ag sz (r p.2) ∧ (r p.2).closed)
      (.ret { v := .hd b 0 n, os := [(b, .buf true sz (Wy n (V.mk ag (z.cells.toList.map V.ofV)) (qs.map fun p => (p.1, r p.2))))] })) := by
  intro K hK
  obtain ⟨hK1, hK2⟩ := hK
  obtain ⟨hl, hp⟩ := UE hρ hq
  have hrow : Row w Z noμ (fun k => ((Array.range (n * sz)).map (fun k => (if n * sz = 0 then #[] else z.cells)[k % (if n * sz = 0 then (#[] : Array Value) else z.cells).size]!))[k]?) sz
      (List.replicate n (V.mk ag (z.cells.toList.map V.ofV))) := by
    by_cases hn : n * sz = 0
    · have : n = 0 := by
        rcases Nat.mul_eq_zero.1 hn with h | h
        · exact h
        · omega
      subst this
      exact Row.nil
    · simp only [hn, if_false]
      exact jV hzs h1 hone (Nat.le_refl _)
  obtain ⟨a', e1, e2, e3⟩ := KD (w := w) (Z := Z) (μ := noμ) sz (ps.toList.map fun p => (p.1, ρ p.2)) (qs.map fun p => (p.1, r p.2)) _ _ hrow (by simp) (by simpa using hl) (fun i h h' => by
    simp only [List.length_map] at h h'
    obtain ⟨p1, p2⟩ := hp i h h'
    obtain ⟨q1, q2, q3⟩ := hK1 qs[i] (List.getElem_mem h')
    have hcr : ∀ v x, Rep w Z noμ v x → V2 ag sz x → v.cells.size = sz ∧ x.cells.length = sz ∧ Yo w Z noμ (fun k => v.cells[k]?) x.cells := by
      intro v x hr hx
      cases ag with
      | true =>
        cases x with
        | agg cs =>
          have := hr.cells (by simp) (by simp)
          simp only [V.cells] at this ⊢
          have hx : cs.length = sz := hx
          exact ⟨by omega, hx, this.2⟩
        | _ => exact hx.elim
      | false =>
        have hx : x.small = true := hx
        obtain ⟨n1, n2, n3⟩ := V.small_ne hx
        have hc := hr.cells n1 n2
        have h1' := h1 rfl
        have e : x.cells.length = 1 := by rw [n3]; rfl
        exact ⟨by omega, by omega, hc.2⟩
    obtain ⟨c1, c2, c3⟩ := hcr _ _ (p2.close q3) q2
    simp only [List.getElem_map, List.length_replicate]
    exact ⟨p1, q1, c1, c2, c3⟩)
  have hmap : (ps.map fun (i, x) => (i, ρ x)).toList = ps.toList.map fun p => (p.1, ρ p.2) := by simp
  have hlen : (Wy n (V.mk ag (z.cells.toList.map V.ofV)) (qs.map fun p => (p.1, r p.2))).length = n := by
    unfold Wy; rw [VK]; simp
  have hrun : (Instr.buildSlice t n (ps.map fun (i, x) => (i, ρ x))).run C.P w = .ok (.slice (some ⟨w.heap.size, 0, none⟩) n n) (w.alloc (.cells a' e)) := by
    have h24' : ¬ n * sz > 2 ^ 24 := by omega
    simp only [Instr.buildSlice, Sem.run_bind, run_underlying hu w, Result.andThen_ok, Ji he w, h24', if_false]
    by_cases hn : n * sz = 0
    · simp only [hn, if_true] at e1 ⊢
      simp only [Sem.run_bind, Sem.run_pure, Result.andThen_ok]
      rw [hmap, e1]
      simp [newRow, newObj, Sem.run]
    · simp only [hn, if_false] at e1 ⊢
      simp only [Sem.run_bind, Sem.run_pure, Result.andThen_ok, X8 hz w]
      rw [hmap, e1]
      simp [newRow, newObj, Sem.run]
  rw [hrun]
  have := vT hg hf hm (cells := a') (e := e) (cap := n) (xs := Wy n (V.mk ag (z.cells.toList.map V.ofV)) (qs.map fun p => (p.1, r p.2))) e3 (by omega) (by rw [e2]; simp) (K := K) (by rw [hlen]; exact hK2)
  rwa [hlen] at this
theorem aa1 (hg : Good C w Z μ o) (hf : ∀ x, b ≤ x → x < b + KK → μ x = none) (hm : C.m ≤ b) {cells : Array Value} {e : TypeId} {sz cap : Nat} {xs : List V}
    (hr : Row w Z μ (fun k => cells[k]?) sz xs) (hl : xs.length ≤ cap) (hs : cap * sz ≤ cells.size) {K : E → Prop} (hk : K { v := .hd b 0 xs.length, os := [(b, .obuf true sz xs)] }) :
    ∃ e' v' w' Z' μ', (Result.ok (.slice (some ⟨w.heap.size, 0, none⟩) xs.length cap) (w.alloc (.cells cells e)) : Result Value) = .ok v' w' ∧ K e' ∧ Rep w' Z' μ' v' e'.v ∧
      Good C w' Z' μ' (Uh o e'.os) ∧ Evo b KK w Z μ w' Z' μ' := by
  have hx := hf b (Nat.le_refl _) (by simp [KK])
  refine j5 (c := { block := w.heap.size, base := 0, cap, sz, n := xs.length }) hg hf hm rfl ?_ ?_ hk
  · refine ⟨rfl, fun _ => ⟨rfl, hl, fun _ => zx hg, fun i hz => ((zx hg i) hz).elim, fun i hi => (hr i hi).1, cells, e, (0, 0), heap_alloc_new, by simpa using hs, fun k _ => by omega, fun i hi j hj => ?_⟩⟩
    obtain ⟨u, e1, e2, e3⟩ := (hr i hi).2 j hj
    exact ⟨u, by simpa using e1, e2, e3.mono (fun b i hz => Ya (hg.zlt b i hz)) (fun _ _ h => h) (Wq hx)⟩
  · refine .hd (c := { block := w.heap.size, base := 0, cap, sz, n := xs.length }) (Qh _ _ _) ?_
    simp [Hdr]
theorem xf (hg : Good C w Z μ o) (hf : ∀ x, b ≤ x → x < b + KK → μ x = none) (hm : C.m ≤ b) {t e : TypeId} {n sz : Nat} {ag : Bool} {z : Value} {ps : Array (Nat × Operand)} {qs : List (Nat × Opd)}
    {ρ : Operand → Value} {r : Opd → V} (hρ : ∀ x x', opd x = some x' → Rep w Z μ (ρ x) (r x')) (hu : C.P.underlying t = some (.slice e)) (he : Jl C.P e = some sz) (hz : VO C.P e = some z)
    (h24 : n * sz ≤ 2 ^ 24) (h0 : 1 ≤ sz) (hzs : z.cells.size = sz) (h1 : ag = false → sz = 1) (hone : ∀ u ∈ z.cells.toList, u.oneCell' = true) (hq : qB ps.toList = some qs) :
    OpV C b w Z μ o ((Instr.buildSlice t n (ps.map fun (i, x) => (i, ρ x))).run C.P w) (.asrt (∀ p ∈ qs, p.1 < n ∧ V2 ag sz (r p.2))
      (.ret { v := .hd b 0 n, os := [(b, .obuf true sz (Wy n (V.mk ag (z.cells.toList.map V.ofV)) (qs.map fun p => (p.1, r p.2))))] })) := by
  intro K hK
  obtain ⟨hK1, hK2⟩ := hK
  obtain ⟨hl, hp⟩ := UE hρ hq
  have hrow : Row w Z μ (fun k => ((Array.range (n * sz)).map (fun k => (if n * sz = 0 then #[] else z.cells)[k % (if n * sz = 0 then (#[] : Array Value) else z.cells).size]!))[k]?) sz
      (List.replicate n (V.mk ag (z.cells.toList.map V.ofV))) := by
    by_cases hn : n * sz = 0
    · have : n = 0 := by
        rcases Nat.mul_eq_zero.1 hn with h | h
        · exact h
        · omega
      subst this
      exact Row.nil
    · simp only [hn, if_false]
      exact jV hzs h1 hone (Nat.le_refl _)
  obtain ⟨a', e1, e2, e3⟩ := KD (w := w) (Z := Z) (μ := μ) sz (ps.toList.map fun p => (p.1, ρ p.2)) (qs.map fun p => (p.1, r p.2)) _ _ hrow (by simp) (by simpa using hl) (fun i h h' => by
    simp only [List.length_map] at h h'
    obtain ⟨p1, p2⟩ := hp i h h'
    obtain ⟨q1, q2⟩ := hK1 qs[i] (List.getElem_mem h')
    have hcr : ∀ v x, Rep w Z μ v x → V2 ag sz x → v.cells.size = sz ∧ x.cells.length = sz ∧ Yo w Z μ (fun k => v.cells[k]?) x.cells := by
      intro v x hr hx
      cases ag with
      | true =>
        cases x with
        | agg cs =>
          have := hr.cells (by simp) (by simp)
          simp only [V.cells] at this ⊢
          have hx : cs.length = sz := hx
          exact ⟨by omega, hx, this.2⟩
        | _ => exact hx.elim
      | false =>
        have hx : x.small = true := hx
        obtain ⟨n1, n2, n3⟩ := V.small_ne hx
        have hc := hr.cells n1 n2
        have h1' := h1 rfl
        have e : x.cells.length = 1 := by rw [n3]; rfl
        exact ⟨by omega, by omega, hc.2⟩
    obtain ⟨c1, c2, c3⟩ := hcr _ _ p2 q2
    simp only [List.getElem_map, List.length_replicate]
    exact ⟨p1, q1, c1, c2, c3⟩)
  have hmap : (ps.map fun (i, x) => (i, ρ x)).toList = ps.toList.map fun p => (p.1, ρ p.2) := by simp
  have hlen : (Wy n (V.mk ag (z.cells.toList.map V.ofV)) (qs.map fun p => (p.1, r p.2))).length = n := by
    unfold Wy; rw [VK]; simp
  have hrun : (Instr.buildSlice t n (ps.map fun (i, x) => (i, ρ x))).run C.P w = .ok (.slice (some ⟨w.heap.size, 0, none⟩) n n) (w.alloc (.cells a' e)) := by
    have h24' : ¬ n * sz > 2 ^ 24 := by omega
    simp only [Instr.buildSlice, Sem.run_bind, run_underlying hu w, Result.andThen_ok, Ji he w, h24', if_false]
    by_cases hn : n * sz = 0
    · simp only [hn, if_true] at e1 ⊢
      simp only [Sem.run_bind, Sem.run_pure, Result.andThen_ok]
      rw [hmap, e1]
      simp [newRow, newObj, Sem.run]
    · simp only [hn, if_false] at e1 ⊢
      simp only [Sem.run_bind, Sem.run_pure, Result.andThen_ok, X8 hz w]
      rw [hmap, e1]
      simp [newRow, newObj, Sem.run]
  rw [hrun]
  have := aa1 hg hf hm (cells := a') (e := e) (cap := n) (xs := Wy n (V.mk ag (z.cells.toList.map V.ofV)) (qs.map fun p => (p.1, r p.2))) e3 (by omega) (by rw [e2]; simp) (K := K) (by rw [hlen]; exact hK2)
  rwa [hlen] at this
end
end Av
end
section
namespace Av
open Go
section
variable {C : Ctx} {w : World} {Z : Nat → Nat → Prop} {μ : Nat → Option Cn} {o : Nat → Option Ob} {b : Nat}
theorem Vy {P : Program} (op : BinOp) (t : TypeId) (x y : Operand) (a c : Value) (h1 : ∀ u, a ≠ .agg u) (h2 : a ≠ .nilIface) : (eqGuard op t x y a c).run P w = .ok () w := by
  unfold eqGuard
  cases op <;> cases a <;> simp_all
theorem vL (hg : Good C w Z μ o) {t : TypeId} {op : BinOp} {x y : Operand} {cx cy : Value} {r : Opd → V} {x' y' : Opd} (hx : Rep w Z μ cx (r x')) (hy : Rep w Z μ cy (r y')) :
    OpV C b w Z μ o ((do eqGuard op t x y cx cy; binOp op t cx cy : Sem Value).run C.P w) (sem b r (.bin op x' y')) := by
  intro K h
  simp only [sem] at h
  split at h
  · rename_i k a k' c h1 h2
    rw [h1] at hx; rw [h2] at hy
    obtain ⟨rfl, h⟩ := h
    obtain ⟨rfl, _⟩ := hx.scE
    obtain ⟨rfl, _⟩ := hy.scE
    obtain ⟨u, e1, e2, e3⟩ := aaq (C := C) (w := w) op k a c t h
    exact ⟨_, u, w, Z, μ, by simp [Sem.run_bind, Vy op t x y (.int k a) (.int k c) (by simp) (by simp), e1], e3, .sc e2, hg, .refl⟩
  · rename_i a c h1 h2
    rw [h1] at hx; rw [h2] at hy
    obtain ⟨rfl, _⟩ := hx.scE
    obtain ⟨rfl, _⟩ := hy.scE
    obtain ⟨u, e1, e2, e3⟩ := aap (C := C) (w := w) op a c t h
    exact ⟨_, u, w, Z, μ, by simp [Sem.run_bind, Vy op t x y (.string a) (.string c) (by simp) (by simp), e1], e3, .sc e2, hg, .refl⟩
  · exact h.elim
theorem vJ (hg : Good C w Z μ o) {t : TypeId} {neg : Bool} {x y : Operand} {cx cy : Value} {r : Opd → V} {x' y' : Opd} (hu : C.P.underlying t = some .bool) (hx : Rep w Z μ cx (r x')) (hy : Rep w Z μ cy (r y')) :
    OpV C b w Z μ o ((do eqGuard (if neg then .neq else .eql) t x y cx cy; binOp (if neg then .neq else .eql) t cx cy : Sem Value).run C.P w)
      (sem b r (.eqb neg x' y')) := by
  intro K h
  simp only [sem] at h
  split at h
  · rename_i a c h1 h2
    rw [h1] at hx; rw [h2] at hy
    obtain ⟨rfl, _⟩ := hx.scE
    obtain ⟨rfl, _⟩ := hy.scE
    refine ⟨_, .bool (if neg then a != c else a == c), w, Z, μ, ?_, h, .sc rfl, hg, .refl⟩
    have he : (Op.equal t (.bool a) (.bool c)).run C.P w = .ok (a == c) w := by
      have key : ∀ d, (Op.equalIn (d + 1) t (.bool a) (.bool c)).run C.P w = .ok (a == c) w := fun d => by simp [Op.equalIn, run_underlying hu w]
      exact key 9999
    cases neg <;> simp [Sem.run_bind, Vy _ t x y (.bool a) (.bool c) (by simp) (by simp), binOp, he, bne]
  · exact h.elim
theorem Vz {P : Program} (op : BinOp) (t : TypeId) (x y : Operand) (a c : Value) (h1 : ∀ u, a ≠ .agg u) (hy : ∃ u, y = .const u) : (eqGuard op t x y a c).run P w = .ok () w := by
  obtain ⟨u, rfl⟩ := hy
  unfold eqGuard
  cases op <;> cases a <;> simp_all <;> (cases c <;> simp_all)
theorem qr {P : Program} {t : TypeId} {neg : Bool} {x : Operand} {e : TypeId} (h : P.underlying t = some (.slice e)) (a : Option Addr) (l c : Nat) :
    ((do eqGuard (if neg then .neq else .eql) t x (.const (.slice none 0 0)) (.slice a l c) (.slice none 0 0); binOp (if neg then .neq else .eql) t (.slice a l c) (.slice none 0 0) : Sem Value)).run P w
      = .ok (.bool (if neg then !a.isNone else a.isNone)) w := by
  have he : (Op.equal t (.slice a l c) (.slice none 0 0)).run P w = .ok a.isNone w := by
    have key : ∀ d, (Op.equalIn (d + 1) t (.slice a l c) (.slice none 0 0)).run P w = .ok a.isNone w := fun d => by cases a <;> simp [Op.equalIn, run_underlying h w]
    exact key 9999
  cases neg <;> simp [Sem.run_bind, Vz _ t x (.const (.slice none 0 0)) (.slice a l c) (.slice none 0 0) (by simp) ⟨_, rfl⟩, binOp, he]
theorem qt {P : Program} {t : TypeId} {neg : Bool} {x : Operand} {e : Array (String × TypeId)} (h : P.underlying t = some (.interface e)) {cx : Value} {r : Bool}
    (hr : cx = .nilIface ∧ r = true ∨ (∃ t u, cx = .iface t u) ∧ r = false) :
    ((do eqGuard (if neg then .neq else .eql) t x (.const .nilIface) cx .nilIface; binOp (if neg then .neq else .eql) t cx .nilIface : Sem Value)).run P w
      = .ok (.bool (if neg then !r else r)) w := by
  have he : (Op.equal t cx .nilIface).run P w = .ok r w := by
    have key : ∀ d, (Op.equalIn (d + 1) t cx .nilIface).run P w = .ok r w := fun d => by
      rcases hr with ⟨rfl, rfl⟩ | ⟨⟨t', u, rfl⟩, rfl⟩ <;> simp [Op.equalIn, run_underlying h w]
    exact key 9999
  have hna : ∀ u, cx ≠ .agg u := by rcases hr with ⟨rfl, _⟩ | ⟨⟨t', u, rfl⟩, _⟩ <;> simp
  rcases hr with ⟨rfl, rfl⟩ | ⟨⟨t', u, rfl⟩, rfl⟩
  · cases neg <;> simp [Sem.run_bind, Vz _ t x (.const .nilIface) .nilIface .nilIface hna ⟨_, rfl⟩, binOp, he]
  · cases neg <;> simp [Sem.run_bind, Vz _ t x (.const .nilIface) (.iface t' u) .nilIface hna ⟨_, rfl⟩, binOp, he]
theorem VX (hg : Good C w Z μ o) {t : TypeId} {neg : Bool} {x : Operand} {e : TypeId} (hu : C.P.underlying t = some (.slice e)) {cx : Value} {r : Opd → V} {x' : Opd} (hx : Rep w Z μ cx (r x')) :
    OpV C b w Z μ o ((do eqGuard (if neg then .neq else .eql) t x (.const (.slice none 0 0)) cx (.slice none 0 0); binOp (if neg then .neq else .eql) t cx (.slice none 0 0) : Sem Value).run C.P w) (sem b r (.isnil neg x')) := by
  intro K h
  have fin : ∀ a l c, cx = .slice a l c → K { v := .bool (if neg then !a.isNone else a.isNone) } → ∃ e v w' Z' μ', ((do eqGuard (if neg then .neq else .eql) t x (.const (.slice none 0 0)) cx (.slice none 0 0); binOp (if neg then .neq else .eql) t cx (.slice none 0 0) : Sem Value)).run C.P w = .ok v w' ∧ K e ∧ Rep w' Z' μ' v e.v ∧ Good C w' Z' μ' (Uh o e.os) ∧ Evo b KK w Z μ w' Z' μ' :=
    fun a l c hc hk => ⟨_, _, w, Z, μ, by rw [hc]; exact qr hu a l c, hk, .sc rfl, hg, .refl⟩
  simp only [sem] at h
  split at h
  · rename_i h1; rw [h1] at hx
    obtain ⟨h2, _⟩ := hx.scE
    exact fin _ _ _ h2 (by simpa [AM.wp] using h)
  · rename_i h1; rw [h1] at hx
    obtain ⟨a', cap, h2, _, hne⟩ := hx.slE
    obtain ⟨bb, oo, rfl, _⟩ := hne (by simp)
    exact fin _ _ _ h2 (by simpa [AM.wp] using h)
  · rename_i h1; rw [h1] at hx
    obtain ⟨a', cap, h2, _, hne⟩ := hx.slE
    refine fin _ _ _ h2 (h a'.isNone).2
  · rename_i h1; rw [h1] at hx
    obtain ⟨c, hm, hh⟩ := hx.hdE
    obtain ⟨ob, _, h⟩ := h
    dsimp only at h
    split at h
    · have : ∃ a l c, cx = .slice a l c := by
        unfold Hdr at hh; split at hh
        · exact ⟨_, _, _, hh.1⟩
        · obtain ⟨ad, h, _⟩ := hh; exact ⟨_, _, _, h⟩
      obtain ⟨a, l, c, hc⟩ := this
      exact fin _ _ _ hc (h a.isNone)
    · have : ∃ a l c, cx = .slice a l c := by
        unfold Hdr at hh; split at hh
        · exact ⟨_, _, _, hh.1⟩
        · obtain ⟨ad, h, _⟩ := hh; exact ⟨_, _, _, h⟩
      obtain ⟨a, l, c, hc⟩ := this
      exact fin _ _ _ hc (h a.isNone)
    · exact h.elim
  · exact h.elim
theorem VY (hg : Good C w Z μ o) {t : TypeId} {neg : Bool} {x : Operand} {e : Array (String × TypeId)} (hu : C.P.underlying t = some (.interface e)) {cx : Value} {r : Opd → V} {x' : Opd} (hx : Rep w Z μ cx (r x')) :
    OpV C b w Z μ o ((do eqGuard (if neg then .neq else .eql) t x (.const .nilIface) cx .nilIface; binOp (if neg then .neq else .eql) t cx .nilIface : Sem Value).run C.P w) (sem b r (.isnilI neg x')) := by
  intro K h
  have fin : ∀ q, (cx = .nilIface ∧ q = true ∨ (∃ t u, cx = .iface t u) ∧ q = false) → K { v := .bool (if neg then !q else q) } → ∃ e v w' Z' μ', ((do eqGuard (if neg then .neq else .eql) t x (.const .nilIface) cx .nilIface; binOp (if neg then .neq else .eql) t cx .nilIface : Sem Value)).run C.P w = .ok v w' ∧ K e ∧ Rep w' Z' μ' v e.v ∧ Good C w' Z' μ' (Uh o e.os) ∧ Evo b KK w Z μ w' Z' μ' :=
    fun q hq hk => ⟨_, _, w, Z, μ, qt hu hq, hk, .sc rfl, hg, .refl⟩
  simp only [sem] at h
  split at h
  · rename_i h1; rw [h1] at hx
    exact fin false (.inr ⟨hx.nnE, rfl⟩) (by simpa [AM.wp] using h)
  · rename_i h1; rw [h1] at hx
    exact fin true (.inl ⟨hx.scE.1, rfl⟩) (by simpa [AM.wp] using h)
  · exact h.elim
end
end Av
end
section
namespace Av
open Go
section
variable {C : Ctx} {w : World} {Z : Nat → Nat → Prop} {μ : Nat → Option Cn} {o : Nat → Option Ob} {b : Nat} {r : Opd → V}
theorem acz (hg : Good C w Z μ o) {op : UnOp} {cx : Value} {x : Opd} (hx : Rep w Z μ cx (r x)) : OpV C b w Z μ o ((Op.unary op cx).run C.P w) (sem b r (.un op x)) := by
  intro K h
  simp only [sem] at h
  split at h
  · rename_i h1; rw [h1] at hx
    obtain ⟨rfl, _⟩ := hx.scE
    exact ⟨_, _, w, Z, μ, by simp [Op.unary, Op.intArith], h, .sc rfl, hg, .refl⟩
  · rename_i h1; rw [h1] at hx
    obtain ⟨rfl, _⟩ := hx.scE
    exact ⟨_, _, w, Z, μ, by simp [Op.unary], h, .sc rfl, hg, .refl⟩
  · exact h.elim
theorem vK (hg : Good C w Z μ o) {s d : TypeId} {k k' : IntKind} (hs : C.P.underlying s = some (.int k')) (hd : C.P.underlying d = some (.int k)) {cx : Value} {x : Opd} (hx : Rep w Z μ cx (r x)) :
    OpV C b w Z μ o ((convert s d cx).run C.P w) (sem b r (.convI k x)) := by
  intro K h
  simp only [sem] at h
  replace h := Vp hx h
  obtain ⟨kd, n, rfl, h⟩ := h
  exact ⟨_, _, w, Z, μ, by simp [convert, run_underlying hs w, run_underlying hd w, Conv.intToInt], h, .sc rfl, hg, .refl⟩
theorem abT (hg : Good C w Z μ o) {s d : TypeId} (hs : C.P.underlying s = some .string) (hd : C.P.underlying d = some .string) {cx : Value} {x : Opd} (hx : Rep w Z μ cx (r x)) :
    OpV C b w Z μ o ((convert s d cx).run C.P w) (sem b r (.idS x)) := by
  intro K h
  simp only [sem] at h
  replace h := Kl hx h
  obtain ⟨u, rfl, h⟩ := h
  exact ⟨_, _, w, Z, μ, by simp [convert, run_underlying hs w, run_underlying hd w], h, .sc rfl, hg, .refl⟩
theorem Ui {ρ : Operand → Value} (hρ : ∀ x x', opd x = some x' → Rep w Z μ (ρ x) (r x')) : ∀ {xs : List Operand} {ys : List Opd}, opds xs = some ys → xs.length = ys.length ∧
    ∀ j (h : j < xs.length) (h' : j < ys.length), Rep w Z μ (ρ xs[j]) (r ys[j])
  | [], ys, h => by simp [opds] at h; subst h; exact ⟨rfl, fun j h => by simp at h⟩
  | x :: xs, ys, h => by
    simp only [opds] at h
    split at h
    · rename_i a b' e1 e2
      simp only [Option.some.injEq] at h; subst h
      obtain ⟨h1, h2⟩ := Ui hρ e2
      refine ⟨by simp [h1], fun j h h' => ?_⟩
      cases j with
      | zero => exact hρ _ _ e1
      | succ j => exact h2 j (by simpa using h) (by simpa using h')
    · cases h
theorem aaO (hg : Good C w Z μ o) {ρ : Operand → Value} (hρ : ∀ x x', opd x = some x' → Rep w Z μ (ρ x) (r x')) {f : FuncId} {first cap : Array Operand} {cs : List Opd} (hfi : first.isEmpty = true) (h : opds cap.toList = some cs) :
    OpV C b w Z μ o ((Instr.makeFunc (.func f) (first.map ρ) (cap.map ρ)).run C.P w) (sem b r (.mkfn (.n f) cs)) := by
  intro K hk
  obtain ⟨h1, h2⟩ := Ui hρ h
  have : first = #[] := by simpa using hfi
  subst this
  refine ⟨_, .func (.func f) #[] (cap.map ρ), w, Z, μ, by simp [Instr.makeFunc], hk, .clo (by simpa using h1) (fun j hj hj' => ?_), hg, .refl⟩
  simp only [List.length_map] at hj
  simp only [Array.size_map] at hj'
  have := h2 j (by simpa using hj') hj
  simpa using this
theorem vG (hg : Good C w Z μ o) {ρ : Operand → Value} (hρ : ∀ x x', opd x = some x' → Rep w Z μ (ρ x) (r x')) {f : FuncId} {first cap : Array Operand} {cs : List Opd} (hca : cap.isEmpty = true) (h : opds first.toList = some cs) :
    OpV C b w Z μ o ((Instr.makeFunc (.func f) (first.map ρ) (cap.map ρ)).run C.P w) (sem b r (.mkfn (.m f) cs)) := by
  intro K hk
  obtain ⟨h1, h2⟩ := Ui hρ h
  have : cap = #[] := by simpa using hca
  subst this
  refine ⟨_, .func (.func f) (first.map ρ) #[], w, Z, μ, by simp [Instr.makeFunc], hk, .clm (by simpa using h1) (fun j hj hj' => ?_), hg, .refl⟩
  simp only [List.length_map] at hj
  simp only [Array.size_map] at hj'
  have := h2 j (by simpa using hj') hj
  simpa using this
theorem vI (hg : Good C w Z μ o) {t : TypeId} {fs : Array Field} {i : Nat} {f : Field} {n : Nat} (hu : C.P.underlying t = some (.struct fs)) (hf : fs[i]? = some f) (hn : Jl C.P f.type = some (n + 1))
    {cx : Value} {x : Opd} (hx : Rep w Z μ cx (r x)) : OpV C b w Z μ o ((Instr.fieldAt t cx i).run C.P w) (sem b r (.faddr f.offset x)) := by
  have hrun : ∀ bb oo, (Instr.fieldAt t (.pointer (some ⟨bb, oo, none⟩)) i).run C.P w = .ok (.pointer (some ⟨bb, oo + f.offset, none⟩)) w := by
    intro bb oo
    simp only [Instr.fieldAt, Sem.run_bind, run_underlying hu w, Result.andThen_ok, hf, Instr.sureAddr, Sem.run_pure, fieldPlace, Ji hn w]
    simp [Xb]
  intro K h
  simp only [sem] at h
  split at h
  · rename_i h1; rw [h1] at hx
    obtain ⟨c, hm, rfl⟩ := hx.ptrE
    exact ⟨_, _, w, Z, μ, hrun _ _, h, .ptr hm, hg, .refl⟩
  · rename_i h1; rw [h1] at hx
    obtain ⟨c, hm, hv, hi, rfl⟩ := hx.eptE
    refine ⟨_, _, w, Z, μ, hrun _ _, h, ?_, hg, .refl⟩
    rw [show ∀ p q : Nat, c.base + (p * c.sz + q) + f.offset = c.base + (p * c.sz + (q + f.offset)) by intros; omega]
    exact .ept hm hv hi
  · rename_i h1; rw [h1] at hx
    obtain ⟨bb, oo, ff, rfl, e1, e2⟩ := hx.roE
    refine ⟨_, _, w, Z, μ, hrun _ _, h, ?_, hg, .refl⟩
    rw [Nat.add_assoc]
    exact .ro ff e1 e2
  · exact h.elim
theorem Xp {P : Program} {t : TypeId} {ag : Bool} {sz : Nat} (h1 : qj P t = some ag) (h2 : Jl P t = some sz) (cs : Array Value) (off : Nat) :
    (part t cs off).run P w = if ag then .ok (.agg (cs.extract off (off + sz))) w else (match cs[off]? with | some v => .ok v w | none => .halt (.stuck "part: no such cell") w) := by
  simp only [part, Sem.run_bind, jD h1 w, Result.andThen_ok]
  cases ag with
  | true => simp [Ji h2 w]
  | false =>
    simp only [Bool.false_eq_true, if_false]
    cases cs[off]? <;> rfl
theorem xP {ag : Bool} {sz off : Nat} {cs : Array Value} {vs : List V} (hs : cs.size = vs.length) (ho : ∀ j (h : j < cs.size), cs[j].oneCell' = true)
    (hr : ∀ j (h : j < vs.length) (h' : j < cs.size), Rep w Z μ cs[j] vs[j]) {K : E → Prop}
    (h : (if ag then AM.asrt (off + sz ≤ vs.length) (.ret { v := .agg ((vs.drop off).take sz) }) else (match vs[off]? with | some v => .ret { v } | none => .no) : AM E).wp o K) :
    ∃ e v, (if ag then (.ok (.agg (cs.extract off (off + sz))) w : Result Value) else (match cs[off]? with | some v => .ok v w | none => .halt (.stuck "part: no such cell") w)) = .ok v w ∧ K e ∧ Rep w Z μ v e.v ∧ e.os = [] := by
  cases ag with
  | true =>
    simp only [if_true] at h ⊢
    refine ⟨_, _, rfl, h.2, .agg ?_ (fun j hj => ?_) (fun j hj hj' => ?_), rfl⟩
    · have := h.1; simp; omega
    · simp at hj ⊢; exact ho _ (by omega)
    · simp at hj hj' ⊢; exact hr (off + j) (by omega) (by omega)
  | false =>
    simp only [Bool.false_eq_true, if_false] at h ⊢
    split at h
    · rename_i v hv
      obtain ⟨hl, rfl⟩ := List.getElem?_eq_some_iff.1 hv
      have hl' : off < cs.size := by omega
      exact ⟨_, cs[off], by simp [hl'], h, hr off hl hl', rfl⟩
    · exact h.elim
theorem abU (hg : Good C w Z μ o) {t : TypeId} {fs : Array Field} {i : Nat} {f : Field} {ag : Bool} {sz : Nat} (hu : C.P.underlying t = some (.struct fs)) (hf : fs[i]? = some f) (h1 : qj C.P f.type = some ag) (h2 : Jl C.P f.type = some sz)
    {cx : Value} {x : Opd} (hx : Rep w Z μ cx (r x)) : OpV C b w Z μ o ((Instr.field t cx i).run C.P w) (sem b r (.fld ag f.offset sz x)) := by
  intro K h
  simp only [sem] at h
  split at h
  · rename_i vs hv; rw [hv] at hx
    obtain ⟨cs, rfl, hs, ho, hr⟩ := hx.aggE
    obtain ⟨e, v, e1, e2, e3, e4⟩ := xP hs ho hr h
    refine ⟨e, v, w, Z, μ, ?_, e2, e3, by rw [e4]; exact hg, .refl⟩
    simp only [Instr.field, Sem.run_bind, run_underlying hu w, Result.andThen_ok, hf, asAgg, Sem.run_pure]
    rw [Xp h1 h2]; exact e1
  · exact h.elim
theorem XR {P : Program} (k : IntKind) (n : Int) : (asIntOf (.int k n)).run P w = .ok (k, n) w := rfl
theorem vH (hg : Good C w Z μ o) {t e : TypeId} {sz : Nat} (hu : C.P.underlying t = some (.slice e)) (he : Jl C.P e = some sz) {cx ci : Value} {x i : Opd} (hx : Rep w Z μ cx (r x)) (hi : Rep w Z μ ci (r i)) :
    OpV C b w Z μ o ((Instr.indexAt t cx ci).run C.P w) (sem b r (.iaddr sz x i)) := by
  have hrun : ∀ ad (len : Nat) cap k n, 0 ≤ n → n < (len : Int) → (Instr.indexAt t (.slice (some ad) len cap) (.int k n)).run C.P w = .ok (.pointer (some (ad.add (n.toNat * sz)))) w := by
    intro ad len cap k n h0 h1
    simp only [Instr.indexAt, Sem.run_bind, XR, Result.andThen_ok, run_underlying hu w, Sem.run_pure, h0, h1, and_self, if_true]
    by_cases hl : len ≤ 1 <;> simp [hl, run_underlying hu w, Ji he w]
  intro K h
  simp only [sem] at h
  replace h := Vp hi h
  obtain ⟨k, n, rfl, h⟩ := h
  split at h
  · rename_i a off len h1; rw [h1] at hx
    obtain ⟨c, hm, hh⟩ := hx.hdE
    obtain ⟨ob, hoa, h⟩ := h
    dsimp only at h
    split at h
    · rename_i wr s xs
      obtain ⟨⟨hs, h0, h1⟩, h⟩ := h
      obtain ⟨c', hm', hok, _⟩ := hg.ob a _ hoa
      rw [hm] at hm'; cases hm'
      obtain ⟨hlen, hok⟩ := hok
      unfold Hdr at hh
      split at hh
      · omega
      · rename_i hv
        have hv : c.void = false := by simpa using hv
        obtain ⟨ad, rfl, h3, h4, h5⟩ := hh
        obtain ⟨h6, h7, _⟩ := hok hv
        have hsz : c.sz = sz := by
          rcases hs with rfl | rfl
          · exact h6
          · simp at hlen; omega
        have had := h5 (by omega)
        subst had
        refine ⟨_, _, w, Z, μ, hrun _ _ _ _ _ h0 h1, h, ?_, hg, .refl⟩
        rw [Xb, ← hsz]
        have : c.base + off * c.sz + n.toNat * c.sz = c.base + ((off + n.toNat) * c.sz + 0) := by rw [Nat.add_mul]; omega
        rw [this]
        exact .ept hm hv (by omega)
    · rename_i wr s xs
      obtain ⟨⟨hs, h0, h1⟩, h⟩ := h
      obtain ⟨c', hm', hok, _⟩ := hg.ob a _ hoa
      rw [hm] at hm'; cases hm'
      obtain ⟨hlen, hok⟩ := hok
      unfold Hdr at hh
      split at hh
      · omega
      · rename_i hv
        have hv : c.void = false := by simpa using hv
        obtain ⟨ad, rfl, h3, h4, h5⟩ := hh
        obtain ⟨h6, h7, _⟩ := hok hv
        have hsz : c.sz = sz := by
          rcases hs with rfl | rfl
          · exact h6
          · simp at hlen; omega
        have had := h5 (by omega)
        subst had
        refine ⟨_, _, w, Z, μ, hrun _ _ _ _ _ h0 h1, h, ?_, hg, .refl⟩
        rw [Xb, ← hsz]
        have : c.base + off * c.sz + n.toNat * c.sz = c.base + ((off + n.toNat) * c.sz + 0) := by rw [Nat.add_mul]; omega
        rw [this]
        exact .ept hm hv (by omega)
    · exact h.elim
  · rename_i s xs h1; rw [h1] at hx
    obtain ⟨a, cap, rfl, _, hne⟩ := hx.slE
    obtain ⟨⟨rfl, h0⟩, h⟩ := h
    split at h
    · rename_i el hel
      obtain ⟨hl, rfl⟩ := List.getElem?_eq_some_iff.1 hel
      obtain ⟨bb, oo, rfl, hrow, hz⟩ := hne (by intro e; subst e; simp at hl)
      refine ⟨_, _, w, Z, μ, hrun _ _ _ _ _ h0 (by omega), h, ?_, hg, .refl⟩
      rw [Xb]
      have hc := hrow n.toNat hl
      refine .ro (o := oo + n.toNat * s) (off := 0) (fun j => (w.cell? ⟨bb, oo + (n.toNat * s + j), none⟩).getD undef) (fun j hj => ?_) (fun j hj => ?_)
      · obtain ⟨u, e1, e2, e3⟩ := hc.2 j hj
        simp only at e1
        rw [Nat.add_assoc, e1]
        exact ⟨rfl, hz _ hl j hj, e2⟩
      · obtain ⟨u, e1, e2, e3⟩ := hc.2 j hj
        simp only at e1 ⊢
        rw [e1]; exact e3
    · exact h.elim
  · exact h.elim
theorem wz (hg : Good C w Z μ o) {t e : TypeId} {m sz : Nat} (hm2 : 2 ≤ m) (hu : C.P.underlying t = some (.array m e)) (he : Jl C.P e = some sz) {cx ci : Value} {x i : Opd} (hx : Rep w Z μ cx (r x)) (hi : Rep w Z μ ci (r i)) :
    OpV C b w Z μ o ((Instr.indexAt t cx ci).run C.P w) (sem b r (.iaddrA m sz x i)) := by
  have hrun : ∀ bb oo k n, 0 ≤ n → n < (m : Int) → (Instr.indexAt t (.pointer (some ⟨bb, oo, none⟩)) (.int k n)).run C.P w = .ok (.pointer (some ⟨bb, oo + n.toNat * sz, none⟩)) w := by
    intro bb oo k n h0 h1
    have hl : ¬ m ≤ 1 := by omega
    simp [Instr.indexAt, Sem.run_bind, XR, run_underlying hu w, h0, h1, Instr.sureAddr, hl, Ji he w, Xb]
  intro K h
  simp only [sem] at h
  replace h := Vp hi h
  obtain ⟨k, n, rfl, h⟩ := h
  obtain ⟨⟨h0, h1⟩, h⟩ := h
  split at h
  · rename_i h2; rw [h2] at hx
    obtain ⟨c, hm, rfl⟩ := hx.ptrE
    exact ⟨_, _, w, Z, μ, hrun _ _ _ _ h0 h1, h, .ptr hm, hg, .refl⟩
  · rename_i h2; rw [h2] at hx
    obtain ⟨c, hm, hv, hi', rfl⟩ := hx.eptE
    refine ⟨_, _, w, Z, μ, hrun _ _ _ _ h0 h1, h, ?_, hg, .refl⟩
    rw [show ∀ p q : Nat, c.base + (p * c.sz + q) + n.toNat * sz = c.base + (p * c.sz + (q + n.toNat * sz)) by intros; omega]
    exact .ept hm hv hi'
  · rename_i h2; rw [h2] at hx
    obtain ⟨bb, oo, ff, rfl, e1, e2⟩ := hx.roE
    refine ⟨_, _, w, Z, μ, hrun _ _ _ _ h0 h1, h, ?_, hg, .refl⟩
    rw [Nat.add_assoc]
    exact .ro ff e1 e2
  · exact h.elim
theorem aaU (hg : Good C w Z μ o) {t e : TypeId} {m sz : Nat} {ag : Bool} (hu : C.P.underlying t = some (.array m e)) (h1 : qj C.P e = some ag) (he : Jl C.P e = some sz) {cx ci : Value} {x i : Opd} (hx : Rep w Z μ cx (r x)) (hi : Rep w Z μ ci (r i)) :
    OpV C b w Z μ o ((Instr.index t cx ci).run C.P w) (sem b r (.idxA ag m sz x i)) := by
  intro K h
  simp only [sem] at h
  replace h := Vp hi h
  obtain ⟨k, n, rfl, h⟩ := h
  obtain ⟨⟨h0, h2⟩, h⟩ := h
  split at h
  · rename_i vs hv; rw [hv] at hx
    obtain ⟨cs, rfl, hs, ho, hr⟩ := hx.aggE
    obtain ⟨e', v, e1, e2, e3, e4⟩ := xP hs ho hr h
    refine ⟨e', v, w, Z, μ, ?_, e2, e3, by rw [e4]; exact hg, .refl⟩
    simp only [Instr.index, Sem.run_bind, XR, Result.andThen_ok, run_underlying hu w, h0, h2, and_self, if_true, Ji he w]
    rw [Xp h1 he]; exact e1
  · exact h.elim
theorem aaT (hg : Good C w Z μ o) {t : TypeId} (hu : C.P.underlying t = some .string) {cx ci : Value} {x i : Opd} (hx : Rep w Z μ cx (r x)) (hi : Rep w Z μ ci (r i)) :
    OpV C b w Z μ o ((Instr.index t cx ci).run C.P w) (sem b r (.idxS x i)) := by
  intro K h
  simp only [sem] at h
  replace h := Kl hx h
  obtain ⟨s, rfl, h⟩ := h
  replace h := Vp hi h
  obtain ⟨k, n, rfl, h⟩ := h
  obtain ⟨h0, h⟩ := h
  split at h
  · rename_i c hc
    refine ⟨_, .int .u8 c.toNat, w, Z, μ, ?_, h, .sc rfl, hg, .refl⟩
    have hs : s[n.toNat]? = some c := by
      rw [← hc]
      simp only [getElem?_def, ByteArray.getElem_eq_getElem_data]
      simp only [Array.length_toList, Array.getElem_toList]
      rfl
    simp only [Instr.index, Sem.run_bind, XR, Result.andThen_ok, run_underlying hu w, h0, if_true, hs]
    rfl
  · exact h.elim
theorem abV (hg : Good C w Z μ o) {cx : Value} {x : Opd} {i : Nat} (hx : Rep w Z μ cx (r x)) : OpV C b w Z μ o ((Instr.extract cx i).run C.P w) (sem b r (.ext x i)) := by
  intro K h
  simp only [sem] at h
  split at h
  · rename_i vs hv; rw [hv] at hx
    obtain ⟨cs, rfl, hs, hr⟩ := hx.tupE
    split at h
    · rename_i v hv
      obtain ⟨hl, rfl⟩ := List.getElem?_eq_some_iff.1 hv
      have hl' : i < cs.size := by omega
      refine ⟨_, cs[i], w, Z, μ, ?_, h, hr i hl hl', hg, .refl⟩
      simp [Instr.extract, hl']
    · exact h.elim
  · exact h.elim
theorem aaN (hg : Good C w Z μ o) {t : TypeId} {d : TypeDesc} (hu : C.P.underlying t = some d) (hd : ∀ ms, d ≠ .interface ms) {cx : Value} {x : Opd} :
    OpV C b w Z μ o ((Instr.makeInterface t cx).run C.P w) (sem b r (.mkif x)) := by
  intro K h
  refine ⟨_, .iface t cx, w, Z, μ, ?_, h, .nn, hg, .refl⟩
  simp only [Instr.makeInterface, Sem.run_bind, run_underlying hu w, Result.andThen_ok]
  rfl
end
end Av
end
section
namespace Av
open Go
theorem Wp {n : Int} (h1 : -9223372036854775808 ≤ n) (h2 : n < 9223372036854775808) : IntKind.i64.wrap n = n := by
  have e1 : IntKind.i64.bits = 64 := rfl
  have e2 : IntKind.i64.signed = true := rfl
  simp only [IntKind.wrap, e1, e2, Bool.true_and]
  by_cases h : n % 2 ^ 64 ≥ (2 ^ (64 - 1) : Int)
  · simp only [h, decide_true, if_true]; omega
  · simp only [h, decide_false, Bool.false_eq_true, if_false]; omega
section
variable {C : Ctx} {w : World} {Z : Nat → Nat → Prop} {μ : Nat → Option Cn} {o : Nat → Option Ob} {b : Nat} {r : Opd → V}
theorem aaQ (hg : Good C w Z μ o) {ts : Array TypeId} {ty t : TypeId} {cx : Value} {x : Opd} (ht : ts[0]? = some t) (hu : C.P.underlying t = some .string) (hx : Rep w Z μ cx (r x)) :
    OpV C b w Z μ o ((Builtin.len_ ts ty #[cx]).run C.P w) (sem b r (.lenS x)) := by
  intro K h
  simp only [sem] at h
  replace h := Kl hx h
  obtain ⟨s, rfl, h⟩ := h
  exact ⟨_, _, w, Z, μ, by simp [Builtin.len_, ht, run_underlying hu w, goInt], h, .sc rfl, hg, .refl⟩
theorem aaR (hg : Good C w Z μ o) {ts : Array TypeId} {ty t e : TypeId} {cx : Value} {x : Opd} (ht : ts[0]? = some t) (hu : C.P.underlying t = some (.slice e)) (hx : Rep w Z μ cx (r x)) :
    OpV C b w Z μ o ((Builtin.len_ ts ty #[cx]).run C.P w) (sem b r (.lenL x)) := by
  have fin : ∀ a n c {K : E → Prop}, cx = .slice a n c → K { v := .int n } →
      ∃ e v w' Z' μ', (Builtin.len_ ts ty #[cx]).run C.P w = .ok v w' ∧ K e ∧ Rep w' Z' μ' v e.v ∧ Good C w' Z' μ' (Uh o e.os) ∧ Evo b KK w Z μ w' Z' μ' :=
    fun a n c K hc hk => ⟨_, _, w, Z, μ, by rw [hc]; simp [Builtin.len_, ht, run_underlying hu w, goInt], hk, .sc rfl, hg, .refl⟩
  intro K h
  simp only [sem] at h
  split at h
  · rename_i h1; rw [h1] at hx
    obtain ⟨a, cap, h2, _⟩ := hx.slE
    exact fin _ _ _ h2 h
  · rename_i h1; rw [h1] at hx
    obtain ⟨c, hm, hh⟩ := hx.hdE
    unfold Hdr at hh; split at hh
    · obtain ⟨h2, h3, h4⟩ := hh
      subst h4
      exact fin _ _ _ h2 h
    · obtain ⟨ad, h2, _⟩ := hh
      exact fin _ _ _ h2 h
  · rename_i h1; rw [h1] at hx
    exact fin _ _ _ hx.scE.1 h
  · exact h.elim
theorem aaS (hg : Good C w Z μ o) {ts : Array TypeId} {ty t e : TypeId} {n : Nat} {cx : Value} {x : Opd} (ht : ts[0]? = some t) (hu : C.P.underlying t = some (.array n e)) :
    OpV C b w Z μ o ((Builtin.len_ ts ty #[cx]).run C.P w) (sem b r (.lenC n x)) := by
  intro K h
  exact ⟨_, _, w, Z, μ, by simp [Builtin.len_, ht, run_underlying hu w, goInt], h, .sc rfl, hg, .refl⟩
theorem wq {P : Program} (isSlice : Bool) (len cap : Nat) (lo hi : Option Value) (l h : Nat) (hlo : lo = none ∧ l = 0 ∨ ∃ k, lo = some (.int k l)) (hhi : hi = none ∧ h = len ∨ ∃ k, hi = some (.int k h))
    (h1 : l ≤ h) (h2 : h ≤ len) (h3 : len ≤ cap) : (Instr.sliceBounds isSlice len cap lo hi none).run P w = .ok (l, h, cap) w := by
  rcases hlo with ⟨rfl, rfl⟩ | ⟨k, rfl⟩ <;> rcases hhi with ⟨rfl, rfl⟩ | ⟨k', rfl⟩ <;>
    simp [Instr.sliceBounds, Instr.sliceBound, XR, h1, show h ≤ cap by omega]
  all_goals (try (have : (h : Int) ≤ cap := by omega); simp_all)
theorem xR {ρ : Operand → Value} (hρ : ∀ x x', opd x = some x' → Rep w Z μ (ρ x) (r x')) {x : Option Operand} {x' : Option Opd} (h : vN x = some x') :
    (x = none ∧ x' = none) ∨ ∃ y y', x = some y ∧ x' = some y' ∧ Rep w Z μ (ρ y) (r y') := by
  cases x with
  | none => simp [vN] at h; exact .inl ⟨rfl, h.symm⟩
  | some y =>
    simp only [vN, Option.map_eq_some_iff] at h
    obtain ⟨y', h1, rfl⟩ := h
    exact .inr ⟨y, y', rfl, rfl, hρ _ _ h1⟩
theorem Uo {α : Type} {ρ : Operand → Value} (hρ : ∀ x x', opd x = some x' → Rep w Z μ (ρ x) (r x')) {lo hi : Option Operand} {lo' hi' : Option Opd} (h1 : vN lo = some lo') (h2 : vN hi = some hi')
    {n : Nat} {k : Int → Int → AM α} {K : α → Prop}
    (h : (AM.int ((lo'.map r).getD (.int 0)) fun l => AM.int ((hi'.map r).getD (.int n)) fun h => k l h).wp o K) :
    ∃ l h : Int, (k l h).wp o K ∧ (lo.map ρ = none ∧ l = 0 ∨ ∃ kd, lo.map ρ = some (.int kd l)) ∧ (hi.map ρ = none ∧ h = n ∨ ∃ kd, hi.map ρ = some (.int kd h)) := by
  have first : ∃ l : Int, (AM.int ((hi'.map r).getD (.int n)) fun h => k l h).wp o K ∧ (lo.map ρ = none ∧ l = 0 ∨ ∃ kd, lo.map ρ = some (.int kd l)) := by
    rcases xR hρ h1 with ⟨rfl, rfl⟩ | ⟨y, y', rfl, rfl, hr⟩
    · exact ⟨0, h, .inl ⟨rfl, rfl⟩⟩
    · obtain ⟨kd, l, e, h⟩ := Vp hr h
      exact ⟨l, h, .inr ⟨kd, by simp [e]⟩⟩
  obtain ⟨l, h, hl⟩ := first
  rcases xR hρ h2 with ⟨rfl, rfl⟩ | ⟨y, y', rfl, rfl, hr⟩
  · exact ⟨l, n, h, hl, .inl ⟨rfl, rfl⟩⟩
  · obtain ⟨kd, h', e, h⟩ := Vp hr h
    exact ⟨l, h', h, hl, .inr ⟨kd, by simp [e]⟩⟩
theorem qu {P : Program} (isSlice : Bool) (len cap : Nat) (lo hi : Option Value) (l h : Int) (hlo : lo = none ∧ l = 0 ∨ ∃ k, lo = some (.int k l)) (hhi : hi = none ∧ h = len ∨ ∃ k, hi = some (.int k h))
    (h0 : 0 ≤ l) (h1 : l ≤ h) (h2 : h ≤ len) (h3 : len ≤ cap) : (Instr.sliceBounds isSlice len cap lo hi none).run P w = .ok (l.toNat, h.toNat, cap) w := by
  obtain ⟨l, rfl⟩ := Int.eq_ofNat_of_zero_le h0
  obtain ⟨h, rfl⟩ := Int.eq_ofNat_of_zero_le (show 0 ≤ h by omega)
  simp only [Int.toNat_natCast]
  exact wq isSlice len cap lo hi l h (by simpa using hlo) (hhi.imp (fun p => ⟨p.1, by have := p.2; omega⟩) id) (by omega) (by omega) h3
theorem vF (hg : Good C w Z μ o) {t : TypeId} (hu : C.P.underlying t = some .string) {ρ : Operand → Value} (hρ : ∀ x x', opd x = some x' → Rep w Z μ (ρ x) (r x')) {lo hi : Option Operand} {lo' hi' : Option Opd}
    (h1 : vN lo = some lo') (h2 : vN hi = some hi') {cx : Value} {x : Opd} (hx : Rep w Z μ cx (r x)) :
    OpV C b w Z μ o ((Instr.sliceAt t cx (lo.map ρ) (hi.map ρ) none).run C.P w) (sem b r (.slstr x lo' hi')) := by
  intro K h
  simp only [sem] at h
  replace h := Kl hx h
  obtain ⟨s, rfl, h⟩ := h
  obtain ⟨l, hh, ⟨⟨q0, q1, q2⟩, h⟩, hl, hhi⟩ := Uo hρ h1 h2 h
  refine ⟨_, .string (s.extract l.toNat hh.toNat), w, Z, μ, ?_, h, .sc rfl, hg, .refl⟩
  simp only [Instr.sliceAt, Sem.run_bind, run_underlying hu w, Result.andThen_ok, Instr.slice, Option.isSome_none, Bool.false_eq_true, if_false]
  rw [qu (P := C.P) (w := w) false s.size s.size (lo.map ρ) (hi.map ρ) l hh hl hhi q0 q1 q2 (Nat.le_refl _)]
  rfl
theorem aaL (hg : Good C w Z μ o) {t e : TypeId} {sz : Nat} (hu : C.P.underlying t = some (.slice e)) (he : Jl C.P e = some sz) {ρ : Operand → Value} (hρ : ∀ x x', opd x = some x' → Rep w Z μ (ρ x) (r x')) {lo hi : Option Operand} {lo' hi' : Option Opd}
    (h1 : vN lo = some lo') (h2 : vN hi = some hi') {cx : Value} {x : Opd} (hx : Rep w Z μ cx (r x)) :
    OpV C b w Z μ o ((Instr.sliceAt t cx (lo.map ρ) (hi.map ρ) none).run C.P w) (sem b r (.slsl sz x lo' hi')) := by
  have hrun : ∀ a (len cap : Nat) (l hh : Int), (lo.map ρ = none ∧ l = 0 ∨ ∃ kd, lo.map ρ = some (.int kd l)) → (hi.map ρ = none ∧ hh = len ∨ ∃ kd, hi.map ρ = some (.int kd hh)) → 0 ≤ l → l ≤ hh → hh ≤ len → len ≤ cap →
      (Instr.sliceAt t (.slice a len cap) (lo.map ρ) (hi.map ρ) none).run C.P w = .ok (.slice (if cap = l.toNat then a else a.map (·.add (l.toNat * sz))) (hh.toNat - l.toNat) (cap - l.toNat)) w := by
    intro a len cap l hh hl hhi q0 q1 q2 q3
    simp only [Instr.sliceAt, Sem.run_bind, run_underlying hu w, Result.andThen_ok, Instr.slice]
    rw [qu (P := C.P) (w := w) true len cap (lo.map ρ) (hi.map ρ) l hh hl hhi q0 q1 q2 q3]
    simp only [Result.andThen_ok, Ji he w, Sem.run_pure]
  intro K h
  simp only [sem] at h
  split at h
  · rename_i a off len hv; rw [hv] at hx
    obtain ⟨c, hm, hh⟩ := hx.hdE
    obtain ⟨ob, hoa, h⟩ := h
    dsimp only at h
    split at h
    · rename_i wr s xs
      obtain ⟨hs, h⟩ := h
      obtain ⟨l, hh', ⟨⟨q0, q1, q2⟩, h⟩, hl, hhi⟩ := Uo hρ h1 h2 h
      obtain ⟨c', hm', hok, _⟩ := hg.ob a _ hoa
      rw [hm] at hm'; cases hm'
      obtain ⟨hlen, hok⟩ := hok
      by_cases hvd : c.void = true
      · have hh2 := hh
        simp only [Hdr, if_pos hvd] at hh2
        obtain ⟨rfl, rfl, rfl⟩ := hh2
        have : l = 0 := by omega
        subst this
        have : hh' = 0 := by omega
        subst this
        refine ⟨_, _, w, Z, μ, hrun none 0 0 0 0 hl (by simpa using hhi) (by omega) (by omega) (by omega) (by omega), h, .hd hm ?_, hg, .refl⟩
        simp only [Hdr, if_pos hvd]
        exact ⟨by simp, by omega, by omega⟩
      · have hv : c.void = false := by simpa using hvd
        have hh2 := hh
        simp only [Hdr, hv, Bool.false_eq_true, if_false] at hh2
        obtain ⟨ad, rfl, h3, h4, h5⟩ := hh2
        obtain ⟨h6, h7, _⟩ := hok hv
        have hsz : 0 < len → c.sz = sz := by
          intro hp
          rcases hs with rfl | rfl
          · exact h6
          · simp at hlen; omega
        refine ⟨_, _, w, Z, μ, hrun (some ad) len (c.cap - off) l hh' hl hhi q0 q1 q2 (by omega), h, .hd hm ?_, hg, .refl⟩
        simp only [Hdr, hv, Bool.false_eq_true, if_false]
        by_cases hc : c.cap - off = l.toNat
        · rw [if_pos hc]
          exact ⟨ad, by congr 1; omega, by omega, by omega, fun hlt => by omega⟩
        · rw [if_neg hc]
          refine ⟨ad.add (l.toNat * sz), by simp; omega, by omega, by omega, fun hlt => ?_⟩
          rw [h5 (by omega), Xb]
          by_cases hl0 : l.toNat = 0
          · simp [hl0]
          · rw [← hsz (by omega)]
            congr 1
            rw [Nat.add_mul]; omega
    · rename_i wr s xs
      obtain ⟨hs, h⟩ := h
      obtain ⟨l, hh', ⟨⟨q0, q1, q2⟩, h⟩, hl, hhi⟩ := Uo hρ h1 h2 h
      obtain ⟨c', hm', hok, _⟩ := hg.ob a _ hoa
      rw [hm] at hm'; cases hm'
      obtain ⟨hlen, hok⟩ := hok
      by_cases hvd : c.void = true
      · have hh2 := hh
        simp only [Hdr, if_pos hvd] at hh2
        obtain ⟨rfl, rfl, rfl⟩ := hh2
        have : l = 0 := by omega
        subst this
        have : hh' = 0 := by omega
        subst this
        refine ⟨_, _, w, Z, μ, hrun none 0 0 0 0 hl (by simpa using hhi) (by omega) (by omega) (by omega) (by omega), h, .hd hm ?_, hg, .refl⟩
        simp only [Hdr, if_pos hvd]
        exact ⟨by simp, by omega, by omega⟩
      · have hv : c.void = false := by simpa using hvd
        have hh2 := hh
        simp only [Hdr, hv, Bool.false_eq_true, if_false] at hh2
        obtain ⟨ad, rfl, h3, h4, h5⟩ := hh2
        obtain ⟨h6, h7, _⟩ := hok hv
        have hsz : 0 < len → c.sz = sz := by
          intro hp
          rcases hs with rfl | rfl
          · exact h6
          · simp at hlen; omega
        refine ⟨_, _, w, Z, μ, hrun (some ad) len (c.cap - off) l hh' hl hhi q0 q1 q2 (by omega), h, .hd hm ?_, hg, .refl⟩
        simp only [Hdr, hv, Bool.false_eq_true, if_false]
        by_cases hc : c.cap - off = l.toNat
        · rw [if_pos hc]
          exact ⟨ad, by congr 1; omega, by omega, by omega, fun hlt => by omega⟩
        · rw [if_neg hc]
          refine ⟨ad.add (l.toNat * sz), by simp; omega, by omega, by omega, fun hlt => ?_⟩
          rw [h5 (by omega), Xb]
          by_cases hl0 : l.toNat = 0
          · simp [hl0]
          · rw [← hsz (by omega)]
            congr 1
            rw [Nat.add_mul]; omega
    · exact h.elim
  · rename_i s xs hv; rw [hv] at hx
    obtain ⟨a, cap, rfl, hcap, hne⟩ := hx.slE
    obtain ⟨hs, h⟩ := h
    obtain ⟨l, hh', ⟨⟨q0, q1, q2⟩, h⟩, hl, hhi⟩ := Uo hρ h1 h2 h
    refine ⟨_, _, w, Z, μ, hrun a xs.length cap l hh' hl hhi q0 q1 q2 hcap, h, ?_, hg, .refl⟩
    have hlen : ((xs.drop l.toNat).take (hh'.toNat - l.toNat)).length = hh'.toNat - l.toNat := by simp; omega
    by_cases hz : hh'.toNat - l.toNat = 0
    · rw [hz]; simp only [List.take_zero]; exact .sl0
    · obtain ⟨bb, oo, rfl, hrow, hzz⟩ := hne (by intro e; subst e; simp at q2; omega)
      rw [if_neg (by omega)]
      simp only [Option.map_some, Xb]
      have hsz : s = sz := by
        rcases hs with h | h
        · exact h
        · subst h; simp at q2; omega
      subst hsz
      have hrow' := (hrow.drop l.toNat).take (hh'.toNat - l.toNat)
      have key : ∀ i (hi : i < ((xs.drop l.toNat).take (hh'.toNat - l.toNat)).length) j, j < ((xs.drop l.toNat).take (hh'.toNat - l.toNat))[i].cells.length → ∃ u, w.cell? ⟨bb, oo + l.toNat * s + (i * s + j), none⟩ = some u ∧ u.oneCell' = true ∧
          Z bb (oo + l.toNat * s + (i * s + j)) ∧ ∀ (hj : j < ((xs.drop l.toNat).take (hh'.toNat - l.toNat))[i].cells.length), Rep w Z noμ u ((xs.drop l.toNat).take (hh'.toNat - l.toNat))[i].cells[j] := by
        intro i hi j hj
        obtain ⟨u, e1, e2, e3⟩ := (hrow' i hi).2 j hj
        refine ⟨u, by rw [← e1, Nat.add_assoc], e2, ?_, fun _ => e3⟩
        have hi2 : l.toNat + i < xs.length := by rw [hlen] at hi; omega
        have ej : ((xs.drop l.toNat).take (hh'.toNat - l.toNat))[i] = xs[l.toNat + i] := by simp
        rw [ej] at hj
        have := hzz (l.toNat + i) hi2 j hj
        rwa [show oo + ((l.toNat + i) * s + j) = oo + l.toNat * s + (i * s + j) by rw [Nat.add_mul]; omega] at this
      have hf : ∀ i j, ∃ u, ∀ (hi : i < ((xs.drop l.toNat).take (hh'.toNat - l.toNat)).length), j < ((xs.drop l.toNat).take (hh'.toNat - l.toNat))[i].cells.length → w.cell? ⟨bb, oo + l.toNat * s + (i * s + j), none⟩ = some u ∧ u.oneCell' = true ∧
          Z bb (oo + l.toNat * s + (i * s + j)) ∧ ∀ (hj : j < ((xs.drop l.toNat).take (hh'.toNat - l.toNat))[i].cells.length), Rep w Z noμ u ((xs.drop l.toNat).take (hh'.toNat - l.toNat))[i].cells[j] := by
        intro i j
        by_cases hi : i < ((xs.drop l.toNat).take (hh'.toNat - l.toNat)).length
        · by_cases hj : j < ((xs.drop l.toNat).take (hh'.toNat - l.toNat))[i].cells.length
          · obtain ⟨u, hu⟩ := key i hi j hj
            exact ⟨u, fun _ _ => hu⟩
          · exact ⟨undef, fun _ hj' => (hj hj').elim⟩
        · exact ⟨undef, fun hi' => (hi hi').elim⟩
      rw [show hh'.toNat - l.toNat = ((xs.drop l.toNat).take (hh'.toNat - l.toNat)).length from hlen.symm]
      rw [show ((xs.drop l.toNat).take ((xs.drop l.toNat).take (hh'.toNat - l.toNat)).length) = (xs.drop l.toNat).take (hh'.toNat - l.toNat) by rw [hlen]]
      refine Rep.sl (sz := s) (fun i j => (hf i j).choose) (by omega) (fun i hi => (hrow' i hi).1) (fun i hi j hj => ?_) (fun i hi j hj => ?_)
      · have := (hf i j).choose_spec hi hj
        exact ⟨this.1, this.2.2.1, this.2.1⟩
      · exact ((hf i j).choose_spec hi hj).2.2.2 hj
  · exact h.elim
theorem xh (hg : Good C w Z μ o) (hf : ∀ x, b ≤ x → x < b + KK → μ x = none) (hm : C.m ≤ b) {t e : TypeId} {sz by_ : Nat} {ag : Bool} {z : Value} (hu : C.P.underlying t = some (.slice e)) (he : Jl C.P e = some sz) (hb : KW C.P e = some by_) (hz : VO C.P e = some z)
    (hzs : z.cells.size = sz) (h1 : ag = false → sz = 1) (hone : ∀ u ∈ z.cells.toList, u.oneCell' = true) {cl cc : Value} {l c : Opd} (hl : Rep w Z μ cl (r l)) (hc : Rep w Z μ cc (r c)) :
    OpV C b w Z μ o ((Instr.makeSlice t cl cc).run C.P w) (sem b r (.mkslice sz by_ ag z.cells.toList l c)) := by
  intro K h
  simp only [sem] at h
  replace h := Vp hl h
  obtain ⟨k1, n, rfl, h⟩ := h
  replace h := Vp hc h
  obtain ⟨k2, m, rfl, h⟩ := h
  obtain ⟨⟨q0, q1, q2, q3⟩, h⟩ := h
  obtain ⟨i, hi, hib⟩ := Ko hb w
  have w1 : IntKind.i64.wrap n = n := Wp (by omega) (by omega)
  have w2 : IntKind.i64.wrap m = m := Wp (by omega) (by omega)
  have q4 : (by_ : Int) * m ≤ 2 ^ 40 := by rw [Int.mul_comm]; exact q2
  have hrow : Row w Z noμ (fun k => ((Array.range (m.toNat * sz)).map (fun k => (if m.toNat * sz = 0 then #[] else z.cells)[k % (if m.toNat * sz = 0 then (#[] : Array Value) else z.cells).size]!))[k]?) sz
      (List.replicate n.toNat (V.mk ag (z.cells.toList.map V.ofV))) := by
    by_cases hn : m.toNat * sz = 0
    · rcases Nat.mul_eq_zero.1 hn with h' | h'
      · have : n.toNat = 0 := by omega
        rw [this]; exact Row.nil
      · subst h'
        have := jV (w := w) (Z := Z) (μ := noμ) (ag := ag) (n := n.toNat) (m := m.toNat * 0) hzs h1 hone (by omega)
        intro i hi
        refine ⟨(this i hi).1, fun j hj => ?_⟩
        rw [(this i hi).1] at hj; omega
    · simp only [hn, if_false]
      exact jV hzs h1 hone (Nat.mul_le_mul_right _ (by omega))
  have hrun : (Instr.makeSlice t (.int k1 n) (.int k2 m)).run C.P w = .ok (.slice (some ⟨w.heap.size, 0, none⟩) n.toNat m.toNat)
      (w.alloc (.cells ((Array.range (m.toNat * sz)).map (fun k => (if m.toNat * sz = 0 then #[] else z.cells)[k % (if m.toNat * sz = 0 then (#[] : Array Value) else z.cells).size]!)) e)) := by
    have c1 : ¬ (by_ : Int) * m > 2 ^ 48 := by omega
    have c2 : ¬ m < 0 := by omega
    have c3 : ¬ n < 0 := by omega
    have c4 : ¬ n > m := by omega
    have c5 : ¬ m.toNat * by_ > roomBytes := by
      have : ((m.toNat * by_ : Nat) : Int) = m * by_ := by rw [Int.natCast_mul, Int.toNat_of_nonneg (by omega)]
      unfold roomBytes; omega
    simp only [Instr.makeSlice, Sem.run_bind, run_underlying hu w, Result.andThen_ok, asInt, XR, Sem.run_pure, hi, hib, w1, w2, c2, c3, c4, c1, decide_false, Bool.or_self, Bool.false_eq_true, if_false, askRoom, c5, Ji he w]
    by_cases hn : m.toNat * sz = 0
    · simp [hn, newRow, newObj, Sem.run]
    · simp [hn, X8 hz w, newRow, newObj, Sem.run]
  rw [hrun]
  have := vT hg hf hm (e := e) (cap := m.toNat) hrow (by simp; omega) (by simp) (K := K) (by simpa [AM.wp] using h)
  simpa using this
end
end Av
end
section
namespace Av
open Go
section
variable {C : Ctx} {w : World} {Z : Nat → Nat → Prop} {μ : Nat → Option Cn} {o : Nat → Option Ob} {b : Nat} {r : Opd → V}
theorem jK (hg : Good C w Z μ o) (hf : ∀ x, b ≤ x → x < b + KK → μ x = none) (hm : C.m ≤ b) {w1 : World} (hw : w1.heap = w.heap) {cells : Array Value} {e : TypeId} {fr : Nat × Nat} {sz cap : Nat} {xs : List V}
    (hfr : ∀ k, k < cells.size → ¬ (fr.1 ≤ k ∧ k < fr.2)) (hr : Row w Z noμ (fun k => cells[k]?) sz xs) (hl : xs.length ≤ cap) (hs : cap * sz ≤ cells.size) (ho1 : V7 w w1 := by exact ⟨rfl, rfl, rfl⟩) :
    Rep (w1.alloc (.cells cells e fr)) Z (upd μ b (some { block := w.heap.size, base := 0, cap, sz, n := xs.length })) (.slice (some ⟨w.heap.size, 0, none⟩) xs.length cap) (.hd b 0 xs.length) ∧
      Good C (w1.alloc (.cells cells e fr)) Z (upd μ b (some { block := w.heap.size, base := 0, cap, sz, n := xs.length })) (upd o b (some (.buf true sz xs))) ∧
      Evo b KK w Z μ (w1.alloc (.cells cells e fr)) Z (upd μ b (some { block := w.heap.size, base := 0, cap, sz, n := xs.length })) := by
  have hx := hf b (Nat.le_refl _) (by simp [KK])
  have hg1 : Good C w1 Z μ o := hg.heap hw ho1
  have hsz : w1.heap.size = w.heap.size := by rw [hw]
  have e1 : Evo b KK w Z μ w1 Z μ := Evo.heap hw
  have e2 : Evo b KK w1 Z μ (w1.alloc (.cells cells e fr)) Z (upd μ b (some { block := w.heap.size, base := 0, cap, sz, n := xs.length })) := Evo.alloc hg1.zlt hx (Nat.le_refl _) (by simp [KK])
  refine ⟨.hd (c := { block := w.heap.size, base := 0, cap, sz, n := xs.length }) (Qh _ _ _) (by simp [Hdr]), ?_, e1.trans e2⟩
  refine hg1.alloc hx hsz.symm hm ⟨rfl, fun _ => ⟨rfl, hl, fun _ => zx hg, fun i hz => ((zx hg i) hz).elim, fun i hi => (hr i hi).1, cells, e, fr, ?_, by simpa using hs, hfr, fun i hi j hj => ?_⟩⟩
  · show (w1.alloc _).heap[w.heap.size]? = _
    rw [← hsz]; exact heap_alloc_new
  · obtain ⟨u, f1, f2, f3⟩ := (hr i hi).2 j hj
    exact ⟨u, by simpa using f1, f2, f3.mono (e1.trans e2).cell (e1.trans e2).zs (fun _ _ h => h)⟩
theorem xl (hg : Good C w Z μ o) (hf : ∀ x, b ≤ x → x < b + KK → μ x = none) (hm : C.m ≤ b) {w1 : World} (hw : w1.heap = w.heap) {cells : Array Value} {e : TypeId} {fr : Nat × Nat} {sz cap : Nat} {xs : List V}
    (hfr : ∀ k, k < cells.size → ¬ (fr.1 ≤ k ∧ k < fr.2)) (hr : Row w Z μ (fun k => cells[k]?) sz xs) (hl : xs.length ≤ cap) (hs : cap * sz ≤ cells.size) (ho1 : V7 w w1 := by exact ⟨rfl, rfl, rfl⟩) :
    Rep (w1.alloc (.cells cells e fr)) Z (upd μ b (some { block := w.heap.size, base := 0, cap, sz, n := xs.length })) (.slice (some ⟨w.heap.size, 0, none⟩) xs.length cap) (.hd b 0 xs.length) ∧
      Good C (w1.alloc (.cells cells e fr)) Z (upd μ b (some { block := w.heap.size, base := 0, cap, sz, n := xs.length })) (upd o b (some (.obuf true sz xs))) ∧
      Evo b KK w Z μ (w1.alloc (.cells cells e fr)) Z (upd μ b (some { block := w.heap.size, base := 0, cap, sz, n := xs.length })) := by
  have hx := hf b (Nat.le_refl _) (by simp [KK])
  have hg1 : Good C w1 Z μ o := hg.heap hw ho1
  have hsz : w1.heap.size = w.heap.size := by rw [hw]
  have e1 : Evo b KK w Z μ w1 Z μ := Evo.heap hw
  have e2 : Evo b KK w1 Z μ (w1.alloc (.cells cells e fr)) Z (upd μ b (some { block := w.heap.size, base := 0, cap, sz, n := xs.length })) := Evo.alloc hg1.zlt hx (Nat.le_refl _) (by simp [KK])
  refine ⟨.hd (c := { block := w.heap.size, base := 0, cap, sz, n := xs.length }) (Qh _ _ _) (by simp [Hdr]), ?_, e1.trans e2⟩
  refine hg1.alloc hx hsz.symm hm ⟨rfl, fun _ => ⟨rfl, hl, fun _ => zx hg, fun i hz => ((zx hg i) hz).elim, fun i hi => (hr i hi).1, cells, e, fr, ?_, by simpa using hs, hfr, fun i hi j hj => ?_⟩⟩
  · show (w1.alloc _).heap[w.heap.size]? = _
    rw [← hsz]; exact heap_alloc_new
  · obtain ⟨u, f1, f2, f3⟩ := (hr i hi).2 j hj
    exact ⟨u, by simpa using f1, f2, f3.mono (e1.trans e2).cell (e1.trans e2).zs (e1.trans e2).mu⟩
theorem we {μ : Nat → Option Cn} (l : List UInt8) (g : Nat → Option Value) (h : ∀ k (hk : k < l.length), g k = some (.int .u8 l[k].toNat)) :
    Row w Z μ g 1 (l.map fun c => .sc (.int .u8 c.toNat)) := by
  intro i hi
  simp only [List.length_map] at hi
  simp only [List.getElem_map]
  refine ⟨rfl, fun j hj => ?_⟩
  simp [V.cells] at hj; subst hj
  exact ⟨_, by simpa using h i hi, rfl, .sc rfl⟩
theorem wA (hg : Good C w Z μ o) (hf : ∀ x, b ≤ x → x < b + KK → μ x = none) (hm : C.m ≤ b) {s d e : TypeId} (hs : C.P.underlying s = some .string) (hd : C.P.underlying d = some (.slice e)) (he : C.P.underlying e = some (.int .u8))
    {cx : Value} {x : Opd} (hx : Rep w Z μ cx (r x)) : OpV C b w Z μ o ((convert s d cx).run C.P w) (sem b r (.convSB x)) := by
  intro K h
  simp only [sem] at h
  replace h := Kl hx h
  obtain ⟨u, rfl, h⟩ := h
  have hcap : ∃ cap, u.size ≤ cap ∧ (choose (.appendCap u.size 0 e)).run C.P w = .ok cap w.drew := by
    refine ⟨_, ?_, by rw [run_choose]; simp [Question.forced]; rfl⟩
    simp only [Question.cut]; exact Nat.le_add_right _ _
  obtain ⟨cap, hc1, hc2⟩ := hcap
  obtain ⟨arr, harr⟩ : ∃ arr : Array Value, arr = (u.data.map fun c : UInt8 => Value.int .u8 c.toNat) ++ Array.replicate (cap - u.size) (Value.int .u8 0) := ⟨_, rfl⟩
  have hsize : arr.size = cap := by
    rw [harr]
    simp only [Array.size_append, Array.size_map, Array.size_replicate]
    have : u.data.size = u.size := rfl
    omega
  obtain ⟨g1, g2, g3⟩ := jK hg hf hm (w1 := w.drew) rfl (e := e) (fr := (cap, cap + 1)) (sz := 1) (cap := cap) (xs := u.data.toList.map fun c => .sc (.int .u8 c.toNat))
    (cells := arr) (fun k hk => by rw [hsize] at hk; simp only; omega)
    (we u.data.toList _ (fun k hk => by
      simp only [Array.length_toList] at hk
      rw [harr, Array.getElem?_append_left (by simpa using hk), Array.getElem?_map, Array.getElem?_eq_getElem hk]
      simp)) (by simp; exact hc1) (by rw [hsize]; omega)
  have hlen : (u.data.toList.map fun c => (V.sc (.int .u8 c.toNat))).length = u.size := by simp
  rw [hlen] at g1 g2 g3
  refine ⟨_, _, _, Z, _, ?_, h, g1, g2, g3⟩
  simp only [convert, Sem.run_bind, run_underlying hs w, run_underlying hd w, Result.andThen_ok, run_underlying he w, Conv.stringToBytes, hc2]
  rw [← harr]
  have hsh : (w.drew.alloc (.cells arr e)).shape? w.heap.size = some (e, cap) := by
    have : (w.drew.alloc (.cells arr e)).heap[w.heap.size]? = some (.cells arr e) := heap_alloc_new (w := w.drew)
    unfold World.shape?
    rw [this]
    simp only [hsize]
  have hfr : (w.drew.alloc (.cells arr e)).freeze { block := w.heap.size, off := cap } 1 = w.drew.alloc (.cells arr e (cap, cap + 1)) := by
    have e0 : ((w.drew.heap.push (.cells arr e)).modify w.heap.size fun
      | .cells c elem (lo, hi) => .cells c elem (if lo == hi then (cap, cap + 1) else (min lo cap, max hi (cap + 1)))
      | o => o) = w.drew.heap.push (.cells arr e (cap, cap + 1)) := by
      apply Array.ext_getElem?
      intro k
      rw [Array.getElem?_modify]
      by_cases hk : w.heap.size = k
      · subst hk
        have : w.drew.heap.size = w.heap.size := rfl
        rw [if_pos rfl, ← this, Array.getElem?_push_size, Array.getElem?_push_size]
        rfl
      · rw [if_neg hk, Array.getElem?_push, Array.getElem?_push]
        have : w.drew.heap.size = w.heap.size := rfl
        rw [this, if_neg (fun h => hk h.symm), if_neg (fun h => hk h.symm)]
    unfold World.freeze
    rw [if_neg (by omega)]
    exact congrArg (fun hp => ({ w.drew with heap := hp } : World)) e0
  have hnew : (newObj (.cells arr e)).run C.P w.drew = .ok w.heap.size (w.drew.alloc (.cells arr e)) := rfl
  simp only [newRow, Sem.run_bind, hnew, Result.andThen_ok, Sem.run_pure, markStringish]
  have hshape : (shape w.heap.size).run C.P (w.drew.alloc (.cells arr e)) = .ok (some (e, cap)) (w.drew.alloc (.cells arr e)) := by
    simp only [shape, Sem.run, hsh]
  simp only [hshape, Result.andThen_ok]
  have hfreeze : (freeze { block := w.heap.size, off := cap } 1).run C.P (w.drew.alloc (.cells arr e)) = .ok () (w.drew.alloc (.cells arr e (cap, cap + 1))) := by
    simp only [freeze, Sem.run, hfr]
  simp only [hfreeze, Result.andThen_ok]
theorem vy {μ : Nat → Option Cn} {bb oo sz : Nat} {xs : List V} (h : Row w Z μ (fun k => w.cell? ⟨bb, oo + k, none⟩) sz xs) :
    ∃ L : List Value, (loadCells ⟨bb, oo, none⟩ (xs.length * sz)).run C.P w = .ok L.toArray w ∧ L.length = xs.length * sz ∧ (∀ u ∈ L, u.oneCell' = true) ∧ Row w Z μ (fun k => L[k]?) sz xs ∧
      ∀ k, k < xs.length * sz → w.cell? ⟨bb, oo + k, none⟩ = L[k]? := by
  have hk : ∀ k, k < xs.length * sz → ∃ u, w.cell? ⟨bb, oo + k, none⟩ = some u ∧ u.oneCell' = true := by
    intro k hk
    have hs : 0 < sz := by
      rcases Nat.eq_zero_or_pos sz with h0 | h0
      · subst h0; simp at hk
      · exact h0
    have hi : k / sz < xs.length := (Nat.div_lt_iff_lt_mul hs).2 hk
    obtain ⟨h1, h2⟩ := h (k / sz) hi
    obtain ⟨u, e1, e2, _⟩ := h2 (k % sz) (by rw [h1]; exact Nat.mod_lt _ hs)
    refine ⟨u, ?_, e2⟩
    rw [← e1]
    show _ = w.cell? ⟨bb, oo + (k / sz * sz + k % sz), none⟩
    rw [Nat.div_add_mod']
  have hcell : ∀ k, k < xs.length * sz → w.cell? ⟨bb, oo + k, none⟩ = ((List.range (xs.length * sz)).map fun k => (w.cell? ⟨bb, oo + k, none⟩).getD undef)[k]? := by
    intro k hk'
    obtain ⟨u, e, _⟩ := hk k hk'
    simp [hk', e]
  refine ⟨(List.range (xs.length * sz)).map fun k => (w.cell? ⟨bb, oo + k, none⟩).getD undef, ?_, by simp, ?_, ?_, hcell⟩
  · refine run_loadCells (P := C.P) w ⟨bb, oo, none⟩ (xs.length * sz) (fun k => (w.cell? ⟨bb, oo + k, none⟩).getD undef) (fun k hk' => ?_)
    obtain ⟨u, e, _⟩ := hk k hk'
    rw [Xb, e]; rfl
  · intro u hu
    simp only [List.mem_map, List.mem_range] at hu
    obtain ⟨k, hk', rfl⟩ := hu
    obtain ⟨u, e, e2⟩ := hk k hk'
    rw [e]; exact e2
  · exact h.congr (fun k hk' => (hcell k hk').symm)
theorem YQ {μ : Nat → Option Cn} {xs : List V} {a : Option Addr} {cap sz : Nat} (h : xs ≠ [] → ∃ bb oo, a = some ⟨bb, oo, none⟩ ∧ Row w Z μ (fun k => w.cell? ⟨bb, oo + k, none⟩) sz xs) (n : Nat) (hn : n ≤ xs.length) :
    ∃ L : List Value, (∀ w1 : World, w1.heap = w.heap → (Builtin.firstCells sz n (.slice a xs.length cap)).run C.P w1 = .ok L.toArray w1) ∧ L.length = n * sz ∧ (∀ u ∈ L, u.oneCell' = true) ∧ Row w Z μ (fun k => L[k]?) sz (xs.take n) := by
  by_cases hx : xs = []
  · subst hx
    have : n = 0 := by simpa using hn
    subst this
    refine ⟨[], fun w1 _ => ?_, by simp, by simp, by simpa using Row.nil⟩
    cases a with
    | none => rfl
    | some ad => simp [Builtin.firstCells, loadCells, loadCellsFrom]
  · obtain ⟨bb, oo, rfl, hr⟩ := h hx
    obtain ⟨L, e1, e2, e3, e4, e5⟩ := vy (C := C) (hr.take n)
    have hl : (xs.take n).length = n := by simp; omega
    rw [hl] at e1 e2 e5
    refine ⟨L, fun w1 hw => ?_, e2, e3, e4⟩
    have := run_loadCells_list (P := C.P) w1 ⟨bb, oo, none⟩ L (fun j v hv => by
      obtain ⟨hj, _⟩ := List.getElem?_eq_some_iff.1 hv
      rw [Xb, ← hv, ← e5 j (by omega)]
      simp [World.cell?, hw])
    rw [e2] at this
    simpa [Builtin.firstCells] using this
theorem wB (hg : Good C w Z μ o) {s d e : TypeId} (hs : C.P.underlying s = some (.slice e)) (hd : C.P.underlying d = some .string) (he : C.P.underlying e = some (.int .u8))
    {cx : Value} {x : Opd} (hx : Rep w Z μ cx (r x)) : OpV C b w Z μ o ((convert s d cx).run C.P w) (sem b r (.convBS x)) := by
  intro K h
  simp only [sem] at h
  obtain ⟨xs, a, cap, rfl, h, hne⟩ := yr hg hx h
  obtain ⟨⟨l, rfl⟩, h⟩ := h
  refine ⟨_, _, w, Z, μ, ?_, h, .sc rfl, hg, .refl⟩
  rw [run_convert_bytes_string w s d e _ _ _ hs he hd]
  by_cases hl : l = []
  · subst hl
    cases a with
    | none => rfl
    | some ad =>
      have := run_bytesToString (P := C.P) w ad 0 cap [] (by simp [loadCells, loadCellsFrom])
      exact this
  · obtain ⟨bb, oo, rfl, hr⟩ := hne (by simpa using hl)
    have hload : (loadCells ⟨bb, oo, none⟩ (l.map fun c => V.sc (.int .u8 c.toNat)).length).run C.P w = .ok ((l.map fun c => (c.toNat : Int)).map (Value.int .u8)).toArray w := by
      have := run_loadCells_list (P := C.P) w ⟨bb, oo, none⟩ ((l.map fun c => (c.toNat : Int)).map (Value.int .u8)) (fun j v hv => by
        simp only [List.map_map, List.getElem?_map, Option.map_eq_some_iff] at hv
        obtain ⟨c, hc, rfl⟩ := hv
        obtain ⟨hj, rfl⟩ := List.getElem?_eq_some_iff.1 hc
        obtain ⟨h1, h2⟩ := hr j (by simpa using hj)
        obtain ⟨u, e1, e2, e3⟩ := h2 0 (by simp [V.cells])
        have e3' : Rep w Z noμ u (.sc (.int .u8 l[j].toNat)) := by simpa [V.cells] using e3
        obtain ⟨rfl, _⟩ := e3'.scE
        rw [Xb]
        simpa using e1)
      simpa using this
    rw [run_bytesToString w ⟨bb, oo, none⟩ _ cap _ hload]
    congr 2
    have key : ∀ (l : List UInt8) (s : ByteArray), (l.map fun c => (c.toNat : Int)).foldl (fun r n => r.push (UInt8.ofNat n.toNat)) s = ⟨s.data ++ l.toArray⟩ := by
      intro l
      induction l with
      | nil => intro s; simp
      | cons c l ih =>
        intro s
        simp only [List.map_cons, List.foldl_cons, ih]
        congr 1
        simp [ByteArray.push]
    rw [key]
    simp [abC, Function.comp_def, ByteArray.empty, ByteArray.emptyWithCapacity]
    rfl
end
end Av
end
section
namespace Av
open Go
def OpU (C : Ctx) (b : Nat) (w : World) (Z : Nat → Nat → Prop) (μ : Nat → Option Cn) (o : Nat → Option Ob) (run : Result Unit) (m : AM E) : Prop :=
  ∀ K : E → Prop, m.wp o K → ∃ e w' Z' μ', run = .ok () w' ∧ K e ∧ e.v = .top ∧ Good C w' Z' μ' (Uh o e.os) ∧ Evo b KK w Z μ w' Z' μ'
section
variable {C : Ctx} {w : World} {Z : Nat → Nat → Prop} {μ : Nat → Option Cn} {o : Nat → Option Ob} {b : Nat} {r : Opd → V}
theorem Kj (cs : List V) : (V.agg cs).cells = cs := rfl
theorem vE (hg : Good C w Z μ o) {t : TypeId} {sz : Nat} (h2 : Jl C.P t = some sz) {ca cx : Value} {a x : Opd} (ha : Rep w Z μ ca (r a)) (hx : Rep w Z μ cx (r x)) :
    OpU C b w Z μ o ((Instr.storeAt t ca cx).run C.P w) (sem b r (.store sz a x)) := by
  intro K h
  simp only [sem] at h
  obtain ⟨⟨q1, q2, q3⟩, h⟩ := h
  obtain ⟨c1, c2⟩ := hx.cells q2 q3
  have hone : ∀ u ∈ cx.cells.toList, u.oneCell' = true := by
    intro u hu
    obtain ⟨j, hj, rfl⟩ := List.getElem_of_mem hu
    simp only [Array.length_toList] at hj
    obtain ⟨v, e1, e2, _⟩ := c2 j (by omega)
    rw [Array.getElem?_eq_getElem hj] at e1
    cases e1
    simpa using e2
  have hst : ∀ (bb oo : Nat) (cs : Array Value) (ty : TypeId) (fr : Nat × Nat), w.heap[bb]? = some (.cells cs ty fr) → (∀ k, k < cs.size → ¬ (fr.1 ≤ k ∧ k < fr.2)) → oo + sz ≤ cs.size →
      ∃ cs' : Array Value, (Instr.storeAt t (.pointer (some ⟨bb, oo, none⟩)) cx).run C.P w = .ok () { w with heap := w.heap.setIfInBounds bb (.cells cs' ty fr) } ∧ cs'.size = cs.size ∧
        (∀ k, k < sz → cs'[oo + k]? = cx.cells[k]?) ∧ ∀ k, k < oo ∨ oo + sz ≤ k → cs'[k]? = cs[k]? := by
    intro bb oo cs ty fr hb hfr hle
    have hsz : cx.cells.toList.length = sz := by simp; omega
    obtain ⟨cs', e1, e2, e3, e4⟩ := YN (P := C.P) bb ty fr cx.cells.toList oo 0 cs w hb hfr (by omega) hone
    refine ⟨cs', ?_, e2, fun k hk => ?_, fun k hk => e4 k (by omega)⟩
    · have hne : ¬ cx.cells.size ≠ sz := by omega
      simp only [Instr.storeAt, Instr.sureAddr, Sem.run_bind, Sem.run_pure, Result.andThen_ok, storeVar, Ji h2 w, hne, if_false]
      exact e1
    · have := e3 k (by omega)
      simp only [Nat.add_zero] at this
      rw [this]; simp
  split at h
  · rename_i n off hv; rw [hv] at ha
    obtain ⟨c, hm, rfl⟩ := ha.ptrE
    obtain ⟨ob, hoa, h⟩ := h
    dsimp only at h
    split at h
    · rename_i cells
      obtain ⟨hle, h⟩ := h
      obtain ⟨c', hm', hok, hlive⟩ := hg.ob n _ hoa
      rw [hm] at hm'; cases hm'
      obtain ⟨hvo, ⟨cs, ty, hb, hs, hc⟩, hz⟩ := hok
      obtain ⟨cs', e1, e2, e3, e4⟩ := hst c.block off cs ty (0, 0) hb (fun k _ => by omega) (by omega)
      have hlt : c.block < w.heap.size := (hlive trivial).1
      obtain ⟨s1, s2, s3⟩ := UC (w := w) (ob := .cells cs' ty (0, 0)) hlt
      have hcell : ∀ b' i, Z b' i → ({ w with heap := w.heap.setIfInBounds c.block (.cells cs' ty (0, 0)) } : World).cell? ⟨b', i, none⟩ = w.cell? ⟨b', i, none⟩ := by
        intro b' i hzb
        have : b' ≠ c.block := by rintro rfl; exact hz rfl i hzb
        simp only [World.cell?, s3 b' this]
      have hcr : Yo { w with heap := w.heap.setIfInBounds c.block (.cells cs' ty (0, 0)) } Z μ (fun k => cs'[k]?) (splice cells off (r x).cells) := by
        have hold : Yo { w with heap := w.heap.setIfInBounds c.block (.cells cs' ty (0, 0)) } Z μ (fun k => cs[k]?) cells := fun j hj => by
          have hj' : j < cs.size := by omega
          exact ⟨cs[j], Array.getElem?_eq_getElem hj', (hc j hj hj').2, (hc j hj hj').1.mono hcell (fun _ _ h => h) (fun _ _ h => h)⟩
        have hnew : Yo { w with heap := w.heap.setIfInBounds c.block (.cells cs' ty (0, 0)) } Z μ (fun k => cx.cells[k]?) (r x).cells := fun j hj => by
          obtain ⟨u, f1, f2, f3⟩ := c2 j hj
          exact ⟨u, f1, f2, f3.mono hcell (fun _ _ h => h) (fun _ _ h => h)⟩
        exact hold.splice hnew (by omega) (fun k hk => e3 k (by omega)) (fun k hk => e4 k (by omega))
      have hsl : (splice cells off (r x).cells).length = cells.length := JA (by omega)
      refine ⟨_, _, Z, μ, e1, h, rfl, ?_, ⟨hcell, fun _ _ h => h, fun _ _ h => h, fun _ _ => rfl⟩⟩
      refine hg.write hoa hm trivial s3 s1 (fun i hzi => (hz rfl i hzi).elim) ⟨hvo, ⟨cs', ty, s2, by omega, fun j hj hj' => ?_⟩, fun _ => hz rfl⟩
      obtain ⟨u, f1, f2, f3⟩ := hcr j hj
      simp only [Array.getElem?_eq_getElem hj'] at f1
      cases f1
      exact ⟨f3, f2⟩
    · rename_i T cells
      obtain ⟨hle, h⟩ := h
      obtain ⟨c', hm', hok, hlive⟩ := hg.ob n _ hoa
      rw [hm] at hm'; cases hm'
      obtain ⟨⟨hvo, ⟨cs, ty, hb, hs, hc⟩, hz⟩, hbase, hty⟩ := hok
      obtain ⟨cs2, fr2, hty⟩ := hty trivial
      rw [hb] at hty
      simp only [Option.some.injEq, Obj.cells.injEq] at hty
      obtain ⟨_, rfl, _⟩ := hty
      obtain ⟨cs', e1, e2, e3, e4⟩ := hst c.block off cs ty (0, 0) hb (fun k _ => by omega) (by omega)
      have hlt : c.block < w.heap.size := (hlive trivial).1
      obtain ⟨s1, s2, s3⟩ := UC (w := w) (ob := .cells cs' ty (0, 0)) hlt
      have hcell : ∀ b' i, Z b' i → ({ w with heap := w.heap.setIfInBounds c.block (.cells cs' ty (0, 0)) } : World).cell? ⟨b', i, none⟩ = w.cell? ⟨b', i, none⟩ := by
        intro b' i hzb
        have : b' ≠ c.block := by rintro rfl; exact hz rfl i hzb
        simp only [World.cell?, s3 b' this]
      have hcr : Yo { w with heap := w.heap.setIfInBounds c.block (.cells cs' ty (0, 0)) } Z μ (fun k => cs'[k]?) (splice cells off (r x).cells) := by
        have hold : Yo { w with heap := w.heap.setIfInBounds c.block (.cells cs' ty (0, 0)) } Z μ (fun k => cs[k]?) cells := fun j hj => by
          have hj' : j < cs.size := by omega
          exact ⟨cs[j], Array.getElem?_eq_getElem hj', (hc j hj hj').2, (hc j hj hj').1.mono hcell (fun _ _ h => h) (fun _ _ h => h)⟩
        have hnew : Yo { w with heap := w.heap.setIfInBounds c.block (.cells cs' ty (0, 0)) } Z μ (fun k => cx.cells[k]?) (r x).cells := fun j hj => by
          obtain ⟨u, f1, f2, f3⟩ := c2 j hj
          exact ⟨u, f1, f2, f3.mono hcell (fun _ _ h => h) (fun _ _ h => h)⟩
        exact hold.splice hnew (by omega) (fun k hk => e3 k (by omega)) (fun k hk => e4 k (by omega))
      have hsl : (splice cells off (r x).cells).length = cells.length := JA (by omega)
      refine ⟨_, _, Z, μ, e1, h, rfl, ?_, ⟨hcell, fun _ _ h => h, fun _ _ h => h, fun _ _ => rfl⟩⟩
      refine hg.write hoa hm trivial s3 s1 (fun i hzi => (hz rfl i hzi).elim) ⟨⟨hvo, ⟨cs', ty, s2, by omega, fun j hj hj' => ?_⟩, fun _ => hz rfl⟩, hbase, fun _ => ⟨_, _, s2⟩⟩
      obtain ⟨u, f1, f2, f3⟩ := hcr j hj
      simp only [Array.getElem?_eq_getElem hj'] at f1
      cases f1
      exact ⟨f3, f2⟩
    · exact h.elim
  · rename_i n i off hv; rw [hv] at ha
    obtain ⟨c, hm, hvo, hi, rfl⟩ := ha.eptE
    obtain ⟨ob, hoa, h⟩ := h
    dsimp only at h
    split at h
    · rename_i s xs
      obtain ⟨hclo, h⟩ := h
      have c3 : ∀ j (hj : j < (r x).cells.length), ∃ u, cx.cells[j]? = some u ∧ u.oneCell' = true ∧ Rep w Z noμ u (r x).cells[j] := fun j hj =>
        let ⟨u, a, b, c⟩ := c2 j hj; ⟨u, a, b, c.close (KV hclo j hj)⟩
      obtain ⟨c', hm', hok, hlive⟩ := hg.ob n _ hoa
      rw [hm] at hm'; cases hm'
      obtain ⟨hlen, hok⟩ := hok
      obtain ⟨h6, h7, h8, h9, h10, cs, ty, fr, hb, h11, h12, h13⟩ := hok hvo
      have hlt : c.block < w.heap.size := (hlive hvo).1
      have hix : i < xs.length := by omega
      have hbd : (i + 1) * c.sz ≤ c.cap * c.sz := Nat.mul_le_mul_right _ (by omega)
      rw [Nat.add_mul] at hbd
      have main : ∀ (e' : V), e'.cells.length = s → off + sz ≤ s → (∀ g g' : Nat → Option Value, ∀ w' : World, (∀ b' i', Z b' i' → w'.cell? ⟨b', i', none⟩ = w.cell? ⟨b', i', none⟩) →
            (∀ j (hj : j < xs[i].cells.length), ∃ v, g j = some v ∧ v.oneCell' = true ∧ Rep w Z noμ v xs[i].cells[j]) → (∀ k, k < sz → g' (off + k) = cx.cells[k]?) → (∀ k, k < off ∨ off + sz ≤ k → g' k = g k) →
            Yo w' Z noμ g' e'.cells) →
          K { v := .top, os := [(n, .buf true s (xs.set i e'))] } →
          ∃ e w' Z' μ', (Instr.storeAt t (.pointer (some ⟨c.block, c.base + (i * c.sz + off), none⟩)) cx).run C.P w = .ok () w' ∧ K e ∧ e.v = .top ∧ Good C w' Z' μ' (Uh o e.os) ∧ Evo b KK w Z μ w' Z' μ' := by
        intro e' he' hos hcells hk
        obtain ⟨cs', e1, e2, e3, e4⟩ := hst c.block (c.base + (i * c.sz + off)) cs ty fr hb h12 (by omega)
        obtain ⟨s1, s2, s3⟩ := UC (w := w) (ob := .cells cs' ty fr) hlt
        have hcell : ∀ b' i, Z b' i → ({ w with heap := w.heap.setIfInBounds c.block (.cells cs' ty fr) } : World).cell? ⟨b', i, none⟩ = w.cell? ⟨b', i, none⟩ := by
          intro b' i hzb
          have : b' ≠ c.block := by rintro rfl; exact h8 rfl i hzb
          simp only [World.cell?, s3 b' this]
        refine ⟨_, _, Z, μ, e1, hk, rfl, ?_, ⟨hcell, fun _ _ h => h, fun _ _ h => h, fun _ _ => rfl⟩⟩
        have hrow : Row { w with heap := w.heap.setIfInBounds c.block (.cells cs' ty fr) } Z noμ (fun k => cs'[c.base + k]?) s (xs.set i e') := by
          have hold : Row { w with heap := w.heap.setIfInBounds c.block (.cells cs' ty fr) } Z noμ (fun k => cs[c.base + k]?) s xs := fun j hj => by
            refine ⟨h10 j hj, fun k hk => ?_⟩
            obtain ⟨u, f1, f2, f3⟩ := h13 j hj k hk
            rw [h6] at f1
            exact ⟨u, f1, f2, f3.mono hcell (fun _ _ h => h) (fun _ _ h => h)⟩
          refine hold.set he' (fun j hj => ?_) (fun k hk => e4 _ (by rw [h6]; omega))
          have := hcells (fun k => cs[c.base + (i * s + k)]?) (fun k => cs'[c.base + (i * s + k)]?) _ hcell (fun j hj => by
            obtain ⟨u, f1, f2, f3⟩ := h13 i hix j hj
            rw [h6] at f1
            exact ⟨u, f1, f2, f3⟩) (fun k hk => by rw [← e3 k hk, h6]; congr 1; omega) (fun k hk => by
              rw [e4]; rw [h6]; omega)
          exact this j hj
        refine hg.write hoa hm hvo s3 s1 (fun i hzi => (h8 rfl i hzi).elim) ⟨by simpa using hlen, fun _ => ⟨h6, h7, fun _ => h8 rfl, h9, fun j hj => (hrow j hj).1, cs', ty, fr, s2, by omega, by rw [e2]; exact h12, fun j hj k hk => ?_⟩⟩
        obtain ⟨u, f1, f2, f3⟩ := (hrow j hj).2 k hk
        rw [h6]
        exact ⟨u, f1, f2, f3⟩
      have hei := h10 i hix
      split at h
      · rename_i vs hvs
        obtain ⟨_, hvs⟩ := List.getElem?_eq_some_iff.1 hvs
        obtain ⟨hle, h⟩ := h
        have hcl : vs.length = s := by rw [hvs] at hei; simpa [V.cells] using hei
        have hfit : off + (r x).cells.length ≤ vs.length := by omega
        refine main _ (by rw [Kj, JA hfit]; exact hcl) (by omega) (fun g g' w' hc' hg' k1 k2 => ?_) h
        rw [hvs] at hg'
        simp only [Kj] at hg' ⊢
        have hold : Yo w' Z noμ g vs := fun j hj => by
          obtain ⟨u, f1, f2, f3⟩ := hg' j hj
          exact ⟨u, f1, f2, f3.mono hc' (fun _ _ h => h) (fun _ _ h => h)⟩
        have hnew : Yo w' Z noμ (fun k => cx.cells[k]?) (r x).cells := fun j hj => by
          obtain ⟨u, f1, f2, f3⟩ := c3 j hj
          exact ⟨u, f1, f2, f3.mono hc' (fun _ _ h => h) (fun _ _ h => h)⟩
        exact hold.splice hnew hfit (fun k hk => k1 k (by omega)) (fun k hk => k2 k (by omega))
      · obtain ⟨⟨rfl, hs1, hsm⟩, h⟩ := h
        obtain ⟨_, _, hxc⟩ := V.small_ne hsm
        have hsz1 : sz = 1 := by rw [hxc] at q1; simpa using q1.symm
        refine main _ (by rw [hxc, hs1]; rfl) (by omega) (fun g g' w' hc' hg' k1 k2 => ?_) h
        intro j hj
        obtain ⟨u, f1, f2, f3⟩ := c3 j hj
        refine ⟨u, ?_, f2, f3.mono hc' (fun _ _ h => h) (fun _ _ h => h)⟩
        rw [← f1, ← k1 j (by omega)]; congr 1; omega
      · exact h.elim
    · rename_i s xs
      have c3 := c2
      obtain ⟨c', hm', hok, hlive⟩ := hg.ob n _ hoa
      rw [hm] at hm'; cases hm'
      obtain ⟨hlen, hok⟩ := hok
      obtain ⟨h6, h7, h8, h9, h10, cs, ty, fr, hb, h11, h12, h13⟩ := hok hvo
      have hlt : c.block < w.heap.size := (hlive hvo).1
      have hix : i < xs.length := by omega
      have hbd : (i + 1) * c.sz ≤ c.cap * c.sz := Nat.mul_le_mul_right _ (by omega)
      rw [Nat.add_mul] at hbd
      have main : ∀ (e' : V), e'.cells.length = s → off + sz ≤ s → (∀ g g' : Nat → Option Value, ∀ w' : World, (∀ b' i', Z b' i' → w'.cell? ⟨b', i', none⟩ = w.cell? ⟨b', i', none⟩) →
            (∀ j (hj : j < xs[i].cells.length), ∃ v, g j = some v ∧ v.oneCell' = true ∧ Rep w Z μ v xs[i].cells[j]) → (∀ k, k < sz → g' (off + k) = cx.cells[k]?) → (∀ k, k < off ∨ off + sz ≤ k → g' k = g k) →
            Yo w' Z μ g' e'.cells) →
          K { v := .top, os := [(n, .obuf true s (xs.set i e'))] } →
          ∃ e w' Z' μ', (Instr.storeAt t (.pointer (some ⟨c.block, c.base + (i * c.sz + off), none⟩)) cx).run C.P w = .ok () w' ∧ K e ∧ e.v = .top ∧ Good C w' Z' μ' (Uh o e.os) ∧ Evo b KK w Z μ w' Z' μ' := by
        intro e' he' hos hcells hk
        obtain ⟨cs', e1, e2, e3, e4⟩ := hst c.block (c.base + (i * c.sz + off)) cs ty fr hb h12 (by omega)
        obtain ⟨s1, s2, s3⟩ := UC (w := w) (ob := .cells cs' ty fr) hlt
        have hcell : ∀ b' i, Z b' i → ({ w with heap := w.heap.setIfInBounds c.block (.cells cs' ty fr) } : World).cell? ⟨b', i, none⟩ = w.cell? ⟨b', i, none⟩ := by
          intro b' i hzb
          have : b' ≠ c.block := by rintro rfl; exact h8 rfl i hzb
          simp only [World.cell?, s3 b' this]
        refine ⟨_, _, Z, μ, e1, hk, rfl, ?_, ⟨hcell, fun _ _ h => h, fun _ _ h => h, fun _ _ => rfl⟩⟩
        have hrow : Row { w with heap := w.heap.setIfInBounds c.block (.cells cs' ty fr) } Z μ (fun k => cs'[c.base + k]?) s (xs.set i e') := by
          have hold : Row { w with heap := w.heap.setIfInBounds c.block (.cells cs' ty fr) } Z μ (fun k => cs[c.base + k]?) s xs := fun j hj => by
            refine ⟨h10 j hj, fun k hk => ?_⟩
            obtain ⟨u, f1, f2, f3⟩ := h13 j hj k hk
            rw [h6] at f1
            exact ⟨u, f1, f2, f3.mono hcell (fun _ _ h => h) (fun _ _ h => h)⟩
          refine hold.set he' (fun j hj => ?_) (fun k hk => e4 _ (by rw [h6]; omega))
          have := hcells (fun k => cs[c.base + (i * s + k)]?) (fun k => cs'[c.base + (i * s + k)]?) _ hcell (fun j hj => by
            obtain ⟨u, f1, f2, f3⟩ := h13 i hix j hj
            rw [h6] at f1
            exact ⟨u, f1, f2, f3⟩) (fun k hk => by rw [← e3 k hk, h6]; congr 1; omega) (fun k hk => by
              rw [e4]; rw [h6]; omega)
          exact this j hj
        refine hg.write hoa hm hvo s3 s1 (fun i hzi => (h8 rfl i hzi).elim) ⟨by simpa using hlen, fun _ => ⟨h6, h7, fun _ => h8 rfl, h9, fun j hj => (hrow j hj).1, cs', ty, fr, s2, by omega, by rw [e2]; exact h12, fun j hj k hk => ?_⟩⟩
        obtain ⟨u, f1, f2, f3⟩ := (hrow j hj).2 k hk
        rw [h6]
        exact ⟨u, f1, f2, f3⟩
      have hei := h10 i hix
      split at h
      · rename_i vs hvs
        obtain ⟨_, hvs⟩ := List.getElem?_eq_some_iff.1 hvs
        obtain ⟨hle, h⟩ := h
        have hcl : vs.length = s := by rw [hvs] at hei; simpa [V.cells] using hei
        have hfit : off + (r x).cells.length ≤ vs.length := by omega
        refine main _ (by rw [Kj, JA hfit]; exact hcl) (by omega) (fun g g' w' hc' hg' k1 k2 => ?_) h
        rw [hvs] at hg'
        simp only [Kj] at hg' ⊢
        have hold : Yo w' Z μ g vs := fun j hj => by
          obtain ⟨u, f1, f2, f3⟩ := hg' j hj
          exact ⟨u, f1, f2, f3.mono hc' (fun _ _ h => h) (fun _ _ h => h)⟩
        have hnew : Yo w' Z μ (fun k => cx.cells[k]?) (r x).cells := fun j hj => by
          obtain ⟨u, f1, f2, f3⟩ := c3 j hj
          exact ⟨u, f1, f2, f3.mono hc' (fun _ _ h => h) (fun _ _ h => h)⟩
        exact hold.splice hnew hfit (fun k hk => k1 k (by omega)) (fun k hk => k2 k (by omega))
      · obtain ⟨⟨rfl, hs1, hsm⟩, h⟩ := h
        obtain ⟨_, _, hxc⟩ := V.small_ne hsm
        have hsz1 : sz = 1 := by rw [hxc] at q1; simpa using q1.symm
        refine main _ (by rw [hxc, hs1]; rfl) (by omega) (fun g g' w' hc' hg' k1 k2 => ?_) h
        intro j hj
        obtain ⟨u, f1, f2, f3⟩ := c3 j hj
        refine ⟨u, ?_, f2, f3.mono hc' (fun _ _ h => h) (fun _ _ h => h)⟩
        rw [← f1, ← k1 j (by omega)]; congr 1; omega
      · exact h.elim
    · exact h.elim
  · exact h.elim
end
end Av
end
section
namespace Av
open Go
section
variable {C : Ctx} {w : World} {Z : Nat → Nat → Prop} {μ : Nat → Option Cn} {o : Nat → Option Ob} {b : Nat} {r : Opd → V}
theorem Good.weak (h : Good C w Z μ o) {a sz : Nat} {xs : List V} {wr : Bool} (ho : o a = some (.buf true sz xs)) : Good C w Z μ (upd o a (some (.buf wr sz xs))) := by
  refine ⟨fun b z hb => ?_, fun b d p q e f hbd hp hq he hf lp lq => ?_, h.zlt, h.grow, h.frame, h.zsub, h.zsup, h.zkeep, h.fix, h.oo⟩
  · by_cases hba : b = a
    · subst hba
      rw [Qh] at hb; cases hb
      obtain ⟨c, hm, hok, hl⟩ := h.ob b _ ho
      exact ⟨c, hm, ⟨hok.1, fun hv => let ⟨h0, h1, h2, h3⟩ := hok.2 hv; ⟨h0, h1, fun _ => h2 rfl, h3⟩⟩, hl⟩
    · rw [QI _ _ hba] at hb; exact h.ob b z hb
  · have live : ∀ {b p e}, upd o a (some (.buf wr sz xs)) b = some p → p.live e → ∃ p', o b = some p' ∧ p'.live e := by
      intro b p e hp lp
      by_cases hba : b = a
      · subst hba; rw [Qh] at hp; cases hp; exact ⟨_, ho, lp⟩
      · rw [QI _ _ hba] at hp; exact ⟨p, hp, lp⟩
    obtain ⟨p', hp', lp'⟩ := live hp lp
    obtain ⟨q', hq', lq'⟩ := live hq lq
    exact h.sep b d p' q' e f hbd hp' hq' he hf lp' lq'
theorem Good.recast (h : Good C w Z μ o) {a : Nat} {x x' : Ob} (ho : o a = some x) (hok : ∀ c, μ a = some c → Up w Z μ c x → Up w Z μ c x') (hl : ∀ c, x'.live c → x.live c) : Good C w Z μ (upd o a (some x')) := by
  refine ⟨fun b z hb => ?_, fun b d p q e f hbd hp hq he hf lp lq => ?_, h.zlt, h.grow, h.frame, h.zsub, h.zsup, h.zkeep, h.fix, h.oo⟩
  · by_cases hba : b = a
    · subst hba
      rw [Qh] at hb; cases hb
      obtain ⟨c, hm, ho1, hl1⟩ := h.ob b _ ho
      exact ⟨c, hm, hok c hm ho1, fun hx => hl1 (hl c hx)⟩
    · rw [QI _ _ hba] at hb; exact h.ob b z hb
  · have live : ∀ {b p e}, upd o a (some x') b = some p → p.live e → ∃ p', o b = some p' ∧ p'.live e := by
      intro b p e hp lp
      by_cases hba : b = a
      · subst hba; rw [Qh] at hp; cases hp; exact ⟨_, ho, hl _ lp⟩
      · rw [QI _ _ hba] at hp; exact ⟨p, hp, lp⟩
    obtain ⟨p', hp', lp'⟩ := live hp lp
    obtain ⟨q', hq', lq'⟩ := live hq lq
    exact h.sep b d p' q' e f hbd hp' hq' he hf lp' lq'
theorem Good.weakO (h : Good C w Z μ o) {a sz : Nat} {xs : List V} {wr : Bool} (ho : o a = some (.obuf true sz xs)) : Good C w Z μ (upd o a (some (.obuf wr sz xs))) :=
  h.recast ho (fun c _ hok => ⟨hok.1, fun hv => let ⟨h0, h1, h2, h3⟩ := hok.2 hv; ⟨h0, h1, fun _ => h2 rfl, h3⟩⟩) (fun _ hl => hl)
theorem Good.open (h : Good C w Z μ o) {a sz : Nat} {xs : List V} {wr : Bool} (ho : o a = some (.buf wr sz xs)) : Good C w Z μ (upd o a (some (.obuf wr sz xs))) :=
  h.recast ho (fun _ _ hok => BOk.lift hok) (fun _ hl => hl)
def aaE (w : World) (μ : Nat → Option Cn) (a : Nat) (T : TypeId) : Prop := ∀ c, μ a = some c → c.base = 0 ∧ (c.void = false → ∃ cs fr, w.heap[c.block]? = some (.cells cs T fr))
theorem Good.typ (h : Good C w Z μ o) {a : Nat} {x : Ob} {T : TypeId} (ho : o a = some x) (ht : aaE w μ a T) (hv : ∀ c, x.live c → c.void = false) : Good C w Z μ (upd o a (some (.typ T x))) := by
  refine ⟨fun b z hb => ?_, fun b d p q e f hbd hp hq he hf lp lq => ?_, h.zlt, h.grow, h.frame, h.zsub, h.zsup, h.zkeep, h.fix, h.oo⟩
  · by_cases hba : b = a
    · subst hba
      rw [Qh] at hb; cases hb
      obtain ⟨c, hm, hok, hl⟩ := h.ob b _ ho
      exact ⟨c, hm, ⟨hok, (ht c hm).1, fun hl => (ht c hm).2 (hv c hl)⟩, hl⟩
    · rw [QI _ _ hba] at hb; exact h.ob b z hb
  · have live : ∀ {b p e}, upd o a (some (.typ T x)) b = some p → p.live e → ∃ p', o b = some p' ∧ p'.live e := by
      intro b p e hp lp
      by_cases hba : b = a
      · subst hba; rw [Qh] at hp; cases hp; exact ⟨_, ho, lp⟩
      · rw [QI _ _ hba] at hp; exact ⟨p, hp, lp⟩
    obtain ⟨p', hp', lp'⟩ := live hp lp
    obtain ⟨q', hq', lq'⟩ := live hq lq
    exact h.sep b d p' q' e f hbd hp' hq' he hf lp' lq'
theorem Good.untyp (h : Good C w Z μ o) {a : Nat} {x : Ob} {T : TypeId} (ho : o a = some (.typ T x)) : Good C w Z μ (upd o a (some x)) := by
  refine ⟨fun b z hb => ?_, fun b d p q e f hbd hp hq he hf lp lq => ?_, h.zlt, h.grow, h.frame, h.zsub, h.zsup, h.zkeep, h.fix, h.oo⟩
  · by_cases hba : b = a
    · subst hba
      rw [Qh] at hb; cases hb
      obtain ⟨c, hm, hok, hl⟩ := h.ob b _ ho
      exact ⟨c, hm, hok.1, hl⟩
    · rw [QI _ _ hba] at hb; exact h.ob b z hb
  · have live : ∀ {b p e}, upd o a (some x) b = some p → p.live e → ∃ p', o b = some p' ∧ p'.live e := by
      intro b p e hp lp
      by_cases hba : b = a
      · subst hba; rw [Qh] at hp; cases hp; exact ⟨_, ho, lp⟩
      · rw [QI _ _ hba] at hp; exact ⟨p, hp, lp⟩
    obtain ⟨p', hp', lp'⟩ := live hp lp
    obtain ⟨q', hq', lq'⟩ := live hq lq
    exact h.sep b d p' q' e f hbd hp' hq' he hf lp' lq'
theorem Vi {α : Type} (f : Nat → α) (a : Nat) (x y : α) : upd (upd f a x) a y = upd f a y := by
  funext b; simp only [upd]; split <;> rfl
theorem yN (n : Nat) : ∀ k c, Builtin.growBy n k c ≤ max c (2 * n + 768)
  | 0, c => by simp [Builtin.growBy]; omega
  | k + 1, c => by
    simp only [Builtin.growBy]
    split
    · omega
    · have := yN n k (c + (c + 768) / 4)
      omega
theorem abY {need cap : Nat} (h : cap < need) : Builtin.nextslicecap need cap ≤ 2 * need + 768 := by
  unfold Builtin.nextslicecap
  split
  · omega
  · split
    · omega
    · have := yN need 4 cap; omega
theorem XX {P : Program} {ts : Array TypeId} {ty st xt e : TypeId} {sz : Nat} (h1 : ts[0]? = some st) (h2 : P.underlying st = some (.slice e)) (h3 : Jl P e = some sz) (h4 : ts[1]? = some xt)
    (h5 : (∃ d, P.underlying xt = some (.slice d)) ∨ P.underlying xt = some .string) {ad : Option Addr} {sLen sCap n : Nat} {x : Value} {L : List Value} (hl : (Builtin.lenOf x).run P w = .ok n w) (hn : sLen + n ≤ sCap) (hfc : (Builtin.firstCells sz n x).run P w = .ok L.toArray w) {w' : World}
    (hst : ∀ a, ad = some a → (storeCells (a.add (sLen * sz)) L).run P w = .ok () w') (hst0 : ad = none → w' = w) :
    (Builtin.append_ ts ty #[.slice ad sLen sCap, x]).run P w = .ok (.slice ad (sLen + n) sCap) w' := by
  rcases h5 with ⟨d, h5⟩ | h5 <;> cases ad with
  | none =>
    rw [hst0 rfl]
    simp only [Builtin.append_, h1, h4, List.getElem?_toArray, List.getElem?_cons_zero, List.getElem?_cons_succ, Sem.run_bind, run_underlying h2 w, Result.andThen_ok, Ji h3 w, run_underlying h5 w, Sem.run_pure,
      Bool.false_eq_true, if_false, hl, hn, if_true, Bool.not_false, hfc]
  | some a =>
    have := hst a rfl
    simp only [Builtin.append_, h1, h4, List.getElem?_toArray, List.getElem?_cons_zero, List.getElem?_cons_succ, Sem.run_bind, run_underlying h2 w, Result.andThen_ok, Ji h3 w, run_underlying h5 w, Sem.run_pure,
      Bool.false_eq_true, if_false, hl, hn, if_true, Bool.not_false, hfc, this]
theorem jc {P : Program} {ts : Array TypeId} {ty st xt e : TypeId} {sz by_ : Nat} {z : Value} (h1 : ts[0]? = some st) (h2 : P.underlying st = some (.slice e)) (h3 : Jl P e = some sz) (h4 : ts[1]? = some xt)
    (h5 : (∃ d, P.underlying xt = some (.slice d)) ∨ P.underlying xt = some .string) (hb : KW P e = some by_) (hb1 : 1 ≤ by_) (hb2 : by_ ≤ 2 ^ 20) (hz0 : VO P e = some z) {ad : Option Addr} {sLen sCap n : Nat} {x : Value} {L0 L : List Value}
    (hl : (Builtin.lenOf x).run P w = .ok n w) (hn : sCap < sLen + n)
    (hs : (sLen + n) * by_ ≤ 2 ^ 40) (hfc : (Builtin.firstCells sz n x).run P w.drew = .ok L.toArray w.drew) (hf0 : (Builtin.firstCells sz sLen (.slice ad sLen sCap)).run P w.drew = .ok L0.toArray w.drew) :
    ∃ cap, sLen + n ≤ cap ∧ (Builtin.append_ ts ty #[.slice ad sLen sCap, x]).run P w = .ok (.slice (some ⟨w.heap.size, 0, none⟩) (sLen + n) cap)
      (w.drew.alloc (.cells (L0.toArray ++ L.toArray ++ Builtin.zeroCells z.cells (cap - (sLen + n))) e)) := by
  obtain ⟨i, hi, hib⟩ := Ko hb w
  obtain ⟨i', hi', hib'⟩ := Ko hb w.drew
  have hneed : sLen + n ≤ 2 ^ 40 := by
    have : (sLen + n) * 1 ≤ (sLen + n) * by_ := Nat.mul_le_mul_left _ hb1
    omega
  have hcap : ∃ cap, sLen + n ≤ cap ∧ (choose (.appendCap (sLen + n) sCap e)).run P w = .ok cap w.drew := by
    refine ⟨_, ?_, by rw [run_choose]; simp [Question.forced]; rfl⟩
    simp only [Question.cut]; exact Nat.le_add_right _ _
  obtain ⟨cap, hc1, hc2⟩ := hcap
  refine ⟨cap, hc1, ?_⟩
  have d1 : ¬ sLen + n ≤ sCap := by omega
  have d2 : ¬ ((sLen + n : Nat) : Int) > IntKind.i64.max := by
    have e : IntKind.i64.max = 9223372036854775807 := by decide
    rw [e]; omega
  have d3 : ¬ Builtin.nextslicecap (sLen + n) sCap * i.bytes > 2 ^ 48 := by
    have h1 := abY (need := sLen + n) (cap := sCap) hn
    have h2 : Builtin.nextslicecap (sLen + n) sCap * by_ ≤ (2 * (sLen + n) + 768) * by_ := Nat.mul_le_mul_right _ h1
    rw [hib]
    have h3 : (2 * (sLen + n) + 768) * by_ = 2 * ((sLen + n) * by_) + 768 * by_ := by rw [Nat.add_mul, Nat.mul_assoc]
    omega
  have hnew : ∀ cs : Array Value, (newRow e cs).run P w.drew = .ok ⟨w.heap.size, 0, none⟩ (w.drew.alloc (.cells cs e)) := fun cs => rfl
  have hroom : ∀ k, (askRoom k).run P w.drew = .ok () w.drew := by
    intro k; unfold askRoom; split <;> rfl
  rcases h5 with ⟨d, h5⟩ | h5 <;>
    simp only [Builtin.append_, h1, h4, List.getElem?_toArray, List.getElem?_cons_zero, List.getElem?_cons_succ, Sem.run_bind, run_underlying h2 w, Result.andThen_ok, Ji h3 w, run_underlying h5 w, Sem.run_pure,
      Bool.false_eq_true, if_false, hl, d1, hi, d2, false_and, d3, hc2, hi', hroom, hf0, Bool.not_false, if_true, hfc, X8 hz0 w.drew, hnew]
theorem Uu (zs : Array Value) (n : Nat) : (Builtin.zeroCells zs n).size = n * zs.size := by simp [Builtin.zeroCells]
structure Src (C : Ctx) (w : World) (Z : Nat → Nat → Prop) (sz n : Nat) (cy : Value) (ys : List V) (L : List Value) : Prop where
  len : (Builtin.lenOf cy).run C.P w = .ok n w
  cells : ∀ w1 : World, w1.heap = w.heap → (Builtin.firstCells sz n cy).run C.P w1 = .ok L.toArray w1
  size : L.length = n * sz
  one : ∀ u ∈ L, u.oneCell' = true
  row : Row w Z noμ (fun k => L[k]?) sz ys
  count : ys.length = n
structure Tgt (P : Program) (ts : Array TypeId) (st xt e : TypeId) (sz by_ : Nat) (z : Value) : Prop where
  h1 : ts[0]? = some st
  h2 : P.underlying st = some (.slice e)
  h3 : Jl P e = some sz
  h4 : ts[1]? = some xt
  h5 : (∃ d, P.underlying xt = some (.slice d)) ∨ P.underlying xt = some .string
  hb : KW P e = some by_
  hb1 : 1 ≤ by_
  hb2 : by_ ≤ 2 ^ 20
  hz : VO P e = some z
  hzs : z.cells.size = sz
theorem xX (hg : Good C w Z μ o) (hf : ∀ x, b ≤ x → x < b + KK → μ x = none) (hm : C.m ≤ b) {ts : Array TypeId} {ty st xt e : TypeId} {sz by_ : Nat} {z : Value} (T : Tgt C.P ts st xt e sz by_ z) {cy : Value} {n : Nat} {ys : List V} {L : List Value} (S : Src C w Z sz n cy ys L)
    {ad : Option Addr} {sLen sCap : Nat} {xs : List V} {L0 : List Value} (h0 : ∀ w1 : World, w1.heap = w.heap → (Builtin.firstCells sz sLen (.slice ad sLen sCap)).run C.P w1 = .ok L0.toArray w1) (hl0 : L0.length = sLen * sz) (hr0 : Row w Z noμ (fun k => L0[k]?) sz xs) (hx : xs.length = sLen)
    (hn : sCap < sLen + n) (hs : (sLen + n) * by_ ≤ 2 ^ 40) :
    ∃ v w' μ', (Builtin.append_ ts ty #[.slice ad sLen sCap, cy]).run C.P w = .ok v w' ∧ Rep w' Z μ' v (.hd b 0 (sLen + n)) ∧ Good C w' Z μ' (upd o b (some (.buf true sz (xs ++ ys)))) ∧ Evo b KK w Z μ w' Z μ' ∧ aaE w' μ' b e := by
  obtain ⟨cap, hc, hrun⟩ := jc (P := C.P) (w := w) (ty := ty) T.h1 T.h2 T.h3 T.h4 T.h5 T.hb T.hb1 T.hb2 T.hz (ad := ad) S.len hn hs (S.cells w.drew rfl) (h0 w.drew rfl)
  have hlen : (xs ++ ys).length = sLen + n := by simp [hx, S.count]
  have hrow : Row w Z noμ (fun k => (L0.toArray ++ L.toArray ++ Builtin.zeroCells z.cells (cap - (sLen + n)))[k]?) sz (xs ++ ys) := by
    refine Row.append (hr0.congr (fun k hk => ?_)) (S.row.congr (fun k hk => ?_))
    · rw [hx] at hk
      rw [Array.getElem?_append_left (by simp; omega), Array.getElem?_append_left (by simp; omega)]
      simp
    · rw [S.count] at hk
      have hSs := S.size
      simp only [hx]
      rw [Array.getElem?_append_left (by simp; omega), Array.getElem?_append_right (by simp; omega)]
      simp [hl0]
  have hsize : cap * sz ≤ (L0.toArray ++ L.toArray ++ Builtin.zeroCells z.cells (cap - (sLen + n))).size := by
    simp only [Array.size_append, List.size_toArray, Uu, T.hzs, hl0, S.size]
    rw [← Nat.add_mul, ← Nat.add_mul]
    exact Nat.mul_le_mul_right _ (by omega)
  obtain ⟨g1, g2, g3⟩ := jK hg hf hm (w1 := w.drew) rfl (e := e) (fr := (0, 0)) (sz := sz) (cap := cap) (xs := xs ++ ys) (fun k _ => by omega) hrow (by omega) hsize
  rw [hlen] at g1 g2 g3
  exact ⟨_, _, _, hrun, g1, g2, g3, fun c hc => by rw [Qh] at hc; cases hc; exact ⟨rfl, fun _ => ⟨_, _, heap_alloc_new⟩⟩⟩
theorem append_nil (hg : Good C w Z μ o) (hf : ∀ x, b ≤ x → x < b + KK → μ x = none) (hm : C.m ≤ b) {ts : Array TypeId} {ty st xt e : TypeId} {sz by_ : Nat} {z : Value} (T : Tgt C.P ts st xt e sz by_ z) {cy : Value} {n : Nat} {ys : List V} {L : List Value} (S : Src C w Z sz n cy ys L)
    (hs : n * by_ ≤ 2 ^ 40) :
    ∃ v w' μ', (Builtin.append_ ts ty #[.slice none 0 0, cy]).run C.P w = .ok v w' ∧ Rep w' Z μ' v (.hd b 0 n) ∧ Good C w' Z μ' (upd o b (some (.buf true sz ys))) ∧ Evo b KK w Z μ w' Z μ' ∧ aaE w' μ' b e := by
  by_cases hn : n = 0
  · subst hn
    have hys : ys = [] := List.eq_nil_of_length_eq_zero S.count
    subst hys
    have hx := hf b (Nat.le_refl _) (by simp [KK])
    refine ⟨_, w, _, XX (w' := w) T.h1 T.h2 T.h3 T.h4 T.h5 S.len (by omega) (S.cells w rfl) (fun a h => by cases h) (fun _ => rfl), ?_, hg.nil (sz := sz) hx hm, Evo.name hx (Nat.le_refl _) (by simp [KK]), fun c hc => by rw [Qh] at hc; cases hc; exact ⟨rfl, fun hv => by cases hv⟩⟩
    exact .hd (Qh _ _ _) (by simp [Hdr])
  · have := xX (ty := ty) hg hf hm T S (ad := none) (sLen := 0) (sCap := 0) (xs := []) (L0 := []) (fun w1 _ => rfl) (by simp) Row.nil rfl (by omega) (by simpa using hs)
    simpa using this
theorem U4 {c : Cn} {off len : Nat} {v : Value} (h : Hdr c off len v) (hv : c.void = true) : v = .slice none 0 0 ∧ off = 0 ∧ len = 0 := by
  simpa [Hdr, hv] using h
theorem U5 {c : Cn} {off len : Nat} {v : Value} (h : Hdr c off len v) (hv : c.void = false) : ∃ ad, v = .slice (some ad) len (c.cap - off) ∧ off + len ≤ c.n ∧ off ≤ c.cap ∧ (off < c.cap → ad = ⟨c.block, c.base + off * c.sz, none⟩) := by
  simpa [Hdr, hv] using h
theorem y4 (hg : Good C w Z μ o) (hf : ∀ x, b ≤ x → x < b + KK → μ x = none) (hm : C.m ≤ b) {ts : Array TypeId} {ty st xt e : TypeId} {sz by_ : Nat} {z : Value} (T : Tgt C.P ts st xt e sz by_ z) {cy : Value} {n : Nat} {ys : List V} {L : List Value} (S : Src C w Z sz n cy ys L)
    {a off len : Nat} {wr : Bool} {xs : List V} {cx : Value} (hx : Rep w Z μ cx (.hd a off len)) (ho : o a = some (.buf wr sz xs)) (htip : off + len = xs.length ∨ wr = true) (hs : (len + n) * by_ ≤ 2 ^ 40) :
    ∃ v w' μ', (Builtin.append_ ts ty #[cx, cy]).run C.P w = .ok v w' ∧ Rep w' Z μ' v (.hd b 0 (len + n)) ∧ Good C w' Z μ' (upd (upd o a (some .dead)) b (some (.buf wr sz ((xs.drop off).take len ++ ys)))) ∧ Evo b KK w Z μ w' Z μ' ∧ (aaE w μ a e → off = 0 → aaE w' μ' b e) := by
  have hbx := hf b (Nat.le_refl _) (by simp [KK])
  obtain ⟨c, hmu, hh⟩ := hx.hdE
  obtain ⟨c', hm', hok, hlive⟩ := hg.ob a _ ho
  rw [hmu] at hm'; cases hm'
  have hab : b ≠ a := by rintro rfl; rw [hbx] at hmu; cases hmu
  cases hv : c.void with
  | true =>
    obtain ⟨rfl, rfl, rfl⟩ := U4 hh hv
    obtain ⟨v, w', μ', e1, e2, e3, e4, e5⟩ := append_nil (ty := ty) (hg.kill ho) hf hm T S (by simpa using hs)
    have g := e3.weak (a := b) (wr := wr) (Qh _ _ _)
    rw [Vi] at g
    exact ⟨v, w', μ', e1, by simpa using e2, by simpa using g, e4, fun _ _ => e5⟩
  | false =>
    obtain ⟨ad, rfl, h3, h4, h5⟩ := U5 hh hv
    obtain ⟨hlen, hok⟩ := hok
    obtain ⟨h6, h7, h8, h9, h10, cs, cty, fr, hb, h11, h12, h13⟩ := hok hv
    have hlx : ((xs.drop off).take len).length = len := by simp; omega
    have hrow0 : Row w Z noμ (fun k => w.cell? ⟨c.block, c.base + k, none⟩) sz xs := by
      intro i hi
      refine ⟨h10 i hi, fun j hj => ?_⟩
      obtain ⟨u, e1, e2, e3⟩ := h13 i hi j hj
      rw [h6] at e1
      exact ⟨u, by simp only [cell?_of_heap hb]; exact e1, e2, e3⟩
    have hrow1 : Row w Z noμ (fun k => w.cell? ⟨c.block, c.base + off * sz + k, none⟩) sz ((xs.drop off).take len) :=
      ((hrow0.drop off).take len).congr (fun k _ => by rw [Nat.add_assoc])
    by_cases hroom : len + n ≤ c.cap - off
    ·
      by_cases hn : n = 0
      · subst hn
        have hys : ys = [] := List.eq_nil_of_length_eq_zero S.count
        subst hys
        have hL : L = [] := by have := S.size; simpa using this
        subst hL
        have hob : Up w Z (upd μ b (some { c with base := c.base + off * sz, cap := c.cap - off, n := len })) { c with base := c.base + off * sz, cap := c.cap - off, n := len } (.buf wr sz ((xs.drop off).take len)) := by
          refine ⟨hlx, fun _ => ⟨h6, by omega, h8, fun i hz => ?_, fun i hi => (hrow1 i hi).1, cs, cty, fr, hb, ?_, h12, fun i hi j hj => ?_⟩⟩
          · rcases htip with h | h
            · have := h9 i hz
              simp only [h6] at this ⊢
              have e : (off + len) * sz = off * sz + len * sz := Nat.add_mul _ _ _
              rw [← hlen, ← h, e] at this
              omega
            · exact (h8 h i hz).elim
          · simp only [h6]
            have e : (off + (c.cap - off)) * sz = off * sz + (c.cap - off) * sz := Nat.add_mul _ _ _
            rw [show off + (c.cap - off) = c.cap by omega, ← h6] at e
            rw [h6] at e h11
            omega
          · obtain ⟨u, e1, e2, e3⟩ := (hrow1 i hi).2 j hj
            simp only [cell?_of_heap hb] at e1
            exact ⟨u, by simp only [h6]; exact e1, e2, e3⟩
        refine ⟨_, w, upd μ b (some { c with base := c.base + off * sz, cap := c.cap - off, n := len }), XX (w' := w) T.h1 T.h2 T.h3 T.h4 T.h5 S.len hroom (S.cells w rfl) (fun a h => rfl) (fun _ => rfl), .hd (Qh _ _ _) ?_, ?_, Evo.name hbx (Nat.le_refl _) (by simp [KK]), fun ht h0 c2 hc2 => ?_⟩
        rotate_left 2
        · rw [Qh] at hc2; cases hc2
          obtain ⟨t1, t2⟩ := ht c hmu
          exact ⟨by simp [t1, h0], fun hv2 => t2 hv⟩
        · simp only [Hdr, hv, Bool.false_eq_true, if_false]
          refine ⟨ad, by simp, by omega, by omega, fun hlt => ?_⟩
          rw [h5 (by omega), h6]; simp
        · have := hg.pass (w' := w) (x' := .buf wr sz ((xs.drop off).take len)) ho hmu hv hbx hm (c' := { c with base := c.base + off * sz, cap := c.cap - off, n := len }) rfl (fun _ _ => rfl) rfl (fun _ _ => rfl) hob
          simpa using this
      · have had := h5 (by omega)
        subst had
        have hbd : (off + len + n) * sz ≤ c.cap * sz := Nat.mul_le_mul_right _ (by omega)
        have hbd' : (off + len + n) * sz = off * sz + len * sz + n * sz := by rw [Nat.add_mul, Nat.add_mul]
        rw [h6] at h11
        obtain ⟨cs', e1, e2, e3, e4⟩ := YN (P := C.P) c.block cty fr L (c.base + off * sz + len * sz) 0 cs w hb h12 (by rw [S.size]; omega) S.one
        obtain ⟨s1, s2, s3⟩ := UC (w := w) (ob := .cells cs' cty fr) (hlive hv).1
        have hzc : ∀ i, Z c.block i → ({ w with heap := w.heap.setIfInBounds c.block (.cells cs' cty fr) } : World).cell? ⟨c.block, i, none⟩ = w.cell? ⟨c.block, i, none⟩ := by
          intro i hz
          rcases htip with h | h
          · have := h9 i hz
            rw [cell?_of_heap s2, cell?_of_heap hb]
            refine e4 i (.inl ?_)
            have e : (off + len) * sz = off * sz + len * sz := Nat.add_mul _ _ _
            rw [← hlen, ← h, h6, e] at this
            omega
          · exact (h8 h i hz).elim
        have hcell : ∀ b' i, Z b' i → ({ w with heap := w.heap.setIfInBounds c.block (.cells cs' cty fr) } : World).cell? ⟨b', i, none⟩ = w.cell? ⟨b', i, none⟩ := by
          intro b' i hz
          by_cases hbb : b' = c.block
          · subst hbb; exact hzc i hz
          · simp only [World.cell?, s3 b' hbb]
        have hrep : ∀ v x, Rep w Z noμ v x → Rep { w with heap := w.heap.setIfInBounds c.block (.cells cs' cty fr) } Z noμ v x :=
          fun v x h => h.mono hcell (fun _ _ h => h) (fun _ _ h => h)
        have hrow : Row { w with heap := w.heap.setIfInBounds c.block (.cells cs' cty fr) } Z noμ (fun k => cs'[c.base + off * sz + k]?) sz ((xs.drop off).take len ++ ys) := by
          refine Row.append ((hrow1.mono hrep).congr (fun k hk => ?_)) ((S.row.mono hrep).congr (fun k hk => ?_))
          · rw [hlx] at hk
            rw [cell?_of_heap hb]
            exact e4 _ (.inl (by omega))
          · rw [S.count] at hk
            rw [hlx]
            have := e3 k (by rw [S.size]; exact hk)
            rw [← this]; congr 1; omega
        have hob : Up { w with heap := w.heap.setIfInBounds c.block (.cells cs' cty fr) } Z (upd μ b (some { c with base := c.base + off * sz, cap := c.cap - off, n := len + n })) { c with base := c.base + off * sz, cap := c.cap - off, n := len + n } (.buf wr sz ((xs.drop off).take len ++ ys)) := by
          refine ⟨by simp only [List.length_append, hlx, S.count], fun _ => ⟨h6, by simp only; omega, h8, fun i hz => ?_, fun i hi => (hrow i hi).1, cs', cty, fr, s2, ?_, by rw [e2]; exact h12, fun i hi j hj => ?_⟩⟩
          · rcases htip with h | h
            · have := h9 i hz
              simp only [h6] at this ⊢
              have e : (off + len) * sz = off * sz + len * sz := Nat.add_mul _ _ _
              rw [← hlen, ← h, e] at this
              have e' : (len + n) * sz = len * sz + n * sz := Nat.add_mul _ _ _
              rw [e']; omega
            · exact (h8 h i hz).elim
          · simp only [h6, e2]
            have e : (off + (c.cap - off)) * sz = off * sz + (c.cap - off) * sz := Nat.add_mul _ _ _
            rw [show off + (c.cap - off) = c.cap by omega] at e
            omega
          · obtain ⟨u, f1, f2, f3⟩ := (hrow i hi).2 j hj
            exact ⟨u, by simp only [h6]; exact f1, f2, f3⟩
        refine ⟨_, _, upd μ b (some { c with base := c.base + off * sz, cap := c.cap - off, n := len + n }), XX T.h1 T.h2 T.h3 T.h4 T.h5 S.len hroom (S.cells w rfl) (fun a h => by cases h; rw [Xb, h6]; exact e1) (fun h => by cases h), .hd (Qh _ _ _) ?_, ?_, ⟨hcell, fun _ _ h => h, Wq hbx, fun x hx => QI _ _ (by simp [KK] at hx; omega)⟩, fun ht h0 c2 hc2 => ?_⟩
        rotate_left 2
        · rw [Qh] at hc2; cases hc2
          obtain ⟨t1, t2⟩ := ht c hmu
          obtain ⟨cs2, fr2, ht2⟩ := t2 hv
          rw [hb] at ht2
          simp only [Option.some.injEq, Obj.cells.injEq] at ht2
          obtain ⟨_, rfl, _⟩ := ht2
          exact ⟨by simp [t1, h0], fun hv2 => ⟨_, _, s2⟩⟩
        · simp only [Hdr, hv, Bool.false_eq_true, if_false]
          exact ⟨_, rfl, by omega, by omega, fun _ => by rw [h6]; simp⟩
        · exact hg.pass (x' := .buf wr sz ((xs.drop off).take len ++ ys)) ho hmu hv hbx hm (c' := { c with base := c.base + off * sz, cap := c.cap - off, n := len + n }) rfl s3 s1 hzc hob
    ·
      obtain ⟨L0, f1, f2, f3, f4⟩ := YQ (C := C) (w := w) (Z := Z) (μ := noμ) (xs := (xs.drop off).take len) (a := some ad) (cap := c.cap - off) (sz := sz) (fun hne => by
        have hpos : 0 < len := by
          rcases Nat.eq_zero_or_pos len with h0 | h0
          · subst h0; simp at hne
          · exact h0
        exact ⟨c.block, c.base + off * sz, by rw [h5 (by omega), h6], hrow1⟩) len (by omega)
      rw [hlx] at f1
      rw [List.take_of_length_le (by omega)] at f4
      obtain ⟨v, w', μ', e1, e2, e3, e4, e5⟩ := xX (ty := ty) (hg.kill ho) hf hm T S f1 f2 f4 hlx (by omega) hs
      have g := e3.weak (a := b) (wr := wr) (Qh _ _ _)
      rw [Vi] at g
      exact ⟨v, w', μ', e1, e2, g, e4, fun _ _ => e5⟩
structure ac2 (C : Ctx) (w : World) (Z : Nat → Nat → Prop) (μ : Nat → Option Cn) (sz n : Nat) (cy : Value) (ys : List V) (L : List Value) : Prop where
  len : (Builtin.lenOf cy).run C.P w = .ok n w
  cells : ∀ w1 : World, w1.heap = w.heap → (Builtin.firstCells sz n cy).run C.P w1 = .ok L.toArray w1
  size : L.length = n * sz
  one : ∀ u ∈ L, u.oneCell' = true
  row : Row w Z μ (fun k => L[k]?) sz ys
  count : ys.length = n
theorem yM (hg : Good C w Z μ o) (hf : ∀ x, b ≤ x → x < b + KK → μ x = none) (hm : C.m ≤ b) {ts : Array TypeId} {ty st xt e : TypeId} {sz by_ : Nat} {z : Value} (T : Tgt C.P ts st xt e sz by_ z) {cy : Value} {n : Nat} {ys : List V} {L : List Value} (S : ac2 C w Z μ sz n cy ys L)
    {ad : Option Addr} {sLen sCap : Nat} {xs : List V} {L0 : List Value} (h0 : ∀ w1 : World, w1.heap = w.heap → (Builtin.firstCells sz sLen (.slice ad sLen sCap)).run C.P w1 = .ok L0.toArray w1) (hl0 : L0.length = sLen * sz) (hr0 : Row w Z μ (fun k => L0[k]?) sz xs) (hx : xs.length = sLen)
    (hn : sCap < sLen + n) (hs : (sLen + n) * by_ ≤ 2 ^ 40) :
    ∃ v w' μ', (Builtin.append_ ts ty #[.slice ad sLen sCap, cy]).run C.P w = .ok v w' ∧ Rep w' Z μ' v (.hd b 0 (sLen + n)) ∧ Good C w' Z μ' (upd o b (some (.obuf true sz (xs ++ ys)))) ∧ Evo b KK w Z μ w' Z μ' ∧ aaE w' μ' b e := by
  obtain ⟨cap, hc, hrun⟩ := jc (P := C.P) (w := w) (ty := ty) T.h1 T.h2 T.h3 T.h4 T.h5 T.hb T.hb1 T.hb2 T.hz (ad := ad) S.len hn hs (S.cells w.drew rfl) (h0 w.drew rfl)
  have hlen : (xs ++ ys).length = sLen + n := by simp [hx, S.count]
  have hrow : Row w Z μ (fun k => (L0.toArray ++ L.toArray ++ Builtin.zeroCells z.cells (cap - (sLen + n)))[k]?) sz (xs ++ ys) := by
    refine Row.append (hr0.congr (fun k hk => ?_)) (S.row.congr (fun k hk => ?_))
    · rw [hx] at hk
      rw [Array.getElem?_append_left (by simp; omega), Array.getElem?_append_left (by simp; omega)]
      simp
    · rw [S.count] at hk
      have hSs := S.size
      simp only [hx]
      rw [Array.getElem?_append_left (by simp; omega), Array.getElem?_append_right (by simp; omega)]
      simp [hl0]
  have hsize : cap * sz ≤ (L0.toArray ++ L.toArray ++ Builtin.zeroCells z.cells (cap - (sLen + n))).size := by
    simp only [Array.size_append, List.size_toArray, Uu, T.hzs, hl0, S.size]
    rw [← Nat.add_mul, ← Nat.add_mul]
    exact Nat.mul_le_mul_right _ (by omega)
  obtain ⟨g1, g2, g3⟩ := xl hg hf hm (w1 := w.drew) rfl (e := e) (fr := (0, 0)) (sz := sz) (cap := cap) (xs := xs ++ ys) (fun k _ => by omega) hrow (by omega) hsize
  rw [hlen] at g1 g2 g3
  exact ⟨_, _, _, hrun, g1, g2, g3, fun c hc => by rw [Qh] at hc; cases hc; exact ⟨rfl, fun _ => ⟨_, _, heap_alloc_new⟩⟩⟩
theorem jb (hg : Good C w Z μ o) (hf : ∀ x, b ≤ x → x < b + KK → μ x = none) (hm : C.m ≤ b) {ts : Array TypeId} {ty st xt e : TypeId} {sz by_ : Nat} {z : Value} (T : Tgt C.P ts st xt e sz by_ z) {cy : Value} {n : Nat} {ys : List V} {L : List Value} (S : ac2 C w Z μ sz n cy ys L)
    (hs : n * by_ ≤ 2 ^ 40) :
    ∃ v w' μ', (Builtin.append_ ts ty #[.slice none 0 0, cy]).run C.P w = .ok v w' ∧ Rep w' Z μ' v (.hd b 0 n) ∧ Good C w' Z μ' (upd o b (some (.obuf true sz ys))) ∧ Evo b KK w Z μ w' Z μ' ∧ aaE w' μ' b e := by
  by_cases hn : n = 0
  · subst hn
    have hys : ys = [] := List.eq_nil_of_length_eq_zero S.count
    subst hys
    have hx := hf b (Nat.le_refl _) (by simp [KK])
    refine ⟨_, w, upd μ b (some { block := 0, void := true }), XX (w' := w) T.h1 T.h2 T.h3 T.h4 T.h5 S.len (by omega) (S.cells w rfl) (fun a h => by cases h) (fun _ => rfl), ?_, ?_, Evo.name hx (Nat.le_refl _) (by simp [KK]), fun c hc => by rw [Qh] at hc; cases hc; exact ⟨rfl, fun hv => by cases hv⟩⟩
    · exact .hd (Qh _ _ _) (by simp [Hdr])
    · have := (hg.nil (sz := sz) hx hm).open (Qh _ _ _)
      rwa [Vi] at this
  · have := yM (ty := ty) hg hf hm T S (ad := none) (sLen := 0) (sCap := 0) (xs := []) (L0 := []) (fun w1 _ => rfl) (by simp) Row.nil rfl (by omega) (by simpa using hs)
    simpa using this
theorem KM (hg : Good C w Z μ o) (hf : ∀ x, b ≤ x → x < b + KK → μ x = none) (hm : C.m ≤ b) {ts : Array TypeId} {ty st xt e : TypeId} {sz by_ : Nat} {z : Value} (T : Tgt C.P ts st xt e sz by_ z) {cy : Value} {n : Nat} {ys : List V} {L : List Value} (S : ac2 C w Z μ sz n cy ys L)
    {a off len : Nat} {wr : Bool} {xs : List V} {cx : Value} (hx : Rep w Z μ cx (.hd a off len)) (ho : o a = some (.obuf wr sz xs)) (htip : off + len = xs.length ∨ wr = true) (hs : (len + n) * by_ ≤ 2 ^ 40) :
    ∃ v w' μ', (Builtin.append_ ts ty #[cx, cy]).run C.P w = .ok v w' ∧ Rep w' Z μ' v (.hd b 0 (len + n)) ∧ Good C w' Z μ' (upd (upd o a (some .dead)) b (some (.obuf wr sz ((xs.drop off).take len ++ ys)))) ∧ Evo b KK w Z μ w' Z μ' ∧ (aaE w μ a e → off = 0 → aaE w' μ' b e) := by
  have hbx := hf b (Nat.le_refl _) (by simp [KK])
  obtain ⟨c, hmu, hh⟩ := hx.hdE
  obtain ⟨c', hm', hok, hlive⟩ := hg.ob a _ ho
  rw [hmu] at hm'; cases hm'
  have hab : b ≠ a := by rintro rfl; rw [hbx] at hmu; cases hmu
  cases hv : c.void with
  | true =>
    obtain ⟨rfl, rfl, rfl⟩ := U4 hh hv
    obtain ⟨v, w', μ', e1, e2, e3, e4, e5⟩ := jb (ty := ty) (hg.kill ho) hf hm T S (by simpa using hs)
    have g := e3.weakO (a := b) (wr := wr) (Qh _ _ _)
    rw [Vi] at g
    exact ⟨v, w', μ', e1, by simpa using e2, by simpa using g, e4, fun _ _ => e5⟩
  | false =>
    obtain ⟨ad, rfl, h3, h4, h5⟩ := U5 hh hv
    obtain ⟨hlen, hok⟩ := hok
    obtain ⟨h6, h7, h8, h9, h10, cs, cty, fr, hb, h11, h12, h13⟩ := hok hv
    have hlx : ((xs.drop off).take len).length = len := by simp; omega
    have hrow0 : Row w Z μ (fun k => w.cell? ⟨c.block, c.base + k, none⟩) sz xs := by
      intro i hi
      refine ⟨h10 i hi, fun j hj => ?_⟩
      obtain ⟨u, e1, e2, e3⟩ := h13 i hi j hj
      rw [h6] at e1
      exact ⟨u, by simp only [cell?_of_heap hb]; exact e1, e2, e3⟩
    have hrow1 : Row w Z μ (fun k => w.cell? ⟨c.block, c.base + off * sz + k, none⟩) sz ((xs.drop off).take len) :=
      ((hrow0.drop off).take len).congr (fun k _ => by rw [Nat.add_assoc])
    by_cases hroom : len + n ≤ c.cap - off
    ·
      by_cases hn : n = 0
      · subst hn
        have hys : ys = [] := List.eq_nil_of_length_eq_zero S.count
        subst hys
        have hL : L = [] := by have := S.size; simpa using this
        subst hL
        have hob : Up w Z (upd μ b (some { c with base := c.base + off * sz, cap := c.cap - off, n := len })) { c with base := c.base + off * sz, cap := c.cap - off, n := len } (.obuf wr sz ((xs.drop off).take len)) := by
          refine ⟨hlx, fun _ => ⟨h6, by omega, h8, fun i hz => ?_, fun i hi => (hrow1 i hi).1, cs, cty, fr, hb, ?_, h12, fun i hi j hj => ?_⟩⟩
          · rcases htip with h | h
            · have := h9 i hz
              simp only [h6] at this ⊢
              have e : (off + len) * sz = off * sz + len * sz := Nat.add_mul _ _ _
              rw [← hlen, ← h, e] at this
              omega
            · exact (h8 h i hz).elim
          · simp only [h6]
            have e : (off + (c.cap - off)) * sz = off * sz + (c.cap - off) * sz := Nat.add_mul _ _ _
            rw [show off + (c.cap - off) = c.cap by omega, ← h6] at e
            rw [h6] at e h11
            omega
          · obtain ⟨u, e1, e2, e3⟩ := (hrow1 i hi).2 j hj
            simp only [cell?_of_heap hb] at e1
            exact ⟨u, by simp only [h6]; exact e1, e2, e3.mono (fun _ _ _ => rfl) (fun _ _ h => h) (Wq hbx)⟩
        refine ⟨_, w, upd μ b (some { c with base := c.base + off * sz, cap := c.cap - off, n := len }), XX (w' := w) T.h1 T.h2 T.h3 T.h4 T.h5 S.len hroom (S.cells w rfl) (fun a h => rfl) (fun _ => rfl), .hd (Qh _ _ _) ?_, ?_, Evo.name hbx (Nat.le_refl _) (by simp [KK]), fun ht h0 c2 hc2 => ?_⟩
        rotate_left 2
        · rw [Qh] at hc2; cases hc2
          obtain ⟨t1, t2⟩ := ht c hmu
          exact ⟨by simp [t1, h0], fun hv2 => t2 hv⟩
        · simp only [Hdr, hv, Bool.false_eq_true, if_false]
          refine ⟨ad, by simp, by omega, by omega, fun hlt => ?_⟩
          rw [h5 (by omega), h6]; simp
        · have := hg.pass (w' := w) (x' := .obuf wr sz ((xs.drop off).take len)) ho hmu hv hbx hm (c' := { c with base := c.base + off * sz, cap := c.cap - off, n := len }) rfl (fun _ _ => rfl) rfl (fun _ _ => rfl) hob
          simpa using this
      · have had := h5 (by omega)
        subst had
        have hbd : (off + len + n) * sz ≤ c.cap * sz := Nat.mul_le_mul_right _ (by omega)
        have hbd' : (off + len + n) * sz = off * sz + len * sz + n * sz := by rw [Nat.add_mul, Nat.add_mul]
        rw [h6] at h11
        obtain ⟨cs', e1, e2, e3, e4⟩ := YN (P := C.P) c.block cty fr L (c.base + off * sz + len * sz) 0 cs w hb h12 (by rw [S.size]; omega) S.one
        obtain ⟨s1, s2, s3⟩ := UC (w := w) (ob := .cells cs' cty fr) (hlive hv).1
        have hzc : ∀ i, Z c.block i → ({ w with heap := w.heap.setIfInBounds c.block (.cells cs' cty fr) } : World).cell? ⟨c.block, i, none⟩ = w.cell? ⟨c.block, i, none⟩ := by
          intro i hz
          rcases htip with h | h
          · have := h9 i hz
            rw [cell?_of_heap s2, cell?_of_heap hb]
            refine e4 i (.inl ?_)
            have e : (off + len) * sz = off * sz + len * sz := Nat.add_mul _ _ _
            rw [← hlen, ← h, h6, e] at this
            omega
          · exact (h8 h i hz).elim
        have hcell : ∀ b' i, Z b' i → ({ w with heap := w.heap.setIfInBounds c.block (.cells cs' cty fr) } : World).cell? ⟨b', i, none⟩ = w.cell? ⟨b', i, none⟩ := by
          intro b' i hz
          by_cases hbb : b' = c.block
          · subst hbb; exact hzc i hz
          · simp only [World.cell?, s3 b' hbb]
        have hrep : ∀ v x, Rep w Z μ v x → Rep { w with heap := w.heap.setIfInBounds c.block (.cells cs' cty fr) } Z μ v x :=
          fun v x h => h.mono hcell (fun _ _ h => h) (fun _ _ h => h)
        have hrow : Row { w with heap := w.heap.setIfInBounds c.block (.cells cs' cty fr) } Z μ (fun k => cs'[c.base + off * sz + k]?) sz ((xs.drop off).take len ++ ys) := by
          refine Row.append ((hrow1.mono hrep).congr (fun k hk => ?_)) ((S.row.mono hrep).congr (fun k hk => ?_))
          · rw [hlx] at hk
            rw [cell?_of_heap hb]
            exact e4 _ (.inl (by omega))
          · rw [S.count] at hk
            rw [hlx]
            have := e3 k (by rw [S.size]; exact hk)
            rw [← this]; congr 1; omega
        have hob : Up { w with heap := w.heap.setIfInBounds c.block (.cells cs' cty fr) } Z (upd μ b (some { c with base := c.base + off * sz, cap := c.cap - off, n := len + n })) { c with base := c.base + off * sz, cap := c.cap - off, n := len + n } (.obuf wr sz ((xs.drop off).take len ++ ys)) := by
          refine ⟨by simp only [List.length_append, hlx, S.count], fun _ => ⟨h6, by simp only; omega, h8, fun i hz => ?_, fun i hi => (hrow i hi).1, cs', cty, fr, s2, ?_, by rw [e2]; exact h12, fun i hi j hj => ?_⟩⟩
          · rcases htip with h | h
            · have := h9 i hz
              simp only [h6] at this ⊢
              have e : (off + len) * sz = off * sz + len * sz := Nat.add_mul _ _ _
              rw [← hlen, ← h, e] at this
              have e' : (len + n) * sz = len * sz + n * sz := Nat.add_mul _ _ _
              rw [e']; omega
            · exact (h8 h i hz).elim
          · simp only [h6, e2]
            have e : (off + (c.cap - off)) * sz = off * sz + (c.cap - off) * sz := Nat.add_mul _ _ _
            rw [show off + (c.cap - off) = c.cap by omega] at e
            omega
          · obtain ⟨u, f1, f2, f3⟩ := (hrow i hi).2 j hj
            exact ⟨u, by simp only [h6]; exact f1, f2, f3.mono (fun _ _ _ => rfl) (fun _ _ h => h) (Wq hbx)⟩
        refine ⟨_, _, upd μ b (some { c with base := c.base + off * sz, cap := c.cap - off, n := len + n }), XX T.h1 T.h2 T.h3 T.h4 T.h5 S.len hroom (S.cells w rfl) (fun a h => by cases h; rw [Xb, h6]; exact e1) (fun h => by cases h), .hd (Qh _ _ _) ?_, ?_, ⟨hcell, fun _ _ h => h, Wq hbx, fun x hx => QI _ _ (by simp [KK] at hx; omega)⟩, fun ht h0 c2 hc2 => ?_⟩
        rotate_left 2
        · rw [Qh] at hc2; cases hc2
          obtain ⟨t1, t2⟩ := ht c hmu
          obtain ⟨cs2, fr2, ht2⟩ := t2 hv
          rw [hb] at ht2
          simp only [Option.some.injEq, Obj.cells.injEq] at ht2
          obtain ⟨_, rfl, _⟩ := ht2
          exact ⟨by simp [t1, h0], fun hv2 => ⟨_, _, s2⟩⟩
        · simp only [Hdr, hv, Bool.false_eq_true, if_false]
          exact ⟨_, rfl, by omega, by omega, fun _ => by rw [h6]; simp⟩
        · exact hg.pass (x' := .obuf wr sz ((xs.drop off).take len ++ ys)) ho hmu hv hbx hm (c' := { c with base := c.base + off * sz, cap := c.cap - off, n := len + n }) rfl s3 s1 hzc hob
    ·
      obtain ⟨L0, f1, f2, f3, f4⟩ := YQ (C := C) (w := w) (Z := Z) (μ := μ) (xs := (xs.drop off).take len) (a := some ad) (cap := c.cap - off) (sz := sz) (fun hne => by
        have hpos : 0 < len := by
          rcases Nat.eq_zero_or_pos len with h0 | h0
          · subst h0; simp at hne
          · exact h0
        exact ⟨c.block, c.base + off * sz, by rw [h5 (by omega), h6], hrow1⟩) len (by omega)
      rw [hlx] at f1
      rw [List.take_of_length_le (by omega)] at f4
      obtain ⟨v, w', μ', e1, e2, e3, e4, e5⟩ := yM (ty := ty) (hg.kill ho) hf hm T S f1 f2 f4 hlx (by omega) hs
      have g := e3.weakO (a := b) (wr := wr) (Qh _ _ _)
      rw [Vi] at g
      exact ⟨v, w', μ', e1, e2, g, e4, fun _ _ => e5⟩
end
end Av
end
section
namespace Av
open Go
section
variable {C : Ctx} {w : World} {Z : Nat → Nat → Prop} {μ : Nat → Option Cn} {o : Nat → Option Ob} {b : Nat} {r : Opd → V}
theorem acr {α : Type} (f : Nat → α) (a : Nat) (x : α) (h : f a = x) : upd f a x = f := by
  funext b; simp only [upd]; split
  · rename_i hb; subst hb; exact h.symm
  · rfl
theorem wD (hg : Good C w Z μ o) (hf : ∀ x, b ≤ x → x < b + KK → μ x = none) (hm : C.m ≤ b) {ts : Array TypeId} {ty st xt e : TypeId} {sz by_ : Nat} {z : Value} {zs : List Value} (T : Tgt C.P ts st xt e sz by_ z)
    {cx cy : Value} {x y : Opd} (hx : Rep w Z μ cx (r x)) (hy : Rep w Z μ cy (r y)) :
    OpV C b w Z μ o ((Builtin.append_ ts ty #[cx, cy]).run C.P w) (sem b r (.append sz by_ zs x y)) := by
  intro K h
  simp only [sem] at h
  obtain ⟨op, ys, a, cap, rfl, h, hne⟩ := wo hg hy h
  obtain ⟨_, h⟩ := h
  cases op with
  | false =>
    simp only [Bool.false_eq_true, if_false] at hne
    obtain ⟨L, f1, f2, f3, f4⟩ := YQ (C := C) (cap := cap) hne ys.length (Nat.le_refl _)
    rw [List.take_length] at f4
    have S : Src C w Z sz ys.length (.slice a ys.length cap) ys L := ⟨rfl, f1, f2, f3, f4, rfl⟩
    have SO : ac2 C w Z μ sz ys.length (.slice a ys.length cap) ys L := ⟨rfl, f1, f2, f3, f4.mono (fun _ _ h => h.lift), rfl⟩
    split at h
    · rename_i n off len h1; rw [h1] at hx
      obtain ⟨ob, hoa, h⟩ := h
      dsimp only at h
      split at h
      · rename_i wr s xs
        obtain ⟨⟨rfl, htip, hs, _⟩, h⟩ := h
        obtain ⟨v, w', μ', e1, e2, e3, e4, _⟩ := y4 (ty := ty) hg hf hm T S hx hoa htip hs
        exact ⟨_, v, w', Z, μ', e1, h, e2, e3, e4⟩
      · rename_i wr s xs
        obtain ⟨⟨rfl, htip, hs, _⟩, h⟩ := h
        obtain ⟨v, w', μ', e1, e2, e3, e4, _⟩ := KM (ty := ty) hg hf hm T SO hx hoa htip hs
        exact ⟨_, v, w', Z, μ', e1, h, e2, e3, e4⟩
      · exact h.elim
    · rename_i h1; rw [h1] at hx
      obtain ⟨rfl, _⟩ := hx.scE
      obtain ⟨v, w', μ', e1, e2, e3, e4, _⟩ := append_nil (ty := ty) hg hf hm T S h.1.1
      exact ⟨_, v, w', Z, μ', e1, h.2, e2, e3, e4⟩
    · exact h.elim
  | true =>
    simp only [if_true] at hne
    obtain ⟨L, f1, f2, f3, f4⟩ := YQ (C := C) (cap := cap) hne ys.length (Nat.le_refl _)
    rw [List.take_length] at f4
    have SO : ac2 C w Z μ sz ys.length (.slice a ys.length cap) ys L := ⟨rfl, f1, f2, f3, f4, rfl⟩
    split at h
    · rename_i n off len h1; rw [h1] at hx
      obtain ⟨ob, hoa, h⟩ := h
      dsimp only at h
      split at h
      · rename_i wr s xs
        obtain ⟨⟨rfl, htip, hs, _⟩, h⟩ := h
        obtain ⟨v, w', μ', e1, e2, e3, e4, _⟩ := KM (ty := ty) (hg.open hoa) hf hm T SO hx (Qh _ _ _) htip hs
        rw [Vi] at e3
        exact ⟨_, v, w', Z, μ', e1, h, e2, e3, e4⟩
      · rename_i wr s xs
        obtain ⟨⟨rfl, htip, hs, _⟩, h⟩ := h
        obtain ⟨v, w', μ', e1, e2, e3, e4, _⟩ := KM (ty := ty) hg hf hm T SO hx hoa htip hs
        exact ⟨_, v, w', Z, μ', e1, h, e2, e3, e4⟩
      · exact h.elim
    · rename_i h1; rw [h1] at hx
      obtain ⟨rfl, _⟩ := hx.scE
      obtain ⟨v, w', μ', e1, e2, e3, e4, _⟩ := jb (ty := ty) hg hf hm T SO h.1.1
      exact ⟨_, v, w', Z, μ', e1, h.2, e2, e3, e4⟩
    · exact h.elim
theorem xi (hg : Good C w Z μ o) (hf : ∀ x, b ≤ x → x < b + KK → μ x = none) (hm : C.m ≤ b) {ts : Array TypeId} {ty st xt e : TypeId} {z : Value} (T : Tgt C.P ts st xt e 1 1 z)
    {cx cy : Value} {x y : Opd} (hx : Rep w Z μ cx (r x)) (hy : Rep w Z μ cy (r y)) :
    OpV C b w Z μ o ((Builtin.append_ ts ty #[cx, cy]).run C.P w) (sem b r (.appendS e x y)) := by
  intro K h
  simp only [sem] at h
  replace h := Kl hy h
  obtain ⟨t, rfl, h⟩ := h
  have S : Src C w Z 1 t.size (.string t) (t.data.toList.map fun c => .sc (.int .u8 c.toNat)) (t.data.toList.map fun c => Value.int .u8 c.toNat) := by
    refine ⟨rfl, fun w1 _ => ?_, by simp, ?_, we _ _ (fun k hk => by simp at hk; simp [hk]), by simp⟩
    · simp only [Builtin.firstCells, Sem.run_pure, ByteArray.extract_zero_size]
      congr 1
      apply Array.ext'
      simp
    · intro u hu
      simp only [List.mem_map] at hu
      obtain ⟨c, _, rfl⟩ := hu
      rfl
  split at h
  · rename_i n off len h1; rw [h1] at hx
    obtain ⟨ob, hoa, h⟩ := h
    dsimp only at h
    split at h
    · rename_i e' wr s xs
      obtain ⟨⟨rfl, rfl, rfl, htip, hs⟩, h⟩ := h
      have hty : aaE w μ n e' := by
        intro c hc
        obtain ⟨c', hm', hok, _⟩ := hg.ob n _ hoa
        rw [hc] at hm'; cases hm'
        exact ⟨hok.2.1, hok.2.2⟩
      have hnb : b ≠ n := by
        rintro rfl
        obtain ⟨c, hc, _⟩ := hg.ob b _ hoa
        rw [hf b (Nat.le_refl _) (by simp [KK])] at hc; cases hc
      obtain ⟨v, w', μ', e1, e2, e3, e4, e5⟩ := y4 (ty := ty) (hg.untyp hoa) hf hm T S hx (Qh _ _ _) (htip.imp (by intro h; omega) id) (by omega)
      rw [Vi] at e3
      have g := e3.typ (a := b) (Qh _ _ _) (e5 hty rfl) (fun c h => h)
      rw [Vi] at g
      simp only [List.drop_zero] at g
      exact ⟨_, v, w', Z, μ', e1, h, e2, g, e4⟩
    · exact h.elim
  · rename_i h1; rw [h1] at hx
    obtain ⟨rfl, _⟩ := hx.scE
    obtain ⟨v, w', μ', e1, e2, e3, e4, e5⟩ := append_nil (ty := ty) hg hf hm T S (by have := h.1; omega)
    have g := e3.typ (a := b) (Qh _ _ _) e5 (fun c h => h)
    rw [Vi] at g
    exact ⟨_, v, w', Z, μ', e1, h.2, e2, g, e4⟩
  · exact h.elim
theorem aaV (hg : Good C w Z μ o) {ts : Array TypeId} {ty st e : TypeId} {sz : Nat} (h1 : ts[0]? = some st) (h2 : C.P.underlying st = some (.slice e)) (h3 : Jl C.P e = some sz)
    {cx cy : Value} {x y : Opd} (hx : Rep w Z μ cx (r x)) (hy : Rep w Z μ cy (r y)) :
    OpV C b w Z μ o ((Builtin.copy_ ts ty #[cx, cy]).run C.P w) (sem b r (.copy sz x y)) := by
  intro K h
  simp only [sem] at h
  replace h := yr hg hy h
  obtain ⟨ys, a, cap, rfl, h, hne⟩ := h
  obtain ⟨_, h⟩ := h
  split at h
  · rename_i n off len hv; rw [hv] at hx
    obtain ⟨ob, hoa, h⟩ := h
    dsimp only at h
    split at h
    · rename_i s xs
      obtain ⟨hs, h⟩ := h
      obtain ⟨L, f1, f2, f3, f4⟩ := YQ (C := C) (cap := cap) hne (min ys.length len) (Nat.min_le_left _ _)
      obtain ⟨c, hmu, hh⟩ := hx.hdE
      obtain ⟨c', hm', hok, hlive⟩ := hg.ob n _ hoa
      rw [hmu] at hm'; cases hm'
      have hrun : ∀ ad dcap w', (∀ q, ad = some q → (storeCells q L).run C.P w = .ok () w') → (ad = none → w' = w) →
          (Builtin.copy_ ts ty #[.slice ad len dcap, .slice a ys.length cap]).run C.P w = .ok (goInt (min ys.length len : Nat)) w' := by
        intro ad dcap w' q1 q2
        have hmin : ys.length.min len = min ys.length len := rfl
        cases ad with
        | none =>
          rw [q2 rfl]
          simp only [Builtin.copy_, h1, List.getElem?_toArray, List.getElem?_cons_zero, List.getElem?_cons_succ, Sem.run_bind, run_underlying h2 w, Result.andThen_ok, Builtin.lenOf, Sem.run_pure, Ji h3 w, hmin, f1 w rfl]
        | some q =>
          have := q1 q rfl
          simp only [Builtin.copy_, h1, List.getElem?_toArray, List.getElem?_cons_zero, List.getElem?_cons_succ, Sem.run_bind, run_underlying h2 w, Result.andThen_ok, Builtin.lenOf, Sem.run_pure, Ji h3 w, hmin, f1 w rfl, this]
      by_cases hn : min ys.length len = 0
      · have hL : L = [] := by rw [hn] at f2; simpa using f2
        have hcx : ∃ ad dcap, cx = .slice ad len dcap := by
          unfold Hdr at hh; split at hh
          · obtain ⟨h1, _, h3⟩ := hh; subst h3; exact ⟨_, _, h1⟩
          · obtain ⟨ad, h, _⟩ := hh; exact ⟨_, _, h⟩
        obtain ⟨ad, dcap, rfl⟩ := hcx
        refine ⟨_, _, w, Z, μ, hrun ad dcap w (fun q _ => by rw [hL]; rfl) (fun _ => rfl), h, .sc rfl, ?_, .refl⟩
        show Good C w Z μ (upd o n (some (.buf true s (xs.take off ++ ys.take (min ys.length len) ++ xs.drop (off + min ys.length len)))))
        rw [hn]
        simp only [List.take_zero, List.append_nil, Nat.add_zero, List.take_append_drop]
        rw [acr _ _ _ hoa]; exact hg
      · cases hvo : c.void with
        | true =>
          obtain ⟨_, _, rfl⟩ := U4 hh hvo
          simp at hn
        | false =>
          obtain ⟨ad, rfl, h4, h5, h6⟩ := U5 hh hvo
          obtain ⟨hlen, hok⟩ := hok
          obtain ⟨h7, h8, h9, h10, h11, cs, cty, fr, hb, h12, h13, h14⟩ := hok hvo
          have hsz : s = sz := by
            rcases hs with h | h
            · exact h
            · subst h; simp at hlen; omega
          subst hsz
          have had := h6 (by omega)
          subst had
          have hbd : (off + min ys.length len) * s ≤ c.cap * s := Nat.mul_le_mul_right _ (by omega)
          rw [Nat.add_mul] at hbd
          rw [h7] at h12
          obtain ⟨cs', e1, e2, e3, e4⟩ := YN (P := C.P) c.block cty fr L (c.base + off * s) 0 cs w hb h13 (by rw [f2]; omega) f3
          obtain ⟨s1, s2, s3⟩ := UC (w := w) (ob := .cells cs' cty fr) (hlive hvo).1
          have hcell : ∀ b' i, Z b' i → ({ w with heap := w.heap.setIfInBounds c.block (.cells cs' cty fr) } : World).cell? ⟨b', i, none⟩ = w.cell? ⟨b', i, none⟩ := by
            intro b' i hz
            have : b' ≠ c.block := by rintro rfl; exact h9 rfl i hz
            simp only [World.cell?, s3 b' this]
          have hrep : ∀ v x, Rep w Z noμ v x → Rep { w with heap := w.heap.setIfInBounds c.block (.cells cs' cty fr) } Z noμ v x := fun v x h => h.mono hcell (fun _ _ h => h) (fun _ _ h => h)
          have hold : Row { w with heap := w.heap.setIfInBounds c.block (.cells cs' cty fr) } Z noμ (fun k => cs[c.base + k]?) s xs := fun j hj => by
            refine ⟨h11 j hj, fun k hk => ?_⟩
            obtain ⟨u, g1, g2, g3⟩ := h14 j hj k hk
            rw [h7] at g1
            exact ⟨u, g1, g2, hrep _ _ g3⟩
          have l1 : (xs.take off).length = off := by simp; omega
          have l2 : (ys.take (min ys.length len)).length = min ys.length len := by simp
          have hrow : Row { w with heap := w.heap.setIfInBounds c.block (.cells cs' cty fr) } Z noμ (fun k => cs'[c.base + k]?) s (xs.take off ++ ys.take (min ys.length len) ++ xs.drop (off + min ys.length len)) := by
            refine Row.append (Row.append ((hold.take off).congr (fun k hk => ?_)) ((f4.mono hrep).congr (fun k hk => ?_))) ((hold.drop (off + min ys.length len)).congr (fun k hk => ?_))
            · rw [l1] at hk; exact e4 _ (.inl (by omega))
            · rw [l2] at hk
              rw [l1]
              have := e3 k (by rw [f2]; exact hk)
              rw [← this]; congr 1; omega
            · simp only [List.length_append, l1, l2]
              exact e4 _ (.inr (by rw [f2, Nat.add_mul]; omega))
          refine ⟨_, _, _, Z, μ, hrun (some ⟨c.block, c.base + off * c.sz, none⟩) _ _ (fun q hq => by cases hq; rw [h7]; exact e1) (fun hq => by cases hq), h, .sc rfl, ?_, ⟨hcell, fun _ _ h => h, fun _ _ h => h, fun _ _ => rfl⟩⟩
          refine hg.write hoa hmu hvo s3 s1 (fun i hz => (h9 rfl i hz).elim) ⟨by simp only [List.length_append, l1, l2, List.length_drop]; omega, fun _ => ⟨h7, h8, fun _ => h9 rfl, h10, fun j hj => (hrow j hj).1, cs', cty, fr, s2, by rw [h7]; omega, by rw [e2]; exact h13, fun j hj k hk => ?_⟩⟩
          obtain ⟨u, g1, g2, g3⟩ := (hrow j hj).2 k hk
          rw [h7]
          exact ⟨u, g1, g2, g3⟩
    · exact h.elim
  · exact h.elim
end
end Av
end

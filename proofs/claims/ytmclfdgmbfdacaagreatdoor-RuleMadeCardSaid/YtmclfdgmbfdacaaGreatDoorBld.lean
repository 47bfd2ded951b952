/- The contracts of strings.Builder's copyCheck and String over any program that bears their closures. -/
import Derived.Shelf.Strings.Builder1
import Derived.Test.YtmclfdgmbfdacaaGreatDoorAvM
set_option linter.unusedVariables false
set_option linter.unusedSimpArgs false
section
namespace Go.Proofs
open Go Av Go.Shelf Go.RowKit
set_option maxRecDepth 100000
section
variable {P : Program} {ρ : Ren}
theorem aad {h : Array Obj} {b : Nat} {x : Obj} (f : Obj → Obj) (hb : h[b]? = some x) : (h.modify b f)[b]? = some (f x) := by
  rw [Array.getElem?_modify]; simp [hb]
theorem qn {h : Array Obj} {b k : Nat} (f : Obj → Obj) (hk : k ≠ b) : (h.modify b f)[k]? = h[k]? := by
  rw [Array.getElem?_modify, if_neg (fun e => hk e.symm)]
theorem aek {w : World} {b o : Nat} {cs : Array Value} {ty : TypeId} {fr : Nat × Nat} (v : Value) (h : w.heap[b]? = some (.cells cs ty fr)) : (w.setCell ⟨b, o, none⟩ v).heap[b]? = some (.cells (cs.setIfInBounds o v) ty fr) := by
  show (w.heap.modify b _)[b]? = _
  rw [aad _ h]; rfl
theorem aej {w : World} {b o k : Nat} (v : Value) (h : k ≠ b) : (w.setCell ⟨b, o, none⟩ v).heap[k]? = w.heap[k]? := by
  show (w.heap.modify b _)[k]? = _
  exact qn _ h
theorem adf (w : World) (g n k i : Nat) : (w.freeze ⟨g, 0, none⟩ n).cell? ⟨k, i, none⟩ = w.cell? ⟨k, i, none⟩ := by
  unfold World.freeze
  split
  · rfl
  · by_cases hk : k = g
    · subst hk
      unfold World.cell?
      simp only [Array.getElem?_modify]
      rcases w.heap[k]? with _ | x
      · rfl
      · cases x <;> rfl
    · unfold World.cell?
      simp only [qn _ hk]
theorem afO (w : World) (g n k : Nat) (h : k ≠ g) : (w.freeze ⟨g, 0, none⟩ n).heap[k]? = w.heap[k]? := by
  unfold World.freeze
  split
  · rfl
  · exact qn _ h
theorem adc (w : World) (g n : Nat) : (w.freeze ⟨g, 0, none⟩ n).heap.size = w.heap.size := by
  unfold World.freeze
  split
  · rfl
  · exact Array.size_modify
theorem ade (w : World) (g n : Nat) : jA w (w.freeze ⟨g, 0, none⟩ n) := by
  unfold World.freeze
  split <;> exact ⟨rfl, rfl, rfl⟩
theorem adH {w : World} {b : Nat} {cs : Array Value} {ty : TypeId} {fr : Nat × Nat} (h : w.heap[b]? = some (.cells cs ty fr)) : w.shape? b = some (ty, cs.size) := by simp [World.shape?, h]
theorem afo {x y : Ob} : upd (fun k => [x][k]?) 0 (some y) = fun k => [y][k]? := by
  funext k
  match k with
  | 0 => rfl
  | k + 1 => rfl
theorem acm {C : Ctx} {ins : List Ob} {n : Nat} (hg : Av.Good C C.w0 C.Z0 C.μ0 fun k => ins[k]?) (hn : n = ins.length) {w' : World} (hsz : C.w0.heap.size ≤ w'.heap.size)
    (hf : ∀ b, b < C.w0.heap.size → ¬ C.F b → w'.heap[b]? = C.w0.heap[b]?) (hz : ∀ b i, C.Z0 b i → w'.cell? ⟨b, i, none⟩ = C.w0.cell? ⟨b, i, none⟩) (ho : jA C.w0 w') :
    Av.Good C w' C.Z0 C.μ0 fun k => (List.replicate n Ob.dead)[k]? := by
  have dd : ∀ {a : Nat} {x : Ob}, (List.replicate n Ob.dead)[a]? = some x → x = .dead ∧ a < n := by
    intro a x h
    rw [List.getElem?_replicate] at h
    split at h
    · exact ⟨(Option.some.inj h).symm, ‹_›⟩
    · cases h
  refine ⟨fun a x h => ?_, fun a b x y c d _ h _ _ _ lx => ?_, fun b i h => Nat.lt_of_lt_of_le (hg.zlt b i h) hsz, hsz, hf, hg.zsub, hg.zsup, hz, fun _ _ => rfl, ho⟩
  · obtain ⟨rfl, ha⟩ := dd h
    have ha2 : a < ins.length := by omega
    obtain ⟨c, hc, _⟩ := hg.ob a ins[a] (List.getElem?_eq_getElem ha2)
    exact ⟨c, hc, trivial, fun h => h.elim⟩
  · obtain ⟨rfl, _⟩ := dd h
    exact lx.elim
theorem adY {C : Ctx} {v : Value} {T : TypeId} {a0 x : Value} {outs : List Ob} (h0 : outs[0]? = some (.typ T (.box true [.sc a0, .sc x]))) (hg : Av.Good C C.w0 C.Z0 C.μ0 fun k => outs[k]?) (hr : Rep C.w0 C.Z0 C.μ0 v (.ptr 0 0)) :
    ∃ c, C.μ0 0 = some c ∧ v = .pointer (some ⟨c.block, 0, none⟩) ∧ C.w0.heap[c.block]? = some (.cells #[a0, x] T (0, 0)) ∧ c.void = false ∧ c.base = 0 ∧ (∀ o, ¬ C.Z0 c.block o) ∧ C.F c.block ∧ c.block < C.w0.heap.size ∧ a0.oneCell' = true ∧ x.oneCell' = true := by
  obtain ⟨c, hc, rfl⟩ := hr.ptrE
  obtain ⟨c', hc', hok, hl⟩ := hg.ob 0 _ h0
  rw [hc] at hc'; cases hc'
  obtain ⟨⟨hv, ⟨cs, ty, hh, hs, hrr⟩, hz⟩, hb, ht⟩ := hok
  obtain ⟨cs2, fr2, e2⟩ := ht trivial
  rw [hh] at e2
  cases e2
  obtain ⟨l1, l2⟩ := hl trivial
  have hs2 : cs.size = 2 := hs
  have r0 := hrr 0 (by simp) (by omega)
  have r1 := hrr 1 (by simp) (by omega)
  have q0 : cs[0]'(by omega) = a0 := r0.1.scE.1
  have q1 : cs[1]'(by omega) = x := r1.1.scE.1
  have hcs : cs = #[a0, x] := by
    apply Array.ext
    · exact hs2
    · intro i h1 h2
      match i, h2 with
      | 0, _ => exact q0
      | 1, _ => exact q1
  subst hcs
  exact ⟨c, hc, rfl, hh, hv, hb, hz rfl, l2.resolve_left (by omega), l1, r0.1.scE.2, r1.1.scE.2⟩
theorem abc {cargs : Array Value} {a : V} (hsz : cargs.size = [a].length) : ∃ v, cargs = #[v] := ⟨cargs[0]'(by simp at hsz; omega), by
  have h2 : cargs.size = 1 := hsz
  apply Array.ext
  · exact h2
  · intro i h1 h3
    match i, h3 with
    | 0, _ => rfl⟩
theorem aiO {Γ : Env} (L : Lays.n240 Γ.P ρ) (X : Builder.X72 Γ.P ρ) (hT : ahp Γ.P = ρ.t 72) (own : Own Γ.P (ρ.f 240)) : BCF Γ (ρ.f 240) := by
  constructor
  intro C cargs hP hm hmu hg hF hsz hrep
  subst hP
  obtain ⟨v0, rfl⟩ := abc hsz
  have r0 : Rep C.w0 C.Z0 C.μ0 v0 (.ptr 0 0) := hrep 0 (by simp) (by simp)
  obtain ⟨c, hc, rfl, hh, hv, hb, hz, hFc, hlt, _, _⟩ := adY rfl hg r0
  rw [hT] at hh
  refine (X1 own _ _ _).2 ((Any.Builder_copyCheck_fresh L X c.block C.w0 (by rw [cell?_of_heap hh]; rfl) (adH hh) (by rw [frozen?_of_heap hh]; rfl)).mono ?_)
  rintro e w' ⟨rfl, rfl⟩
  refine ⟨_, C.Z0, C.μ0, rfl, .tup rfl (fun j h => by simp at h), ?_, hmu⟩
  have := hg.write (w' := C.w0.setCell ⟨c.block, 0, none⟩ (.pointer (some ⟨c.block, 0, none⟩))) (a := 0) (x := bX C.env aey acT) (x' := bX C.env (.ptr 0 0) acT) (c := c) rfl hc trivial (fun b hb => aej _ hb) (by show (C.w0.heap.modify _ _).size = _; exact Array.size_modify) (fun i hi => (hz i hi).elim) ?_ ⟨rfl, rfl, rfl⟩
  · rw [afo] at this; exact this
  · have hh2 := aek (o := 0) (.pointer (some ⟨c.block, 0, none⟩)) hh
    have e2 : (#[Value.pointer none, .slice none 0 0] : Array Value).setIfInBounds 0 (.pointer (some ⟨c.block, 0, none⟩)) = #[.pointer (some ⟨c.block, 0, none⟩), .slice none 0 0] := rfl
    rw [e2] at hh2
    refine ⟨⟨hv, ⟨_, _, hh2, rfl, fun j h h' => ?_⟩, fun _ => hz⟩, hb, fun _ => ⟨_, _, hh2.trans (by rw [← hT])⟩⟩
    match j, h with
    | 0, _ => exact ⟨.ptr hc, rfl⟩
    | 1, _ => exact ⟨.sc rfl, rfl⟩
theorem ae6 {C : Ctx} {v : Value} {T : TypeId} {n : Nat} {y : Ob} (hg : Av.Good C C.w0 C.Z0 C.μ0 fun k => [Ob.typ T (.box true [.ptr 0 0, .hd 1 0 n]), y][k]?) (hr : Rep C.w0 C.Z0 C.μ0 v (.ptr 0 0)) :
    ∃ c d x, C.μ0 0 = some c ∧ v = .pointer (some ⟨c.block, 0, none⟩) ∧ C.w0.heap[c.block]? = some (.cells #[.pointer (some ⟨c.block, 0, none⟩), x] T (0, 0)) ∧ C.μ0 1 = some d ∧ Hdr d 0 n x ∧ C.F c.block := by
  obtain ⟨c, hc, rfl⟩ := hr.ptrE
  obtain ⟨c', hc', hok, hl⟩ := hg.ob 0 _ rfl
  rw [hc] at hc'; cases hc'
  obtain ⟨⟨hv, ⟨cs, ty, hh, hs, hrr⟩, hz⟩, hb, ht⟩ := hok
  obtain ⟨cs2, fr2, e2⟩ := ht trivial
  rw [hh] at e2
  cases e2
  obtain ⟨l1, l2⟩ := hl trivial
  have hs2 : cs.size = 2 := hs
  have r0 : Rep C.w0 C.Z0 C.μ0 (cs[0]'(by omega)) (.ptr 0 0) := (hrr 0 (by simp) (by omega)).1
  have r1 : Rep C.w0 C.Z0 C.μ0 (cs[1]'(by omega)) (.hd 1 0 n) := (hrr 1 (by simp) (by omega)).1
  obtain ⟨c2, hc2, q0⟩ := r0.ptrE
  rw [hc] at hc2; cases hc2
  obtain ⟨d, hd, hh1⟩ := r1.hdE
  have hcs : cs = #[.pointer (some ⟨c.block, 0, none⟩), cs[1]'(by omega)] := by
    apply Array.ext
    · exact hs2
    · intro i h1 h2
      match i, h2 with
      | 0, _ => exact q0
      | 1, _ => rfl
  rw [hcs] at hh
  exact ⟨c, d, cs[1]'(by omega), hc, rfl, hh, hd, hh1, l2.resolve_left (by omega)⟩
theorem aiN {Γ : Env} (L : Lays.n240 Γ.P ρ) (X : Builder.X72 Γ.P ρ) (own : Own Γ.P (ρ.f 240)) (l : List UInt8) : BCU Γ (ρ.f 240) l := by
  constructor
  intro C cargs hP hm hmu hg hF hsz hrep
  subst hP
  obtain ⟨v0, rfl⟩ := abc hsz
  have r0 : Rep C.w0 C.Z0 C.μ0 v0 (.ptr 0 0) := hrep 0 (by simp) (by simp)
  obtain ⟨c, d, x, hc, rfl, hh, hd, hh1, _⟩ := ae6 hg r0
  refine (X1 own _ _ _).2 ((Any.Builder_copyCheck_used L X c.block C.w0 (by rw [cell?_of_heap hh]; rfl)).mono ?_)
  rintro e w' ⟨rfl, rfl⟩
  exact ⟨_, C.Z0, C.μ0, rfl, .tup rfl (fun j h => by simp at h), hg, hmu⟩
theorem aiL {Γ : Env} (L : Lays.n169 Γ.P ρ) (X : Builder.Extra Γ.P ρ) (hT : ahp Γ.P = ρ.t 72) (own : Own Γ.P (ρ.f 169)) : BSF Γ (ρ.f 169) := by
  constructor
  intro C cargs hP hm hmu hg hF hsz hrep
  subst hP
  obtain ⟨v0, rfl⟩ := abc hsz
  have r0 : Rep C.w0 C.Z0 C.μ0 v0 (.ptr 0 0) := hrep 0 (by simp) (by simp)
  obtain ⟨c, hc, rfl, hh, hv, hb, hz, hFc, hlt, _, _⟩ := adY rfl hg r0
  rw [hT] at hh
  refine (X1 own _ _ _).2 ((Any.Builder_String_nil L X C.w0.heap.size c.block _ C.w0 hh).mono ?_)
  rintro e w' ⟨rfl, hbl⟩
  exact ⟨_, C.Z0, C.μ0, rfl, .sc rfl, acm (n := 1) hg rfl hbl.size (fun b h _ => hbl.block b h) (fun b i h => by simp [World.cell?, hbl.block b (hg.zlt b i h)]) ⟨hbl.os, hbl.tape, hbl.output⟩, hmu⟩
set_option maxHeartbeats 1000000 in
theorem abP (L : Lays.n169 P ρ) (X : Builder.Extra P ρ) (b g cap : Nat) (p : Value) (cur : Array Value) (fr : Nat × Nat) (l : List UInt8) (w : World) (h0 : l ≠ []) (hn : l.length ≤ 2 ^ 38) (hcap : l.length ≤ cap) (hcs : l.length ≤ cur.size)
    (hbk : w.heap[b]? = some (.cells #[p, .slice (some ⟨g, 0, none⟩) l.length cap] (ρ.t 72) (0, 0))) (hg : w.heap[g]? = some (.cells cur (ρ.t 5) fr)) (hcell : ∀ (j : Nat) (x : UInt8), l[j]? = some x → cur[j]? = some (Value.int .u8 x.toNat)) :
    Calls P (ρ.f 169) #[.pointer (some ⟨b, 0, none⟩)] w fun e w' => e = .returned (.string ⟨l.toArray⟩) ∧ w' = w.drew.freeze ⟨g, 0, none⟩ l.length := by
  have hl0 : l.length ≠ 0 := by simpa using h0
  have c1 : w.drew.cell? ⟨b, 1, none⟩ = some (.slice (some ⟨g, 0, none⟩) l.length cap) := by
    have : w.drew.heap[b]? = some (.cells #[p, .slice (some ⟨g, 0, none⟩) l.length cap] (ρ.t 72) (0, 0)) := hbk
    rw [Lib.cell_of_heap this]; rfl
  have hSD : (Builtin.unsafeSliceData_ #[(ρ.t 37)] (ρ.t 127) #[.slice (some ⟨g, 0, none⟩) l.length cap]).run P w.drew = .ok (.pointer (some ⟨g, 0, none⟩)) w.drew :=
    Lib.run_unsafeSliceData_row _ _ _ _ _ _ (by omega)
  have hgd : w.drew.heap[g]? = some (.cells cur (ρ.t 5) fr) := hg
  have hUS : (Builtin.unsafeString_ #[(ρ.t 127), (ρ.t 3)] (ρ.t 9) #[.pointer (some ⟨g, 0, none⟩), .int .i64 l.length]).run P w.drew = .ok (.string ⟨l.toArray⟩) (w.drew.freeze ⟨g, 0, none⟩ l.length) :=
    Lib.run_unsafeString_row w.drew (ρ.t 127) (ρ.t 3) (ρ.t 9) (ρ.t 5) L.t127 X.cellsByte g cur.size (adH hgd) l h0 hcs (by omega) fun j x hx => by
      rw [show (⟨g, 0, none⟩ : Addr).add j = ⟨g, j, none⟩ by rw [Addr.add]; split <;> simp_all, cell?_of_heap hgd]; exact hcell j x hx
  have mixed := L.mixed
  have t72 := L.t72; have a72 := L.a72; have z72 := L.z72; have v72 := L.v72; have u72 := run_underlying L.t72
  have t70 := L.t70; have a70 := L.a70; have z70 := L.z70; have v70 := L.v70; have u70 := run_underlying L.t70
  have t37 := L.t37; have a37 := L.a37; have z37 := L.z37; have v37 := L.v37; have u37 := run_underlying L.t37
  have t127 := L.t127; have a127 := L.a127; have z127 := L.z127; have v127 := L.v127; have ajy := run_underlying L.t127
  have t3 := L.t3; have a3 := L.a3; have z3 := L.z3; have v3 := L.v3; have u3 := run_underlying L.t3
  have t9 := L.t9; have a9 := L.a9; have z9 := L.z9; have v9 := L.v9; have u9 := run_underlying L.t9
  have t5 := X.t5; have a5 := X.a5; have z5 := X.z5; have v5 := X.v5; have u5 := run_underlying X.t5
  go_enter L.f169, Body.n169_ntmps ρ
  go_wp2
  go_region_o
  all_goals (go_wp2; go_ret; exact ⟨rfl, rfl⟩)
theorem aiK {Γ : Env} (L : Lays.n169 Γ.P ρ) (X : Builder.Extra Γ.P ρ) (hT : ahp Γ.P = ρ.t 72) (hB : aiJ Γ.P = ρ.t 5) (own : Own Γ.P (ρ.f 169)) (l : List UInt8) (h0 : l ≠ []) (hn : l.length ≤ 2 ^ 38) : BSU Γ (ρ.f 169) l := by
  constructor
  intro C cargs hP hm hmu hg hF hsz hrep
  subst hP
  obtain ⟨v0, rfl⟩ := abc hsz
  have r0 : Rep C.w0 C.Z0 C.μ0 v0 (.ptr 0 0) := hrep 0 (by simp) (by simp)
  obtain ⟨c, d, x, hc, rfl, hh, hd, hh1, hFc⟩ := ae6 hg r0
  obtain ⟨d', hd', hok, hlv⟩ := hg.ob 1 _ rfl
  rw [hd] at hd'; cases hd'
  obtain ⟨⟨hn1, hbuf⟩, hbase, hty⟩ := hok
  have hl0 : 0 < l.length := by cases l with | nil => exact absurd rfl h0 | cons _ _ => simp
  have hlen : (byV l).length = l.length := by simp
  have hvoid : d.void = false := by
    rcases hv : d.void with _ | _
    · rfl
    · rw [Hdr, if_pos hv] at hh1; omega
  rw [Hdr, if_neg (by simp [hvoid])] at hh1
  obtain ⟨ad, rfl, _, _, had⟩ := hh1
  obtain ⟨hsz1, hcap, hwz, hzb, hel, cs, ty, fr, hg1, hsize, hfrz, hcells⟩ := hbuf hvoid
  obtain ⟨cs2, fr2, e2⟩ := hty hvoid
  rw [hg1] at e2
  cases e2
  have had2 := had (by omega)
  rw [hbase] at had2
  simp only [Nat.zero_mul, Nat.add_zero] at had2
  subst had2
  obtain ⟨l1, l2⟩ := hlv hvoid
  have hFd : C.F d.block := l2.resolve_left (by omega)
  rw [hT] at hh
  rw [hB] at hg1
  refine (X1 own _ _ _).2 ((abP L X c.block d.block (d.cap - 0) _ cs _ l C.w0 h0 hn (by omega) ?_ hh hg1 ?_).mono ?_)
  · rw [hbase, hsz1] at hsize; omega
  · intro j y hy
    obtain ⟨hj, hj2⟩ := List.getElem?_eq_some_iff.1 hy
    have hj3 : j < (byV l).length := by omega
    obtain ⟨v, e1, _, e3⟩ := hcells j hj3 0 (by simp [V.cells])
    rw [hbase, hsz1] at e1
    have e4 : Rep C.w0 C.Z0 noμ v (V.sc (.int .u8 y.toNat)) := by
      have : (byV l)[j] = V.sc (.int .u8 y.toNat) := by simp [← hj2]
      simpa [this, V.cells] using e3
    obtain ⟨rfl, _⟩ := e4.scE
    simpa using e1
  · rintro e w' ⟨rfl, rfl⟩
    refine ⟨_, C.Z0, C.μ0, rfl, .sc rfl, acm (n := 2) hg rfl (by rw [adc]; exact Nat.le_refl _) (fun b h hFb => ?_) (fun b i h => adf _ _ _ _ _) (ade _ _ _), hmu⟩
    rw [afO _ _ _ b (fun e => hFb (by rw [e]; exact hFd))]; rfl
end
end Go.Proofs
end

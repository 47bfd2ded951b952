/- A slice of structs, and a policy, that came in as an argument. -/
import Derived.Test.YtmclfdgmbfdacaaGreatDoorAvL
import Derived.Test.YtmclfdgmbfdacaaGreatDoorRa
import Derived.Deep.Slices
set_option linter.unusedVariables false
set_option linter.unusedSimpArgs false
section
namespace Av
open Go Go.RowKit Go.ChangeShapes Go.WideShapes Go.ChangeAt Go.Joins Go.Deep
set_option linter.unusedVariables false
section
variable {H : Type} {enc : TypeId × Value → H} {P : Program} {W : World}
theorem aeb {α : Type} {sz : Nat} (mk : α → List V) (hlen : ∀ x, (mk x).length = sz) (hpos : 0 < sz) {t e : TypeId} {fuel : Nat} {v : Value} {y : DataW H × List MemPlace} (ht : P.underlying t = some (.slice e)) (ce : P.cellsOf e = sz)
    (hel : ∀ n (cs : List Value) y, cs.length = sz → DataW.trod enc P W 0 (fun _ => true) true n e cs = some y → ∃ x : α, ∀ j (h : j < cs.length) (h' : j < (mk x).length), cs[j].oneCell' = true ∧ Rep W (af9 W) noμ cs[j] (mk x)[j])
    (h : DataW.trod enc P W 0 (fun _ => true) true fuel t [v] = some y) :
    ∃ xs : List α, xs.length ≤ Go.maxLen ∧ ag0 W v (.sl sz (xs.map fun x => .agg (mk x))) ∧ v.oneCell' = true ∧ (xs = [] ∨ ∃ es sp, y.1 = .slice es sp ∧ es.length = xs.length) := by
  rcases open_slice ht h with ⟨h1, _⟩ | ⟨a, len, cap, m, n, D, Pl, h1, hb, hl, hm, hmm, hyy, hx⟩
  · simp only [List.cons.injEq, and_true] at h1
    subst h1
    exact ⟨[], by simp, .sl0, rfl, .inl rfl⟩
  · simp only [List.cons.injEq, and_true] at h1
    subst h1
    simp only [if_true] at hmm
    subst m
    rw [ce] at hx
    by_cases h0 : len = 0
    · subst h0
      exact ⟨[], by simp, .sl0, rfl, .inl rfl⟩
    have each : ∀ i : Nat, i < len → ∃ q : α × List Value, q.2.length = sz ∧ (∀ j (h : j < q.2.length), W.cell? ((a.add (i * sz)).add j) = some q.2[j]) ∧ ∀ j (h : j < q.2.length) (h' : j < (mk q.1).length), q.2[j].oneCell' = true ∧ Rep W (af9 W) noμ q.2[j] (mk q.1)[j] := by
      intro i hi
      obtain ⟨cs', e1, e2⟩ := hx i (by omega)
      obtain ⟨_, hlen', hcell⟩ := World.cells?_some e1
      obtain ⟨x, hxx⟩ := hel n cs' _ hlen' e2
      refine ⟨(x, cs'), hlen', fun j hj => ?_, hxx⟩
      have hj2 : j < cs'.length := hj
      have := hcell j (by omega)
      rw [this, List.getElem?_eq_getElem hj2]
    have hsp : ∃ v0, W.cell? a = some v0 := by
      obtain ⟨q, q1, q2, _⟩ := each 0 (by omega)
      have := q2 0 (by omega)
      exact ⟨_, by simpa [Addr.add] using this⟩
    obtain ⟨v0, hv0⟩ := hsp
    obtain ⟨hs, hbl⟩ := acD hv0
    have ha : a = ⟨a.block, a.off, none⟩ := by cases a; simp_all
    have hadd : ∀ i, a.add i = ⟨a.block, a.off + i, none⟩ := by
      intro i
      unfold Addr.add
      split
      · rename_i hi; subst hi; exact ha
      · rfl
    have hadd2 : ∀ i j, (a.add i).add j = ⟨a.block, a.off + (i + j), none⟩ := by
      intro i j
      rw [hadd]
      unfold Addr.add
      split
      · rename_i hj; subst hj; rfl
      · simp only [Nat.add_assoc]
    have : Inhabited α := ⟨(each 0 (by omega)).choose.1⟩
    obtain ⟨q, hq⟩ := choose_lt each
    refine ⟨(List.range len).map fun i => (q i).1, by simp; omega, ?_, rfl, .inr ⟨_, _, congrArg Prod.fst hyy, by simp⟩⟩
    have hL : (((List.range len).map fun i => (q i).1).map fun x => V.agg (mk x)).length = len := by simp
    have key : Rep W (af9 W) noμ (.slice (some ⟨a.block, a.off, none⟩) (((List.range len).map fun i => (q i).1).map fun x => V.agg (mk x)).length cap) (.sl sz (((List.range len).map fun i => (q i).1).map fun x => .agg (mk x))) := by
      refine .sl (fun i j => (q i).2.getD j .nilIface) (by omega) ?_ ?_ ?_
      · intro i hi
        simp only [List.getElem_map, V.cells]
        exact hlen _
      · intro i hi j hj
        simp only [List.getElem_map, List.getElem_range, V.cells] at hj
        rw [hlen] at hj
        obtain ⟨e1, e2, e3⟩ := hq i (by omega)
        have c1 := e2 j (by omega)
        rw [hadd2] at c1
        simp only [List.getD_eq_getElem?_getD, List.getElem?_eq_getElem (show j < (q i).2.length by omega), Option.getD_some]
        exact ⟨c1, hbl, (e3 j (by omega) (by rw [hlen]; omega)).1⟩
      · intro i hi j hj
        simp only [List.getElem_map, List.getElem_range, V.cells] at hj
        have hj' := hj
        rw [hlen] at hj'
        obtain ⟨e1, e2, e3⟩ := hq i (by omega)
        simp only [List.getElem_map, List.getElem_range, V.cells]
        simp only [List.getD_eq_getElem?_getD, List.getElem?_eq_getElem (show j < (q i).2.length by omega), Option.getD_some]
        exact (e3 j (by omega) hj).2
    rw [hL, ← ha] at key
    exact key
theorem ahP {e : TypeId} {f0 f1 f2 f3 f4 f5 : Field} (he : P.underlying e = some (.struct #[f0, f1, f2, f3, f4, f5])) (hone : oneCellFields P #[f0, f1, f2, f3, f4, f5] = true)
    (h0 : P.underlying f0.type = some .bool) (h1 : P.underlying f1.type = some (.int .i64)) (h2 : P.underlying f2.type = some (.int .i64)) (h3 : P.underlying f3.type = some (.int .i64)) (h4 : P.underlying f4.type = some (.int .i64)) (h5 : P.underlying f5.type = some (.int .i64))
    (n : Nat) (cs : List Value) (y : DataW H × List MemPlace) (hl : cs.length = 6) (h : DataW.trod enc P W 0 (fun _ => true) true n e cs = some y) : ∃ x : Qp, ∀ j (h : j < cs.length) (h' : j < x.cells.length), cs[j].oneCell' = true ∧ Rep W (af9 W) noμ cs[j] x.cells[j] := by
  obtain ⟨xs, k, _, _, _, hxl, hf⟩ := DataW.trod_struct he h
  match xs, hxl, cs, hl with
  | [y0, y1, y2, y3, y4, y5], _, [v0, v1, v2, v3, v4, v5], _ =>
    have g : ∀ (i : Nat) (f : Field), #[f0, f1, f2, f3, f4, f5][i]? = some f → f.offset = i ∧ P.cellsOf f.type = 1 := fun i f hi => hone_of hone i f hi
    have g0 := hf 0 f0 rfl
    have g1 := hf 1 f1 rfl
    have g2 := hf 2 f2 rfl
    have g3 := hf 3 f3 rfl
    have g4 := hf 4 f4 rfl
    have g5 := hf 5 f5 rfl
    rw [(g 0 f0 rfl).1, (g 0 f0 rfl).2] at g0
    rw [(g 1 f1 rfl).1, (g 1 f1 rfl).2] at g1
    rw [(g 2 f2 rfl).1, (g 2 f2 rfl).2] at g2
    rw [(g 3 f3 rfl).1, (g 3 f3 rfl).2] at g3
    rw [(g 4 f4 rfl).1, (g 4 f4 rfl).2] at g4
    rw [(g 5 f5 rfl).1, (g 5 f5 rfl).2] at g5
    simp at g0 g1 g2 g3 g4 g5
    obtain ⟨b0, e0, _⟩ := DataW.trod_bool h0 g0
    obtain ⟨b1, e1, _⟩ := DataW.trod_int h1 g1
    obtain ⟨b2, e2, _⟩ := DataW.trod_int h2 g2
    obtain ⟨b3, e3, _⟩ := DataW.trod_int h3 g3
    obtain ⟨b4, e4, _⟩ := DataW.trod_int h4 g4
    obtain ⟨b5, e5, _⟩ := DataW.trod_int h5 g5
    simp only [List.cons.injEq, and_true] at e0 e1 e2 e3 e4 e5
    subst e0; subst e1; subst e2; subst e3; subst e4; subst e5
    refine ⟨⟨b0, b1, b2, b3, b4, b5⟩, fun j hj hj' => ?_⟩
    match j, hj with
    | 0, _ => exact ⟨rfl, .sc rfl⟩
    | 1, _ => exact ⟨rfl, .sc rfl⟩
    | 2, _ => exact ⟨rfl, .sc rfl⟩
    | 3, _ => exact ⟨rfl, .sc rfl⟩
    | 4, _ => exact ⟨rfl, .sc rfl⟩
    | 5, _ => exact ⟨rfl, .sc rfl⟩
theorem ahQ {e : TypeId} {f0 f1 : Field} (he : P.underlying e = some (.struct #[f0, f1])) (hone : oneCellFields P #[f0, f1] = true) (h0 : P.underlying f0.type = some (.int .i64)) (h1 : P.underlying f1.type = some (.int .i64))
    (n : Nat) (cs : List Value) (y : DataW H × List MemPlace) (hl : cs.length = 2) (h : DataW.trod enc P W 0 (fun _ => true) true n e cs = some y) : ∃ x : Qs, ∀ j (h : j < cs.length) (h' : j < x.cells.length), cs[j].oneCell' = true ∧ Rep W (af9 W) noμ cs[j] x.cells[j] := by
  obtain ⟨xs, k, _, _, _, hxl, hf⟩ := DataW.trod_struct he h
  match xs, hxl, cs, hl with
  | [y0, y1], _, [v0, v1], _ =>
    have g : ∀ (i : Nat) (f : Field), #[f0, f1][i]? = some f → f.offset = i ∧ P.cellsOf f.type = 1 := fun i f hi => hone_of hone i f hi
    have g0 := hf 0 f0 rfl
    have g1 := hf 1 f1 rfl
    rw [(g 0 f0 rfl).1, (g 0 f0 rfl).2] at g0
    rw [(g 1 f1 rfl).1, (g 1 f1 rfl).2] at g1
    simp at g0 g1
    obtain ⟨b0, e0, _⟩ := DataW.trod_int h0 g0
    obtain ⟨b1, e1, _⟩ := DataW.trod_int h1 g1
    simp only [List.cons.injEq, and_true] at e0 e1
    subst e0; subst e1
    refine ⟨⟨b0, b1⟩, fun j hj hj' => ?_⟩
    match j, hj with
    | 0, _ => exact ⟨rfl, .sc rfl⟩
    | 1, _ => exact ⟨rfl, .sc rfl⟩
theorem aeW {t tr tk : TypeId} {v : Value} {d : DataW H} {p : List MemPlace} {F0 F1 : Field} (hs : P.underlying t = some (.struct #[F0, F1])) (hone : oneCellFields P #[F0, F1] = true) (hC : P.cellsOf t = 2) (hF0 : P.underlying F0.type = some (.slice tr)) (hF1 : P.underlying F1.type = some (.slice tk))
    {f0 f1 f2 f3 f4 f5 : Field} (he : P.underlying tr = some (.struct #[f0, f1, f2, f3, f4, f5])) (hr6 : P.cellsOf tr = 6) (hone6 : oneCellFields P #[f0, f1, f2, f3, f4, f5] = true)
    (h0 : P.underlying f0.type = some .bool) (h1 : P.underlying f1.type = some (.int .i64)) (h2 : P.underlying f2.type = some (.int .i64)) (h3 : P.underlying f3.type = some (.int .i64)) (h4 : P.underlying f4.type = some (.int .i64)) (h5 : P.underlying f5.type = some (.int .i64))
    {k0 k1 : Field} (hk : P.underlying tk = some (.struct #[k0, k1])) (hk2 : P.cellsOf tk = 2) (honek : oneCellFields P #[k0, k1] = true) (g0 : P.underlying k0.type = some (.int .i64)) (g1 : P.underlying k1.type = some (.int .i64))
    (hval : Value.okWide P W .any 0 t v) (hd : DataW.Trod enc P W 0 (fun _ => true) true t v d p) :
    ∃ (rs : List Qp) (ks : List Qs), rs.length ≤ Go.maxLen ∧ ks.length ≤ Go.maxLen ∧ ag0 W v (ae0 rs ks) ∧
      ((∀ x ∈ d.weights P t, x ≤ reachBytes) → (1 ≤ P.bytesOf tr → 1 ≤ P.bytesOf tk → rs.length ≤ reachBytes ∧ ks.length ≤ reachBytes)) := by
  obtain ⟨c0, c1, y0, y1, m, rfl, rfl, rfl, hy0, hy1⟩ := open_agg2 hs hone hC hval hd
  obtain ⟨rs, l1, r1, o1, z1⟩ := aeb Qp.cells (fun _ => rfl) (by decide) hF0 hr6 (ahP he hone6 h0 h1 h2 h3 h4 h5) hy0
  obtain ⟨ks, l2, r2, o2, z2⟩ := aeb Qs.cells (fun _ => rfl) (by decide) hF1 hk2 (ahQ hk honek g0 g1) hy1
  refine ⟨rs, ks, l1, l2, .agg rfl ?_ ?_, fun hw b1 b2 => ⟨?_, ?_⟩⟩
  rotate_left 2
  · rcases z1 with rfl | ⟨es, sp, e1, e2⟩
    · simp
    · have := hw ((es.length + sp.length) * P.bytesOf tr) (by
        simp only [DataW.weights, hs, DataW.weightsEach, e1, hF0, List.map_cons, List.map_nil, List.mem_append, List.mem_cons, true_or])
      have h1 : es.length * 1 ≤ (es.length + sp.length) * P.bytesOf tr := Nat.mul_le_mul (by omega) b1
      omega
  · rcases z2 with rfl | ⟨es, sp, e1, e2⟩
    · simp
    · have := hw ((es.length + sp.length) * P.bytesOf tk) (by
        simp only [DataW.weights, hs, DataW.weightsEach, e1, hF1, List.map_cons, List.map_nil, List.mem_append, List.mem_cons, true_or, or_true])
      have h1 : es.length * 1 ≤ (es.length + sp.length) * P.bytesOf tk := Nat.mul_le_mul (by omega) b2
      omega
  · intro j hj
    match j, hj with
    | 0, _ => exact o1
    | 1, _ => exact o2
  · intro j hj hj'
    match j, hj with
    | 0, _ => exact r1
    | 1, _ => exact r2
end
theorem wy {C : Checked} {os : Os} {fid : FuncId} {f : Func} {s : ChangeSpec} {X : World → Prop} {T : TypeId → Prop} (hX : ∀ w w' : World, w.heap = w'.heap → X w → X w') (own : ownKnob C.prog.godebug = none) (started : os.Started)
    (noInit : C.prog.inits.idxOf? fid = none) (hfn : C.prog.funcs[fid]? = some f) (H : Type) (enc : TypeId × Value → H)
    (witness : ∃ (w : World) (tape : Tape) (i : Input), w.os = os ∧ (w.forCall tape i).Shaped C.prog ∧ i.vars = [] ∧ Input.okWide C.prog (w.forCall tape i) .any w.heap.size fid i ∧
      ((s.pre enc C.prog f [] false (w.forCall tape i).memory i.args ∧ X (w.forCall tape i).memory) ∧ sizedMet enc C.prog f (OpenSpec.ofChange s) false (w.forCall tape i).memory i.args) ∧ ({} : Assume).holds C.prog (lone (Frame.enter C.prog fid i.args .normal) [] (w.forCall tape i)))
    (K : Kids C.prog T) (hsz : ∀ {t e : TypeId}, T t → C.prog.underlying t = some (.slice e) → 0 < C.prog.cellsOf e) (hT : ∀ t ∈ f.params.toList, T t) (hvars : s.vars = [])
    (hspec : ∀ ds : List (DataW H), ds.length = f.params.size → s.fn H ds = { results := [.lit (.bool true)], args := ds }) {t : TypeId} (hr : f.resultTypes = #[t]) (ht : C.prog.underlying t = some .bool)
    (hcall : ∀ (W : World) (args : Array Value) (ds gs : List (DataW H)) (p : List MemPlace), (∀ (j : Nat) t v, f.params[j]? = some t → args[j]? = some v → Value.okWide C.prog W .any 0 t v) →
      DataW.TrodAll enc C.prog W 0 (fun _ => true) true f.params.toList args.toList ds p → X W → W.ShapedOpen C.prog → (DataW.weightsEach C.prog (f.params.toList ++ s.plain.varTypes C.prog) (ds ++ gs)).all (· ≤ reachBytes) = true →
      Calls C.prog fid args W fun e W' => e = .returned (.bool true) ∧ Below W.heap.size W W') :
    ReturnsInHanded {} C os fid .any (fun w args => (s.pre enc C.prog f [] false w args ∧ X w) ∧ sizedMet enc C.prog f (OpenSpec.ofChange s) false w args) (s.post enc C.prog f false true false false) := by
  refine Vb (C := C) (X := fun w _ => X w) (fun w w' _ hh h => hX w w' hh h) own started noInit hfn witness ?_
  intro W base args ds gs before hval hW hz hL hsh
  have hW' := hW
  obtain ⟨p, q, hA, hV, rfl, hfz, hnd⟩ := hW
  refine (hcall W args ds gs p (fun j t v h1 h2 => Value.okWide_any_base (hval j t v h1 h2)) hA hL hsh hz).mono fun e W' ⟨he, hb⟩ => ?_
  exact ⟨_, he, agF K hsz hT hvars hspec hr ht hW' hb⟩
end Av
end

/- The library's contracts at this seat. -/
import Derived.Test.YtlpaikjhphkioaaGreatK16
import Derived.Test.YtlpaikjhphkioaaGreatK9
import Derived.Test.YtlpaikjhphkioaaGreatK17
import Derived.Test.YtlpaikjhphkioaaGreatK18
import Derived.Test.YtlpaikjhphkioaaGreatK19
import Derived.Laws.AppendOwn
import Derived.Sort.Walk0
import Derived.KernelRfl
set_option linter.unusedVariables false
set_option linter.unusedSimpArgs false
section
namespace Go.Proofs.YtlpaikjhphkioaaGreat
open Go Av Go.RowKit
set_option maxRecDepth 100000
set_option linter.unusedVariables false
structure WOK (W : World) : Prop where
  ok : True
theorem arH : Av.Own Tryz.prog 119 := ⟨Tryz.f119, Tryz.func119, by decide, _, rfl⟩
theorem ap3 : Av.Own Tryz.prog 109 := ⟨Tryz.f109, Tryz.func109, by decide, _, rfl⟩
theorem ap2 : Av.Own Tryz.prog 111 := ⟨Tryz.f111, Tryz.func111, by decide, _, rfl⟩
theorem asJ : Av.Own Tryz.prog 65 := ⟨Tryz.f65, Tryz.func65, by decide, _, rfl⟩
theorem asI : Av.Own Tryz.prog 68 := ⟨Tryz.f68, Tryz.func68, by decide, _, rfl⟩
theorem asH : Av.Own Tryz.prog 97 := ⟨Tryz.f97, Tryz.func97, by decide, _, rfl⟩
theorem atp : Tryz.prog.follows .mixedOrders = true := by kernel_rfl
theorem aou : ∀ a b : List UInt8, Lib.compareBytes a b = aaW a b
  | [], [] => by simp [Lib.compareBytes, aaW, Op.bytesLess]
  | [], _ :: _ => by simp [Lib.compareBytes, aaW, Op.bytesLess]
  | _ :: _, [] => by simp [Lib.compareBytes, aaW, Op.bytesLess]
  | a :: x, b :: y => by
    have ih := aou x y
    rw [aaW] at ih ⊢
    rw [Lib.compareBytes, ih]
    simp only [Op.bytesLess]
    by_cases h1 : a < b
    · simp [h1]
    · by_cases h2 : b < a
      · have h3 : a ≠ b := fun e => by subst e; exact h1 h2
        simp [h1, h2, h3]
      · have h3 : a = b := UInt8.le_antisymm (UInt8.not_lt.1 h2) (UInt8.not_lt.1 h1)
        subst h3
        simp [h1]
theorem wI (W : World) (hW : WOK W) : Kt (J6 Tryz.prog W) 119 := by
  intro a b
  refine ⟨arX (cv := [.string ⟨a.toArray⟩, .string ⟨b.toArray⟩]) (res := .int .i64 (aaW a b)) (fun _ _ _ => .sc rfl) ?_, trivial, trivial⟩
  intro w hk
  show Kp Tryz.prog 119 _ w _
  refine (KZ arH _ _ _).2 ((Any.strings_Compare Tryz.lays106 ⟨a.toArray⟩ ⟨b.toArray⟩ w).mono fun e w' ⟨he, hw⟩ => ?_)
  subst he; subst hw
  exact ⟨by simp [aou], Nat.le_refl _, fun _ _ => rfl, KP.refl _⟩
theorem ajY {w : World} {n c : Nat} {t : TypeId} (h : n < 2 ^ 63) : n ≤ grownCap w n c t ∧ grownCap w n c t < 2 ^ 63 := by
  refine ⟨grownCap_ge _ _ _ _, ?_⟩
  have := grownCap_le_maxLen w n c t (by unfold maxLen; omega)
  unfold maxLen at this
  omega
theorem aeR {u : Value} {w : World} {vb voff : Nat} (h : w.cell? ⟨vb, voff, none⟩ = some u) : ∀ (j : Nat) (v : Value), [u][j]? = some v → w.cell? ⟨vb, voff + j, none⟩ = some v := fun j v hj => by
  obtain ⟨h1, rfl⟩ := List.getElem?_eq_some_iff.1 hj
  have : j = 0 := by simpa using h1
  subst this
  simpa using h
theorem asO : asy Tryz.prog 109 9 (.string ⟨#[]⟩) := {
  shift := fun b off n c i vb voff vc cs u w tA tB kA kB h1 h2 h3 h4 h5 h6 h7 h8 h9 h10 h11 h12 h13 h14 h15 h16 =>
    Any2.slices_Insert_string_shift Tryz.lays2I22 b off n c i vb voff 1 vc cs [u] w h1 Nat.one_pos h2 h3 h4 h5 rfl h6 h7 h8 (aeR h9) h10 (by simpa using h11) tA tB kA kB h12 h13 h14 h15 h16
  endRoom := fun b off n c vb voff vc u w h1 h2 h3 h4 h5 h6 =>
    Any2.slices_Insert_string_end_room Tryz.lays2I22 b off n c vb voff 1 vc [u] w Nat.one_pos h1 h2 rfl (fun j hj => by have hj0 : j = 0 := (by omega); subst hj0; exact h3) (fun j hj => by have hj0 : j = 0 := (by omega); subst hj0; exact h4) (aeR h5) (by simpa using h6)
  endGrow := fun base n c vb voff vc cs u w h1 h2 h3 h4 h5 h6 h7 h8 =>
    (Any2.slices_Insert_string_end_grow Tryz.lays2I22 base n c vb voff 1 vc cs [u] w Nat.one_pos h1 h2 (by omega) h4 rfl h5 h6 (aeR h7) (by simpa using h8)).mono fun e w' ⟨he, hw⟩ => ⟨_, ajY (by omega), he, hw⟩
  grow := fun b off n c i vb voff vc cs u w h1 h2 h3 h4 h5 h6 h7 h8 h9 =>
    (Any2.slices_Insert_string_grow Tryz.lays2I22 b off n c i vb voff 1 vc cs [u] w h1 Nat.one_pos h2 h3 (by omega) h5 rfl h6 (aeR h7) h8 (by simpa using h9)).mono fun e w' ⟨he, hw⟩ => ⟨_, _, ajY (by omega), by
      have := grownCap_ge w (n + 1) c (Tryz.lays2I22_ren.t 9)
      rw [Array.size_append, Array.size_append, Yl, Yl]; simp [Value.cells]; omega, fun j v hj hv => by
        rw [Array.append_assoc, Array.getElem?_append_left (by simp; omega)]
        simp [hv, hj], he, hw⟩ }
theorem ate : asy Tryz.prog 111 3 (.int .i64 0) := {
  shift := fun b off n c i vb voff vc cs u w tA tB kA kB h1 h2 h3 h4 h5 h6 h7 h8 h9 h10 h11 h12 h13 h14 h15 h16 =>
    Any2.slices_Insert_int_shift Tryz.lays2I21 b off n c i vb voff 1 vc cs [u] w h1 Nat.one_pos h2 h3 h4 h5 rfl h6 h7 h8 (aeR h9) h10 (by simpa using h11) tA tB kA kB h12 h13 h14 h15 h16
  endRoom := fun b off n c vb voff vc u w h1 h2 h3 h4 h5 h6 =>
    Any2.slices_Insert_int_end_room Tryz.lays2I21 b off n c vb voff 1 vc [u] w Nat.one_pos h1 h2 rfl (fun j hj => by have hj0 : j = 0 := (by omega); subst hj0; exact h3) (fun j hj => by have hj0 : j = 0 := (by omega); subst hj0; exact h4) (aeR h5) (by simpa using h6)
  endGrow := fun base n c vb voff vc cs u w h1 h2 h3 h4 h5 h6 h7 h8 =>
    (Any2.slices_Insert_int_end_grow Tryz.lays2I21 base n c vb voff 1 vc cs [u] w Nat.one_pos h1 h2 (by omega) h4 rfl h5 h6 (aeR h7) (by simpa using h8)).mono fun e w' ⟨he, hw⟩ => ⟨_, ajY (by omega), he, hw⟩
  grow := fun b off n c i vb voff vc cs u w h1 h2 h3 h4 h5 h6 h7 h8 h9 =>
    (Any2.slices_Insert_int_grow Tryz.lays2I21 b off n c i vb voff 1 vc cs [u] w h1 Nat.one_pos h2 h3 (by omega) h5 rfl h6 (aeR h7) h8 (by simpa using h9)).mono fun e w' ⟨he, hw⟩ => ⟨_, _, ajY (by omega), by
      have := grownCap_ge w (n + 1) c (Tryz.lays2I21_ren.t 3)
      rw [Array.size_append, Array.size_append, Yl, Yl]; simp [Value.cells]; omega, fun j v hj hv => by
        rw [Array.append_assoc, Array.getElem?_append_left (by simp; omega)]
        simp [hv, hj], he, hw⟩ }
theorem qr (W : World) (hW : WOK W) : XZ (J6 Tryz.prog W) 109 := by
  refine ⟨fun xs i x hi hp hl => ?_, fun x => ?_⟩
  · have := alO (Γ := J6 Tryz.prog W) asO ap3 (i := i) (ls := xs.map fun s => Value.string ⟨s.toArray⟩) (u := .string ⟨x.toArray⟩) (by simpa using hi) (by simpa using hp) (by simp; omega) (by simp only [List.mem_map]; rintro v ⟨s, _, rfl⟩; rfl) rfl
    simpa [List.map_take, List.map_drop, Function.comp_def, V.str] using this
  · exact alN (Γ := J6 Tryz.prog W) asO ap3 rfl trivial
theorem x9 (W : World) (hW : WOK W) : V2 (J6 Tryz.prog W) 111 := by
  refine ⟨fun xs i x hi hp hl => ?_, fun x => ?_⟩
  · have := alO (Γ := J6 Tryz.prog W) ate ap2 (i := i) (ls := xs.map fun s => Value.int .i64 s) (u := .int .i64 x) (by simpa using hi) (by simpa using hp) (by simp; omega) (by simp only [List.mem_map]; rintro v ⟨s, _, rfl⟩; rfl) rfl
    simpa [List.map_take, List.map_drop, Function.comp_def, V.int] using this
  · exact alN (Γ := J6 Tryz.prog W) ate ap2 rfl trivial
theorem apv : ((Tryz.prog.info? 26).any fun i => i.zero.isSome && (i.size == 8 && (decide (i.bytes ≤ 100) && (i.zero.map (·.cells.size) == some 8)))) = true := by kernel_rfl
theorem asU : asn Tryz.prog 65 26 8 := {
  room := fun w => Any8.slices_Grow_room Tryz.lays8G65 none 0 0 0 w (Nat.le_refl _) (by omega) (by omega) (by omega)
  grow := fun n w h1 h2 => by
    have h := apv
    cases hi : Tryz.prog.info? 26 with
    | none => rw [hi] at h; cases h
    | some i0 =>
      rw [hi] at h
      simp only [Option.any_some, Bool.and_eq_true, decide_eq_true_eq, beq_iff_eq] at h
      obtain ⟨q1, q2, q3, q4⟩ := h
      cases hz : i0.zero with
      | none => rw [hz] at q1; cases q1
      | some z =>
        rw [hz] at q4
        have q5 : z.cells.size = 8 := by simpa using q4
        have hb : (0 + n) * i0.bytes ≤ 140737488355328 := by
          have : (0 + n) * i0.bytes ≤ (0 + n) * 100 := Nat.mul_le_mul_left _ q3
          omega
        refine (Any8.slices_Grow_grow Tryz.lays8G65 i0 z hi hz (by omega) none 0 0 n [] w (Nat.le_refl _) (by omega) hb (by omega) (by simp) (fun _ => rfl) (fun a h => by cases h)).mono fun e w' ⟨he, hw⟩ => ⟨_, _, (ajY (by omega)).2, ?_, he, hw⟩
        have := grownCap_ge w (0 + n) 0 (Tryz.lays8G65_ren.t 25)
        rw [Array.size_append, Array.size_append, Yl, Yl, q5]
        simp
        omega }
theorem Kn (W : World) (hW : WOK W) : XJ (J6 Tryz.prog W) 65 := fun n hn => apx (Γ := J6 Tryz.prog W) asU asJ hn
theorem aol {Γ : Env} {f : FuncId} {args : List V} {k : Value}
    (h : ∀ (C : Ctx) (cargs : Array Value), C.env = Γ → cargs.size = args.length → (∀ i (h : i < args.length) (h' : i < cargs.size), Rep C.w0 C.Z0 C.μ0 cargs[i] args[i]) → Kp Γ.P f cargs C.w0 fun e w' => e = .returned k ∧ Below C.w0.heap.size C.w0 w') (hk : k.oneCell' = true) : Ev Γ f args [] (.sc k) [] := by
  intro C cargs hP hm hmu hg hF hsz hrep
  have := h C cargs hP hsz hrep
  refine this.mono fun e w' ⟨he, hb⟩ => ?_
  subst he
  exact ⟨_, C.Z0, C.μ0, rfl, .sc hk, ⟨fun a x h => by simp at h, fun a b x y c d _ h => by simp at h, fun b i h => Nat.lt_of_lt_of_le (hg.zlt b i h) hb.size, hb.size, fun b h _ => hb.block b h, fun b i h => .inl h, fun b i h => h, fun b i h => by simp [World.cell?, hb.block b (hg.zlt b i h)], fun k _ => rfl, ⟨hb.os, hb.tape, hb.output⟩⟩, fun k hk => hmu k (by simp)⟩
def aoM (r : JY) : PR := ⟨r.allow, r.alg, r.below, r.purp, r.frm, r.til⟩
def arM (r : PR) : JY := ⟨r.allow, r.alg, r.below, r.purp, r.frm, r.til⟩
theorem asT : Has Tryz.prog 97 43 Kc r_verdict_concerns := ⟨Tryz.f97, _, Tryz.func97, by decide, rfl, rfl, by kernel_rfl, by kernel_rfl⟩
theorem ara (r : PR) (a b pu : Int) (w : World) : Calls Tryz.prog 97 #[aqv r, .agg #[.int .i64 a, .int .i64 b], .int .i64 pu] w fun e W' => e = .returned (.bool (akX (arM r) a b pu)) ∧ Below w.heap.size w W' := by
  have E := ab3 (Γ := J6 Tryz.prog w) asT (arM r) a b pu
  refine agO atp asH E rfl fun i h h' => ?_
  match i, h with
  | 0, _ =>
    refine .agg rfl (fun j hj => ?_) fun j hj hj' => ?_
    · match j, hj with
      | 0, _ | 1, _ | 2, _ | 3, _ | 4, _ | 5, _ => rfl
    · match j, hj with
      | 0, _ | 1, _ | 2, _ | 3, _ | 4, _ | 5, _ => exact .sc rfl
  | 1, _ =>
    refine .agg rfl (fun j hj => ?_) fun j hj hj' => ?_
    · match j, hj with
      | 0, _ | 1, _ => rfl
    · match j, hj with
      | 0, _ | 1, _ => exact .sc rfl
  | 2, _ => exact .sc rfl
theorem alu (rs : List JY) (a b pu day : Int) : ∀ k, k ≤ rs.length → af9 (am6 (fun r => akX (arM r) a b pu) (rs.map aoM) day) k = aqh (ast a b pu day) rs k
  | 0, _ => rfl
  | k + 1, hk => by
    have ih := alu rs a b pu day k (by omega)
    have hg : rs[k]? = some rs[k] := List.getElem?_eq_getElem (by omega)
    have hp : (rs.map aoM).getD k default = aoM rs[k] := by simp [List.getD, hg]
    rw [af9, aqh, hg, ih]
    have : am6 (fun r => akX (arM r) a b pu) (rs.map aoM) day k = ast a b pu day rs[k] := by
      rw [am6, hp]; rfl
    rw [this]
theorem wG (W : World) (hW : WOK W) : Kq (J6 Tryz.prog W) 68 := by
  intro rs ks a b pu day hr
  refine ⟨aol (fun C cargs hP hsz hrep => ?_) rfl, trivial, trivial⟩
  have hsz : cargs.size = 4 := hsz
  obtain ⟨x0, x1, x2, x3, rfl⟩ : ∃ x0 x1 x2 x3, cargs = #[x0, x1, x2, x3] := ⟨cargs[0], cargs[1], cargs[2], cargs[3], by
    apply Array.ext
    · simpa using hsz
    · intro k a1 a2
      match k, a2 with
      | 0, _ | 1, _ | 2, _ | 3, _ => rfl⟩
  have r0 : Rep C.w0 C.Z0 C.μ0 x0 (ap1 rs ks) := hrep 0 (by simp) (by simp)
  have r1 : Rep C.w0 C.Z0 C.μ0 x1 (.agg [V.int a, V.int b]) := hrep 1 (by simp) (by simp)
  have r2 : Rep C.w0 C.Z0 C.μ0 x2 (V.int pu) := hrep 2 (by simp) (by simp)
  have r3 : Rep C.w0 C.Z0 C.μ0 x3 (V.int day) := hrep 3 (by simp) (by simp)
  have e2 := r2.scE.1
  have e3 := r3.scE.1
  obtain ⟨cs, e0, l0, _, h0⟩ := r0.aggE
  obtain ⟨cs1, e1, l1, _, h1⟩ := r1.aggE
  obtain ⟨y0, y1, rfl⟩ : ∃ y0 y1, cs = #[y0, y1] := ⟨cs[0]'(by rw [l0]; simp), cs[1]'(by rw [l0]; simp), by
    apply Array.ext
    · simpa using l0
    · intro k a1 a2
      match k, a2 with
      | 0, _ | 1, _ => rfl⟩
  obtain ⟨z0, z1, rfl⟩ : ∃ z0 z1, cs1 = #[z0, z1] := ⟨cs1[0]'(by rw [l1]; simp), cs1[1]'(by rw [l1]; simp), by
    apply Array.ext
    · simpa using l1
    · intro k a1 a2
      match k, a2 with
      | 0, _ | 1, _ => rfl⟩
  have q0 : Rep C.w0 C.Z0 C.μ0 y0 (.sl 6 (rs.map JY.v)) := h0 0 (by simp) (by simp)
  have p0 : Rep C.w0 C.Z0 C.μ0 z0 (V.int a) := h1 0 (by simp) (by simp)
  have p1 : Rep C.w0 C.Z0 C.μ0 z1 (V.int b) := h1 1 (by simp) (by simp)
  have e4 := p0.scE.1
  have e5 := p1.scE.1
  obtain ⟨ad, cap, e6, _, hx⟩ := q0.slE
  subst e0; subst e1; subst e2; subst e3; subst e4; subst e5; subst e6
  show Kp Tryz.prog 68 _ C.w0 _
  refine (KZ asI _ _ _).2 ?_
  have D := Dec.decides_in (fun r => akX (arM r) a b pu) Fence.wide 5 trivial trivial trivial rfl (Nat.le_refl _) (rs.map aoM) ad cap y1 a b pu day C.w0 (fun r w => callsIn_wide.2 (ara r a b pu w)) trivial (by simp; omega) (by
    by_cases hn : rs = []
    · exact .inl (by simp [hn])
    · obtain ⟨bb, oo, rfl, hrow, _⟩ := hx (by simpa using hn)
      have hcell : ∀ j, j < (rs.map aoM).length → ∀ c, c < 6 → C.w0.cell? ⟨bb, oo + (j * 6 + c), none⟩ = some (aiH ((rs.map aoM).getD j default) c) := by
        intro j hj c hc
        have hj' : j < rs.length := by simpa using hj
        have hjv : j < (rs.map JY.v).length := by simpa using hj
        have ev : (rs.map JY.v)[j] = JY.v rs[j] := by simp
        have hg : rs[j]? = some rs[j] := List.getElem?_eq_getElem hj'
        have hp : (rs.map aoM).getD j default = aoM rs[j] := by simp [List.getD, hg]
        obtain ⟨v, c1, c2, c3⟩ := (hrow j hjv).2 c (by rw [ev]; exact hc)
        rw [hp]
        refine c1.trans (congrArg some ?_)
        match c, hc with
        | 0, _ | 1, _ | 2, _ | 3, _ | 4, _ | 5, _ =>
          simp only [ev] at c3
          exact c3.scE.1
      have hpos : 0 < (rs.map aoM).length := by simpa [List.length_pos_iff] using hn
      refine .inr ⟨bb, oo, rfl, ?_, hcell⟩
      have := hcell 0 hpos 0 (by omega)
      rcases Nat.lt_or_ge bb C.w0.heap.size with h | h
      · exact h
      · simp [World.cell?, Array.getElem?_eq_none h] at this)
  rw [List.length_map] at D
  have D' := callsIn_wide.1 D
  rw [alu rs a b pu day _ (Nat.le_refl _)] at D'
  simpa [List.length_map, aqg] using D'
end Go.Proofs.YtlpaikjhphkioaaGreat
end
section
namespace Go.Proofs.YtlpaikjhphkioaaGreat
open Go Av Go.RowKit
set_option maxRecDepth 100000
set_option linter.unusedVariables false
theorem zha {P : Program} {f nt : Nat} {c : AC} {rs : List Jf} {fn} (h1 : P.funcs[f]? = some fn) (h : P.funcs[f]? = some fn → Has P f nt c rs := by exact fun h => ⟨_, _, h, by decide, rfl, rfl, by kernel_rfl, by kernel_rfl⟩) : Has P f nt c rs := h h1
theorem ahg : Has Tryz.prog 6 6 aaD r_make_Light := zha Tryz.func6
theorem akb (W : World) (hW : WOK W) : vL (J6 Tryz.prog W) 6 := aiA ahg
theorem ahd : Has Tryz.prog 81 28 aaA r_ref03_Name := zha Tryz.func81
theorem aj8 (W : World) (hW : WOK W) : vI (J6 Tryz.prog W) 81 := aix ahd
theorem adX : Has Tryz.prog 123 25 yq r_ref02_modulus := zha Tryz.func123
theorem agV (W : World) (hW : WOK W) : jo (J6 Tryz.prog W) 123 := afq adX
theorem agm : Has Tryz.prog 124 24 vw r_ref02_among := zha Tryz.func124
theorem aiS (W : World) (hW : WOK W) : we (J6 Tryz.prog W) 124 := ahm agm
theorem afi : Has Tryz.prog 125 21 xW r_ref02_single := zha Tryz.func125
theorem aht (W : World) (hW : WOK W) : yQ (J6 Tryz.prog W) 125 := agx afi
theorem acT : Has Tryz.prog 99 76 (jg 123 124 125) r_ref02_Strength := zha Tryz.func99
theorem afD (W : World) (hW : WOK W) : qv (J6 Tryz.prog W) 99 := aec acT (agV W hW) (aiS W hW) (aht W hW)
theorem agn : Has Tryz.prog 76 6 (vA 99) r_ref02_Valid := zha Tryz.func76
theorem adz (W : World) (hW : WOK W) : qF (J6 Tryz.prog W) 76 := ahn agn (afD W hW)
theorem ahe : Has Tryz.prog 126 25 aaB r_ref02_rows := zha Tryz.func126
theorem aj9 (W : World) (hW : WOK W) : vJ (J6 Tryz.prog W) 126 := aiy ahe
theorem ahf : Has Tryz.prog 104 14 (aaC 126) r_ref02_Kind := zha Tryz.func104
theorem aka (W : World) (hW : WOK W) : vK (J6 Tryz.prog W) 104 := aiz ahf (aj9 W hW)
theorem abI : Has Tryz.prog 82 11 (K3 76 104) r_ref03_Signature := zha Tryz.func82
theorem aev (W : World) (hW : WOK W) : Ku (J6 Tryz.prog W) 82 := ac4 abI (adz W hW) (aka W hW)
theorem agl : Has Tryz.prog 55 161 (vq 81 76 82) r_ref14_Check := zha Tryz.func55
theorem aiR (W : World) (hW : WOK W) : wd (J6 Tryz.prog W) 55 := ahl agl (aj8 W hW) (adz W hW) (aev W hW)
theorem agj : Has Tryz.prog 100 11 vm r_ref14_texts := zha Tryz.func100
theorem aiP (W : World) (hW : WOK W) : wb (J6 Tryz.prog W) 100 := ahj agj
theorem ahb : Has Tryz.prog 101 30 aay r_ref14_ints := zha Tryz.func101
theorem aj7 (W : World) (hW : WOK W) : vH (J6 Tryz.prog W) 101 := aiv ahb
theorem agk : Has Tryz.prog 78 85 (vo 100 101) r_ref14_Order := zha Tryz.func78
theorem aiQ (W : World) (hW : WOK W) : wc (J6 Tryz.prog W) 78 := ahk agk (aiP W hW) (aj7 W hW)
theorem ain : Has Tryz.prog 56 47 (vn 78) r_ref14_put := zha Tryz.func56
theorem ak9 (W : World) (hW : WOK W) : aaQ (J6 Tryz.prog W) 56 := ajK ain (aiQ W hW)
theorem ahc : Has Tryz.prog 25 38 (aaz 55 56) r_ref14_Norm := zha Tryz.func25
theorem ae8 (W : World) (hW : WOK W) : jR (J6 Tryz.prog W) 25 := aiw ahc (aiR W hW) (ak9 W hW)
theorem ad7 : Has Tryz.prog 136 27 yC r_catalog_Named := zha Tryz.func136
theorem aaO (W : World) (hW : WOK W) : Uq (J6 Tryz.prog W) 136 := afA ad7
theorem afl : Has Tryz.prog 187 46 xZ r_catalog_rows := zha Tryz.func187
theorem ahv (W : World) (hW : WOK W) : yS (J6 Tryz.prog W) 187 := agA afl
theorem ahi : Has Tryz.prog 165 14 (aaF 187) r_catalog_of := zha Tryz.func165
theorem afa (W : World) (hW : WOK W) : jT (J6 Tryz.prog W) 165 := aiC ahi (ahv W hW)
theorem ab1 : Has Tryz.prog 166 21 qp r_catalog_modulus := zha Tryz.func166
theorem aeM (W : World) (hW : WOK W) : KM (J6 Tryz.prog W) 166 := ado ab1
theorem yY : Has Tryz.prog 168 19 We r_slices_Index___int_int := zha Tryz.func168
theorem UQ (W : World) (hW : WOK W) : YV (J6 Tryz.prog W) 168 := xO yY
theorem je : Has Tryz.prog 167 9 (XB 168) r_slices_Contains___int_int := zha Tryz.func167
theorem yL (W : World) (hW : WOK W) : Xo (J6 Tryz.prog W) 167 := jM je (UQ W hW)
theorem abg : Has Tryz.prog 121 61 (Kl 165 166 167 168) r_catalog_Strength := zha Tryz.func121
theorem adG (W : World) (hW : WOK W) : UJ (J6 Tryz.prog W) 121 := acd abg (afa W hW) (aeM W hW) (yL W hW) (UQ W hW)
theorem ad6 : Has Tryz.prog 95 6 (yB 121) r_catalog_Valid := zha Tryz.func95
theorem aaN (W : World) (hW : WOK W) : Up (J6 Tryz.prog W) 95 := afz ad6 (adG W hW)
theorem afm : Has Tryz.prog 180 12 (x8 165) r_catalog_Kind := zha Tryz.func180
theorem ahw (W : World) (hW : WOK W) : yT (J6 Tryz.prog W) 180 := agB afm (afa W hW)
theorem abN : Has Tryz.prog 137 114 (K8 95 180 136) r_finding_content := zha Tryz.func137
theorem aez (W : World) (hW : WOK W) : Ky (J6 Tryz.prog W) 137 := ac9 abN (aaN W hW) (ahw W hW) (aaO W hW)
theorem ad2 : Has Tryz.prog 114 62 (yx 136 137) r_finding_Check := zha Tryz.func114
theorem agZ (W : World) (hW : WOK W) : jt (J6 Tryz.prog W) 114 := afv ad2 (aaO W hW) (aez W hW)
theorem ad5 : Has Tryz.prog 164 6 yA r_cmp_isNaN_int := zha Tryz.func164
theorem aaM (W : World) (hW : WOK W) : Uo (J6 Tryz.prog W) 164 := afy ad5
theorem ab0 : Has Tryz.prog 120 20 (qo 164) r_cmp_Compare_int := zha Tryz.func120
theorem qu (W : World) (hW : WOK W) : XW (J6 Tryz.prog W) 120 := adn ab0 (aaM W hW)
theorem aak : Has Tryz.prog 139 11 (Uz 120) r_finding_Order_1_1 := zha Tryz.func139
theorem acn (W : World) (hW : WOK W) : X5 (J6 Tryz.prog W) 139 := abl aak (qu W hW)
theorem abW : Has Tryz.prog 138 6 (qk 139) r_finding_Order_1 := zha Tryz.func138
theorem aeI (W : World) (hW : WOK W) : KH (J6 Tryz.prog W) 138 := adj abW (acn W hW)
theorem aaj : Has Tryz.prog 141 11 (Uy 119) r_finding_Order_2_1 := zha Tryz.func141
theorem acm (W : World) (hW : WOK W) : X4 (J6 Tryz.prog W) 141 := abk aaj (wI W hW)
theorem abV : Has Tryz.prog 140 6 (qj 141) r_finding_Order_2 := zha Tryz.func140
theorem aeH (W : World) (hW : WOK W) : KG (J6 Tryz.prog W) 140 := adi abV (acm W hW)
theorem abU : Has Tryz.prog 142 5 qi r_finding_Order_3 := zha Tryz.func142
theorem aeG (W : World) (hW : WOK W) : KF (J6 Tryz.prog W) 142 := adh abU
theorem abT : Has Tryz.prog 143 5 qh r_finding_Order_4 := zha Tryz.func143
theorem aeF (W : World) (hW : WOK W) : KE (J6 Tryz.prog W) 143 := adg abT
theorem abS : Has Tryz.prog 144 5 qg r_finding_Order_5 := zha Tryz.func144
theorem aeE (W : World) (hW : WOK W) : KD (J6 Tryz.prog W) 144 := adf abS
theorem abR : Has Tryz.prog 145 5 qe r_finding_Order_6 := zha Tryz.func145
theorem aeD (W : World) (hW : WOK W) : KC (J6 Tryz.prog W) 145 := ade abR
theorem abQ : Has Tryz.prog 146 5 qd r_finding_Order_7 := zha Tryz.func146
theorem aeC (W : World) (hW : WOK W) : KB (J6 Tryz.prog W) 146 := adc abQ
theorem abP : Has Tryz.prog 147 6 qc r_finding_Order_8 := zha Tryz.func147
theorem aeB (W : World) (hW : WOK W) : KA (J6 Tryz.prog W) 147 := adb abP
theorem abO : Has Tryz.prog 148 6 K9 r_finding_Order_9 := zha Tryz.func148
theorem aeA (W : World) (hW : WOK W) : Kz (J6 Tryz.prog W) 148 := ada abO
theorem abd : Has Tryz.prog 149 5 Ki r_finding_Order_10 := zha Tryz.func149
theorem adE (W : World) (hW : WOK W) : UH (J6 Tryz.prog W) 149 := ab9 abd
theorem abc : Has Tryz.prog 150 5 Kh r_finding_Order_11 := zha Tryz.func150
theorem adD (W : World) (hW : WOK W) : UG (J6 Tryz.prog W) 150 := ab8 abc
theorem abb : Has Tryz.prog 151 5 Kg r_finding_Order_12 := zha Tryz.func151
theorem adC (W : World) (hW : WOK W) : UF (J6 Tryz.prog W) 151 := ab7 abb
theorem aba : Has Tryz.prog 152 5 Kf r_finding_Order_13 := zha Tryz.func152
theorem adB (W : World) (hW : WOK W) : UE (J6 Tryz.prog W) 152 := ab6 aba
theorem ad1 : Has Tryz.prog 115 46 (yw 138 140 142 143 144 145 146 147 148 149 150 151 152) r_finding_Order := zha Tryz.func115
theorem agY (W : World) (hW : WOK W) : jr (J6 Tryz.prog W) 115 := afu ad1 (aeI W hW) (aeH W hW) (aeG W hW) (aeF W hW) (aeE W hW) (aeD W hW) (aeC W hW) (aeB W hW) (aeA W hW) (adE W hW) (adD W hW) (adC W hW) (adB W hW)
theorem acW : Has Tryz.prog 89 33 (jj 114 115) r_finding_Normal := zha Tryz.func89
theorem vS (W : World) (hW : WOK W) : VN (J6 Tryz.prog W) 89 := aef acW (agZ W hW) (agY W hW)
theorem acV : Has Tryz.prog 83 16 (ji 89) r_identity_early := zha Tryz.func83
theorem afF (W : World) (hW : WOK W) : qy (J6 Tryz.prog W) 83 := aee acV (vS W hW)
theorem xc : Has Tryz.prog 85 18 Wh r_identity_parents__root := zha Tryz.func85
theorem US (W : World) (hW : WOK W) : YX (J6 Tryz.prog W) 85 := xR xc
theorem xd : Has Tryz.prog 105 23 (Wi 85) r_identity_parents__join := zha Tryz.func105
theorem wK (W : World) (hW : WOK W) : XX (J6 Tryz.prog W) 105 := xS xd (US W hW)
theorem aah : Has Tryz.prog 107 16 Uw r_identity_distance := zha Tryz.func107
theorem yM (W : World) (hW : WOK W) : X3 (J6 Tryz.prog W) 107 := abi aah
theorem ahh : Has Tryz.prog 118 18 aaE r_cmp_Or_int := zha Tryz.func118
theorem ae9 (W : World) (hW : WOK W) : jS (J6 Tryz.prog W) 118 := aiB ahh
theorem aa9 : Has Tryz.prog 106 70 (Ke 107 120 118) r_identity_nearest := zha Tryz.func106
theorem adA (W : World) (hW : WOK W) : UD (J6 Tryz.prog W) 106 := ab5 aa9 (yM W hW) (qu W hW) (ae9 W hW)
theorem abM : Has Tryz.prog 84 91 (K7 105 106 107) r_identity_joined := zha Tryz.func84
theorem aey (W : World) (hW : WOK W) : Kx (J6 Tryz.prog W) 84 := ac8 abM (wK W hW) (adA W hW) (yM W hW)
theorem abf : Has Tryz.prog 169 6 Kk r_cmp_isNaN_string := zha Tryz.func169
theorem adF (W : World) (hW : WOK W) : UI (J6 Tryz.prog W) 169 := acb abf
theorem abZ : Has Tryz.prog 127 17 (qn 169) r_cmp_Less_string := zha Tryz.func127
theorem aeL (W : World) (hW : WOK W) : KL (J6 Tryz.prog W) 127 := adm abZ (adF W hW)
theorem wX : Has Tryz.prog 128 6 Vo r_slices_isNaN_string := zha Tryz.func128
theorem aaJ (W : World) (hW : WOK W) : WT (J6 Tryz.prog W) 128 := vZ wX
theorem Vg : Has Tryz.prog 108 54 (JU 127 128) r_slices_BinarySearch___string_string := zha Tryz.func108
theorem V8 (W : World) (hW : WOK W) : JP (J6 Tryz.prog W) 108 := VE Vg (aeL W hW) (aaJ W hW)
theorem xe : Has Tryz.prog 86 20 (Yb 108 109) r_identity_insert_string := zha Tryz.func86
theorem wL (W : World) (hW : WOK W) : XY (J6 Tryz.prog W) 86 := xT xe (V8 W hW) (qr W hW)
theorem afk : Has Tryz.prog 131 17 (xY 164) r_cmp_Less_int := zha Tryz.func131
theorem wa (W : World) (hW : WOK W) : Vq (J6 Tryz.prog W) 131 := agz afk (aaM W hW)
theorem aa8 : Has Tryz.prog 132 6 Kd r_slices_isNaN_int := zha Tryz.func132
theorem ady (W : World) (hW : WOK W) : UC (J6 Tryz.prog W) 132 := ab4 aa8
theorem U5 : Has Tryz.prog 110 54 (YH 131 132) r_slices_BinarySearch___int_int := zha Tryz.func110
theorem qt (W : World) (hW : WOK W) : YD (J6 Tryz.prog W) 110 := KO U5 (wa W hW) (ady W hW)
theorem wY : Has Tryz.prog 87 20 (Y1 110 111) r_identity_insert_int := zha Tryz.func87
theorem aaL (W : World) (hW : WOK W) : WU (J6 Tryz.prog W) 87 := v5 wY (qt W hW) (x9 W hW)
theorem aai : Has Tryz.prog 57 86 (Ux 83 84 85 86 87) r_identity_Entities := zha Tryz.func57
theorem ack (W : World) (hW : WOK W) : V9 (J6 Tryz.prog W) 57 := abj aai (afF W hW) (aey W hW) (US W hW) (wL W hW) (aaL W hW)
theorem yZ : Has Tryz.prog 38 8 Wf r_slices_Clone___int_int := zha Tryz.func38
theorem UR (W : World) (hW : WOK W) : YW (J6 Tryz.prog W) 38 := xP yZ
theorem abJ : Has Tryz.prog 162 25 K4 r_math_bits_Len64 := zha Tryz.func162
theorem aew (W : World) (hW : WOK W) : Kv (J6 Tryz.prog W) 162 := ac5 abJ
theorem adY : Has Tryz.prog 117 8 (yr 161 162) r_math_bits_Len := zha Tryz.func117
theorem aaK (W : World) (hW : WOK W) : WL (J6 Tryz.prog W) 117 := afr adY (aew W hW)
theorem Ut : Has Tryz.prog 172 49 (Ys 131) r_slices_insertionSortOrdered_int := zha Tryz.func172
theorem Km (W : World) (hW : WOK W) : Yh (J6 Tryz.prog W) 172 := UU Ut (wa W hW)
theorem jd : Has Tryz.prog 135 134 (XA 172 173 174 175 176 177 131 178 179 135) r_slices_pdqsortOrdered_int := zha Tryz.func135
theorem yK (W : World) (hW : WOK W) : Xn (J6 Tryz.prog W) 135 := jL jd (Km W hW) (wa W hW)
theorem xN : Has Tryz.prog 112 11 (Ww 117 135) r_slices_Sort___int_int := zha Tryz.func112
theorem vF (W : World) (hW : WOK W) : Wm (J6 Tryz.prog W) 112 := wz xN (aaK W hW) (yK W hW)
theorem jH : Has Tryz.prog 113 61 XK r_slices_Compact___int_int := zha Tryz.func113
theorem xf (W : World) (hW : WOK W) : XE (J6 Tryz.prog W) 113 := yj jH
theorem ad8 : Has Tryz.prog 88 35 (yD 38 112 113) r_asset_indices := zha Tryz.func88
theorem ag2 (W : World) (hW : WOK W) : jw (J6 Tryz.prog W) 88 := afB ad8 (UR W hW) (vF W hW) (xf W hW)
theorem ajs : Has Tryz.prog 90 30 aeo r_asset_of := zha Tryz.func90
theorem am8 (W : World) (hW : WOK W) : acq (J6 Tryz.prog W) 90 := akP ajs
theorem W9 : Has Tryz.prog 153 53 JK r_slices_insertionSortCmpFunc_api_Fact := zha Tryz.func153
theorem VJ (W : World) (hW : WOK W) : Ju (J6 Tryz.prog W) 153 := Vj W9
theorem UT : Has Tryz.prog 116 148 (YC 153 154 155 156 157 158 159 160 116) r_slices_pdqsortCmpFunc_api_Fact := zha Tryz.func116
theorem KQ (W : World) (hW : WOK W) : Yu (J6 Tryz.prog W) 116 := Kb UT (VJ W hW)
theorem Vf : Has Tryz.prog 91 14 (JT 117 116) r_slices_SortFunc___api_Fact_api_Fact := zha Tryz.func91
theorem V7 (W : World) (hW : WOK W) : JO (J6 Tryz.prog W) 91 := VD Vf (aaK W hW) (KQ W hW)
theorem ad9 : Has Tryz.prog 92 41 (yE 119 120 118) r_asset_compare := zha Tryz.func92
theorem ag3 (W : World) (hW : WOK W) : jx (J6 Tryz.prog W) 92 := afC ad9 (wI W hW) (qu W hW) (ae9 W hW)
theorem agp : Has Tryz.prog 58 150 (vC 88 89 90 91 92) r_asset_Facts := zha Tryz.func58
theorem aiU (W : World) (hW : WOK W) : wh (J6 Tryz.prog W) 58 := ahp agp (ag2 W hW) (vS W hW) (am8 W hW) (V7 W hW) (ag3 W hW)
theorem acX : Has Tryz.prog 29 65 (jk 57 58) r_exposure_facts := zha Tryz.func29
theorem vT (W : World) (hW : WOK W) : VO (J6 Tryz.prog W) 29 := aeg acX (ack W hW) (aiU W hW)
theorem KN : Has Tryz.prog 71 19 Y0 r_slices_Index___string_string := zha Tryz.func71
theorem jb (W : World) (hW : WOK W) : YJ (J6 Tryz.prog W) 71 := KW KN
theorem Uu : Has Tryz.prog 35 9 (Yt 71) r_slices_Contains___string_string := zha Tryz.func35
theorem Ko (W : World) (hW : WOK W) : Yi (J6 Tryz.prog W) 35 := UV Uu (jb W hW)
theorem abX : Has Tryz.prog 73 30 ql r_exposure_says_1 := zha Tryz.func73
theorem aeJ (W : World) (hW : WOK W) : KI (J6 Tryz.prog W) 73 := adk abX
theorem Vc : Has Tryz.prog 98 19 JN r_slices_IndexFunc___api_Fact_api_Fact := zha Tryz.func98
theorem VM (W : World) (hW : WOK W) : Jy (J6 Tryz.prog W) 98 := Vm Vc
theorem Wr : Has Tryz.prog 72 9 (Ji 98) r_slices_ContainsFunc___api_Fact_api_Fact := zha Tryz.func72
theorem WR (W : World) (hW : WOK W) : Jd (J6 Tryz.prog W) 72 := WH Wr (VM W hW)
theorem ad3 : Has Tryz.prog 36 8 (yy 73 72) r_exposure_says := zha Tryz.func36
theorem ag0 (W : World) (hW : WOK W) : ju (J6 Tryz.prog W) 36 := afw ad3 (aeJ W hW) (WR W hW)
theorem acY : Has Tryz.prog 16 55 (jl 29 35 36) r_exposure_Holds := zha Tryz.func16
theorem vU (W : World) (hW : WOK W) : VP (J6 Tryz.prog W) 16 := aeh acY (vT W hW) (Ko W hW) (ag0 W hW)
theorem vX : Has Tryz.prog 40 7 V4 r_exposure_Explain_1 := zha Tryz.func40
theorem abn (W : World) (hW : WOK W) : Vp (J6 Tryz.prog W) 40 := aao vX
theorem qU : Has Tryz.prog 75 19 Xm r_slices_IndexFunc___int_int := zha Tryz.func75
theorem jP (W : World) (hW : WOK W) : Xa (J6 Tryz.prog W) 75 := jf qU
theorem KT : Has Tryz.prog 39 42 (Y9 75) r_slices_DeleteFunc___int_int := zha Tryz.func39
theorem jm (W : World) (hW : WOK W) : Y3 (J6 Tryz.prog W) 39 := qV KT (jP W hW)
theorem abY : Has Tryz.prog 41 23 qm r_exposure_chosen := zha Tryz.func41
theorem aeK (W : World) (hW : WOK W) : KJ (J6 Tryz.prog W) 41 := adl abY
theorem abe : Has Tryz.prog 18 79 (Kj 16 38 40 39 41) r_exposure_Explain := zha Tryz.func18
theorem xJ (W : World) (hW : WOK W) : Wx (J6 Tryz.prog W) 18 := aca abe (vU W hW) (UR W hW) (abn W hW) (jm W hW) (aeK W hW)
theorem Va : Has Tryz.prog 93 19 JL r_slices_IndexFunc___api_Rule_api_Rule := zha Tryz.func93
theorem VK (W : World) (hW : WOK W) : Jv (J6 Tryz.prog W) 93 := Vk Va
theorem Wp : Has Tryz.prog 59 9 (Jg 93) r_slices_ContainsFunc___api_Rule_api_Rule := zha Tryz.func59
theorem WP (W : World) (hW : WOK W) : Jb (J6 Tryz.prog W) 59 := WF Wp (VK W hW)
theorem ag9 : Has Tryz.prog 61 48 aaw r_rule_ruled := zha Tryz.func61
theorem aj6 (W : World) (hW : WOK W) : vG (J6 Tryz.prog W) 61 := ait ag9
theorem afh : Has Tryz.prog 60 6 (xV 61) r_rule_Check_1 := zha Tryz.func60
theorem ahs (W : World) (hW : WOK W) : yP (J6 Tryz.prog W) 60 := agw afh (aj6 W hW)
theorem Vb : Has Tryz.prog 94 19 JM r_slices_IndexFunc___api_Keep_api_Keep := zha Tryz.func94
theorem VL (W : World) (hW : WOK W) : Jw (J6 Tryz.prog W) 94 := Vl Vb
theorem Wq : Has Tryz.prog 62 9 (Jh 94) r_slices_ContainsFunc___api_Keep_api_Keep := zha Tryz.func62
theorem WQ (W : World) (hW : WOK W) : Jc (J6 Tryz.prog W) 62 := WG Wq (VL W hW)
theorem aim : Has Tryz.prog 64 21 aci r_rule_kept := zha Tryz.func64
theorem ak8 (W : World) (hW : WOK W) : aaP (J6 Tryz.prog W) 64 := ajJ aim
theorem afg : Has Tryz.prog 63 6 (xU 64) r_rule_Check_2 := zha Tryz.func63
theorem ahr (W : World) (hW : WOK W) : yO (J6 Tryz.prog W) 63 := agv afg (ak8 W hW)
theorem aha : Has Tryz.prog 30 25 (aax 59 60 62 63) r_rule_Check := zha Tryz.func30
theorem ae7 (W : World) (hW : WOK W) : jQ (J6 Tryz.prog W) 30 := aiu aha (WP W hW) (ahs W hW) (WQ W hW) (ahr W hW)
theorem V3 : Has Tryz.prog 31 36 (J7 65) r_slices_Concat___api_Fact_api_Fact := zha Tryz.func31
theorem UB (W : World) (hW : WOK W) : J2 (J6 Tryz.prog W) 31 := Uf V3 (Kn W hW)
theorem adW : Has Tryz.prog 66 34 (yp 30 95) r_verdict_early := zha Tryz.func66
theorem agU (W : World) (hW : WOK W) : jn (J6 Tryz.prog W) 66 := afp adW (ae7 W hW) (aaN W hW)
theorem abG : Has Tryz.prog 67 25 (K0 68) r_verdict_allowed := zha Tryz.func67
theorem aet (W : World) (hW : WOK W) : Kr (J6 Tryz.prog W) 67 := ac2 abG (wG W hW)
theorem abH : Has Tryz.prog 32 30 (K1 66 67 68) r_verdict_Allowed := zha Tryz.func32
theorem aeu (W : World) (hW : WOK W) : Ks (J6 Tryz.prog W) 32 := ac3 abH (agU W hW) (aet W hW) (wG W hW)
theorem ad4 : Has Tryz.prog 14 81 (yz 29 30 31 32) r_exposure_Weak := zha Tryz.func14
theorem ag1 (W : World) (hW : WOK W) : jv (J6 Tryz.prog W) 14 := afx ad4 (vT W hW) (ae7 W hW) (UB W hW) (aeu W hW)
theorem acU : Has Tryz.prog 21 26 jh r_ref02_SameInts := zha Tryz.func21
theorem afE (W : World) (hW : WOK W) : qw (J6 Tryz.prog W) 21 := aed acU
theorem ago : Has Tryz.prog 7 60 (vB 25 18 14 21) r_law23_awake := zha Tryz.func7
theorem aiT (W : World) (hW : WOK W) : wg (J6 Tryz.prog W) 7 := aho ago (ae8 W hW) (xJ W hW) (ag1 W hW) (afE W hW)
theorem aio : Has Tryz.prog 8 6 acj r_make_Roll := zha Tryz.func8
theorem ala (W : World) (hW : WOK W) : aaR (J6 Tryz.prog W) 8 := ajL aio
theorem ajr : Has Tryz.prog 27 14 aen r_make_Mod := zha Tryz.func27
theorem am7 (W : World) (hW : WOK W) : acp (J6 Tryz.prog W) 27 := akO ajr
theorem abL : Has Tryz.prog 10 35 (K6 27) r_make_Dice__Next := zha Tryz.func10
theorem Wl (W : World) (hW : WOK W) : Yv (J6 Tryz.prog W) 10 := ac7 abL (am7 W hW)
theorem abK : Has Tryz.prog 13 12 (K5 10) r_make_Dice__Word := zha Tryz.func13
theorem aex (W : World) (hW : WOK W) : Kw (J6 Tryz.prog W) 13 := ac6 abK (Wl W hW)
theorem ad0 : Has Tryz.prog 11 12 (yv 10) r_make_Dice__Of := zha Tryz.func11
theorem agX (W : World) (hW : WOK W) : jq (J6 Tryz.prog W) 11 := aft ad0 (Wl W hW)
theorem afj : Has Tryz.prog 26 76 (xX 10 13 11) r_make_Finding := zha Tryz.func26
theorem ahu (W : World) (hW : WOK W) : yR (J6 Tryz.prog W) 26 := agy afj (Wl W hW) (aex W hW) (agX W hW)
theorem adZ : Has Tryz.prog 9 28 (yu 10 26 25) r_make_Findings := zha Tryz.func9
theorem agW (W : World) (hW : WOK W) : jp (J6 Tryz.prog W) 9 := afs adZ (Wl W hW) (ahu W hW) (ae8 W hW)
theorem xb : Has Tryz.prog 4 194 (Wg 6 7 8 9 10 16 18) r_law23_ExposureExplains := zha Tryz.func4
theorem wJ (W : World) (hW : WOK W) : Uj (J6 Tryz.prog W) 4 := xQ xb (akb W hW) (aiT W hW) (ala W hW) (agW W hW) (Wl W hW) (vU W hW) (xJ W hW)
end Go.Proofs.YtlpaikjhphkioaaGreat
end

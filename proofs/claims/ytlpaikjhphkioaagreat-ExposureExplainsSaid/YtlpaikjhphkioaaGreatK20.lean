/- The library's contracts at this seat. -/
import Derived.Test.YtlpaikjhphkioaaGreatK1
import Derived.Test.YtlpaikjhphkioaaGreatK11
import Derived.Test.YtlpaikjhphkioaaGreatK10
import Derived.Test.YtlpaikjhphkioaaGreatK12
import Derived.Test.YtlpaikjhphkioaaGreatK19
import Derived.Laws.AppendOwn
import Derived.Sort.Walk0
import Derived.KernelRfl
set_option linter.unusedVariables false
set_option linter.unusedSimpArgs false
section
namespace Go.Proofs.YtlpaikjhphkioaaGreat
open Go Av Go.RowKit
set_option maxRecDepth 100000
set_option linter.unusedVariables false
structure WOK (W : World) : Prop where
  ok : True
theorem arJ : Av.Own Tryz.prog 119 := ⟨Tryz.f119, Tryz.func119, by decide, _, rfl⟩
theorem ap4 : Av.Own Tryz.prog 109 := ⟨Tryz.f109, Tryz.func109, by decide, _, rfl⟩
theorem ap3 : Av.Own Tryz.prog 111 := ⟨Tryz.f111, Tryz.func111, by decide, _, rfl⟩
theorem asL : Av.Own Tryz.prog 65 := ⟨Tryz.f65, Tryz.func65, by decide, _, rfl⟩
theorem asK : Av.Own Tryz.prog 68 := ⟨Tryz.f68, Tryz.func68, by decide, _, rfl⟩
theorem asJ : Av.Own Tryz.prog 97 := ⟨Tryz.f97, Tryz.func97, by decide, _, rfl⟩
theorem atr : Tryz.prog.follows .mixedOrders = true := by kernel_rfl
theorem aov : ∀ a b : List UInt8, Lib.compareBytes a b = aaX a b
  | [], [] => by simp [Lib.compareBytes, aaX, Op.bytesLess]
  | [], _ :: _ => by simp [Lib.compareBytes, aaX, Op.bytesLess]
  | _ :: _, [] => by simp [Lib.compareBytes, aaX, Op.bytesLess]
  | a :: x, b :: y => by
    have ih := aov x y
    rw [aaX] at ih ⊢
    rw [Lib.compareBytes, ih]
    simp only [Op.bytesLess]
    by_cases h1 : a < b
    · simp [h1]
    · by_cases h2 : b < a
      · have h3 : a ≠ b := fun e => by subst e; exact h1 h2
        simp [h1, h2, h3]
      · have h3 : a = b := UInt8.le_antisymm (UInt8.not_lt.1 h2) (UInt8.not_lt.1 h1)
        subst h3
        simp [h1]
theorem wG (W : World) (hW : WOK W) : Kt (J6 Tryz.prog W) 119 := by
  intro a b
  refine ⟨arZ (cv := [.string ⟨a.toArray⟩, .string ⟨b.toArray⟩]) (res := .int .i64 (aaX a b)) (fun _ _ _ => .sc rfl) ?_, trivial, trivial⟩
  intro w hk
  show Kp Tryz.prog 119 _ w _
  refine (KZ arJ _ _ _).2 ((Any.strings_Compare Tryz.lays106 ⟨a.toArray⟩ ⟨b.toArray⟩ w).mono fun e w' ⟨he, hw⟩ => ?_)
  subst he; subst hw
  exact ⟨by simp [aov], Nat.le_refl _, fun _ _ => rfl, KP.refl _⟩
theorem ajZ {w : World} {n c : Nat} {t : TypeId} (h : n < 2 ^ 63) : n ≤ grownCap w n c t ∧ grownCap w n c t < 2 ^ 63 := by
  refine ⟨grownCap_ge _ _ _ _, ?_⟩
  have := grownCap_le_maxLen w n c t (by unfold maxLen; omega)
  unfold maxLen at this
  omega
theorem aeR {u : Value} {w : World} {vb voff : Nat} (h : w.cell? ⟨vb, voff, none⟩ = some u) : ∀ (j : Nat) (v : Value), [u][j]? = some v → w.cell? ⟨vb, voff + j, none⟩ = some v := fun j v hj => by
  obtain ⟨h1, rfl⟩ := List.getElem?_eq_some_iff.1 hj
  have : j = 0 := by simpa using h1
  subst this
  simpa using h
theorem asQ : asA Tryz.prog 109 9 (.string ⟨#[]⟩) := {
  shift := fun b off n c i vb voff vc cs u w tA tB kA kB h1 h2 h3 h4 h5 h6 h7 h8 h9 h10 h11 h12 h13 h14 h15 h16 =>
    Any2.slices_Insert_string_shift Tryz.lays2I22 b off n c i vb voff 1 vc cs [u] w h1 Nat.one_pos h2 h3 h4 h5 rfl h6 h7 h8 (aeR h9) h10 (by simpa using h11) tA tB kA kB h12 h13 h14 h15 h16
  endRoom := fun b off n c vb voff vc u w h1 h2 h3 h4 h5 h6 =>
    Any2.slices_Insert_string_end_room Tryz.lays2I22 b off n c vb voff 1 vc [u] w Nat.one_pos h1 h2 rfl (fun j hj => by have hj0 : j = 0 := (by omega); subst hj0; exact h3) (fun j hj => by have hj0 : j = 0 := (by omega); subst hj0; exact h4) (aeR h5) (by simpa using h6)
  endGrow := fun base n c vb voff vc cs u w h1 h2 h3 h4 h5 h6 h7 h8 =>
    (Any2.slices_Insert_string_end_grow Tryz.lays2I22 base n c vb voff 1 vc cs [u] w Nat.one_pos h1 h2 (by omega) h4 rfl h5 h6 (aeR h7) (by simpa using h8)).mono fun e w' ⟨he, hw⟩ => ⟨_, ajZ (by omega), he, hw⟩
  grow := fun b off n c i vb voff vc cs u w h1 h2 h3 h4 h5 h6 h7 h8 h9 =>
    (Any2.slices_Insert_string_grow Tryz.lays2I22 b off n c i vb voff 1 vc cs [u] w h1 Nat.one_pos h2 h3 (by omega) h5 rfl h6 (aeR h7) h8 (by simpa using h9)).mono fun e w' ⟨he, hw⟩ => ⟨_, _, ajZ (by omega), by
      have := grownCap_ge w (n + 1) c (Tryz.lays2I22_ren.t 9)
      rw [Array.size_append, Array.size_append, Yl, Yl]; simp [Value.cells]; omega, fun j v hj hv => by
        rw [Array.append_assoc, Array.getElem?_append_left (by simp; omega)]
        simp [hv, hj], he, hw⟩ }
theorem atg : asA Tryz.prog 111 3 (.int .i64 0) := {
  shift := fun b off n c i vb voff vc cs u w tA tB kA kB h1 h2 h3 h4 h5 h6 h7 h8 h9 h10 h11 h12 h13 h14 h15 h16 =>
    Any2.slices_Insert_int_shift Tryz.lays2I21 b off n c i vb voff 1 vc cs [u] w h1 Nat.one_pos h2 h3 h4 h5 rfl h6 h7 h8 (aeR h9) h10 (by simpa using h11) tA tB kA kB h12 h13 h14 h15 h16
  endRoom := fun b off n c vb voff vc u w h1 h2 h3 h4 h5 h6 =>
    Any2.slices_Insert_int_end_room Tryz.lays2I21 b off n c vb voff 1 vc [u] w Nat.one_pos h1 h2 rfl (fun j hj => by have hj0 : j = 0 := (by omega); subst hj0; exact h3) (fun j hj => by have hj0 : j = 0 := (by omega); subst hj0; exact h4) (aeR h5) (by simpa using h6)
  endGrow := fun base n c vb voff vc cs u w h1 h2 h3 h4 h5 h6 h7 h8 =>
    (Any2.slices_Insert_int_end_grow Tryz.lays2I21 base n c vb voff 1 vc cs [u] w Nat.one_pos h1 h2 (by omega) h4 rfl h5 h6 (aeR h7) (by simpa using h8)).mono fun e w' ⟨he, hw⟩ => ⟨_, ajZ (by omega), he, hw⟩
  grow := fun b off n c i vb voff vc cs u w h1 h2 h3 h4 h5 h6 h7 h8 h9 =>
    (Any2.slices_Insert_int_grow Tryz.lays2I21 b off n c i vb voff 1 vc cs [u] w h1 Nat.one_pos h2 h3 (by omega) h5 rfl h6 (aeR h7) h8 (by simpa using h9)).mono fun e w' ⟨he, hw⟩ => ⟨_, _, ajZ (by omega), by
      have := grownCap_ge w (n + 1) c (Tryz.lays2I21_ren.t 3)
      rw [Array.size_append, Array.size_append, Yl, Yl]; simp [Value.cells]; omega, fun j v hj hv => by
        rw [Array.append_assoc, Array.getElem?_append_left (by simp; omega)]
        simp [hv, hj], he, hw⟩ }
theorem qr (W : World) (hW : WOK W) : XZ (J6 Tryz.prog W) 109 := by
  refine ⟨fun xs i x hi hp hl => ?_, fun x => ?_⟩
  · have := alO (Γ := J6 Tryz.prog W) asQ ap4 (i := i) (ls := xs.map fun s => Value.string ⟨s.toArray⟩) (u := .string ⟨x.toArray⟩) (by simpa using hi) (by simpa using hp) (by simp; omega) (by simp only [List.mem_map]; rintro v ⟨s, _, rfl⟩; rfl) rfl
    simpa [List.map_take, List.map_drop, Function.comp_def, V.str] using this
  · exact alN (Γ := J6 Tryz.prog W) asQ ap4 rfl trivial
theorem x9 (W : World) (hW : WOK W) : V2 (J6 Tryz.prog W) 111 := by
  refine ⟨fun xs i x hi hp hl => ?_, fun x => ?_⟩
  · have := alO (Γ := J6 Tryz.prog W) atg ap3 (i := i) (ls := xs.map fun s => Value.int .i64 s) (u := .int .i64 x) (by simpa using hi) (by simpa using hp) (by simp; omega) (by simp only [List.mem_map]; rintro v ⟨s, _, rfl⟩; rfl) rfl
    simpa [List.map_take, List.map_drop, Function.comp_def, V.int] using this
  · exact alN (Γ := J6 Tryz.prog W) atg ap3 rfl trivial
theorem apw : ((Tryz.prog.info? 26).any fun i => i.zero.isSome && (i.size == 8 && (decide (i.bytes ≤ 100) && (i.zero.map (·.cells.size) == some 8)))) = true := by kernel_rfl
theorem asW : asp Tryz.prog 65 26 8 := {
  room := fun w => Any8.slices_Grow_room Tryz.lays8G65 none 0 0 0 w (Nat.le_refl _) (by omega) (by omega) (by omega)
  grow := fun n w h1 h2 => by
    have h := apw
    cases hi : Tryz.prog.info? 26 with
    | none => rw [hi] at h; cases h
    | some i0 =>
      rw [hi] at h
      simp only [Option.any_some, Bool.and_eq_true, decide_eq_true_eq, beq_iff_eq] at h
      obtain ⟨q1, q2, q3, q4⟩ := h
      cases hz : i0.zero with
      | none => rw [hz] at q1; cases q1
      | some z =>
        rw [hz] at q4
        have q5 : z.cells.size = 8 := by simpa using q4
        have hb : (0 + n) * i0.bytes ≤ 140737488355328 := by
          have : (0 + n) * i0.bytes ≤ (0 + n) * 100 := Nat.mul_le_mul_left _ q3
          omega
        refine (Any8.slices_Grow_grow Tryz.lays8G65 i0 z hi hz (by omega) none 0 0 n [] w (Nat.le_refl _) (by omega) hb (by omega) (by simp) (fun _ => rfl) (fun a h => by cases h)).mono fun e w' ⟨he, hw⟩ => ⟨_, _, (ajZ (by omega)).2, ?_, he, hw⟩
        have := grownCap_ge w (0 + n) 0 (Tryz.lays8G65_ren.t 25)
        rw [Array.size_append, Array.size_append, Yl, Yl, q5]
        simp
        omega }
theorem Kn (W : World) (hW : WOK W) : XJ (J6 Tryz.prog W) 65 := fun n hn => apy (Γ := J6 Tryz.prog W) asW asL hn
theorem aom {Γ : Env} {f : FuncId} {args : List V} {k : Value}
    (h : ∀ (C : Ctx) (cargs : Array Value), C.env = Γ → cargs.size = args.length → (∀ i (h : i < args.length) (h' : i < cargs.size), Rep C.w0 C.Z0 C.μ0 cargs[i] args[i]) → Kp Γ.P f cargs C.w0 fun e w' => e = .returned k ∧ Below C.w0.heap.size C.w0 w') (hk : k.oneCell' = true) : Ev Γ f args [] (.sc k) [] := by
  intro C cargs hP hm hmu hg hF hsz hrep
  have := h C cargs hP hsz hrep
  refine this.mono fun e w' ⟨he, hb⟩ => ?_
  subst he
  exact ⟨_, C.Z0, C.μ0, rfl, .sc hk, ⟨fun a x h => by simp at h, fun a b x y c d _ h => by simp at h, fun b i h => Nat.lt_of_lt_of_le (hg.zlt b i h) hb.size, hb.size, fun b h _ => hb.block b h, fun b i h => .inl h, fun b i h => h, fun b i h => by simp [World.cell?, hb.block b (hg.zlt b i h)], fun k _ => rfl, ⟨hb.os, hb.tape, hb.output⟩⟩, fun k hk => hmu k (by simp)⟩
def aoN (r : JY) : PR := ⟨r.allow, r.alg, r.below, r.purp, r.frm, r.til⟩
def arO (r : PR) : JY := ⟨r.allow, r.alg, r.below, r.purp, r.frm, r.til⟩
theorem asV : Has Tryz.prog 97 43 Kc r_verdict_concerns := ⟨Tryz.f97, _, Tryz.func97, by decide, rfl, rfl, by kernel_rfl, by kernel_rfl⟩
theorem arb (r : PR) (a b pu : Int) (w : World) : Calls Tryz.prog 97 #[aqw r, .agg #[.int .i64 a, .int .i64 b], .int .i64 pu] w fun e W' => e = .returned (.bool (akY (arO r) a b pu)) ∧ Below w.heap.size w W' := by
  have E := ab4 (Γ := J6 Tryz.prog w) asV (arO r) a b pu
  refine agP atr asJ E rfl fun i h h' => ?_
  match i, h with
  | 0, _ =>
    refine .agg rfl (fun j hj => ?_) fun j hj hj' => ?_
    · match j, hj with
      | 0, _ | 1, _ | 2, _ | 3, _ | 4, _ | 5, _ => rfl
    · match j, hj with
      | 0, _ | 1, _ | 2, _ | 3, _ | 4, _ | 5, _ => exact .sc rfl
  | 1, _ =>
    refine .agg rfl (fun j hj => ?_) fun j hj hj' => ?_
    · match j, hj with
      | 0, _ | 1, _ => rfl
    · match j, hj with
      | 0, _ | 1, _ => exact .sc rfl
  | 2, _ => exact .sc rfl
theorem alu (rs : List JY) (a b pu day : Int) : ∀ k, k ≤ rs.length → aga (am6 (fun r => akY (arO r) a b pu) (rs.map aoN) day) k = aqi (asv a b pu day) rs k
  | 0, _ => rfl
  | k + 1, hk => by
    have ih := alu rs a b pu day k (by omega)
    have hg : rs[k]? = some rs[k] := List.getElem?_eq_getElem (by omega)
    have hp : (rs.map aoN).getD k default = aoN rs[k] := by simp [List.getD, hg]
    rw [aga, aqi, hg, ih]
    have : am6 (fun r => akY (arO r) a b pu) (rs.map aoN) day k = asv a b pu day rs[k] := by
      rw [am6, hp]; rfl
    rw [this]
theorem wE (W : World) (hW : WOK W) : Kq (J6 Tryz.prog W) 68 := by
  intro rs ks a b pu day hr
  refine ⟨aom (fun C cargs hP hsz hrep => ?_) rfl, trivial, trivial⟩
  have hsz : cargs.size = 4 := hsz
  obtain ⟨x0, x1, x2, x3, rfl⟩ : ∃ x0 x1 x2 x3, cargs = #[x0, x1, x2, x3] := ⟨cargs[0], cargs[1], cargs[2], cargs[3], by
    apply Array.ext
    · simpa using hsz
    · intro k a1 a2
      match k, a2 with
      | 0, _ | 1, _ | 2, _ | 3, _ => rfl⟩
  have r0 : Rep C.w0 C.Z0 C.μ0 x0 (ap2 rs ks) := hrep 0 (by simp) (by simp)
  have r1 : Rep C.w0 C.Z0 C.μ0 x1 (.agg [V.int a, V.int b]) := hrep 1 (by simp) (by simp)
  have r2 : Rep C.w0 C.Z0 C.μ0 x2 (V.int pu) := hrep 2 (by simp) (by simp)
  have r3 : Rep C.w0 C.Z0 C.μ0 x3 (V.int day) := hrep 3 (by simp) (by simp)
  have e2 := r2.scE.1
  have e3 := r3.scE.1
  obtain ⟨cs, e0, l0, _, h0⟩ := r0.aggE
  obtain ⟨cs1, e1, l1, _, h1⟩ := r1.aggE
  obtain ⟨y0, y1, rfl⟩ : ∃ y0 y1, cs = #[y0, y1] := ⟨cs[0]'(by rw [l0]; simp), cs[1]'(by rw [l0]; simp), by
    apply Array.ext
    · simpa using l0
    · intro k a1 a2
      match k, a2 with
      | 0, _ | 1, _ => rfl⟩
  obtain ⟨z0, z1, rfl⟩ : ∃ z0 z1, cs1 = #[z0, z1] := ⟨cs1[0]'(by rw [l1]; simp), cs1[1]'(by rw [l1]; simp), by
    apply Array.ext
    · simpa using l1
    · intro k a1 a2
      match k, a2 with
      | 0, _ | 1, _ => rfl⟩
  have q0 : Rep C.w0 C.Z0 C.μ0 y0 (.sl 6 (rs.map JY.v)) := h0 0 (by simp) (by simp)
  have p0 : Rep C.w0 C.Z0 C.μ0 z0 (V.int a) := h1 0 (by simp) (by simp)
  have p1 : Rep C.w0 C.Z0 C.μ0 z1 (V.int b) := h1 1 (by simp) (by simp)
  have e4 := p0.scE.1
  have e5 := p1.scE.1
  obtain ⟨ad, cap, e6, _, hx⟩ := q0.slE
  subst e0; subst e1; subst e2; subst e3; subst e4; subst e5; subst e6
  show Kp Tryz.prog 68 _ C.w0 _
  refine (KZ asK _ _ _).2 ?_
  have D := Dec.decides_in (fun r => akY (arO r) a b pu) Fence.wide 5 trivial trivial trivial rfl (Nat.le_refl _) (rs.map aoN) ad cap y1 a b pu day C.w0 (fun r w => callsIn_wide.2 (arb r a b pu w)) trivial (by simp; omega) (by
    by_cases hn : rs = []
    · exact .inl (by simp [hn])
    · obtain ⟨bb, oo, rfl, hrow, _⟩ := hx (by simpa using hn)
      have hcell : ∀ j, j < (rs.map aoN).length → ∀ c, c < 6 → C.w0.cell? ⟨bb, oo + (j * 6 + c), none⟩ = some (aiI ((rs.map aoN).getD j default) c) := by
        intro j hj c hc
        have hj' : j < rs.length := by simpa using hj
        have hjv : j < (rs.map JY.v).length := by simpa using hj
        have ev : (rs.map JY.v)[j] = JY.v rs[j] := by simp
        have hg : rs[j]? = some rs[j] := List.getElem?_eq_getElem hj'
        have hp : (rs.map aoN).getD j default = aoN rs[j] := by simp [List.getD, hg]
        obtain ⟨v, c1, c2, c3⟩ := (hrow j hjv).2 c (by rw [ev]; exact hc)
        rw [hp]
        refine c1.trans (congrArg some ?_)
        match c, hc with
        | 0, _ | 1, _ | 2, _ | 3, _ | 4, _ | 5, _ =>
          simp only [ev] at c3
          exact c3.scE.1
      have hpos : 0 < (rs.map aoN).length := by simpa [List.length_pos_iff] using hn
      refine .inr ⟨bb, oo, rfl, ?_, hcell⟩
      have := hcell 0 hpos 0 (by omega)
      rcases Nat.lt_or_ge bb C.w0.heap.size with h | h
      · exact h
      · simp [World.cell?, Array.getElem?_eq_none h] at this)
  rw [List.length_map] at D
  have D' := callsIn_wide.1 D
  rw [alu rs a b pu day _ (Nat.le_refl _)] at D'
  simpa [List.length_map, aqh] using D'
end Go.Proofs.YtlpaikjhphkioaaGreat
end
section
namespace Go.Proofs.YtlpaikjhphkioaaGreat
open Go Av Go.RowKit
set_option maxRecDepth 100000
set_option linter.unusedVariables false
theorem zha {P : Program} {f nt : Nat} {c : AC} {rs : List Jf} {fn} (h1 : P.funcs[f]? = some fn) (h : P.funcs[f]? = some fn → Has P f nt c rs := by exact fun h => ⟨_, _, h, by decide, rfl, rfl, by kernel_rfl, by kernel_rfl⟩) : Has P f nt c rs := h h1
theorem ahi : Has Tryz.prog 6 6 aaF r_make_Light := zha Tryz.func6
theorem akc (W : World) (hW : WOK W) : vM (J6 Tryz.prog W) 6 := aiC ahi
theorem ahf : Has Tryz.prog 81 28 aaC r_ref03_Name := zha Tryz.func81
theorem aj9 (W : World) (hW : WOK W) : vJ (J6 Tryz.prog W) 81 := aiz ahf
theorem adX : Has Tryz.prog 123 25 yq r_ref02_modulus := zha Tryz.func123
theorem agW (W : World) (hW : WOK W) : jo (J6 Tryz.prog W) 123 := afp adX
theorem agn : Has Tryz.prog 124 24 vA r_ref02_among := zha Tryz.func124
theorem aiT (W : World) (hW : WOK W) : we (J6 Tryz.prog W) 124 := aho agn
theorem afh : Has Tryz.prog 125 21 xW r_ref02_single := zha Tryz.func125
theorem ahv (W : World) (hW : WOK W) : yQ (J6 Tryz.prog W) 125 := agy afh
theorem acT : Has Tryz.prog 99 76 (jg 123 124 125) r_ref02_Strength := zha Tryz.func99
theorem afD (W : World) (hW : WOK W) : qv (J6 Tryz.prog W) 99 := aec acT (agW W hW) (aiT W hW) (ahv W hW)
theorem ago : Has Tryz.prog 76 6 (vB 99) r_ref02_Valid := zha Tryz.func76
theorem ady (W : World) (hW : WOK W) : qF (J6 Tryz.prog W) 76 := ahp ago (afD W hW)
theorem ahg : Has Tryz.prog 126 25 aaD r_ref02_rows := zha Tryz.func126
theorem aka (W : World) (hW : WOK W) : vK (J6 Tryz.prog W) 126 := aiA ahg
theorem ahh : Has Tryz.prog 104 14 (aaE 126) r_ref02_Kind := zha Tryz.func104
theorem akb (W : World) (hW : WOK W) : vL (J6 Tryz.prog W) 104 := aiB ahh (aka W hW)
theorem abJ : Has Tryz.prog 82 11 (K3 76 104) r_ref03_Signature := zha Tryz.func82
theorem aev (W : World) (hW : WOK W) : Ku (J6 Tryz.prog W) 82 := ac4 abJ (ady W hW) (akb W hW)
theorem agm : Has Tryz.prog 55 161 (vw 81 76 82) r_ref14_Check := zha Tryz.func55
theorem aiS (W : World) (hW : WOK W) : wd (J6 Tryz.prog W) 55 := ahn agm (aj9 W hW) (ady W hW) (aev W hW)
theorem agk : Has Tryz.prog 100 11 vn r_ref14_texts := zha Tryz.func100
theorem aiQ (W : World) (hW : WOK W) : wb (J6 Tryz.prog W) 100 := ahl agk
theorem ahd : Has Tryz.prog 101 30 aaA r_ref14_ints := zha Tryz.func101
theorem aj8 (W : World) (hW : WOK W) : vI (J6 Tryz.prog W) 101 := aix ahd
theorem agl : Has Tryz.prog 78 85 (vq 100 101) r_ref14_Order := zha Tryz.func78
theorem aiR (W : World) (hW : WOK W) : wc (J6 Tryz.prog W) 78 := ahm agl (aiQ W hW) (aj8 W hW)
theorem aip : Has Tryz.prog 56 47 (vo 78) r_ref14_put := zha Tryz.func56
theorem ak9 (W : World) (hW : WOK W) : aaS (J6 Tryz.prog W) 56 := ajL aip (aiR W hW)
theorem ahe : Has Tryz.prog 25 38 (aaB 55 56) r_ref14_Norm := zha Tryz.func25
theorem ae8 (W : World) (hW : WOK W) : jR (J6 Tryz.prog W) 25 := aiy ahe (aiS W hW) (ak9 W hW)
theorem ad7 : Has Tryz.prog 136 27 yC r_catalog_Named := zha Tryz.func136
theorem aaQ (W : World) (hW : WOK W) : Uq (J6 Tryz.prog W) 136 := afz ad7
theorem afk : Has Tryz.prog 187 46 xZ r_catalog_rows := zha Tryz.func187
theorem ahx (W : World) (hW : WOK W) : yS (J6 Tryz.prog W) 187 := agB afk
theorem ahk : Has Tryz.prog 165 14 (aaH 187) r_catalog_of := zha Tryz.func165
theorem afa (W : World) (hW : WOK W) : jT (J6 Tryz.prog W) 165 := aiE ahk (ahx W hW)
theorem ab2 : Has Tryz.prog 166 21 qp r_catalog_modulus := zha Tryz.func166
theorem aeM (W : World) (hW : WOK W) : KM (J6 Tryz.prog W) 166 := ado ab2
theorem yY : Has Tryz.prog 168 19 We r_slices_Index___int_int := zha Tryz.func168
theorem UQ (W : World) (hW : WOK W) : YU (J6 Tryz.prog W) 168 := xO yY
theorem je : Has Tryz.prog 167 9 (XB 168) r_slices_Contains___int_int := zha Tryz.func167
theorem yL (W : World) (hW : WOK W) : Xo (J6 Tryz.prog W) 167 := jM je (UQ W hW)
theorem abh : Has Tryz.prog 121 61 (Kl 165 166 167 168) r_catalog_Strength := zha Tryz.func121
theorem adF (W : World) (hW : WOK W) : UJ (J6 Tryz.prog W) 121 := ace abh (afa W hW) (aeM W hW) (yL W hW) (UQ W hW)
theorem ad6 : Has Tryz.prog 95 6 (yB 121) r_catalog_Valid := zha Tryz.func95
theorem aaP (W : World) (hW : WOK W) : Up (J6 Tryz.prog W) 95 := afy ad6 (adF W hW)
theorem afl : Has Tryz.prog 180 12 (x8 165) r_catalog_Kind := zha Tryz.func180
theorem ahy (W : World) (hW : WOK W) : yT (J6 Tryz.prog W) 180 := agC afl (afa W hW)
theorem abO : Has Tryz.prog 137 114 (K8 95 180 136) r_finding_content := zha Tryz.func137
theorem aez (W : World) (hW : WOK W) : Ky (J6 Tryz.prog W) 137 := ac9 abO (aaP W hW) (ahy W hW) (aaQ W hW)
theorem ad2 : Has Tryz.prog 114 62 (yx 136 137) r_finding_Check := zha Tryz.func114
theorem ag0 (W : World) (hW : WOK W) : jt (J6 Tryz.prog W) 114 := afu ad2 (aaQ W hW) (aez W hW)
theorem ad5 : Has Tryz.prog 164 6 yA r_cmp_isNaN_int := zha Tryz.func164
theorem aaO (W : World) (hW : WOK W) : Uo (J6 Tryz.prog W) 164 := afx ad5
theorem ab1 : Has Tryz.prog 120 20 (qo 164) r_cmp_Compare_int := zha Tryz.func120
theorem qu (W : World) (hW : WOK W) : XW (J6 Tryz.prog W) 120 := adn ab1 (aaO W hW)
theorem aam : Has Tryz.prog 139 11 (Uz 120) r_finding_Order_1_1 := zha Tryz.func139
theorem aco (W : World) (hW : WOK W) : X5 (J6 Tryz.prog W) 139 := abm aam (qu W hW)
theorem abX : Has Tryz.prog 138 6 (qk 139) r_finding_Order_1 := zha Tryz.func138
theorem aeI (W : World) (hW : WOK W) : KH (J6 Tryz.prog W) 138 := adj abX (aco W hW)
theorem aal : Has Tryz.prog 141 11 (Uy 119) r_finding_Order_2_1 := zha Tryz.func141
theorem acn (W : World) (hW : WOK W) : X4 (J6 Tryz.prog W) 141 := abl aal (wG W hW)
theorem abW : Has Tryz.prog 140 6 (qj 141) r_finding_Order_2 := zha Tryz.func140
theorem aeH (W : World) (hW : WOK W) : KG (J6 Tryz.prog W) 140 := adi abW (acn W hW)
theorem abV : Has Tryz.prog 142 5 qi r_finding_Order_3 := zha Tryz.func142
theorem aeG (W : World) (hW : WOK W) : KF (J6 Tryz.prog W) 142 := adh abV
theorem abU : Has Tryz.prog 143 5 qh r_finding_Order_4 := zha Tryz.func143
theorem aeF (W : World) (hW : WOK W) : KE (J6 Tryz.prog W) 143 := adg abU
theorem abT : Has Tryz.prog 144 5 qg r_finding_Order_5 := zha Tryz.func144
theorem aeE (W : World) (hW : WOK W) : KD (J6 Tryz.prog W) 144 := adf abT
theorem abS : Has Tryz.prog 145 5 qe r_finding_Order_6 := zha Tryz.func145
theorem aeD (W : World) (hW : WOK W) : KC (J6 Tryz.prog W) 145 := ade abS
theorem abR : Has Tryz.prog 146 5 qd r_finding_Order_7 := zha Tryz.func146
theorem aeC (W : World) (hW : WOK W) : KB (J6 Tryz.prog W) 146 := adc abR
theorem abQ : Has Tryz.prog 147 6 qc r_finding_Order_8 := zha Tryz.func147
theorem aeB (W : World) (hW : WOK W) : KA (J6 Tryz.prog W) 147 := adb abQ
theorem abP : Has Tryz.prog 148 6 K9 r_finding_Order_9 := zha Tryz.func148
theorem aeA (W : World) (hW : WOK W) : Kz (J6 Tryz.prog W) 148 := ada abP
theorem abe : Has Tryz.prog 149 5 Ki r_finding_Order_10 := zha Tryz.func149
theorem adD (W : World) (hW : WOK W) : UH (J6 Tryz.prog W) 149 := aca abe
theorem abd : Has Tryz.prog 150 5 Kh r_finding_Order_11 := zha Tryz.func150
theorem adC (W : World) (hW : WOK W) : UG (J6 Tryz.prog W) 150 := ab9 abd
theorem abc : Has Tryz.prog 151 5 Kg r_finding_Order_12 := zha Tryz.func151
theorem adB (W : World) (hW : WOK W) : UF (J6 Tryz.prog W) 151 := ab8 abc
theorem abb : Has Tryz.prog 152 5 Kf r_finding_Order_13 := zha Tryz.func152
theorem adA (W : World) (hW : WOK W) : UE (J6 Tryz.prog W) 152 := ab7 abb
theorem ad1 : Has Tryz.prog 115 46 (yw 138 140 142 143 144 145 146 147 148 149 150 151 152) r_finding_Order := zha Tryz.func115
theorem agZ (W : World) (hW : WOK W) : jr (J6 Tryz.prog W) 115 := aft ad1 (aeI W hW) (aeH W hW) (aeG W hW) (aeF W hW) (aeE W hW) (aeD W hW) (aeC W hW) (aeB W hW) (aeA W hW) (adD W hW) (adC W hW) (adB W hW) (adA W hW)
theorem acW : Has Tryz.prog 89 33 (jj 114 115) r_finding_Normal := zha Tryz.func89
theorem vT (W : World) (hW : WOK W) : VN (J6 Tryz.prog W) 89 := aef acW (ag0 W hW) (agZ W hW)
theorem acV : Has Tryz.prog 83 16 (ji 89) r_identity_early := zha Tryz.func83
theorem afF (W : World) (hW : WOK W) : qy (J6 Tryz.prog W) 83 := aee acV (vT W hW)
theorem xc : Has Tryz.prog 85 18 Wh r_identity_parents__root := zha Tryz.func85
theorem US (W : World) (hW : WOK W) : YW (J6 Tryz.prog W) 85 := xR xc
theorem xd : Has Tryz.prog 105 23 (Wi 85) r_identity_parents__join := zha Tryz.func105
theorem wJ (W : World) (hW : WOK W) : XX (J6 Tryz.prog W) 105 := xS xd (US W hW)
theorem aaj : Has Tryz.prog 107 16 Uw r_identity_distance := zha Tryz.func107
theorem yM (W : World) (hW : WOK W) : X3 (J6 Tryz.prog W) 107 := abj aaj
theorem ahj : Has Tryz.prog 118 18 aaG r_cmp_Or_int := zha Tryz.func118
theorem ae9 (W : World) (hW : WOK W) : jS (J6 Tryz.prog W) 118 := aiD ahj
theorem aba : Has Tryz.prog 106 70 (Ke 107 120 118) r_identity_nearest := zha Tryz.func106
theorem adz (W : World) (hW : WOK W) : UD (J6 Tryz.prog W) 106 := ab6 aba (yM W hW) (qu W hW) (ae9 W hW)
theorem abN : Has Tryz.prog 84 91 (K7 105 106 107) r_identity_joined := zha Tryz.func84
theorem aey (W : World) (hW : WOK W) : Kx (J6 Tryz.prog W) 84 := ac8 abN (wJ W hW) (adz W hW) (yM W hW)
theorem abg : Has Tryz.prog 169 6 Kk r_cmp_isNaN_string := zha Tryz.func169
theorem adE (W : World) (hW : WOK W) : UI (J6 Tryz.prog W) 169 := acd abg
theorem ab0 : Has Tryz.prog 127 17 (qn 169) r_cmp_Less_string := zha Tryz.func127
theorem aeL (W : World) (hW : WOK W) : KL (J6 Tryz.prog W) 127 := adm ab0 (adE W hW)
theorem wX : Has Tryz.prog 128 6 Vo r_slices_isNaN_string := zha Tryz.func128
theorem aaL (W : World) (hW : WOK W) : WT (J6 Tryz.prog W) 128 := v5 wX
theorem Vg : Has Tryz.prog 108 54 (JU 127 128) r_slices_BinarySearch___string_string := zha Tryz.func108
theorem V8 (W : World) (hW : WOK W) : JP (J6 Tryz.prog W) 108 := VE Vg (aeL W hW) (aaL W hW)
theorem xe : Has Tryz.prog 86 20 (Yb 108 109) r_identity_insert_string := zha Tryz.func86
theorem wK (W : World) (hW : WOK W) : XY (J6 Tryz.prog W) 86 := xT xe (V8 W hW) (qr W hW)
theorem afj : Has Tryz.prog 131 17 (xY 164) r_cmp_Less_int := zha Tryz.func131
theorem wa (W : World) (hW : WOK W) : Vq (J6 Tryz.prog W) 131 := agA afj (aaO W hW)
theorem aa9 : Has Tryz.prog 132 6 Kd r_slices_isNaN_int := zha Tryz.func132
theorem adx (W : World) (hW : WOK W) : UC (J6 Tryz.prog W) 132 := ab5 aa9
theorem U5 : Has Tryz.prog 110 54 (YH 131 132) r_slices_BinarySearch___int_int := zha Tryz.func110
theorem qt (W : World) (hW : WOK W) : YD (J6 Tryz.prog W) 110 := KO U5 (wa W hW) (adx W hW)
theorem wY : Has Tryz.prog 87 20 (Y0 110 111) r_identity_insert_int := zha Tryz.func87
theorem aaN (W : World) (hW : WOK W) : WU (J6 Tryz.prog W) 87 := v6 wY (qt W hW) (x9 W hW)
theorem aak : Has Tryz.prog 57 86 (Ux 83 84 85 86 87) r_identity_Entities := zha Tryz.func57
theorem acm (W : World) (hW : WOK W) : V9 (J6 Tryz.prog W) 57 := abk aak (afF W hW) (aey W hW) (US W hW) (wK W hW) (aaN W hW)
theorem yZ : Has Tryz.prog 38 8 Wf r_slices_Clone___int_int := zha Tryz.func38
theorem UR (W : World) (hW : WOK W) : YV (J6 Tryz.prog W) 38 := xP yZ
theorem abK : Has Tryz.prog 162 25 K4 r_math_bits_Len64 := zha Tryz.func162
theorem aew (W : World) (hW : WOK W) : Kv (J6 Tryz.prog W) 162 := ac5 abK
theorem adY : Has Tryz.prog 117 8 (yr 161 162) r_math_bits_Len := zha Tryz.func117
theorem aaM (W : World) (hW : WOK W) : WL (J6 Tryz.prog W) 117 := afq adY (aew W hW)
theorem Ut : Has Tryz.prog 172 49 (Ys 131) r_slices_insertionSortOrdered_int := zha Tryz.func172
theorem Km (W : World) (hW : WOK W) : Yh (J6 Tryz.prog W) 172 := UU Ut (wa W hW)
theorem jd : Has Tryz.prog 135 134 (XA 172 173 174 175 176 177 131 178 179 135) r_slices_pdqsortOrdered_int := zha Tryz.func135
theorem yK (W : World) (hW : WOK W) : Xn (J6 Tryz.prog W) 135 := jL jd (Km W hW) (wa W hW)
theorem xN : Has Tryz.prog 112 11 (Ww 117 135) r_slices_Sort___int_int := zha Tryz.func112
theorem vG (W : World) (hW : WOK W) : Wm (J6 Tryz.prog W) 112 := wx xN (aaM W hW) (yK W hW)
theorem jH : Has Tryz.prog 113 61 XK r_slices_Compact___int_int := zha Tryz.func113
theorem xf (W : World) (hW : WOK W) : XE (J6 Tryz.prog W) 113 := yj jH
theorem ad8 : Has Tryz.prog 88 35 (yD 38 112 113) r_asset_indices := zha Tryz.func88
theorem ag3 (W : World) (hW : WOK W) : jw (J6 Tryz.prog W) 88 := afA ad8 (UR W hW) (vG W hW) (xf W hW)
theorem ajt : Has Tryz.prog 90 30 aeo r_asset_of := zha Tryz.func90
theorem am8 (W : World) (hW : WOK W) : acr (J6 Tryz.prog W) 90 := akQ ajt
theorem W9 : Has Tryz.prog 153 53 JK r_slices_insertionSortCmpFunc_api_Fact := zha Tryz.func153
theorem VJ (W : World) (hW : WOK W) : Ju (J6 Tryz.prog W) 153 := Vj W9
theorem UT : Has Tryz.prog 116 148 (YC 153 154 155 156 157 158 159 160 116) r_slices_pdqsortCmpFunc_api_Fact := zha Tryz.func116
theorem KQ (W : World) (hW : WOK W) : Yu (J6 Tryz.prog W) 116 := Kb UT (VJ W hW)
theorem Vf : Has Tryz.prog 91 14 (JT 117 116) r_slices_SortFunc___api_Fact_api_Fact := zha Tryz.func91
theorem V7 (W : World) (hW : WOK W) : JO (J6 Tryz.prog W) 91 := VD Vf (aaM W hW) (KQ W hW)
theorem ad9 : Has Tryz.prog 92 41 (yE 119 120 118) r_asset_compare := zha Tryz.func92
theorem ag4 (W : World) (hW : WOK W) : jx (J6 Tryz.prog W) 92 := afB ad9 (wG W hW) (qu W hW) (ae9 W hW)
theorem agq : Has Tryz.prog 58 150 (vD 88 89 90 91 92) r_asset_Facts := zha Tryz.func58
theorem aiV (W : World) (hW : WOK W) : wh (J6 Tryz.prog W) 58 := ahr agq (ag3 W hW) (vT W hW) (am8 W hW) (V7 W hW) (ag4 W hW)
theorem acX : Has Tryz.prog 29 65 (jk 57 58) r_exposure_facts := zha Tryz.func29
theorem vU (W : World) (hW : WOK W) : VO (J6 Tryz.prog W) 29 := aeg acX (acm W hW) (aiV W hW)
theorem KN : Has Tryz.prog 71 19 YZ r_slices_Index___string_string := zha Tryz.func71
theorem jb (W : World) (hW : WOK W) : YI (J6 Tryz.prog W) 71 := KW KN
theorem Uu : Has Tryz.prog 35 9 (Yt 71) r_slices_Contains___string_string := zha Tryz.func35
theorem Ko (W : World) (hW : WOK W) : Yi (J6 Tryz.prog W) 35 := UV Uu (jb W hW)
theorem abY : Has Tryz.prog 73 30 ql r_exposure_says_1 := zha Tryz.func73
theorem aeJ (W : World) (hW : WOK W) : KI (J6 Tryz.prog W) 73 := adk abY
theorem Vc : Has Tryz.prog 98 19 JN r_slices_IndexFunc___api_Fact_api_Fact := zha Tryz.func98
theorem VM (W : World) (hW : WOK W) : Jy (J6 Tryz.prog W) 98 := Vm Vc
theorem Wr : Has Tryz.prog 72 9 (Ji 98) r_slices_ContainsFunc___api_Fact_api_Fact := zha Tryz.func72
theorem WR (W : World) (hW : WOK W) : Jd (J6 Tryz.prog W) 72 := WH Wr (VM W hW)
theorem ad3 : Has Tryz.prog 36 8 (yy 73 72) r_exposure_says := zha Tryz.func36
theorem ag1 (W : World) (hW : WOK W) : ju (J6 Tryz.prog W) 36 := afv ad3 (aeJ W hW) (WR W hW)
theorem acY : Has Tryz.prog 16 55 (jl 29 35 36) r_exposure_Holds := zha Tryz.func16
theorem vV (W : World) (hW : WOK W) : VP (J6 Tryz.prog W) 16 := aeh acY (vU W hW) (Ko W hW) (ag1 W hW)
theorem vY : Has Tryz.prog 40 7 V4 r_exposure_Explain_1 := zha Tryz.func40
theorem abo (W : World) (hW : WOK W) : Vp (J6 Tryz.prog W) 40 := aaq vY
theorem qU : Has Tryz.prog 75 19 Xm r_slices_IndexFunc___int_int := zha Tryz.func75
theorem jP (W : World) (hW : WOK W) : Xa (J6 Tryz.prog W) 75 := jf qU
theorem KT : Has Tryz.prog 39 42 (Y9 75) r_slices_DeleteFunc___int_int := zha Tryz.func39
theorem jm (W : World) (hW : WOK W) : Y3 (J6 Tryz.prog W) 39 := qV KT (jP W hW)
theorem abZ : Has Tryz.prog 41 23 qm r_exposure_chosen := zha Tryz.func41
theorem aeK (W : World) (hW : WOK W) : KJ (J6 Tryz.prog W) 41 := adl abZ
theorem abf : Has Tryz.prog 18 79 (Kj 16 38 40 39 41) r_exposure_Explain := zha Tryz.func18
theorem xJ (W : World) (hW : WOK W) : Wx (J6 Tryz.prog W) 18 := acb abf (vV W hW) (UR W hW) (abo W hW) (jm W hW) (aeK W hW)
theorem Va : Has Tryz.prog 93 19 JL r_slices_IndexFunc___api_Rule_api_Rule := zha Tryz.func93
theorem VK (W : World) (hW : WOK W) : Jv (J6 Tryz.prog W) 93 := Vk Va
theorem Wp : Has Tryz.prog 59 9 (Jg 93) r_slices_ContainsFunc___api_Rule_api_Rule := zha Tryz.func59
theorem WP (W : World) (hW : WOK W) : Jb (J6 Tryz.prog W) 59 := WF Wp (VK W hW)
theorem ahb : Has Tryz.prog 61 48 aay r_rule_ruled := zha Tryz.func61
theorem aj7 (W : World) (hW : WOK W) : vH (J6 Tryz.prog W) 61 := aiv ahb
theorem afg : Has Tryz.prog 60 6 (xV 61) r_rule_Check_1 := zha Tryz.func60
theorem ahu (W : World) (hW : WOK W) : yP (J6 Tryz.prog W) 60 := agx afg (aj7 W hW)
theorem Vb : Has Tryz.prog 94 19 JM r_slices_IndexFunc___api_Keep_api_Keep := zha Tryz.func94
theorem VL (W : World) (hW : WOK W) : Jw (J6 Tryz.prog W) 94 := Vl Vb
theorem Wq : Has Tryz.prog 62 9 (Jh 94) r_slices_ContainsFunc___api_Keep_api_Keep := zha Tryz.func62
theorem WQ (W : World) (hW : WOK W) : Jc (J6 Tryz.prog W) 62 := WG Wq (VL W hW)
theorem aio : Has Tryz.prog 64 21 acj r_rule_kept := zha Tryz.func64
theorem ak8 (W : World) (hW : WOK W) : aaR (J6 Tryz.prog W) 64 := ajK aio
theorem aff : Has Tryz.prog 63 6 (xU 64) r_rule_Check_2 := zha Tryz.func63
theorem aht (W : World) (hW : WOK W) : yO (J6 Tryz.prog W) 63 := agw aff (ak8 W hW)
theorem ahc : Has Tryz.prog 30 25 (aaz 59 60 62 63) r_rule_Check := zha Tryz.func30
theorem ae7 (W : World) (hW : WOK W) : jQ (J6 Tryz.prog W) 30 := aiw ahc (WP W hW) (ahu W hW) (WQ W hW) (aht W hW)
theorem V3 : Has Tryz.prog 31 36 (J7 65) r_slices_Concat___api_Fact_api_Fact := zha Tryz.func31
theorem UB (W : World) (hW : WOK W) : J2 (J6 Tryz.prog W) 31 := Uf V3 (Kn W hW)
theorem adW : Has Tryz.prog 66 34 (yp 30 95) r_verdict_early := zha Tryz.func66
theorem agV (W : World) (hW : WOK W) : jn (J6 Tryz.prog W) 66 := afo adW (ae7 W hW) (aaP W hW)
theorem abH : Has Tryz.prog 67 25 (K0 68) r_verdict_allowed := zha Tryz.func67
theorem aet (W : World) (hW : WOK W) : Kr (J6 Tryz.prog W) 67 := ac2 abH (wE W hW)
theorem abI : Has Tryz.prog 32 30 (K1 66 67 68) r_verdict_Allowed := zha Tryz.func32
theorem aeu (W : World) (hW : WOK W) : Ks (J6 Tryz.prog W) 32 := ac3 abI (agV W hW) (aet W hW) (wE W hW)
theorem ad4 : Has Tryz.prog 14 81 (yz 29 30 31 32) r_exposure_Weak := zha Tryz.func14
theorem ag2 (W : World) (hW : WOK W) : jv (J6 Tryz.prog W) 14 := afw ad4 (vU W hW) (ae7 W hW) (UB W hW) (aeu W hW)
theorem acU : Has Tryz.prog 21 26 jh r_ref02_SameInts := zha Tryz.func21
theorem afE (W : World) (hW : WOK W) : qw (J6 Tryz.prog W) 21 := aed acU
theorem agp : Has Tryz.prog 7 60 (vC 25 18 14 21) r_law23_awake := zha Tryz.func7
theorem aiU (W : World) (hW : WOK W) : wg (J6 Tryz.prog W) 7 := ahq agp (ae8 W hW) (xJ W hW) (ag2 W hW) (afE W hW)
theorem aiq : Has Tryz.prog 8 6 ack r_make_Roll := zha Tryz.func8
theorem ala (W : World) (hW : WOK W) : aaT (J6 Tryz.prog W) 8 := ajM aiq
theorem ajs : Has Tryz.prog 27 14 aen r_make_Mod := zha Tryz.func27
theorem am7 (W : World) (hW : WOK W) : acq (J6 Tryz.prog W) 27 := akP ajs
theorem abM : Has Tryz.prog 10 35 (K6 27) r_make_Dice__Next := zha Tryz.func10
theorem Wl (W : World) (hW : WOK W) : Yv (J6 Tryz.prog W) 10 := ac7 abM (am7 W hW)
theorem abL : Has Tryz.prog 13 12 (K5 10) r_make_Dice__Word := zha Tryz.func13
theorem aex (W : World) (hW : WOK W) : Kw (J6 Tryz.prog W) 13 := ac6 abL (Wl W hW)
theorem ad0 : Has Tryz.prog 11 12 (yv 10) r_make_Dice__Of := zha Tryz.func11
theorem agY (W : World) (hW : WOK W) : jq (J6 Tryz.prog W) 11 := afs ad0 (Wl W hW)
theorem afi : Has Tryz.prog 26 76 (xX 10 13 11) r_make_Finding := zha Tryz.func26
theorem ahw (W : World) (hW : WOK W) : yR (J6 Tryz.prog W) 26 := agz afi (Wl W hW) (aex W hW) (agY W hW)
theorem adZ : Has Tryz.prog 9 28 (yu 10 26 25) r_make_Findings := zha Tryz.func9
theorem agX (W : World) (hW : WOK W) : jp (J6 Tryz.prog W) 9 := afr adZ (Wl W hW) (ahw W hW) (ae8 W hW)
theorem xb : Has Tryz.prog 4 194 (Wg 6 7 8 9 10 16 18) r_law23_ExposureExplains := zha Tryz.func4
theorem wI (W : World) (hW : WOK W) : Uj (J6 Tryz.prog W) 4 := xQ xb (akc W hW) (aiU W hW) (ala W hW) (agX W hW) (Wl W hW) (vV W hW) (xJ W hW)
end Go.Proofs.YtlpaikjhphkioaaGreat
end

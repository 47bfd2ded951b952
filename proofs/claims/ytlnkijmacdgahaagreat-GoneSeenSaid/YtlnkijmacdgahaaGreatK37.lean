/- The library's contracts at this seat. -/
import Derived.Test.YtlnkijmacdgahaaGreatK32
import Derived.Test.YtlnkijmacdgahaaGreatK13
import Derived.Test.YtlnkijmacdgahaaGreatK33
import Derived.Test.YtlnkijmacdgahaaGreatK35
import Derived.Test.YtlnkijmacdgahaaGreatK36
import Derived.Laws.AppendOwn
import Derived.Sort.Walk0
import Derived.Shelf.Slices.In.SortNone
import Derived.KernelRfl
set_option linter.unusedVariables false
set_option linter.unusedSimpArgs false
section
namespace Go.Proofs.YtlnkijmacdgahaaGreat
open Go Av Go.RowKit
set_option maxRecDepth 100000
set_option linter.unusedVariables false
structure WOK (W : World) : Prop where
  ok : True
theorem ad7 {P : Program} {g : Nat} (h : Av.Own P g) : ∀ args w, (callFunc g args).run P w = .ok (.enter g args) w := fun args w => by
  obtain ⟨fn, h1, h2, c, h3⟩ := h
  simp [callFunc, h1, h2, h3]
theorem ap0 : Av.Own Tryz.prog 100 := ⟨Tryz.f100, Tryz.func100, by decide, _, rfl⟩
theorem apZ : Av.Own Tryz.prog 89 := ⟨Tryz.f89, Tryz.func89, by decide, _, rfl⟩
theorem apY : Av.Own Tryz.prog 91 := ⟨Tryz.f91, Tryz.func91, by decide, _, rfl⟩
theorem al0 : ∀ a b : List UInt8, Lib.compareBytes a b = jY a b
  | [], [] => by simp [Lib.compareBytes, jY, Op.bytesLess]
  | [], _ :: _ => by simp [Lib.compareBytes, jY, Op.bytesLess]
  | _ :: _, [] => by simp [Lib.compareBytes, jY, Op.bytesLess]
  | a :: x, b :: y => by
    have ih := al0 x y
    rw [jY] at ih ⊢
    rw [Lib.compareBytes, ih]
    simp only [Op.bytesLess]
    by_cases h1 : a < b
    · simp [h1]
    · by_cases h2 : b < a
      · have h3 : a ≠ b := fun e => by subst e; exact h1 h2
        simp [h1, h2, h3]
      · have h3 : a = b := UInt8.le_antisymm (UInt8.not_lt.1 h2) (UInt8.not_lt.1 h1)
        subst h3
        simp [h1]
theorem qH (W : World) (hW : WOK W) : Vd (aiW Tryz.prog W) 100 := by
  intro G hG a b
  refine ⟨aqi (cv := [.string ⟨a.toArray⟩, .string ⟨b.toArray⟩]) (res := .int .i64 (jY a b)) (fun _ _ _ => .sc rfl) ?_, trivial, trivial⟩
  intro w hk
  rw [hG]
  refine (WT ap0 _ _ _).2 ((Any.strings_Compare Tryz.lays106 ⟨a.toArray⟩ ⟨b.toArray⟩ w).mono fun e w' ⟨he, hw⟩ => ?_)
  subst he; subst hw
  exact ⟨by simp [al0], Nat.le_refl _, fun _ _ => rfl, YV.refl _⟩
theorem aq1 : Av.Own Tryz.prog 94 := ⟨Tryz.f94, Tryz.func94, by decide, _, rfl⟩
theorem aq2 : Av.Own Tryz.prog 65 := ⟨Tryz.f65, Tryz.func65, by decide, _, rfl⟩
theorem ahs (xs : List Int) : (xs.mergeSort fun x y => decide (x ≤ y)) = U1 (fun x y : Int => decide (x < y)) xs := by
  have h1 := wO (lt := fun x y : Int => decide (x < y)) (fun x y z h h' => by simp at *; omega) (fun x y h => by simp at *; omega) xs
  refine List.Perm.eq_of_pairwise (le := fun x y : Int => x ≤ y) (fun a b _ _ h1 h2 => by omega) ?_ (h1.imp fun {a b} h => by simpa using h) ((List.mergeSort_perm _ _).trans XE.symm)
  have := List.pairwise_mergeSort (le := fun x y : Int => decide (x ≤ y)) (fun a b c h1 h2 => by simp at *; omega) (fun a b => by simp; omega) xs
  exact this.imp fun {a b} h => by simpa using h
theorem ju (W : World) (hW : WOK W) : WW (aiW Tryz.prog W) 94 := fun xs hx =>
  alJ (Γ := aiW Tryz.prog W) aq1 (fun blk off cap zs w hH hb hs => Any.slices_Sort_int Tryz.lays189 blk off cap zs w hH hb hs) (fun a cap w => Any.slices_Sort_int_none Tryz.lays189 a cap w) hx (ahs xs)
instance : Inhabited Jb := ⟨⟨0, [], 0, 0, 0, 0, [], 0⟩⟩
def aqM (x : Jb) : List Value := [.int .i64 x.ent, .string ⟨x.subj.toArray⟩, .int .i64 x.kind, .int .i64 x.alg, .int .i64 x.bits, .int .i64 x.num, .string ⟨x.text.toArray⟩, .int .i64 x.find]
theorem akv {α : Type} {c : α → α → Int} (h : Cm c) : Go.Sort.SWO (ltOf c) := by
  refine ⟨fun x => ?_, fun x y z h1 h2 => ?_, fun x y z h1 h2 => ?_⟩
  · have := h.neg x x
    simp only [ltOf, decide_eq_false_iff_not]; omega
  · simp only [ltOf, decide_eq_true_eq] at *
    have a1 := h.tr x y z (by omega) (by omega)
    by_cases h3 : c x z = 0
    · have := h.ze x y z (by omega) (by omega) h3; omega
    · omega
  · simp only [ltOf, decide_eq_false_iff_not, Int.not_lt] at *
    have a1 := h.neg x y
    have a2 := h.neg y z
    have a3 := h.neg x z
    have := h.tr z y x (by omega) (by omega)
    omega
theorem adM {α : Type} [Inhabited α] {c : α → α → Int} (h : Cm c) {xs : List α} (hd : ∀ a ∈ xs, ∀ b ∈ xs, c a b = 0 → a = b) {d' : Array α} (hp : Go.Sort.PermIn 0 xs.length xs.toArray d') (hs : Go.Sort.SortedIn (ltOf c) 0 xs.length d') :
    d'.toList = U1 (fun x y => decide (c x y < 0)) xs := by
  obtain ⟨hsz, _, hperm⟩ := hp
  have hsz : d'.size = xs.length := by simpa using hsz
  rw [← hsz, Array.extract_size, show xs.toArray.extract 0 d'.size = xs.toArray by rw [hsz]; exact (by simp)] at hperm
  have hO := akv h
  have h1 := wO (lt := fun x y => decide (c x y < 0)) (fun x y z h h' => hO.ntrans z y x h' h) (fun x y h' => by
    simp only [decide_eq_true_eq, decide_eq_false_iff_not] at *; have := h.neg x y; omega) xs
  refine List.Perm.eq_of_pairwise (le := fun x y => decide (c y x < 0) = false) (fun a b ha hb h1 h2 => ?_) ?_ h1 (hperm.trans XE.symm)
  · simp only [decide_eq_false_iff_not, Int.not_lt] at h1 h2
    have a1 := h.neg a b
    exact hd a (hperm.mem_iff.1 ha) b (XE.mem_iff.1 hb) (by omega)
  · rw [List.pairwise_iff_getElem]
    intro i j hi hj hij
    have hi' : i < d'.size := by simpa using hi
    have hj' : j < d'.size := by simpa using hj
    have := hs i j (Nat.zero_le _) hij (by omega)
    rw [getElem!_pos d' j hj', getElem!_pos d' i hi'] at this
    simpa [ltOf] using this
theorem Wc (W : World) (hW : WOK W) : JV (aiW Tryz.prog W) 65 := fun xs g c hg hcmp hc hd hx =>
  agp (Γ := aiW Tryz.prog W) (enc := aqM) (k := 8) (cf := c) aq2 hg (fun x v hv => by simp only [aqM, List.mem_cons, List.not_mem_nil, or_false] at hv; rcases hv with rfl | rfl | rfl | rfl | rfl | rfl | rfl | rfl <;> rfl) (fun _ => rfl) (by decide) hcmp
    (fun blk off cap d w hC hH hb hs => AnyQ.slices_SortFunc Tryz.laysF 8 Tryz.isAgg98 Tryz.sizeOf98 aqM (fun _ => rfl) (fun x v hv => by simp only [aqM, List.mem_cons, List.not_mem_nil, or_false] at hv; rcases hv with rfl | rfl | rfl | rfl | rfl | rfl | rfl | rfl <;> rfl) c (akv hc) g #[] blk off cap d w (ad7 hg) hC hH hb hs)
    (fun a cap w => (AnyF.slices_SortFunc_none Tryz.laysF a cap _ w).mono fun e w' ⟨h1, h2⟩ => ⟨h1, 0, #[], by rw [h2]; simp [Go.Sort.grow, Go.Sort.ahead]⟩)
    hx (fun d' hp hs => adM hc hd hp hs) (yf _ _)
theorem aq3 : Av.Own Tryz.prog 41 := ⟨Tryz.f41, Tryz.func41, by decide, _, rfl⟩
instance : Inhabited (Int × Bool) := ⟨(0, false)⟩
def aqN (x : Int × Bool) : List Value := [.int .i64 x.1, .bool x.2]
theorem YM (W : World) (hW : WOK W) : Jl (aiW Tryz.prog W) 41 := fun xs g c hg hcmp hc hd hx =>
  agp (Γ := aiW Tryz.prog W) (enc := aqN) (k := 2) (cf := c) aq3 hg (fun x v hv => by simp only [aqN, List.mem_cons, List.not_mem_nil, or_false] at hv; rcases hv with rfl | rfl <;> rfl) (fun _ => rfl) (by decide) hcmp
    (fun blk off cap d w hC hH hb hs => AnyQ.slices_SortFunc Tryz.laysE 2 Tryz.isAgg41 Tryz.sizeOf41 aqN (fun _ => rfl) (fun x v hv => by simp only [aqN, List.mem_cons, List.not_mem_nil, or_false] at hv; rcases hv with rfl | rfl <;> rfl) c (akv hc) g #[] blk off cap d w (ad7 hg) hC hH hb hs)
    (fun a cap w => (AnyF.slices_SortFunc_none Tryz.laysE a cap _ w).mono fun e w' ⟨h1, h2⟩ => ⟨h1, 0, #[], by rw [h2]; simp [Go.Sort.grow, Go.Sort.ahead]⟩)
    hx (fun d' hp hs => adM hc hd hp hs) (yf _ _)
theorem ai4 {w : World} {n c : Nat} {t : TypeId} (h : n < 2 ^ 63) : n ≤ grownCap w n c t ∧ grownCap w n c t < 2 ^ 63 := by
  refine ⟨grownCap_ge _ _ _ _, ?_⟩
  have := grownCap_le_maxLen w n c t (by unfold maxLen; omega)
  unfold maxLen at this
  omega
theorem aaY {u : Value} {w : World} {vb voff : Nat} (h : w.cell? ⟨vb, voff, none⟩ = some u) : ∀ (j : Nat) (v : Value), [u][j]? = some v → w.cell? ⟨vb, voff + j, none⟩ = some v := fun j v hj => by
  obtain ⟨h1, rfl⟩ := List.getElem?_eq_some_iff.1 hj
  have : j = 0 := by simpa using h1
  subst this
  simpa using h
theorem aq7 : aqQ Tryz.prog 89 9 (.string ⟨#[]⟩) := {
  shift := fun b off n c i vb voff vc cs u w tA tB kA kB h1 h2 h3 h4 h5 h6 h7 h8 h9 h10 h11 h12 h13 h14 h15 h16 =>
    Any2.slices_Insert_string_shift Tryz.lays2I22 b off n c i vb voff 1 vc cs [u] w h1 Nat.one_pos h2 h3 h4 h5 rfl h6 h7 h8 (aaY h9) h10 (by simpa using h11) tA tB kA kB h12 h13 h14 h15 h16
  endRoom := fun b off n c vb voff vc u w h1 h2 h3 h4 h5 h6 =>
    Any2.slices_Insert_string_end_room Tryz.lays2I22 b off n c vb voff 1 vc [u] w Nat.one_pos h1 h2 rfl (fun j hj => by have hj0 : j = 0 := (by omega); subst hj0; exact h3) (fun j hj => by have hj0 : j = 0 := (by omega); subst hj0; exact h4) (aaY h5) (by simpa using h6)
  endGrow := fun base n c vb voff vc cs u w h1 h2 h3 h4 h5 h6 h7 h8 =>
    (Any2.slices_Insert_string_end_grow Tryz.lays2I22 base n c vb voff 1 vc cs [u] w Nat.one_pos h1 h2 (by omega) h4 rfl h5 h6 (aaY h7) (by simpa using h8)).mono fun e w' ⟨he, hw⟩ => ⟨_, ai4 (by omega), he, hw⟩
  grow := fun b off n c i vb voff vc cs u w h1 h2 h3 h4 h5 h6 h7 h8 h9 =>
    (Any2.slices_Insert_string_grow Tryz.lays2I22 b off n c i vb voff 1 vc cs [u] w h1 Nat.one_pos h2 h3 (by omega) h5 rfl h6 (aaY h7) h8 (by simpa using h9)).mono fun e w' ⟨he, hw⟩ => ⟨_, _, ai4 (by omega), by
      have := grownCap_ge w (n + 1) c (Tryz.lays2I22_ren.t 9)
      rw [Array.size_append, Array.size_append, J3, J3]; simp [Value.cells]; omega, fun j v hj hv => by
        rw [Array.append_assoc, Array.getElem?_append_left (by simp; omega)]
        simp [hv, hj], he, hw⟩ }
theorem arE : aqQ Tryz.prog 91 3 (.int .i64 0) := {
  shift := fun b off n c i vb voff vc cs u w tA tB kA kB h1 h2 h3 h4 h5 h6 h7 h8 h9 h10 h11 h12 h13 h14 h15 h16 =>
    Any2.slices_Insert_int_shift Tryz.lays2I21 b off n c i vb voff 1 vc cs [u] w h1 Nat.one_pos h2 h3 h4 h5 rfl h6 h7 h8 (aaY h9) h10 (by simpa using h11) tA tB kA kB h12 h13 h14 h15 h16
  endRoom := fun b off n c vb voff vc u w h1 h2 h3 h4 h5 h6 =>
    Any2.slices_Insert_int_end_room Tryz.lays2I21 b off n c vb voff 1 vc [u] w Nat.one_pos h1 h2 rfl (fun j hj => by have hj0 : j = 0 := (by omega); subst hj0; exact h3) (fun j hj => by have hj0 : j = 0 := (by omega); subst hj0; exact h4) (aaY h5) (by simpa using h6)
  endGrow := fun base n c vb voff vc cs u w h1 h2 h3 h4 h5 h6 h7 h8 =>
    (Any2.slices_Insert_int_end_grow Tryz.lays2I21 base n c vb voff 1 vc cs [u] w Nat.one_pos h1 h2 (by omega) h4 rfl h5 h6 (aaY h7) (by simpa using h8)).mono fun e w' ⟨he, hw⟩ => ⟨_, ai4 (by omega), he, hw⟩
  grow := fun b off n c i vb voff vc cs u w h1 h2 h3 h4 h5 h6 h7 h8 h9 =>
    (Any2.slices_Insert_int_grow Tryz.lays2I21 b off n c i vb voff 1 vc cs [u] w h1 Nat.one_pos h2 h3 (by omega) h5 rfl h6 (aaY h7) h8 (by simpa using h9)).mono fun e w' ⟨he, hw⟩ => ⟨_, _, ai4 (by omega), by
      have := grownCap_ge w (n + 1) c (Tryz.lays2I21_ren.t 3)
      rw [Array.size_append, Array.size_append, J3, J3]; simp [Value.cells]; omega, fun j v hj hv => by
        rw [Array.append_assoc, Array.getElem?_append_left (by simp; omega)]
        simp [hv, hj], he, hw⟩ }
theorem VH (W : World) (hW : WOK W) : Yy (aiW Tryz.prog W) 89 := by
  refine ⟨fun xs i x hi hp hl => ?_, fun x => ?_⟩
  · have := aiV (Γ := aiW Tryz.prog W) aq7 apZ (i := i) (ls := xs.map fun s => Value.string ⟨s.toArray⟩) (u := .string ⟨x.toArray⟩) (by simpa using hi) (by simpa using hp) (by simp; omega) (by simp only [List.mem_map]; rintro v ⟨s, _, rfl⟩; rfl) rfl
    simpa [List.map_take, List.map_drop, Function.comp_def, V.str] using this
  · exact aiU (Γ := aiW Tryz.prog W) aq7 apZ rfl trivial
theorem qi (W : World) (hW : WOK W) : Wa (aiW Tryz.prog W) 91 := by
  refine ⟨fun xs i x hi hp hl => ?_, fun x => ?_⟩
  · have := aiV (Γ := aiW Tryz.prog W) arE apY (i := i) (ls := xs.map fun s => Value.int .i64 s) (u := .int .i64 x) (by simpa using hi) (by simpa using hp) (by simp; omega) (by simp only [List.mem_map]; rintro v ⟨s, _, rfl⟩; rfl) rfl
    simpa [List.map_take, List.map_drop, Function.comp_def, V.int] using this
  · exact aiU (Γ := aiW Tryz.prog W) arE apY rfl trivial
end Go.Proofs.YtlnkijmacdgahaaGreat
end
section
namespace Go.Proofs.YtlnkijmacdgahaaGreat
open Go Av Go.RowKit
set_option maxRecDepth 100000
set_option linter.unusedVariables false
theorem zha {P : Program} {f nt : Nat} {c : AC} {rs : List Vz} {fn} (h1 : P.funcs[f]? = some fn) (h : P.funcs[f]? = some fn → Has P f nt c rs := by exact fun h => ⟨_, _, h, by decide, rfl, rfl, by kernel_rfl, by kernel_rfl⟩) : Has P f nt c rs := h h1
class WK (W : World) : Prop where
  ok : WOK W
set_option linter.unusedSectionVars false
noncomputable abbrev jw (W : World) := aiW Tryz.prog W
variable {W : World} [wk : WK W]
theorem yE : Vf (jw W) 6 := aeT (zhd KP Tryz.func6)
theorem agR : xf (jw W) 15 := ajU (zhd vH Tryz.func15)
theorem Ke : Y4 (jw W) 59 := abA (zhd Va Tryz.func59)
theorem adG : Ko (jw W) 176 := acK (zhd V0 Tryz.func176)
theorem abi : UR (jw W) 130 := ae1 (zhd KV Tryz.func130) adG
theorem aaT : Vw (jw W) 131 := vC (zhd X7 Tryz.func131)
theorem WU : JJ (jw W) 132 := K6 (zhd JP Tryz.func132)
theorem Xy : Jt (jw W) 104 := Uv (zhd Jy Tryz.func104) WU
theorem vT : WQ (jw W) 92 := xY (zhd Xm Tryz.func92) abi aaT Xy WU
theorem yI : Wz (jw W) 58 := aby (zhd W8 Tryz.func58) vT
theorem adH : Kp (jw W) 185 := acL (zhd V1 Tryz.func185) abi
theorem aaE : Vh (jw W) 134 := wW (zhd XQ Tryz.func134) yI adH Ke
theorem ac0 : Uk (jw W) 96 := abw (zhd W6 Tryz.func96) Ke aaE
theorem yH : Wy (jw W) 76 := abx (zhd W7 Tryz.func76)
theorem X8 : JX (jw W) 43 := vw (zhd X4 Tryz.func43) yH
theorem wh : YJ (jw W) 136 := xu (zhd YU Tryz.func136) X8
theorem aaN : Vq (jw W) 135 := vm (zhd XZ Tryz.func135) wh
theorem wg : YI (jw W) 138 := xq (zhd YT Tryz.func138) (qH W wk.ok)
theorem aaM : Vp (jw W) 137 := vj (zhd XY Tryz.func137) wg
theorem aaL : Vo (jw W) 139 := vh (zhd XX Tryz.func139)
theorem aaK : Vn (jw W) 140 := vg (zhd XW Tryz.func140)
theorem aaJ : Vm (jw W) 141 := ve (zhd XV Tryz.func141)
theorem aaI : Vl (jw W) 142 := w9 (zhd XU Tryz.func142)
theorem aaH : Vk (jw W) 143 := wZ (zhd XT Tryz.func143)
theorem aaG : Vj (jw W) 144 := wY (zhd XS Tryz.func144)
theorem aaF : Vi (jw W) 145 := wX (zhd XR Tryz.func145)
theorem vQ : WN (jw W) 146 := xV (zhd Xj Tryz.func146)
theorem vP : WM (jw W) 147 := xU (zhd Xi Tryz.func147)
theorem vO : WL (jw W) 148 := xT (zhd Xh Tryz.func148)
theorem vN : WJ (jw W) 149 := xS (zhd Xg Tryz.func149)
theorem acZ : Uj (jw W) 97 := abv (zhd W5 Tryz.func97) aaN aaM aaL aaK aaJ aaI aaH aaG aaF vQ vP vO vN
theorem jP : X9 (jw W) 63 := aat (zhd Ww Tryz.func63) ac0 acZ
theorem abI : VM (jw W) 51 := aas (zhd Wv Tryz.func51) jP
theorem WV : JK (jw W) 53 := K8 (zhd JR Tryz.func53)
theorem qK : Yu (jw W) 85 := K9 (zhd JT Tryz.func85) WV
theorem Kb : YF (jw W) 87 := xm (zhd YQ Tryz.func87)
theorem abh : UQ (jw W) 99 := ae0 (zhd KU Tryz.func99)
theorem vM : WI (jw W) 86 := xQ (zhd Xe Tryz.func86) Kb X8 abh
theorem aaD : Vg (jw W) 52 := wV (zhd XP Tryz.func52) qK vM Kb
theorem vS : WP (jw W) 173 := xX (zhd Xl Tryz.func173)
theorem aaQ : Vt (jw W) 122 := vr (zhd X3 Tryz.func122) vS
theorem yD : Y9 (jw W) 123 := jS (zhd Yn Tryz.func123)
theorem We : Jg (jw W) 88 := XG (zhd QU Tryz.func88) aaQ yD
theorem qL : Yv (jw W) 54 := qc (zhd Q8 Tryz.func54) We (VH W wk.ok)
theorem adF : Kn (jw W) 126 := acJ (zhd VZ Tryz.func126) yH
theorem vL : WH (jw W) 127 := xP (zhd Xd Tryz.func127)
theorem VJ : JF (jw W) 90 := Vy (zhd Je Tryz.func90) adF vL
theorem yF : Xa (jw W) 55 := jT (zhd Jo Tryz.func55) VJ (qi W wk.ok)
theorem Kc : YG (jw W) 28 := xn (zhd YR Tryz.func28) abI aaD WV qL yF
theorem UK : J0 (jw W) 56 := Ue (zhd Jr Tryz.func56)
theorem VI : JE (jw W) 29 := Vx (zhd Jd Tryz.func29) UK
theorem jX : YY (jw W) 30 := jf (zhd Ye Tryz.func30)
theorem Yp : QJ (jw W) 57 := Yh (zhd Qt Tryz.func57)
theorem Q9 : Qq (jw W) 31 := J5 (zhd Qr Tryz.func31) Yp
theorem aaS : Vv (jw W) 60 := vB (zhd X6 Tryz.func60)
theorem qN : Xq (jw W) 33 := vo (zhd X1 Tryz.func33) yI Ke aaS
theorem jW : YX (jw W) 32 := je (zhd Yd Tryz.func32) qN
theorem Wf : JM (jw W) 22 := yj (zhd YC Tryz.func22) Kc VI jX Q9 jW
theorem qI : Yt (jw W) 93 := K7 (zhd JQ Tryz.func93)
theorem Kw : Yb (jw W) 95 := U2 (zhd JG Tryz.func95)
theorem ac2 : Un (jw W) 62 := abB (zhd Vb Tryz.func62) qI (ju W wk.ok) Kw
theorem aki : wm (jw W) 64 := ahO (zhd xe Tryz.func64)
theorem ac3 : Uo (jw W) 66 := abC (zhd Vc Tryz.func66) (qH W wk.ok) X8 abh
theorem afj : qy (jw W) 36 := ads (zhd UI Tryz.func36) ac2 jP aki (Wc W wk.ok) ac3
theorem afh : qu (jw W) 159 := adq (zhd UG Tryz.func159)
theorem abJ : VN (jw W) 101 := aau (zhd Wx Tryz.func101) afh
theorem ac1 : Um (jw W) 67 := abz (zhd W9 Tryz.func67) abJ
theorem aid : yO (jw W) 37 := agm (zhd jo Tryz.func37) ac1
theorem vR : WO (jw W) 70 := xW (zhd Xk Tryz.func70)
theorem UL : J1 (jw W) 69 := Uf (zhd Js Tryz.func69) vR
theorem amn : aaV (jw W) 162 := ajW (zhd vJ Tryz.func162)
theorem akh : wj (jw W) 163 := ahN (zhd xd Tryz.func163)
theorem afi : qv (jw W) 206 := adr (zhd UH Tryz.func206)
theorem adc : Has Tryz.prog 193 26 (yA 206 193) r_der_copied := zha Tryz.func193
theorem agU : jI (jw W) 193 := aeY adc afi
theorem anV : ac5 (jw W) 161 := alH (zhd abW Tryz.func161) agU
theorem amm : aaU (jw W) 201 := ajV (zhd vI Tryz.func201)
theorem Xu : Q5 (jw W) 208 := Y6 (zhd QI Tryz.func208)
theorem YW : QY (jw W) 202 := YN (zhd QC Tryz.func202) Xu
theorem abp : Has Tryz.prog 203 6 (Wl 190) r_der_formed_1 := zha Tryz.func203
theorem adD : Kl (jw W) 203 := acH abp
theorem agT : jH (jw W) 190 := aeX (zha Tryz.func190) amm YW adD (zha Tryz.func203)
theorem aeC : Has Tryz.prog 191 20 (wd 191) r_der_depth := zha Tryz.func191
theorem aie : yP (jw W) 191 := ago aeC
theorem abq : Has Tryz.prog 204 23 (Wm 192) r_der_contents := zha Tryz.func204
theorem adE : Km (jw W) 204 := acI abq
theorem agS : jG (jw W) 205 := aeW (zhd KS Tryz.func205)
theorem afg : qr (jw W) 192 := adp (zha Tryz.func192) adE agS (zha Tryz.func204)
theorem agV : jJ (jw W) 160 := aeZ (zhd KT Tryz.func160) agT aie afg
theorem aaP : Vs (jw W) 102 := vq (zhd X2 Tryz.func102) qN amn akh anV agV
theorem aaR : Vu (jw W) 103 := vA (zhd X5 Tryz.func103)
theorem aaO : Vr (jw W) 71 := vn (zhd X0 Tryz.func71) aaP aaR Xy
theorem WY : Jm (jw W) 105 := WD (zhd Q3 Tryz.func105)
theorem Wd : Jf (jw W) 72 := XF (zhd QT Tryz.func72) WY
theorem Kx : Yc (jw W) 68 := U3 (zhd JH Tryz.func68) UL aaO Wd
theorem qM : Yw (jw W) 39 := qe (zhd JU Tryz.func39) Kx Q9
theorem xx : XB (jw W) 38 := yo (zhd YE Tryz.func38) qM
theorem Wo : Ji (jw W) 73 := Wb (zhd QV Tryz.func73)
theorem Xz : Q7 (jw W) 40 := Xt (zhd QL Tryz.func40) Wo
theorem xw : XA (jw W) 42 := ym (zhd YD Tryz.func42) X8
theorem KX : YZ (jw W) 24 := xR (zhd Xf Tryz.func24) Kc afj aid xx Xz (YM W wk.ok) xw
theorem Yz : QR (jw W) 61 := Ys (zhd Qw Tryz.func61)
theorem Yi : QG (jw W) 34 := Yf (zhd Qs Tryz.func34) Yz
theorem yG : Xb (jw W) 35 := jU (zhd Yo Tryz.func35)
theorem Kd : YH (jw W) 23 := xp (zhd YS Tryz.func23) KX Yi yG
theorem jy : WX (jw W) 11 := agn (zhd jp Tryz.func11) Wf Kd
theorem jx : Wq (jw W) 7 := ado (zhd UF Tryz.func7) agR jy
theorem we : Ua (jw W) 8 := agl (zhd jn Tryz.func8)
theorem akg : wi (jw W) 21 := ahL (zhd xb Tryz.func21)
theorem Jp : QW (jw W) 10 := wT (zhd XN Tryz.func10) akg
theorem qJ : Xp (jw W) 19 := wS (zhd XM Tryz.func19) Jp
theorem Ka : Y3 (jw W) 13 := abu (zhd W4 Tryz.func13) Jp
theorem adC : Kk (jw W) 18 := acG (zhd VY Tryz.func18) Jp qJ Ka
theorem abF : VL (jw W) 20 := aap (zhd Ws Tryz.func20) Jp
theorem acX : Ui (jw W) 169 := abt (zhd W3 Tryz.func169)
theorem afe : qp (jw W) 170 := adl (zhd UD Tryz.func170)
theorem adx : Kf (jw W) 171 := acB (zhd VV Tryz.func171)
theorem abE : VK (jw W) 116 := aao (zhd Wr Tryz.func116) acX afe adx
theorem jv : Wp (jw W) 77 := adm (zhd UE Tryz.func77) abE
theorem abe : UN (jw W) 78 := aeO (zhd KJ Tryz.func78)
theorem ae9 : qj (jw W) 44 := adg (zhd Uy Tryz.func44) jv abe
theorem aic : yN (jw W) 45 := agj (zhd jl Tryz.func45)
theorem agP : jD (jw W) 46 := aeR (zhd KN Tryz.func46)
theorem abo : Has Tryz.prog 82 30 (qh 82) r_ref01_copies := zha Tryz.func82
theorem adA : Ki (jw W) 82 := acE abo
theorem agQ : jE (jw W) 48 := aeS (zhd KO Tryz.func48) adA
theorem aia : yL (jw W) 117 := agh (zhd jj Tryz.func117)
theorem abn : Has Tryz.prog 79 53 (qg 117 79) r_ref01_formed := zha Tryz.func79
theorem adz : Kh (jw W) 79 := acD abn aia
theorem acr : Has Tryz.prog 80 22 (jk 80) r_ref01_depth := zha Tryz.func80
theorem aff : qq (jw W) 80 := adn acr
theorem ady : Kg (jw W) 118 := acC (zhd VW Tryz.func118)
theorem aeB : Has Tryz.prog 81 34 (wc 81 118) r_ref01_put := zha Tryz.func81
theorem aib : yM (jw W) 81 := agi aeB ady
theorem adB : Kj (jw W) 47 := acF (zhd VX Tryz.func47) adz aff aib
theorem afa : qk (jw W) 25 := adh (zhd Uz Tryz.func25) ae9 aic agP agQ adB
theorem ah9 : yK (jw W) 26 := agf (zhd ji Tryz.func26)
theorem abd : UM (jw W) 16 := aeL (zhd KG Tryz.func16) afa ah9
theorem agN : jB (jw W) 172 := aeP (zhd KL Tryz.func172)
theorem agO : jC (jw W) 119 := aeQ (zhd KM Tryz.func119) agN
theorem aaB : Ve (jw W) 83 := wR (zhd XL Tryz.func83) jv agO
theorem afd : qn (jw W) 49 := adk (zhd UC Tryz.func49) abe jv aaB
theorem afb : ql (jw W) 120 := adi (zhd UA Tryz.func120)
theorem agL : jz (jw W) 121 := aeM (zhd KH Tryz.func121)
theorem afc : qm (jw W) 84 := adj (zhd UB Tryz.func84) afb agL
theorem ah8 : yJ (jw W) 50 := agd (zhd U7 Tryz.func50) afc
theorem agM : jA (jw W) 27 := aeN (zhd KI Tryz.func27) afd ah8
theorem acY : KY (jw W) 17 := agk (zhd jm Tryz.func17) agM
theorem abf : UO (jw W) 9 := aeU (zhd KQ Tryz.func9) Jp adC Ka qJ abF abd acY
theorem abg : UP (jw W) 14 := aeV (zhd KR Tryz.func14) Wf Kd
theorem aaC : KZ (jw W) 4 := wU (zhd XO Tryz.func4) yE jx we abf Ka Jp abg jy
theorem aej : jF (jw W) 12 := ahM (zhd xc Tryz.func12) Wf KX
theorem abH : qP (jw W) 3 := aar (zhd Wu Tryz.func3) yE jx we abf Jp jy aej
theorem abG : qO (jw W) 5 := aaq (zhd Wt Tryz.func5) yE jx we Jp agR abd acY jy aej abg
end Go.Proofs.YtlnkijmacdgahaaGreat
end

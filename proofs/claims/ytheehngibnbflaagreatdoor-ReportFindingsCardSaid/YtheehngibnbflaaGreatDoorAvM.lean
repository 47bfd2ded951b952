/- Functions that are lent one variable: their contracts, calls by them, their ends. -/
import Derived.Test.YtheehngibnbflaaGreatDoorAv3
set_option linter.unusedVariables false
set_option linter.unusedSimpArgs false
section
namespace Av
open Go
structure EvD (Γ : Env) (f : FuncId) (args : List V) (cs : List V) (res : V) (cs2 : List V) : Prop where
  ev : Ev Γ f (.ptr 0 0 :: args) [.box true cs] res [.box true cs2]
  cl : res.closed
  c1 : Qc cs
  c2 : Qc cs2
def Yt : List V → List Nat
  | [] => []
  | .hd a _ _ :: r => a :: Yt r
  | .ptr a _ :: r => a :: Yt r
  | _ :: r => Yt r
mutual
theorem xB (o : Nat → Option Ob) (br l : List Nat) (hb : ∀ x ∈ l, x ∉ br) : ∀ v : V, v.shutOk0 o (some l) → conv o br (some l) v (v.shut0 o)
  | .top, _ => by simp [V.shut0, conv]
  | .sc _, _ => by simp [V.shut0, conv]
  | .nn, _ => by simp [V.shut0, conv]
  | .sl _ _, _ => by simp [V.shut0, conv]
  | .ro _ _, _ => by simp [V.shut0, conv]
  | .ept _ _ _, _ => by simp [V.shut0, conv]
  | .hd a off len, h => by
    obtain ⟨h1, wr, s, xs, h2⟩ := h
    simp only [V.shut0, h2, conv]
    exact ⟨h1, hb a h1, .inl ⟨wr, xs, rfl, rfl⟩⟩
  | .ptr a off, h => by
    obtain ⟨h1, wr, cs, h2, h3⟩ := h
    simp only [V.shut0, h2, conv]
    exact ⟨h1, hb a h1, trivial, h3, wr, cs, rfl, Jd _ _ _ _ h3⟩
  | .agg cs, h => by simp only [V.shut0, conv]; exact Wa o br l hb cs h
  | .tup cs, h => by simp only [V.shut0, conv]; exact Wa o br l hb cs h
  | .clo f cs, h => by simp only [V.shut0, conv]; exact ⟨trivial, Wa o br l hb cs h⟩
theorem Wa (o : Nat → Option Ob) (br l : List Nat) (hb : ∀ x ∈ l, x ∉ br) : ∀ cs : List V, WQ o (some l) cs → Jc o br (some l) cs (VG o cs)
  | [], _ => trivial
  | v :: r, h => ⟨xB o br l hb v h.1, Wa o br l hb r h.2⟩
end
mutual
theorem wV (o : Nat → Option Ob) (br l : List Nat) (hb : ∀ x ∈ l, x ∉ br) : ∀ v : V, v.shutOk o (some l) → conv o br (some l) v (v.shut o)
  | .top, _ => by simp [V.shut, conv]
  | .sc _, _ => by simp [V.shut, conv]
  | .nn, _ => by simp [V.shut, conv]
  | .sl _ _, _ => by simp [V.shut, conv]
  | .ro _ _, _ => by simp [V.shut, conv]
  | .ept _ _ _, _ => by simp [V.shut, conv]
  | .hd a off len, h => by
    obtain ⟨h1, h2⟩ := h
    unfold acm at h2
    split at h2
    · rename_i wr s xs h3
      simp only [V.shut, h3, conv]
      exact ⟨h1, hb a h1, .inl ⟨wr, xs, rfl, rfl⟩⟩
    · rename_i wr s xs h3
      simp only [V.shut, h3, conv]
      exact ⟨h1, hb a h1, .inr ⟨wr, xs, rfl, Wa _ _ _ hb _ h2.1, h2.2, YF _ _⟩⟩
    · exact h2.elim
  | .ptr a off, h => by
    obtain ⟨h1, wr, cs, h2, h3⟩ := h
    simp only [V.shut, h2, conv]
    exact ⟨h1, hb a h1, trivial, h3, wr, cs, rfl, Jd _ _ _ _ h3⟩
  | .agg cs, h => by simp only [V.shut, conv]; exact Yw o br l hb cs h
  | .tup cs, h => by simp only [V.shut, conv]; exact Yw o br l hb cs h
  | .clo f cs, h => by simp only [V.shut, conv]; exact ⟨trivial, Yw o br l hb cs h⟩
theorem Yw (o : Nat → Option Ob) (br l : List Nat) (hb : ∀ x ∈ l, x ∉ br) : ∀ cs : List V, QP o (some l) cs → Jc o br (some l) cs (JW o cs)
  | [], _ => trivial
  | v :: r, h => ⟨wV o br l hb v h.1, Yw o br l hb r h.2⟩
end
section
variable {Γ : Env} {b : Nat} {r : List AO} {s : St} {d : Option Nat} {f : FuncId} {acts : List V} {res : V} {K : St → Prop} {cs cs2 : List V} {a : Nat}
theorem ado (l : List Nat) (ha : s.o a = some (.box true cs)) (h : EvD Γ f (JW s.o acts) cs res cs2) (hc : QP s.o (some l) acts) (hal : a ∉ l) (hab : a < b)
    (hk : Yd Γ (b + KK) r { t := (s.put d res).t, o := upd (KB (some l) [a] s.o) a (some (.box true cs2)), n := s.n } K) : awC Γ b r s d f (.ptr a 0 :: acts) K := by
  refine WF ⟨_, _, _, _, [a], some l, h.ev, ⟨?_, Yw s.o [a] l ?_ acts hc⟩, ⟨⟨_, ha, Jd _ _ _ _ h.c1⟩, trivial⟩, by simp, by simpa using hab, Nat.le_refl _, by simp [KK], fun h => by simp at h, ?_⟩
  · simp [conv]
  · intro x hx hxa
    simp only [List.mem_singleton] at hxa
    subst hxa; exact hal hx
  · rw [Jg _ _ h.cl]
    simp only [YL, Xq, Ob.ren, Q5 _ _ h.c2]
    exact hk
theorem acV (ha : s.o a = some (.box true cs)) (h : EvD Γ f (JW s.o acts) cs res cs2) (hc : QP s.o (some (Yt acts)) acts) (hal : a ∉ Yt acts) (hab : a < b)
    (hk : Yd Γ (b + KK) r { t := (s.put d res).t, o := upd (KB (some (Yt acts)) [a] s.o) a (some (.box true cs2)), n := s.n } K) : awC Γ b r s d f (.ptr a 0 :: acts) K := ado _ ha h hc hal hab hk
theorem y3 {x : V} {args : List V} {okf : Option (List Nat) → Prop} (ha : s.o a = some (.box true cs)) (h : EvD Γ f args cs res cs2) (hal : (Yt acts).contains a = false) (hab : decide (a < b) = true) (hc : QP s.o (some (Yt acts)) acts)
    (hk : Yd Γ (b + KK) r { t := (s.put d res).t, o := upd (KB (some (Yt acts)) [a] s.o) a (some (.box true cs2)), n := s.n } K) : acq Γ b r s d f (.ptr a 0 :: acts) (x :: args) okf K := by
  intro h1 _
  simp only [JW, List.cons.injEq] at h1
  obtain ⟨_, rfl⟩ := h1
  exact acV ha h hc (by simpa using hal) (of_decide_eq_true hab) hk
theorem acG {br : List Nat} {o : Nat → Option Ob} : KB (some []) br o = o := by
  funext n; simp [KB]
theorem ady {x a n : Nat} {o : Nat → Option Ob} : KB (some [x]) [a] o n = if n = x then (if x = a then o n else (o n).map Ob.frz) else o n := by
  simp only [KB, List.mem_singleton]
  by_cases h1 : n = x
  · subst h1
    by_cases h2 : n = a <;> simp [h2]
  · simp [h1]
end
theorem Vw {Γ : Env} {f : FuncId} {nt : Nat} {ac : AC} {rs : List YJ} (hb : Has Γ.P f nt ac rs) {args cs cs2 : List V} {res : V} (ha : args.length + 1 ≤ nt) (hr : res.closed) (h1 : Qc cs) (h2 : Qc cs2)
    (h : ∀ C : Ctx, C.env = Γ → C.m = 1 → AWp C nt ac (Y9 (.ptr 0 0 :: args) [.box true cs]) (jt 1 rs res [.box true cs2]) (fun _ _ => False) (jt 1 rs res [.box true cs2])) : EvD Γ f args cs res cs2 :=
  ⟨Wo hb (by simpa using ha) h, hr, h1, h2⟩
theorem yR {rs : List YJ} {res : V} {s : St} {cs2 : List V} (vs : List V) (h : j9 s rs = some vs) (ho : s.o 0 = some (.box true cs2)) (h2 : Qc cs2) (hc : conv s.o [0] none (aac vs) res) : jt 1 rs res [.box true cs2] s :=
  Uk rs vs _ h ⟨[0], none, hc, ⟨⟨_, ho, fun h => h, Jd _ _ _ _ h2⟩, trivial⟩, by simp, rfl⟩
structure EvR (Γ : Env) (f : FuncId) (args : List V) (cs : List V) : Prop where
  ev : Ev Γ f args [] (.ptr 0 0) [.box true cs]
  c1 : Qc cs
theorem adm {Γ : Env} {b : Nat} {r : List AO} {s : St} {d : Option Nat} {f : FuncId} {acts cs : List V} {K : St → Prop} (h : EvR Γ f (JW s.o acts) cs) (hc : QP s.o (some (Yt acts)) acts)
    (hk : Yd Γ (b + KK) r { t := (s.put d (.ptr b 0)).t, o := upd (KB (some (Yt acts)) [] s.o) b (some (.box true cs)), n := s.n } K) : awC Γ b r s d f acts K := by
  refine WF ⟨_, _, _, _, [], some (Yt acts), h.ev, JJ _ _ _ hc, trivial, List.nodup_nil, fun x hx => by simp at hx, by simp, by simp [KK], fun h => by simp at h, ?_⟩
  simp only [YL, Xq, Ob.ren, Q5 _ _ h.c1, V.ren, sig]
  exact hk
theorem abD {Γ : Env} {b : Nat} {r : List AO} {s : St} {d : Option Nat} {f : FuncId} {acts args cs : List V} {K : St → Prop} {okf : Option (List Nat) → Prop} (h : EvR Γ f args cs) (hc : okf (some (Yt acts)))
    (hk : Yd Γ (b + KK) r { t := (s.put d (.ptr b 0)).t, o := upd (KB (some (Yt acts)) [] s.o) b (some (.box true cs)), n := s.n } K) : acq Γ b r s d f acts args okf K := by
  rintro rfl rfl; exact adm h hc hk
theorem xx {Γ : Env} {f : FuncId} {nt : Nat} {ac : AC} {rs : List YJ} (hb : Has Γ.P f nt ac rs) {args cs : List V} (ha : args.length ≤ nt) (h1 : Qc cs)
    (h : ∀ C : Ctx, C.env = Γ → C.m = 0 → AWp C nt ac (Y9 args []) (jt 0 rs (.ptr 0 0) [.box true cs]) (fun _ _ => False) (jt 0 rs (.ptr 0 0) [.box true cs])) : EvR Γ f args cs :=
  ⟨Wo hb ha h, h1⟩
theorem acI {rs : List YJ} {s : St} {cs : List V} (a : Nat) (h : j9 s rs = some [.ptr a 0]) (ho : s.o a = some (.box true cs)) (h2 : Qc cs) : jt 0 rs (.ptr 0 0) [.box true cs] s :=
  Uk rs _ _ h ⟨[a], none, by simp [aac, conv], ⟨⟨_, ho, fun h => h, Jd _ _ _ _ h2⟩, trivial⟩, by simp, rfl⟩
attribute [go_sem] acG ady Yt Ob.frz
end Av
end
section
namespace Av
open Go
end Av
end
section
namespace Av
open Go
theorem Good.adopt {C : Ctx} {w : World} {Z : Nat → Nat → Prop} {μ : Nat → Option Cn} {o : Nat → Option Ob} (h : Good C w Z μ o) {x i n sz : Nat} {wr : Bool} {cells : List V}
    (ho : o x = some (.box wr cells)) (hi : cells[i]? = some (.sc (.slice none 0 0))) (hn : μ n = none) (hm : C.m ≤ n) :
    Good C w Z (upd μ n (some { block := 0, void := true })) (upd (upd o x (some (.box wr (cells.set i (.hd n 0 0))))) n (some (.buf true sz []))) := by
  have hon := h.free hn
  have hxn : x ≠ n := by rintro rfl; rw [hon] at ho; cases ho
  have hmu := Wq (c := { block := 0, void := true }) hn
  have old : ∀ a y, a ≠ n → upd (upd o x (some (.box wr (cells.set i (.hd n 0 0))))) n (some (.buf true sz [])) a = some y → ∃ z c, o a = some z ∧ μ a = some c ∧ (y.live c ↔ z.live c) ∧ Up w Z (upd μ n (some { block := 0, void := true })) c y ∧ (z.live c → c.block < w.heap.size ∧ (C.w0.heap.size ≤ c.block ∨ C.F c.block)) := by
    intro a y han hy
    rw [QI _ _ han] at hy
    by_cases hax : a = x
    · subst hax
      rw [Qh] at hy; cases hy
      obtain ⟨c, hc, ⟨h1, ⟨cs, ty, h2, h3, h4⟩, h5⟩, hl⟩ := h.ob _ _ ho
      refine ⟨_, c, ho, hc, Iff.rfl, ⟨h1, ⟨cs, ty, h2, by simpa using h3, fun j hj hj' => ?_⟩, h5⟩, hl⟩
      have hj2 : j < cells.length := by simpa using hj
      have h6 := h4 j hj2 hj'
      refine ⟨?_, h6.2⟩
      by_cases hji : j = i
      · subst hji
        rw [List.getElem_set_self]
        have h7 : cells[j] = .sc (.slice none 0 0) := by rw [List.getElem?_eq_getElem hj2] at hi; exact Option.some.inj hi
        have h8 := h6.1
        rw [h7] at h8
        generalize cs[j] = v at h8
        cases h8
        exact .hd (Qh _ _ _) (by simp [Hdr])
      · rw [List.getElem_set_ne (fun e => hji e.symm)]
        exact h6.1.mono (fun _ _ _ => rfl) (fun _ _ h => h) hmu
    · rw [QI _ _ hax] at hy
      obtain ⟨c, hc, hok, hl⟩ := h.ob a y hy
      exact ⟨y, c, hy, hc, Iff.rfl, hok.mono (fun _ _ _ => rfl) (fun _ _ h => h) hmu (fun _ => rfl) (fun _ _ h => h), hl⟩
  refine ⟨fun a y hy => ?_, fun a b y z c d hab hy hz hc hd lc ld => ?_, h.zlt, h.grow, h.frame, h.zsub, h.zsup, h.zkeep, fun k hk => ?_, h.oo⟩
  · by_cases han : a = n
    · subst han
      rw [Qh] at hy; cases hy
      exact ⟨_, Qh _ _ _, ⟨rfl, fun hv => by cases hv⟩, fun hl => by cases hl⟩
    · obtain ⟨z, c, h1, h2, h3, h4, h5⟩ := old a y han hy
      exact ⟨c, hmu a c h2, h4, fun hl => h5 (h3.1 hl)⟩
  · by_cases han : a = n
    · subst han
      rw [Qh] at hy hc; cases hy; cases hc; cases lc
    by_cases hbn : b = n
    · subst hbn
      rw [Qh] at hz hd; cases hz; cases hd; cases ld
    obtain ⟨y', c', h1, h2, h3, _⟩ := old a y han hy
    obtain ⟨z', d', g1, g2, g3, _⟩ := old b z hbn hz
    have e1 := hmu a c' h2; rw [hc] at e1; cases e1
    have e2 := hmu b d' g2; rw [hd] at e2; cases e2
    exact h.sep a b y' z' c d hab h1 g1 h2 g2 (h3.1 lc) (g3.1 ld)
  · rw [QI _ _ (by omega)]; exact h.fix k hk
section
variable {C : Ctx} {nt : Nat} {s : St} {K : St → Prop} {E : Nat → St → Prop} {R : St → Prop}
theorem aat {c : AC} (x i sz : Nat) {wr : Bool} {cells : List V} (ho : s.o x = some (.box wr cells)) (hi : cells[i]? = some (.sc (.slice none 0 0)))
    (h : AWp C nt c { t := s.t, o := upd (upd s.o x (some (.box wr (cells.set i (.hd s.n 0 0))))) s.n (some (.buf true sz [])), n := s.n + 1 } K E R) : AWp C nt c s K E R := by
  intro code hc a w hs
  obtain ⟨Z, μ, hg, ht, hf, hm, hd, hn⟩ := hs
  refine h code hc a w ⟨Z, _, hg.adopt ho hi (hf _ (Nat.le_refl _)) hm, fun j => (ht j).mono (fun _ _ _ => rfl) (fun _ _ h => h) (Wq (hf _ (Nat.le_refl _))), fun y hy => ?_, by show C.m ≤ s.n + 1; omega, hd, hn⟩
  have hy2 : s.n + 1 ≤ y := hy
  rw [QI _ _ (by omega)]
  exact hf y (by omega)
end
end Av
end
section
namespace Av
open Go
theorem Good.move {C : Ctx} {w : World} {Z : Nat → Nat → Prop} {μ : Nat → Option Cn} {o : Nat → Option Ob} (h : Good C w Z μ o) {x i a n off len sz : Nat} {wr wr2 : Bool} {cells xs : List V} {c : Cn}
    (ho : o x = some (.box wr cells)) (hi : cells[i]? = some (.hd a off len)) (ha : o a = some (.buf wr2 sz xs)) (hc : μ a = some c) (hn : μ n = none) (hm : C.m ≤ n) :
    Good C w Z (upd μ n (some c)) (upd (upd (upd o a (some .dead)) x (some (.box wr (cells.set i (.hd n off len))))) n (some (.buf wr2 sz xs))) := by
  have hon := h.free hn
  have hxn : x ≠ n := by rintro rfl; rw [hon] at ho; cases ho
  have han : a ≠ n := by rintro rfl; rw [hon] at ha; cases ha
  have hxa : x ≠ a := by rintro rfl; rw [ho] at ha; cases ha
  have hmu := Wq (c := c) hn
  have old : ∀ b y, upd (upd (upd o a (some .dead)) x (some (.box wr (cells.set i (.hd n off len))))) n (some (.buf wr2 sz xs)) b = some y →
      (b = a ∧ y = .dead) ∨ ∃ z d, o (if b = n then a else b) = some z ∧ μ (if b = n then a else b) = some d ∧ upd μ n (some c) b = some d ∧ (y.live d ↔ z.live d) ∧ Up w Z (upd μ n (some c)) d y ∧ (z.live d → d.block < w.heap.size ∧ (C.w0.heap.size ≤ d.block ∨ C.F d.block)) ∧ (b ≠ a) := by
    intro b y hy
    by_cases hbn : b = n
    · subst hbn
      rw [Qh] at hy; cases hy
      obtain ⟨d, hd, hok, hl⟩ := h.ob _ _ ha
      rw [hc] at hd; cases hd
      exact .inr ⟨_, c, by rw [if_pos rfl]; exact ha, by rw [if_pos rfl]; exact hc, Qh _ _ _, Iff.rfl, hok.mono (fun _ _ _ => rfl) (fun _ _ h => h) hmu (fun _ => rfl) (fun _ _ h => h), hl, fun e => han e.symm⟩
    · rw [QI _ _ hbn] at hy
      rw [if_neg hbn, QI _ _ hbn]
      by_cases hbx : b = x
      · subst hbx
        rw [Qh] at hy; cases hy
        obtain ⟨d, hd, ⟨h1, ⟨cs, ty, h2, h3, h4⟩, h5⟩, hl⟩ := h.ob _ _ ho
        refine .inr ⟨_, d, ho, hd, hd, Iff.rfl, ⟨h1, ⟨cs, ty, h2, by simpa using h3, fun j hj hj' => ?_⟩, h5⟩, hl, hxa⟩
        have hj2 : j < cells.length := by simpa using hj
        have h6 := h4 j hj2 hj'
        refine ⟨?_, h6.2⟩
        by_cases hji : j = i
        · subst hji
          rw [List.getElem_set_self]
          have h7 : cells[j] = .hd a off len := by rw [List.getElem?_eq_getElem hj2] at hi; exact Option.some.inj hi
          have h8 := h6.1
          rw [h7] at h8
          generalize cs[j] = v at h8
          cases h8
          rename_i c' hc' hv
          rw [hc] at hc'; cases hc'
          exact .hd (Qh _ _ _) hv
        · rw [List.getElem_set_ne (fun e => hji e.symm)]
          exact h6.1.mono (fun _ _ _ => rfl) (fun _ _ h => h) hmu
      · rw [QI _ _ hbx] at hy
        by_cases hba : b = a
        · subst hba
          rw [Qh] at hy; cases hy
          exact .inl ⟨rfl, rfl⟩
        · rw [QI _ _ hba] at hy
          obtain ⟨d, hd, hok, hl⟩ := h.ob b y hy
          exact .inr ⟨y, d, hy, hd, hd, Iff.rfl, hok.mono (fun _ _ _ => rfl) (fun _ _ h => h) hmu (fun _ => rfl) (fun _ _ h => h), hl, hba⟩
  refine ⟨fun b y hy => ?_, fun b d y z e f hbd hy hz he hf lb ld => ?_, h.zlt, h.grow, h.frame, h.zsub, h.zsup, h.zkeep, fun k hk => ?_, h.oo⟩
  · rcases old b y hy with ⟨rfl, rfl⟩ | ⟨z, d, h1, h2, h3, h4, h5, h6, _⟩
    · exact ⟨c, hmu _ _ hc, trivial, fun hl => hl.elim⟩
    · exact ⟨d, h3, h5, fun hl => h6 (h4.1 hl)⟩
  · rcases old b y hy with ⟨rfl, rfl⟩ | ⟨y', e', h1, h2, h3, h4, _, _, h7⟩
    · exact lb.elim
    · rcases old d z hz with ⟨rfl, rfl⟩ | ⟨z', f', g1, g2, g3, g4, _, _, g7⟩
      · exact ld.elim
      · rw [he] at h3; cases h3
        rw [hf] at g3; cases g3
        refine h.sep _ _ y' z' _ _ ?_ h1 g1 h2 g2 (h4.1 lb) (g4.1 ld)
        by_cases hbn : b = n
        · subst hbn
          rw [if_pos rfl, if_neg (fun e => hbd e.symm)]
          exact fun e => g7 e.symm
        · rw [if_neg hbn]
          by_cases hdn : d = n
          · subst hdn; rw [if_pos rfl]; exact h7
          · rw [if_neg hdn]; exact hbd
  · rw [QI _ _ (by omega)]; exact h.fix k hk
section
variable {C : Ctx} {nt : Nat} {s : St} {K : St → Prop} {E : Nat → St → Prop} {R : St → Prop}
theorem abk {c : AC} (x i a : Nat) {off len sz : Nat} {wr wr2 : Bool} {cells xs : List V} (ho : s.o x = some (.box wr cells)) (hi : cells[i]? = some (.hd a off len)) (ha : s.o a = some (.buf wr2 sz xs))
    (h : AWp C nt c { t := s.t, o := upd (upd (upd s.o a (some .dead)) x (some (.box wr (cells.set i (.hd s.n off len))))) s.n (some (.buf wr2 sz xs)), n := s.n + 1 } K E R) : AWp C nt c s K E R := by
  intro code hc u w hs
  obtain ⟨Z, μ, hg, ht, hf, hm, hd, hn⟩ := hs
  obtain ⟨d, hmu, _⟩ := hg.ob _ _ ha
  refine h code hc u w ⟨Z, _, hg.move ho hi ha hmu (hf _ (Nat.le_refl _)) hm, fun j => (ht j).mono (fun _ _ _ => rfl) (fun _ _ h => h) (Wq (hf _ (Nat.le_refl _))), fun y hy => ?_, by show C.m ≤ s.n + 1; omega, hd, hn⟩
  have hy2 : s.n + 1 ≤ y := hy
  rw [QI _ _ (by omega)]
  exact hf y (by omega)
end
end Av
end
section
namespace Av
open Go
@[go_sem] theorem ab5 (l : List Int) : (∀ y ∈ l.map V.int, y.cells.length = 1) = True := eq_true (by intro y hy; simp only [List.mem_map] at hy; obtain ⟨x, _, rfl⟩ := hy; rfl)
@[go_sem] theorem ab4 (l : List (List UInt8)) : (∀ y ∈ l.map V.str, y.cells.length = 1) = True := eq_true (by intro y hy; simp only [List.mem_map] at hy; obtain ⟨x, _, rfl⟩ := hy; rfl)
end Av
end
section
namespace Av
open Go
end Av
end
section
namespace Av
open Go
def LeV (x y : V) : Prop := ∀ (w : World) (Z : Nat → Nat → Prop) (μ : Nat → Option Cn) (v : Value), Rep w Z μ v x → Rep w Z μ v y
theorem LeV.refl (x : V) : LeV x x := fun _ _ _ _ h => h
theorem LeV.nil (sz : Nat) : LeV (.sc (.slice none 0 0)) (.sl sz []) := fun _ _ _ _ h => by cases h; exact .sl0
theorem LeV.agg {xs ys : List V} (hl : xs.length = ys.length) (h : ∀ j (h1 : j < xs.length) (h2 : j < ys.length), LeV xs[j] ys[j]) : LeV (.agg xs) (.agg ys) := fun w Z μ v hv => by
  cases hv with
  | agg h1 h2 h3 => exact .agg (h1.trans hl) h2 fun j hj hj' => h j (by omega) hj _ _ _ _ (h3 j (by omega) hj')
theorem EvB.le {Γ : Env} {f : FuncId} {args args' : List V} {res : V} {B : Option (List Nat)} (h : EvB Γ f args res B) (hl : args'.length = args.length)
    (hr : ∀ i (h1 : i < args'.length) (h2 : i < args.length), LeV args'[i] args[i]) : EvB Γ f args' res B :=
  ⟨fun C cargs h1 h2 h3 h4 h5 h6 h7 => h.ev C cargs h1 h2 h3 h4 h5 (h6.trans hl) fun i hi hi' => hr i (by omega) hi _ _ _ _ (h7 i (by omega) hi'), h.cl, h.sh⟩
section
variable {Γ : Env} {A W : Nat → Bool} {b : Nat} {s : St} {d : Option Nat} {f : FuncId} {acts : List V} {res : V} {J : St → Prop} {cs cs2 : List V} {a : Nat}
theorem acX (l : List Nat) (hA : A a = true) (hW : W a = true) (ha : s.o a = some (.box true cs)) (h : EvD Γ f (JW (Jp A s.o) acts) cs res cs2) (hc : QP (Jp A s.o) (some l) acts) (hal : a ∉ l) (hl : ∀ x ∈ l, A x = true ∧ W x = true) (hab : a < b)
    (hk : J { t := (s.put d res).t, o := upd (KB (some l) [a] s.o) a (some (.box true cs2)), n := s.n }) : Qr Γ A W b s d f (.ptr a 0 :: acts) J := by
  have hra : Jp A s.o a = some (.box true cs) := by rw [Kq, if_pos hA, ha]
  refine ⟨_, _, _, _, [a], some l, h.ev, ⟨?_, Yw _ [a] l ?_ acts hc⟩, ⟨⟨_, hra, Jd _ _ _ _ h.c1⟩, trivial⟩, by simp, by simpa using ⟨hab, hW⟩, Nat.le_refl _, by simp [KK], fun h => by simp at h, fun l' hl' => by cases hl'; exact hl, ?_⟩
  · simp [conv]
  · intro x hx hxa
    simp only [List.mem_singleton] at hxa
    subst hxa; exact hal hx
  · rw [Jg _ _ h.cl]
    simp only [YL, Xq, Ob.ren, Q5 _ _ h.c2]
    exact hk
theorem aaw {x : V} {args : List V} {okf : Option (List Nat) → Prop} (ha : s.o a = some (.box true cs)) (hA : A a = true) (hW : W a = true) (h : EvD Γ f args cs res cs2) (hal : (Yt acts).contains a = false) (hab : decide (a < b) = true) (hl : ((Yt acts).all fun x => A x && W x) = true) (hc : QP (Jp A s.o) (some (Yt acts)) acts)
    (hk : J { t := (s.put d res).t, o := upd (KB (some (Yt acts)) [a] s.o) a (some (.box true cs2)), n := s.n }) : vj Γ A W b s d f (.ptr a 0 :: acts) (x :: args) okf J := by
  intro h1 _
  simp only [JW, List.cons.injEq] at h1
  obtain ⟨_, rfl⟩ := h1
  exact acX _ hA hW ha h hc (by simpa using hal) (fun x hx => by simpa using List.all_eq_true.1 hl x hx) (of_decide_eq_true hab) hk
end
end Av
end
section
namespace Av
open Go
section
variable {Γ : Env} {b : Nat} {r : List AO} {s : St} {d : Option Nat} {f g : FuncId} {acts args : List V} {okf : Option (List Nat) → Prop} {res x : V} {K : St → Prop} {cs cs2 ds ds2 : List V} {a e off : Nat}
end
section
variable {Γ : Env} {b : Nat} {r : List AO} {s : St} {d : Option Nat} {f : FuncId} {acts args : List V} {okf : Option (List Nat) → Prop} {res : V} {K : St → Prop} {xs ys : List V} {a p n sz : Nat}
end
end Av
end
section
namespace Av
open Go
section
variable {Γ : Env} {A W : Nat → Bool} {b : Nat} {r : List AO} {s : St} {d : Option Nat} {f : FuncId} {args : List V} {okf : Option (List Nat) → Prop} {J K : St → Prop} {a p n : Nat} {l t : List UInt8}
end
end Av
end
section
namespace Av
open Go
theorem Ev.shut {Γ : Env} {f : FuncId} {args : List V} {ins : List Ob} {res res2 : V} {outs outs2 : List Ob} {br : List Nat} {B : Option (List Nat)} (h : Ev Γ f args ins res outs)
    (hc : conv (fun k => outs[k]?) br B res res2) (hl : acn (fun k => outs[k]?) br B br outs2) (hn : br.Nodup) (hf : br.take ins.length = List.range ins.length) : Ev Γ f args ins res2 outs2 := by
  intro C cargs hP hm hmu hg hF hsz hrep
  refine (h C cargs hP hm hmu hg hF hsz hrep).mono ?_
  rintro e w' ⟨v, Z', μ', rfl, hr, hg', hmu'⟩
  obtain ⟨g2, h2, _⟩ := hg'.close hn hl (by rw [hm]; exact hf)
  exact ⟨v, _, _, rfl, WV hg' br B _ _ _ _ (Nat.le_refl _) hr hc, g2, h2⟩
structure EvO (Γ : Env) (f : FuncId) (args cs : List V) (s1 s2 : Nat) (xs ys cs2 : List V) : Prop where
  ev : Ev Γ f (.ptr 0 0 :: args) [.box true cs] (.agg [.hd 1 0 xs.length, .hd 2 0 ys.length]) [.box true cs2, .buf true s1 xs, .buf true s2 ys]
  c1 : Qc cs
  c2 : Qc cs2
  ca : Qc args
theorem EvO.d {Γ : Env} {f : FuncId} {args cs : List V} {s1 s2 : Nat} {xs ys cs2 : List V} (h : EvO Γ f args cs s1 s2 xs ys cs2) : EvD Γ f args cs (.agg [.sl s1 xs, .sl s2 ys]) cs2 := by
  refine ⟨h.ev.shut (br := [0]) (B := none) ?_ ⟨⟨_, rfl, fun h => h, Jd _ _ _ _ h.c2⟩, trivial⟩ (by simp) rfl, ?_, h.c1, h.c2⟩
  · simp [conv, Jc, okB]
  · simp only [V.closed, Qc, and_self]
section
variable {Γ : Env} {b : Nat} {r : List AO} {s : St} {d : Option Nat} {f : FuncId} {args acts : List V} {cs cs2 xs ys : List V} {s1 s2 : Nat} {K : St → Prop} {okf : Option (List Nat) → Prop} {a : Nat}
end
end Av
end
section
namespace Av
open Go
end Av
end
section
namespace Av
open Go
def vg (i : Nat) (xs : List V) : Ob := .box true [.hd i 0 xs.length]
structure EvU (Γ : Env) (f : FuncId) (args : List V) (sx : Nat) (xs : List V) (res : V) (xs2 : List V) : Prop where
  ev : Ev Γ f (.ptr 0 0 :: args) [vg 1 xs, .buf true sx xs] res [vg 2 xs2, .dead, .buf true sx xs2]
  cl : res.closed ∨ res = .ptr 0 0
def acv (a : Nat) : V → V
  | .ptr _ _ => .ptr a 0
  | v => v
attribute [go_sem] acv
theorem xO {res : V} (h : res.closed ∨ res = .ptr 0 0) (a p b : Nat) : res.ren (sig [a, p] b) = acv a res := by
  rcases h with h | rfl
  · rw [Jg _ _ h]; cases res <;> first | rfl | exact h.elim
  · rfl
theorem adl {Γ : Env} {b : Nat} {r : List AO} {s : St} {d : Option Nat} {f : FuncId} {acts : List V} {res : V} {K : St → Prop} {a p sx n : Nat} {xs xs2 : List V}
    (ha : s.o a = some (.box true [.hd p 0 n])) (hp : s.o p = some (.buf true sx xs))
    (h : EvU Γ f (JW s.o acts) sx xs res xs2) (hn : n = xs.length) (hc : QP s.o (some []) acts) (h1 : a ≠ p) (hab : a < b) (hpb : p < b)
    (hk : Yd Γ (b + KK) r { t := (s.put d (acv a res)).t, o := upd (upd (upd s.o b (some (.buf true sx xs2))) p (some .dead)) a (some (.box true [.hd b 0 xs2.length])), n := s.n } K) : awC Γ b r s d f (.ptr a 0 :: acts) K := by
  subst hn
  refine WF ⟨_, _, _, _, [a, p], some [], h.ev, ⟨?_, Yw s.o [a, p] [] (fun x hx => by cases hx) acts hc⟩, ⟨⟨_, ha, ?_⟩, ⟨_, hp, rfl, rfl⟩, trivial⟩, by simp [h1], ?_, by simp, by simp [KK], fun h => by simp at h, ?_⟩
  · simp [conv]
  · show Jc _ _ _ _ _
    simp [Jc, conv]
  · intro x hx
    simp only [List.mem_cons, List.not_mem_nil, or_false] at hx
    rcases hx with rfl | rfl <;> assumption
  · rw [xO h.cl]
    simp only [YL, Xq, Ob.ren, vg, VH, V.ren, sig, acG]
    exact hk
theorem KY {Γ : Env} {b : Nat} {r : List AO} {s : St} {d : Option Nat} {f : FuncId} {x : V} {acts args : List V} {okf : Option (List Nat) → Prop} {res : V} {K : St → Prop} {a p sx n : Nat} {xs xs2 : List V}
    (ha : s.o a = some (.box true [.hd p 0 n])) (hp : s.o p = some (.buf true sx xs)) (h : EvU Γ f args sx xs res xs2)
    (hd : (decide (a ≠ p ∧ a < b ∧ p < b)) = true) (hn : n = xs.length) (hc : QP s.o (some []) acts)
    (hk : Yd Γ (b + KK) r { t := (s.put d (acv a res)).t, o := upd (upd (upd s.o b (some (.buf true sx xs2))) p (some .dead)) a (some (.box true [.hd b 0 xs2.length])), n := s.n } K) : acq Γ b r s d f (.ptr a 0 :: acts) (x :: args) okf K := by
  intro h1 _
  simp only [JW, List.cons.injEq] at h1
  obtain ⟨_, rfl⟩ := h1
  obtain ⟨e1, e2, e3⟩ := of_decide_eq_true hd
  exact adl ha hp h hn hc e1 e2 e3 hk
theorem UM {Γ : Env} {f : FuncId} {nt : Nat} {ac : AC} {rs : List YJ} (hb : Has Γ.P f nt ac rs) {args xs xs2 : List V} {sx : Nat} {res : V} (ha : args.length + 1 ≤ nt) (hr : res.closed ∨ res = .ptr 0 0)
    (h : ∀ C : Ctx, C.env = Γ → C.m = 2 → AWp C nt ac { t := (Y9 (.ptr 0 0 :: args) []).t, o := jk [(0, .box true [.hd 2 0 xs.length]), (1, .dead), (2, .buf true sx xs)], n := 3 }
      (jt 2 rs res [vg 2 xs2, .dead, .buf true sx xs2]) (fun _ _ => False) (jt 2 rs res [vg 2 xs2, .dead, .buf true sx xs2])) : EvU Γ f args sx xs res xs2 := by
  refine ⟨Wo hb (by simpa using ha) fun C hC hm => ?_, hr⟩
  refine abk 0 0 1 (by rfl) (by rfl) (by rfl) ?_
  have e := h C hC hm
  refine (congrArg (fun s => AWp C nt ac s _ _ _) ?_).mp e
  congr 1
  funext k
  match k with
  | 0 => rfl
  | 1 => rfl
  | 2 => rfl
  | k + 3 => simp [upd, jk, Y9]
theorem aag {rs : List YJ} {res : V} {s : St} {xs xs' : List V} {sx : Nat} (i n : Nat) (vs : List V) (h : j9 s rs = some vs) (hc : conv s.o [0, 1, i] none (aac vs) res)
    (h0 : s.o 0 = some (.box true [.hd i 0 n])) (hi : s.o i = some (.buf true sx xs')) (hi3 : 2 ≤ i) (h1 : ∃ x, s.o 1 = some x) (hx : xs' = xs) (hn : n = xs.length) : jt 2 rs res [vg 2 xs, .dead, .buf true sx xs] s := by
  subst hn; subst hx
  obtain ⟨x1, e1⟩ := h1
  refine Uk rs vs _ h ⟨[0, 1, i], none, hc, ⟨⟨_, h0, fun h => h, ?_⟩, ⟨_, e1, ?_⟩, ⟨_, hi, fun h => h, rfl, rfl⟩, trivial⟩, ?_, rfl⟩
  · simp [Jc, conv]
  · simp [abO]
  · simp; omega
section
variable {Γ : Env} {A W : Nat → Bool} {b : Nat} {s : St} {d : Option Nat} {f : FuncId} {acts args : List V} {okf : Option (List Nat) → Prop} {J : St → Prop} {a p n : Nat}
theorem UR {x res : V} {xs xs2 : List V} {sx : Nat} (ha : s.o a = some (.box true [.hd p 0 n])) (hp : s.o p = some (.buf true sx xs)) (hA : (A a && A p) = true) (hW : (W a && W p) = true) (h : EvU Γ f args sx xs res xs2)
    (hd : decide (a ≠ p ∧ a < b ∧ p < b) = true) (hn : n = xs.length) (hc : QP (Jp A s.o) (some []) acts)
    (hk : J { t := (s.put d (acv a res)).t, o := upd (upd (upd s.o b (some (.buf true sx xs2))) p (some .dead)) a (some (.box true [.hd b 0 xs2.length])), n := s.n }) : vj Γ A W b s d f (.ptr a 0 :: acts) (x :: args) okf J := by
  intro h1 _
  simp only [JW, List.cons.injEq] at h1
  obtain ⟨_, rfl⟩ := h1
  obtain ⟨e1, e2, e3⟩ := of_decide_eq_true hd
  subst hn
  simp only [Bool.and_eq_true] at hA hW
  have hra : Jp A s.o a = some (.box true [.hd p 0 xs.length]) := by rw [Kq, if_pos hA.1, ha]
  have hrp : Jp A s.o p = some (.buf true sx xs) := by rw [Kq, if_pos hA.2, hp]
  refine ⟨_, _, _, _, [a, p], some [], h.ev, ⟨?_, Yw _ [a, p] [] (fun x hx => by cases hx) acts hc⟩, ⟨⟨_, hra, ?_⟩, ⟨_, hrp, rfl, rfl⟩, trivial⟩, by simp [e1], ?_, by simp, by simp [KK], fun h => by simp at h, fun l h x hx => (by cases h; cases hx), ?_⟩
  · simp [conv]
  · show Jc _ _ _ _ _
    simp [Jc, conv]
  · intro x hx
    simp only [List.mem_cons, List.not_mem_nil, or_false] at hx
    rcases hx with rfl | rfl
    · exact ⟨e2, hW.1⟩
    · exact ⟨e3, hW.2⟩
  · rw [xO h.cl]
    simp only [YL, Xq, Ob.ren, vg, VH, V.ren, sig, acG]
    exact hk
theorem aav {cs : List V} (h : EvR Γ f args cs) (hl : ((Yt acts).all fun x => A x && W x) = true) (hc : QP (Jp A s.o) (some (Yt acts)) acts)
    (hk : J { t := (s.put d (.ptr b 0)).t, o := upd (KB (some (Yt acts)) [] s.o) b (some (.box true cs)), n := s.n }) : vj Γ A W b s d f acts args okf J := by
  rintro rfl _
  refine ⟨_, _, _, _, [], some (Yt acts), h.ev, JJ _ _ _ hc, trivial, List.nodup_nil, fun x hx => by simp at hx, by simp, by simp [KK], fun h => by simp at h, fun l h x hx => (by cases h; simpa using List.all_eq_true.1 hl x hx), ?_⟩
  simp only [YL, Xq, Ob.ren, Q5 _ _ h.c1]
  exact hk
end
structure EvG (Γ : Env) (f : FuncId) (args : List V) (sx : Nat) (xs : List V) : Prop where
  ev : Ev Γ f args [] (.ptr 0 0) [vg 1 xs, .buf true sx xs]
section
variable {Γ : Env} {A W : Nat → Bool} {b : Nat} {r : List AO} {s : St} {d : Option Nat} {f : FuncId} {acts args : List V} {okf : Option (List Nat) → Prop} {J K : St → Prop} {sx : Nat} {xs : List V}
theorem ja (h : EvG Γ f args sx xs) (hc : okf (some []))
    (hk : Yd Γ (b + KK) r { t := (s.put d (.ptr b 0)).t, o := upd (upd s.o (b + 1) (some (.buf true sx xs))) b (some (.box true [.hd (b + 1) 0 xs.length])), n := s.n } K) : acq Γ b r s d f acts args okf K := by
  rintro rfl rfl
  refine WF ⟨_, _, _, _, [], some [], h.ev, JJ _ _ _ hc, trivial, List.nodup_nil, fun x hx => by simp at hx, by simp, by simp [KK], fun h => by simp at h, ?_⟩
  simp only [YL, Xq, Ob.ren, vg, VH, V.ren, sig, acG]
  exact hk
theorem US (h : EvG Γ f args sx xs) (hc : okf (some []))
    (hk : J { t := (s.put d (.ptr b 0)).t, o := upd (upd s.o (b + 1) (some (.buf true sx xs))) b (some (.box true [.hd (b + 1) 0 xs.length])), n := s.n }) : vj Γ A W b s d f acts args okf J := by
  rintro rfl rfl
  refine ⟨_, _, _, _, [], some [], h.ev, JJ _ _ _ hc, trivial, List.nodup_nil, fun x hx => by simp at hx, by simp, by simp [KK], fun h => by simp at h, fun l h x hx => (by cases h; cases hx), ?_⟩
  simp only [YL, Xq, Ob.ren, vg, VH, V.ren, sig, acG]
  exact hk
theorem xz {nt : Nat} {ac : AC} {rs : List YJ} (hb : Has Γ.P f nt ac rs) (ha : args.length ≤ nt)
    (h : ∀ C : Ctx, C.env = Γ → C.m = 0 → AWp C nt ac { t := (Y9 args []).t, o := fun _ => none, n := 0 } (jt 0 rs (.ptr 0 0) [vg 1 xs, .buf true sx xs]) (fun _ _ => False) (jt 0 rs (.ptr 0 0) [vg 1 xs, .buf true sx xs])) : EvG Γ f args sx xs :=
  ⟨Wo hb (by simpa using ha) fun C hC hm => by
    have e := h C hC hm
    refine (congrArg (fun s => AWp C nt ac s _ _ _) ?_).mp e
    simp [Y9]⟩
end
theorem acJ {rs : List YJ} {s : St} {xs xs' : List V} {sx : Nat} (x i n : Nat) (vs : List V) (h : j9 s rs = some vs) (hc : conv s.o [x, i] none (aac vs) (.ptr 0 0))
    (h0 : s.o x = some (.box true [.hd i 0 n])) (hi : s.o i = some (.buf true sx xs')) (hxi : x ≠ i) (hx : xs' = xs) (hn : n = xs.length) : jt 0 rs (.ptr 0 0) [vg 1 xs, .buf true sx xs] s := by
  subst hn; subst hx
  refine Uk rs vs _ h ⟨[x, i], none, hc, ⟨⟨_, h0, fun h => h, ?_⟩, ⟨_, hi, fun h => h, rfl, rfl⟩, trivial⟩, by simpa using hxi, rfl⟩
  simp [Jc, conv]
theorem yi {C : Ctx} {nt : Nat} {s : St} {K : St → Prop} {E : Nat → St → Prop} {R : St → Prop} {ks : List Nat} {x : AC} (h : AWp C nt x s (fun _ => False) E R) : AWp C nt (jj ks x) s K E R :=
  wh (fun k s' => k = 0 ∧ s' = s) ⟨0, rfl, rfl⟩ (by rintro k s' ⟨rfl, rfl⟩; exact yj h (fun _ h => h.elim) (fun _ _ h => h) (fun _ h => h))
end Av
end

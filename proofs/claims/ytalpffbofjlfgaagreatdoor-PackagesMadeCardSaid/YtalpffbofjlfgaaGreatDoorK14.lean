/- A nil slice in a variable may be seen as a header of an empty buffer of one's own. -/
import Derived.Test.YtalpffbofjlfgaaGreatDoorK13
set_option linter.unusedVariables false
set_option linter.unusedSimpArgs false
section
set_option linter.unusedSimpArgs false
set_option linter.unusedVariables false
set_option maxRecDepth 10000
set_option maxHeartbeats 4000000
namespace Av
open Go
attribute [local irreducible] AWp WY Vp Vq awS awC V1 awQ Uh Q9 YQ VZ awR YT awB okR Ww ris
end Av
end
section
namespace Av
open Go
theorem Good.adopt {C:Ctx} {w:World} {Z:Nat→Nat→Prop} {μ:Nat→Option Cn} {o:Nat→Option Ob} (h:Good C w Z μ o) {x i n sz:Nat} {wr:Bool} {cells:List V}
    (ho:o x = some (.box wr cells)) (hi:cells[i]? = some (.sc (.slice none 0 0))) (hn:μ n = none) (hm:C.m≤n) :
    Good C w Z (upd μ n (some { block:=0,void:=true })) (upd (upd o x (some (.box wr (cells.set i (.hd n 0 0))))) n (some (.buf true sz []))):=by
  have hon:=h.free hn
  have hxn:x≠n:=by rintro rfl;rw [hon] at ho;cases ho
  have hmu:=yn (c:={ block:=0,void:=true }) hn
  have old:∀ a y,a≠n→upd (upd o x (some (.box wr (cells.set i (.hd n 0 0))))) n (some (.buf true sz [])) a = some y→∃ z c,o a = some z∧μ a = some c∧(y.live c↔z.live c)∧w9 w Z (upd μ n (some { block:=0,void:=true })) c y∧(z.live c→c.block < w.heap.size∧(C.w0.heap.size≤c.block∨C.F c.block)):=by
    intro a y han hy
    rw [JB _ _ han] at hy
    by_cases hax:a = x
    · subst hax
      rw [QZ] at hy;cases hy
      obtain ⟨c,hc,⟨h1,⟨cs,ty,h2,h3,h4⟩,h5⟩,hl⟩:=h.ob _ _ ho
      refine ⟨_,c,ho,hc,Iff.rfl,⟨h1,⟨cs,ty,h2,by simpa using h3,fun j hj hj'=>?_⟩,h5⟩,hl⟩
      have hj2:j < cells.length:=by simpa using hj
      have h6:=h4 j hj2 hj'
      refine ⟨?_,h6.2⟩
      by_cases hji:j = i
      · subst hji
        rw [List.getElem_set_self]
        have h7:cells[j] = .sc (.slice none 0 0):=by rw [List.getElem?_eq_getElem hj2] at hi;exact Option.some.inj hi
        have h8:=h6.1
        rw [h7] at h8
        generalize cs[j] = v at h8
        cases h8
        exact .hd (QZ _ _ _) (by simp [Hdr])
      · rw [List.getElem_set_ne (fun e=>hji e.symm)]
        exact h6.1.mono (fun _ _ _=>rfl) (fun _ _ h=>h) hmu
    · rw [JB _ _ hax] at hy
      obtain ⟨c,hc,hok,hl⟩:=h.ob a y hy
      exact ⟨y,c,hy,hc,Iff.rfl,hok.mono (fun _ _ _=>rfl) (fun _ _ h=>h) hmu (fun _=>rfl) (fun _ _ h=>h),hl⟩
  refine ⟨fun a y hy=>?_,fun a b y z c d hab hy hz hc hd lc ld=>?_,h.zlt,h.grow,h.frame,h.zsub,h.zsup,h.zkeep,fun k hk=>?_,h.oo⟩
  · by_cases han:a = n
    · subst han
      rw [QZ] at hy;cases hy
      exact ⟨_,QZ _ _ _,⟨rfl,fun hv=>by cases hv⟩,fun hl=>by cases hl⟩
    · obtain ⟨z,c,h1,h2,h3,h4,h5⟩:=old a y han hy
      exact ⟨c,hmu a c h2,h4,fun hl=>h5 (h3.1 hl)⟩
  · by_cases han:a = n
    · subst han
      rw [QZ] at hy hc;cases hy;cases hc;cases lc
    by_cases hbn:b = n
    · subst hbn
      rw [QZ] at hz hd;cases hz;cases hd;cases ld
    obtain ⟨y',c',h1,h2,h3,_⟩:=old a y han hy
    obtain ⟨z',d',g1,g2,g3,_⟩:=old b z hbn hz
    have e1:=hmu a c' h2;rw [hc] at e1;cases e1
    have e2:=hmu b d' g2;rw [hd] at e2;cases e2
    exact h.sep a b y' z' c d hab h1 g1 h2 g2 (h3.1 lc) (g3.1 ld)
  · rw [JB _ _ (by omega)];exact h.fix k hk
section
variable {C:Ctx} {nt:Nat} {s:St} {K:St→Prop} {E:Nat→St→Prop} {R:St→Prop}
theorem ah1 {c:AC} (x i sz:Nat) {wr:Bool} {cells:List V} (ho:s.o x = some (.box wr cells)) (hi:cells[i]? = some (.sc (.slice none 0 0)))
    (h:AWp C nt c { t:=s.t,o:=upd (upd s.o x (some (.box wr (cells.set i (.hd s.n 0 0))))) s.n (some (.buf true sz [])),n:=s.n + 1 } K E R):AWp C nt c s K E R:=by
  intro code hc a w hs
  obtain ⟨Z,μ,hg,ht,hf,hm,hd,hn⟩:=hs
  refine h code hc a w ⟨Z,_,hg.adopt ho hi (hf _ (Nat.le_refl _)) hm,fun j=>(ht j).mono (fun _ _ _=>rfl) (fun _ _ h=>h) (yn (hf _ (Nat.le_refl _))),fun y hy=>?_,by show C.m≤s.n + 1;omega,hd,hn⟩
  have hy2:s.n + 1≤y:=hy
  rw [JB _ _ (by omega)]
  exact hf y (by omega)
end
end Av
end
section
namespace Av
open Go
theorem Good.move {C:Ctx} {w:World} {Z:Nat→Nat→Prop} {μ:Nat→Option Cn} {o:Nat→Option Ob} (h:Good C w Z μ o) {x i a n off len sz:Nat} {wr wr2:Bool} {cells xs:List V} {c:Cn}
    (ho:o x = some (.box wr cells)) (hi:cells[i]? = some (.hd a off len)) (ha:o a = some (.buf wr2 sz xs)) (hc:μ a = some c) (hn:μ n = none) (hm:C.m≤n) :
    Good C w Z (upd μ n (some c)) (upd (upd (upd o a (some .dead)) x (some (.box wr (cells.set i (.hd n off len))))) n (some (.buf wr2 sz xs))):=by
  have hon:=h.free hn
  have hxn:x≠n:=by rintro rfl;rw [hon] at ho;cases ho
  have han:a≠n:=by rintro rfl;rw [hon] at ha;cases ha
  have hxa:x≠a:=by rintro rfl;rw [ho] at ha;cases ha
  have hmu:=yn (c:=c) hn
  have old:∀ b y,upd (upd (upd o a (some .dead)) x (some (.box wr (cells.set i (.hd n off len))))) n (some (.buf wr2 sz xs)) b = some y →
      (b = a∧y = .dead)∨∃ z d,o (if b = n then a else b) = some z∧μ (if b = n then a else b) = some d∧upd μ n (some c) b = some d∧(y.live d↔z.live d)∧w9 w Z (upd μ n (some c)) d y∧(z.live d→d.block < w.heap.size∧(C.w0.heap.size≤d.block∨C.F d.block))∧(b≠a):=by
    intro b y hy
    by_cases hbn:b = n
    · subst hbn
      rw [QZ] at hy;cases hy
      obtain ⟨d,hd,hok,hl⟩:=h.ob _ _ ha
      rw [hc] at hd;cases hd
      exact .inr ⟨_,c,by rw [if_pos rfl];exact ha,by rw [if_pos rfl];exact hc,QZ _ _ _,Iff.rfl,hok.mono (fun _ _ _=>rfl) (fun _ _ h=>h) hmu (fun _=>rfl) (fun _ _ h=>h),hl,fun e=>han e.symm⟩
    · rw [JB _ _ hbn] at hy
      rw [if_neg hbn,JB _ _ hbn]
      by_cases hbx:b = x
      · subst hbx
        rw [QZ] at hy;cases hy
        obtain ⟨d,hd,⟨h1,⟨cs,ty,h2,h3,h4⟩,h5⟩,hl⟩:=h.ob _ _ ho
        refine .inr ⟨_,d,ho,hd,hd,Iff.rfl,⟨h1,⟨cs,ty,h2,by simpa using h3,fun j hj hj'=>?_⟩,h5⟩,hl,hxa⟩
        have hj2:j < cells.length:=by simpa using hj
        have h6:=h4 j hj2 hj'
        refine ⟨?_,h6.2⟩
        by_cases hji:j = i
        · subst hji
          rw [List.getElem_set_self]
          have h7:cells[j] = .hd a off len:=by rw [List.getElem?_eq_getElem hj2] at hi;exact Option.some.inj hi
          have h8:=h6.1
          rw [h7] at h8
          generalize cs[j] = v at h8
          cases h8
          rename_i c' hc' hv
          rw [hc] at hc';cases hc'
          exact .hd (QZ _ _ _) hv
        · rw [List.getElem_set_ne (fun e=>hji e.symm)]
          exact h6.1.mono (fun _ _ _=>rfl) (fun _ _ h=>h) hmu
      · rw [JB _ _ hbx] at hy
        by_cases hba:b = a
        · subst hba
          rw [QZ] at hy;cases hy
          exact .inl ⟨rfl,rfl⟩
        · rw [JB _ _ hba] at hy
          obtain ⟨d,hd,hok,hl⟩:=h.ob b y hy
          exact .inr ⟨y,d,hy,hd,hd,Iff.rfl,hok.mono (fun _ _ _=>rfl) (fun _ _ h=>h) hmu (fun _=>rfl) (fun _ _ h=>h),hl,hba⟩
  refine ⟨fun b y hy=>?_,fun b d y z e f hbd hy hz he hf lb ld=>?_,h.zlt,h.grow,h.frame,h.zsub,h.zsup,h.zkeep,fun k hk=>?_,h.oo⟩
  · rcases old b y hy with ⟨rfl,rfl⟩|⟨z,d,h1,h2,h3,h4,h5,h6,_⟩
    · exact ⟨c,hmu _ _ hc,trivial,fun hl=>hl.elim⟩
    · exact ⟨d,h3,h5,fun hl=>h6 (h4.1 hl)⟩
  · rcases old b y hy with ⟨rfl,rfl⟩|⟨y',e',h1,h2,h3,h4,_,_,h7⟩
    · exact lb.elim
    · rcases old d z hz with ⟨rfl,rfl⟩|⟨z',f',g1,g2,g3,g4,_,_,g7⟩
      · exact ld.elim
      · rw [he] at h3;cases h3
        rw [hf] at g3;cases g3
        refine h.sep _ _ y' z' _ _ ?_ h1 g1 h2 g2 (h4.1 lb) (g4.1 ld)
        by_cases hbn:b = n
        · subst hbn
          rw [if_pos rfl,if_neg (fun e=>hbd e.symm)]
          exact fun e=>g7 e.symm
        · rw [if_neg hbn]
          by_cases hdn:d = n
          · subst hdn;rw [if_pos rfl];exact h7
          · rw [if_neg hdn];exact hbd
  · rw [JB _ _ (by omega)];exact h.fix k hk
section
variable {C:Ctx} {nt:Nat} {s:St} {K:St→Prop} {E:Nat→St→Prop} {R:St→Prop}
end
end Av
end
section
set_option linter.unusedSimpArgs false
set_option linter.unusedVariables false
set_option maxRecDepth 10000
set_option maxHeartbeats 4000000
namespace Av
open Go
attribute [local irreducible] AWp WY Vp Vq awS awC V1 awQ Uh Q9 YQ VZ awR YT awB okR Ww ris
def aob:List UInt8→UInt8×List UInt8
  | []=>(0,[])
  | c :: r=>if c = 45∨c = 33∨c = 43 then (c,r) else (0,c :: r)
abbrev aqn:=List Int×List Int
def apR:List UInt8:=[64,115,116,114,101,110,103,116,104]
def wordOk (w:List UInt8):Bool:=w == apR || (apS (aob w).2).2
structure apK (p:aqn):Prop where
  nd:p.1.Nodup
  rg:∀ x∈p.1,1≤x∧x≤16
  dj:∀ x∈p.1,x ∉ p.2
theorem aph {l:List Int} (hn:l.Nodup) (hr:∀ x∈l,1≤x∧x≤16):l.length≤16:=by
  have hs:l ⊆ ack.map yT.code:=by
    intro x hx
    have h:=hr x hx
    have e:ack.map yT.code = [1,2,3,4,5,6,7,8,9,10,11,12,13,14,15,16]:=by decide
    rw [e];simp;omega
  have:=hn.length_le_of_subset hs
  have e:(ack.map yT.code).length = 16:=by decide
  omega
theorem apK.len {p:aqn} (h:apK p):p.1.length≤16:=aph h.nd h.rg
end Av
end
section
set_option linter.unusedSimpArgs false
set_option linter.unusedVariables false
set_option maxRecDepth 10000
set_option maxHeartbeats 4000000
namespace Av
open Go
attribute [local irreducible] AWp WY Vp Vq awS awC V1 awQ Uh Q9 YQ VZ awR YT awB okR Ww ris
theorem acr (c:UInt8):∀ (s cur t:List UInt8),V0 c cur (s++c :: t) = V0 c cur s++V0 c [] t
  | [],cur,t=>by simp [V0]
  | x :: r,cur,t=>by
    rw [List.cons_append,V0,V0]
    split
    · rw [acr c r [] t];rfl
    · exact acr c r _ t
theorem aco (c:UInt8) (s t:List UInt8):Uk c (s++[c]++t) = Uk c s++Uk c t:=by
  rw [List.append_assoc,List.singleton_append];exact acr c s [] t
theorem aeg (c:UInt8):∀ (s cur:List UInt8),c ∉ s→V0 c cur s = [cur++s]
  | [],cur,_=>by simp [V0]
  | x :: r,cur,h=>by
    simp only [List.mem_cons,not_or] at h
    rw [V0,if_neg (fun e=>h.1 e.symm),aeg c r _ h.2];simp
end Av
end
section
namespace Av
open Go
structure EvL (Γ:Env) (f:FuncId) (args:List V) (sz:Nat) (xs:List V) (res:V) (ys:List V):Prop where
  ev:Ev Γ f (.hd 0 0 xs.length :: args) [.buf true sz xs] res [.buf true sz ys]
  cl:res.closed
theorem aqg {Γ:Env} {b:Nat} {r:List AO} {s:St} {d:Option Nat} {f:FuncId} {acts:List V} {res:V} {K:St→Prop} {a sz n:Nat} {xs ys:List V}
    (ha:s.o a = some (.buf true sz xs)) (h:EvL Γ f (Wy s.o acts) sz xs res ys) (hn:n = xs.length) (hc:JU s.o (some []) acts) (hab:a < b)
    (hk:WY Γ (b + KK) r { t:=(s.put d res).t,o:=upd s.o a (some (.buf true sz ys)),n:=s.n } K):awC Γ b r s d f (.hd a 0 n :: acts) K:=by
  subst hn
  refine jN ⟨_,_,_,_,[a],some [],h.ev,⟨?_,Ud s.o [a] [] (fun x hx=>by cases hx) acts hc⟩,⟨⟨_,ha,rfl,rfl⟩,trivial⟩,by simp,?_,by simp,by simp [KK],fun h=>by simp at h,?_⟩
  · simp [conv]
  · intro x hx
    simp only [List.mem_singleton] at hx
    subst hx;exact hab
  · rw [Qj _ _ h.cl]
    simp only [Kl,qW,Ob.ren,ap7]
    exact hk
theorem Ut {Γ:Env} {b:Nat} {r:List AO} {s:St} {d:Option Nat} {f:FuncId} {x:V} {acts args:List V} {okf:Option (List Nat)→Prop} {res:V} {K:St→Prop} {a sz n:Nat} {xs ys:List V}
    (ha:s.o a = some (.buf true sz xs)) (h:EvL Γ f args sz xs res ys) (hab:decide (a < b) = true) (hn:n = xs.length) (hc:JU s.o (some []) acts)
    (hk:WY Γ (b + KK) r { t:=(s.put d res).t,o:=upd s.o a (some (.buf true sz ys)),n:=s.n } K):anW Γ b r s d f (.hd a 0 n :: acts) (x :: args) okf K:=by
  intro h1 _
  simp only [Wy,List.cons.injEq] at h1
  obtain ⟨_,rfl⟩:=h1
  exact aqg ha h hn hc (of_decide_eq_true hab) hk
theorem jd {Γ:Env} {f:FuncId} {nt:Nat} {ac:AC} {rs:List X0} (hb:Has Γ.P f nt ac rs) {args xs ys:List V} {sz:Nat} {res:V} (ha:args.length + 1≤nt) (hr:res.closed)
    (h:∀ C:Ctx,C.env = Γ→C.m = 1→AWp C nt ac { t:=(UW (.hd 0 0 xs.length :: args) []).t,o:=abA [(0,.buf true sz xs)],n:=1 } (ad8 1 rs res [.buf true sz ys]) (fun _ _=>False) (ad8 1 rs res [.buf true sz ys])):EvL Γ f args sz xs res ys:=by
  refine ⟨jc hb (by simpa using ha) fun C hC hm=>?_,hr⟩
  refine (congrArg (fun s=>AWp C nt ac s _ _ _) ?_).mp (h C hC hm)
  simp only [UW]
  congr 1
  funext k
  match k with
  | 0=>rfl
  | k + 1=>simp [abA]
theorem xi {rs:List X0} {res:V} {s:St} {xs ys:List V} {sz:Nat} (vs:List V) (h:adH s rs = some vs) (ho:s.o 0 = some (.buf true sz xs)) (hc:conv s.o [0] none (ajB vs) res) (hx:xs = ys):ad8 1 rs res [.buf true sz ys] s:=by
  subst hx
  exact wt rs vs _ h ⟨[0],none,hc,⟨⟨_,ho,fun h=>h,rfl,rfl⟩,trivial⟩,by simp,rfl⟩
@[go_sem] theorem aoG (l:List Int):(∀ y∈l.map V.int,y.cells.length = 1) = True:=eq_true (by intro y hy;simp only [List.mem_map] at hy;obtain ⟨x,_,rfl⟩:=hy;rfl)
@[go_sem] theorem aoF (l:List (List UInt8)):(∀ y∈l.map V.str,y.cells.length = 1) = True:=eq_true (by intro y hy;simp only [List.mem_map] at hy;obtain ⟨x,_,rfl⟩:=hy;rfl)
end Av
end
section
set_option linter.unusedSimpArgs false
set_option linter.unusedVariables false
set_option maxRecDepth 10000
set_option maxHeartbeats 4000000
namespace Av
open Go
attribute [local irreducible] AWp WY Vp Vq awS awC V1 awQ Uh Q9 YQ VZ awR YT awB okR Ww ris
theorem VF {α β:Type} (f:α→β) (l:List α):(l.map f).take l.length = l.map f:=by rw [List.take_of_length_le (by simp)]
end Av
end
section
set_option linter.unusedSimpArgs false
set_option linter.unusedVariables false
set_option maxRecDepth 10000
set_option maxHeartbeats 4000000
namespace Av
open Go
attribute [local irreducible] AWp WY Vp Vq awS awC V1 awQ Uh Q9 YQ VZ awR YT awB okR Ww ris
theorem acp (c:UInt8):∀ (r cur w:List UInt8),w∈V0 c cur r→w.length≤cur.length + r.length
  | [],cur,w,h=>by simp only [V0,List.mem_singleton] at h;subst h;simp
  | x :: r,cur,w,h=>by
    rw [V0] at h
    split at h
    · rcases List.mem_cons.1 h with rfl|h
      · simp
      · have:=acp c r [] w h;simp at this ⊢;omega
    · have:=acp c r _ w h;simp at this ⊢;omega
theorem ajV {c:UInt8} {s w:List UInt8} (h:w∈Uk c s):w.length≤s.length:=by simpa using acp c s [] w h
end Av
end
section
set_option linter.unusedSimpArgs false
set_option linter.unusedVariables false
set_option maxRecDepth 10000
set_option maxHeartbeats 4000000
namespace Av
open Go
attribute [local irreducible] AWp WY Vp Vq awS awC V1 awQ Uh Q9 YQ VZ awR YT awB okR Ww ris
def vg (Γ:Env) (f:Nat):Prop:=∀ (s:List UInt8) (c:UInt8) (hs:s.length < 4294967281),EvC Γ f [V.str s,V.str [c]] (.sl 1 ((Uk c s).map V.str))
end Av
end
section
set_option linter.unusedSimpArgs false
set_option linter.unusedVariables false
set_option maxRecDepth 10000
set_option maxHeartbeats 4000000
namespace Av
open Go
attribute [local irreducible] AWp WY Vp Vq awS awC V1 awQ Uh Q9 YQ VZ awR YT awB okR Ww ris
def VT:AC:=Qo [0] (.reg [xo 2 (.mknil 1)]) (Qo [0] (Qo [0,4] (.reg [mv 3 0,xo 4 (.isnil false (.t 3))]) (.cond (.t 4) (Qo [2] (.reg [xo 2 (.mknil 1)]) (.ret)) (.skip))) (Qo [2] (.reg [xo 5 (.bslice 0 1 false [(.int .i64 0)] []),mv 6 0,xo 7 (.append 1 8 [(.int .i64 0)] (.t 5) (.t 6)),mv 2 7]) (.ret))) def r_slices_Clone___int_int:List X0:=[.tmp 2]
def VH (Γ:Env) (f:Nat):Prop:=∀ (l:List Int) (hl:l.length < 2 ^ 34),EvW Γ f [.sl 1 (l.map V.int)] 1 (l.map V.int)
theorem xC {Γ:Env} {f:Nat} (h:Has Γ.P f 8 VT r_slices_Clone___int_int) :VH Γ f:=by
  intro l hl
  refine aiK h (by simp) (by first|exact al0 _|exact ala _) fun C hC hm=>?_
  subst hC
  unfold VT
  rcases l with _|⟨x,r⟩
  · repeat' (first|refine Qb fun K' hK=>?_|refine Qe fun K' hK=>?_|refine Qc ?_|refine Qd ?_|refine Qa ?_|((first|refine Qg ⟨_,rfl,fun hc=>?_,fun hc=>?_⟩|refine Qs (fun hc=>?_) (fun hc=>?_)|refine Qt (fun hc=>?_) (fun hc=>?_))<;>first|(cases hc;done)|((try simp only [znz] at hc);first|exact znf|skip))|refine Qi ?_|refine Qf ?_|simp (maxSteps:=1000000) only [go_sem]|(refine hK _ ?_;clear hK K')|apply And.intro|exact zlo|omega|exact zms)
    intro t
    rcases t with _|_
    · repeat' (first|refine Qb fun K' hK=>?_|refine Qe fun K' hK=>?_|refine Qc ?_|refine Qd ?_|refine Qa ?_|((first|refine Qg ⟨_,rfl,fun hc=>?_,fun hc=>?_⟩|refine Qs (fun hc=>?_) (fun hc=>?_)|refine Qt (fun hc=>?_) (fun hc=>?_))<;>first|(cases hc;done)|((try simp only [znz] at hc);first|exact znf|skip))|refine Qi ?_|refine Qf ?_|simp (maxSteps:=1000000) only [go_sem]|(refine hK _ ?_;clear hK K')|apply And.intro|exact zlo|omega|exact zms)
      all_goals (refine ami (xs:=[]) _ _ rfl ?_ ?_<;>first|rfl|(simp;done))
    · repeat' (first|refine Qb fun K' hK=>?_|refine Qe fun K' hK=>?_|refine Qc ?_|refine Qd ?_|refine Qa ?_|((first|refine Qg ⟨_,rfl,fun hc=>?_,fun hc=>?_⟩|refine Qs (fun hc=>?_) (fun hc=>?_)|refine Qt (fun hc=>?_) (fun hc=>?_))<;>first|(cases hc;done)|((try simp only [znz] at hc);first|exact znf|skip))|refine Qi ?_|refine Qf ?_|simp (maxSteps:=1000000) only [go_sem]|(refine hK _ ?_;clear hK K')|apply And.intro|exact zlo|omega|exact zms)
      all_goals (refine ami (xs:=[]) _ _ rfl ?_ ?_<;>first|rfl|(simp;done))
  · repeat' (first|refine Qb fun K' hK=>?_|refine Qe fun K' hK=>?_|refine Qc ?_|refine Qd ?_|refine Qa ?_|((first|refine Qg ⟨_,rfl,fun hc=>?_,fun hc=>?_⟩|refine Qs (fun hc=>?_) (fun hc=>?_)|refine Qt (fun hc=>?_) (fun hc=>?_))<;>first|(cases hc;done)|((try simp only [znz] at hc);first|exact znf|skip))|refine Qi ?_|refine Qf ?_|simp (maxSteps:=1000000) only [go_sem]|(refine hK _ ?_;clear hK K')|apply And.intro|exact zlo|omega|exact zms)
    all_goals first
      | (simp only [List.length_map,List.length_cons] at hl ⊢;omega)
      | (refine ami (xs:=V.int x :: List.map V.int r) _ _ rfl ?_ ?_<;>first|rfl|(simp;done))
end Av
end
section
set_option linter.unusedSimpArgs false
set_option linter.unusedVariables false
set_option maxRecDepth 10000
set_option maxHeartbeats 4000000
namespace Av
open Go
attribute [local irreducible] AWp WY Vp Vq awS awC V1 awQ Uh Q9 YQ VZ awR YT awB okR Ww ris
end Av
end

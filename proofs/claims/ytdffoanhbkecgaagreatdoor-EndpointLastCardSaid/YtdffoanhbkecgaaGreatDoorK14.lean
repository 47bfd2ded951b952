/- A nil slice in a variable may be seen as a header of an empty buffer of one's own. -/
import Derived.Test.YtdffoanhbkecgaaGreatDoorK13
set_option linter.unusedVariables false
set_option linter.unusedSimpArgs false
section
set_option linter.unusedSimpArgs false
set_option linter.unusedVariables false
set_option maxRecDepth 10000
set_option maxHeartbeats 4000000
namespace Av
open Go
attribute [local irreducible] AWp V7 Kz KE awS awC jS awQ jY JB Wl jJ awR Ws awB okR Vo ris
end Av
end
section
namespace Av
open Go
theorem Good.adopt {C:Ctx} {w:World} {Z:Nat→Nat→Prop} {μ:Nat→Option Cn} {o:Nat→Option Ob} (h:Good C w Z μ o) {x i n sz:Nat} {wr:Bool} {cells:List V}
    (ho:o x = some (.box wr cells)) (hi:cells[i]? = some (.sc (.slice none 0 0))) (hn:μ n = none) (hm:C.m≤n) :
    Good C w Z (upd μ n (some { block:=0,void:=true })) (upd (upd o x (some (.box wr (cells.set i (.hd n 0 0))))) n (some (.buf true sz []))):=by
  have hon:=h.free hn
  have hxn:x≠n:=by rintro rfl;rw [hon] at ho;cases ho
  have hmu:=jG (c:={ block:=0,void:=true }) hn
  have old:∀ a y,a≠n→upd (upd o x (some (.box wr (cells.set i (.hd n 0 0))))) n (some (.buf true sz [])) a = some y→∃ z c,o a = some z∧μ a = some c∧(y.live c↔z.live c)∧wX w Z (upd μ n (some { block:=0,void:=true })) c y∧(z.live c→c.block < w.heap.size∧(C.w0.heap.size≤c.block∨C.F c.block)):=by
    intro a y han hy
    rw [J6 _ _ han] at hy
    by_cases hax:a = x
    · subst hax
      rw [Ja] at hy;cases hy
      obtain ⟨c,hc,⟨h1,⟨cs,ty,h2,h3,h4⟩,h5⟩,hl⟩:=h.ob _ _ ho
      refine ⟨_,c,ho,hc,Iff.rfl,⟨h1,⟨cs,ty,h2,by simpa using h3,fun j hj hj'=>?_⟩,h5⟩,hl⟩
      have hj2:j < cells.length:=by simpa using hj
      have h6:=h4 j hj2 hj'
      refine ⟨?_,h6.2⟩
      by_cases hji:j = i
      · subst hji
        rw [List.getElem_set_self]
        have h7:cells[j] = .sc (.slice none 0 0):=by rw [List.getElem?_eq_getElem hj2] at hi;exact Option.some.inj hi
        have h8:=h6.1
        rw [h7] at h8
        generalize cs[j] = v at h8
        cases h8
        exact .hd (Ja _ _ _) (by simp [Hdr])
      · rw [List.getElem_set_ne (fun e=>hji e.symm)]
        exact h6.1.mono (fun _ _ _=>rfl) (fun _ _ h=>h) hmu
    · rw [J6 _ _ hax] at hy
      obtain ⟨c,hc,hok,hl⟩:=h.ob a y hy
      exact ⟨y,c,hy,hc,Iff.rfl,hok.mono (fun _ _ _=>rfl) (fun _ _ h=>h) hmu (fun _=>rfl) (fun _ _ h=>h),hl⟩
  refine ⟨fun a y hy=>?_,fun a b y z c d hab hy hz hc hd lc ld=>?_,h.zlt,h.grow,h.frame,h.zsub,h.zsup,h.zkeep,fun k hk=>?_,h.oo⟩
  · by_cases han:a = n
    · subst han
      rw [Ja] at hy;cases hy
      exact ⟨_,Ja _ _ _,⟨rfl,fun hv=>by cases hv⟩,fun hl=>by cases hl⟩
    · obtain ⟨z,c,h1,h2,h3,h4,h5⟩:=old a y han hy
      exact ⟨c,hmu a c h2,h4,fun hl=>h5 (h3.1 hl)⟩
  · by_cases han:a = n
    · subst han
      rw [Ja] at hy hc;cases hy;cases hc;cases lc
    by_cases hbn:b = n
    · subst hbn
      rw [Ja] at hz hd;cases hz;cases hd;cases ld
    obtain ⟨y',c',h1,h2,h3,_⟩:=old a y han hy
    obtain ⟨z',d',g1,g2,g3,_⟩:=old b z hbn hz
    have e1:=hmu a c' h2;rw [hc] at e1;cases e1
    have e2:=hmu b d' g2;rw [hd] at e2;cases e2
    exact h.sep a b y' z' c d hab h1 g1 h2 g2 (h3.1 lc) (g3.1 ld)
  · rw [J6 _ _ (by omega)];exact h.fix k hk
section
variable {C:Ctx} {nt:Nat} {s:St} {K:St→Prop} {E:Nat→St→Prop} {R:St→Prop}
theorem abt {c:AC} (x i sz:Nat) {wr:Bool} {cells:List V} (ho:s.o x = some (.box wr cells)) (hi:cells[i]? = some (.sc (.slice none 0 0)))
    (h:AWp C nt c { t:=s.t,o:=upd (upd s.o x (some (.box wr (cells.set i (.hd s.n 0 0))))) s.n (some (.buf true sz [])),n:=s.n + 1 } K E R):AWp C nt c s K E R:=by
  intro code hc a w hs
  obtain ⟨Z,μ,hg,ht,hf,hm,hd,hn⟩:=hs
  refine h code hc a w ⟨Z,_,hg.adopt ho hi (hf _ (Nat.le_refl _)) hm,fun j=>(ht j).mono (fun _ _ _=>rfl) (fun _ _ h=>h) (jG (hf _ (Nat.le_refl _))),fun y hy=>?_,by show C.m≤s.n + 1;omega,hd,hn⟩
  have hy2:s.n + 1≤y:=hy
  rw [J6 _ _ (by omega)]
  exact hf y (by omega)
end
end Av
end
section
namespace Av
open Go
theorem Good.move {C:Ctx} {w:World} {Z:Nat→Nat→Prop} {μ:Nat→Option Cn} {o:Nat→Option Ob} (h:Good C w Z μ o) {x i a n off len sz:Nat} {wr wr2:Bool} {cells xs:List V} {c:Cn}
    (ho:o x = some (.box wr cells)) (hi:cells[i]? = some (.hd a off len)) (ha:o a = some (.buf wr2 sz xs)) (hc:μ a = some c) (hn:μ n = none) (hm:C.m≤n) :
    Good C w Z (upd μ n (some c)) (upd (upd (upd o a (some .dead)) x (some (.box wr (cells.set i (.hd n off len))))) n (some (.buf wr2 sz xs))):=by
  have hon:=h.free hn
  have hxn:x≠n:=by rintro rfl;rw [hon] at ho;cases ho
  have han:a≠n:=by rintro rfl;rw [hon] at ha;cases ha
  have hxa:x≠a:=by rintro rfl;rw [ho] at ha;cases ha
  have hmu:=jG (c:=c) hn
  have old:∀ b y,upd (upd (upd o a (some .dead)) x (some (.box wr (cells.set i (.hd n off len))))) n (some (.buf wr2 sz xs)) b = some y →
      (b = a∧y = .dead)∨∃ z d,o (if b = n then a else b) = some z∧μ (if b = n then a else b) = some d∧upd μ n (some c) b = some d∧(y.live d↔z.live d)∧wX w Z (upd μ n (some c)) d y∧(z.live d→d.block < w.heap.size∧(C.w0.heap.size≤d.block∨C.F d.block))∧(b≠a):=by
    intro b y hy
    by_cases hbn:b = n
    · subst hbn
      rw [Ja] at hy;cases hy
      obtain ⟨d,hd,hok,hl⟩:=h.ob _ _ ha
      rw [hc] at hd;cases hd
      exact .inr ⟨_,c,by rw [if_pos rfl];exact ha,by rw [if_pos rfl];exact hc,Ja _ _ _,Iff.rfl,hok.mono (fun _ _ _=>rfl) (fun _ _ h=>h) hmu (fun _=>rfl) (fun _ _ h=>h),hl,fun e=>han e.symm⟩
    · rw [J6 _ _ hbn] at hy
      rw [if_neg hbn,J6 _ _ hbn]
      by_cases hbx:b = x
      · subst hbx
        rw [Ja] at hy;cases hy
        obtain ⟨d,hd,⟨h1,⟨cs,ty,h2,h3,h4⟩,h5⟩,hl⟩:=h.ob _ _ ho
        refine .inr ⟨_,d,ho,hd,hd,Iff.rfl,⟨h1,⟨cs,ty,h2,by simpa using h3,fun j hj hj'=>?_⟩,h5⟩,hl,hxa⟩
        have hj2:j < cells.length:=by simpa using hj
        have h6:=h4 j hj2 hj'
        refine ⟨?_,h6.2⟩
        by_cases hji:j = i
        · subst hji
          rw [List.getElem_set_self]
          have h7:cells[j] = .hd a off len:=by rw [List.getElem?_eq_getElem hj2] at hi;exact Option.some.inj hi
          have h8:=h6.1
          rw [h7] at h8
          generalize cs[j] = v at h8
          cases h8
          rename_i c' hc' hv
          rw [hc] at hc';cases hc'
          exact .hd (Ja _ _ _) hv
        · rw [List.getElem_set_ne (fun e=>hji e.symm)]
          exact h6.1.mono (fun _ _ _=>rfl) (fun _ _ h=>h) hmu
      · rw [J6 _ _ hbx] at hy
        by_cases hba:b = a
        · subst hba
          rw [Ja] at hy;cases hy
          exact .inl ⟨rfl,rfl⟩
        · rw [J6 _ _ hba] at hy
          obtain ⟨d,hd,hok,hl⟩:=h.ob b y hy
          exact .inr ⟨y,d,hy,hd,hd,Iff.rfl,hok.mono (fun _ _ _=>rfl) (fun _ _ h=>h) hmu (fun _=>rfl) (fun _ _ h=>h),hl,hba⟩
  refine ⟨fun b y hy=>?_,fun b d y z e f hbd hy hz he hf lb ld=>?_,h.zlt,h.grow,h.frame,h.zsub,h.zsup,h.zkeep,fun k hk=>?_,h.oo⟩
  · rcases old b y hy with ⟨rfl,rfl⟩|⟨z,d,h1,h2,h3,h4,h5,h6,_⟩
    · exact ⟨c,hmu _ _ hc,trivial,fun hl=>hl.elim⟩
    · exact ⟨d,h3,h5,fun hl=>h6 (h4.1 hl)⟩
  · rcases old b y hy with ⟨rfl,rfl⟩|⟨y',e',h1,h2,h3,h4,_,_,h7⟩
    · exact lb.elim
    · rcases old d z hz with ⟨rfl,rfl⟩|⟨z',f',g1,g2,g3,g4,_,_,g7⟩
      · exact ld.elim
      · rw [he] at h3;cases h3
        rw [hf] at g3;cases g3
        refine h.sep _ _ y' z' _ _ ?_ h1 g1 h2 g2 (h4.1 lb) (g4.1 ld)
        by_cases hbn:b = n
        · subst hbn
          rw [if_pos rfl,if_neg (fun e=>hbd e.symm)]
          exact fun e=>g7 e.symm
        · rw [if_neg hbn]
          by_cases hdn:d = n
          · subst hdn;rw [if_pos rfl];exact h7
          · rw [if_neg hdn];exact hbd
  · rw [J6 _ _ (by omega)];exact h.fix k hk
section
variable {C:Ctx} {nt:Nat} {s:St} {K:St→Prop} {E:Nat→St→Prop} {R:St→Prop}
theorem ahM {c:AC} (x i a:Nat) {off len sz:Nat} {wr wr2:Bool} {cells xs:List V} (ho:s.o x = some (.box wr cells)) (hi:cells[i]? = some (.hd a off len)) (ha:s.o a = some (.buf wr2 sz xs))
    (h:AWp C nt c { t:=s.t,o:=upd (upd (upd s.o a (some .dead)) x (some (.box wr (cells.set i (.hd s.n off len))))) s.n (some (.buf wr2 sz xs)),n:=s.n + 1 } K E R):AWp C nt c s K E R:=by
  intro code hc u w hs
  obtain ⟨Z,μ,hg,ht,hf,hm,hd,hn⟩:=hs
  obtain ⟨d,hmu,_⟩:=hg.ob _ _ ha
  refine h code hc u w ⟨Z,_,hg.move ho hi ha hmu (hf _ (Nat.le_refl _)) hm,fun j=>(ht j).mono (fun _ _ _=>rfl) (fun _ _ h=>h) (jG (hf _ (Nat.le_refl _))),fun y hy=>?_,by show C.m≤s.n + 1;omega,hd,hn⟩
  have hy2:s.n + 1≤y:=hy
  rw [J6 _ _ (by omega)]
  exact hf y (by omega)
end
def alY (i j:Nat) (xs ys:List V):Ob:=.box true [.hd i 0 xs.length,.hd j 0 ys.length]
structure EvT (Γ:Env) (f:FuncId) (args:List V) (sx sy:Nat) (xs ys:List V) (res:V) (xs2 ys2:List V):Prop where
  ev:Ev Γ f (.ptr 0 0 :: args) [alY 1 2 xs ys,.buf true sx xs,.buf true sy ys] res [alY 3 4 xs2 ys2,.dead,.dead,.buf true sx xs2,.buf true sy ys2]
  cl:res.closed
theorem amV {Γ:Env} {b:Nat} {r:List AO} {s:St} {d:Option Nat} {f:FuncId} {acts:List V} {res:V} {K:St→Prop} {a p q sx sy n m:Nat} {xs ys xs2 ys2:List V}
    (ha:s.o a = some (.box true [.hd p 0 n,.hd q 0 m])) (hp:s.o p = some (.buf true sx xs)) (hq:s.o q = some (.buf true sy ys))
    (h:EvT Γ f (X9 s.o acts) sx sy xs ys res xs2 ys2) (hn:n = xs.length) (hm:m = ys.length) (hc:JN s.o (some []) acts) (h1:a≠p) (h2:a≠q) (h3:p≠q) (hab:a < b) (hpb:p < b) (hqb:q < b)
    (hk:V7 Γ (b + KK) r { t:=(s.put d res).t,o:=upd (upd (upd (upd (upd s.o (b + 1) (some (.buf true sy ys2))) b (some (.buf true sx xs2))) q (some .dead)) p (some .dead)) a (some (.box true [.hd b 0 xs2.length,.hd (b + 1) 0 ys2.length])),n:=s.n } K):awC Γ b r s d f (.ptr a 0 :: acts) K:=by
  subst hn;subst hm
  refine V4 ⟨_,_,_,_,[a,p,q],some [],h.ev,⟨?_,Wx s.o [a,p,q] [] (fun x hx=>by cases hx) acts hc⟩,⟨⟨_,ha,?_⟩,⟨_,hp,rfl,rfl⟩,⟨_,hq,rfl,rfl⟩,trivial⟩,by simp [h1,h2,h3],?_,by simp,by simp [KK],fun h=>by simp at h,?_⟩
  · simp [conv]
  · show YA _ _ _ _ _
    simp [YA,conv]
  · intro x hx
    simp only [List.mem_cons,List.not_mem_nil,or_false] at hx
    rcases hx with rfl|rfl|rfl<;>assumption
  · rw [Qo _ _ h.cl]
    simp only [VY,Ud,Ob.ren,alY,y0,V.ren,sig,amD]
    exact hk
theorem yU {Γ:Env} {b:Nat} {r:List AO} {s:St} {d:Option Nat} {f:FuncId} {x:V} {acts args:List V} {okf:Option (List Nat)→Prop} {res:V} {K:St→Prop} {a p q sx sy n m:Nat} {xs ys xs2 ys2:List V}
    (ha:s.o a = some (.box true [.hd p 0 n,.hd q 0 m])) (hp:s.o p = some (.buf true sx xs)) (hq:s.o q = some (.buf true sy ys)) (h:EvT Γ f args sx sy xs ys res xs2 ys2)
    (hd:(decide (a≠p∧a≠q∧p≠q∧a < b∧p < b∧q < b)) = true) (hn:n = xs.length) (hm:m = ys.length) (hc:JN s.o (some []) acts)
    (hk:V7 Γ (b + KK) r { t:=(s.put d res).t,o:=upd (upd (upd (upd (upd s.o (b + 1) (some (.buf true sy ys2))) b (some (.buf true sx xs2))) q (some .dead)) p (some .dead)) a (some (.box true [.hd b 0 xs2.length,.hd (b + 1) 0 ys2.length])),n:=s.n } K):ajW Γ b r s d f (.ptr a 0 :: acts) (x :: args) okf K:=by
  intro h1 _
  simp only [X9,List.cons.injEq] at h1
  obtain ⟨_,rfl⟩:=h1
  obtain ⟨e1,e2,e3,e4,e5,e6⟩:=of_decide_eq_true hd
  exact amV ha hp hq h hn hm hc e1 e2 e3 e4 e5 e6 hk
theorem adJ {Γ:Env} {f:FuncId} {nt:Nat} {ac:AC} {rs:List Y9} (hb:Has Γ.P f nt ac rs) {args xs ys xs2 ys2:List V} {sx sy:Nat} {res:V} (ha:args.length + 1≤nt) (hr:res.closed)
    (h:∀ C:Ctx,C.env = Γ→C.m = 3→AWp C nt ac { t:=(VO (.ptr 0 0 :: args) []).t,o:=acz [(0,.box true [.hd 3 0 xs.length,.hd 4 0 ys.length]),(1,.dead),(2,.dead),(3,.buf true sx xs),(4,.buf true sy ys)],n:=5 }
      (aan 3 rs res [alY 3 4 xs2 ys2,.dead,.dead,.buf true sx xs2,.buf true sy ys2]) (fun _ _=>False) (aan 3 rs res [alY 3 4 xs2 ys2,.dead,.dead,.buf true sx xs2,.buf true sy ys2])):EvT Γ f args sx sy xs ys res xs2 ys2:=by
  refine ⟨V6 hb (by simpa using ha) fun C hC hm=>?_,hr⟩
  refine ahM 0 0 1 (by rfl) (by rfl) (by rfl) ?_
  refine ahM 0 1 2 (by rfl) (by rfl) (by rfl) ?_
  have e:=h C hC hm
  refine (congrArg (fun s=>AWp C nt ac s _ _ _) ?_).mp e
  congr 1
  funext k
  match k with
  | 0=>rfl
  | 1=>rfl
  | 2=>rfl
  | 3=>rfl
  | 4=>rfl
  | k + 5=>simp [upd,acz,VO]
theorem ji {rs:List Y9} {res:V} {s:St} {xs ys xs' ys':List V} {sx sy:Nat} (i j n m:Nat) (vs:List V) (h:acG s rs = some vs) (hc:conv s.o [0,1,2,i,j] none (ahC vs) res)
    (h0:s.o 0 = some (.box true [.hd i 0 n,.hd j 0 m])) (hi:s.o i = some (.buf true sx xs')) (hj:s.o j = some (.buf true sy ys'))
    (hi3:3≤i) (hj3:3≤j) (hij:i≠j) (h1:∃ x,s.o 1 = some x) (h2:∃ x,s.o 2 = some x) (hx:xs' = xs) (hy:ys' = ys) (hn:n = xs.length) (hm:m = ys.length):aan 3 rs res [alY 3 4 xs ys,.dead,.dead,.buf true sx xs,.buf true sy ys] s:=by
  subst hn;subst hm;subst hx;subst hy
  obtain ⟨x1,e1⟩:=h1
  obtain ⟨x2,e2⟩:=h2
  refine jN rs vs _ h ⟨[0,1,2,i,j],none,hc,⟨⟨_,h0,fun h=>h,?_⟩,⟨_,e1,?_⟩,⟨_,e2,?_⟩,⟨_,hi,fun h=>h,rfl,rfl⟩,⟨_,hj,fun h=>h,rfl,rfl⟩,trivial⟩,?_,rfl⟩
  · simp [YA,conv]
  · simp [akU]
  · simp [akU]
  · simp;omega
end Av
end
section
set_option linter.unusedSimpArgs false
set_option linter.unusedVariables false
set_option maxRecDepth 10000
set_option maxHeartbeats 4000000
namespace Av
open Go
attribute [local irreducible] AWp V7 Kz KE awS awC jS awQ jY JB Wl jJ awR Ws awB okR Vo ris
def WF:List UInt8→UInt8×List UInt8
  | []=>(0,[])
  | c :: r=>if c = 45∨c = 33∨c = 43 then (c,r) else (0,c :: r)
abbrev aiO:=List Int×List Int
def doG (g:UInt8) (set:List Int) (p:aiO):aiO :=
  if g = 45 then (Q7 p.1 set,p.2)
  else if g = 33 then (Q7 p.1 set,p.2++set)
  else if g = 43 then (Q7 p.1 set++Q7 p.1 (Q7 p.1 set),p.2)
  else (p.1++Q7 (Q7 set p.1) p.2,p.2)
def akS:List UInt8:=[64,115,116,114,101,110,103,116,104]
def wordOk (w:List UInt8):Bool:=w == akS || (aaS (WF w).2).2
def doR (w:List UInt8) (p:aiO):aiO:=if w == akS then (xU p.1,p.2) else doG (WF w).1 (aaS (WF w).2).1 p
def goP:List (List UInt8)→Nat→aiO→List Int×Int×Int
  | [],_,p=>(p.1,0,0)
  | w :: r,i,p=>if wordOk w = true then goP r (i + 1) (doR w p) else ([],((i + 1:Nat):Int),17)
def UL (s:List UInt8):List Int×Int×Int :=
  if s.length > 8192 then ([],0,3) else if s = [] then ([],0,0) else if (Yh 58 s).length > 200 then ([],0,3) else goP (Yh 58 s) 0 ([],[])
theorem aaM (L:List (List UInt8)):(VP L JD).Sublist (JD.map Q9.code):=(List.filter_sublist (l:=JD)).map _
theorem akH:(JD.map Q9.code).Nodup:=by decide
theorem akG:∀ x∈JD.map Q9.code,1≤x∧x≤16:=by decide
theorem aiX (s:List UInt8):(aaS s).1.Nodup:=by
  unfold aaS;split
  · exact akH.sublist (aaM _)
  · exact List.nodup_nil
theorem ald (s:List UInt8):∀ x∈(aaS s).1,1≤x∧x≤16:=by
  unfold aaS;split
  · exact fun x hx=>akG x ((aaM _).subset hx)
  · intro x hx;cases hx
theorem ae3 (s:List UInt8):(aaS s).1.length≤16:=by
  unfold aaS;split
  · have:=(aaM (Yh 43 s)).length_le
    have e:(JD.map Q9.code).length = 16:=by decide
    show (VP (Yh 43 s) JD).length≤16
    omega
  · simp
theorem XS {x:Int} {l m:List Int}:x∈Q7 l m↔x∈l∧x ∉ m:=by simp [Q7]
theorem aeT (p:aiO) (m:List Int):(Q7 p.1 m++Q7 p.1 (Q7 p.1 m)).Perm p.1:=by
  have hp:Q7 p.1 (Q7 p.1 m) = p.1.filter fun x=>m.contains x:=by
    unfold Q7
    refine List.filter_congr fun x hx=>?_
    cases hm:m.contains x<;>simp_all
  rw [hp,Q7]
  have:∀ l:List Int,((l.filter fun x=>!m.contains x)++(l.filter fun x=>m.contains x)).Perm l:=by
    intro l;induction l with
    | nil=>exact .refl _
    | cons x r ih =>
      cases hx:m.contains x
      · simp only [List.filter_cons,hx,Bool.not_false,if_true,Bool.false_eq_true,if_false,List.cons_append];exact ih.cons x
      · simp only [List.filter_cons,hx,Bool.not_true,if_true,Bool.false_eq_true,if_false];exact List.perm_middle.trans (ih.cons x)
  exact this _
theorem ajJ (w:List UInt8) (p:aiO):(doR w p).1.length≤p.1.length + 16∧(doR w p).2.length≤p.2.length + 16:=by
  have h:=ae3 (WF w).2
  unfold doR;split
  · simp [adb]
  · unfold doG
    have a:=Xi p.1 (aaS (WF w).2).1
    have b:=Xi (Q7 (aaS (WF w).2).1 p.1) p.2
    have c:=Xi (aaS (WF w).2).1 p.1
    have part:(Q7 p.1 (aaS (WF w).2).1++Q7 p.1 (Q7 p.1 (aaS (WF w).2).1)).length≤p.1.length:=Nat.le_of_eq (aeT _ _).length_eq
    split
    · simp;omega
    · split
      · simp;omega
      · split
        · simp only;omega
        · simp;omega
theorem ajA (out:List Int) (x:Int):(agF out x).Perm (x :: out):=by
  unfold agF
  rw [List.append_assoc,List.singleton_append]
  exact List.perm_middle.trans (by rw [List.take_append_drop])
theorem aeP:∀ (l out:List Int),(l.foldl agF out).Perm (out++l)
  | [],out=>by simp
  | x :: r,out=>by
    rw [List.foldl_cons]
    refine (aeP r _).trans ?_
    refine ((ajA out x).append_right r).trans ?_
    rw [List.cons_append]
    exact List.perm_middle.symm
theorem ahW (l:List Int):(xU l).Perm l:=by
  have:=aeP l []
  simpa [xU] using this
structure ahe (p:aiO):Prop where
  nd:p.1.Nodup
  rg:∀ x∈p.1,1≤x∧x≤16
  dj:∀ x∈p.1,x ∉ p.2
theorem amc (w:List UInt8) (p:aiO) (h:ahe p):ahe (doR w p):=by
  have nd:=aiX (WF w).2
  have rg:=ald (WF w).2
  unfold doR;split
  · have hp:=ahW p.1
    exact ⟨hp.nodup_iff.2 h.nd,fun x hx=>h.rg x (hp.mem_iff.1 hx),fun x hx=>h.dj x (hp.mem_iff.1 hx)⟩
  · generalize (aaS (WF w).2).1 = m at *
    unfold doG
    split
    · exact ⟨h.nd.sublist List.filter_sublist,fun x hx=>h.rg x (XS.1 hx).1,fun x hx=>h.dj x (XS.1 hx).1⟩
    · split
      · refine ⟨h.nd.sublist List.filter_sublist,fun x hx=>h.rg x (XS.1 hx).1,fun x hx hk=>?_⟩
        have hx:=XS.1 hx
        rcases List.mem_append.1 hk with hk|hk
        · exact h.dj x hx.1 hk
        · exact hx.2 hk
      · split
        · have hp:=aeT p m
          exact ⟨hp.nodup_iff.2 h.nd,fun x hx=>h.rg x (hp.mem_iff.1 hx),fun x hx=>h.dj x (hp.mem_iff.1 hx)⟩
        · refine ⟨?_,fun x hx=>?_,fun x hx=>?_⟩
          · refine List.nodup_append.2 ⟨h.nd,(nd.sublist List.filter_sublist).sublist List.filter_sublist,fun a ha b hb e=>?_⟩
            subst e
            exact (XS.1 (XS.1 hb).1).2 ha
          · rcases List.mem_append.1 hx with hx|hx
            · exact h.rg x hx
            · exact rg x (XS.1 (XS.1 hx).1).1
          · rcases List.mem_append.1 hx with hx|hx
            · exact h.dj x hx
            · exact (XS.1 hx).2
theorem alg:ahe ([],[]):=⟨List.nodup_nil,fun x h=>by simp at h,fun x h=>by simp at h⟩
theorem akY {l:List Int} (hn:l.Nodup) (hr:∀ x∈l,1≤x∧x≤16):l.length≤16:=by
  have hs:l ⊆ JD.map Q9.code:=by
    intro x hx
    have h:=hr x hx
    have e:JD.map Q9.code = [1,2,3,4,5,6,7,8,9,10,11,12,13,14,15,16]:=by decide
    rw [e];simp;omega
  have:=hn.length_le_of_subset hs
  have e:(JD.map Q9.code).length = 16:=by decide
  omega
theorem ahe.len {p:aiO} (h:ahe p):p.1.length≤16:=akY h.nd h.rg
end Av
end
section
set_option linter.unusedSimpArgs false
set_option linter.unusedVariables false
set_option maxRecDepth 10000
set_option maxHeartbeats 4000000
namespace Av
open Go
attribute [local irreducible] AWp V7 Kz KE awS awC jS awQ jY JB Wl jJ awR Ws awB okR Vo ris
theorem abG (c:UInt8):∀ (s cur t:List UInt8),Wn c cur (s++c :: t) = Wn c cur s++Wn c [] t
  | [],cur,t=>by simp [Wn]
  | x :: r,cur,t=>by
    rw [List.cons_append,Wn,Wn]
    split
    · rw [abG c r [] t];rfl
    · exact abG c r _ t
theorem aew (c:UInt8) (s t:List UInt8):Yh c (s++[c]++t) = Yh c s++Yh c t:=by
  rw [List.append_assoc,List.singleton_append];exact abG c s [] t
theorem ada (c:UInt8):∀ (s cur:List UInt8),c ∉ s→Wn c cur s = [cur++s]
  | [],cur,_=>by simp [Wn]
  | x :: r,cur,h=>by
    simp only [List.mem_cons,not_or] at h
    rw [Wn,if_neg (fun e=>h.1 e.symm),ada c r _ h.2];simp
end Av
end
section
namespace Av
open Go
structure EvL (Γ:Env) (f:FuncId) (args:List V) (sz:Nat) (xs:List V) (res:V) (ys:List V):Prop where
  ev:Ev Γ f (.hd 0 0 xs.length :: args) [.buf true sz xs] res [.buf true sz ys]
  cl:res.closed
theorem amY {Γ:Env} {b:Nat} {r:List AO} {s:St} {d:Option Nat} {f:FuncId} {acts:List V} {res:V} {K:St→Prop} {a sz n:Nat} {xs ys:List V}
    (ha:s.o a = some (.buf true sz xs)) (h:EvL Γ f (X9 s.o acts) sz xs res ys) (hn:n = xs.length) (hc:JN s.o (some []) acts) (hab:a < b)
    (hk:V7 Γ (b + KK) r { t:=(s.put d res).t,o:=upd s.o a (some (.buf true sz ys)),n:=s.n } K):awC Γ b r s d f (.hd a 0 n :: acts) K:=by
  subst hn
  refine V4 ⟨_,_,_,_,[a],some [],h.ev,⟨?_,Wx s.o [a] [] (fun x hx=>by cases hx) acts hc⟩,⟨⟨_,ha,rfl,rfl⟩,trivial⟩,by simp,?_,by simp,by simp [KK],fun h=>by simp at h,?_⟩
  · simp [conv]
  · intro x hx
    simp only [List.mem_singleton] at hx
    subst hx;exact hab
  · rw [Qo _ _ h.cl]
    simp only [VY,Ud,Ob.ren,amD]
    exact hk
theorem Ya {Γ:Env} {b:Nat} {r:List AO} {s:St} {d:Option Nat} {f:FuncId} {x:V} {acts args:List V} {okf:Option (List Nat)→Prop} {res:V} {K:St→Prop} {a sz n:Nat} {xs ys:List V}
    (ha:s.o a = some (.buf true sz xs)) (h:EvL Γ f args sz xs res ys) (hab:decide (a < b) = true) (hn:n = xs.length) (hc:JN s.o (some []) acts)
    (hk:V7 Γ (b + KK) r { t:=(s.put d res).t,o:=upd s.o a (some (.buf true sz ys)),n:=s.n } K):ajW Γ b r s d f (.hd a 0 n :: acts) (x :: args) okf K:=by
  intro h1 _
  simp only [X9,List.cons.injEq] at h1
  obtain ⟨_,rfl⟩:=h1
  exact amY ha h hn hc (of_decide_eq_true hab) hk
theorem qz {Γ:Env} {f:FuncId} {nt:Nat} {ac:AC} {rs:List Y9} (hb:Has Γ.P f nt ac rs) {args xs ys:List V} {sz:Nat} {res:V} (ha:args.length + 1≤nt) (hr:res.closed)
    (h:∀ C:Ctx,C.env = Γ→C.m = 1→AWp C nt ac { t:=(VO (.hd 0 0 xs.length :: args) []).t,o:=acz [(0,.buf true sz xs)],n:=1 } (aan 1 rs res [.buf true sz ys]) (fun _ _=>False) (aan 1 rs res [.buf true sz ys])):EvL Γ f args sz xs res ys:=by
  refine ⟨V6 hb (by simpa using ha) fun C hC hm=>?_,hr⟩
  refine (congrArg (fun s=>AWp C nt ac s _ _ _) ?_).mp (h C hC hm)
  simp only [VO]
  congr 1
  funext k
  match k with
  | 0=>rfl
  | k + 1=>simp [acz]
theorem KW {rs:List Y9} {res:V} {s:St} {xs ys:List V} {sz:Nat} (vs:List V) (h:acG s rs = some vs) (ho:s.o 0 = some (.buf true sz xs)) (hc:conv s.o [0] none (ahC vs) res) (hx:xs = ys):aan 1 rs res [.buf true sz ys] s:=by
  subst hx
  exact jN rs vs _ h ⟨[0],none,hc,⟨⟨_,ho,fun h=>h,rfl,rfl⟩,trivial⟩,by simp,rfl⟩
@[go_sem] theorem alG (l:List Int):(∀ y∈l.map V.int,y.cells.length = 1) = True:=eq_true (by intro y hy;simp only [List.mem_map] at hy;obtain ⟨x,_,rfl⟩:=hy;rfl)
@[go_sem] theorem alF (l:List (List UInt8)):(∀ y∈l.map V.str,y.cells.length = 1) = True:=eq_true (by intro y hy;simp only [List.mem_map] at hy;obtain ⟨x,_,rfl⟩:=hy;rfl)
end Av
end
section
set_option linter.unusedSimpArgs false
set_option linter.unusedVariables false
set_option maxRecDepth 10000
set_option maxHeartbeats 4000000
namespace Av
open Go
attribute [local irreducible] AWp V7 Kz KE awS awC jS awQ jY JB Wl jJ awR Ws awB okR Vo ris
theorem ak7 (c:UInt8) (n:Nat) (h:c≠UInt8.ofNat n):(((c.toNat:Nat):Int) == (n:Int)) = false:=by
  simp only [beq_eq_false_iff_ne,ne_eq]
  intro e
  apply h
  have:c.toNat = n:=by omega
  rw [← this];simp
theorem ae0 {α β:Type} (f:α→β) (l:List α):(l.map f).take l.length = l.map f:=by rw [List.take_of_length_le (by simp)]
theorem jW (c:UInt8) (r:List UInt8):WF (c :: r) = if c = 45∨c = 33∨c = 43 then (c,r) else (0,c :: r):=rfl
theorem aeu {w:List UInt8} (h:w≠akS):(w == akS) = false:=by simpa using h
def qu:List AO:=[mv 37 1,xo 38 (.idxS (.t 37) (.c (V.int 0))),mv 39 1,xo 40 (.slstr (.t 39) (some (.c (V.int 1))) none),mv 5 38,mv 1 40]
def qN:List (List Nat):=[[],[0],[],[2],[1,0,1],[3,4,0,1,2,3,4]]
def qq:OT:=.one 0 (.one 1 (.one 2 (.one 3 (.one 4 (.one 5 (.done))))))
def J1:OP:=.one 0 false [] (mv 37 1) (.one 1 false [] (xo 38 (.idxS (.t 37) (.c (V.int 0)))) (.one 2 false [] (mv 39 1) (.one 3 false [] (xo 40 (.slstr (.t 39) (some (.c (V.int 1))) none)) (.one 4 false [] (mv 5 38) (.one 5 false [] (mv 1 40) (.done))))))
theorem Jo:okR (qu) qN [] qq = true:=by kernel_rfl
theorem Jl:Vo (ris (qu) qN []) qq = J1:=by kernel_rfl
def qt (QV:Nat):List AO:=[mv 68 0,mv 69 0,nk 70 69,fa 71 0 70,ld 72 1 71,mv 73 6,mv 74 0,nk 75 74,fa 76 0 75,ld 77 1 76,cl 78 QV [73,77],mv 79 0,nk 80 79,fa 81 1 80,ld 82 1 81,cl 83 QV [78,82],xo 84 (.append 1 8 [(.int .i64 0)] (.t 72) (.t 83)),nk 85 68,fa 86 0 85,xs 1 86 84]
def qM:List (List Nat):=[[],[],[1],[2],[3],[],[],[6],[7],[8],[5,9],[],[11],[12],[13],[10,14,10],[4,15,15],[0,0,1,2,3,4,5,6,7,8,9,10,11,12,13,14,15,16],[17,0,1,2,3,4,5,6,7,8,9,10,11,12,13,14,15,16],[18,16,16,0,1,2,3,4,5,6,7,8,9,10,11,12,13,14,15,16]]
def qp:OT:=.one 0 (.one 1 (.one 2 (.one 3 (.one 5 (.one 6 (.one 7 (.one 8 (.one 11 (.one 12 (.one 13 (.or 4 (.or 9 (.or 10 (.or 14 (.one 15 (.one 16 (.one 17 (.one 18 (.one 19 (.done)))))) (.done)) (.or 14 (.or 10 (.one 15 (.one 16 (.one 17 (.one 18 (.one 19 (.done)))))) (.done)) (.done))) (.or 14 (.or 9 (.or 10 (.one 15 (.one 16 (.one 17 (.one 18 (.one 19 (.done)))))) (.done)) (.done)) (.done))) (.or 9 (.or 4 (.or 10 (.or 14 (.one 15 (.one 16 (.one 17 (.one 18 (.one 19 (.done)))))) (.done)) (.or 14 (.or 10 (.one 15 (.one 16 (.one 17 (.one 18 (.one 19 (.done)))))) (.done)) (.done))) (.or 10 (.or 4 (.or 14 (.one 15 (.one 16 (.one 17 (.one 18 (.one 19 (.done)))))) (.done)) (.or 14 (.or 4 (.one 15 (.one 16 (.one 17 (.one 18 (.one 19 (.done)))))) (.or 15 (.one 4 (.one 16 (.one 17 (.one 18 (.one 19 (.done)))))) (.done))) (.done))) (.or 14 (.or 4 (.or 10 (.one 15 (.one 16 (.one 17 (.one 18 (.one 19 (.done)))))) (.done)) (.or 10 (.or 4 (.one 15 (.one 16 (.one 17 (.one 18 (.one 19 (.done)))))) (.or 15 (.one 4 (.one 16 (.one 17 (.one 18 (.one 19 (.done)))))) (.done))) (.done))) (.done)))) (.or 14 (.or 4 (.or 9 (.or 10 (.one 15 (.one 16 (.one 17 (.one 18 (.one 19 (.done)))))) (.done)) (.done)) (.or 9 (.or 4 (.or 10 (.one 15 (.one 16 (.one 17 (.one 18 (.one 19 (.done)))))) (.done)) (.or 10 (.or 4 (.one 15 (.one 16 (.one 17 (.one 18 (.one 19 (.done)))))) (.or 15 (.one 4 (.one 16 (.one 17 (.one 18 (.one 19 (.done)))))) (.done))) (.done))) (.done))) (.done))))))))))))))
def J0 (QV:Nat):OP:=.one 0 false [] (mv 68 0) (.one 1 false [] (mv 69 0) (.one 2 false [] (nk 70 69) (.one 3 false [] (fa 71 0 70) (.one 5 false [] (mv 73 6) (.one 6 false [] (mv 74 0) (.one 7 false [] (nk 75 74) (.one 8 false [] (fa 76 0 75) (.one 11 false [] (mv 79 0) (.one 12 false [] (nk 80 79) (.one 13 false [] (fa 81 1 80) (.or 4 true [] (ld 72 1 71) (.or 9 true [] (ld 77 1 76) (.or 10 true [] (cl 78 QV [73,77]) (.or 14 true [] (ld 82 1 81) (.one 15 true [10] (cl 83 QV [78,82]) (.one 16 true [15,10] (xo 84 (.append 1 8 [(.int .i64 0)] (.t 72) (.t 83))) (.one 17 false [] (nk 85 68) (.one 18 false [] (fa 86 0 85) (.one 19 true [16,15,10] (xs 1 86 84) (.done)))))) (.done)) (.or 14 true [] (ld 82 1 81) (.or 10 true [] (cl 78 QV [73,77]) (.one 15 true [10] (cl 83 QV [78,82]) (.one 16 true [15,10] (xo 84 (.append 1 8 [(.int .i64 0)] (.t 72) (.t 83))) (.one 17 false [] (nk 85 68) (.one 18 false [] (fa 86 0 85) (.one 19 true [16,15,10] (xs 1 86 84) (.done)))))) (.done)) (.done))) (.or 14 true [] (ld 82 1 81) (.or 9 true [] (ld 77 1 76) (.or 10 true [] (cl 78 QV [73,77]) (.one 15 true [10] (cl 83 QV [78,82]) (.one 16 true [15,10] (xo 84 (.append 1 8 [(.int .i64 0)] (.t 72) (.t 83))) (.one 17 false [] (nk 85 68) (.one 18 false [] (fa 86 0 85) (.one 19 true [16,15,10] (xs 1 86 84) (.done)))))) (.done)) (.done)) (.done))) (.or 9 true [] (ld 77 1 76) (.or 4 true [] (ld 72 1 71) (.or 10 true [] (cl 78 QV [73,77]) (.or 14 true [] (ld 82 1 81) (.one 15 true [10] (cl 83 QV [78,82]) (.one 16 true [15,10] (xo 84 (.append 1 8 [(.int .i64 0)] (.t 72) (.t 83))) (.one 17 false [] (nk 85 68) (.one 18 false [] (fa 86 0 85) (.one 19 true [16,15,10] (xs 1 86 84) (.done)))))) (.done)) (.or 14 true [] (ld 82 1 81) (.or 10 true [] (cl 78 QV [73,77]) (.one 15 true [10] (cl 83 QV [78,82]) (.one 16 true [15,10] (xo 84 (.append 1 8 [(.int .i64 0)] (.t 72) (.t 83))) (.one 17 false [] (nk 85 68) (.one 18 false [] (fa 86 0 85) (.one 19 true [16,15,10] (xs 1 86 84) (.done)))))) (.done)) (.done))) (.or 10 true [] (cl 78 QV [73,77]) (.or 4 true [] (ld 72 1 71) (.or 14 true [] (ld 82 1 81) (.one 15 true [10] (cl 83 QV [78,82]) (.one 16 true [15,10] (xo 84 (.append 1 8 [(.int .i64 0)] (.t 72) (.t 83))) (.one 17 false [] (nk 85 68) (.one 18 false [] (fa 86 0 85) (.one 19 true [16,15,10] (xs 1 86 84) (.done)))))) (.done)) (.or 14 true [] (ld 82 1 81) (.or 4 true [] (ld 72 1 71) (.one 15 true [10] (cl 83 QV [78,82]) (.one 16 true [15,10] (xo 84 (.append 1 8 [(.int .i64 0)] (.t 72) (.t 83))) (.one 17 false [] (nk 85 68) (.one 18 false [] (fa 86 0 85) (.one 19 true [16,15,10] (xs 1 86 84) (.done)))))) (.or 15 true [10] (cl 83 QV [78,82]) (.one 4 true [] (ld 72 1 71) (.one 16 true [15,10] (xo 84 (.append 1 8 [(.int .i64 0)] (.t 72) (.t 83))) (.one 17 false [] (nk 85 68) (.one 18 false [] (fa 86 0 85) (.one 19 true [16,15,10] (xs 1 86 84) (.done)))))) (.done))) (.done))) (.or 14 true [] (ld 82 1 81) (.or 4 true [] (ld 72 1 71) (.or 10 true [] (cl 78 QV [73,77]) (.one 15 true [10] (cl 83 QV [78,82]) (.one 16 true [15,10] (xo 84 (.append 1 8 [(.int .i64 0)] (.t 72) (.t 83))) (.one 17 false [] (nk 85 68) (.one 18 false [] (fa 86 0 85) (.one 19 true [16,15,10] (xs 1 86 84) (.done)))))) (.done)) (.or 10 true [] (cl 78 QV [73,77]) (.or 4 true [] (ld 72 1 71) (.one 15 true [10] (cl 83 QV [78,82]) (.one 16 true [15,10] (xo 84 (.append 1 8 [(.int .i64 0)] (.t 72) (.t 83))) (.one 17 false [] (nk 85 68) (.one 18 false [] (fa 86 0 85) (.one 19 true [16,15,10] (xs 1 86 84) (.done)))))) (.or 15 true [10] (cl 83 QV [78,82]) (.one 4 true [] (ld 72 1 71) (.one 16 true [15,10] (xo 84 (.append 1 8 [(.int .i64 0)] (.t 72) (.t 83))) (.one 17 false [] (nk 85 68) (.one 18 false [] (fa 86 0 85) (.one 19 true [16,15,10] (xs 1 86 84) (.done)))))) (.done))) (.done))) (.done)))) (.or 14 true [] (ld 82 1 81) (.or 4 true [] (ld 72 1 71) (.or 9 true [] (ld 77 1 76) (.or 10 true [] (cl 78 QV [73,77]) (.one 15 true [10] (cl 83 QV [78,82]) (.one 16 true [15,10] (xo 84 (.append 1 8 [(.int .i64 0)] (.t 72) (.t 83))) (.one 17 false [] (nk 85 68) (.one 18 false [] (fa 86 0 85) (.one 19 true [16,15,10] (xs 1 86 84) (.done)))))) (.done)) (.done)) (.or 9 true [] (ld 77 1 76) (.or 4 true [] (ld 72 1 71) (.or 10 true [] (cl 78 QV [73,77]) (.one 15 true [10] (cl 83 QV [78,82]) (.one 16 true [15,10] (xo 84 (.append 1 8 [(.int .i64 0)] (.t 72) (.t 83))) (.one 17 false [] (nk 85 68) (.one 18 false [] (fa 86 0 85) (.one 19 true [16,15,10] (xs 1 86 84) (.done)))))) (.done)) (.or 10 true [] (cl 78 QV [73,77]) (.or 4 true [] (ld 72 1 71) (.one 15 true [10] (cl 83 QV [78,82]) (.one 16 true [15,10] (xo 84 (.append 1 8 [(.int .i64 0)] (.t 72) (.t 83))) (.one 17 false [] (nk 85 68) (.one 18 false [] (fa 86 0 85) (.one 19 true [16,15,10] (xs 1 86 84) (.done)))))) (.or 15 true [10] (cl 83 QV [78,82]) (.one 4 true [] (ld 72 1 71) (.one 16 true [15,10] (xo 84 (.append 1 8 [(.int .i64 0)] (.t 72) (.t 83))) (.one 17 false [] (nk 85 68) (.one 18 false [] (fa 86 0 85) (.one 19 true [16,15,10] (xs 1 86 84) (.done)))))) (.done))) (.done))) (.done))) (.done))))))))))))))
theorem Jn (QV:Nat):okR (qt QV) qM [4,9,10,14,15] qp = true:=by kernel_rfl
theorem Jk (QV:Nat):Vo (ris (qt QV) qM [4,9,10,14,15]) qp = J0 QV:=by kernel_rfl def c_ref08_row__do (yO wh QV:Nat):AC:=QF [0,1] (.reg [mc 4 (V.bool false)]) (QF [0,1] (QF [0,1,10] (.reg [mv 9 1,bc 10 .eql 9 (V.str [64,115,116,114,101,110,103,116,104])]) (.cond (.t 10) (QF [] (.reg [mv 11 0,mv 12 0,nk 13 12,fa 14 0 13,ld 15 1 14,cl 16 yO [15],nk 17 11,fa 18 0 17,xs 1 18 16]) (QF [4] (.reg [mc 4 (V.bool true)]) (.ret))) (.skip))) (QF [0,1,5] (.reg [mc 5 (.sc (.int .u8 0))]) (QF [0,1,5] (QF [0,1,5,36] (.reg [mv 19 1,xo 20 (.lenS (.t 19)),bc 21 .gtr 20 (V.int 0),mv 22 21,mg 23 1 22 true,xg 24 (.idxS (.t 23) (.c (V.int 0))) 22 true,xg 25 (.bin .eql (.t 24) (.c (.sc (.int .u8 45)))) 22 true,mg 26 25 22 true,mg 27 1 26 false,xg 28 (.idxS (.t 27) (.c (V.int 0))) 26 false,xg 29 (.bin .eql (.t 28) (.c (.sc (.int .u8 33)))) 26 false,xg 30 (.pick (.t 26) (.c (V.bool true)) (.t 29)) 22 true,mg 31 30 22 true,mg 32 1 31 false,xg 33 (.idxS (.t 32) (.c (V.int 0))) 31 false,xg 34 (.bin .eql (.t 33) (.c (.sc (.int .u8 43)))) 31 false,xg 35 (.pick (.t 31) (.c (V.bool true)) (.t 34)) 22 true,xo 36 (.pick (.t 22) (.t 35) (.c (V.bool false)))]) (.cond (.t 36) (aaY [] qq (J1) (qu) qN) (.skip))) (QF [0,5,6,7] (.reg [mv 42 1,cl 43 wh [42],mv 41 43,ex 44 41 0,ex 45 41 1,mv 6 44,mv 7 45]) (QF [0,5,6] (QF [0,5,6,47] (.reg [mv 46 7,xo 47 (.un .not (.t 46))]) (.cond (.t 47) (QF [4] (.reg [mc 4 (V.bool false)]) (.ret)) (.skip))) (QF [] (QF [0,6,48] (.reg [mv 48 5]) (.block 0 (QF [0,6,48,66] (.reg [bc 67 .eql 48 (.sc (.int .u8 0)),mv 66 67]) (.cond (.t 66) (aaY [4,9,10,14,15] qp (J0 QV) (qt QV) qM) (QF [0,6,48,87] (.reg [bc 88 .eql 48 (.sc (.int .u8 45)),mv 87 88]) (.cond (.t 87) (.reg [mv 89 0,mv 90 0,nk 91 90,fa 92 0 91,ld 93 1 92,mv 94 6,cl 95 QV [93,94],nk 96 89,fa 97 0 96,xs 1 97 95]) (QF [0,6,98] (.reg [bc 99 .eql 48 (.sc (.int .u8 33)),mv 98 99]) (.cond (.t 98) (QF [0,6] (.reg [mv 100 0,mv 101 0,nk 102 101,fa 103 0 102,ld 104 1 103,mv 105 6,cl 106 QV [104,105],nk 107 100,fa 108 0 107,xs 1 108 106]) (.reg [mv 109 0,mv 110 0,nk 111 110,fa 112 1 111,ld 113 1 112,mv 114 6,xo 115 (.append 1 8 [(.int .i64 0)] (.t 113) (.t 114)),nk 116 109,fa 117 1 116,xs 1 117 115])) (QF [0,8] (.reg [mv 49 0,nk 50 49,fa 51 0 50,ld 52 1 51,mv 53 6,cl 54 QV [52,53],mv 8 54]) (.reg [mv 55 0,mv 56 8,mv 57 0,nk 58 57,fa 59 0 58,ld 60 1 59,mv 61 8,cl 62 QV [60,61],xo 63 (.append 1 8 [(.int .i64 0)] (.t 56) (.t 62)),nk 64 55,fa 65 0 64,xs 1 65 63])))))))))) (QF [4] (.reg [mc 4 (V.bool true)]) (.ret)))))))) def r_ref08_row__do:List Y9:=[.tmp 4]
def jE (Γ:Env) (f:Nat):Prop:=∀ (w:List UInt8) (l k:List Int) (hw:w.length < 2 ^ 30) (hl:l.length < 2 ^ 30) (hk:k.length < 2 ^ 30),EvT Γ f [V.str w] 1 1 (l.map V.int) (k.map V.int) (V.bool (wordOk w)) (((if wordOk w then doR w (l,k) else (l,k)).1).map V.int) (((if wordOk w then doR w (l,k) else (l,k)).2).map V.int)
theorem acL {Γ:Env} {f yO wh QV:Nat} (h:Has Γ.P f 118 (c_ref08_row__do yO wh QV) r_ref08_row__do) (XV:wI Γ yO) (Wa:vK Γ wh) (YD:jD Γ QV):jE Γ f:=by
  intro w l k hw hl hk
  refine adJ h (by simp) (by simp only [V.closed,Qw,V.noSl,JL,and_self,and_true,true_and]) fun C hC hm=>?_
  subst hC
  unfold c_ref08_row__do
  by_cases h0:w = akS
  · have e1:wordOk w = true:=by simp [wordOk,h0]
    have e2:doR w (l,k) = (xU l,k):=by simp [doR,h0]
    rw [e1,if_pos rfl,e2]
    have e3:(w == [64,115,116,114,101,110,103,116,104]) = true:=by simp [h0,akS]
    repeat' (first|refine Qp fun K' hK=>?_|refine Qt fun K' hK=>?_|refine Qm 6 (fun _=>true) rfl (Jo) (Jl) fun K' hK=>?_|refine Qn 6 (fun _=>true) rfl (Jo) (Jl) fun K' hK=>?_|refine Qm 20 (fun _=>false) rfl (Jn _) (Jk _) fun K' hK=>?_|refine Qn 20 (fun _=>false) rfl (Jn _) (Jk _) fun K' hK=>?_|refine Qq ?_|refine Qr ?_|refine Qa ?_|((first|refine Qs ⟨_,rfl,fun hc=>?_,fun hc=>?_⟩|refine QM (fun hc=>?_) (fun hc=>?_)|refine QN (fun hc=>?_) (fun hc=>?_))<;>first|(cases hc;done)|((try simp only [znz] at hc);first|exact znf|skip))|refine Qv ?_|refine Qu ?_|simp (maxSteps:=1000000) only [go_sem,e3,List.take_length,J1,J0]|(refine hK _ ?_;clear hK K')|apply And.intro|((first|apply Xh|apply Yt);(focus first|exact (XV _ zsd)|exact (YD _ _ zsd zsd)))|((first|apply QX|apply Jz);(focus first|exact (Wa _ zsd).b))|exact zlo|omega|exact zms)
    all_goals first
      | (refine ji _ _ _ _ _ rfl (by simp only [go_sem]) rfl rfl rfl (by decide) (by decide) (by decide) ⟨_,rfl⟩ ⟨_,rfl⟩ ?_ ?_ ?_ ?_<;>first|rfl|(simp;done))
  · have e3:(w == [64,115,116,114,101,110,103,116,104]) = false:=aeu h0
    have ed:doR w (l,k) = doG (WF w).1 (aaS (WF w).2).1 (l,k):=by rw [doR,aeu h0];rfl
    have eo:wordOk w = (aaS (WF w).2).2:=by rw [wordOk,aeu h0,Bool.false_or]
    have hs:=Wa (WF w).2
    have hlen:(WF w).2.length≤w.length:=by
      cases w with
      | nil=>simp [WF]
      | cons c r=>rw [jW];split<;>simp
    have hs:=(hs (by omega)).b
    have hsl:=ae3 (WF w).2
    rw [ed,eo]
    generalize aaS (WF w).2 = S at *
    have e45:(((45:UInt8).toNat:Nat):Int) = 45:=rfl
    have e33:(((33:UInt8).toNat:Nat):Int) = 33:=rfl
    have e43:(((43:UInt8).toNat:Nat):Int) = 43:=rfl
    obtain ⟨m,ok⟩:=S
    simp only at hs hsl ⊢
    have w1:=Xi l m
    have w2:=Xi m l
    have w3:=Xi (Q7 m l) k
    have w4:=Xi l (Q7 l m)
    rcases w with _|⟨c,r⟩
    · simp only [WF] at hs ⊢
      rcases ok with _|_
      · repeat' (first|refine Qp fun K' hK=>?_|refine Qt fun K' hK=>?_|refine Qm 6 (fun _=>true) rfl (Jo) (Jl) fun K' hK=>?_|refine Qn 6 (fun _=>true) rfl (Jo) (Jl) fun K' hK=>?_|refine Qm 20 (fun _=>false) rfl (Jn _) (Jk _) fun K' hK=>?_|refine Qn 20 (fun _=>false) rfl (Jn _) (Jk _) fun K' hK=>?_|refine Qq ?_|refine Qr ?_|refine Qa ?_|((first|refine Qs ⟨_,rfl,fun hc=>?_,fun hc=>?_⟩|refine QM (fun hc=>?_) (fun hc=>?_)|refine QN (fun hc=>?_) (fun hc=>?_))<;>first|(cases hc;done)|((try simp only [znz] at hc);first|exact znf|skip))|refine Qv ?_|refine Qu ?_|simp (maxSteps:=1000000) only [go_sem,List.take_length,J1,J0]|(refine hK _ ?_;clear hK K')|apply And.intro|((first|apply Xh|apply Yt);(focus first|exact (XV _ zsd)|exact (YD _ _ zsd zsd)))|((first|apply QX|apply Jz);(focus first|exact hs|exact (Wa _ zsd).b))|exact zlo|omega|exact zms)
        all_goals first
          | (refine ji _ _ _ _ _ rfl (by simp only [go_sem]) rfl rfl rfl (by decide) (by decide) (by decide) ⟨_,rfl⟩ ⟨_,rfl⟩ ?_ ?_ ?_ ?_<;>first|rfl|(simp;done))
      · have hd:doG 0 m (l,k) = (l++Q7 (Q7 m l) k,k):=rfl
        simp only [if_pos,hd]
        repeat' (first|refine Qp fun K' hK=>?_|refine Qt fun K' hK=>?_|refine Qm 6 (fun _=>true) rfl (Jo) (Jl) fun K' hK=>?_|refine Qn 6 (fun _=>true) rfl (Jo) (Jl) fun K' hK=>?_|refine Qm 20 (fun _=>false) rfl (Jn _) (Jk _) fun K' hK=>?_|refine Qn 20 (fun _=>false) rfl (Jn _) (Jk _) fun K' hK=>?_|refine Qq ?_|refine Qr ?_|refine Qa ?_|((first|refine Qs ⟨_,rfl,fun hc=>?_,fun hc=>?_⟩|refine QM (fun hc=>?_) (fun hc=>?_)|refine QN (fun hc=>?_) (fun hc=>?_))<;>first|(cases hc;done)|((try simp only [znz] at hc);first|exact znf|skip))|refine Qv ?_|refine Qu ?_|simp (maxSteps:=1000000) only [go_sem,List.take_length,J1,J0]|(refine hK _ ?_;clear hK K')|apply And.intro|((first|apply Xh|apply Yt);(focus first|exact (XV _ zsd)|exact (YD _ _ zsd zsd)))|((first|apply QX|apply Jz);(focus first|exact hs|exact (Wa _ zsd).b))|exact zlo|omega|exact zms)
        all_goals first
          | (refine ji _ _ _ _ _ rfl (by simp only [go_sem]) rfl rfl rfl (by decide) (by decide) (by decide) ⟨_,rfl⟩ ⟨_,rfl⟩ ?_ ?_ ?_ ?_<;>first|rfl|(simp;done))
    · have g0:decide ((((c :: r).length:Nat):Int) > 0) = true:=by simp
      by_cases c1:c = 45
      · subst c1
        have hsg:WF (45 :: r) = (45,r):=rfl
        rw [hsg] at hs ⊢
        simp only at hs ⊢
        rcases ok with _|_
        · repeat' (first|refine Qp fun K' hK=>?_|refine Qt fun K' hK=>?_|refine Qm 6 (fun _=>true) rfl (Jo) (Jl) fun K' hK=>?_|refine Qn 6 (fun _=>true) rfl (Jo) (Jl) fun K' hK=>?_|refine Qm 20 (fun _=>false) rfl (Jn _) (Jk _) fun K' hK=>?_|refine Qn 20 (fun _=>false) rfl (Jn _) (Jk _) fun K' hK=>?_|refine Qq ?_|refine Qr ?_|refine Qa ?_|((first|refine Qs ⟨_,rfl,fun hc=>?_,fun hc=>?_⟩|refine QM (fun hc=>?_) (fun hc=>?_)|refine QN (fun hc=>?_) (fun hc=>?_))<;>first|(cases hc;done)|((try simp only [znz] at hc);first|exact znf|skip))|refine Qv ?_|refine Qu ?_|simp (maxSteps:=1000000) only [go_sem,g0,e45,List.take_length,Nat.add_sub_cancel,J1,J0]|(refine hK _ ?_;clear hK K')|apply And.intro|((first|apply Xh|apply Yt);(focus first|exact (XV _ zsd)|exact (YD _ _ zsd zsd)))|((first|apply QX|apply Jz);(focus first|exact hs|exact (Wa _ zsd).b))|exact zlo|omega|exact zms)
          all_goals first
            | (refine ji _ _ _ _ _ rfl (by simp only [go_sem]) rfl rfl rfl (by decide) (by decide) (by decide) ⟨_,rfl⟩ ⟨_,rfl⟩ ?_ ?_ ?_ ?_<;>first|rfl|(simp;done))
        · have hd:doG 45 m (l,k) = (Q7 l m,k):=rfl
          simp only [if_pos,hd]
          repeat' (first|refine Qp fun K' hK=>?_|refine Qt fun K' hK=>?_|refine Qm 6 (fun _=>true) rfl (Jo) (Jl) fun K' hK=>?_|refine Qn 6 (fun _=>true) rfl (Jo) (Jl) fun K' hK=>?_|refine Qm 20 (fun _=>false) rfl (Jn _) (Jk _) fun K' hK=>?_|refine Qn 20 (fun _=>false) rfl (Jn _) (Jk _) fun K' hK=>?_|refine Qq ?_|refine Qr ?_|refine Qa ?_|((first|refine Qs ⟨_,rfl,fun hc=>?_,fun hc=>?_⟩|refine QM (fun hc=>?_) (fun hc=>?_)|refine QN (fun hc=>?_) (fun hc=>?_))<;>first|(cases hc;done)|((try simp only [znz] at hc);first|exact znf|skip))|refine Qv ?_|refine Qu ?_|simp (maxSteps:=1000000) only [go_sem,g0,e45,List.take_length,Nat.add_sub_cancel,J1,J0]|(refine hK _ ?_;clear hK K')|apply And.intro|((first|apply Xh|apply Yt);(focus first|exact (XV _ zsd)|exact (YD _ _ zsd zsd)))|((first|apply QX|apply Jz);(focus first|exact hs|exact (Wa _ zsd).b))|exact zlo|omega|exact zms)
          all_goals first
            | (refine ji _ _ _ _ _ rfl (by simp only [go_sem]) rfl rfl rfl (by decide) (by decide) (by decide) ⟨_,rfl⟩ ⟨_,rfl⟩ ?_ ?_ ?_ ?_<;>first|rfl|(simp;done))
      · by_cases c33:c = 33
        · subst c33
          have hsg:WF (33 :: r) = (33,r):=rfl
          rw [hsg] at hs ⊢
          simp only at hs ⊢
          rcases ok with _|_
          · repeat' (first|refine Qp fun K' hK=>?_|refine Qt fun K' hK=>?_|refine Qm 6 (fun _=>true) rfl (Jo) (Jl) fun K' hK=>?_|refine Qn 6 (fun _=>true) rfl (Jo) (Jl) fun K' hK=>?_|refine Qm 20 (fun _=>false) rfl (Jn _) (Jk _) fun K' hK=>?_|refine Qn 20 (fun _=>false) rfl (Jn _) (Jk _) fun K' hK=>?_|refine Qq ?_|refine Qr ?_|refine Qa ?_|((first|refine Qs ⟨_,rfl,fun hc=>?_,fun hc=>?_⟩|refine QM (fun hc=>?_) (fun hc=>?_)|refine QN (fun hc=>?_) (fun hc=>?_))<;>first|(cases hc;done)|((try simp only [znz] at hc);first|exact znf|skip))|refine Qv ?_|refine Qu ?_|simp (maxSteps:=1000000) only [go_sem,g0,e45,e33,e43,List.take_length,Nat.add_sub_cancel,J1,J0]|(refine hK _ ?_;clear hK K')|apply And.intro|((first|apply Xh|apply Yt);(focus first|exact (XV _ zsd)|exact (YD _ _ zsd zsd)))|((first|apply QX|apply Jz);(focus first|exact hs|exact (Wa _ zsd).b))|exact zlo|omega|exact zms)
            all_goals first
              | (refine ji _ _ _ _ _ rfl (by simp only [go_sem]) rfl rfl rfl (by decide) (by decide) (by decide) ⟨_,rfl⟩ ⟨_,rfl⟩ ?_ ?_ ?_ ?_<;>first|rfl|(simp;done))
          · have hd:doG 33 m (l,k) = (Q7 l m,k++m):=rfl
            simp only [if_pos,hd]
            repeat' (first|refine Qp fun K' hK=>?_|refine Qt fun K' hK=>?_|refine Qm 6 (fun _=>true) rfl (Jo) (Jl) fun K' hK=>?_|refine Qn 6 (fun _=>true) rfl (Jo) (Jl) fun K' hK=>?_|refine Qm 20 (fun _=>false) rfl (Jn _) (Jk _) fun K' hK=>?_|refine Qn 20 (fun _=>false) rfl (Jn _) (Jk _) fun K' hK=>?_|refine Qq ?_|refine Qr ?_|refine Qa ?_|((first|refine Qs ⟨_,rfl,fun hc=>?_,fun hc=>?_⟩|refine QM (fun hc=>?_) (fun hc=>?_)|refine QN (fun hc=>?_) (fun hc=>?_))<;>first|(cases hc;done)|((try simp only [znz] at hc);first|exact znf|skip))|refine Qv ?_|refine Qu ?_|simp (maxSteps:=1000000) only [go_sem,g0,e45,e33,e43,List.take_length,Nat.add_sub_cancel,J1,J0]|(refine hK _ ?_;clear hK K')|apply And.intro|((first|apply Xh|apply Yt);(focus first|exact (XV _ zsd)|exact (YD _ _ zsd zsd)))|((first|apply QX|apply Jz);(focus first|exact hs|exact (Wa _ zsd).b))|exact zlo|omega|exact zms)
            all_goals first
              | (refine ji _ _ _ _ _ rfl (by simp only [go_sem]) rfl rfl rfl (by decide) (by decide) (by decide) ⟨_,rfl⟩ ⟨_,rfl⟩ ?_ ?_ ?_ ?_<;>first|rfl|(simp;done))
        · by_cases c43:c = 43
          · subst c43
            have hsg:WF (43 :: r) = (43,r):=rfl
            rw [hsg] at hs ⊢
            simp only at hs ⊢
            rcases ok with _|_
            · repeat' (first|refine Qp fun K' hK=>?_|refine Qt fun K' hK=>?_|refine Qm 6 (fun _=>true) rfl (Jo) (Jl) fun K' hK=>?_|refine Qn 6 (fun _=>true) rfl (Jo) (Jl) fun K' hK=>?_|refine Qm 20 (fun _=>false) rfl (Jn _) (Jk _) fun K' hK=>?_|refine Qn 20 (fun _=>false) rfl (Jn _) (Jk _) fun K' hK=>?_|refine Qq ?_|refine Qr ?_|refine Qa ?_|((first|refine Qs ⟨_,rfl,fun hc=>?_,fun hc=>?_⟩|refine QM (fun hc=>?_) (fun hc=>?_)|refine QN (fun hc=>?_) (fun hc=>?_))<;>first|(cases hc;done)|((try simp only [znz] at hc);first|exact znf|skip))|refine Qv ?_|refine Qu ?_|simp (maxSteps:=1000000) only [go_sem,g0,e45,e33,e43,List.take_length,Nat.add_sub_cancel,J1,J0]|(refine hK _ ?_;clear hK K')|apply And.intro|((first|apply Xh|apply Yt);(focus first|exact (XV _ zsd)|exact (YD _ _ zsd zsd)))|((first|apply QX|apply Jz);(focus first|exact hs|exact (Wa _ zsd).b))|exact zlo|omega|exact zms)
              all_goals first
                | (refine ji _ _ _ _ _ rfl (by simp only [go_sem]) rfl rfl rfl (by decide) (by decide) (by decide) ⟨_,rfl⟩ ⟨_,rfl⟩ ?_ ?_ ?_ ?_<;>first|rfl|(simp;done))
            · have hd:doG 43 m (l,k) = (Q7 l m++Q7 l (Q7 l m),k):=rfl
              simp only [if_pos,hd]
              repeat' (first|refine Qp fun K' hK=>?_|refine Qt fun K' hK=>?_|refine Qm 6 (fun _=>true) rfl (Jo) (Jl) fun K' hK=>?_|refine Qn 6 (fun _=>true) rfl (Jo) (Jl) fun K' hK=>?_|refine Qm 20 (fun _=>false) rfl (Jn _) (Jk _) fun K' hK=>?_|refine Qn 20 (fun _=>false) rfl (Jn _) (Jk _) fun K' hK=>?_|refine Qq ?_|refine Qr ?_|refine Qa ?_|((first|refine Qs ⟨_,rfl,fun hc=>?_,fun hc=>?_⟩|refine QM (fun hc=>?_) (fun hc=>?_)|refine QN (fun hc=>?_) (fun hc=>?_))<;>first|(cases hc;done)|((try simp only [znz] at hc);first|exact znf|skip))|refine Qv ?_|refine Qu ?_|simp (maxSteps:=1000000) only [go_sem,g0,e45,e33,e43,List.take_length,Nat.add_sub_cancel,J1,J0]|(refine hK _ ?_;clear hK K')|apply And.intro|((first|apply Xh|apply Yt);(focus first|exact (XV _ zsd)|exact (YD _ _ zsd zsd)))|((first|apply QX|apply Jz);(focus first|exact hs|exact (Wa _ zsd).b))|exact zlo|omega|exact zms)
              all_goals first
                | (refine ji _ _ _ _ _ rfl (by simp only [go_sem]) rfl rfl rfl (by decide) (by decide) (by decide) ⟨_,rfl⟩ ⟨_,rfl⟩ ?_ ?_ ?_ ?_<;>first|rfl|(simp;done))
          · have t45:(((c.toNat:Nat):Int) == 45) = false:=ak7 c 45 c1
            have t33:(((c.toNat:Nat):Int) == 33) = false:=ak7 c 33 c33
            have t43:(((c.toNat:Nat):Int) == 43) = false:=ak7 c 43 c43
            have hsg:WF (c :: r) = (0,c :: r):=by rw [jW,if_neg (by simp [c1,c33,c43])]
            rw [hsg] at hs ⊢
            simp only at hs ⊢
            rcases ok with _|_
            · repeat' (first|refine Qp fun K' hK=>?_|refine Qt fun K' hK=>?_|refine Qm 6 (fun _=>true) rfl (Jo) (Jl) fun K' hK=>?_|refine Qn 6 (fun _=>true) rfl (Jo) (Jl) fun K' hK=>?_|refine Qm 20 (fun _=>false) rfl (Jn _) (Jk _) fun K' hK=>?_|refine Qn 20 (fun _=>false) rfl (Jn _) (Jk _) fun K' hK=>?_|refine Qq ?_|refine Qr ?_|refine Qa ?_|((first|refine Qs ⟨_,rfl,fun hc=>?_,fun hc=>?_⟩|refine QM (fun hc=>?_) (fun hc=>?_)|refine QN (fun hc=>?_) (fun hc=>?_))<;>first|(cases hc;done)|((try simp only [znz] at hc);first|exact znf|skip))|refine Qv ?_|refine Qu ?_|simp (maxSteps:=1000000) only [go_sem,e3,g0,t45,t33,t43,List.take_length,J1,J0]|(refine hK _ ?_;clear hK K')|apply And.intro|((first|apply Xh|apply Yt);(focus first|exact (XV _ zsd)|exact (YD _ _ zsd zsd)))|((first|apply QX|apply Jz);(focus first|exact hs|exact (Wa _ zsd).b))|exact zlo|omega|exact zms)
              all_goals first
                | (refine ji _ _ _ _ _ rfl (by simp only [go_sem]) rfl rfl rfl (by decide) (by decide) (by decide) ⟨_,rfl⟩ ⟨_,rfl⟩ ?_ ?_ ?_ ?_<;>first|rfl|(simp;done))
            · have hd:doG 0 m (l,k) = (l++Q7 (Q7 m l) k,k):=rfl
              simp only [if_pos,hd]
              repeat' (first|refine Qp fun K' hK=>?_|refine Qt fun K' hK=>?_|refine Qm 6 (fun _=>true) rfl (Jo) (Jl) fun K' hK=>?_|refine Qn 6 (fun _=>true) rfl (Jo) (Jl) fun K' hK=>?_|refine Qm 20 (fun _=>false) rfl (Jn _) (Jk _) fun K' hK=>?_|refine Qn 20 (fun _=>false) rfl (Jn _) (Jk _) fun K' hK=>?_|refine Qq ?_|refine Qr ?_|refine Qa ?_|((first|refine Qs ⟨_,rfl,fun hc=>?_,fun hc=>?_⟩|refine QM (fun hc=>?_) (fun hc=>?_)|refine QN (fun hc=>?_) (fun hc=>?_))<;>first|(cases hc;done)|((try simp only [znz] at hc);first|exact znf|skip))|refine Qv ?_|refine Qu ?_|simp (maxSteps:=1000000) only [go_sem,e3,g0,t45,t33,t43,List.take_length,J1,J0]|(refine hK _ ?_;clear hK K')|apply And.intro|((first|apply Xh|apply Yt);(focus first|exact (XV _ zsd)|exact (YD _ _ zsd zsd)))|((first|apply QX|apply Jz);(focus first|exact hs|exact (Wa _ zsd).b))|exact zlo|omega|exact zms)
              all_goals first
                | (refine ji _ _ _ _ _ rfl (by simp only [go_sem]) rfl rfl rfl (by decide) (by decide) (by decide) ⟨_,rfl⟩ ⟨_,rfl⟩ ?_ ?_ ?_ ?_<;>first|rfl|(simp;done))
end Av
end
section
set_option linter.unusedSimpArgs false
set_option linter.unusedVariables false
set_option maxRecDepth 10000
set_option maxHeartbeats 4000000
namespace Av
open Go
attribute [local irreducible] AWp V7 Kz KE awS awC jS awQ jY JB Wl jJ awR Ws awB okR Vo ris
def jd (r:List Int×Int×Int):V:=.tup [.sl 1 (r.1.map V.int),V.int r.2.1,V.int r.2.2]
theorem aaZ (r:List Int×Int×Int):(jd r).closed:=by simp only [jd,V.closed,Qw,and_self]
theorem abE (c:UInt8):∀ (r cur w:List UInt8),w∈Wn c cur r→w.length≤cur.length + r.length
  | [],cur,w,h=>by simp only [Wn,List.mem_singleton] at h;subst h;simp
  | x :: r,cur,w,h=>by
    rw [Wn] at h
    split at h
    · rcases List.mem_cons.1 h with rfl|h
      · simp
      · have:=abE c r [] w h;simp at this ⊢;omega
    · have:=abE c r _ w h;simp at this ⊢;omega
theorem aev {c:UInt8} {s w:List UInt8} (h:w∈Yh c s):w.length≤s.length:=by simpa using abE c s [] w h
def wv (Wh KT:Nat):AC:=QF [0] (.reg [xo 2 (.mknil 1),mc 3 (V.int 0),mc 4 (V.int 0)]) (QF [0] (QF [0,10] (.reg [mv 8 0,xo 9 (.lenS (.t 8)),bc 10 .gtr 9 (V.int 8192)]) (.cond (.t 10) (QF [2,3,4] (.reg [xo 2 (.mknil 1),mc 3 (V.int 0),mc 4 (V.int 3)]) (.ret)) (.skip))) (QF [0] (QF [0,12] (.reg [mv 11 0,bc 12 .eql 11 (V.str [])]) (.cond (.t 12) (QF [2,3,4] (.reg [xo 2 (.mknil 1),mc 3 (V.int 0),mc 4 (V.int 0)]) (.ret)) (.skip))) (QF [5] (.reg [mv 13 0,xo 14 (.call Wh [(.t 13),(.c (.sc (.int .u8 58)))]),mv 5 14]) (QF [5] (QF [5,17] (.reg [mv 15 5,ln 16 15,bc 17 .gtr 16 (V.int 200)]) (.cond (.t 17) (QF [2,3,4] (.reg [xo 2 (.mknil 1),mc 3 (V.int 0),mc 4 (V.int 3)]) (.ret)) (.skip))) (QF [5,6] (.reg [xo 18 (.build [(.slice none 0 0),(.slice none 0 0)] []),xo 19 (.box true 2 (.t 18)),mv 6 19]) (QF [6] (QF [5,6,7] (.reg [mc 7 (V.int 0)]) (.block 0 (Wv [5,6,7] (QF [5,6,7] (QF [5,6,7,23] (.reg [mv 20 7,mv 21 5,ln 22 21,bn 23 .lss 20 22]) (.cond (.t 23) (.skip) (.exit 0))) (QF [5,6,7] (.block 1 (QF [5,6,7,32] (.reg [mv 26 6,mv 27 5,mv 28 7,ia 29 1 27 28,ld 30 1 29,cl 31 KT [26,30],xo 32 (.un .not (.t 31))]) (.cond (.t 32) (QF [2,3,4] (.reg [mv 33 7,bc 34 .add 33 (V.int 1),xo 2 (.mknil 1),mv 3 34,mc 4 (V.int 17)]) (.ret)) (.skip)))) (.reg [mv 24 7,bc 25 .add 24 (V.int 1),mv 7 25])))))) (QF [2,3,4] (.reg [mv 35 6,nk 36 35,fa 37 0 36,ld 38 1 37,mv 2 38,mc 3 (V.int 0),mc 4 (V.int 0)]) (.ret)))))))) def r_ref08_Parse:List Y9:=[.tmp 2,.tmp 3,.tmp 4]
def xy (Γ:Env) (f:Nat):Prop:=∀ (s:List UInt8) (hs:s.length < 2 ^ 30),EvC Γ f [V.str s] (jd (UL s))
theorem aeg {Γ:Env} {f Wh KT:Nat} (h:Has Γ.P f 39 (wv Wh KT) r_ref08_Parse) (JR:jb Γ Wh) (XU:jE Γ KT):xy Γ f:=by
  intro s hs
  refine Wb h (by simp) (aaZ _) fun C hC hm=>?_
  subst hC
  unfold wv
  by_cases h1:s.length > 8192
  · have e1:decide ((s.length:Int) > 8192) = true:=by simp;omega
    have e2:UL s = ([],0,3):=by rw [UL,if_pos h1]
    rw [e2,jd]
    repeat' (first|refine Qp fun K' hK=>?_|refine Qt fun K' hK=>?_|refine Qq ?_|refine Qr ?_|refine Qa ?_|((first|refine Qs ⟨_,rfl,fun hc=>?_,fun hc=>?_⟩|refine QM (fun hc=>?_) (fun hc=>?_)|refine QN (fun hc=>?_) (fun hc=>?_))<;>first|(cases hc;done)|((try simp only [znz] at hc);first|exact znf|skip))|refine Qv ?_|refine Qu ?_|simp (maxSteps:=1000000) only [go_sem,e1]|(refine hK _ ?_;clear hK K')|apply And.intro|(apply yU;(focus exact rfl);(focus exact rfl);(focus exact rfl);(focus first|exact (XU _ _ _ zsd zsd zsd));(focus exact rfl);(focus (simp;done));(focus (simp;done)))|(apply QX;(focus first|exact (JR _ _ zsd).b))|exact zlo|omega|exact zms)
    all_goals (refine Je _ rfl ?_;simp only [go_sem];first|done|rfl|exact ⟨_,_,rfl⟩|trace_state)
  · have e1:decide ((s.length:Int) > 8192) = false:=by simp;omega
    by_cases h2:s = []
    · subst h2
      have e2:UL [] = ([],0,0):=rfl
      rw [e2,jd]
      repeat' (first|refine Qp fun K' hK=>?_|refine Qt fun K' hK=>?_|refine Qq ?_|refine Qr ?_|refine Qa ?_|((first|refine Qs ⟨_,rfl,fun hc=>?_,fun hc=>?_⟩|refine QM (fun hc=>?_) (fun hc=>?_)|refine QN (fun hc=>?_) (fun hc=>?_))<;>first|(cases hc;done)|((try simp only [znz] at hc);first|exact znf|skip))|refine Qv ?_|refine Qu ?_|simp (maxSteps:=1000000) only [go_sem,e1]|(refine hK _ ?_;clear hK K')|apply And.intro|(apply yU;(focus exact rfl);(focus exact rfl);(focus exact rfl);(focus first|exact (XU _ _ _ zsd zsd zsd));(focus exact rfl);(focus (simp;done));(focus (simp;done)))|(apply QX;(focus first|exact (JR _ _ zsd).b))|exact zlo|omega|exact zms)
      all_goals (refine Je _ rfl ?_;simp only [go_sem];first|done|rfl|exact ⟨_,_,rfl⟩|trace_state)
    · have e3:(s == []) = false:=by simpa using h2
      have hsp:=(JR s 58 (by omega)).b
      have hlen:=vP 58 s
      have hmem:∀ w∈Yh 58 s,w.length < 2 ^ 30:=fun w hw=>by have:=aev hw;omega
      have e58:(((58:UInt8).toNat:Nat):Int) = 58:=rfl
      rw [e58] at hsp
      by_cases h3:(Yh 58 s).length > 200
      · have e2:UL s = ([],0,3):=by rw [UL,if_neg h1,if_neg h2,if_pos h3]
        have e4:decide ((((Yh 58 s).map V.str).length:Int) > 200) = true:=by simp;omega
        rw [e2,jd]
        repeat' (first|refine Qp fun K' hK=>?_|refine Qt fun K' hK=>?_|refine Qq ?_|refine Qr ?_|refine Qa ?_|((first|refine Qs ⟨_,rfl,fun hc=>?_,fun hc=>?_⟩|refine QM (fun hc=>?_) (fun hc=>?_)|refine QN (fun hc=>?_) (fun hc=>?_))<;>first|(cases hc;done)|((try simp only [znz] at hc);first|exact znf|skip))|refine Qv ?_|refine Qu ?_|simp (maxSteps:=1000000) only [go_sem,e1,e3,e4]|(refine hK _ ?_;clear hK K')|apply And.intro|(apply yU;(focus exact rfl);(focus exact rfl);(focus exact rfl);(focus first|exact (XU _ _ _ zsd zsd zsd));(focus exact rfl);(focus (simp;done));(focus (simp;done)))|(apply QX;(focus first|exact hsp|exact (JR _ _ zsd).b))|exact zlo|omega|exact zms)
        all_goals (refine Je _ rfl ?_;simp only [go_sem];first|done|rfl|exact ⟨_,_,rfl⟩|trace_state)
      · have e2:UL s = goP (Yh 58 s) 0 ([],[]):=by rw [UL,if_neg h1,if_neg h2,if_neg h3]
        have e4:decide ((((Yh 58 s).map V.str).length:Int) > 200) = false:=by simp;omega
        rw [e2]
        generalize Yh 58 s = ws at *
        repeat' (first|refine Qp fun K' hK=>?_|refine Qt fun K' hK=>?_|refine Qq ?_|refine Qr ?_|refine Qa ?_|((first|refine Qs ⟨_,rfl,fun hc=>?_,fun hc=>?_⟩|refine QM (fun hc=>?_) (fun hc=>?_)|refine QN (fun hc=>?_) (fun hc=>?_))<;>first|(cases hc;done)|((try simp only [znz] at hc);first|exact znf|skip))|refine Qv ?_|refine Qu ?_|simp (maxSteps:=1000000) only [go_sem,e1,e3,e4]|(refine hK _ ?_;clear hK K')|apply And.intro|(apply yU;(focus exact rfl);(focus exact rfl);(focus exact rfl);(focus first|exact (XU _ _ _ zsd zsd zsd));(focus exact rfl);(focus (simp;done));(focus (simp;done)))|(apply QX;(focus first|exact hsp|exact (JR _ _ zsd).b))|exact zlo|omega|exact zms)
        refine abt 15000 0 1 rfl rfl ?_
        refine abt 15000 1 1 rfl rfl ?_
        refine JF (ι:=Nat×aiO) (fun q=>q.1≤ws.length∧q.2.1.length≤16 * q.1∧q.2.2.length≤16 * q.1∧goP (ws.drop q.1) q.1 q.2 = goP ws 0 ([],[]))
          (fun q=>Ym [(5,.sl 1 (ws.map V.str)),(6,.ptr 0 0),(7,V.int q.1)] [(0,.box true [.hd 1 0 (q.2.1.map V.int).length,.hd 2 0 (q.2.2.map V.int).length]),(1,.buf true 1 (q.2.1.map V.int)),(2,.buf true 1 (q.2.2.map V.int))] 3)
          (fun q=>ws.length - q.1) (0,[],[]) ⟨by simp,by simp,by simp,by simp⟩ (Jp [(0,15000),(1,18000),(2,18001)]) (Jq [(0,15000),(1,18000),(2,18001)] (by simp only [go_sem,and_true,true_and,implies_true,Option.some.injEq,exists_eq_left',Ql,Qo];(repeat' (first|rfl|apply And.intro|omega|exact fun h=>h|exact Exists.intro _ rfl))) (by simp only [List.set_cons_zero,List.set_cons_succ,Nat.reduceAdd];simp only [go_sem,and_true,true_and,implies_true,Option.some.injEq,exists_eq_left',Ql,Qo];(repeat' (first|rfl|apply And.intro|omega|exact fun h=>h|exact Exists.intro _ rfl))) (by simp [Jp]) (by simp;omega) (by omega)) fun q hq K' hL=>?_
        obtain ⟨k,l,m⟩:=q
        obtain ⟨q1,q2,q3,hinv⟩:=hq
        simp only at q1 q2 q3 hinv
        simp only
        rcases hd:ws.drop k with _|⟨w,r⟩
        · have hk:=YX hd
          rw [hd,goP] at hinv
          rw [← hinv]
          have e5:decide ((k:Int) < (((ws.map V.str).length:Nat):Int)) = false:=by simp;omega
          simp only [jd]
          repeat' (first|refine Qp fun K' hK=>?_|refine Qt fun K' hK=>?_|refine Qq ?_|refine Qr ?_|refine Qa ?_|((first|refine Qs ⟨_,rfl,fun hc=>?_,fun hc=>?_⟩|refine QM (fun hc=>?_) (fun hc=>?_)|refine QN (fun hc=>?_) (fun hc=>?_))<;>first|(cases hc;done)|((try simp only [znz] at hc);first|exact znf|skip))|refine Qv ?_|refine Qu ?_|simp (maxSteps:=1000000) only [go_sem,Ym,e5]|(refine hK _ ?_;clear hK K')|apply And.intro|(apply yU;(focus exact rfl);(focus exact rfl);(focus exact rfl);(focus first|exact (XU _ _ _ zsd zsd zsd));(focus exact rfl);(focus (simp;done));(focus (simp;done)))|(apply QX;(focus first|exact (JR _ _ zsd).b))|exact zlo|omega|exact zms)
          all_goals (refine Je _ rfl ?_;simp only [go_sem];rw [List.take_of_length_le (by simp)])
        · obtain ⟨hk',hget,hr⟩:=Yp hd
          have hwm:=hmem w (List.mem_of_getElem? hget)
          have hw:=JO (k:=k) (by omega)
          have e5:decide ((k:Int) < (((ws.map V.str).length:Nat):Int)) = true:=by simp;omega
          rw [hd,goP] at hinv
          have hdo:=XU w l m hwm (by omega) (by omega)
          have hdl:=ajJ w (l,m)
          rcases ho:wordOk w with _|_
          · rw [ho] at hinv hdo
            simp only [Bool.false_eq_true,if_false] at hinv hdo
            rw [← hinv]
            simp only [jd]
            repeat' (first|refine Qp fun K' hK=>?_|refine Qt fun K' hK=>?_|refine Qq ?_|refine Qr ?_|refine Qa ?_|((first|refine Qs ⟨_,rfl,fun hc=>?_,fun hc=>?_⟩|refine QM (fun hc=>?_) (fun hc=>?_)|refine QN (fun hc=>?_) (fun hc=>?_))<;>first|(cases hc;done)|((try simp only [znz] at hc);first|exact znf|skip))|refine Qv ?_|refine Qu ?_|simp (maxSteps:=1000000) only [go_sem,Ym,e5,hw,Int.toNat_natCast,List.getElem?_map,hget]|(refine hK _ ?_;clear hK K')|apply And.intro|(apply yU;(focus exact rfl);(focus exact rfl);(focus exact rfl);(focus first|exact hdo|exact (XU _ _ _ zsd zsd zsd));(focus exact rfl);(focus (simp;done));(focus (simp;done)))|(apply QX;(focus first|exact (JR _ _ zsd).b))|exact zlo|omega|exact zms)
            all_goals (refine Je _ rfl ?_;simp only [go_sem];first|done|rfl|exact ⟨_,_,rfl⟩|trace_state)
          · rw [ho] at hinv hdo
            simp only [if_true] at hinv hdo
            generalize doR w (l,m) = p at *
            obtain ⟨l2,m2⟩:=p
            simp only at hdo hdl hinv
            repeat' (first|refine Qp fun K' hK=>?_|refine Qt fun K' hK=>?_|refine Qq ?_|refine Qr ?_|refine Qa ?_|((first|refine Qs ⟨_,rfl,fun hc=>?_,fun hc=>?_⟩|refine QM (fun hc=>?_) (fun hc=>?_)|refine QN (fun hc=>?_) (fun hc=>?_))<;>first|(cases hc;done)|((try simp only [znz] at hc);first|exact znf|skip))|refine Qv ?_|refine Qu ?_|simp (maxSteps:=1000000) only [go_sem,Ym,e5,hw,Int.toNat_natCast,List.getElem?_map,hget]|(refine hK _ ?_;clear hK K')|apply And.intro|(apply yU;(focus exact rfl);(focus exact rfl);(focus exact rfl);(focus first|exact hdo|exact (XU _ _ _ zsd zsd zsd));(focus exact rfl);(focus (simp;done));(focus (simp;done)))|(apply QX;(focus first|exact (JR _ _ zsd).b))|exact zlo|omega|exact zms)
            refine hL _ (k + 1,l2,m2) (Jp [(1,9003),(2,9004)]) ⟨by simp only;omega,by simp only;omega,by simp only;omega,by simp only;rw [hr];exact hinv⟩ (by simp only;omega) (Jq [(1,9003),(2,9004)] (by simp only [go_sem,and_true,true_and,implies_true,Option.some.injEq,exists_eq_left',Ql,Qo];(repeat' (first|rfl|apply And.intro|omega|exact fun h=>h|exact Exists.intro _ rfl))) (by simp only [go_sem,and_true,true_and,implies_true,Option.some.injEq,exists_eq_left',Ql,Qo];(repeat' (first|rfl|apply And.intro|omega|exact fun h=>h|exact Exists.intro _ rfl))) (by simp [Jp]) (by simp;omega) (by omega))
end Av
end
section
set_option linter.unusedSimpArgs false
set_option linter.unusedVariables false
set_option maxRecDepth 10000
set_option maxHeartbeats 4000000
namespace Av
open Go
attribute [local irreducible] AWp V7 Kz KE awS awC jS awQ jY JB Wl jJ awR Ws awB okR Vo ris
def jC (Γ:Env) (f:Nat):Prop:=∀ (s:List UInt8) (c:UInt8) (hs:s.length < 4294967281),EvC Γ f [V.str s,V.str [c]] (.sl 1 ((Yh c s).map V.str))
def wZ (Γ:Env) (f:Nat):Prop:=∀ (s:List UInt8) (c:UInt8) (hs:s.length < 4294967281),EvN Γ f [V.str s,V.str [c]] (V.int ((((Yh c s).length - 1:Nat)):Int))
def UV (Γ:Env) (f:Nat):Prop:=∀ (s:List UInt8) (c:UInt8),EvN Γ f [V.str s,.sc (.int .u8 c.toNat)] (V.int (Lib.indexByte s c))
def yc (J5 Xd Uz:Nat):AC:=QF [0] (.reg [xo 2 (.mknil 1),mc 3 (V.bool false)]) (QF [0,4] (.reg [xo 4 (.mknil 1)]) (QF [4] (QF [0,4,12,13,14] (.reg [cl 12 J5 [],ln 13 12,mc 14 (V.int 0)]) (.block 0 (Wv [0,4,12,13,14] (QF [0,4,12,13,14,15] (.reg [bn 15 .lss 14 13]) (QF [0,4,12,13,14] (.cond (.t 15) (.skip) (.exit 0)) (QF [0,4,12,13,14] (.block 1 (QF [0,4,6,12,13,14] (.reg [ia 16 12 12 14,xo 17 (.load true 12 (.t 16)),xo 6 (.alloc [.val (.int .i64 0),.val (.string ⟨#[]⟩),.val (.int .i64 0),.val (.int .i64 0),.val (.int .i64 0),.val (.int .i64 0),.val (.int .i64 0),.val (.int .i64 0),.val (.int .i64 0),.val (.int .i64 0),.val (.int .i64 0),.val (.int .i64 0)]),xs 12 6 17]) (QF [0,4,6,7,12,13,14] (.reg [mc 7 (V.bool true)]) (QF [0,4,6,7,12,13,14] (QF [0,4,6,7,12,13,14,19,20,21] (.reg [mv 18 0,xo 19 (.call Xd [(.t 18),(.c (V.str [43]))]),ln 20 19,mc 21 (V.int 0)]) (.block 2 (Wv [0,4,6,7,12,13,14,19,20,21] (QF [0,4,6,7,12,13,14,19,20,21,22] (.reg [bn 22 .lss 21 20]) (QF [0,4,6,7,12,13,14,19,20,21] (.cond (.t 22) (.skip) (.exit 2)) (QF [0,4,6,7,12,13,14,19,20,21] (.block 3 (QF [0,4,6,7,9,12,13,14,19,20,21] (.reg [ia 23 1 19 21,ld 24 1 23,mv 9 24]) (QF [0,4,6,7,10,11,12,13,14,19,20,21] (.reg [xo 26 (.load true 12 (.t 6)),mv 27 9,cl 28 Uz [26,27],mv 25 28,ex 29 25 0,ex 30 25 1,mv 10 29,mv 11 30]) (QF [0,4,6,7,10,12,13,14,19,20,21] (QF [0,4,6,7,10,12,13,14,19,20,21,32] (.reg [mv 31 11,xo 32 (.un .not (.t 31))]) (.cond (.t 32) (QF [2,3] (.reg [xo 2 (.mknil 1),mc 3 (V.bool false)]) (.ret)) (.skip))) (.reg [mv 33 7,mv 34 33,mg 35 10 34 true,xo 36 (.pick (.t 34) (.t 35) (.c (V.bool false))),mv 7 36]))))) (.reg [bc 37 .add 21 (V.int 1),mv 21 37]))))))) (QF [0,4,6,12,13,14,38] (.reg [mv 38 7]) (.cond (.t 38) (.reg [mv 39 4,fa 40 0 6,ld 41 1 40,xo 42 (.bslice 1 1 false [(.int .i64 0)] [(0,(.t 41))]),xo 43 (.append 1 8 [(.int .i64 0)] (.t 39) (.t 42)),mv 4 43]) (.skip))))))) (.reg [bc 44 .add 14 (V.int 1),mv 14 44]))))))) (QF [2,3] (.reg [mv 45 4,mv 2 45,mc 3 (V.bool true)]) (.ret)))) def r_suitespec_Set:List Y9:=[.tmp 2,.tmp 3]
def Ke (Γ:Env) (f:Nat):Prop:=∀ (s:List UInt8) (hs:s.length < 2 ^ 30),EvC Γ f [V.str s] (.tup [.sl 1 ((aaS s).1.map V.int),V.bool (aaS s).2])
theorem acI {Γ:Env} {f J5 Xd Uz:Nat} (h:Has Γ.P f 46 (yc J5 Xd Uz) r_suitespec_Set) (J3:Vz Γ J5) (JI:jC Γ Xd) (YK:qc Γ Uz):Ke Γ f:=by
  intro s hs
  refine Wb h (by simp) (by simp only [V.closed,Qw,and_self]) fun C hC hm=>?_
  subst hC
  unfold yc
  have hlen:=vP 43 s
  have hsp:=(JI s 43 (by omega)).b
  have hset:aaS s = if (Yh 43 s).all Us then (VP (Yh 43 s) JD,true) else ([],false):=rfl
  rw [hset]
  generalize Yh 43 s = L at *
  repeat' (first|refine Qp fun K' hK=>?_|refine Qt fun K' hK=>?_|refine Qq ?_|refine Qr ?_|refine Qa ?_|((first|refine Qs ⟨_,rfl,fun hc=>?_,fun hc=>?_⟩|refine QM (fun hc=>?_) (fun hc=>?_)|refine QN (fun hc=>?_) (fun hc=>?_))<;>first|(cases hc;done)|((try simp only [znz] at hc);first|exact znf|skip))|refine Qv ?_|refine Qu ?_|simp (maxSteps:=1000000) only [go_sem]|(refine hK _ ?_;clear hK K')|apply And.intro|(apply QX;(focus first|exact EvC.b J3|exact (JI _ _ zsd).b|exact (YK _ _).b))|exact zlo|omega|exact zms)
  refine JF (ι:=Nat) (fun k=>k≤16∧(0 < k→L.all Us = true)) (fun k=>Ym [(0,V.str s),(4,.hd 0 0 (VP L (JD.take k)).length),(12,.sl 12 (JD.map Q9.v)),(13,V.int 16),(14,V.int k)] [(0,.buf true 1 ((VP L (JD.take k)).map V.int))] 1) (fun k=>17 - k) 0 ⟨by omega,fun h=>absurd h (by omega)⟩ (Jp [(0,2000)]) (Jq [(0,2000)] (by simp only [go_sem,and_true,true_and,implies_true,Option.some.injEq,exists_eq_left',Ql,Qo];(repeat' (first|rfl|apply And.intro|omega|exact fun h=>h|exact Exists.intro _ rfl))) (by simp only [go_sem,and_true,true_and,implies_true,Option.some.injEq,exists_eq_left',Ql,Qo];(repeat' (first|rfl|apply And.intro|omega|exact fun h=>h|exact Exists.intro _ rfl))) (by simp) (by simp;omega) (by omega)) fun k hk K' hL=>?_
  obtain ⟨hk,hkn⟩:=hk
  rcases hd:JD.drop k with _|⟨x,r⟩
  · have hk16:=YX hd
    rw [Vn] at hk16
    have hk16:k = 16:=by omega
    subst hk16
    have e3:JD.take 16 = JD:=List.take_of_length_le (by rw [Vn];omega)
    have hall:=hkn (by omega)
    rw [e3,hall]
    repeat' (first|refine Qp fun K' hK=>?_|refine Qt fun K' hK=>?_|refine Qq ?_|refine Qr ?_|refine Qa ?_|((first|refine Qs ⟨_,rfl,fun hc=>?_,fun hc=>?_⟩|refine QM (fun hc=>?_) (fun hc=>?_)|refine QN (fun hc=>?_) (fun hc=>?_))<;>first|(cases hc;done)|((try simp only [znz] at hc);first|exact znf|skip))|refine Qv ?_|refine Qu ?_|simp (maxSteps:=1000000) only [go_sem,Ym]|(refine hK _ ?_;clear hK K')|apply And.intro|(apply QX;(focus first|exact EvC.b J3|exact (JI _ _ zsd).b|exact (YK _ _).b))|exact zlo|omega|exact zms)
    all_goals (refine Je _ rfl ?_;simp only [go_sem];rw [List.take_of_length_le (by simp)])
  · obtain ⟨hk',hget,hr⟩:=Yp hd
    rw [Vn] at hk'
    have hx:=List.mem_of_getElem? hget
    have hw:=JO (k:=k) (by omega)
    have e1:decide ((k:Int) < 16) = true:=by simp;omega
    have hcs:=acr L k x hget
    have hol:(VP L (JD.take k)).length≤16:=by
      rw [VP,List.length_map]
      refine Nat.le_trans (List.length_filter_le _ _) ?_
      rw [List.length_take];omega
    generalize VP L (JD.take k) = out at *
    repeat' (first|refine Qp fun K' hK=>?_|refine Qt fun K' hK=>?_|refine Qq ?_|refine Qr ?_|refine Qa ?_|((first|refine Qs ⟨_,rfl,fun hc=>?_,fun hc=>?_⟩|refine QM (fun hc=>?_) (fun hc=>?_)|refine QN (fun hc=>?_) (fun hc=>?_))<;>first|(cases hc;done)|((try simp only [znz] at hc);first|exact znf|skip))|refine Qv ?_|refine Qu ?_|simp (maxSteps:=1000000) only [go_sem,Ym,e1,Int.toNat_natCast,List.getElem?_map,hget,Q9.v,Q9.cells]|(refine hK _ ?_;clear hK K')|apply And.intro|(apply QX;(focus first|exact hsp|exact EvC.b J3|exact (JI _ _ zsd).b|exact (YK _ _).b))|exact zlo|omega|exact zms)
    refine Wz (ι:=Nat) (fun j=>j≤L.length∧(L.take j).all Us = true) (fun j=>[(7,V.bool ((L.take j).all fun n=>Vh n x)),(21,V.int j)]) (fun j=>L.length - j) 0 (by omega) ⟨by omega,by simp⟩ (by repeat' first|exact VK|refine Kn (by omega) (by simp only [Ob.lt,ltL,V.lt,and_self,and_true];try omega) ?_) (fun i hi=>by simp only [ovT,YO,Nat.reduceEqDiff,reduceIte];(repeat' first|exact Km|refine VJ ?_ ?_|simp only [V.lt,ltL,and_self,and_true]|omega)) (by simp only [Nat.reduceAdd,ovT,YO,Nat.reduceEqDiff,reduceIte,J9,Yz,w7,u32,u33,u34,u35,u36,u37,u38,u39,and_self,and_true,true_and];exact ⟨rfl,rfl⟩) fun j hj K'' hL2=>?_
    obtain ⟨hj,hjk⟩:=hj
    simp only [ovT,YO,Nat.reduceEqDiff,reduceIte]
    rcases hdj:L.drop j with _|⟨y,r2⟩
    · have hjl:=YX hdj
      have e2:decide ((j:Int) < (((L.map V.str).length:Nat):Int)) = false:=by simp;omega
      have e3:L.take j = L:=List.take_of_length_le hjl
      rw [e3] at hjk ⊢
      rcases hin:ajF L x with _|_
      · have hin2:(L.all fun n=>Vh n x) = false:=hin
        rw [hin2]
        rw [hin] at hcs
        repeat' (first|refine Qp fun K' hK=>?_|refine Qt fun K' hK=>?_|refine Qq ?_|refine Qr ?_|refine Qa ?_|((first|refine Qs ⟨_,rfl,fun hc=>?_,fun hc=>?_⟩|refine QM (fun hc=>?_) (fun hc=>?_)|refine QN (fun hc=>?_) (fun hc=>?_))<;>first|(cases hc;done)|((try simp only [znz] at hc);first|exact znf|skip))|refine Qv ?_|refine Qu ?_|simp (maxSteps:=1000000) only [go_sem,e2,hw]|(refine hK _ ?_;clear hK K')|apply And.intro|(apply QX;(focus first|exact EvC.b J3|exact (JI _ _ zsd).b|exact (YK _ _).b))|exact zlo|omega|exact zms)
        simp only [Bool.false_eq_true,if_false,List.append_nil] at hcs
        refine hL _ (k + 1) (Jp []) ⟨by omega,fun _=>hjk⟩ (by omega) ?_
        rw [hcs]
        exact Jq [] (by simp only [go_sem,and_true,true_and,implies_true,Option.some.injEq,exists_eq_left',Ql,Qo];(repeat' (first|rfl|apply And.intro|omega|exact fun h=>h|exact Exists.intro _ rfl))) (by simp only [go_sem,and_true,true_and,implies_true,Option.some.injEq,exists_eq_left',Ql,Qo];(repeat' (first|rfl|apply And.intro|omega|exact fun h=>h|exact Exists.intro _ rfl))) (by simp) (by simp) (by omega)
      · have hin2:(L.all fun n=>Vh n x) = true:=hin
        rw [hin2]
        rw [hin] at hcs
        repeat' (first|refine Qp fun K' hK=>?_|refine Qt fun K' hK=>?_|refine Qq ?_|refine Qr ?_|refine Qa ?_|((first|refine Qs ⟨_,rfl,fun hc=>?_,fun hc=>?_⟩|refine QM (fun hc=>?_) (fun hc=>?_)|refine QN (fun hc=>?_) (fun hc=>?_))<;>first|(cases hc;done)|((try simp only [znz] at hc);first|exact znf|skip))|refine Qv ?_|refine Qu ?_|simp (maxSteps:=1000000) only [go_sem,e2,hw]|(refine hK _ ?_;clear hK K')|apply And.intro|(apply QX;(focus first|exact EvC.b J3|exact (JI _ _ zsd).b|exact (YK _ _).b))|exact zlo|omega|exact zms)
        rw [if_pos rfl] at hcs
        have hb:List.take out.length (List.map V.int out)++[V.int x.code] = (out++[x.code]).map V.int:=by
          rw [List.take_of_length_le (by simp),List.map_append];rfl
        have hln:out.length + 1 = (out++[x.code]).length:=by simp
        rw [hb,hln]
        refine hL _ (k + 1) (Jp [(0,16001)]) ⟨by omega,fun _=>hjk⟩ (by omega) ?_
        rw [hcs]
        exact Jq [(0,16001)] (by simp only [go_sem,and_true,true_and,implies_true,Option.some.injEq,exists_eq_left',Ql,Qo];(repeat' (first|rfl|apply And.intro|omega|exact fun h=>h|exact Exists.intro _ rfl))) (by simp only [go_sem,and_true,true_and,implies_true,Option.some.injEq,exists_eq_left',Ql,Qo];(repeat' (first|rfl|apply And.intro|omega|exact fun h=>h|exact Exists.intro _ rfl))) (by simp) (by simp;omega) (by omega)
    · obtain ⟨hj',hgj,hrj⟩:=Yp hdj
      have hwj:=JO (k:=j) (by omega)
      have e2:decide ((j:Int) < (((L.map V.str).length:Nat):Int)) = true:=by simp;omega
      have hall:((L.take (j + 1)).all fun n=>Vh n x) = (((L.take j).all fun n=>Vh n x) && Vh y x):=by
        rw [List.take_add_one,hgj];simp
      have hnm:=(YK x y).b
      have h1:=aih hx y
      have h2:=agW (n:=y) (s:=x)
      simp only [ah5,← h1,h2,Q9.v,Q9.cells] at hnm
      rcases hy:Us y with _|_
      · rw [hy] at hnm
        have e3:L.all Us = false:=by
          rw [List.all_eq_false];exact ⟨y,List.mem_of_getElem? hgj,by simp [hy]⟩
        rw [e3]
        repeat' (first|refine Qp fun K' hK=>?_|refine Qt fun K' hK=>?_|refine Qq ?_|refine Qr ?_|refine Qa ?_|((first|refine Qs ⟨_,rfl,fun hc=>?_,fun hc=>?_⟩|refine QM (fun hc=>?_) (fun hc=>?_)|refine QN (fun hc=>?_) (fun hc=>?_))<;>first|(cases hc;done)|((try simp only [znz] at hc);first|exact znf|skip))|refine Qv ?_|refine Qu ?_|simp (maxSteps:=1000000) only [go_sem,e2,hwj,Int.toNat_natCast,List.getElem?_map,hgj]|(refine hK _ ?_;clear hK K')|apply And.intro|(apply QX;(focus first|exact hnm|exact EvC.b J3|exact (JI _ _ zsd).b|exact (YK _ _).b))|exact zlo|omega|exact zms)
        all_goals (refine Je _ rfl ?_;simp only [go_sem];first|done|rfl|exact ⟨_,_,rfl⟩|trace_state)
      · rw [hy] at hnm
        have hjk2:(L.take (j + 1)).all Us = true:=by rw [List.take_add_one,hgj];simp [hy];simpa using hjk
        rcases hb:((L.take j).all fun n=>Vh n x) with _|_
        · rw [hb,Bool.false_and] at hall
          repeat' (first|refine Qp fun K' hK=>?_|refine Qt fun K' hK=>?_|refine Qq ?_|refine Qr ?_|refine Qa ?_|((first|refine Qs ⟨_,rfl,fun hc=>?_,fun hc=>?_⟩|refine QM (fun hc=>?_) (fun hc=>?_)|refine QN (fun hc=>?_) (fun hc=>?_))<;>first|(cases hc;done)|((try simp only [znz] at hc);first|exact znf|skip))|refine Qv ?_|refine Qu ?_|simp (maxSteps:=1000000) only [go_sem,e2,hwj,Int.toNat_natCast,List.getElem?_map,hgj]|(refine hK _ ?_;clear hK K')|apply And.intro|(apply QX;(focus first|exact hnm|exact EvC.b J3|exact (JI _ _ zsd).b|exact (YK _ _).b))|exact zlo|omega|exact zms)
          all_goals exact hL2 _ (j + 1) (by rw [hall];simp only [Nat.reduceAdd,ovT,YO,Nat.reduceEqDiff,reduceIte,J9,Yz,w7,u32,u33,u34,u35,u36,u37,u38,u39,and_self,and_true,true_and]) ⟨by omega,hjk2⟩ (by omega) (fun a ha=>by simp only [u32,u33,u34,u35,u36,u37,u38,u39];repeat rw [if_neg (by omega)])
        · rw [hb,Bool.true_and] at hall
          repeat' (first|refine Qp fun K' hK=>?_|refine Qt fun K' hK=>?_|refine Qq ?_|refine Qr ?_|refine Qa ?_|((first|refine Qs ⟨_,rfl,fun hc=>?_,fun hc=>?_⟩|refine QM (fun hc=>?_) (fun hc=>?_)|refine QN (fun hc=>?_) (fun hc=>?_))<;>first|(cases hc;done)|((try simp only [znz] at hc);first|exact znf|skip))|refine Qv ?_|refine Qu ?_|simp (maxSteps:=1000000) only [go_sem,e2,hwj,Int.toNat_natCast,List.getElem?_map,hgj]|(refine hK _ ?_;clear hK K')|apply And.intro|(apply QX;(focus first|exact hnm|exact EvC.b J3|exact (JI _ _ zsd).b|exact (YK _ _).b))|exact zlo|omega|exact zms)
          all_goals exact hL2 _ (j + 1) (by rw [hall];simp only [Nat.reduceAdd,ovT,YO,Nat.reduceEqDiff,reduceIte,J9,Yz,w7,u32,u33,u34,u35,u36,u37,u38,u39,and_self,and_true,true_and]) ⟨by omega,hjk2⟩ (by omega) (fun a ha=>by simp only [u32,u33,u34,u35,u36,u37,u38,u39];repeat rw [if_neg (by omega)])
end Av
end
section
set_option linter.unusedSimpArgs false
set_option linter.unusedVariables false
set_option maxRecDepth 10000
set_option maxHeartbeats 4000000
namespace Av
open Go
attribute [local irreducible] AWp V7 Kz KE awS awC jS awQ jY JB Wl jJ awR Ws awB okR Vo ris
def aat (lt:Int→Int→Bool) (out:List Int) (x:Int):Nat→Nat
  | 0=>0
  | k + 1=>if lt x (out.getD k 0) = true then aat lt out x k else k + 1
theorem ahv (lt:Int→Int→Bool) (out:List Int) (x:Int):∀ k,aat lt out x k≤k
  | 0=>Nat.le_refl _
  | k + 1=>by
    rw [aat];split
    · exact Nat.le_succ_of_le (ahv lt out x k)
    · exact Nat.le_refl _
def afF (lt:Int→Int→Bool) (out:List Int) (x:Int):List Int:=out.take (aat lt out x out.length)++[x]++out.drop (aat lt out x out.length)
def WE (lt:Int→Int→Bool) (l:List Int):List Int:=l.foldl (afF lt) []
theorem akz (lt:Int→Int→Bool) (out:List Int) (x:Int):(afF lt out x).length = out.length + 1:=by
  have:=ahv lt out x out.length
  simp [afF];omega
theorem aeQ (lt:Int→Int→Bool):∀ (l out:List Int),(l.foldl (afF lt) out).length = out.length + l.length
  | [],out=>by simp
  | x :: r,out=>by rw [List.foldl_cons,aeQ lt r,akz];simp;omega
theorem vf (lt:Int→Int→Bool) (l:List Int):(WE lt l).length = l.length:=by rw [WE,aeQ];simp
theorem aiU (lt:Int→Int→Bool) (x:Int):WE lt [x] = [x]:=by simp [WE,afF,aat]
abbrev ltS (x y:Int):Bool:=decide (w5 y < w5 x)
theorem ajC (out:List Int) (x:Int):∀ k,aat ltS out x k = ajD out x k
  | 0=>rfl
  | k + 1=>by rw [aat,ajD,ajC out x k];simp only [ltS,decide_eq_true_eq]
theorem alb (l:List Int):WE ltS l = xU l:=by
  have:afF ltS = agF:=by funext out x;rw [afF,agF,ajC]
  rw [WE,xU,this]
def vX (lt:Int→Int→Bool) (xs:List Int) (a i:Nat):List Int:=xs.take a++(WE lt ((xs.take i).drop a)++xs.drop i)
def Vv:AC:=QF [0] (.reg [xo 2 (.mknil 1)]) (QF [0] (QF [0,4] (.reg [mv 3 0,xo 4 (.isnil false (.t 3))]) (.cond (.t 4) (QF [2] (.reg [xo 2 (.mknil 1)]) (.ret)) (.skip))) (QF [2] (.reg [xo 5 (.bslice 0 1 false [(.int .i64 0)] []),mv 6 0,xo 7 (.append 1 8 [(.int .i64 0)] (.t 5) (.t 6)),mv 2 7]) (.ret))) def r_slices_Clone___int_int:List Y9:=[.tmp 2]
def Vf (Γ:Env) (f:Nat):Prop:=∀ (l:List Int) (hl:l.length < 2 ^ 34),EvW Γ f [.sl 1 (l.map V.int)] 1 (l.map V.int)
theorem xd {Γ:Env} {f:Nat} (h:Has Γ.P f 8 Vv r_slices_Clone___int_int) :Vf Γ f:=by
  intro l hl
  refine j8 h (by simp) (by first|exact vn _|exact vd _) fun C hC hm=>?_
  subst hC
  unfold Vv
  rcases l with _|⟨x,r⟩
  · repeat' (first|refine Qp fun K' hK=>?_|refine Qt fun K' hK=>?_|refine Qq ?_|refine Qr ?_|refine Qa ?_|((first|refine Qs ⟨_,rfl,fun hc=>?_,fun hc=>?_⟩|refine QM (fun hc=>?_) (fun hc=>?_)|refine QN (fun hc=>?_) (fun hc=>?_))<;>first|(cases hc;done)|((try simp only [znz] at hc);first|exact znf|skip))|refine Qv ?_|refine Qu ?_|simp (maxSteps:=1000000) only [go_sem]|(refine hK _ ?_;clear hK K')|apply And.intro|exact zlo|omega|exact zms)
    intro t
    rcases t with _|_
    · repeat' (first|refine Qp fun K' hK=>?_|refine Qt fun K' hK=>?_|refine Qq ?_|refine Qr ?_|refine Qa ?_|((first|refine Qs ⟨_,rfl,fun hc=>?_,fun hc=>?_⟩|refine QM (fun hc=>?_) (fun hc=>?_)|refine QN (fun hc=>?_) (fun hc=>?_))<;>first|(cases hc;done)|((try simp only [znz] at hc);first|exact znf|skip))|refine Qv ?_|refine Qu ?_|simp (maxSteps:=1000000) only [go_sem]|(refine hK _ ?_;clear hK K')|apply And.intro|exact zlo|omega|exact zms)
      all_goals (refine adN (xs:=[]) _ _ rfl ?_ ?_<;>first|rfl|(simp;done))
    · repeat' (first|refine Qp fun K' hK=>?_|refine Qt fun K' hK=>?_|refine Qq ?_|refine Qr ?_|refine Qa ?_|((first|refine Qs ⟨_,rfl,fun hc=>?_,fun hc=>?_⟩|refine QM (fun hc=>?_) (fun hc=>?_)|refine QN (fun hc=>?_) (fun hc=>?_))<;>first|(cases hc;done)|((try simp only [znz] at hc);first|exact znf|skip))|refine Qv ?_|refine Qu ?_|simp (maxSteps:=1000000) only [go_sem]|(refine hK _ ?_;clear hK K')|apply And.intro|exact zlo|omega|exact zms)
      all_goals (refine adN (xs:=[]) _ _ rfl ?_ ?_<;>first|rfl|(simp;done))
  · repeat' (first|refine Qp fun K' hK=>?_|refine Qt fun K' hK=>?_|refine Qq ?_|refine Qr ?_|refine Qa ?_|((first|refine Qs ⟨_,rfl,fun hc=>?_,fun hc=>?_⟩|refine QM (fun hc=>?_) (fun hc=>?_)|refine QN (fun hc=>?_) (fun hc=>?_))<;>first|(cases hc;done)|((try simp only [znz] at hc);first|exact znf|skip))|refine Qv ?_|refine Qu ?_|simp (maxSteps:=1000000) only [go_sem]|(refine hK _ ?_;clear hK K')|apply And.intro|exact zlo|omega|exact zms)
    all_goals first
      | (simp only [List.length_map,List.length_cons] at hl ⊢;omega)
      | (refine adN (xs:=V.int x :: List.map V.int r) _ _ rfl ?_ ?_<;>first|rfl|(simp;done))
theorem ai8 {lt:Int→Int→Bool} {xs:List Int} {a:Nat} (h:a < xs.length):vX lt xs a (a + 1) = xs:=by
  have e:(xs.take (a + 1)).drop a = [xs[a]]:=by
    rw [List.take_add_one,List.getElem?_eq_getElem h,List.drop_append_of_le_length (by simp;omega),List.drop_eq_nil_of_le (by simp;omega)];rfl
  rw [vX,e,aiU,List.singleton_append,← List.drop_eq_getElem_cons h,List.take_append_drop]
def Wt (P S:List Int) (x:Int) (R:List Int) (q:Nat):List Int:=P++(S.take q++x :: (S.drop q++R))
theorem ac6 {P S R:List Int} {x:Int} {q:Nat}:(Wt P S x R q).length = P.length + S.length + 1 + R.length:=by
  simp only [Wt,List.length_append,List.length_cons,List.length_take,List.length_drop];omega
theorem agG {P S R:List Int} {x:Int} {q:Nat} (h:q≤S.length):(Wt P S x R q)[P.length + q]? = some x:=by
  have:(S.take q).length = q:=by simp;omega
  rw [Wt,List.getElem?_append_right (by omega),List.getElem?_append_right (by omega),this]
  simp
theorem aiS {P S R:List Int} {x:Int} {q:Nat} (h:q < S.length):(Wt P S x R (q + 1))[P.length + q]? = some S[q]:=by
  rw [Wt,List.getElem?_append_right (by omega),List.getElem?_append_left (by simp;omega),List.getElem?_take]
  simp [h]
theorem aiW (S y x:Int) (T:List Int):∀ A:List Int,((A++y :: S :: T).set (A.length + 1) y).set A.length x = A++x :: y :: T
  | []=>rfl
  | z :: A=>by
    have:=aiW S y x T A
    simp only [List.cons_append,List.length_cons,List.set_cons_succ,this]
theorem afJ {P S R:List Int} {x:Int} {q:Nat} (h:q < S.length):((Wt P S x R (q + 1)).set (P.length + (q + 1)) S[q]).set (P.length + q) x = Wt P S x R q:=by
  have e1:S.take (q + 1) = S.take q++[S[q]]:=by rw [List.take_add_one,List.getElem?_eq_getElem h];rfl
  have e2:S.drop q = S[q] :: S.drop (q + 1):=List.drop_eq_getElem_cons h
  have e3:(S.take q).length = q:=by simp;omega
  have e4:Wt P S x R (q + 1) = (P++S.take q)++S[q] :: x :: (S.drop (q + 1)++R):=by rw [Wt,e1];simp only [List.append_assoc,List.cons_append,List.nil_append]
  have e5:Wt P S x R q = (P++S.take q)++x :: S[q] :: (S.drop (q + 1)++R):=by rw [Wt,e2];simp only [List.append_assoc,List.cons_append,List.nil_append]
  have hl:(P++S.take q).length = P.length + q:=by rw [List.length_append,e3]
  have hl2:P.length + (q + 1) = (P++S.take q).length + 1:=by omega
  rw [e4,e5,hl2,← hl]
  exact aiW _ _ _ _ _
def Y1:List AO:=[mv 18 9,mv 19 1,bn 20 .gtr 18 19,mv 21 20,mg 22 3 21 true,mg 23 0 21 true,mg 24 9 21 true,xg 25 (.iaddr 1 (.t 23) (.t 24)) 21 true,xg 26 (.load false 1 (.t 25)) 21 true,mg 27 0 21 true,mg 28 9 21 true,xg 29 (.bin .sub (.t 28) (.c (V.int 1))) 21 true,xg 30 (.iaddr 1 (.t 27) (.t 29)) 21 true,xg 31 (.load false 1 (.t 30)) 21 true,xg 32 (.callv (.t 22) [(.t 26),(.t 31)]) 21 true,xg 33 (.bin .lss (.t 32) (.c (V.int 0))) 21 true,xo 34 (.pick (.t 21) (.t 33) (.c (V.bool false)))]
def Y3:List (List Nat):=[[],[],[0,1],[2],[3],[3],[3],[5,6,3],[7,3],[3],[3],[10,3],[9,11,3],[12,3],[4,8,13,3,3],[14,3],[3,15]]
def YZ:OT:=.one 0 (.one 1 (.one 2 (.one 3 (.one 4 (.one 5 (.one 6 (.one 7 (.one 8 (.one 9 (.one 10 (.one 11 (.one 12 (.one 13 (.or 14 (.one 15 (.one 16 (.done))) (.done)))))))))))))))
def Jh:OP:=.one 0 false [] (mv 18 9) (.one 1 false [] (mv 19 1) (.one 2 false [] (bn 20 .gtr 18 19) (.one 3 false [] (mv 21 20) (.one 4 false [] (mg 22 3 21 true) (.one 5 false [] (mg 23 0 21 true) (.one 6 false [] (mg 24 9 21 true) (.one 7 false [] (xg 25 (.iaddr 1 (.t 23) (.t 24)) 21 true) (.one 8 false [] (xg 26 (.load false 1 (.t 25)) 21 true) (.one 9 false [] (mg 27 0 21 true) (.one 10 false [] (mg 28 9 21 true) (.one 11 false [] (xg 29 (.bin .sub (.t 28) (.c (V.int 1))) 21 true) (.one 12 false [] (xg 30 (.iaddr 1 (.t 27) (.t 29)) 21 true) (.one 13 false [] (xg 31 (.load false 1 (.t 30)) 21 true) (.or 14 true [] (xg 32 (.callv (.t 22) [(.t 26),(.t 31)]) 21 true) (.one 15 false [14] (xg 33 (.bin .lss (.t 32) (.c (V.int 0))) 21 true) (.one 16 false [14] (xo 34 (.pick (.t 21) (.t 33) (.c (V.bool false)))) (.done))) (.done)))))))))))))))
theorem QU:okR (Y1) Y3 [14] YZ = true:=by kernel_rfl
theorem QS:Vo (ris (Y1) Y3 [14]) YZ = Jh:=by kernel_rfl
def Y0:List AO:=[mv 37 0,mv 38 9,mv 39 0,mv 40 9,bc 41 .sub 40 (V.int 1),mv 42 0,mv 43 9,bc 44 .sub 43 (V.int 1),ia 45 1 42 44,ld 46 1 45,mv 47 0,mv 48 9,ia 49 1 47 48,ld 50 1 49,ia 51 1 37 38,xs 1 51 46,ia 52 1 39 41,xs 1 52 50]
def Y2:List (List Nat):=[[],[],[],[],[3],[],[],[6],[5,7],[8],[],[],[10,11],[12],[0,1,0,1,5,6,7,8,9,13],[14,9,0,1,5,6,7,8,9,13],[2,4,0,1,2,3,4,5,6,7,8,9,10,11,12,13,14,15],[16,13,15,0,1,2,3,4,5,6,7,8,9,10,11,12,13,14,15]]
def YY:OT:=.one 0 (.one 1 (.one 2 (.one 3 (.one 4 (.one 5 (.one 6 (.one 7 (.one 10 (.one 11 (.or 8 (.or 9 (.or 12 (.one 13 (.one 14 (.one 15 (.one 16 (.one 17 (.done)))))) (.done)) (.or 12 (.or 9 (.one 13 (.one 14 (.one 15 (.one 16 (.one 17 (.done)))))) (.or 13 (.one 9 (.one 14 (.one 15 (.one 16 (.one 17 (.done)))))) (.done))) (.done))) (.or 12 (.or 8 (.or 9 (.one 13 (.one 14 (.one 15 (.one 16 (.one 17 (.done)))))) (.or 13 (.one 9 (.one 14 (.one 15 (.one 16 (.one 17 (.done)))))) (.done))) (.or 13 (.one 8 (.one 9 (.one 14 (.one 15 (.one 16 (.one 17 (.done))))))) (.done))) (.done))))))))))))
def Jg:OP:=.one 0 false [] (mv 37 0) (.one 1 false [] (mv 38 9) (.one 2 false [] (mv 39 0) (.one 3 false [] (mv 40 9) (.one 4 false [] (bc 41 .sub 40 (V.int 1)) (.one 5 false [] (mv 42 0) (.one 6 false [] (mv 43 9) (.one 7 false [] (bc 44 .sub 43 (V.int 1)) (.one 10 false [] (mv 47 0) (.one 11 false [] (mv 48 9) (.or 8 true [] (ia 45 1 42 44) (.or 9 true [] (ld 46 1 45) (.or 12 true [] (ia 49 1 47 48) (.one 13 true [] (ld 50 1 49) (.one 14 true [] (ia 51 1 37 38) (.one 15 true [] (xs 1 51 46) (.one 16 true [] (ia 52 1 39 41) (.one 17 true [] (xs 1 52 50) (.done)))))) (.done)) (.or 12 true [] (ia 49 1 47 48) (.or 9 true [] (ld 46 1 45) (.one 13 true [] (ld 50 1 49) (.one 14 true [] (ia 51 1 37 38) (.one 15 true [] (xs 1 51 46) (.one 16 true [] (ia 52 1 39 41) (.one 17 true [] (xs 1 52 50) (.done)))))) (.or 13 true [] (ld 50 1 49) (.one 9 true [] (ld 46 1 45) (.one 14 true [] (ia 51 1 37 38) (.one 15 true [] (xs 1 51 46) (.one 16 true [] (ia 52 1 39 41) (.one 17 true [] (xs 1 52 50) (.done)))))) (.done))) (.done))) (.or 12 true [] (ia 49 1 47 48) (.or 8 true [] (ia 45 1 42 44) (.or 9 true [] (ld 46 1 45) (.one 13 true [] (ld 50 1 49) (.one 14 true [] (ia 51 1 37 38) (.one 15 true [] (xs 1 51 46) (.one 16 true [] (ia 52 1 39 41) (.one 17 true [] (xs 1 52 50) (.done)))))) (.or 13 true [] (ld 50 1 49) (.one 9 true [] (ld 46 1 45) (.one 14 true [] (ia 51 1 37 38) (.one 15 true [] (xs 1 51 46) (.one 16 true [] (ia 52 1 39 41) (.one 17 true [] (xs 1 52 50) (.done)))))) (.done))) (.or 13 true [] (ld 50 1 49) (.one 8 true [] (ia 45 1 42 44) (.one 9 true [] (ld 46 1 45) (.one 14 true [] (ia 51 1 37 38) (.one 15 true [] (xs 1 51 46) (.one 16 true [] (ia 52 1 39 41) (.one 17 true [] (xs 1 52 50) (.done))))))) (.done))) (.done))))))))))))
theorem QT:okR (Y0) Y2 [8,9,12,13,14,16] YY = true:=by kernel_rfl
theorem QR:Vo (ris (Y0) Y2 [8,9,12,13,14,16]) YY = Jg:=by kernel_rfl def c_slices_insertionSortCmpFunc_int:AC:=QF [0,1,2,3,8] (.reg [mv 10 1,bc 11 .add 10 (V.int 1),mv 8 11]) (.block 0 (Wv [0,1,2,3,8] (QF [0,1,2,3,8] (QF [0,1,2,3,8,14] (.reg [mv 12 8,mv 13 2,bn 14 .lss 12 13]) (.cond (.t 14) (.skip) (.exit 0))) (QF [0,1,2,3,8] (.block 1 (QF [0,1,2,3,8,9] (.reg [mv 17 8,mv 9 17]) (.block 2 (Wv [0,1,2,3,8,9] (QF [0,1,2,3,8,9] (QF [0,1,2,3,8,9,34] (aaY [14] YZ (Jh) (Y1) Y3) (.cond (.t 34) (.skip) (.exit 2))) (QF [0,1,2,3,8,9] (.block 3 (aaY [8,9,12,13,14,16] YY (Jg) (Y0) Y2)) (.reg [mv 35 9,bc 36 .sub 35 (V.int 1),mv 9 36]))))))) (.reg [mv 15 8,bc 16 .add 15 (V.int 1),mv 8 16]))))) def r_slices_insertionSortCmpFunc_int:List Y9:=[]
def Y6 (Γ:Env) (f:Nat):Prop:=∀ (xs:List Int) (a b:Nat) (g:Nat) (c:Int→Int→Int) (hcmp:∀ x y,EvN Γ g [V.int x,V.int y] (V.int (c x y))) (hab:a≤b) (hb:b≤xs.length) (hx:xs.length < 2 ^ 34),EvL Γ f [V.int a,V.int b,.clo g []] 1 (xs.map V.int) (.tup []) ((if a = b then xs.map V.int else (vX (fun x y=>decide (c x y < 0)) xs a b).map V.int))
theorem KC {Γ:Env} {f:Nat} (h:Has Γ.P f 53 c_slices_insertionSortCmpFunc_int r_slices_insertionSortCmpFunc_int) :Y6 Γ f:=by
  intro xs a b g c hcmp hab hb hx
  refine qz h (by simp) (by simp only [V.closed,Qw,V.noSl,JL,and_self,and_true,true_and]) fun C hC hm=>?_
  subst hC
  unfold c_slices_insertionSortCmpFunc_int
  have hwa:=JO (k:=a) (by omega)
  by_cases he:a = b
  · subst he
    rw [if_pos rfl]
    have e1:decide (((a + 1:Nat):Int) < (a:Int)) = false:=by simp;omega
    repeat' (first|refine Qp fun K' hK=>?_|refine Qt fun K' hK=>?_|refine Qm 17 (fun _=>true) rfl (QU) (QS) fun K' hK=>?_|refine Qn 17 (fun _=>true) rfl (QU) (QS) fun K' hK=>?_|refine Qm 18 (fun _=>false) rfl (QT) (QR) fun K' hK=>?_|refine Qn 18 (fun _=>false) rfl (QT) (QR) fun K' hK=>?_|refine Qq ?_|refine Qr ?_|refine Qa ?_|((first|refine Qs ⟨_,rfl,fun hc=>?_,fun hc=>?_⟩|refine QM (fun hc=>?_) (fun hc=>?_)|refine QN (fun hc=>?_) (fun hc=>?_))<;>first|(cases hc;done)|((try simp only [znz] at hc);first|exact znf|skip))|refine Qv ?_|refine Qu ?_|simp (maxSteps:=1000000) only [go_sem,hwa,Jh,Jg]|(refine hK _ ?_;clear hK K')|apply And.intro|exact zlo|omega|exact zms)
    refine JF (ι:=Unit) (fun _=>True) (fun _=>Ym [(0,.hd 0 0 (xs.map V.int).length),(1,V.int a),(2,V.int a),(3,.clo g []),(8,V.int (a + 1:Nat))] [(0,.buf true 1 (xs.map V.int))] 1) (fun _=>0) () trivial (Jp []) (Jq [] (by simp only [go_sem,and_true,true_and,implies_true,Option.some.injEq,exists_eq_left',Ql,Qo];(repeat' (first|rfl|apply And.intro|omega|exact fun h=>h|exact Exists.intro _ rfl))) (by simp only [go_sem,and_true,true_and,implies_true,Option.some.injEq,exists_eq_left',Ql,Qo];(repeat' (first|rfl|apply And.intro|omega|exact fun h=>h|exact Exists.intro _ rfl))) (by simp) (by simp) (by omega)) fun j hj K'' hL2=>?_
    repeat' (first|refine Qp fun K' hK=>?_|refine Qt fun K' hK=>?_|refine Qm 17 (fun _=>true) rfl (QU) (QS) fun K' hK=>?_|refine Qn 17 (fun _=>true) rfl (QU) (QS) fun K' hK=>?_|refine Qm 18 (fun _=>false) rfl (QT) (QR) fun K' hK=>?_|refine Qn 18 (fun _=>false) rfl (QT) (QR) fun K' hK=>?_|refine Qq ?_|refine Qr ?_|refine Qa ?_|((first|refine Qs ⟨_,rfl,fun hc=>?_,fun hc=>?_⟩|refine QM (fun hc=>?_) (fun hc=>?_)|refine QN (fun hc=>?_) (fun hc=>?_))<;>first|(cases hc;done)|((try simp only [znz] at hc);first|exact znf|skip))|refine Qv ?_|refine Qu ?_|simp (maxSteps:=1000000) only [go_sem,Ym,e1,Jh,Jg]|(refine hK _ ?_;clear hK K')|apply And.intro|exact zlo|omega|exact zms)
    all_goals first|(refine KW _ rfl rfl (by simp only [go_sem]) ?_<;>first|rfl|(simp;done))
  · rw [if_neg he]
    repeat' (first|refine Qp fun K' hK=>?_|refine Qt fun K' hK=>?_|refine Qm 17 (fun _=>true) rfl (QU) (QS) fun K' hK=>?_|refine Qn 17 (fun _=>true) rfl (QU) (QS) fun K' hK=>?_|refine Qm 18 (fun _=>false) rfl (QT) (QR) fun K' hK=>?_|refine Qn 18 (fun _=>false) rfl (QT) (QR) fun K' hK=>?_|refine Qq ?_|refine Qr ?_|refine Qa ?_|((first|refine Qs ⟨_,rfl,fun hc=>?_,fun hc=>?_⟩|refine QM (fun hc=>?_) (fun hc=>?_)|refine QN (fun hc=>?_) (fun hc=>?_))<;>first|(cases hc;done)|((try simp only [znz] at hc);first|exact znf|skip))|refine Qv ?_|refine Qu ?_|simp (maxSteps:=1000000) only [go_sem,hwa,Jh,Jg]|(refine hK _ ?_;clear hK K')|apply And.intro|exact zlo|omega|exact zms)
    generalize hlt:(fun x y=>decide (c x y < 0)) = lt
    have hlt2:∀ x y,decide (c x y < 0) = lt x y:=by intro x y;rw [← hlt]
    refine JF (ι:=Nat) (fun i=>a + 1≤i∧i≤b) (fun i=>Ym [(0,.hd 0 0 (xs.map V.int).length),(1,V.int a),(2,V.int b),(3,.clo g []),(8,V.int i)] [(0,.buf true 1 ((vX lt xs a i).map V.int))] 1) (fun i=>b - i) (a + 1) ⟨by omega,by omega⟩ (Jp []) (Jq [] (by simp only [go_sem,and_true,true_and,implies_true,Option.some.injEq,exists_eq_left',Ql,Qo];(repeat' (first|rfl|apply And.intro|omega|exact fun h=>h|exact Exists.intro _ rfl))) (by rw [ai8 (by omega)];simp only [go_sem,and_true,true_and,implies_true,Option.some.injEq,exists_eq_left',Ql,Qo];(repeat' (first|rfl|apply And.intro|omega|exact fun h=>h|exact Exists.intro _ rfl))) (by simp) (by simp) (by omega)) fun i hi K' hL=>?_
    obtain ⟨hi1,hi2⟩:=hi
    by_cases hib:i = b
    · subst hib
      have e1:decide ((i:Int) < (i:Int)) = false:=by simp
      repeat' (first|refine Qp fun K' hK=>?_|refine Qt fun K' hK=>?_|refine Qm 17 (fun _=>true) rfl (QU) (QS) fun K' hK=>?_|refine Qn 17 (fun _=>true) rfl (QU) (QS) fun K' hK=>?_|refine Qm 18 (fun _=>false) rfl (QT) (QR) fun K' hK=>?_|refine Qn 18 (fun _=>false) rfl (QT) (QR) fun K' hK=>?_|refine Qq ?_|refine Qr ?_|refine Qa ?_|((first|refine Qs ⟨_,rfl,fun hc=>?_,fun hc=>?_⟩|refine QM (fun hc=>?_) (fun hc=>?_)|refine QN (fun hc=>?_) (fun hc=>?_))<;>first|(cases hc;done)|((try simp only [znz] at hc);first|exact znf|skip))|refine Qv ?_|refine Qu ?_|simp (maxSteps:=1000000) only [go_sem,Ym,e1,Jh,Jg]|(refine hK _ ?_;clear hK K')|apply And.intro|exact zlo|omega|exact zms)
      all_goals first|(refine KW _ rfl rfl (by simp only [go_sem]) ?_<;>first|rfl|(simp;done))
    · have e1:decide ((i:Int) < (b:Int)) = true:=by simp;omega
      have hwi:=JO (k:=i) (by omega)
      obtain ⟨x,hget⟩:∃ x,xs[i]? = some x:=⟨_,List.getElem?_eq_getElem (by omega)⟩
      have hdx:xs.drop i = x :: xs.drop (i + 1):=by
        rw [List.drop_eq_getElem_cons (by omega)];congr 1
        rw [List.getElem?_eq_getElem (by omega)] at hget;exact Option.some.inj hget
      have hP:(xs.take a).length = a:=by simp;omega
      have hS:(WE lt ((xs.take i).drop a)).length = i - a:=by rw [vf];simp;omega
      have hnext:vX lt xs a (i + 1) = xs.take a++(afF lt (WE lt ((xs.take i).drop a)) x++xs.drop (i + 1)):=by
        have:(xs.take (i + 1)).drop a = (xs.take i).drop a++[x]:=by
          rw [List.take_add_one,hget,List.drop_append_of_le_length (by simp;omega)];rfl
        rw [vX,this,WE,List.foldl_append];rfl
      have hnow:vX lt xs a i = Wt (xs.take a) (WE lt ((xs.take i).drop a)) x (xs.drop (i + 1)) (i - a):=by
        rw [vX,hdx,Wt,← hS,List.take_length,List.drop_length];rfl
      have hcell:∀ q,Wt (xs.take a) (WE lt ((xs.take i).drop a)) x (xs.drop (i + 1)) q = Wt (xs.take a) (WE lt ((xs.take i).drop a)) x (xs.drop (i + 1)) q:=fun q=>rfl
      rw [hnow]
      generalize WE lt ((xs.take i).drop a) = S at *
      have hPg:=hP
      generalize xs.take a = P at *
      have hR:(xs.drop (i + 1)).length = xs.length - (i + 1):=List.length_drop
      generalize xs.drop (i + 1) = R at *
      repeat' (first|refine Qp fun K' hK=>?_|refine Qt fun K' hK=>?_|refine Qm 17 (fun _=>true) rfl (QU) (QS) fun K' hK=>?_|refine Qn 17 (fun _=>true) rfl (QU) (QS) fun K' hK=>?_|refine Qm 18 (fun _=>false) rfl (QT) (QR) fun K' hK=>?_|refine Qn 18 (fun _=>false) rfl (QT) (QR) fun K' hK=>?_|refine Qq ?_|refine Qr ?_|refine Qa ?_|((first|refine Qs ⟨_,rfl,fun hc=>?_,fun hc=>?_⟩|refine QM (fun hc=>?_) (fun hc=>?_)|refine QN (fun hc=>?_) (fun hc=>?_))<;>first|(cases hc;done)|((try simp only [znz] at hc);first|exact znf|skip))|refine Qv ?_|refine Qu ?_|simp (maxSteps:=1000000) only [go_sem,Ym,e1,Jh,Jg]|(refine hK _ ?_;clear hK K')|apply And.intro|exact zlo|omega|exact zms)
      refine JF (ι:=Nat) (fun q=>q≤i - a∧aat lt S x q = aat lt S x S.length) (fun q=>Ym [(0,.hd 0 0 (xs.map V.int).length),(1,V.int a),(2,V.int b),(3,.clo g []),(8,V.int i),(9,V.int (a + q:Nat))] [(0,.buf true 1 ((Wt P S x R q).map V.int))] 1) (fun q=>q) (i - a) ⟨by omega,by rw [hS]⟩ (Jp []) (Jq [] (by rw [show a + (i - a) = i by omega];simp only [go_sem,and_true,true_and,implies_true,Option.some.injEq,exists_eq_left',Ql,Qo];(repeat' (first|rfl|apply And.intro|omega|exact fun h=>h|exact Exists.intro _ rfl))) (by simp only [go_sem,and_true,true_and,implies_true,Option.some.injEq,exists_eq_left',Ql,Qo];(repeat' (first|rfl|apply And.intro|omega|exact fun h=>h|exact Exists.intro _ rfl))) (by simp) (by simp) (by omega)) fun q hq K'' hL2=>?_
      obtain ⟨hq1,hq2⟩:=hq
      have hfin:aat lt S x S.length = q→Wt P S x R q = vX lt xs a (i + 1):=by
        intro h
        rw [hnext,afF,h];simp only [Wt,List.append_assoc,List.singleton_append,List.cons_append,List.nil_append]
      have hlen:(Wt P S x R q).length = xs.length:=by rw [ac6,hP,hS,hR];omega
      have gx:=agG (P:=P) (R:=R) (x:=x) (q:=q) (S:=S) (by omega)
      rw [hP] at gx
      rcases q with _|q
      · have e2:decide (((a + 0:Nat):Int) > (a:Int)) = false:=by simp
        have hf:=hfin hq2.symm
        repeat' (first|refine Qp fun K' hK=>?_|refine Qt fun K' hK=>?_|refine Qm 17 (fun _=>true) rfl (QU) (QS) fun K' hK=>?_|refine Qn 17 (fun _=>true) rfl (QU) (QS) fun K' hK=>?_|refine Qm 18 (fun _=>false) rfl (QT) (QR) fun K' hK=>?_|refine Qn 18 (fun _=>false) rfl (QT) (QR) fun K' hK=>?_|refine Qq ?_|refine Qr ?_|refine Qa ?_|((first|refine Qs ⟨_,rfl,fun hc=>?_,fun hc=>?_⟩|refine QM (fun hc=>?_) (fun hc=>?_)|refine QN (fun hc=>?_) (fun hc=>?_))<;>first|(cases hc;done)|((try simp only [znz] at hc);first|exact znf|skip))|refine Qv ?_|refine Qu ?_|simp (maxSteps:=1000000) only [go_sem,Ym,e2,hwi,Jh,Jg]|(refine hK _ ?_;clear hK K')|apply And.intro|exact zlo|omega|exact zms)
        rw [hf]
        exact hL _ (i + 1) (Jp []) ⟨by omega,by omega⟩ (by omega) (Jq [] (by simp only [go_sem,and_true,true_and,implies_true,Option.some.injEq,exists_eq_left',Ql,Qo];(repeat' (first|rfl|apply And.intro|omega|exact fun h=>h|exact Exists.intro _ rfl))) (by simp only [go_sem,and_true,true_and,implies_true,Option.some.injEq,exists_eq_left',Ql,Qo];(repeat' (first|rfl|apply And.intro|omega|exact fun h=>h|exact Exists.intro _ rfl))) (by simp) (by simp) (by omega))
      · have hqS:q < S.length:=by omega
        have e2:decide (((a + (q + 1):Nat):Int) > (a:Int)) = true:=decide_eq_true (by omega)
        have hwj:IntKind.i64.wrap (((a + (q + 1):Nat):Int) - 1) = ((a + q:Nat):Int):=by rw [Yq (by omega) (by omega)];omega
        have gy:=aiS (P:=P) (R:=R) (x:=x) (q:=q) (S:=S) hqS
        rw [hP] at gy
        have hset:=afJ (P:=P) (R:=R) (x:=x) (q:=q) (S:=S) hqS
        rw [hP] at hset
        have hyd:S.getD q 0 = S[q]:=by rw [List.getD_eq_getElem?_getD,List.getElem?_eq_getElem hqS];rfl
        rw [aat,hyd] at hq2
        generalize S[q] = y at *
        have hcc:=(hcmp x y).b
        have hd:=hlt2 x y
        rcases hl:lt x y with _|_
        · rw [hl] at hq2 hd
          simp only [Bool.false_eq_true,if_false] at hq2
          have hf:=hfin hq2.symm
          repeat' (first|refine Qp fun K' hK=>?_|refine Qt fun K' hK=>?_|refine Qm 17 (fun _=>true) rfl (QU) (QS) fun K' hK=>?_|refine Qn 17 (fun _=>true) rfl (QU) (QS) fun K' hK=>?_|refine Qm 18 (fun _=>false) rfl (QT) (QR) fun K' hK=>?_|refine Qn 18 (fun _=>false) rfl (QT) (QR) fun K' hK=>?_|refine Qq ?_|refine Qr ?_|refine Qa ?_|((first|refine Qs ⟨_,rfl,fun hc=>?_,fun hc=>?_⟩|refine QM (fun hc=>?_) (fun hc=>?_)|refine QN (fun hc=>?_) (fun hc=>?_))<;>first|(cases hc;done)|((try simp only [znz] at hc);first|exact znf|skip))|refine Qv ?_|refine Qu ?_|simp (maxSteps:=1000000) only [go_sem,Ym,e2,hwi,hwj,Int.toNat_natCast,List.getElem?_map,gx,gy,hd,Jh,Jg]|(refine hK _ ?_;clear hK K')|apply And.intro|((first|apply QX|apply Jz);(focus first|exact hcc))|exact zlo|omega|exact zms)
          all_goals
            rw [hf]
            exact hL _ (i + 1) (Jp []) ⟨by omega,by omega⟩ (by omega) (Jq [] (by simp only [go_sem,and_true,true_and,implies_true,Option.some.injEq,exists_eq_left',Ql,Qo];(repeat' (first|rfl|apply And.intro|omega|exact fun h=>h|exact Exists.intro _ rfl))) (by simp only [go_sem,and_true,true_and,implies_true,Option.some.injEq,exists_eq_left',Ql,Qo];(repeat' (first|rfl|apply And.intro|omega|exact fun h=>h|exact Exists.intro _ rfl))) (by simp) (by simp) (by omega))
        · rw [hl] at hq2 hd
          simp only [if_true] at hq2
          have hs1:((List.map V.int (Wt P S x R (q + 1))).set (a + (q + 1)) (V.int y))[a + q]? = some (V.int y):=by
            rw [List.getElem?_set_ne (by omega),List.getElem?_map,gy];rfl
          have hs2:((List.map V.int (Wt P S x R (q + 1))).set (a + (q + 1)) (V.int y)).set (a + q) (V.int x) = List.map V.int (Wt P S x R q):=by
            rw [← hset,List.map_set,List.map_set]
          repeat' (first|refine Qp fun K' hK=>?_|refine Qt fun K' hK=>?_|refine Qm 17 (fun _=>true) rfl (QU) (QS) fun K' hK=>?_|refine Qn 17 (fun _=>true) rfl (QU) (QS) fun K' hK=>?_|refine Qm 18 (fun _=>false) rfl (QT) (QR) fun K' hK=>?_|refine Qn 18 (fun _=>false) rfl (QT) (QR) fun K' hK=>?_|refine Qq ?_|refine Qr ?_|refine Qa ?_|((first|refine Qs ⟨_,rfl,fun hc=>?_,fun hc=>?_⟩|refine QM (fun hc=>?_) (fun hc=>?_)|refine QN (fun hc=>?_) (fun hc=>?_))<;>first|(cases hc;done)|((try simp only [znz] at hc);first|exact znf|skip))|refine Qv ?_|refine Qu ?_|simp (maxSteps:=1000000) only [go_sem,Ym,e2,hwi,hwj,Int.toNat_natCast,List.getElem?_map,gx,gy,hd,hs1,hs2,Jh,Jg]|(refine hK _ ?_;clear hK K')|apply And.intro|((first|apply QX|apply Jz);(focus first|exact hcc))|exact zlo|omega|exact zms)
          all_goals exact hL2 _ q (Jp []) ⟨by omega,hq2⟩ (by omega) (Jq [] (by simp only [go_sem,and_true,true_and,implies_true,Option.some.injEq,exists_eq_left',Ql,Qo];(repeat' (first|rfl|apply And.intro|omega|exact fun h=>h|exact Exists.intro _ rfl))) (by simp only [go_sem,and_true,true_and,implies_true,Option.some.injEq,exists_eq_left',Ql,Qo];(repeat' (first|rfl|apply And.intro|omega|exact fun h=>h|exact Exists.intro _ rfl))) (by simp) (by simp) (by omega))
end Av
end
section
set_option linter.unusedSimpArgs false
set_option linter.unusedVariables false
set_option maxRecDepth 10000
set_option maxHeartbeats 4000000
namespace Av
open Go
attribute [local irreducible] AWp V7 Kz KE awS awC jS awQ jY JB Wl jJ awR Ws awB okR Vo ris
section mrg
variable (key:Int→Int)
abbrev ltK (x y:Int):Bool:=decide (key x < key y)
abbrev yI (xs ys:List Int):List Int:=List.merge xs ys (fun x y=>!(ltK key y x))
theorem Wq (ys:List Int):yI key [] ys = ys:=by simp [yI]
theorem WP (xs:List Int):yI key xs [] = xs:=by simp [yI]
theorem xZ (x y:Int) (xs ys:List Int):yI key (x :: xs) (y :: ys) = if key y < key x then y :: yI key (x :: xs) ys else x :: yI key xs (y :: ys):=by
  rw [yI,List.cons_merge_cons]
  by_cases h:key y < key x<;>simp [h]
theorem alu (xs ys:List Int):(yI key xs ys).length = xs.length + ys.length:=by simp [yI]
theorem KN:∀ (x1 y1 x2 y2:List Int),(∀ y∈y1,∀ x∈x2,key y < key x)→(∀ x∈x1,∀ y∈y2,¬ key y < key x) →
    yI key (x1++x2) (y1++y2) = yI key x1 y1++yI key x2 y2
  | [],[],x2,y2,_,_=>by simp only [List.nil_append,Wq]
  | x :: x1,[],x2,y2,h1,h2=>by
    have ih:=KN x1 [] x2 y2 h1 fun a ha=>h2 a (List.mem_cons_of_mem _ ha)
    simp only [List.nil_append,WP] at ih ⊢
    cases y2 with
    | nil=>simp only [WP]
    | cons y y2 =>
      rw [List.cons_append,xZ,if_neg (h2 x (by simp) y (by simp)),ih,List.cons_append]
  | [],y :: y1,x2,y2,h1,h2=>by
    have ih:=KN [] y1 x2 y2 (fun a ha=>h1 a (List.mem_cons_of_mem _ ha)) h2
    simp only [List.nil_append,Wq] at ih ⊢
    cases x2 with
    | nil=>simp only [Wq]
    | cons x x2 =>
      rw [List.cons_append,xZ,if_pos (h1 y (by simp) x (by simp)),ih,List.cons_append]
  | x :: x1,y :: y1,x2,y2,h1,h2=>by
    rw [List.cons_append,List.cons_append,xZ,xZ]
    by_cases h:key y < key x
    · have ih:=KN (x :: x1) y1 x2 y2 (fun a ha=>h1 a (List.mem_cons_of_mem _ ha)) h2
      rw [List.cons_append] at ih
      rw [if_pos h,if_pos h,ih,List.cons_append]
    · have ih:=KN x1 (y :: y1) x2 y2 h1 (fun a ha=>h2 a (List.mem_cons_of_mem _ ha))
      rw [List.cons_append] at ih
      rw [if_neg h,if_neg h,ih,List.cons_append]
termination_by x1 y1=>x1.length + y1.length
abbrev agC (l:List Int):Prop:=l.Pairwise fun x y=>key x≤key y
theorem ajz (x:Int) (U V:List Int) (h1:∀ u∈U,key u≤key x) (h2:∀ v∈V,key x < key v):afF (ltK key) (U++V) x = U++x :: V:=by
  have hk:∀ k,k≤V.length→aat (ltK key) (U++V) x (U.length + k) = U.length:=by
    intro k;induction k with
    | zero =>
      intro _
      rw [Nat.add_zero]
      rcases hU:U.length with _|n
      · rfl
      · have hn:n < U.length:=by omega
        have:(U++V).getD n 0 = U[n]:=by rw [List.getD_eq_getElem?_getD,List.getElem?_append_left hn,List.getElem?_eq_getElem hn];rfl
        rw [aat,this,if_neg (by have:=h1 _ (List.getElem_mem hn);simp only [ltK,decide_eq_true_eq];omega)]
    | succ k ih =>
      intro hk
      have hk':k < V.length:=by omega
      have:(U++V).getD (U.length + k) 0 = V[k]:=by
        rw [List.getD_eq_getElem?_getD,List.getElem?_append_right (by omega),Nat.add_sub_cancel_left,List.getElem?_eq_getElem hk'];rfl
      rw [← Nat.add_assoc,aat,this,if_pos (by have:=h2 _ (List.getElem_mem hk');simp only [ltK,decide_eq_true_eq];omega)]
      exact ih (by omega)
  have:=hk V.length (Nat.le_refl _)
  rw [afF,List.length_append,this,List.take_left,List.drop_left,List.append_assoc];rfl
theorem abu (x:Int):∀ (l:List Int),agC key l→∃ U V,l = U++V∧(∀ u∈U,key u≤key x)∧∀ v∈V,key x < key v
  | [],_=>⟨[],[],rfl,by simp,by simp⟩
  | a :: l,h=>by
    obtain ⟨h1,h2⟩:=List.pairwise_cons.1 h
    by_cases ha:key a≤key x
    · obtain ⟨U,V,e,hU,hV⟩:=abu x l h2
      refine ⟨a :: U,V,by rw [e];rfl,?_,hV⟩
      intro u hu
      rcases List.mem_cons.1 hu with rfl|hu
      · exact ha
      · exact hU u hu
    · refine ⟨[],a :: l,rfl,by simp,?_⟩
      intro v hv
      rcases List.mem_cons.1 hv with rfl|hv
      · omega
      · have:=h1 v hv;omega
theorem ajY {l:List Int} (h:agC key l) (x:Int):agC key (afF (ltK key) l x):=by
  obtain ⟨U,V,rfl,hU,hV⟩:=abu key x l h
  rw [ajz key x U V hU hV]
  obtain ⟨h1,h2,h3⟩:=List.pairwise_append.1 h
  refine List.pairwise_append.2 ⟨h1,List.pairwise_cons.2 ⟨fun v hv=>Int.le_of_lt (hV v hv),h2⟩,?_⟩
  intro u hu v hv
  rcases List.mem_cons.1 hv with rfl|hv
  · exact hU u hu
  · exact h3 u hu v hv
theorem age:∀ (l out:List Int),agC key out→agC key (l.foldl (afF (ltK key)) out)
  | [],out,h=>h
  | x :: l,out,h=>age l _ (ajY key h x)
theorem ae2 (l:List Int):agC key (WE (ltK key) l):=age key l [] List.Pairwise.nil
theorem ajt {xs ys:List Int} {z:Int}:z∈yI key xs ys↔z∈xs∨z∈ys:=List.mem_merge
theorem alv {P Q:List Int} (hP:agC key P) (hQ:agC key Q) (x:Int):yI key P (afF (ltK key) Q x) = afF (ltK key) (yI key P Q) x:=by
  obtain ⟨U,V,rfl,hU,hV⟩:=abu key x Q hQ
  obtain ⟨A,B,rfl,hA,hB⟩:=abu key x P hP
  rw [ajz key x U V hU hV]
  have hUB:∀ y∈U,∀ b∈B,key y < key b:=fun y hy b hb=>Int.lt_of_le_of_lt (hU y hy) (hB b hb)
  have hAV:∀ a∈A,∀ v∈V,¬ key v < key a:=fun a ha v hv=>by have:=hA a ha;have:=hV v hv;omega
  rw [KN key A U B V hUB hAV,KN key A U B (x :: V) hUB (fun a ha v hv=>by
    rcases List.mem_cons.1 hv with rfl|hv
    · have:=hA a ha;omega
    · exact hAV a ha v hv)]
  have e:yI key B (x :: V) = x :: yI key B V:=by
    cases B with
    | nil=>rw [Wq,Wq]
    | cons b B=>rw [xZ,if_pos (hB b (by simp))]
  rw [e,ajz key x]
  · intro u hu
    rcases (ajt key).1 hu with h|h
    · exact hA u h
    · exact hU u h
  · intro u hu
    rcases (ajt key).1 hu with h|h
    · exact hB u h
    · exact hV u h
theorem agc {P:List Int} (hP:agC key P):∀ (l out:List Int),agC key out→yI key P (l.foldl (afF (ltK key)) out) = l.foldl (afF (ltK key)) (yI key P out)
  | [],out,_=>rfl
  | x :: l,out,h=>by rw [List.foldl_cons,List.foldl_cons,agc hP l _ (ajY key h x),alv key hP h]
theorem aj9 (A B:List Int):WE (ltK key) (A++B) = yI key (WE (ltK key) A) (WE (ltK key) B):=by
  have h:=agc key (ae2 key A) B [] List.Pairwise.nil
  rw [WP] at h
  have e:WE (ltK key) (A++B) = B.foldl (afF (ltK key)) (WE (ltK key) A):=by rw [WE,WE,List.foldl_append]
  rw [e,← h];rfl
theorem af2 {x:Int} {B:List Int} {q:Nat} (h1:∀ t,t < q→∀ y,B[t]? = some y→key y < key x) (h2:∀ y,B[q]? = some y→¬ key y < key x) :
    yI key [x] B = B.take q++x :: B.drop q:=by
  have e:=KN key [] (B.take q) [x] (B.drop q) (fun y hy z hz=>by
    rw [List.mem_singleton] at hz;subst hz
    obtain ⟨t,ht⟩:=List.mem_iff_getElem?.1 hy
    rw [List.getElem?_take] at ht
    split at ht
    · exact h1 t (by assumption) y ht
    · cases ht) (fun a ha=>by simp at ha)
  rw [List.nil_append,List.take_append_drop,Wq] at e
  rw [e];congr 1
  rcases hd:B.drop q with _|⟨y,r⟩
  · rw [WP]
  · have:B[q]? = some y:=by rw [← List.head?_drop,hd];rfl
    rw [xZ,if_neg (h2 y this),Wq]
theorem afc {y:Int} {A:List Int} {q:Nat} (h1:∀ t,t < q→∀ x,A[t]? = some x→¬ key y < key x) (h2:∀ x,A[q]? = some x→key y < key x) :
    yI key A [y] = A.take q++y :: A.drop q:=by
  have e:=KN key (A.take q) [] (A.drop q) [y] (fun y hy=>by simp at hy) (fun a ha z hz=>by
    rw [List.mem_singleton] at hz;subst hz
    obtain ⟨t,ht⟩:=List.mem_iff_getElem?.1 ha
    rw [List.getElem?_take] at ht
    split at ht
    · exact h1 t (by assumption) a ht
    · cases ht)
  rw [List.nil_append,List.take_append_drop,WP] at e
  rw [e];congr 1
  rcases hd:A.drop q with _|⟨x,r⟩
  · rw [Wq]
  · have:A[q]? = some x:=by rw [← List.head?_drop,hd];rfl
    rw [xZ,if_pos (h2 x this),WP]
theorem acd {l:List Int} (h:agC key l) {i j:Nat} {x y:Int} (hij:i≤j) (hx:l[i]? = some x) (hy:l[j]? = some y):key x≤key y:=by
  rcases Nat.lt_or_eq_of_le hij with h'|rfl
  · obtain ⟨hi,ex⟩:=List.getElem?_eq_some_iff.1 hx
    obtain ⟨hj,ey⟩:=List.getElem?_eq_some_iff.1 hy
    rw [← ex,← ey];exact List.pairwise_iff_getElem.1 h i j hi hj h'
  · rw [hx] at hy;cases hy;exact Int.le_refl _
theorem alw {A B:List Int} (hA:agC key A) (hB:agC key B) {s t:Nat} (hs:s≤A.length) (ht:t≤B.length)
    (h1:∀ x y,A[s]? = some x→0 < t→B[t - 1]? = some y→key y < key x)
    (h2:∀ x y,0 < s→A[s - 1]? = some x→B[t]? = some y→¬ key y < key x) :
    yI key A B = yI key (A.take s) (B.take t)++yI key (A.drop s) (B.drop t):=by
  have e:=KN key (A.take s) (B.take t) (A.drop s) (B.drop t) (fun y hy x hx=>by
    obtain ⟨i,hi⟩:=List.mem_iff_getElem?.1 hy
    obtain ⟨j,hj⟩:=List.mem_iff_getElem?.1 hx
    rw [List.getElem?_take] at hi
    rw [List.getElem?_drop] at hj
    split at hi
    · rename_i hit
      have hsl:s < A.length:=by have:=(List.getElem?_eq_some_iff.1 hj).1;omega
      have ht0:0 < t:=by omega
      have hA1:=acd key hA (Nat.le_add_right s j) (List.getElem?_eq_getElem hsl) hj
      have htl:t - 1 < B.length:=by omega
      have hB1:=acd key hB (show i≤t - 1 by omega) hi (List.getElem?_eq_getElem htl)
      have:=h1 _ _ (List.getElem?_eq_getElem hsl) ht0 (List.getElem?_eq_getElem htl)
      omega
    · cases hi) (fun x hx y hy=>by
    obtain ⟨i,hi⟩:=List.mem_iff_getElem?.1 hx
    obtain ⟨j,hj⟩:=List.mem_iff_getElem?.1 hy
    rw [List.getElem?_take] at hi
    rw [List.getElem?_drop] at hj
    split at hi
    · rename_i his
      have htl:t < B.length:=by have:=(List.getElem?_eq_some_iff.1 hj).1;omega
      have hs0:0 < s:=by omega
      have hB1:=acd key hB (Nat.le_add_right t j) (List.getElem?_eq_getElem htl) hj
      have hsl:s - 1 < A.length:=by omega
      have hA1:=acd key hA (show i≤s - 1 by omega) hi (List.getElem?_eq_getElem hsl)
      have:=h2 _ _ hs0 (List.getElem?_eq_getElem hsl) (List.getElem?_eq_getElem htl)
      omega
    · cases hi)
  rw [List.take_append_drop,List.take_append_drop] at e
  exact e
end mrg
end Av
end
section
set_option linter.unusedSimpArgs false
set_option linter.unusedVariables false
set_option maxRecDepth 10000
set_option maxHeartbeats 4000000
namespace Av
open Go
attribute [local irreducible] AWp V7 Kz KE awS awC jS awQ jY JB Wl jJ awR Ws awB okR Vo ris
def ad0 (P X M Y R:List Int) (k:Nat):List Int:=P++(Y.take k++(X.drop k++(M++(X.take k++(Y.drop k++R)))))
theorem aj8 {P X M Y R:List Int} {k:Nat} (h:X.length = Y.length):(ad0 P X M Y R k).length = P.length + X.length + M.length + Y.length + R.length:=by
  simp only [ad0,List.length_append,List.length_take,List.length_drop];omega
theorem al1 {P X M Y R:List Int} {k:Nat} (h:X.length = Y.length) (hk:k < X.length):(ad0 P X M Y R k)[P.length + k]? = some X[k]:=by
  have h1:(Y.take k).length = k:=by simp;omega
  rw [ad0,List.getElem?_append_right (by omega),List.getElem?_append_right (by omega),List.drop_eq_getElem_cons hk,List.cons_append,show P.length + k - P.length - (Y.take k).length = 0 by omega];rfl
theorem al0 {P X M Y R:List Int} {k:Nat} (h:X.length = Y.length) (hk:k < Y.length):(ad0 P X M Y R k)[P.length + X.length + M.length + k]? = some Y[k]:=by
  have h1:(Y.take k).length = k:=by simp;omega
  have h2:(X.drop k).length = X.length - k:=by simp
  have h3:(X.take k).length = k:=by simp;omega
  rw [ad0,List.getElem?_append_right (by omega),List.getElem?_append_right (by omega),List.getElem?_append_right (by omega),List.getElem?_append_right (by omega),List.getElem?_append_right (by omega),List.drop_eq_getElem_cons hk,List.cons_append,h1,h2,h3,show P.length + X.length + M.length + k - P.length - k - (X.length - k) - M.length - k = 0 by omega];rfl
theorem afO (y:Int) (T:List Int) (x:Int):∀ (A:List Int) (n:Nat),n = A.length→(A++x :: T).set n y = A++y :: T
  | [],_,rfl=>rfl
  | z :: A,_,rfl=>by rw [List.cons_append,List.length_cons,List.set_cons_succ,afO y T x A _ rfl,List.cons_append]
theorem aj7 {P X M Y R:List Int} {k:Nat} (h:X.length = Y.length) (hx:k < X.length) (hy:k < Y.length) :
    ((ad0 P X M Y R k).set (P.length + k) Y[k]).set (P.length + X.length + M.length + k) X[k] = ad0 P X M Y R (k + 1):=by
  have e1:X.take (k + 1) = X.take k++[X[k]]:=by rw [List.take_add_one,List.getElem?_eq_getElem hx];rfl
  have e2:Y.take (k + 1) = Y.take k++[Y[k]]:=by rw [List.take_add_one,List.getElem?_eq_getElem hy];rfl
  have d1:=List.drop_eq_getElem_cons hx
  have d2:=List.drop_eq_getElem_cons hy
  have l1:(X.take k).length = k:=by simp;omega
  have l2:(Y.take k).length = k:=by simp;omega
  have a1:ad0 P X M Y R k = (P++Y.take k)++X[k] :: (X.drop (k + 1)++(M++(X.take k++(Y.drop k++R)))):=by
    rw [ad0,d1];simp only [List.append_assoc,List.cons_append]
  have a2:(P++Y.take k)++Y[k] :: (X.drop (k + 1)++(M++(X.take k++(Y.drop k++R)))) = (P++(Y.take k++(Y[k] :: (X.drop (k + 1)++(M++X.take k)))))++Y[k] :: (Y.drop (k + 1)++R):=by
    rw [d2];simp only [List.append_assoc,List.cons_append]
  rw [a1,afO _ _ _ _ _ (by simp;omega),a2,afO _ _ _ _ _ (by simp;omega),ad0,e1,e2]
  simp only [List.append_assoc,List.cons_append,List.nil_append]
def Xx:List AO:=[mv 16 0,mv 17 1,mv 18 10,bn 19 .add 17 18,mv 20 0,mv 21 2,mv 22 10,bn 23 .add 21 22,mv 24 0,mv 25 2,mv 26 10,bn 27 .add 25 26,ia 28 1 24 27,ld 29 1 28,mv 30 0,mv 31 1,mv 32 10,bn 33 .add 31 32,ia 34 1 30 33,ld 35 1 34,ia 36 1 16 19,xs 1 36 29,ia 37 1 20 23,xs 1 37 35]
def Xz:List (List Nat):=[[],[],[],[1,2],[],[],[],[5,6],[],[],[],[9,10],[8,11],[12],[],[],[],[15,16],[14,17],[18],[0,3,0,1,2,3,8,9,10,11,12,13,19],[20,13,0,1,2,3,8,9,10,11,12,13,19],[4,7,0,1,2,3,4,5,6,7,8,9,10,11,12,13,14,15,16,17,18,19,20,21],[22,19,21,0,1,2,3,4,5,6,7,8,9,10,11,12,13,14,15,16,17,18,19,20,21]]
def Xw:OT:=.one 0 (.one 1 (.one 2 (.one 3 (.one 4 (.one 5 (.one 6 (.one 7 (.one 8 (.one 9 (.one 10 (.one 11 (.one 14 (.one 15 (.one 16 (.one 17 (.or 12 (.or 13 (.or 18 (.one 19 (.one 20 (.one 21 (.one 22 (.one 23 (.done)))))) (.done)) (.or 18 (.or 13 (.one 19 (.one 20 (.one 21 (.one 22 (.one 23 (.done)))))) (.or 19 (.one 13 (.one 20 (.one 21 (.one 22 (.one 23 (.done)))))) (.done))) (.done))) (.or 18 (.or 12 (.or 13 (.one 19 (.one 20 (.one 21 (.one 22 (.one 23 (.done)))))) (.or 19 (.one 13 (.one 20 (.one 21 (.one 22 (.one 23 (.done)))))) (.done))) (.or 19 (.one 12 (.one 13 (.one 20 (.one 21 (.one 22 (.one 23 (.done))))))) (.done))) (.done))))))))))))))))))
def Yi:OP:=.one 0 false [] (mv 16 0) (.one 1 false [] (mv 17 1) (.one 2 false [] (mv 18 10) (.one 3 false [] (bn 19 .add 17 18) (.one 4 false [] (mv 20 0) (.one 5 false [] (mv 21 2) (.one 6 false [] (mv 22 10) (.one 7 false [] (bn 23 .add 21 22) (.one 8 false [] (mv 24 0) (.one 9 false [] (mv 25 2) (.one 10 false [] (mv 26 10) (.one 11 false [] (bn 27 .add 25 26) (.one 14 false [] (mv 30 0) (.one 15 false [] (mv 31 1) (.one 16 false [] (mv 32 10) (.one 17 false [] (bn 33 .add 31 32) (.or 12 true [] (ia 28 1 24 27) (.or 13 true [] (ld 29 1 28) (.or 18 true [] (ia 34 1 30 33) (.one 19 true [] (ld 35 1 34) (.one 20 true [] (ia 36 1 16 19) (.one 21 true [] (xs 1 36 29) (.one 22 true [] (ia 37 1 20 23) (.one 23 true [] (xs 1 37 35) (.done)))))) (.done)) (.or 18 true [] (ia 34 1 30 33) (.or 13 true [] (ld 29 1 28) (.one 19 true [] (ld 35 1 34) (.one 20 true [] (ia 36 1 16 19) (.one 21 true [] (xs 1 36 29) (.one 22 true [] (ia 37 1 20 23) (.one 23 true [] (xs 1 37 35) (.done)))))) (.or 19 true [] (ld 35 1 34) (.one 13 true [] (ld 29 1 28) (.one 20 true [] (ia 36 1 16 19) (.one 21 true [] (xs 1 36 29) (.one 22 true [] (ia 37 1 20 23) (.one 23 true [] (xs 1 37 35) (.done)))))) (.done))) (.done))) (.or 18 true [] (ia 34 1 30 33) (.or 12 true [] (ia 28 1 24 27) (.or 13 true [] (ld 29 1 28) (.one 19 true [] (ld 35 1 34) (.one 20 true [] (ia 36 1 16 19) (.one 21 true [] (xs 1 36 29) (.one 22 true [] (ia 37 1 20 23) (.one 23 true [] (xs 1 37 35) (.done)))))) (.or 19 true [] (ld 35 1 34) (.one 13 true [] (ld 29 1 28) (.one 20 true [] (ia 36 1 16 19) (.one 21 true [] (xs 1 36 29) (.one 22 true [] (ia 37 1 20 23) (.one 23 true [] (xs 1 37 35) (.done)))))) (.done))) (.or 19 true [] (ld 35 1 34) (.one 12 true [] (ia 28 1 24 27) (.one 13 true [] (ld 29 1 28) (.one 20 true [] (ia 36 1 16 19) (.one 21 true [] (xs 1 36 29) (.one 22 true [] (ia 37 1 20 23) (.one 23 true [] (xs 1 37 35) (.done))))))) (.done))) (.done))))))))))))))))))
theorem J2:okR (Xx) Xz [12,13,18,19,20,22] Xw = true:=by kernel_rfl
theorem JZ:Vo (ris (Xx) Xz [12,13,18,19,20,22]) Xw = Yi:=by kernel_rfl def c_slices_swapRangeCmpFunc_int:AC:=QF [0,1,2,3,10] (.reg [mc 10 (V.int 0)]) (.block 0 (Wv [0,1,2,3,10] (QF [0,1,2,3,10] (QF [0,1,2,3,10,13] (.reg [mv 11 10,mv 12 3,bn 13 .lss 11 12]) (.cond (.t 13) (.skip) (.exit 0))) (QF [0,1,2,3,10] (.block 1 (aaY [12,13,18,19,20,22] Xw (Yi) (Xx) Xz)) (.reg [mv 14 10,bc 15 .add 14 (V.int 1),mv 10 15]))))) def r_slices_swapRangeCmpFunc_int:List Y9:=[]
def X2 (Γ:Env) (f:Nat):Prop:=∀ (P X M Y R:List Int) (g:Nat) (hXY:X.length = Y.length) (hx:P.length + X.length + M.length + Y.length + R.length < 2 ^ 34),EvL Γ f [V.int P.length,V.int (P.length + X.length + M.length:Nat),V.int X.length,.clo g []] 1 ((P++(X++(M++(Y++R)))).map V.int) (.tup []) (((P++(Y++(M++(X++R)))).map V.int))
theorem jh {Γ:Env} {f:Nat} (h:Has Γ.P f 38 c_slices_swapRangeCmpFunc_int r_slices_swapRangeCmpFunc_int) :X2 Γ f:=by
  intro P X M Y R g hXY hx
  refine qz h (by simp) (by simp only [V.closed,Qw,V.noSl,JL,and_self,and_true,true_and]) fun C hC hm=>?_
  subst hC
  unfold c_slices_swapRangeCmpFunc_int
  have hs:P++(X++(M++(Y++R))) = ad0 P X M Y R 0:=by rw [ad0];rfl
  have he:P++(Y++(M++(X++R))) = ad0 P X M Y R X.length:=by
    rw [ad0,List.take_of_length_le (by omega),List.drop_of_length_le (Nat.le_refl _),List.take_of_length_le (Nat.le_refl _),List.drop_of_length_le (by omega)];rfl
  have hn:∀ k,((ad0 P X M Y R k).map V.int).length = P.length + X.length + M.length + Y.length + R.length:=fun k=>by rw [List.length_map,aj8 hXY]
  rw [hs,he]
  repeat' (first|refine Qp fun K' hK=>?_|refine Qt fun K' hK=>?_|refine Qm 24 (fun _=>false) rfl (J2) (JZ) fun K' hK=>?_|refine Qn 24 (fun _=>false) rfl (J2) (JZ) fun K' hK=>?_|refine Qq ?_|refine Qr ?_|refine Qa ?_|((first|refine Qs ⟨_,rfl,fun hc=>?_,fun hc=>?_⟩|refine QM (fun hc=>?_) (fun hc=>?_)|refine QN (fun hc=>?_) (fun hc=>?_))<;>first|(cases hc;done)|((try simp only [znz] at hc);first|exact znf|skip))|refine Qv ?_|refine Qu ?_|simp (maxSteps:=1000000) only [go_sem,Yi]|(refine hK _ ?_;clear hK K')|apply And.intro|exact zlo|omega|exact zms)
  refine JF (ι:=Nat) (fun k=>k≤X.length) (fun k=>Ym [(0,.hd 0 0 ((ad0 P X M Y R 0).map V.int).length),(1,V.int P.length),(2,V.int (P.length + X.length + M.length:Nat)),(3,V.int X.length),(10,V.int k)] [(0,.buf true 1 ((ad0 P X M Y R k).map V.int))] 1) (fun k=>X.length - k) 0 (by omega) (Jp []) (Jq [] (by simp only [go_sem,and_true,true_and,implies_true,Option.some.injEq,exists_eq_left',Ql,Qo];(repeat' (first|rfl|apply And.intro|omega|exact fun h=>h|exact Exists.intro _ rfl))) (by simp only [go_sem,and_true,true_and,implies_true,Option.some.injEq,exists_eq_left',Ql,Qo];(repeat' (first|rfl|apply And.intro|omega|exact fun h=>h|exact Exists.intro _ rfl))) (by simp) (by simp) (by omega)) fun k hk K' hL=>?_
  by_cases hke:k = X.length
  · subst hke
    have e1:decide ((X.length:Int) < (X.length:Int)) = false:=by simp
    repeat' (first|refine Qp fun K' hK=>?_|refine Qt fun K' hK=>?_|refine Qm 24 (fun _=>false) rfl (J2) (JZ) fun K' hK=>?_|refine Qn 24 (fun _=>false) rfl (J2) (JZ) fun K' hK=>?_|refine Qq ?_|refine Qr ?_|refine Qa ?_|((first|refine Qs ⟨_,rfl,fun hc=>?_,fun hc=>?_⟩|refine QM (fun hc=>?_) (fun hc=>?_)|refine QN (fun hc=>?_) (fun hc=>?_))<;>first|(cases hc;done)|((try simp only [znz] at hc);first|exact znf|skip))|refine Qv ?_|refine Qu ?_|simp (maxSteps:=1000000) only [go_sem,Ym,e1,Yi]|(refine hK _ ?_;clear hK K')|apply And.intro|exact zlo|omega|exact zms)
    all_goals first|(refine KW _ rfl rfl (by simp only [go_sem]) ?_<;>first|rfl|(simp;done))
  · have hkx:k < X.length:=by omega
    have hky:k < Y.length:=by omega
    have e1:decide ((k:Int) < (X.length:Int)) = true:=by simp;omega
    have hwk:=JO (k:=k) (by omega)
    have gx:=al1 (P:=P) (M:=M) (R:=R) hXY hkx
    have gy:=al0 (P:=P) (M:=M) (R:=R) hXY hky
    have hset:=aj7 (P:=P) (M:=M) (R:=R) hXY hkx hky
    have hwa:IntKind.i64.wrap ((P.length:Int) + (k:Int)) = ((P.length + k:Nat):Int):=by rw [Yq (by omega) (by omega)];omega
    have hwb:IntKind.i64.wrap (((P.length + X.length + M.length:Nat):Int) + (k:Int)) = ((P.length + X.length + M.length + k:Nat):Int):=by rw [Yq (by omega) (by omega)];omega
    generalize X[k] = x at *
    generalize Y[k] = y at *
    have hs2:((List.map V.int (ad0 P X M Y R k)).set (P.length + k) (V.int y)).set (P.length + X.length + M.length + k) (V.int x) = List.map V.int (ad0 P X M Y R (k + 1)):=by
      rw [← hset,List.map_set,List.map_set]
    have hs1:((List.map V.int (ad0 P X M Y R k)).set (P.length + k) (V.int y))[P.length + X.length + M.length + k]? = some (V.int y):=by
      rw [List.getElem?_set_ne (by omega),List.getElem?_map,gy];rfl
    repeat' (first|refine Qp fun K' hK=>?_|refine Qt fun K' hK=>?_|refine Qm 24 (fun _=>false) rfl (J2) (JZ) fun K' hK=>?_|refine Qn 24 (fun _=>false) rfl (J2) (JZ) fun K' hK=>?_|refine Qq ?_|refine Qr ?_|refine Qa ?_|((first|refine Qs ⟨_,rfl,fun hc=>?_,fun hc=>?_⟩|refine QM (fun hc=>?_) (fun hc=>?_)|refine QN (fun hc=>?_) (fun hc=>?_))<;>first|(cases hc;done)|((try simp only [znz] at hc);first|exact znf|skip))|refine Qv ?_|refine Qu ?_|simp (maxSteps:=1000000) only [go_sem,Ym,e1,hwk,hwa,hwb,Int.toNat_natCast,List.getElem?_map,gx,gy,hs1,hs2,hn,Yi]|(refine hK _ ?_;clear hK K')|apply And.intro|exact zlo|omega|exact zms)
    all_goals first|exact hL _ (k + 1) (Jp []) (by omega) (by omega) (Jq [] (by simp only [go_sem,and_true,true_and,implies_true,Option.some.injEq,exists_eq_left',Ql,Qo,hn];(repeat' (first|rfl|apply And.intro|omega|exact fun h=>h|exact Exists.intro _ rfl))) (by simp only [go_sem,and_true,true_and,implies_true,Option.some.injEq,exists_eq_left',Ql,Qo];(repeat' (first|rfl|apply And.intro|omega|exact fun h=>h|exact Exists.intro _ rfl))) (by simp) (by simp) (by omega))
def WJ (Yc:Nat):AC:=QF [0,2,3,4,10] (.reg [mv 12 2,mv 13 1,bn 14 .sub 12 13,mv 10 14]) (QF [0,2,4,10,11] (.reg [mv 15 3,mv 16 2,bn 17 .sub 15 16,mv 11 17]) (QF [0,2,4,10] (.block 0 (Wv [0,2,4,10,11] (QF [0,2,4,10,11] (QF [0,2,4,10,11,20] (.reg [mv 18 10,mv 19 11,bn 20 .neq 18 19]) (.cond (.t 20) (.skip) (.exit 0))) (.block 1 (QF [0,2,4,10,11,23] (.reg [mv 21 10,mv 22 11,bn 23 .gtr 21 22]) (.cond (.t 23) (QF [0,2,4,10,11] (.reg [mv 24 0,mv 25 2,mv 26 10,bn 27 .sub 25 26,mv 28 2,mv 29 11,mv 30 4,cl 31 Yc [24,27,28,29,30]]) (.reg [mv 32 10,mv 33 11,bn 34 .sub 32 33,mv 10 34])) (QF [0,2,4,10,11] (.reg [mv 35 0,mv 36 2,mv 37 10,bn 38 .sub 36 37,mv 39 2,mv 40 11,bn 41 .add 39 40,mv 42 10,bn 43 .sub 41 42,mv 44 10,mv 45 4,cl 46 Yc [35,38,43,44,45]]) (.reg [mv 47 11,mv 48 10,bn 49 .sub 47 48,mv 11 49])))))))) (.reg [mv 50 0,mv 51 2,mv 52 10,bn 53 .sub 51 52,mv 54 2,mv 55 10,mv 56 4,cl 57 Yc [50,53,54,55,56]]))) def r_slices_rotateCmpFunc_int:List Y9:=[]
def WB (Γ:Env) (f:Nat):Prop:=∀ (P A B R:List Int) (g:Nat) (hA:0 < A.length) (hB:0 < B.length) (hx:P.length + A.length + B.length + R.length < 2 ^ 34),EvL Γ f [V.int P.length,V.int (P.length + A.length:Nat),V.int (P.length + A.length + B.length:Nat),.clo g []] 1 ((P++(A++(B++R))).map V.int) (.tup []) (((P++(B++(A++R))).map V.int))
theorem j7 {Γ:Env} {f Yc:Nat} (h:Has Γ.P f 58 (WJ Yc) r_slices_rotateCmpFunc_int) (JU:X2 Γ Yc):WB Γ f:=by
  intro P A B R g hA hB hx
  refine qz h (by simp) (by simp only [V.closed,Qw,V.noSl,JL,and_self,and_true,true_and]) fun C hC hm=>?_
  subst hC
  unfold WJ
  have hn:((P++(A++(B++R))).map V.int).length = P.length + A.length + B.length + R.length:=by simp;omega
  have hwi:IntKind.i64.wrap (((P.length + A.length:Nat):Int) - (P.length:Int)) = ((A.length:Nat):Int):=by rw [Yq (by omega) (by omega)];omega
  have hwj:IntKind.i64.wrap (((P.length + A.length + B.length:Nat):Int) - ((P.length + A.length:Nat):Int)) = ((B.length:Nat):Int):=by rw [Yq (by omega) (by omega)];omega
  have hT:(P++(B++(A++R))).length = P.length + A.length + B.length + R.length:=by simp;omega
  generalize hTT:P++(B++(A++R)) = T at *
  repeat' (first|refine Qp fun K' hK=>?_|refine Qt fun K' hK=>?_|refine Qq ?_|refine Qr ?_|refine Qa ?_|((first|refine Qs ⟨_,rfl,fun hc=>?_,fun hc=>?_⟩|refine QM (fun hc=>?_) (fun hc=>?_)|refine QN (fun hc=>?_) (fun hc=>?_))<;>first|(cases hc;done)|((try simp only [znz] at hc);first|exact znf|skip))|refine Qv ?_|refine Qu ?_|simp (maxSteps:=1000000) only [go_sem,hwi,hwj]|(refine hK _ ?_;clear hK K')|apply And.intro|(apply Ya;(focus exact rfl);(focus first|exact (JU _ _ _ _ _ _ zsd zsd));(focus exact rfl);(focus (first|(simp;done)|omega|(simp only [List.length_map];omega))))|exact zlo|omega|exact zms)
  refine JF (ι:=List Int×List Int×List Int×List Int) (fun q=>q.1++(q.2.2.1++(q.2.1++q.2.2.2)) = T∧q.1.length + q.2.1.length = P.length + A.length∧0 < q.2.1.length∧0 < q.2.2.1.length) (fun q=>Ym [(0,.hd 0 0 ((P++(A++(B++R))).map V.int).length),(2,V.int (P.length + A.length:Nat)),(4,.clo g []),(10,V.int q.2.1.length),(11,V.int q.2.2.1.length)] [(0,.buf true 1 ((q.1++(q.2.1++(q.2.2.1++q.2.2.2))).map V.int))] 1) (fun q=>q.2.1.length + q.2.2.1.length) (P,A,B,R) ⟨hTT,rfl,hA,hB⟩ (Jp []) (Jq [] (by simp only [go_sem,and_true,true_and,implies_true,Option.some.injEq,exists_eq_left',Ql,Qo];(repeat' (first|rfl|apply And.intro|omega|exact fun h=>h|exact Exists.intro _ rfl))) (by simp only [go_sem,and_true,true_and,implies_true,Option.some.injEq,exists_eq_left',Ql,Qo];(repeat' (first|rfl|apply And.intro|omega|exact fun h=>h|exact Exists.intro _ rfl))) (by simp) (by simp) (by omega)) fun q hq K' hL=>?_
  obtain ⟨D,U,V',E⟩:=q
  simp only at hq hL ⊢
  obtain ⟨hq1,hq2,hq3,hq4⟩:=hq
  have hl:D.length + U.length + V'.length + E.length = P.length + A.length + B.length + R.length:=by
    rw [← hT,← hq1];simp only [List.length_append];omega
  have hwm:IntKind.i64.wrap (((P.length + A.length:Nat):Int) - (U.length:Int)) = ((D.length:Nat):Int):=by rw [Yq (by omega) (by omega)];omega
  rcases Nat.lt_trichotomy U.length V'.length with h|h|h
  · have e1:((U.length:Int) != (V'.length:Int)) = true:=by simp;omega
    have e2:decide ((U.length:Int) > (V'.length:Int)) = false:=by simp;omega
    obtain ⟨V1,V2,rfl,hV⟩:∃ V1 V2,V' = V1++V2∧V2.length = U.length:=⟨V'.take (V'.length - U.length),V'.drop (V'.length - U.length),(List.take_append_drop _ _).symm,by simp;omega⟩
    rw [List.length_append] at *
    have hsw:=JU D U V1 V2 E g hV.symm (by omega)
    have hwb:IntKind.i64.wrap (((P.length + A.length:Nat):Int) + ((V1.length + V2.length:Nat):Int)) = ((P.length + A.length + (V1.length + V2.length):Nat):Int):=by rw [Yq (by omega) (by omega)];omega
    have hwc:IntKind.i64.wrap (((P.length + A.length + (V1.length + V2.length):Nat):Int) - (U.length:Int)) = ((D.length + U.length + V1.length:Nat):Int):=by rw [Yq (by omega) (by omega)];omega
    have hwd:IntKind.i64.wrap (((V1.length + V2.length:Nat):Int) - (U.length:Int)) = ((V1.length:Nat):Int):=by rw [Yq (by omega) (by omega)];omega
    rw [List.append_assoc V1 V2 E]
    have hlL:((D++(U++(V1++(V2++E)))).map V.int).length = ((P++(A++(B++R))).map V.int).length:=by simp;omega
    repeat' (first|refine Qp fun K' hK=>?_|refine Qt fun K' hK=>?_|refine Qq ?_|refine Qr ?_|refine Qa ?_|((first|refine Qs ⟨_,rfl,fun hc=>?_,fun hc=>?_⟩|refine QM (fun hc=>?_) (fun hc=>?_)|refine QN (fun hc=>?_) (fun hc=>?_))<;>first|(cases hc;done)|((try simp only [znz] at hc);first|exact znf|skip))|refine Qv ?_|refine Qu ?_|simp (maxSteps:=1000000) only [go_sem,Ym,e1,e2,hwm,hwb,hwc,hwd]|(refine hK _ ?_;clear hK K')|apply And.intro|(apply Ya;(focus exact rfl);(focus first|exact hsw|exact (JU _ _ _ _ _ _ zsd zsd));(focus exact rfl);(focus (first|(simp;done)|omega|(simp only [List.length_map];omega))))|exact zlo|omega|exact zms)
    all_goals first|exact hL _ (D,V2,V1,U++E) (Jp []) ⟨by rw [← hq1];simp only [List.append_assoc],by simp only;omega,by simp only;omega,by simp only;omega⟩ (by simp only;omega) (Jq [] (by simp only [go_sem,and_true,true_and,implies_true,Option.some.injEq,exists_eq_left',Ql,Qo,hV];(repeat' (first|rfl|apply And.intro|omega|exact fun h=>h|exact Exists.intro _ rfl))) (by simp only [go_sem,and_true,true_and,implies_true,Option.some.injEq,exists_eq_left',Ql,Qo];(repeat' (first|rfl|apply And.intro|omega|exact fun h=>h|exact Exists.intro _ rfl))) (by simp) (by simp) (by omega))
  · have e1:((U.length:Int) != (V'.length:Int)) = false:=by simp;omega
    have hlL:((D++(U++(V'++E))).map V.int).length = ((P++(A++(B++R))).map V.int).length:=by simp;omega
    have hsw:=JU D U [] V' E g h (by simp;omega)
    simp only [List.nil_append,List.length_nil,Nat.add_zero] at hsw
    rw [hq2,hq1] at hsw
    repeat' (first|refine Qp fun K' hK=>?_|refine Qt fun K' hK=>?_|refine Qq ?_|refine Qr ?_|refine Qa ?_|((first|refine Qs ⟨_,rfl,fun hc=>?_,fun hc=>?_⟩|refine QM (fun hc=>?_) (fun hc=>?_)|refine QN (fun hc=>?_) (fun hc=>?_))<;>first|(cases hc;done)|((try simp only [znz] at hc);first|exact znf|skip))|refine Qv ?_|refine Qu ?_|simp (maxSteps:=1000000) only [go_sem,Ym,e1,hwm]|(refine hK _ ?_;clear hK K')|apply And.intro|(apply Ya;(focus exact rfl);(focus first|exact hsw|exact (JU _ _ _ _ _ _ zsd zsd));(focus exact rfl);(focus (first|(simp;done)|omega|(simp only [List.length_map];omega))))|exact zlo|omega|exact zms)
    all_goals first|(refine KW _ rfl rfl (by simp only [go_sem]) ?_<;>first|rfl|(simp;done))
  · have e1:((U.length:Int) != (V'.length:Int)) = true:=by simp;omega
    have e2:decide ((U.length:Int) > (V'.length:Int)) = true:=by simp;omega
    obtain ⟨U1,U2,rfl,hU⟩:∃ U1 U2,U = U1++U2∧U1.length = V'.length:=⟨U.take V'.length,U.drop V'.length,(List.take_append_drop _ _).symm,by simp;omega⟩
    rw [List.length_append] at *
    have hsw:=JU D U1 U2 V' E g hU (by omega)
    rw [hU,show D.length + V'.length + U2.length = P.length + A.length by omega] at hsw
    have hwd:IntKind.i64.wrap (((U1.length + U2.length:Nat):Int) - (V'.length:Int)) = ((U2.length:Nat):Int):=by rw [Yq (by omega) (by omega)];omega
    rw [List.append_assoc U1 U2]
    have hlL:((D++(U1++(U2++(V'++E)))).map V.int).length = ((P++(A++(B++R))).map V.int).length:=by simp;omega
    repeat' (first|refine Qp fun K' hK=>?_|refine Qt fun K' hK=>?_|refine Qq ?_|refine Qr ?_|refine Qa ?_|((first|refine Qs ⟨_,rfl,fun hc=>?_,fun hc=>?_⟩|refine QM (fun hc=>?_) (fun hc=>?_)|refine QN (fun hc=>?_) (fun hc=>?_))<;>first|(cases hc;done)|((try simp only [znz] at hc);first|exact znf|skip))|refine Qv ?_|refine Qu ?_|simp (maxSteps:=1000000) only [go_sem,Ym,e1,e2,hwm,hwd]|(refine hK _ ?_;clear hK K')|apply And.intro|(apply Ya;(focus exact rfl);(focus first|exact hsw|exact (JU _ _ _ _ _ _ zsd zsd));(focus exact rfl);(focus (first|(simp;done)|omega|(simp only [List.length_map];omega))))|exact zlo|omega|exact zms)
    all_goals first|exact hL _ (D++V',U2,U1,E) (Jp []) ⟨by rw [← hq1];simp only [List.append_assoc],by simp only [List.length_append];omega,by simp only;omega,by simp only;omega⟩ (by simp only;omega) (Jq [] (by simp only [go_sem,and_true,true_and,implies_true,Option.some.injEq,exists_eq_left',Ql,Qo,hU];(repeat' (first|rfl|apply And.intro|omega|exact fun h=>h|exact Exists.intro _ rfl))) (by simp only [go_sem,and_true,true_and,implies_true,Option.some.injEq,exists_eq_left',Ql,Qo,List.append_assoc];(repeat' (first|rfl|apply And.intro|omega|exact fun h=>h|exact Exists.intro _ rfl))) (by simp) (by simp) (by omega))
end Av
end

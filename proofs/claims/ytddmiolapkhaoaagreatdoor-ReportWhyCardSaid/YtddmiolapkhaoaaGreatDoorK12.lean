/- Functions that answer a buffer of their own, whose elements show no memory. -/
import Derived.Test.YtddmiolapkhaoaaGreatDoorK11
import Derived.Lib.IndexLaws
import Derived.Lib.AtoiAllCases
set_option linter.unusedVariables false
set_option linter.unusedSimpArgs false
section
set_option maxRecDepth 10000
set_option maxHeartbeats 4000000
namespace Av
open Go
attribute [local irreducible] AWp U3 abh acE awS awC ajc awQ ajv Jo jG aiB awR yv awB okR ad1 ris
def anN:XH:=⟨0,[],0,0,0,0,0,0,0,0,0,0⟩
def ae2 (c:Int):XH:=if 1≤c∧c≤16 then U9.getD (c - 1).toNat anN else anN
def ah2 (c:Int):V:=.tup [(ae2 c).v,V.int (if 1≤c∧c≤16 then 0 else 8)]
theorem afF (c:Int):(ah2 c).closed:=by simp only [ah2,XH.v,XH.cells,V.closed,Qh,and_self]
theorem ajD (c:Int):(ah2 c).noSl:=by simp only [ah2,XH.v,XH.cells,V.noSl,Ue,and_self]
theorem alG:U9.length = 16:=rfl
theorem apD {c:Int} (h:1≤c∧c≤16):(U9.map XH.v)[(c - 1).toNat]? = some (ae2 c).v:=by
 have hk:(c - 1).toNat < U9.length:=by rw [alG];omega
 rw [zi,ae2,if_pos h,zB,zb hk,Option.getD_some];rfl
theorem apC {c:Int} (h:¬ (1≤c∧c≤16)):ae2 c = anN:=by rw [ae2,if_neg h]
def adt (Up:Nat):AC:=Qb [0,2] (.reg [xo 2 (.alloc [.val vi0,.val vs0,.val vi0,.val vi0,.val vi0,.val vi0,.val vi0,.val vi0,.val vi0,.val vi0,.val vi0,.val vi0]),mc 3 (V.int 0)]) (Qb [0,2,4] (.reg [cl 5 Up [],mv 4 5]) (Qb [0,2,4] (Qb [0,2,4,13] (.reg [mv 6 0,bc 7 .lss 6 (V.int 1),mv 8 7,mg 9 0 8 false,mg 10 4 8 false,xg 11 (.lenL (.t 10)) 8 false,xg 12 (.bin .gtr (.t 9) (.t 11)) 8 false,xo 13 (.pick (.t 8) (.c (V.bool true)) (.t 12))]) (.cond (.t 13) (Qb [2,3] (.reg [xo 14 (.build [vi0,vs0,vi0,vi0,vi0,vi0,vi0,vi0,vi0,vi0,vi0,vi0] []),xs 12 2 14,mc 3 (V.int 8)]) .ret) .skip)) (Qb [2,3] (.reg [mv 15 4,mv 16 0,bc 17 .sub 16 (V.int 1),ia 18 12 15 17,xo 19 (.load true 12 (.t 18)),xs 12 2 19,mc 3 (V.int 0)]) .ret))) def bW:List Q0:=[.cell 2 true 12,.tmp 3]
def jR (Γ:Env) (f:Nat):Prop:=∀ (c:Int),EvN Γ f [V.int c] (ah2 c)
attribute [local go_sem] XH.cells XH.v in
theorem ai7 {Γ:Env} {f Up:Nat} (h:Has Γ.P f 20 (adt Up) bW) (z0:qJ Γ Up):jR Γ f:=by
 intro c
 refine Qc h zsi (by first|exact afF c|exact ajD c) (by first|exact afF c|exact ajD c) fun C hC hm=>?_
 subst hC
 unfold adt
 have hl:=alG
 by_cases h:1≤c∧c≤16
 ·have hg:=apD h
  have hw:IntKind.i64.wrap (c - 1) = c - 1:=Q7 (by omega) (by omega)
  have e1:decide (c < 1) = false:=by simp;omega
  have e2:decide (c > 16) = false:=by simp;omega
  have e3:decide (c > (((U9.map XH.v).length:Nat):Int)) = false:=by simp [hl];omega
  (have zx:=za hg (za hw (za e1 (za e2 e3))));refine zgo ?_;repeat' first|exact zt|apply zan|intro hc
  all_goals (simp only [ah2,if_pos h,XH.v,XH.cells];refine Qr _ rfl ?_;simp only [go_sem])
 ·have h0:=apC h
  by_cases h1:c < 1
  ·have e1:decide (c < 1) = true:=by simp;omega
   (have zx:=e1);refine zgo ?_;repeat' first|exact zt|apply zan|intro hc
   all_goals (simp only [ah2,if_neg h,h0,anN,XH.v,XH.cells];refine Qr _ rfl ?_;simp only [go_sem])
  ·have e1:decide (c < 1) = false:=by simp;omega
   have e2:decide (c > (((U9.map XH.v).length:Nat):Int)) = true:=by simp [hl];omega
   (have zx:=za e1 e2);refine zgo ?_;repeat' first|exact zt|apply zan|intro hc
   all_goals (simp only [ah2,if_neg h,h0,anN,XH.v,XH.cells];refine Qr _ rfl ?_;simp only [go_sem])
def alZ {α:Type} (p:α→Bool):Nat→List α→Int
 | _,[]=>-1
 | k,x :: r=>if p x = true then k else alZ p (k + 1) r
def azN (n:List UInt8):Int:=alZ (fun s:XH=>s.name == n) 0 U9 + 1
def azr (c:Int):Int:=if 1≤c∧c≤16 then Q4 (ae2 c).ci1 (ae2 c).ci2 else 0
def axI:List (List UInt8):=[[97,108,108],[104,105,103,104],[109,101,100,105,117,109],[108,111,119],[118,49],[118,50],[118,51],[118,52]]
def ara (n:List UInt8):Bool:=axI.contains n || decide (aqd n 0 K4 > 0) || decide (azN n > 0)
def ayN (n:List UInt8) (st lo up:Int):Option Bool :=
 if n = [97,108,108] then some true else if n = [104,105,103,104] then some (decide (st≥128)) else if n = [109,101,100,105,117,109] then some (decide (st≥112) && decide (st < 128))
 else if n = [108,111,119] then some (decide (st < 112)) else if n = [118,49] then some (decide (lo≤1) && decide (1≤up)) else if n = [118,50] then some (decide (lo≤2) && decide (2≤up))
 else if n = [118,51] then some (decide (lo≤3) && decide (3≤up)) else if n = [118,52] then some (decide (lo≤4) && decide (4≤up)) else none
def ayH (n:List UInt8) (s:XH):Bool :=
 match ayN n (azr s.code) s.lo s.hi with
 | some b=>b
 | none=>(decide (aqd n 0 K4 > 0) && (s.kx1 == aqd n 0 K4 || s.sg1 == aqd n 0 K4 || s.ci1 == aqd n 0 K4 || s.mc1 == aqd n 0 K4)) || s.name == n
def afG (c:UInt8):List UInt8→List UInt8→List (List UInt8)
 | cur,[]=>[cur]
 | cur,x :: r=>if x = c then cur :: afG c [] r else afG c (cur++[x]) r
def aey (c:UInt8) (s:List UInt8):List (List UInt8):=afG c [] s
def azE (L:List (List UInt8)) (x:XH):Bool:=L.all fun n=>ayH n x
def axV (L:List (List UInt8)) (xs:List XH):List Int:=(xs.filter (azE L)).map XH.code
def azt (s:List UInt8):List Int×Bool:=if (aey 43 s).all ara then (axV (aey 43 s) U9,true) else ([],false)
end Av
end
section
namespace Av
open Go
structure EvW (Γ:Env) (f:FuncId) (args:List V) (sz:Nat) (xs:List V):Prop where
 ev:Ev Γ f args [] (.hd 0 0 xs.length) [.buf true sz xs]
 ns:∀ x∈xs,x.noSl
theorem aos (l:List Int):∀ x∈l.map V.int,x.noSl:=by
 intro x hx;simp only [zE] at hx;obtain ⟨y,_,rfl⟩:=hx;simp only [V.noSl]
theorem anP (l:List (List UInt8)):∀ x∈l.map V.str,x.noSl:=by
 intro x hx;simp only [zE] at hx;obtain ⟨y,_,rfl⟩:=hx;simp only [V.noSl]
theorem azV {Γ:Env} {b:Nat} {r:List AO} {s:St} {d:Option Nat} {f:FuncId} {acts xs:List V} {sz:Nat} {K:St→Prop} (h:EvW Γ f (Y2 s.o acts) sz xs) (hc:QL s.o none acts)
  (hk:U3 Γ (b + KK) r { t:=(s.put d (.hd b 0 xs.length)).t,o:=upd s.o b (some (.buf true sz xs)),n:=s.n } K):awC Γ b r s d f acts K:=by
 refine J5 ⟨_,_,_,_,[],none,h.ev,YJ _ _ _ hc,trivial,kz,fun x hx=>by simp at hx,by simp,by simp [KK],fun _=>⟨by simp only [V.noSl],fun x hx=>?_⟩,?_⟩
 ·simp only [zq] at hx;subst hx;exact h.ns
 ·simp only [Xe,Yy,Ob.ren,V.ren,sig]
  exact hk
theorem ay7 {Γ:Env} {A W:Nat→Bool} {b:Nat} {s:St} {d:Option Nat} {f:FuncId} {acts xs:List V} {sz:Nat} {J:St→Prop} (h:EvW Γ f (Y2 (Yl A s.o) acts) sz xs) (hc:QL (Yl A s.o) none acts)
  (hk:J { t:=(s.put d (.hd b 0 xs.length)).t,o:=upd s.o b (some (.buf true sz xs)),n:=s.n }):Jo Γ A W b s d f acts J:=by
 refine ⟨_,_,_,_,[],none,h.ev,YJ _ _ _ hc,trivial,kz,fun x hx=>by simp at hx,by simp,by simp [KK],fun _=>⟨by simp only [V.noSl],fun x hx=>?_⟩,fun l h=>by simp at h,?_⟩
 ·simp only [zq] at hx;subst hx;exact h.ns
 ·simp only [Xe,Yy,Ob.ren,V.ren,sig]
  exact hk
theorem aiD {Γ:Env} {b:Nat} {r:List AO} {s:St} {d:Option Nat} {f:FuncId} {acts args xs:List V} {sz:Nat} {K:St→Prop} {okf:Option (List Nat)→Prop} (h:EvW Γ f args sz xs) (hc:okf none)
  (hk:U3 Γ (b + KK) r { t:=(s.put d (.hd b 0 xs.length)).t,o:=upd s.o b (some (.buf true sz xs)),n:=s.n } K):akO Γ b r s d f acts args okf K:=by
 rintro rfl rfl;exact azV h hc hk
theorem adx {Γ:Env} {A W:Nat→Bool} {b:Nat} {s:St} {d:Option Nat} {f:FuncId} {acts args xs:List V} {sz:Nat} {J:St→Prop} {okf:Option (List Nat)→Prop} (h:EvW Γ f args sz xs) (hc:okf none)
  (hk:J { t:=(s.put d (.hd b 0 xs.length)).t,o:=upd s.o b (some (.buf true sz xs)),n:=s.n }):ahB Γ A W b s d f acts args okf J:=by
 rintro rfl rfl;exact ay7 h hc hk
theorem UD {Γ:Env} {f:FuncId} {nt:Nat} {ac:AC} {rs:List Q0} (hb:Has Γ.P f nt ac rs) {args xs:List V} {sz:Nat} (ha:args.length≤nt) (hn:∀ x∈xs,x.noSl)
  (h:∀ C:Ctx,C.env = Γ→C.m = 0→AWp C nt ac (Wf args []) (acw 0 rs (.hd 0 0 xs.length) [.buf true sz xs]) (fun _ _=>False) (acw 0 rs (.hd 0 0 xs.length) [.buf true sz xs])):EvW Γ f args sz xs :=
 ⟨XW hb ha h,hn⟩
theorem acb {rs:List Q0} {s:St} {xs:List V} {sz:Nat} (a n:Nat) (h:aeh s rs = some [.hd a 0 n]) (hn:n = xs.length) (ho:s.o a = some (.buf true sz xs)):acw 0 rs (.hd 0 0 xs.length) [.buf true sz xs] s:=by
 subst hn
 exact VF rs _ _ h ⟨[a],none,by simp [afy,conv],⟨⟨_,ho,fun h=>h,rfl,rfl⟩,trivial⟩,by simp,rfl⟩
end Av
end
section
set_option maxRecDepth 10000
set_option maxHeartbeats 4000000
namespace Av
open Go
attribute [local irreducible] AWp U3 abh acE awS awC ajc awQ ajv Jo jG aiB awR yv awB okR ad1 ris
def azD (out:List Int) (x:Int):Nat→Nat
 | 0=>0
 | k + 1=>if azr (out.getD k 0) < azr x then azD out x k else k + 1
def azC (out:List Int) (x:Int):List Int:=out.take (azD out x out.length)++[x]++out.drop (azD out x out.length)
end Av
end
section
namespace Av
open Go
theorem Good.adopt {C:Ctx} {w:World} {Z:Nat→Nat→Prop} {μ:Nat→Option Cn} {o:Nat→Option Ob} (h:Good C w Z μ o) {x i n sz:Nat} {wr:Bool} {cells:List V}
  (ho:o x = some (.box wr cells)) (hi:cells[i]? = some (.sc (.slice none 0 0))) (hn:μ n = none) (hm:C.m≤n) :
  Good C w Z (upd μ n (some { block:=0,void:=true })) (upd (upd o x (some (.box wr (cells.set i (.hd n 0 0))))) n (some (.buf true sz []))):=by
 have hon:=h.free hn
 have hxn:x≠n:=by rintro rfl;rw [hon] at ho;cases ho
 have hmu:=jW (c:={ block:=0,void:=true }) hn
 have old:∀ a y,a≠n→upd (upd o x (some (.box wr (cells.set i (.hd n 0 0))))) n (some (.buf true sz [])) a = some y→∃ z c,o a = some z∧μ a = some c∧(y.live c↔z.live c)∧abc w Z (upd μ n (some { block:=0,void:=true })) c y∧(z.live c→c.block < w.heap.size∧(C.w0.heap.size≤c.block∨C.F c.block)):=by
  intro a y han hy
  rw [QW _ _ han] at hy
  by_cases hax:a = x
  ·subst hax
   rw [Qn] at hy;cases hy
   obtain ⟨c,hc,⟨h1,⟨cs,ty,h2,h3,h4⟩,h5⟩,hl⟩:=h.ob _ _ ho
   refine ⟨_,c,ho,hc,Iff.rfl,⟨h1,⟨cs,ty,h2,by simpa using h3,fun j hj hj'=>?_⟩,h5⟩,hl⟩
   have hj2:j < cells.length:=by simpa using hj
   have h6:=h4 j hj2 hj'
   refine ⟨?_,h6.2⟩
   by_cases hji:j = i
   ·subst hji
    rw [ZN]
    have h7:cells[j] = .sc (.slice none 0 0):=by rw [zb hj2] at hi;exact kQ hi
    have h8:=h6.1
    rw [h7] at h8
    generalize cs[j] = v at h8
    cases h8
    exact .hd (Qn _ _ _) (by simp [Hdr])
   ·rw [Z6 (fun e=>hji e.symm)]
    exact h6.1.mono (fun _ _ _=>rfl) (fun _ _ h=>h) hmu
  ·rw [QW _ _ hax] at hy
   obtain ⟨c,hc,hok,hl⟩:=h.ob a y hy
   exact ⟨y,c,hy,hc,Iff.rfl,hok.mono (fun _ _ _=>rfl) (fun _ _ h=>h) hmu (fun _=>rfl) (fun _ _ h=>h),hl⟩
 refine ⟨fun a y hy=>?_,fun a b y z c d hab hy hz hc hd lc ld=>?_,h.zlt,h.grow,h.frame,h.zsub,h.zsup,h.zkeep,fun k hk=>?_,h.oo⟩
 ·by_cases han:a = n
  ·subst han
   rw [Qn] at hy;cases hy
   exact ⟨_,Qn _ _ _,⟨rfl,fun hv=>by cases hv⟩,fun hl=>by cases hl⟩
  ·obtain ⟨z,c,h1,h2,h3,h4,h5⟩:=old a y han hy
   exact ⟨c,hmu a c h2,h4,fun hl=>h5 (h3.1 hl)⟩
 ·by_cases han:a = n
  ·subst han
   rw [Qn] at hy hc;cases hy;cases hc;cases lc
  by_cases hbn:b = n
  ·subst hbn
   rw [Qn] at hz hd;cases hz;cases hd;cases ld
  obtain ⟨y',c',h1,h2,h3,_⟩:=old a y han hy
  obtain ⟨z',d',g1,g2,g3,_⟩:=old b z hbn hz
  have e1:=hmu a c' h2;rw [hc] at e1;cases e1
  have e2:=hmu b d' g2;rw [hd] at e2;cases e2
  exact h.sep a b y' z' c d hab h1 g1 h2 g2 (h3.1 lc) (g3.1 ld)
 ·rw [QW _ _ (by omega)];exact h.fix k hk
section
variable {C:Ctx} {nt:Nat} {s:St} {K:St→Prop} {E:Nat→St→Prop} {R:St→Prop}
theorem agP {c:AC} (x i sz:Nat) {wr:Bool} {cells:List V} (ho:s.o x = some (.box wr cells)) (hi:cells[i]? = some (.sc (.slice none 0 0)))
  (h:AWp C nt c { t:=s.t,o:=upd (upd s.o x (some (.box wr (cells.set i (.hd s.n 0 0))))) s.n (some (.buf true sz [])),n:=s.n + 1 } K E R):AWp C nt c s K E R:=by
 intro code hc a w hs
 obtain ⟨Z,μ,hg,ht,hf,hm,hd,hn⟩:=hs
 refine h code hc a w ⟨Z,_,hg.adopt ho hi (hf _ (zl _)) hm,fun j=>(ht j).mono (fun _ _ _=>rfl) (fun _ _ h=>h) (jW (hf _ (zl _))),fun y hy=>?_,by show C.m≤s.n + 1;omega,hd,hn⟩
 have hy2:s.n + 1≤y:=hy
 rw [QW _ _ (by omega)]
 exact hf y (by omega)
end
end Av
end
section
namespace Av
open Go
theorem Good.move {C:Ctx} {w:World} {Z:Nat→Nat→Prop} {μ:Nat→Option Cn} {o:Nat→Option Ob} (h:Good C w Z μ o) {x i a n off len sz:Nat} {wr wr2:Bool} {cells xs:List V} {c:Cn}
  (ho:o x = some (.box wr cells)) (hi:cells[i]? = some (.hd a off len)) (ha:o a = some (.buf wr2 sz xs)) (hc:μ a = some c) (hn:μ n = none) (hm:C.m≤n) :
  Good C w Z (upd μ n (some c)) (upd (upd (upd o a (some .dead)) x (some (.box wr (cells.set i (.hd n off len))))) n (some (.buf wr2 sz xs))):=by
 have hon:=h.free hn
 have hxn:x≠n:=by rintro rfl;rw [hon] at ho;cases ho
 have han:a≠n:=by rintro rfl;rw [hon] at ha;cases ha
 have hxa:x≠a:=by rintro rfl;rw [ho] at ha;cases ha
 have hmu:=jW (c:=c) hn
 have old:∀ b y,upd (upd (upd o a (some .dead)) x (some (.box wr (cells.set i (.hd n off len))))) n (some (.buf wr2 sz xs)) b = some y →
   (b = a∧y = .dead)∨∃ z d,o (if b = n then a else b) = some z∧μ (if b = n then a else b) = some d∧upd μ n (some c) b = some d∧(y.live d↔z.live d)∧abc w Z (upd μ n (some c)) d y∧(z.live d→d.block < w.heap.size∧(C.w0.heap.size≤d.block∨C.F d.block))∧(b≠a):=by
  intro b y hy
  by_cases hbn:b = n
  ·subst hbn
   rw [Qn] at hy;cases hy
   obtain ⟨d,hd,hok,hl⟩:=h.ob _ _ ha
   rw [hc] at hd;cases hd
   exact .inr ⟨_,c,by rw [if_pos rfl];exact ha,by rw [if_pos rfl];exact hc,Qn _ _ _,Iff.rfl,hok.mono (fun _ _ _=>rfl) (fun _ _ h=>h) hmu (fun _=>rfl) (fun _ _ h=>h),hl,fun e=>han e.symm⟩
  ·rw [QW _ _ hbn] at hy
   rw [if_neg hbn,QW _ _ hbn]
   by_cases hbx:b = x
   ·subst hbx
    rw [Qn] at hy;cases hy
    obtain ⟨d,hd,⟨h1,⟨cs,ty,h2,h3,h4⟩,h5⟩,hl⟩:=h.ob _ _ ho
    refine .inr ⟨_,d,ho,hd,hd,Iff.rfl,⟨h1,⟨cs,ty,h2,by simpa using h3,fun j hj hj'=>?_⟩,h5⟩,hl,hxa⟩
    have hj2:j < cells.length:=by simpa using hj
    have h6:=h4 j hj2 hj'
    refine ⟨?_,h6.2⟩
    by_cases hji:j = i
    ·subst hji
     rw [ZN]
     have h7:cells[j] = .hd a off len:=by rw [zb hj2] at hi;exact kQ hi
     have h8:=h6.1
     rw [h7] at h8
     generalize cs[j] = v at h8
     cases h8
     rename_i c' hc' hv
     rw [hc] at hc';cases hc'
     exact .hd (Qn _ _ _) hv
    ·rw [Z6 (fun e=>hji e.symm)]
     exact h6.1.mono (fun _ _ _=>rfl) (fun _ _ h=>h) hmu
   ·rw [QW _ _ hbx] at hy
    by_cases hba:b = a
    ·subst hba
     rw [Qn] at hy;cases hy
     exact .inl ⟨rfl,rfl⟩
    ·rw [QW _ _ hba] at hy
     obtain ⟨d,hd,hok,hl⟩:=h.ob b y hy
     exact .inr ⟨y,d,hy,hd,hd,Iff.rfl,hok.mono (fun _ _ _=>rfl) (fun _ _ h=>h) hmu (fun _=>rfl) (fun _ _ h=>h),hl,hba⟩
 refine ⟨fun b y hy=>?_,fun b d y z e f hbd hy hz he hf lb ld=>?_,h.zlt,h.grow,h.frame,h.zsub,h.zsup,h.zkeep,fun k hk=>?_,h.oo⟩
 ·rcases old b y hy with ⟨rfl,rfl⟩|⟨z,d,h1,h2,h3,h4,h5,h6,_⟩
  ·exact ⟨c,hmu _ _ hc,trivial,fun hl=>hl.elim⟩
  ·exact ⟨d,h3,h5,fun hl=>h6 (h4.1 hl)⟩
 ·rcases old b y hy with ⟨rfl,rfl⟩|⟨y',e',h1,h2,h3,h4,_,_,h7⟩
  ·exact lb.elim
  ·rcases old d z hz with ⟨rfl,rfl⟩|⟨z',f',g1,g2,g3,g4,_,_,g7⟩
   ·exact ld.elim
   ·rw [he] at h3;cases h3
    rw [hf] at g3;cases g3
    refine h.sep _ _ y' z' _ _ ?_ h1 g1 h2 g2 (h4.1 lb) (g4.1 ld)
    by_cases hbn:b = n
    ·subst hbn
     rw [if_pos rfl,if_neg (fun e=>hbd e.symm)]
     exact fun e=>g7 e.symm
    ·rw [if_neg hbn]
     by_cases hdn:d = n
     ·subst hdn;rw [if_pos rfl];exact h7
     ·rw [if_neg hdn];exact hbd
 ·rw [QW _ _ (by omega)];exact h.fix k hk
section
variable {C:Ctx} {nt:Nat} {s:St} {K:St→Prop} {E:Nat→St→Prop} {R:St→Prop}
theorem awr {c:AC} (x i a:Nat) {off len sz:Nat} {wr wr2:Bool} {cells xs:List V} (ho:s.o x = some (.box wr cells)) (hi:cells[i]? = some (.hd a off len)) (ha:s.o a = some (.buf wr2 sz xs))
  (h:AWp C nt c { t:=s.t,o:=upd (upd (upd s.o a (some .dead)) x (some (.box wr (cells.set i (.hd s.n off len))))) s.n (some (.buf wr2 sz xs)),n:=s.n + 1 } K E R):AWp C nt c s K E R:=by
 intro code hc u w hs
 obtain ⟨Z,μ,hg,ht,hf,hm,hd,hn⟩:=hs
 obtain ⟨d,hmu,_⟩:=hg.ob _ _ ha
 refine h code hc u w ⟨Z,_,hg.move ho hi ha hmu (hf _ (zl _)) hm,fun j=>(ht j).mono (fun _ _ _=>rfl) (fun _ _ h=>h) (jW (hf _ (zl _))),fun y hy=>?_,by show C.m≤s.n + 1;omega,hd,hn⟩
 have hy2:s.n + 1≤y:=hy
 rw [QW _ _ (by omega)]
 exact hf y (by omega)
end
end Av
end
section
set_option maxRecDepth 10000
set_option maxHeartbeats 4000000
namespace Av
open Go
attribute [local irreducible] AWp U3 abh acE awS awC ajc awQ ajv Jo jG aiB awR yv awB okR ad1 ris
def axf:List UInt8→UInt8×List UInt8
 | []=>(0,[])
 | c :: r=>if c = 45∨c = 33∨c = 43 then (c,r) else (0,c :: r)
abbrev az8:=List Int×List Int
def aAe:List UInt8:=[64,115,116,114,101,110,103,116,104]
def wordOk (w:List UInt8):Bool:=w == aAe || (azt (axf w).2).2
structure azf (p:az8):Prop where
 nd:p.1.Nodup
 rg:∀ x∈p.1,1≤x∧x≤16
 dj:∀ x∈p.1,x ∉ p.2
theorem ayF {l:List Int} (hn:l.Nodup) (hr:∀ x∈l,1≤x∧x≤16):l.length≤16:=by
 have hs:l ⊆ U9.map XH.code:=by
  intro x hx
  have h:=hr x hx
  have e:U9.map XH.code = [1,2,3,4,5,6,7,8,9,10,11,12,13,14,15,16]:=by decide
  rw [e];simp;omega
 have:=hn.length_le_of_subset hs
 have e:(U9.map XH.code).length = 16:=by decide
 omega
theorem azf.len {p:az8} (h:azf p):p.1.length≤16:=ayF h.nd h.rg
theorem ag6 (c:UInt8):∀ (s cur t:List UInt8),afG c cur (s++c :: t) = afG c cur s++afG c [] t
 | [],cur,t=>by simp [afG]
 | x :: r,cur,t=>by
   rw [List.cons_append,afG,afG]
   split
   ·rw [ag6 c r [] t];rfl
   ·exact ag6 c r _ t
theorem ag5 (c:UInt8) (s t:List UInt8):aey c (s++[c]++t) = aey c s++aey c t:=by
 rw [kf,List.singleton_append];exact ag6 c s [] t
end Av
end
section
namespace Av
open Go
structure EvL (Γ:Env) (f:FuncId) (args:List V) (sz:Nat) (xs:List V) (res:V) (ys:List V):Prop where
 ev:Ev Γ f (.hd 0 0 xs.length :: args) [.buf true sz xs] res [.buf true sz ys]
 cl:res.closed
theorem azZ {Γ:Env} {b:Nat} {r:List AO} {s:St} {d:Option Nat} {f:FuncId} {acts:List V} {res:V} {K:St→Prop} {a sz n:Nat} {xs ys:List V}
  (ha:s.o a = some (.buf true sz xs)) (h:EvL Γ f (Y2 s.o acts) sz xs res ys) (hn:n = xs.length) (hc:QL s.o (some []) acts) (hab:a < b)
  (hk:U3 Γ (b + KK) r { t:=(s.put d res).t,o:=upd s.o a (some (.buf true sz ys)),n:=s.n } K):awC Γ b r s d f (.hd a 0 n :: acts) K:=by
 subst hn
 refine J5 ⟨_,_,_,_,[a],some [],h.ev,⟨?_,Yn s.o [a] [] (fun x hx=>by cases hx) acts hc⟩,⟨⟨_,ha,rfl,rfl⟩,trivial⟩,by simp,?_,by simp,by simp [KK],fun h=>by simp at h,?_⟩
 ·simp [conv]
 ·intro x hx
  simp only [zq] at hx
  subst hx;exact hab
 ·rw [Wh _ _ h.cl]
  simp only [Xe,Yy,Ob.ren,apw]
  exact hk
theorem jk {Γ:Env} {b:Nat} {r:List AO} {s:St} {d:Option Nat} {f:FuncId} {x:V} {acts args:List V} {okf:Option (List Nat)→Prop} {res:V} {K:St→Prop} {a sz n:Nat} {xs ys:List V}
  (ha:s.o a = some (.buf true sz xs)) (h:EvL Γ f args sz xs res ys) (hab:decide (a < b) = true) (hn:n = xs.length) (hc:QL s.o (some []) acts)
  (hk:U3 Γ (b + KK) r { t:=(s.put d res).t,o:=upd s.o a (some (.buf true sz ys)),n:=s.n } K):akO Γ b r s d f (.hd a 0 n :: acts) (x :: args) okf K:=by
 intro h1 _
 simp only [Y2,km] at h1
 obtain ⟨_,rfl⟩:=h1
 exact azZ ha h hn hc (zV hab) hk
theorem qv {Γ:Env} {f:FuncId} {nt:Nat} {ac:AC} {rs:List Q0} (hb:Has Γ.P f nt ac rs) {args xs ys:List V} {sz:Nat} {res:V} (ha:args.length + 1≤nt) (hr:res.closed)
  (h:∀ C:Ctx,C.env = Γ→C.m = 1→AWp C nt ac { t:=(Wf (.hd 0 0 xs.length :: args) []).t,o:=afU [(0,.buf true sz xs)],n:=1 } (acw 1 rs res [.buf true sz ys]) (fun _ _=>False) (acw 1 rs res [.buf true sz ys])):EvL Γ f args sz xs res ys:=by
 refine ⟨XW hb (by simpa using ha) fun C hC hm=>?_,hr⟩
 refine (congrArg (fun s=>AWp C nt ac s _ _ _) ?_).mp (h C hC hm)
 simp only [Wf]
 congr 1
 funext k
 match k with
 | 0=>rfl
 | k + 1=>simp [afU]
theorem wB {rs:List Q0} {res:V} {s:St} {xs ys:List V} {sz:Nat} (vs:List V) (h:aeh s rs = some vs) (ho:s.o 0 = some (.buf true sz xs)) (hc:conv s.o [0] none (afy vs) res) (hx:xs = ys):acw 1 rs res [.buf true sz ys] s:=by
 subst hx
 exact VF rs vs _ h ⟨[0],none,hc,⟨⟨_,ho,fun h=>h,rfl,rfl⟩,trivial⟩,by simp,rfl⟩
@[go_sem] theorem axY (l:List Int):(∀ y∈l.map V.int,y.cells.length = 1) = True:=eq_true (by intro y hy;simp only [zE] at hy;obtain ⟨x,_,rfl⟩:=hy;rfl)
@[go_sem] theorem axX (l:List (List UInt8)):(∀ y∈l.map V.str,y.cells.length = 1) = True:=eq_true (by intro y hy;simp only [zE] at hy;obtain ⟨x,_,rfl⟩:=hy;rfl)
end Av
end
section
set_option maxRecDepth 10000
set_option maxHeartbeats 4000000
namespace Av
open Go
attribute [local irreducible] AWp U3 abh acE awS awC ajc awQ ajv Jo jG aiB awR yv awB okR ad1 ris
end Av
end

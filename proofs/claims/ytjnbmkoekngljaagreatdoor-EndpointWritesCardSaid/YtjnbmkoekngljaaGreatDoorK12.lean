/- Functions that are lent one variable: their contracts, calls by them, their ends. -/
import Derived.Test.YtjnbmkoekngljaaGreatDoorK11
import Derived.Lib.ItoaLen
import Derived.Lib.IndexMore
import Derived.Lib.AtoiAll
import Derived.Test.YtjnbmkoekngljaaGreatDoorK10
set_option linter.unusedVariables false
set_option linter.unusedSimpArgs false
section
set_option maxRecDepth 10000
set_option maxHeartbeats 4000000
namespace Av
open Go
attribute [local irreducible] AWp x8 adc afE awS awC am1 awQ anX Yf abo ama awR acg awB okR agS ris
def wS (s:List UInt8):Int:=match Lib.atoiAll s with|.ok v=>v|.range=>Lib.atoiSat s|_=>0
def atJ (s:List UInt8):V:=match Lib.atoiAll s with|.ok _=>.sc .nilIface|_=>.nn
def aeq (Γ:Env) (f:Nat):Prop:=∀ (s:List UInt8) (hs:s.length < 4294967281),EvN Γ f [V.str s] (.tup [V.int (wS s),atJ s])
def vf (Γ:Env) (f:Nat):Prop:=∀ (n:Int) (h0:-9223372036854775808≤n) (h1:n≤9223372036854775807),EvN Γ f [V.int n] (V.str (Lib.itoa n))
def wN (Q0:Nat):AC:=Qa [1] (.reg [xo 1 (.box true 2 (.t 0)),mc 2 (V.bool false)]) (Qa [2] (.reg [xo 3 (.load true 2 (.t 1)),cl 4 Q0 [3],bc 5 .gtr 4 (V.int 0),mv 2 5]) .ret) def r_catalog_Valid:List Jl:=[.tmp 2]
def U8 (Γ:Env) (f:Nat):Prop:=∀ (a b:Int),EvN Γ f [.agg [V.int a,V.int b]] (V.bool (decide (Jr a b > 0)))
theorem ajM {Γ:Env} {f Q0:Nat} (h:Has Γ.P f 6 (wN Q0) r_catalog_Valid) (z0:XW Γ Q0):U8 Γ f:=by
 intro a b
 refine Qe h zsi zcl zcl fun C hC hm=>?_
 subst hC
 unfold wN
 refine zgo ?_;repeat' first|exact zt|apply zan|intro hc
 refine Qn _ rfl ?_;simp only [go_sem]
theorem aoT (x:Int):∀ (l:List Int) (k:Nat),0≤VX x k l→x∈l
 | [],k,h=>by simp [VX] at h
 | y :: r,k,h=>by
   unfold VX at h
   split at h
   ·rename_i e;simp [e]
   ·exact List.mem_cons_of_mem _ (aoT x r (k + 1) h)
theorem atQ (a:Int):(Jk a).name.length≤10:=by
 have h:∀ r∈Y5,r.name.length≤10:=by decide
 unfold Jk
 split
 ·rename_i ha
  have hk:a.toNat < Y5.length:=by have:Y5.length = 23:=rfl;omega
  rw [List.getD_eq_getElem?_getD,List.getElem?_eq_getElem hk,Option.getD_some]
  exact h _ (List.getElem_mem hk)
 ·simp [apM]
def K6 (name:List UInt8):Nat→List ai8→Int
 | _,[]=>0
 | k,r :: rs=>if 0 < k∧r.name = name then k else K6 name (k + 1) rs
theorem asS (k:Nat) (h:k < 23) {r:ai8} (hr:Y5[k]? = some r):(am6.drop (k * 5)).take 5 = r.v:=by
 have hk:k < Y5.length:=h
 rw [am6,aiu (f:=ai8.v) (n:=5) (fun _=>rfl) Y5 k hk]
 rw [List.getElem?_eq_getElem hk] at hr
 cases hr;rfl
def aaO (Xe:Nat):AC:=Qa [0] (.reg [mc 2 (V.int 0)]) (Qa [] (Qa [0,5,6] (.reg [cl 5 Xe [],mc 6 (V.int 0)]) (.block 0 (JH [0,5,6] (Qa [0,5,6,7] (.reg [bc 7 .lss 6 (V.int 23)]) (Qa [0,5,6] (.cond (.t 7) .skip (.exit 0)) (Qa [0,5,6] (.block 1 (Qa [0,3,4,5,6] (.reg [mv 8 6,xo 9 (.idxA true 23 5 (.t 5) (.t 6)),xo 4 (.alloc [.val vs0,.val vi0,.val vi0,.nil 1,.nil 1]),mv 3 8,xs 5 4 9]) (Qa [0,3,5,6,17] (.reg [mv 10 3,bc 11 .gtr 10 (V.int 0),mv 12 11,xg 13 (.faddr 0 (.t 4)) 12 true,xg 14 (.load false 1 (.t 13)) 12 true,mg 15 0 12 true,xg 16 (.bin .eql (.t 14) (.t 15)) 12 true,xo 17 (.pick (.t 12) (.t 16) (.c (V.bool false)))]) (.cond (.t 17) (Qa [2] (.reg [mv 18 3,mv 2 18]) .ret) .skip)))) (.reg [bc 19 .add 6 (V.int 1),mv 6 19]))))))) (Qa [2] (.reg [mc 2 (V.int 0)]) .ret)) def r_catalog_Find:List Jl:=[.tmp 2]
def qM (Γ:Env) (f:Nat):Prop:=∀ (s:List UInt8),EvN Γ f [V.str s] (V.int (K6 s 0 Y5))
attribute [local go_sem] ai8.v aon in
theorem ak5 {Γ:Env} {f Xe:Nat} (h:Has Γ.P f 20 (aaO Xe) r_catalog_Find) (z0:qJ Γ Xe):qM Γ f:=by
 intro s
 refine Qe h zsi zcl zcl fun C hC hm=>?_
 subst hC
 unfold aaO
 refine zgo ?_;repeat' first|exact zt|apply zan|intro hc
 refine QP (ι:=Nat) (fun k=>k≤23∧K6 s k (Y5.drop k) = K6 s 0 Y5) (fun k=>[(6,V.int k)]) (fun k=>23 - k) 0 (by omega) ⟨by simp,by simp⟩ (by repeat' first|exact Q8|refine JD (by omega) (by simp only [Ob.lt,ltL,V.lt,and_self,and_true];try omega) ?_) (fun i hi=>by simp only [ovT,Ji,Nat.reduceEqDiff,reduceIte];(repeat' first|exact JC|refine Q7 ?_ ?_|simp only [V.lt,ltL,and_self,and_true]|omega);exact Ua _ _ alc) zet fun k hk K' hL=>?_
 obtain ⟨hk,hinv⟩:=hk
 simp only [ovT,Ji,Nat.reduceEqDiff,reduceIte]
 rcases hd:Y5.drop k with _|⟨r,rs⟩
 ·have hk':=Qs hd
  have hl:Y5.length = 23:=rfl
  rw [hd] at hinv
  refine zgo ?_;repeat' first|exact zt|apply zan|intro hc
  refine Qn _ rfl ?_;simp only [go_sem]
  rw [← hinv];rfl
 ·obtain ⟨hk',hget,hr⟩:=Ql hd
  have hl:Y5.length = 23:=rfl
  rw [hd] at hinv
  have hw:=Qj (k:=k) (by omega)
  have hrow:=asS k (by omega) hget
  (have zx:=And.intro hrow hw);refine zgo ?_;repeat' first|exact zt|apply zan|intro hc
  all_goals first
   | (refine Qn _ rfl ?_;simp only [go_sem];rw [← hinv];simp [K6,hc];omega)
   | (refine hL _ (k + 1) zet ⟨by omega,?_⟩ (by omega) (fun a ha=>by simp only [u32,u33,u34,u35,u36,u37,u38,u39];repeat rw [if_neg (by omega)]);rw [hr,← hinv,K6,if_neg (by first|omega|simp [hc])])
def ace:AC:=Qa [0,1,4] (.reg [xo 4 (.alloc [.val vi0,.val vi0])]) (Qa [4] (.reg [mv 5 0,mv 6 1,xo 7 (.build [vi0,vi0] [(0,1,(.t 5)),(1,1,(.t 6))]),xs 2 4 7]) .ret) def r_catalog_use:List Jl:=[.cell 4 true 2]
def aa4 (Γ:Env) (f:Nat):Prop:=∀ (a b:Int),EvN Γ f [V.int a,V.int b] (.agg [V.int a,V.int b])
theorem al6 {Γ:Env} {f:Nat} (h:Has Γ.P f 8 ace r_catalog_use) :aa4 Γ f:=by
 intro a b
 refine Qe h zsi zcl zcl fun C hC hm=>?_
 subst hC
 unfold ace
 refine zgo ?_;repeat' first|exact zt|apply zan|intro hc
 refine Qn _ rfl ?_;simp only [go_sem]
end Av
end
section
namespace Av
open Go
structure EvD (Γ:Env) (f:FuncId) (args:List V) (cs:List V) (res:V) (cs2:List V):Prop where
 ev:Ev Γ f (.ptr 0 0 :: args) [.box true cs] res [.box true cs2]
 cl:res.closed
 c1:closedL cs
 c2:closedL cs2
def JR:List V→List Nat
 | []=>[]
 | .hd a _ _ :: r=>a :: JR r
 | .ptr a _ :: r=>a :: JR r
 | _ :: r=>JR r
mutual
theorem aqf (o:Nat→Option Ob) (br l:List Nat) (hb:∀ x∈l,x ∉ br):∀ v:V,v.shutOk0 o (some l)→conv o br (some l) v (v.shut0 o)
 | .top,_=>by simp [V.shut0,conv]
 | .sc _,_=>by simp [V.shut0,conv]
 | .nn,_=>by simp [V.shut0,conv]
 | .sl _ _,_=>by simp [V.shut0,conv]
 | .ro _ _,_=>by simp [V.shut0,conv]
 | .ept _ _ _,_=>by simp [V.shut0,conv]
 | .mp _,_=>by simp [V.shut0,conv]
 | .hd a off len,h=>by
   obtain ⟨h1,wr,s,xs,h2⟩:=h
   simp only [V.shut0,h2,conv]
   exact ⟨h1,hb a h1,.inl ⟨wr,xs,rfl,rfl⟩⟩
 | .ptr a off,h=>by
   obtain ⟨h1,wr,cs,h2,h3⟩:=h
   simp only [V.shut0,h2,conv]
   exact ⟨h1,hb a h1,trivial,h3,wr,cs,rfl,Qg _ _ _ _ h3⟩
 | .agg cs,h=>by simp only [V.shut0,conv];exact j8 o br l hb cs h
 | .tup cs,h=>by simp only [V.shut0,conv];exact j8 o br l hb cs h
 | .clo f cs,h=>by simp only [V.shut0,conv];exact ⟨trivial,j8 o br l hb cs h⟩
theorem j8 (o:Nat→Option Ob) (br l:List Nat) (hb:∀ x∈l,x ∉ br):∀ cs:List V,jI o (some l) cs→Jd o br (some l) cs (vM o cs)
 | [],_=>trivial
 | v :: r,h=>⟨aqf o br l hb v h.1,j8 o br l hb r h.2⟩
end
mutual
theorem ar8 (o:Nat→Option Ob) (br l:List Nat) (hb:∀ x∈l,x ∉ br):∀ v:V,v.shutOk o (some l)→conv o br (some l) v (v.shut o)
 | .top,_=>by simp [V.shut,conv]
 | .sc _,_=>by simp [V.shut,conv]
 | .nn,_=>by simp [V.shut,conv]
 | .sl _ _,_=>by simp [V.shut,conv]
 | .ro _ _,_=>by simp [V.shut,conv]
 | .ept _ _ _,_=>by simp [V.shut,conv]
 | .mp _,_=>by simp [V.shut,conv]
 | .hd a off len,h=>by
   obtain ⟨h1,h2⟩:=h
   unfold aw6 at h2
   split at h2
   ·rename_i wr s xs h3
    simp only [V.shut,h3,conv]
    exact ⟨h1,hb a h1,.inl ⟨wr,xs,rfl,rfl⟩⟩
   ·rename_i wr s xs h3
    simp only [V.shut,h3,conv]
    exact ⟨h1,hb a h1,.inr ⟨wr,xs,rfl,j8 _ _ _ hb _ h2.1,h2.2,V9 _ _⟩⟩
   ·exact h2.elim
 | .ptr a off,h=>by
   obtain ⟨h1,wr,cs,h2,h3⟩:=h
   simp only [V.shut,h2,conv]
   exact ⟨h1,hb a h1,trivial,h3,wr,cs,rfl,Qg _ _ _ _ h3⟩
 | .agg cs,h=>by simp only [V.shut,conv];exact XR o br l hb cs h
 | .tup cs,h=>by simp only [V.shut,conv];exact XR o br l hb cs h
 | .clo f cs,h=>by simp only [V.shut,conv];exact ⟨trivial,XR o br l hb cs h⟩
theorem XR (o:Nat→Option Ob) (br l:List Nat) (hb:∀ x∈l,x ∉ br):∀ cs:List V,Q3 o (some l) cs→Jd o br (some l) cs (Xh o cs)
 | [],_=>trivial
 | v :: r,h=>⟨ar8 o br l hb v h.1,XR o br l hb r h.2⟩
end
section
variable {Γ:Env} {b:Nat} {r:List AO} {s:St} {d:Option Nat} {f:FuncId} {acts:List V} {res:V} {K:St→Prop} {cs cs2:List V} {a:Nat}
theorem ayk (l:List Nat) (ha:s.o a = some (.box true cs)) (h:EvD Γ f (Xh s.o acts) cs res cs2) (hc:Q3 s.o (some l) acts) (hal:a ∉ l) (hab:a < b)
  (hk:x8 Γ (b + KK) r { t:=(s.put d res).t,o:=upd (acU (some l) [a] s.o) a (some (.box true cs2)),n:=s.n } K):awC Γ b r s d f (.ptr a 0 :: acts) K:=by
 refine WL ⟨_,_,_,_,[a],some l,h.ev,⟨?_,XR s.o [a] l ?_ acts hc⟩,⟨⟨_,ha,Qg _ _ _ _ h.c1⟩,trivial⟩,by simp,by simpa using hab,Nat.le_refl _,by simp [KK],fun h=>by simp at h,?_⟩
 ·simp [conv]
 ·intro x hx hxa
  simp only [List.mem_singleton] at hxa
  subst hxa;exact hal hx
 ·rw [YP _ _ h.cl]
  simp only [WT,WV,Ob.ren,J4 _ _ h.c2]
  exact hk
theorem axJ (ha:s.o a = some (.box true cs)) (h:EvD Γ f (Xh s.o acts) cs res cs2) (hc:Q3 s.o (some (JR acts)) acts) (hal:a ∉ JR acts) (hab:a < b)
  (hk:x8 Γ (b + KK) r { t:=(s.put d res).t,o:=upd (acU (some (JR acts)) [a] s.o) a (some (.box true cs2)),n:=s.n } K):awC Γ b r s d f (.ptr a 0 :: acts) K:=ayk _ ha h hc hal hab hk
theorem Xz {x:V} {args:List V} {okf:Option (List Nat)→Prop} (ha:s.o a = some (.box true cs)) (h:EvD Γ f args cs res cs2) (hal:(JR acts).contains a = false) (hab:decide (a < b) = true) (hc:Q3 s.o (some (JR acts)) acts)
  (hk:x8 Γ (b + KK) r { t:=(s.put d res).t,o:=upd (acU (some (JR acts)) [a] s.o) a (some (.box true cs2)),n:=s.n } K):arj Γ b r s d f (.ptr a 0 :: acts) (x :: args) okf K:=by
 intro h1 _
 simp only [Xh,List.cons.injEq] at h1
 obtain ⟨_,rfl⟩:=h1
 exact axJ ha h hc (by simpa using hal) (of_decide_eq_true hab) hk
theorem axZ {br:List Nat} {o:Nat→Option Ob}:acU (some []) br o = o:=by
 funext n;simp [acU]
theorem ayu {x a n:Nat} {o:Nat→Option Ob}:acU (some [x]) [a] o n = if n = x then (if x = a then o n else (o n).map Ob.frz) else o n:=by
 simp only [acU,List.mem_singleton]
 by_cases h1:n = x
 ·subst h1
  by_cases h2:n = a<;>simp [h2]
 ·simp [h1]
end
theorem Y6 {Γ:Env} {f:FuncId} {nt:Nat} {ac:AC} {rs:List Jl} (hb:Has Γ.P f nt ac rs) {args cs cs2:List V} {res:V} (ha:args.length + 1≤nt) (hr:res.closed) (h1:closedL cs) (h2:closedL cs2)
  (h:∀ C:Ctx,C.env = Γ→C.m = 1→AWp C nt ac (W8 (.ptr 0 0 :: args) [.box true cs]) (afv 1 rs res [.box true cs2]) (fun _ _=>False) (afv 1 rs res [.box true cs2])):EvD Γ f args cs res cs2 :=
 ⟨Vp hb (by simpa using ha) h,hr,h1,h2⟩
theorem Xb {rs:List Jl} {res:V} {s:St} {cs2:List V} (vs:List V) (h:ajC s rs = some vs) (ho:s.o 0 = some (.box true cs2)) (h2:closedL cs2) (hc:conv s.o [0] none (aqR vs) res):afv 1 rs res [.box true cs2] s :=
 xE rs vs _ h ⟨[0],none,hc,⟨⟨_,ho,fun h=>h,Qg _ _ _ _ h2⟩,trivial⟩,by simp,rfl⟩
structure EvR (Γ:Env) (f:FuncId) (args:List V) (cs:List V):Prop where
 ev:Ev Γ f args [] (.ptr 0 0) [.box true cs]
 c1:closedL cs
theorem ayh {Γ:Env} {b:Nat} {r:List AO} {s:St} {d:Option Nat} {f:FuncId} {acts cs:List V} {K:St→Prop} (h:EvR Γ f (Xh s.o acts) cs) (hc:Q3 s.o (some (JR acts)) acts)
  (hk:x8 Γ (b + KK) r { t:=(s.put d (.ptr b 0)).t,o:=upd (acU (some (JR acts)) [] s.o) b (some (.box true cs)),n:=s.n } K):awC Γ b r s d f acts K:=by
 refine WL ⟨_,_,_,_,[],some (JR acts),h.ev,Y7 _ _ _ hc,trivial,List.nodup_nil,fun x hx=>by simp at hx,by simp,by simp [KK],fun h=>by simp at h,?_⟩
 simp only [WT,WV,Ob.ren,J4 _ _ h.c1,V.ren,sig]
 exact hk
theorem ad8 {Γ:Env} {b:Nat} {r:List AO} {s:St} {d:Option Nat} {f:FuncId} {acts args cs:List V} {K:St→Prop} {okf:Option (List Nat)→Prop} (h:EvR Γ f args cs) (hc:okf (some (JR acts)))
  (hk:x8 Γ (b + KK) r { t:=(s.put d (.ptr b 0)).t,o:=upd (acU (some (JR acts)) [] s.o) b (some (.box true cs)),n:=s.n } K):arj Γ b r s d f acts args okf K:=by
 rintro rfl rfl;exact ayh h hc hk
theorem ak7 {Γ:Env} {f:FuncId} {nt:Nat} {ac:AC} {rs:List Jl} (hb:Has Γ.P f nt ac rs) {args cs:List V} (ha:args.length≤nt) (h1:closedL cs)
  (h:∀ C:Ctx,C.env = Γ→C.m = 0→AWp C nt ac (W8 args []) (afv 0 rs (.ptr 0 0) [.box true cs]) (fun _ _=>False) (afv 0 rs (.ptr 0 0) [.box true cs])):EvR Γ f args cs :=
 ⟨Vp hb ha h,h1⟩
theorem avM {rs:List Jl} {s:St} {cs:List V} (a:Nat) (h:ajC s rs = some [.ptr a 0]) (ho:s.o a = some (.box true cs)) (h2:closedL cs):afv 0 rs (.ptr 0 0) [.box true cs] s :=
 xE rs _ _ h ⟨[a],none,by simp [aqR,conv],⟨⟨_,ho,fun h=>h,Qg _ _ _ _ h2⟩,trivial⟩,by simp,rfl⟩
attribute [go_sem] axZ ayu JR Ob.frz
end Av
end
section
set_option maxRecDepth 10000
set_option maxHeartbeats 4000000
namespace Av
open Go
attribute [local irreducible] AWp x8 adc afE awS awC am1 awQ anX Yf abo ama awR acg awB okR agS ris
structure QG where
 code:Int
 name:List UInt8
 kx1:Int
 kx2:Int
 sg1:Int
 sg2:Int
 ci1:Int
 ci2:Int
 mc1:Int
 mc2:Int
 lo:Int
 hi:Int
 deriving DecidableEq
def QG.cells (s:QG):List V:=[V.int s.code,V.str s.name,V.int s.kx1,V.int s.kx2,V.int s.sg1,V.int s.sg2,V.int s.ci1,V.int s.ci2,V.int s.mc1,V.int s.mc2,V.int s.lo,V.int s.hi]
def QG.v (s:QG):V:=.agg s.cells
def Jn:List QG:=[⟨1,[114,115,97,45,114,99,52,45,109,100,53],10,0,5,0,14,128,19,0,1,2⟩,⟨2,[114,115,97,45,114,99,52,45,115,104,97],10,0,5,0,14,128,20,0,1,3⟩,⟨3,[114,115,97,45,100,101,115,51,45,115,104,97],10,0,5,0,15,168,20,0,1,3⟩,⟨4,[100,104,101,45,100,115,97,45,100,101,115,51,45,115,104,97],11,1024,6,0,15,168,20,0,1,3⟩,⟨5,[100,104,101,45,114,115,97,45,100,101,115,51,45,115,104,97],11,1024,5,0,15,168,20,0,1,3⟩,⟨6,[114,115,97,45,97,101,115,49,50,56,45,115,104,97],10,0,5,0,16,128,20,0,1,3⟩,⟨7,[100,104,101,45,114,115,97,45,97,101,115,49,50,56,45,115,104,97],11,2048,5,0,16,128,20,0,1,3⟩,⟨8,[101,99,100,104,101,45,114,115,97,45,97,101,115,49,50,56,45,115,104,97],12,256,5,0,16,128,20,0,1,3⟩,⟨9,[101,99,100,104,101,45,101,99,100,115,97,45,97,101,115,50,53,54,45,115,104,97,50,53,54],12,256,7,0,16,256,21,0,3,3⟩,⟨10,[101,99,100,104,101,45,114,115,97,45,97,101,115,49,50,56,45,103,99,109],12,256,5,0,17,128,22,0,3,3⟩,⟨11,[101,99,100,104,101,45,101,99,100,115,97,45,97,101,115,50,53,54,45,103,99,109],12,384,7,0,17,256,22,0,3,3⟩,⟨12,[101,99,100,104,101,45,114,115,97,45,99,104,97,99,104,97],12,256,5,0,18,0,22,0,3,3⟩,⟨13,[114,115,97,45,97,101,115,50,53,54,45,103,99,109],10,0,5,0,17,256,22,0,3,3⟩,⟨14,[97,101,115,49,50,56,45,103,99,109],12,256,0,0,17,128,22,0,4,4⟩,⟨15,[99,104,97,99,104,97],12,256,0,0,18,0,22,0,4,4⟩,⟨16,[109,108,107,101,109,45,97,101,115,50,53,54,45,103,99,109],13,768,0,0,17,256,22,0,4,4⟩]
def am3 (k:Nat):List V:=(Jn.take k).map QG.v++(Jn.drop k).map fun s=>QG.v { s with code:=0 }
theorem apI (k:Nat) (h:k < 16):∃ cs,(am3 k)[k]? = some (.agg (V.int 0 :: cs))∧cs.length = 11∧(am3 k).set k (.agg (V.int ((k + 1:Nat):Int) :: cs)) = am3 (k + 1):=by
 rcases (by omega:k = 0∨k = 1∨k = 2∨k = 3∨k = 4∨k = 5∨k = 6∨k = 7∨k = 8∨k = 9∨k = 10∨k = 11∨k = 12∨k = 13∨k = 14∨k = 15) with rfl|rfl|rfl|rfl|rfl|rfl|rfl|rfl|rfl|rfl|rfl|rfl|rfl|rfl|rfl|rfl
 all_goals exact ⟨_,rfl,rfl,rfl⟩
def aab (Qp:Nat):List AO:=[xo 31 (.load true 2 (.t 1)),xo 32 (.load true 2 (.t 2)),xo 33 (.call Qp [(.c (V.int 14)),(.c (V.int 128))]),xo 34 (.load true 2 (.t 11)),xo 35 (.build [vi0,vs0,vi0,vi0,vi0,vi0,vi0,vi0,vi0,vi0,vi0,vi0] [(1,1,(.c (V.str [114,115,97,45,114,99,52,45,109,100,53]))),(2,2,(.t 31)),(4,2,(.t 32)),(6,2,(.t 33)),(8,2,(.t 34)),(10,1,(.c (V.int 1))),(11,1,(.c (V.int 2)))]),xo 36 (.load true 2 (.t 1)),xo 37 (.load true 2 (.t 2)),xo 38 (.call Qp [(.c (V.int 14)),(.c (V.int 128))]),xo 39 (.load true 2 (.t 12)),xo 40 (.build [vi0,vs0,vi0,vi0,vi0,vi0,vi0,vi0,vi0,vi0,vi0,vi0] [(1,1,(.c (V.str [114,115,97,45,114,99,52,45,115,104,97]))),(2,2,(.t 36)),(4,2,(.t 37)),(6,2,(.t 38)),(8,2,(.t 39)),(10,1,(.c (V.int 1))),(11,1,(.c (V.int 3)))]),xo 41 (.load true 2 (.t 1)),xo 42 (.load true 2 (.t 2)),xo 43 (.load true 2 (.t 6)),xo 44 (.load true 2 (.t 12)),xo 45 (.build [vi0,vs0,vi0,vi0,vi0,vi0,vi0,vi0,vi0,vi0,vi0,vi0] [(1,1,(.c (V.str [114,115,97,45,100,101,115,51,45,115,104,97]))),(2,2,(.t 41)),(4,2,(.t 42)),(6,2,(.t 43)),(8,2,(.t 44)),(10,1,(.c (V.int 1))),(11,1,(.c (V.int 3)))]),xo 46 (.call Qp [(.c (V.int 11)),(.c (V.int 1024))]),xo 47 (.load true 2 (.t 3)),xo 48 (.load true 2 (.t 6)),xo 49 (.load true 2 (.t 12)),xo 50 (.build [vi0,vs0,vi0,vi0,vi0,vi0,vi0,vi0,vi0,vi0,vi0,vi0] [(1,1,(.c (V.str [100,104,101,45,100,115,97,45,100,101,115,51,45,115,104,97]))),(2,2,(.t 46)),(4,2,(.t 47)),(6,2,(.t 48)),(8,2,(.t 49)),(10,1,(.c (V.int 1))),(11,1,(.c (V.int 3)))]),xo 51 (.call Qp [(.c (V.int 11)),(.c (V.int 1024))]),xo 52 (.load true 2 (.t 2)),xo 53 (.load true 2 (.t 6)),xo 54 (.load true 2 (.t 12)),xo 55 (.build [vi0,vs0,vi0,vi0,vi0,vi0,vi0,vi0,vi0,vi0,vi0,vi0] [(1,1,(.c (V.str [100,104,101,45,114,115,97,45,100,101,115,51,45,115,104,97]))),(2,2,(.t 51)),(4,2,(.t 52)),(6,2,(.t 53)),(8,2,(.t 54)),(10,1,(.c (V.int 1))),(11,1,(.c (V.int 3)))]),xo 56 (.load true 2 (.t 1)),xo 57 (.load true 2 (.t 2)),xo 58 (.load true 2 (.t 7)),xo 59 (.load true 2 (.t 12)),xo 60 (.build [vi0,vs0,vi0,vi0,vi0,vi0,vi0,vi0,vi0,vi0,vi0,vi0] [(1,1,(.c (V.str [114,115,97,45,97,101,115,49,50,56,45,115,104,97]))),(2,2,(.t 56)),(4,2,(.t 57)),(6,2,(.t 58)),(8,2,(.t 59)),(10,1,(.c (V.int 1))),(11,1,(.c (V.int 3)))]),xo 61 (.call Qp [(.c (V.int 11)),(.c (V.int 2048))]),xo 62 (.load true 2 (.t 2)),xo 63 (.load true 2 (.t 7)),xo 64 (.load true 2 (.t 12)),xo 65 (.build [vi0,vs0,vi0,vi0,vi0,vi0,vi0,vi0,vi0,vi0,vi0,vi0] [(1,1,(.c (V.str [100,104,101,45,114,115,97,45,97,101,115,49,50,56,45,115,104,97]))),(2,2,(.t 61)),(4,2,(.t 62)),(6,2,(.t 63)),(8,2,(.t 64)),(10,1,(.c (V.int 1))),(11,1,(.c (V.int 3)))]),xo 66 (.load true 2 (.t 14)),xo 67 (.load true 2 (.t 2)),xo 68 (.load true 2 (.t 7)),xo 69 (.load true 2 (.t 12)),xo 70 (.build [vi0,vs0,vi0,vi0,vi0,vi0,vi0,vi0,vi0,vi0,vi0,vi0] [(1,1,(.c (V.str [101,99,100,104,101,45,114,115,97,45,97,101,115,49,50,56,45,115,104,97]))),(2,2,(.t 66)),(4,2,(.t 67)),(6,2,(.t 68)),(8,2,(.t 69)),(10,1,(.c (V.int 1))),(11,1,(.c (V.int 3)))]),xo 71 (.load true 2 (.t 14)),xo 72 (.load true 2 (.t 4)),xo 73 (.call Qp [(.c (V.int 16)),(.c (V.int 256))]),xo 74 (.call Qp [(.c (V.int 21)),(.c (V.int 0))]),xo 75 (.build [vi0,vs0,vi0,vi0,vi0,vi0,vi0,vi0,vi0,vi0,vi0,vi0] [(1,1,(.c (V.str [101,99,100,104,101,45,101,99,100,115,97,45,97,101,115,50,53,54,45,115,104,97,50,53,54]))),(2,2,(.t 71)),(4,2,(.t 72)),(6,2,(.t 73)),(8,2,(.t 74)),(10,1,(.c (V.int 3))),(11,1,(.c (V.int 3)))]),xo 76 (.load true 2 (.t 14)),xo 77 (.load true 2 (.t 2)),xo 78 (.load true 2 (.t 8)),xo 79 (.load true 2 (.t 13)),xo 80 (.build [vi0,vs0,vi0,vi0,vi0,vi0,vi0,vi0,vi0,vi0,vi0,vi0] [(1,1,(.c (V.str [101,99,100,104,101,45,114,115,97,45,97,101,115,49,50,56,45,103,99,109]))),(2,2,(.t 76)),(4,2,(.t 77)),(6,2,(.t 78)),(8,2,(.t 79)),(10,1,(.c (V.int 3))),(11,1,(.c (V.int 3)))]),xo 81 (.call Qp [(.c (V.int 12)),(.c (V.int 384))]),xo 82 (.load true 2 (.t 4)),xo 83 (.load true 2 (.t 9)),xo 84 (.load true 2 (.t 13)),xo 85 (.build [vi0,vs0,vi0,vi0,vi0,vi0,vi0,vi0,vi0,vi0,vi0,vi0] [(1,1,(.c (V.str [101,99,100,104,101,45,101,99,100,115,97,45,97,101,115,50,53,54,45,103,99,109]))),(2,2,(.t 81)),(4,2,(.t 82)),(6,2,(.t 83)),(8,2,(.t 84)),(10,1,(.c (V.int 3))),(11,1,(.c (V.int 3)))]),xo 86 (.load true 2 (.t 14)),xo 87 (.load true 2 (.t 2)),xo 88 (.load true 2 (.t 10)),xo 89 (.load true 2 (.t 13)),xo 90 (.build [vi0,vs0,vi0,vi0,vi0,vi0,vi0,vi0,vi0,vi0,vi0,vi0] [(1,1,(.c (V.str [101,99,100,104,101,45,114,115,97,45,99,104,97,99,104,97]))),(2,2,(.t 86)),(4,2,(.t 87)),(6,2,(.t 88)),(8,2,(.t 89)),(10,1,(.c (V.int 3))),(11,1,(.c (V.int 3)))]),xo 91 (.load true 2 (.t 1)),xo 92 (.load true 2 (.t 2)),xo 93 (.load true 2 (.t 9)),xo 94 (.load true 2 (.t 13)),xo 95 (.build [vi0,vs0,vi0,vi0,vi0,vi0,vi0,vi0,vi0,vi0,vi0,vi0] [(1,1,(.c (V.str [114,115,97,45,97,101,115,50,53,54,45,103,99,109]))),(2,2,(.t 91)),(4,2,(.t 92)),(6,2,(.t 93)),(8,2,(.t 94)),(10,1,(.c (V.int 3))),(11,1,(.c (V.int 3)))]),xo 96 (.load true 2 (.t 14)),xo 97 (.load true 2 (.t 5)),xo 98 (.load true 2 (.t 8)),xo 99 (.load true 2 (.t 13)),xo 100 (.build [vi0,vs0,vi0,vi0,vi0,vi0,vi0,vi0,vi0,vi0,vi0,vi0] [(1,1,(.c (V.str [97,101,115,49,50,56,45,103,99,109]))),(2,2,(.t 96)),(4,2,(.t 97)),(6,2,(.t 98)),(8,2,(.t 99)),(10,1,(.c (V.int 4))),(11,1,(.c (V.int 4)))]),xo 101 (.load true 2 (.t 14)),xo 102 (.load true 2 (.t 5)),xo 103 (.load true 2 (.t 10)),xo 104 (.load true 2 (.t 13)),xo 105 (.build [vi0,vs0,vi0,vi0,vi0,vi0,vi0,vi0,vi0,vi0,vi0,vi0] [(1,1,(.c (V.str [99,104,97,99,104,97]))),(2,2,(.t 101)),(4,2,(.t 102)),(6,2,(.t 103)),(8,2,(.t 104)),(10,1,(.c (V.int 4))),(11,1,(.c (V.int 4)))]),xo 106 (.call Qp [(.c (V.int 13)),(.c (V.int 768))]),xo 107 (.load true 2 (.t 5)),xo 108 (.load true 2 (.t 9)),xo 109 (.load true 2 (.t 13)),xo 110 (.build [vi0,vs0,vi0,vi0,vi0,vi0,vi0,vi0,vi0,vi0,vi0,vi0] [(1,1,(.c (V.str [109,108,107,101,109,45,97,101,115,50,53,54,45,103,99,109]))),(2,2,(.t 106)),(4,2,(.t 107)),(6,2,(.t 108)),(8,2,(.t 109)),(10,1,(.c (V.int 4))),(11,1,(.c (V.int 4)))]),xo 111 (.bslice 16 12 true [vi0,vs0,vi0,vi0,vi0,vi0,vi0,vi0,vi0,vi0,vi0,vi0] [(0,(.t 35)),(1,(.t 40)),(2,(.t 45)),(3,(.t 50)),(4,(.t 55)),(5,(.t 60)),(6,(.t 65)),(7,(.t 70)),(8,(.t 75)),(9,(.t 80)),(10,(.t 85)),(11,(.t 90)),(12,(.t 95)),(13,(.t 100)),(14,(.t 105)),(15,(.t 110))]),mv 15 111]
def aaq:List (List Nat):=[[],[],[],[],[0,1,2,3],[],[],[2],[],[5,6,7,8],[],[],[],[],[10,11,12,13],[7],[],[],[],[15,16,17,18],[15],[],[],[],[20,21,22,23],[],[],[],[],[25,26,27,28],[20],[],[],[],[30,31,32,33],[],[],[],[],[35,36,37,38],[],[],[30],[42],[40,41,42,43],[],[],[],[],[45,46,47,48],[43],[],[],[],[50,51,52,53],[],[],[],[],[55,56,57,58],[],[],[],[],[60,61,62,63],[],[],[],[],[65,66,67,68],[],[],[],[],[70,71,72,73],[50],[],[],[],[75,76,77,78],[4,9,14,19,24,29,34,39,44,49,54,59,64,69,74,79],[80,75,0,1,2,3,4,5,6,7,8,9,10,11,12,13,14,15,16,17,18,19,20,21,22,23,24,25,26,27,28,29,30,31,32,33,34,35,36,37,38,39,40,41,42,43,44,45,46,47,48,49,50,51,52,53,54,55,56,57,58,59,60,61,62,63,64,65,66,67,68,69,70,71,72,73,74,75,76,77,78,79,80]]
def vK:OT:=.one 0 (.one 1 (.one 2 (.one 3 (.one 4 (.one 5 (.one 6 (.one 7 (.one 8 (.one 9 (.one 10 (.one 11 (.one 12 (.one 13 (.one 14 (.one 15 (.one 16 (.one 17 (.one 18 (.one 19 (.one 20 (.one 21 (.one 22 (.one 23 (.one 24 (.one 25 (.one 26 (.one 27 (.one 28 (.one 29 (.one 30 (.one 31 (.one 32 (.one 33 (.one 34 (.one 35 (.one 36 (.one 37 (.one 38 (.one 39 (.one 40 (.one 41 (.one 42 (.one 43 (.one 44 (.one 45 (.one 46 (.one 47 (.one 48 (.one 49 (.one 50 (.one 51 (.one 52 (.one 53 (.one 54 (.one 55 (.one 56 (.one 57 (.one 58 (.one 59 (.one 60 (.one 61 (.one 62 (.one 63 (.one 64 (.one 65 (.one 66 (.one 67 (.one 68 (.one 69 (.one 70 (.one 71 (.one 72 (.one 73 (.one 74 (.one 75 (.one 76 (.one 77 (.one 78 (.one 79 (.one 80 (.one 81 .done)))))))))))))))))))))))))))))))))))))))))))))))))))))))))))))))))))))))))))))))))
@[go_sem] def vW (Qp:Nat):OP:=oN 0 (xo 31 (.load true 2 (.t 1))) (oN 1 (xo 32 (.load true 2 (.t 2))) (oN 2 (xo 33 (.call Qp [(.c (V.int 14)),(.c (V.int 128))])) (oN 3 (xo 34 (.load true 2 (.t 11))) (oN 4 (xo 35 (.build [vi0,vs0,vi0,vi0,vi0,vi0,vi0,vi0,vi0,vi0,vi0,vi0] [(1,1,(.c (V.str [114,115,97,45,114,99,52,45,109,100,53]))),(2,2,(.t 31)),(4,2,(.t 32)),(6,2,(.t 33)),(8,2,(.t 34)),(10,1,(.c (V.int 1))),(11,1,(.c (V.int 2)))])) (oN 5 (xo 36 (.load true 2 (.t 1))) (oN 6 (xo 37 (.load true 2 (.t 2))) (oN 7 (xo 38 (.call Qp [(.c (V.int 14)),(.c (V.int 128))])) (oN 8 (xo 39 (.load true 2 (.t 12))) (oN 9 (xo 40 (.build [vi0,vs0,vi0,vi0,vi0,vi0,vi0,vi0,vi0,vi0,vi0,vi0] [(1,1,(.c (V.str [114,115,97,45,114,99,52,45,115,104,97]))),(2,2,(.t 36)),(4,2,(.t 37)),(6,2,(.t 38)),(8,2,(.t 39)),(10,1,(.c (V.int 1))),(11,1,(.c (V.int 3)))])) (oN 10 (xo 41 (.load true 2 (.t 1))) (oN 11 (xo 42 (.load true 2 (.t 2))) (oN 12 (xo 43 (.load true 2 (.t 6))) (oN 13 (xo 44 (.load true 2 (.t 12))) (oN 14 (xo 45 (.build [vi0,vs0,vi0,vi0,vi0,vi0,vi0,vi0,vi0,vi0,vi0,vi0] [(1,1,(.c (V.str [114,115,97,45,100,101,115,51,45,115,104,97]))),(2,2,(.t 41)),(4,2,(.t 42)),(6,2,(.t 43)),(8,2,(.t 44)),(10,1,(.c (V.int 1))),(11,1,(.c (V.int 3)))])) (oN 15 (xo 46 (.call Qp [(.c (V.int 11)),(.c (V.int 1024))])) (oN 16 (xo 47 (.load true 2 (.t 3))) (oN 17 (xo 48 (.load true 2 (.t 6))) (oN 18 (xo 49 (.load true 2 (.t 12))) (oN 19 (xo 50 (.build [vi0,vs0,vi0,vi0,vi0,vi0,vi0,vi0,vi0,vi0,vi0,vi0] [(1,1,(.c (V.str [100,104,101,45,100,115,97,45,100,101,115,51,45,115,104,97]))),(2,2,(.t 46)),(4,2,(.t 47)),(6,2,(.t 48)),(8,2,(.t 49)),(10,1,(.c (V.int 1))),(11,1,(.c (V.int 3)))])) (oN 20 (xo 51 (.call Qp [(.c (V.int 11)),(.c (V.int 1024))])) (oN 21 (xo 52 (.load true 2 (.t 2))) (oN 22 (xo 53 (.load true 2 (.t 6))) (oN 23 (xo 54 (.load true 2 (.t 12))) (oN 24 (xo 55 (.build [vi0,vs0,vi0,vi0,vi0,vi0,vi0,vi0,vi0,vi0,vi0,vi0] [(1,1,(.c (V.str [100,104,101,45,114,115,97,45,100,101,115,51,45,115,104,97]))),(2,2,(.t 51)),(4,2,(.t 52)),(6,2,(.t 53)),(8,2,(.t 54)),(10,1,(.c (V.int 1))),(11,1,(.c (V.int 3)))])) (oN 25 (xo 56 (.load true 2 (.t 1))) (oN 26 (xo 57 (.load true 2 (.t 2))) (oN 27 (xo 58 (.load true 2 (.t 7))) (oN 28 (xo 59 (.load true 2 (.t 12))) (oN 29 (xo 60 (.build [vi0,vs0,vi0,vi0,vi0,vi0,vi0,vi0,vi0,vi0,vi0,vi0] [(1,1,(.c (V.str [114,115,97,45,97,101,115,49,50,56,45,115,104,97]))),(2,2,(.t 56)),(4,2,(.t 57)),(6,2,(.t 58)),(8,2,(.t 59)),(10,1,(.c (V.int 1))),(11,1,(.c (V.int 3)))])) (oN 30 (xo 61 (.call Qp [(.c (V.int 11)),(.c (V.int 2048))])) (oN 31 (xo 62 (.load true 2 (.t 2))) (oN 32 (xo 63 (.load true 2 (.t 7))) (oN 33 (xo 64 (.load true 2 (.t 12))) (oN 34 (xo 65 (.build [vi0,vs0,vi0,vi0,vi0,vi0,vi0,vi0,vi0,vi0,vi0,vi0] [(1,1,(.c (V.str [100,104,101,45,114,115,97,45,97,101,115,49,50,56,45,115,104,97]))),(2,2,(.t 61)),(4,2,(.t 62)),(6,2,(.t 63)),(8,2,(.t 64)),(10,1,(.c (V.int 1))),(11,1,(.c (V.int 3)))])) (oN 35 (xo 66 (.load true 2 (.t 14))) (oN 36 (xo 67 (.load true 2 (.t 2))) (oN 37 (xo 68 (.load true 2 (.t 7))) (oN 38 (xo 69 (.load true 2 (.t 12))) (oN 39 (xo 70 (.build [vi0,vs0,vi0,vi0,vi0,vi0,vi0,vi0,vi0,vi0,vi0,vi0] [(1,1,(.c (V.str [101,99,100,104,101,45,114,115,97,45,97,101,115,49,50,56,45,115,104,97]))),(2,2,(.t 66)),(4,2,(.t 67)),(6,2,(.t 68)),(8,2,(.t 69)),(10,1,(.c (V.int 1))),(11,1,(.c (V.int 3)))])) (oN 40 (xo 71 (.load true 2 (.t 14))) (oN 41 (xo 72 (.load true 2 (.t 4))) (oN 42 (xo 73 (.call Qp [(.c (V.int 16)),(.c (V.int 256))])) (oN 43 (xo 74 (.call Qp [(.c (V.int 21)),(.c (V.int 0))])) (oN 44 (xo 75 (.build [vi0,vs0,vi0,vi0,vi0,vi0,vi0,vi0,vi0,vi0,vi0,vi0] [(1,1,(.c (V.str [101,99,100,104,101,45,101,99,100,115,97,45,97,101,115,50,53,54,45,115,104,97,50,53,54]))),(2,2,(.t 71)),(4,2,(.t 72)),(6,2,(.t 73)),(8,2,(.t 74)),(10,1,(.c (V.int 3))),(11,1,(.c (V.int 3)))])) (oN 45 (xo 76 (.load true 2 (.t 14))) (oN 46 (xo 77 (.load true 2 (.t 2))) (oN 47 (xo 78 (.load true 2 (.t 8))) (oN 48 (xo 79 (.load true 2 (.t 13))) (oN 49 (xo 80 (.build [vi0,vs0,vi0,vi0,vi0,vi0,vi0,vi0,vi0,vi0,vi0,vi0] [(1,1,(.c (V.str [101,99,100,104,101,45,114,115,97,45,97,101,115,49,50,56,45,103,99,109]))),(2,2,(.t 76)),(4,2,(.t 77)),(6,2,(.t 78)),(8,2,(.t 79)),(10,1,(.c (V.int 3))),(11,1,(.c (V.int 3)))])) (oN 50 (xo 81 (.call Qp [(.c (V.int 12)),(.c (V.int 384))])) (oN 51 (xo 82 (.load true 2 (.t 4))) (oN 52 (xo 83 (.load true 2 (.t 9))) (oN 53 (xo 84 (.load true 2 (.t 13))) (oN 54 (xo 85 (.build [vi0,vs0,vi0,vi0,vi0,vi0,vi0,vi0,vi0,vi0,vi0,vi0] [(1,1,(.c (V.str [101,99,100,104,101,45,101,99,100,115,97,45,97,101,115,50,53,54,45,103,99,109]))),(2,2,(.t 81)),(4,2,(.t 82)),(6,2,(.t 83)),(8,2,(.t 84)),(10,1,(.c (V.int 3))),(11,1,(.c (V.int 3)))])) (oN 55 (xo 86 (.load true 2 (.t 14))) (oN 56 (xo 87 (.load true 2 (.t 2))) (oN 57 (xo 88 (.load true 2 (.t 10))) (oN 58 (xo 89 (.load true 2 (.t 13))) (oN 59 (xo 90 (.build [vi0,vs0,vi0,vi0,vi0,vi0,vi0,vi0,vi0,vi0,vi0,vi0] [(1,1,(.c (V.str [101,99,100,104,101,45,114,115,97,45,99,104,97,99,104,97]))),(2,2,(.t 86)),(4,2,(.t 87)),(6,2,(.t 88)),(8,2,(.t 89)),(10,1,(.c (V.int 3))),(11,1,(.c (V.int 3)))])) (oN 60 (xo 91 (.load true 2 (.t 1))) (oN 61 (xo 92 (.load true 2 (.t 2))) (oN 62 (xo 93 (.load true 2 (.t 9))) (oN 63 (xo 94 (.load true 2 (.t 13))) (oN 64 (xo 95 (.build [vi0,vs0,vi0,vi0,vi0,vi0,vi0,vi0,vi0,vi0,vi0,vi0] [(1,1,(.c (V.str [114,115,97,45,97,101,115,50,53,54,45,103,99,109]))),(2,2,(.t 91)),(4,2,(.t 92)),(6,2,(.t 93)),(8,2,(.t 94)),(10,1,(.c (V.int 3))),(11,1,(.c (V.int 3)))])) (oN 65 (xo 96 (.load true 2 (.t 14))) (oN 66 (xo 97 (.load true 2 (.t 5))) (oN 67 (xo 98 (.load true 2 (.t 8))) (oN 68 (xo 99 (.load true 2 (.t 13))) (oN 69 (xo 100 (.build [vi0,vs0,vi0,vi0,vi0,vi0,vi0,vi0,vi0,vi0,vi0,vi0] [(1,1,(.c (V.str [97,101,115,49,50,56,45,103,99,109]))),(2,2,(.t 96)),(4,2,(.t 97)),(6,2,(.t 98)),(8,2,(.t 99)),(10,1,(.c (V.int 4))),(11,1,(.c (V.int 4)))])) (oN 70 (xo 101 (.load true 2 (.t 14))) (oN 71 (xo 102 (.load true 2 (.t 5))) (oN 72 (xo 103 (.load true 2 (.t 10))) (oN 73 (xo 104 (.load true 2 (.t 13))) (oN 74 (xo 105 (.build [vi0,vs0,vi0,vi0,vi0,vi0,vi0,vi0,vi0,vi0,vi0,vi0] [(1,1,(.c (V.str [99,104,97,99,104,97]))),(2,2,(.t 101)),(4,2,(.t 102)),(6,2,(.t 103)),(8,2,(.t 104)),(10,1,(.c (V.int 4))),(11,1,(.c (V.int 4)))])) (oN 75 (xo 106 (.call Qp [(.c (V.int 13)),(.c (V.int 768))])) (oN 76 (xo 107 (.load true 2 (.t 5))) (oN 77 (xo 108 (.load true 2 (.t 9))) (oN 78 (xo 109 (.load true 2 (.t 13))) (oN 79 (xo 110 (.build [vi0,vs0,vi0,vi0,vi0,vi0,vi0,vi0,vi0,vi0,vi0,vi0] [(1,1,(.c (V.str [109,108,107,101,109,45,97,101,115,50,53,54,45,103,99,109]))),(2,2,(.t 106)),(4,2,(.t 107)),(6,2,(.t 108)),(8,2,(.t 109)),(10,1,(.c (V.int 4))),(11,1,(.c (V.int 4)))])) (.one 80 false [75,50,43,42,30,20,15,7,2] (xo 111 (.bslice 16 12 true [vi0,vs0,vi0,vi0,vi0,vi0,vi0,vi0,vi0,vi0,vi0,vi0] [(0,(.t 35)),(1,(.t 40)),(2,(.t 45)),(3,(.t 50)),(4,(.t 55)),(5,(.t 60)),(6,(.t 65)),(7,(.t 70)),(8,(.t 75)),(9,(.t 80)),(10,(.t 85)),(11,(.t 90)),(12,(.t 95)),(13,(.t 100)),(14,(.t 105)),(15,(.t 110))])) (oN 81 (mv 15 111) .done)))))))))))))))))))))))))))))))))))))))))))))))))))))))))))))))))))))))))))))))))
instance (Qp:Nat):RG [] vK (vW Qp) (aab Qp) aaq 82 (fun _=>true):=⟨rfl,by kernel_rfl,by kernel_rfl⟩
def yH (Qp:Nat):AC:=Qa [] (.reg [xo 0 (.mknil 12)]) (Qa [1,2,3,4,5] (.reg [xo 17 (.call Qp [(.c (V.int 10)),(.c (V.int 0))]),xo 18 (.call Qp [(.c (V.int 5)),(.c (V.int 0))]),xo 19 (.call Qp [(.c (V.int 6)),(.c (V.int 0))]),xo 20 (.call Qp [(.c (V.int 7)),(.c (V.int 0))]),xo 21 (.build [vi0,vi0] []),xo 1 (.alloc [.val vi0,.val vi0]),xo 2 (.alloc [.val vi0,.val vi0]),xo 3 (.alloc [.val vi0,.val vi0]),xo 4 (.alloc [.val vi0,.val vi0]),xo 5 (.alloc [.val vi0,.val vi0]),xs 2 1 17,xs 2 2 18,xs 2 3 19,xs 2 4 20,xs 2 5 21]) (Qa [1,2,3,4,5,6,7,8,9,10] (.reg [xo 22 (.call Qp [(.c (V.int 15)),(.c (V.int 168))]),xo 23 (.call Qp [(.c (V.int 16)),(.c (V.int 128))]),xo 24 (.call Qp [(.c (V.int 17)),(.c (V.int 128))]),xo 25 (.call Qp [(.c (V.int 17)),(.c (V.int 256))]),xo 26 (.call Qp [(.c (V.int 18)),(.c (V.int 0))]),xo 6 (.alloc [.val vi0,.val vi0]),xo 7 (.alloc [.val vi0,.val vi0]),xo 8 (.alloc [.val vi0,.val vi0]),xo 9 (.alloc [.val vi0,.val vi0]),xo 10 (.alloc [.val vi0,.val vi0]),xs 2 6 22,xs 2 7 23,xs 2 8 24,xs 2 9 25,xs 2 10 26]) (Qa [1,2,3,4,5,6,7,8,9,10,11,12,13,14] (.reg [xo 27 (.call Qp [(.c (V.int 19)),(.c (V.int 0))]),xo 28 (.call Qp [(.c (V.int 20)),(.c (V.int 0))]),xo 29 (.call Qp [(.c (V.int 22)),(.c (V.int 0))]),xo 30 (.call Qp [(.c (V.int 12)),(.c (V.int 256))]),xo 11 (.alloc [.val vi0,.val vi0]),xo 12 (.alloc [.val vi0,.val vi0]),xo 13 (.alloc [.val vi0,.val vi0]),xo 14 (.alloc [.val vi0,.val vi0]),xs 2 11 27,xs 2 12 28,xs 2 13 29,xs 2 14 30]) (Qa [15] (yh [] vK (vW Qp) (aab Qp) aaq) (Qa [15] (Qa [15,113,114] (.reg [mv 112 15,ln 113 112,mc 114 (V.int 0)]) (.block 0 (JH [15,113,114] (Qa [15,113,114,115] (.reg [bn 115 .lss 114 113]) (Qa [15,113,114] (.cond (.t 115) .skip (.exit 0)) (Qa [15,113,114] (.block 1 (Qa [15,16,113,114] (.reg [mv 116 114,mv 16 116]) (.reg [mv 117 15,mv 118 16,mv 119 16,bc 120 .add 119 (V.int 1),ia 121 12 117 118,fa 122 0 121,xs 1 122 120]))) (.reg [bc 123 .add 114 (V.int 1),mv 114 123]))))))) (Qa [0] (.reg [mv 124 15,mv 0 124]) .ret)))))) def r_catalog_Suites:List Jl:=[.tmp 0]
def WS (Γ:Env) (f:Nat):Prop:=EvC Γ f [] (.sl 12 (Jn.map QG.v))
theorem aiJ {Γ:Env} {f Qp:Nat} (h:Has Γ.P f 125 (yH Qp) r_catalog_Suites) (z0:aa4 Γ Qp):WS Γ f:=by
 refine QV h zsi (by simp only [V.closed]) fun C hC hm=>?_
 subst hC
 unfold yH
 repeat' (first|(refine zsk ?_;intro K' hK)|(refine zrg ?_;intro K' hK)|refine zsp ?_|(refine zsc ?_ ?_<;>intro hc<;>first|exact znh|try simp only [znz] at hc)|simp (maxSteps:=1000000) only [go_sem]|(refine hK _ ?_;clear hK K')|apply zan|((first|apply Jb|apply Q6);(focus first|exact (z0 _ _).b))|exact zsq|fail)
 refine QY (ι:=Nat) (fun k=>k≤16) (fun k=>QZ [(15,.hd 0 0 16),(113,V.int 16),(114,V.int k)] [(0,.buf true 12 (am3 k))] 1) (fun k=>16 - k) 0 (by omega) (Qk [(0,123000)]) (QR _ zwa zwa (by simp) (by simp;omega) (by omega)) fun k hk K' hL=>?_
 by_cases hk':k < 16
 ·obtain ⟨cs,hget,hcs,hset⟩:=apI k hk'
  have hw:=Qj (k:=k) (by omega)
  have hs:(1:Int)≤1:=by omega
  repeat' (first|(refine zsk ?_;intro K' hK)|(refine zrg ?_;intro K' hK)|refine zsp ?_|(refine zsc ?_ ?_<;>intro hc<;>first|exact znh|try simp only [znz] at hc)|simp (maxSteps:=1000000) only [go_sem,QZ,hget,hw]|(refine hK _ ?_;clear hK K')|apply zan|((first|apply Jb|apply Q6);(focus first|exact (z0 _ _).b))|exact zsq|fail)
  refine hL _ (k + 1) (Qk []) (by omega) (by omega) (QR [] zwa (by simp only [go_sem,zwl];(try simp only [Nat.zero_add,Int.toNat_natCast,List.take_zero,List.nil_append,hset]);(repeat' (first|rfl|apply And.intro|omega|exact fun h=>h|exact Exists.intro _ rfl))) (by simp) (by simp) (by omega))
 ·obtain rfl:k = 16:=by omega
  repeat' (first|(refine zsk ?_;intro K' hK)|(refine zrg ?_;intro K' hK)|refine zsp ?_|(refine zsc ?_ ?_<;>intro hc<;>first|exact znh|try simp only [znz] at hc)|simp (maxSteps:=1000000) only [go_sem,QZ]|(refine hK _ ?_;clear hK K')|apply zan|((first|apply Jb|apply Q6);(focus first|exact (z0 _ _).b))|exact zsq|fail)
  refine Qn _ rfl ?_;simp only [go_sem]
  rfl
theorem arR (b:Int):0≤apC b apZ∧apC b apZ≤256:=by
 simp only [apZ,apC];repeat' split
 all_goals omega
theorem ar6 (a:Int):Jk a = apM∨Jk a∈Y5:=by
 unfold Jk
 split
 ·rename_i ha
  have hk:a.toNat < Y5.length:=by have:Y5.length = 23:=rfl;omega
  rw [List.getD_eq_getElem?_getD,List.getElem?_eq_getElem hk,Option.getD_some]
  exact .inr (List.getElem_mem hk)
 ·exact .inl rfl
theorem aog:∀ r∈Y5,∀ x∈r.strengths,0≤x∧x≤256:=by decide
theorem al9 (a:Int):∀ x∈(Jk a).strengths,0≤x∧x≤256:=by
 rcases ar6 a with h|h
 ·rw [h];simp [apM]
 ·exact aog _ h
theorem ar0 {l:List Int} (h:∀ x∈l,0≤x∧x≤256) (k:Nat):0≤l.getD k 0∧l.getD k 0≤256:=by
 rw [List.getD_eq_getElem?_getD]
 cases hk:l[k]? with
 | none=>simp
 | some x=>simpa using h x (List.mem_of_getElem? hk)
theorem ap1 {l:List Int} (h:∀ x∈l,0≤x∧x≤256):0≤l.headD 0∧l.headD 0≤256:=by
 cases l with
 | nil=>simp
 | cons x r=>simpa using h x (by simp)
theorem aqe (b:Int) (h:VX b 0 [160,224,256,384,521]≥0):b = 160∨b = 224∨b = 256∨b = 384∨b = 521:=by
 simpa using aoT _ _ _ h
theorem awr (b:Int) (h:b = 160∨b = 224∨b = 256∨b = 384∨b = 521):IntKind.i64.wrap (b.tdiv 2) = b / 2:=by
 rcases h with rfl|rfl|rfl|rfl|rfl<;>rfl
theorem alv (a b:Int):0≤Jr a b∧Jr a b≤512:=by
 have h1:=al9 a
 have h2:=ap1 h1
 have h3:=ar0 h1 (VX b 0 (Jk a).sizes).toNat
 have h4:=arR b
 simp only [Jr,j0]
 split
 ·omega
 ·split
  ·split<;>omega
  ·split
   ·split<;>omega
   ·split
    ·split
     ·rename_i hf
      have:=aqe b hf
      rw [awr b this];omega
     ·omega
    ·split
     ·split<;>omega
     ·omega
def aqz (r:ai8):V:=.agg [V.str r.name,V.int r.kind]
def apO:List V:=Y5.map aqz
theorem akp {k:Nat} {r:ai8} (h:Y5[k]? = some r):apO[k]? = some (aqz r):=by
 rw [apO,List.getElem?_map,h];rfl
theorem amS {a:Int} (ha:1≤a∧a≤22):Y5[a.toNat]? = some (Jk a):=by
 have hl:Y5.length = 23:=rfl
 have hk:a.toNat < Y5.length:=by omega
 rw [Jk,if_pos ha,List.getD_eq_getElem?_getD,List.getElem?_eq_getElem hk,Option.getD_some]
def adW:AC:=Qa [] (.reg [xo 0 (.mknil 2)]) (Qa [0] (.reg [xo 1 (.build [vs0,vi0] []),xo 2 (.build [vs0,vi0] [(0,1,(.c (V.str [109,100,53]))),(1,1,(.c (V.int 1)))]),xo 3 (.build [vs0,vi0] [(0,1,(.c (V.str [115,104,97,49]))),(1,1,(.c (V.int 1)))]),xo 4 (.build [vs0,vi0] [(0,1,(.c (V.str [115,104,97,50,53,54]))),(1,1,(.c (V.int 1)))]),xo 5 (.build [vs0,vi0] [(0,1,(.c (V.str [115,104,97,51,56,52]))),(1,1,(.c (V.int 1)))]),xo 6 (.build [vs0,vi0] [(0,1,(.c (V.str [114,115,97]))),(1,1,(.c (V.int 2)))]),xo 7 (.build [vs0,vi0] [(0,1,(.c (V.str [100,115,97]))),(1,1,(.c (V.int 2)))]),xo 8 (.build [vs0,vi0] [(0,1,(.c (V.str [101,99,100,115,97]))),(1,1,(.c (V.int 2)))]),xo 9 (.build [vs0,vi0] [(0,1,(.c (V.str [101,100,50,53,53,49,57]))),(1,1,(.c (V.int 2)))]),xo 10 (.build [vs0,vi0] [(0,1,(.c (V.str [109,108,100,115,97]))),(1,1,(.c (V.int 2)))]),xo 11 (.build [vs0,vi0] [(0,1,(.c (V.str [114,115,97,107,120]))),(1,1,(.c (V.int 3)))]),xo 12 (.build [vs0,vi0] [(0,1,(.c (V.str [100,104,101]))),(1,1,(.c (V.int 3)))]),xo 13 (.build [vs0,vi0] [(0,1,(.c (V.str [101,99,100,104,101]))),(1,1,(.c (V.int 3)))]),xo 14 (.build [vs0,vi0] [(0,1,(.c (V.str [109,108,107,101,109]))),(1,1,(.c (V.int 3)))]),xo 15 (.build [vs0,vi0] [(0,1,(.c (V.str [114,99,52]))),(1,1,(.c (V.int 4)))]),xo 16 (.build [vs0,vi0] [(0,1,(.c (V.str [100,101,115,51]))),(1,1,(.c (V.int 4)))]),xo 17 (.build [vs0,vi0] [(0,1,(.c (V.str [97,101,115,99,98,99]))),(1,1,(.c (V.int 4)))]),xo 18 (.build [vs0,vi0] [(0,1,(.c (V.str [97,101,115,103,99,109]))),(1,1,(.c (V.int 4)))]),xo 19 (.build [vs0,vi0] [(0,1,(.c (V.str [99,104,97,99,104,97]))),(1,1,(.c (V.int 4)))]),xo 20 (.build [vs0,vi0] [(0,1,(.c (V.str [104,109,97,99,109,100,53]))),(1,1,(.c (V.int 5)))]),xo 21 (.build [vs0,vi0] [(0,1,(.c (V.str [104,109,97,99,115,104,97,49]))),(1,1,(.c (V.int 5)))]),xo 22 (.build [vs0,vi0] [(0,1,(.c (V.str [104,109,97,99,115,104,97,50,53,54]))),(1,1,(.c (V.int 5)))]),xo 23 (.build [vs0,vi0] [(0,1,(.c (V.str [97,101,97,100]))),(1,1,(.c (V.int 5)))]),xo 24 (.bslice 23 2 true [vs0,vi0] [(0,(.t 1)),(1,(.t 2)),(2,(.t 3)),(3,(.t 4)),(4,(.t 5)),(5,(.t 6)),(6,(.t 7)),(7,(.t 8)),(8,(.t 9)),(9,(.t 10)),(10,(.t 11)),(11,(.t 12)),(12,(.t 13)),(13,(.t 14)),(14,(.t 15)),(15,(.t 16)),(16,(.t 17)),(17,(.t 18)),(18,(.t 19)),(19,(.t 20)),(20,(.t 21)),(21,(.t 22)),(22,(.t 23))]),mv 0 24]) .ret) def r_ref02_rows:List Jl:=[.tmp 0]
def xN (Γ:Env) (f:Nat):Prop:=EvC Γ f [] (.sl 2 apO)
theorem anH {Γ:Env} {f:Nat} (h:Has Γ.P f 25 adW r_ref02_rows) :xN Γ f:=by
 refine QV h zsi (by simp only [V.closed]) fun C hC hm=>?_
 subst hC
 unfold adW
 refine zgo ?_;repeat' first|exact zt|apply zan|intro hc
 refine Qn _ rfl ?_;simp only [go_sem]
 rfl
def adX (X8:Nat):AC:=Qa [0] (.reg [mc 2 (V.str [])]) (Qa [0] (Qa [0,8] (.reg [mv 3 0,bc 4 .lss 3 (V.int 1),mv 5 4,mg 6 0 5 false,xg 7 (.bin .gtr (.t 6) (.c (V.int 22))) 5 false,xo 8 (.pick (.t 5) (.c (V.bool true)) (.t 7))]) (.cond (.t 8) (Qa [2] (.reg [mc 2 (V.str [])]) .ret) .skip)) (Qa [2] (.reg [cl 9 X8 [],mv 10 0,ia 11 2 9 10,fa 12 0 11,ld 13 1 12,mv 2 13]) .ret)) def r_ref02_Name:List Jl:=[.tmp 2]
def acz (Γ:Env) (f:Nat):Prop:=∀ (a:Int),EvN Γ f [V.int a] (V.str (Jk a).name)
attribute [local go_sem] aqz in
theorem anI {Γ:Env} {f X8:Nat} (h:Has Γ.P f 14 (adX X8) r_ref02_Name) (z0:xN Γ X8):acz Γ f:=by
 intro a
 refine Qe h zsi zcl zcl fun C hC hm=>?_
 subst hC
 unfold adX
 by_cases ha:1≤a∧a≤22
 ·have hg:=akp (amS ha)
  (have zx:=hg);refine zgo ?_;repeat' first|exact zt|apply zan|intro hc
  all_goals first|(refine Qn _ rfl ?_;simp only [go_sem];done)|(refine Qn _ rfl ?_;simp only [go_sem];simp [*];done)|(subst hc;refine Qn _ rfl ?_;simp only [go_sem];simp [*];done)
 ·have hc0:Jk a = apM:=by rw [Jk,if_neg ha]
  refine zgo ?_;repeat' first|exact zt|apply zan|intro hc
  all_goals first|(refine Qn _ rfl ?_;simp only [go_sem];done)|(refine Qn _ rfl ?_;simp only [go_sem];simp [hc0,apM, *];done)|(subst hc;refine Qn _ rfl ?_;simp only [go_sem];simp [hc0,apM, *];done)
def adY (X8:Nat):AC:=Qa [0] (.reg [mc 2 (V.int 0)]) (Qa [0] (Qa [0,8] (.reg [mv 3 0,bc 4 .lss 3 (V.int 1),mv 5 4,mg 6 0 5 false,xg 7 (.bin .gtr (.t 6) (.c (V.int 22))) 5 false,xo 8 (.pick (.t 5) (.c (V.bool true)) (.t 7))]) (.cond (.t 8) (Qa [2] (.reg [mc 2 (V.int 0)]) .ret) .skip)) (Qa [2] (.reg [cl 9 X8 [],mv 10 0,ia 11 2 9 10,fa 12 1 11,ld 13 1 12,mv 2 13]) .ret)) def r_ref02_Kind:List Jl:=[.tmp 2]
def qC (Γ:Env) (f:Nat):Prop:=∀ (a:Int),EvN Γ f [V.int a] (V.int (Jk a).kind)
attribute [local go_sem] aqz in
theorem anJ {Γ:Env} {f X8:Nat} (h:Has Γ.P f 14 (adY X8) r_ref02_Kind) (z0:xN Γ X8):qC Γ f:=by
 intro a
 refine Qe h zsi zcl zcl fun C hC hm=>?_
 subst hC
 unfold adY
 by_cases ha:1≤a∧a≤22
 ·have hg:=akp (amS ha)
  (have zx:=hg);refine zgo ?_;repeat' first|exact zt|apply zan|intro hc
  all_goals first|(refine Qn _ rfl ?_;simp only [go_sem];done)|(refine Qn _ rfl ?_;simp only [go_sem];simp [*];done)|(subst hc;refine Qn _ rfl ?_;simp only [go_sem];simp [*];done)
 ·have hc0:Jk a = apM:=by rw [Jk,if_neg ha]
  refine zgo ?_;repeat' first|exact zt|apply zan|intro hc
  all_goals first|(refine Qn _ rfl ?_;simp only [go_sem];done)|(refine Qn _ rfl ?_;simp only [go_sem];simp [hc0,apM, *];done)|(subst hc;refine Qn _ rfl ?_;simp only [go_sem];simp [hc0,apM, *];done)
def wU (b:Int):List Int→List Int→Int
 | x :: xs,y :: ys=>if x = b then y else wU b xs ys
 | _,_=>0
def ab7:AC:=Qa [0,1,2] (.reg [mc 6 (V.int 0)]) (Qa [] (Qa [0,1,2,7] (.reg [mc 7 (V.int 0)]) (.block 0 (JH [0,1,2,7] (Qa [0,1,2,7] (Qa [0,1,2,7,11] (.reg [mv 8 7,mv 9 1,ln 10 9,bn 11 .lss 8 10]) (.cond (.t 11) .skip (.exit 0))) (Qa [0,1,2,7] (.block 1 (Qa [0,1,2,7,19] (.reg [mv 14 1,mv 15 7,ia 16 1 14 15,ld 17 1 16,mv 18 0,bn 19 .eql 17 18]) (.cond (.t 19) (Qa [6] (.reg [mv 20 2,mv 21 7,ia 22 1 20 21,ld 23 1 22,mv 6 23]) .ret) .skip))) (.reg [mv 12 7,bc 13 .add 12 (V.int 1),mv 7 13])))))) (Qa [6] (.reg [mc 6 (V.int 0)]) .ret)) def r_ref02_among:List Jl:=[.tmp 6]
def aa0 (Γ:Env) (f:Nat):Prop:=∀ (b:Int) (xs ys:List Int) (hs:xs.length≤ys.length) (h2:xs.length < 2 ^ 62),EvN Γ f [V.int b,.sl 1 (xs.map V.int),.sl 1 (ys.map V.int)] (V.int (wU b xs ys))
theorem al0 {Γ:Env} {f:Nat} (h:Has Γ.P f 24 ab7 r_ref02_among) :aa0 Γ f:=by
 intro b xs ys hs h2
 refine Qe h zsi zcl zcl fun C hC hm=>?_
 subst hC
 unfold ab7
 refine zgo ?_;repeat' first|exact zt|apply zan|intro hc
 refine QP (ι:=Nat) (fun k=>k≤xs.length∧wU b (xs.drop k) (ys.drop k) = wU b xs ys) (fun k=>[(7,V.int k)]) (fun k=>xs.length - k) 0 (by omega) ⟨by simp,by simp⟩ (by repeat' first|exact Q8|refine JD (by omega) (by simp only [Ob.lt,ltL,V.lt,and_self,and_true];try omega) ?_) (fun i hi=>by simp only [ovT,Ji,Nat.reduceEqDiff,reduceIte];(repeat' first|exact JC|refine Q7 ?_ ?_|simp only [V.lt,ltL,and_self,and_true]|omega)) zet fun k hk K' hL=>?_
 obtain ⟨hk,hinv⟩:=hk
 simp only [ovT,Ji,Nat.reduceEqDiff,reduceIte]
 rcases hd:xs.drop k with _|⟨x,r⟩
 ·have:=Qs hd
  rw [hd] at hinv
  refine zgo ?_;repeat' first|exact zt|apply zan|intro hc
  refine Qn _ rfl ?_;simp only [go_sem]
  rw [← hinv];simp [wU]
 ·obtain ⟨hk',hget,hr⟩:=Ql hd
  rcases hd2:ys.drop k with _|⟨y,r2⟩
  ·have:=Qs hd2;omega
  ·obtain ⟨hk2,hget2,hr2⟩:=Ql hd2
   rw [hd,hd2] at hinv
   have hw:=Qj (k:=k) (by omega)
   (have zx:=And.intro hget (And.intro hget2 hw));refine zgo ?_;repeat' first|exact zt|apply zan|intro hc
   ·refine Qn _ rfl ?_;simp only [go_sem]
    rw [← hinv];simp [wU,hc]
   ·refine hL _ (k + 1) zet ⟨by omega,?_⟩ (by omega) (fun a ha=>by simp only [u32,u33,u34,u35,u36,u37,u38,u39];repeat rw [if_neg (by omega)])
    rw [hr,hr2,← hinv,wU,if_neg hc]
def afD (a:Int):Int:=if a = 1 then 18 else if a = 2 then 60 else if a = 3∨a = 8∨a = 21 then 128 else if a = 4 then 192 else if a = 18∨a = 22 then 256 else if a = 19 then 64 else if a = 20 then 80 else 0
def axX (b:Int):Int:=if b < 512∨16384 < b then 0 else apC b apZ
def aaF:AC:=Qa [0] (.reg [mc 2 (V.int 0)]) (Qa [] (Qa [3] (.reg [mv 3 0]) (.block 0 (Qa [3,4] (.reg [bc 5 .eql 3 (V.int 1),mv 4 5]) (.cond (.t 4) (Qa [2] (.reg [mc 2 (V.int 18)]) .ret) (Qa [3,6] (.reg [bc 7 .eql 3 (V.int 2),mv 6 7]) (.cond (.t 6) (Qa [2] (.reg [mc 2 (V.int 60)]) .ret) (Qa [3,8] (Qa [3,8] (.reg [bc 9 .eql 3 (V.int 3),mv 8 9]) (.cond (.t 8) .skip (Qa [3,8] (.reg [bc 10 .eql 3 (V.int 8),mv 8 10]) (.cond (.t 8) .skip (.reg [bc 11 .eql 3 (V.int 21),mv 8 11]))))) (.cond (.t 8) (Qa [2] (.reg [mc 2 (V.int 128)]) .ret) (Qa [3,12] (.reg [bc 13 .eql 3 (V.int 4),mv 12 13]) (.cond (.t 12) (Qa [2] (.reg [mc 2 (V.int 192)]) .ret) (Qa [3,14] (Qa [3,14] (.reg [bc 15 .eql 3 (V.int 18),mv 14 15]) (.cond (.t 14) .skip (.reg [bc 16 .eql 3 (V.int 22),mv 14 16]))) (.cond (.t 14) (Qa [2] (.reg [mc 2 (V.int 256)]) .ret) (Qa [3,17] (.reg [bc 18 .eql 3 (V.int 19),mv 17 18]) (.cond (.t 17) (Qa [2] (.reg [mc 2 (V.int 64)]) .ret) (Qa [19] (.reg [bc 20 .eql 3 (V.int 20),mv 19 20]) (.cond (.t 19) (Qa [2] (.reg [mc 2 (V.int 80)]) .ret) .skip)))))))))))))))) (Qa [2] (.reg [mc 2 (V.int 0)]) .ret)) def r_ref02_single:List Jl:=[.tmp 2]
def vg (Γ:Env) (f:Nat):Prop:=∀ (a:Int),EvN Γ f [V.int a] (V.int (afD a))
theorem akW {Γ:Env} {f:Nat} (h:Has Γ.P f 21 aaF r_ref02_single) :vg Γ f:=by
 intro a
 refine Qe h zsi zcl zcl fun C hC hm=>?_
 subst hC
 unfold aaF
 refine zgo ?_;repeat' first|exact zt|apply zan|intro hc
 all_goals (refine Qn _ rfl ?_;simp only [go_sem];simp [afD, *])
def wH:AC:=Qa [0] (.reg [mc 2 (V.int 0)]) (Qa [] (.block 0 (Qa [0,3] (.reg [mv 4 0,bc 5 .lss 4 (V.int 512),mv 6 5,mg 7 0 6 false,xg 8 (.bin .gtr (.t 7) (.c (V.int 16384))) 6 false,xo 9 (.pick (.t 6) (.c (V.bool true)) (.t 8)),mv 3 9]) (.cond (.t 3) (Qa [2] (.reg [mc 2 (V.int 0)]) .ret) (Qa [0,10] (.reg [mv 11 0,bc 12 .lss 11 (V.int 1024),mv 10 12]) (.cond (.t 10) (Qa [2] (.reg [mc 2 (V.int 56)]) .ret) (Qa [0,13] (.reg [mv 14 0,bc 15 .lss 14 (V.int 2048),mv 13 15]) (.cond (.t 13) (Qa [2] (.reg [mc 2 (V.int 80)]) .ret) (Qa [0,16] (.reg [mv 17 0,bc 18 .lss 17 (V.int 3072),mv 16 18]) (.cond (.t 16) (Qa [2] (.reg [mc 2 (V.int 112)]) .ret) (Qa [0,19] (.reg [mv 20 0,bc 21 .lss 20 (V.int 7680),mv 19 21]) (.cond (.t 19) (Qa [2] (.reg [mc 2 (V.int 128)]) .ret) (Qa [22] (.reg [mv 23 0,bc 24 .lss 23 (V.int 15360),mv 22 24]) (.cond (.t 22) (Qa [2] (.reg [mc 2 (V.int 192)]) .ret) .skip))))))))))))) (Qa [2] (.reg [mc 2 (V.int 256)]) .ret)) def r_ref02_modulus:List Jl:=[.tmp 2]
def yN (Γ:Env) (f:Nat):Prop:=∀ (b:Int),EvN Γ f [V.int b] (V.int (axX b))
theorem ajG {Γ:Env} {f:Nat} (h:Has Γ.P f 25 wH r_ref02_modulus) :yN Γ f:=by
 intro b
 refine Qe h zsi zcl zcl fun C hC hm=>?_
 subst hC
 unfold wH
 refine zgo ?_;repeat' first|exact zt|apply zan|intro hc
 all_goals (refine Qn _ rfl ?_;simp only [go_sem];simp only [axX,apC,apZ];repeat' split)<;>omega
def abG (a b:Int):Int :=
 if a = 5∨a = 6∨a = 10∨a = 11 then axX b
 else if a = 7∨a = 12 then (if b = 160∨b = 224∨b = 256∨b = 384∨b = 521 then IntKind.i64.wrap (b.tdiv 2) else 0)
 else if a = 9 then wU b [44,65,87] [128,192,256]
 else if a = 13 then wU b [512,768,1024] [128,192,256]
 else if a = 14 then wU b [40,128] [40,60]
 else if a = 15 then wU b [112,168] [80,112]
 else if a = 16∨a = 17 then wU b [128,256] [128,256]
 else wU b [0] [afD a]
theorem ars (a:Int) (ha:¬ (1≤a∧a≤22)):afD a = 0:=by
 simp only [afD];repeat' split
 all_goals omega
theorem aly (a b:Int):abG a b = Jr a b:=by
 by_cases ha:1≤a∧a≤22
 ·rcases (by omega:a = 1∨a = 2∨a = 3∨a = 4∨a = 5∨a = 6∨a = 7∨a = 8∨a = 9∨a = 10∨a = 11∨a = 12∨a = 13∨a = 14∨a = 15∨a = 16∨a = 17∨a = 18∨a = 19∨a = 20∨a = 21∨a = 22) with rfl|rfl|rfl|rfl|rfl|rfl|rfl|rfl|rfl|rfl|rfl|rfl|rfl|rfl|rfl|rfl|rfl|rfl|rfl|rfl|rfl|rfl
  all_goals simp [abG,Jr,j0,Jk,Y5,wU,afD,VX,axX]
  all_goals (repeat' split)<;>first|omega|rfl|simp_all
 ·have hs:=ars a ha
  rw [Jr,j0,if_pos (by simp [ha])]
  simp only [abG]
  rw [if_neg (by omega),if_neg (by omega),if_neg (by omega),if_neg (by omega),if_neg (by omega),if_neg (by omega),if_neg (by omega),hs]
  simp [wU]
def yu (K8 XC jL:Nat):AC:=Qa [1] (.reg [xo 1 (.box true 2 (.t 0)),mc 2 (V.int 0)]) (Qa [1,3] (.reg [fa 4 1 1,ld 5 1 4,mv 3 5]) (Qa [1,3] (Qa [1,3,7] (.reg [fa 6 0 1,ld 7 1 6]) (.block 0 (Qa [1,3,7,8] (Qa [1,3,7,8] (.reg [bc 9 .eql 7 (V.int 5),mv 8 9]) (.cond (.t 8) .skip (Qa [1,3,7,8] (.reg [bc 10 .eql 7 (V.int 6),mv 8 10]) (.cond (.t 8) .skip (Qa [1,3,7,8] (.reg [bc 11 .eql 7 (V.int 10),mv 8 11]) (.cond (.t 8) .skip (.reg [bc 12 .eql 7 (V.int 11),mv 8 12]))))))) (.cond (.t 8) (Qa [2] (.reg [mv 13 3,cl 14 K8 [13],mv 2 14]) .ret) (Qa [1,3,7,15] (Qa [1,3,7,15] (.reg [bc 16 .eql 7 (V.int 7),mv 15 16]) (.cond (.t 15) .skip (.reg [bc 17 .eql 7 (V.int 12),mv 15 17]))) (.cond (.t 15) (Qa [] (Qa [3,35] (.reg [mv 18 3,bc 19 .eql 18 (V.int 160),mv 20 19,mg 21 3 20 false,xg 22 (.bin .eql (.t 21) (.c (V.int 224))) 20 false,xo 23 (.pick (.t 20) (.c (V.bool true)) (.t 22)),mv 24 23,mg 25 3 24 false,xg 26 (.bin .eql (.t 25) (.c (V.int 256))) 24 false,xo 27 (.pick (.t 24) (.c (V.bool true)) (.t 26)),mv 28 27,mg 29 3 28 false,xg 30 (.bin .eql (.t 29) (.c (V.int 384))) 28 false,xo 31 (.pick (.t 28) (.c (V.bool true)) (.t 30)),mv 32 31,mg 33 3 32 false,xg 34 (.bin .eql (.t 33) (.c (V.int 521))) 32 false,xo 35 (.pick (.t 32) (.c (V.bool true)) (.t 34))]) (.cond (.t 35) (Qa [2] (.reg [mv 36 3,bc 37 .quo 36 (V.int 2),mv 2 37]) .ret) .skip)) (Qa [2] (.reg [mc 2 (V.int 0)]) .ret)) (Qa [1,3,7,38] (.reg [bc 39 .eql 7 (V.int 9),mv 38 39]) (.cond (.t 38) (Qa [2] (.reg [mv 40 3,xo 41 (.bslice 3 1 false [vi0] [(0,(.c (V.int 44))),(1,(.c (V.int 65))),(2,(.c (V.int 87)))]),xo 42 (.bslice 3 1 false [vi0] [(0,(.c (V.int 128))),(1,(.c (V.int 192))),(2,(.c (V.int 256)))]),cl 43 XC [40,41,42],mv 2 43]) .ret) (Qa [1,3,7,44] (.reg [bc 45 .eql 7 (V.int 13),mv 44 45]) (.cond (.t 44) (Qa [2] (.reg [mv 46 3,xo 47 (.bslice 3 1 false [vi0] [(0,(.c (V.int 512))),(1,(.c (V.int 768))),(2,(.c (V.int 1024)))]),xo 48 (.bslice 3 1 false [vi0] [(0,(.c (V.int 128))),(1,(.c (V.int 192))),(2,(.c (V.int 256)))]),cl 49 XC [46,47,48],mv 2 49]) .ret) (Qa [1,3,7,50] (.reg [bc 51 .eql 7 (V.int 14),mv 50 51]) (.cond (.t 50) (Qa [2] (.reg [mv 52 3,xo 53 (.bslice 2 1 false [vi0] [(0,(.c (V.int 40))),(1,(.c (V.int 128)))]),xo 54 (.bslice 2 1 false [vi0] [(0,(.c (V.int 40))),(1,(.c (V.int 60)))]),cl 55 XC [52,53,54],mv 2 55]) .ret) (Qa [1,3,7,56] (.reg [bc 57 .eql 7 (V.int 15),mv 56 57]) (.cond (.t 56) (Qa [2] (.reg [mv 58 3,xo 59 (.bslice 2 1 false [vi0] [(0,(.c (V.int 112))),(1,(.c (V.int 168)))]),xo 60 (.bslice 2 1 false [vi0] [(0,(.c (V.int 80))),(1,(.c (V.int 112)))]),cl 61 XC [58,59,60],mv 2 61]) .ret) (Qa [1,3,62] (Qa [1,3,7,62] (.reg [bc 63 .eql 7 (V.int 16),mv 62 63]) (.cond (.t 62) .skip (.reg [bc 64 .eql 7 (V.int 17),mv 62 64]))) (.cond (.t 62) (Qa [2] (.reg [mv 65 3,xo 66 (.bslice 2 1 false [vi0] [(0,(.c (V.int 128))),(1,(.c (V.int 256)))]),xo 67 (.bslice 2 1 false [vi0] [(0,(.c (V.int 128))),(1,(.c (V.int 256)))]),cl 68 XC [65,66,67],mv 2 68]) .ret) .skip)))))))))))))))) (Qa [2] (.reg [mv 69 3,xo 70 (.bslice 1 1 false [vi0] [(0,(.c (V.int 0)))]),fa 71 0 1,ld 72 1 71,cl 73 jL [72],xo 74 (.bslice 1 1 false [vi0] [(0,(.t 73))]),cl 75 XC [69,70,74],mv 2 75]) .ret))) def r_ref02_Strength:List Jl:=[.tmp 2]
def Uc (Γ:Env) (f:Nat):Prop:=∀ (a b:Int),EvN Γ f [.agg [V.int a,V.int b]] (V.int (Jr a b))
theorem aiz {Γ:Env} {f K8 XC jL:Nat} (h:Has Γ.P f 76 (yu K8 XC jL) r_ref02_Strength) (z0:yN Γ K8) (z1:aa0 Γ XC) (z2:vg Γ jL):Uc Γ f:=by
 intro a b
 refine Qe h zsi zcl zcl fun C hC hm=>?_
 subst hC
 unfold yu
 rw [← aly]
 have k1:=z1 b [44,65,87] [128,192,256] (by simp) (by simp)
 have k2:=z1 b [512,768,1024] [128,192,256] (by simp) (by simp)
 have k3:=z1 b [40,128] [40,60] (by simp) (by simp)
 have k4:=z1 b [112,168] [80,112] (by simp) (by simp)
 have k5:=z1 b [128,256] [128,256] (by simp) (by simp)
 have k6:=z1 b [0] [afD a] (by simp) (by simp)
 (have zy0:=k1.b;have zy1:=k2.b;have zy2:=k3.b;have zy3:=k4.b;have zy4:=k5.b;have zy5:=k6.b);refine zgo ?_;repeat' first|exact zt|apply zan|intro hc
 all_goals (refine Qn _ rfl ?_;simp only [go_sem];simp [abG, *])
def ab8 (Ys:Nat):AC:=Qa [1] (.reg [xo 1 (.box true 2 (.t 0)),mc 2 (V.bool false)]) (Qa [2] (.reg [xo 3 (.load true 2 (.t 1)),cl 4 Ys [3],bc 5 .gtr 4 (V.int 0),mv 2 5]) .ret) def r_ref02_Valid:List Jl:=[.tmp 2]
def jT (Γ:Env) (f:Nat):Prop:=∀ (a b:Int),EvN Γ f [.agg [V.int a,V.int b]] (V.bool (decide (Jr a b > 0)))
theorem al1 {Γ:Env} {f Ys:Nat} (h:Has Γ.P f 6 (ab8 Ys) r_ref02_Valid) (z0:Uc Γ Ys):jT Γ f:=by
 intro a b
 refine Qe h zsi zcl zcl fun C hC hm=>?_
 subst hC
 unfold ab8
 refine zgo ?_;repeat' first|exact zt|apply zan|intro hc
 refine Qn _ rfl ?_;simp only [go_sem]
theorem arX {n:Int} (h0:0≤n) (h1:n < 10):Lib.itoa n = [UInt8.ofNat (48 + n.toNat)]:=by
 rw [Lib.itoa,if_neg (by omega),Lib.decDigits_one (by omega)]
theorem auU {n:Int} (h1:10≤n):Lib.itoa n = Lib.itoa (n / 10)++[UInt8.ofNat (48 + (n % 10).toNat)]:=by
 have e:(n / 10).toNat = n.toNat / 10:=by omega
 have e2:(n % 10).toNat = n.toNat % 10:=by omega
 rw [Lib.itoa,if_neg (by omega),Lib.itoa,if_neg (by omega),Lib.decDigits,dif_neg (by omega),e,e2]
theorem aqY {d:Int} (h0:0≤d) (h1:d < 10):IntKind.u8.wrap (IntKind.i64.wrap (48 + d)) = 48 + d:=by
 rcases (by omega:d = 0∨d = 1∨d = 2∨d = 3∨d = 4∨d = 5∨d = 6∨d = 7∨d = 8∨d = 9) with rfl|rfl|rfl|rfl|rfl|rfl|rfl|rfl|rfl|rfl<;>rfl
theorem atO {d:Int} (h0:0≤d) (h1:d < 10):V.sc (.int .u8 (48 + d)) = V.sc (.int .u8 ((UInt8.ofNat (48 + d.toNat)).toNat)):=by
 rcases (by omega:d = 0∨d = 1∨d = 2∨d = 3∨d = 4∨d = 5∨d = 6∨d = 7∨d = 8∨d = 9) with rfl|rfl|rfl|rfl|rfl|rfl|rfl|rfl|rfl|rfl<;>rfl
theorem atd (c:UInt8):(∃ l:List UInt8,[V.sc (.int .u8 c.toNat)] = l.map fun c=>.sc (.int .u8 c.toNat)) = True:=by
 simp only [eq_iff_iff,iff_true];exact ⟨[c],rfl⟩
theorem asn (c:UInt8):aq5 (.sc (.int .u8 c.toNat)) = c:=by simp [aq5]
def abb (QE:Nat):List AO:=[mv 10 0,bc 11 .quo 10 (V.int 10),cl 12 QE [11],mv 13 0,bc 14 .rem 13 (V.int 10),xo 15 (.bin .add (.c (V.int 48)) (.t 14)),xo 16 (.convI .u8 (.t 15)),xo 17 (.bslice 1 1 false [(.int .u8 0)] [(0,(.t 16))]),xo 18 (.convBS (.t 17)),bn 19 .add 12 18,mv 2 19]
def abp:List (List Nat):=[[],[0],[1],[],[3],[4],[5],[6],[7],[2,8],[9,2,0,1,2,3,4,5,6,7,8,9]]
def aa6:OT:=.one 0 (.one 1 (.one 2 (.one 3 (.one 4 (.one 5 (.one 6 (.one 7 (.one 8 (.one 9 (.one 10 .done))))))))))
@[go_sem] def aa9 (QE:Nat):OP:=oN 0 (mv 10 0) (oN 1 (bc 11 .quo 10 (V.int 10)) (oN 2 (cl 12 QE [11]) (oN 3 (mv 13 0) (oN 4 (bc 14 .rem 13 (V.int 10)) (oN 5 (xo 15 (.bin .add (.c (V.int 48)) (.t 14))) (oN 6 (xo 16 (.convI .u8 (.t 15))) (oN 7 (xo 17 (.bslice 1 1 false [(.int .u8 0)] [(0,(.t 16))])) (.one 8 false [7] (xo 18 (.convBS (.t 17))) (oN 9 (bn 19 .add 12 18) (oN 10 (mv 2 19) .done))))))))))
instance (QE:Nat):RG [] aa6 (aa9 QE) (abb QE) abp 11 (fun _=>true):=⟨rfl,by kernel_rfl,by kernel_rfl⟩
def wI (QE:Nat):AC:=Qa [0] (.reg [mc 2 (V.str [])]) (Qa [0] (Qa [0,4] (.reg [mv 3 0,bc 4 .lss 3 (V.int 10)]) (.cond (.t 4) (Qa [2] (.reg [mv 5 0,xo 6 (.bin .add (.c (V.int 48)) (.t 5)),xo 7 (.convI .u8 (.t 6)),xo 8 (.bslice 1 1 false [(.int .u8 0)] [(0,(.t 7))]),xo 9 (.convBS (.t 8)),mv 2 9]) .ret) .skip)) (Qa [2] (yh [] aa6 (aa9 QE) (abb QE) abp) .ret)) def r_ref02_Decimal:List Jl:=[.tmp 2]
def yO (Γ:Env) (f:Nat):Prop:=∀ (n:Int) (h0:0≤n) (h1:n≤9223372036854775807),EvN Γ f [V.int n] (V.str (Lib.itoa n))
attribute [local go_sem] asn atd in
theorem ajH {Γ:Env} {f:Nat} (h:Has Γ.P f 20 (wI f) r_ref02_Decimal) :yO Γ f:=by
 suffices H:∀ (kk:Nat),∀ (n:Int) (h0:0≤n) (h1:n≤9223372036854775807),n.toNat < kk→EvN Γ f [V.int n] (V.str (Lib.itoa n)) from fun n h0 h1=>H _ n h0 h1 (Nat.lt_succ_self _)
 intro kk;induction kk with
 | zero=>intros;rename_i hk;exact absurd hk (Nat.not_lt_zero _)
 | succ kk ih =>
 intro n h0 h1 hk
 refine Qe h zsi zcl zcl fun C hC hm=>?_
 subst hC
 unfold wI
 by_cases hn:n < 10
 ·have e1:=aqY h0 hn
  have e2:=atO h0 hn
  have e3:=arX h0 hn
  have e4:decide (n < 10) = true:=by simp [hn]
  (have zx:=And.intro e1 (And.intro e2 e4));refine zgo ?_;repeat' first|exact zt|apply zan|intro hc
  all_goals first|(refine Qn _ rfl ?_;simp only [go_sem];done)|(refine Qn _ rfl ?_;simp only [go_sem];simp [e3, *];done)|(subst hc;refine Qn _ rfl ?_;simp only [go_sem];simp [e3, *];done)
 ·have e0:n.tdiv 10 = n / 10:=by rw [Int.tdiv_eq_ediv_of_nonneg h0]
  have e00:n.tmod 10 = n % 10:=by rw [Int.tmod_eq_emod_of_nonneg h0]
  have e1:=aqY (d:=n % 10) (by omega) (by omega)
  have e2:=atO (d:=n % 10) (by omega) (by omega)
  have e3:=auU (n:=n) (by omega)
  have e4:decide (n < 10) = false:=by simp [hn]
  have e5:IntKind.i64.wrap (n / 10) = n / 10:=Yv (by omega) (by omega)
  have hl:=Lib.itoa_length_le (n / 10) (by omega) (by omega)
  (have zx:=And.intro e0 (And.intro e00 (And.intro e1 (And.intro e2 (And.intro e4 e5)))));refine zgo ?_;repeat' first|exact zt|apply zan|intro hc
  all_goals first|(refine Qn _ rfl ?_;simp only [go_sem];done)|(refine Qn _ rfl ?_;simp only [go_sem];simp [e3, *];done)|(subst hc;refine Qn _ rfl ?_;simp only [go_sem];simp [e3, *];done)
end Av
end

/- K10 -/
import Derived.Test.YtddmiolapkhaoaaGreatDoorK9
import Derived.Lib.ItoaLen
import Derived.Lib.IndexMore
import Derived.Lib.AtoiAll
set_option linter.unusedVariables false
set_option linter.unusedSimpArgs false
section
set_option maxRecDepth 10000
set_option maxHeartbeats 4000000
namespace Av
open Go
attribute [local irreducible] AWp U3 abh acE awS awC ajc awQ ajv Jo jG aiB awR yv awB okR ad1 ris
def KD (Γ:Env) (f:Nat):Prop:=∀ (n:Int) (h0:-9223372036854775808≤n) (h1:n≤9223372036854775807),EvN Γ f [V.int n] (V.str (Lib.itoa n))
def ads (Vk:Nat):AC:=Qb [1] (.reg [xo 1 (.box true 2 (.t 0)),mc 2 (V.bool false)]) (Qb [2] (.reg [xo 3 (.load true 2 (.t 1)),cl 4 Vk [3],bc 5 .gtr 4 (V.int 0),mv 2 5]) .ret) def bI:List Q0:=[.tmp 2]
def Ut (Γ:Env) (f:Nat):Prop:=∀ (a b:Int),EvN Γ f [.agg [V.int a,V.int b]] (V.bool (decide (Q4 a b > 0)))
theorem ai6 {Γ:Env} {f Vk:Nat} (h:Has Γ.P f 6 (ads Vk) bI) (z0:UP Γ Vk):Ut Γ f:=by
 intro a b
 refine Qc h zsi zcl zcl fun C hC hm=>?_
 subst hC
 unfold ads
 refine zgo ?_;repeat' first|exact zt|apply zan|intro hc
 refine Qr _ rfl ?_;simp only [go_sem]
theorem akc (x:Int):∀ (l:List Int) (k:Nat),0≤vC x k l→x∈l
 | [],k,h=>by simp [vC] at h
 | y :: r,k,h=>by
   unfold vC at h
   split at h
   ·rename_i e;simp [e]
   ·exact kJ _ (akc x r (k + 1) h)
theorem asG (a:Int):∀ x∈(X7 a).sizes,0≤x∧x≤16384:=by
 have h:∀ r∈K4,∀ x∈r.sizes,0≤x∧x≤16384:=by decide
 unfold X7
 split
 ·rename_i ha
  have hk:a.toNat < K4.length:=by have:K4.length = 23:=rfl;omega
  rw [zB,zb hk,Option.getD_some]
  exact h _ (zT hk)
 ·simp [aqS]
theorem akB (a:Int):(X7 a).name.length≤10:=by
 have h:∀ r∈K4,r.name.length≤10:=by decide
 unfold X7
 split
 ·rename_i ha
  have hk:a.toNat < K4.length:=by have:K4.length = 23:=rfl;omega
  rw [zB,zb hk,Option.getD_some]
  exact h _ (zT hk)
 ·simp [aqS]
theorem abk (a b:Int) (h:0 < Q4 a b):0≤b∧b≤16384:=by
 simp only [Q4,qX] at h
 split at h
 ·omega
 ·split at h
  ·split at h<;>omega
  ·split at h
   ·split at h<;>omega
   ·split at h
    ·split at h
     ·rename_i hf
      have:=akc _ _ _ hf
      simp at this;omega
     ·omega
    ·split at h
     ·split at h
      ·rename_i hf
       exact asG a b (akc _ _ _ hf)
      ·omega
     ·omega
def jr (a b:Int):List UInt8:=if Q4 a b > 0 then (if b = 0 then (X7 a).name else (X7 a).name++[45]++Lib.itoa b) else []
def acv:List (List Nat):=[[],[0],[1],[2],[],[4],[5,2],[3,6],[7,6,0,1,2,3,4,5,6,7]]
def ab1:OT:=och 0 9
@[go_sem] def jC (Js Qj:Nat):OP:=oN 0 (fa 14 0 1) (oN 1 (ld 15 1 14) (oN 2 (cl 16 Js [15]) (oN 3 (bc 17 .add 16 (V.str [45])) (oN 4 (fa 18 1 1) (oN 5 (ld 19 1 18) (oN 6 (cl 20 Qj [19]) (oN 7 (bn 21 .add 17 20) (oN 8 (mv 2 21) .done))))))))
def ab9 (Js Qj:Nat):List AO:=aoO (jC Js Qj)
instance (Js Qj:Nat):RG [] ab1 (jC Js Qj) (ab9 Js Qj) acv 9 (fun _=>true):=⟨rfl,by kernel_rfl,by kernel_rfl⟩
def aeP (Yd Js Qj:Nat):AC:=Qb [1] (.reg [xo 1 (.box true 2 (.t 0)),mc 2 (V.str [])]) (Qb [1] (.block 0 (Qb [1,3] (.reg [xo 4 (.load true 2 (.t 1)),cl 5 Yd [4],xo 6 (.un .not (.t 5)),mv 3 6]) (.cond (.t 3) (Qb [2] (.reg [mc 2 (V.str [])]) .ret) (Qb [1,7] (.reg [fa 8 1 1,ld 9 1 8,bc 10 .eql 9 (V.int 0),mv 7 10]) (.cond (.t 7) (Qb [2] (.reg [fa 11 0 1,ld 12 1 11,cl 13 Js [12],mv 2 13]) .ret) .skip))))) (Qb [2] (VD [] ab1 (jC Js Qj) (ab9 Js Qj) acv) .ret)) def bJ:List Q0:=[.tmp 2]
def xK (Γ:Env) (f:Nat):Prop:=∀ (a b:Int),EvN Γ f [.agg [V.int a,V.int b]] (V.str (jr a b))
theorem akp {Γ:Env} {f Yd Js Qj:Nat} (h:Has Γ.P f 22 (aeP Yd Js Qj) bJ) (z0:Ut Γ Yd) (z1:xL Γ Js) (z2:KD Γ Qj):xK Γ f:=by
 intro a b
 refine Qc h zsi zcl zcl fun C hC hm=>?_
 subst hC
 unfold aeP
 have hn:=akB a
 by_cases hv:0 < Q4 a b
 ·have hb:=abk a b hv
  have hi:=Lib.itoa_length_le b (by omega) (by omega)
  refine zgo ?_;repeat' first|exact zt|apply zan|intro hc
  all_goals first|(refine Qr _ rfl ?_;simp only [go_sem];done)|(refine Qr _ rfl ?_;simp only [go_sem];simp [jr, *];done)|(subst hc;refine Qr _ rfl ?_;simp only [go_sem];simp [jr, *];done)
 ·refine zgo ?_;repeat' first|exact zt|apply zan|intro hc
  all_goals first|(refine Qr _ rfl ?_;simp only [go_sem];done)|(refine Qr _ rfl ?_;simp only [go_sem];simp [jr, *];done)|(subst hc;refine Qr _ rfl ?_;simp only [go_sem];simp [jr, *];done)
def aqd (name:List UInt8):Nat→List ajw→Int
 | _,[]=>0
 | k,r :: rs=>if 0 < k∧r.name = name then k else aqd name (k + 1) rs
def agM:AC:=Qb [0,1,4] (.reg [xo 4 (.alloc [.val vi0,.val vi0])]) (Qb [4] (.reg [mv 5 0,mv 6 1,xo 7 (.build [vi0,vi0] [(0,1,(.t 5)),(1,1,(.t 6))]),xs 2 4 7]) .ret) def bK:List Q0:=[.cell 4 true 2]
def vZ (Γ:Env) (f:Nat):Prop:=∀ (a b:Int),EvN Γ f [V.int a,V.int b] (.agg [V.int a,V.int b])
theorem alt {Γ:Env} {f:Nat} (h:Has Γ.P f 8 agM bK) :vZ Γ f:=by
 intro a b
 refine Qc h zsi zcl zcl fun C hC hm=>?_
 subst hC
 unfold agM
 refine zgo ?_;repeat' first|exact zt|apply zan|intro hc
 refine Qr _ rfl ?_;simp only [go_sem]
end Av
end

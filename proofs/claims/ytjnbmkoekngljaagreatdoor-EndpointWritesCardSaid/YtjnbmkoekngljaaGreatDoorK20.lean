/- K20 -/
import Derived.Test.YtjnbmkoekngljaaGreatDoorK19
set_option linter.unusedVariables false
set_option linter.unusedSimpArgs false
section
set_option maxRecDepth 10000
set_option maxHeartbeats 4000000
namespace Av
open Go
attribute [local irreducible] AWp x8 adc afE awS awC am1 awQ anX Yf abo ama awR acg awB okR agS ris
structure QI where
 kalg:Int
 kbits:Int
 kid:Int
 chain:List Qw
def QI.cells (x:QI):List V:=[V.int x.kalg,V.int x.kbits,V.int x.kid,.sl 15 (x.chain.map Qw.v)]
def QI.v (x:QI):V:=.agg x.cells
structure QI.Sm (x:QI):Prop where
 hl:x.chain.length < 2 ^ 60
 hc:∀ c∈x.chain,c.Sm
structure QL where
 name:List UInt8
 least:Int
 most:Int
 suites:List Int
 own:Bool
 idents:List QI
 anchors:List Int
 hashes:List Int
 fall:Bool
def QL.cells (e:QL):List V:=[V.str e.name,V.int e.least,V.int e.most,.sl 1 (e.suites.map V.int),V.bool e.own,.sl 4 (e.idents.map QI.v),.sl 1 (e.anchors.map V.int),.sl 1 (e.hashes.map V.int),V.bool e.fall]
def QL.v (e:QL):V:=.agg e.cells
structure QL.Sm (e:QL):Prop where
 hn:e.name.length < 2 ^ 30
 hs:e.suites.length < 2 ^ 30
 hi:e.idents.length < 2 ^ 30
 hx:∀ x∈e.idents,x.Sm
 ha:e.anchors.length < 2 ^ 30
 hh:e.hashes.length < 2 ^ 30
def ltI (a b:Int):Bool:=decide (a < b)
def yes {α:Type} (_:α):Bool:=true
def WY (l:List Int):Bool:=(!l.any aeY) && decide l.Nodup
def aue (l:List Int):Bool:=okP yes ltI l l.length
def afN (n:Int):Bool:=(Jk n).kind == 1
def QI.ok (x:QI):Bool:=yi x.kalg x.kbits x.kid x.chain
def apF (e:QL):Bool:=aby e.name && (decide (e.least≥1) && (decide (e.least≤e.most) && (decide (e.most≤4) && WY e.suites)))
def anS (e:QL):Bool:=decide ((e.idents.length:Int)≤4) && (decide ((e.anchors.length:Int)≤16) && (aue e.anchors && aue e.hashes))
def axC (e:QL):Bool:=e.idents.all QI.ok
def apE (e:QL):Bool:=e.anchors.all aeH && e.hashes.all afN
def JS (e:QL):Bool:=apF e && (anS e && (axC e && apE e))
theorem akc {l:List Int} {x:Int} (h:x∈l) (hx:aeY x = true):WY l = false:=by
 have:l.any aeY = true:=List.any_eq_true.2 ⟨x,h,hx⟩
 simp [WY,this]
theorem agN {l:List Int} (h:¬ l.Nodup):WY l = false:=by simp [WY,h]
def jm (Jv Qd:Nat):AC:=Qa [0] (.reg [mc 2 (V.bool false)]) (Qa [] (Qa [0,7,8,9] (.reg [mv 7 0,ln 8 7,mc 9 (V.int 0)]) (.block 0 (JH [0,7,8,9] (Qa [0,7,8,9,10] (.reg [bn 10 .lss 9 8]) (Qa [0,7,8,9] (.cond (.t 10) .skip (.exit 0)) (Qa [0,7,8,9] (.block 1 (Qa [0,3,4,7,8,9] (.reg [mv 11 9,ia 12 1 7 9,ld 13 1 12,mv 3 11,mv 4 13]) (Qa [0,3,4,6,7,8,9] (.reg [mv 15 4,cl 16 Jv [15],mv 14 16,ex 17 14 0,ex 18 14 1,xo 5 (.alloc [.val vi0,.val vs0,.val vi0,.val vi0,.val vi0,.val vi0,.val vi0,.val vi0,.val vi0,.val vi0,.val vi0,.val vi0]),xs 12 5 17,mv 6 18]) (Qa [0,7,8,9,27] (.reg [mv 19 6,bc 20 .neq 19 (V.int 0),mv 21 20,mg 22 0 21 false,mg 23 3 21 false,xg 24 (.slsl 1 (.t 22) none (some (.t 23))) 21 false,mg 25 4 21 false,xg 26 (.call Qd [(.t 24),(.t 25)]) 21 false,xo 27 (.pick (.t 21) (.c (V.bool true)) (.t 26))]) (.cond (.t 27) (Qa [2] (.reg [mc 2 (V.bool false)]) .ret) .skip))))) (.reg [bc 28 .add 9 (V.int 1),mv 9 28]))))))) (Qa [2] (.reg [mc 2 (V.bool true)]) .ret)) def r_endpoint_suites:List Jl:=[.tmp 2]
def qF (Γ:Env) (f:Nat):Prop:=∀ (l:List Int) (hl:l.length < 2 ^ 30),EvN Γ f [.sl 1 (l.map V.int)] (V.bool (WY l))
theorem ahw {Γ:Env} {f Jv Qd:Nat} (h:Has Γ.P f 29 (jm Jv Qd) r_endpoint_suites) (z0:Vl Γ Jv) (z1:Q1 Γ Qd):qF Γ f:=by
 intro l hl
 refine Qe h zsi zcl zcl fun C hC hm=>?_
 subst hC
 unfold jm
 refine zgo ?_;repeat' first|exact zt|apply zan|intro hc
 refine QP (ι:=Nat) (fun k=>k≤l.length∧(l.take k).any aeY = false∧(l.take k).Nodup) (fun k=>[(9,V.int k)]) (fun k=>l.length - k) 0 (by omega) ⟨Nat.zero_le _,rfl,List.nodup_nil⟩ (by repeat' first|exact Q8|refine JD (by omega) (by simp only [Ob.lt,ltL,V.lt,and_self,and_true];try omega) ?_) (fun i hi=>by simp only [ovT,Ji,Nat.reduceEqDiff,reduceIte];(repeat' first|exact JC|refine Q7 ?_ ?_|simp only [V.lt,ltL,and_self,and_true]|omega)) zet fun k hk K' hL=>?_
 obtain ⟨hk,hg,hnd⟩:=hk
 simp only [ovT,Ji,Nat.reduceEqDiff,reduceIte]
 rcases hd:l.drop k with _|⟨x,r⟩
 ·have hkl:=Qs hd
  have e1:decide ((k:Int) < (((l.map V.int).length:Nat):Int)) = false:=by simp;omega
  rw [List.take_of_length_le hkl] at hg hnd
  have hf:WY l = true:=by simp [WY,hg,hnd]
  rw [hf]
  (have zx:=e1);exact zg
 ·obtain ⟨hk',hget,hr⟩:=Ql hd
  have hw:=Qj (k:=k) (by omega)
  have e1:decide ((k:Int) < (((l.map V.int).length:Nat):Int)) = true:=by simp;omega
  have hsu:=(z0 x).b
  have hA:List.take (k - 0) (l.map V.int) = (l.take k).map V.int:=by rw [Nat.sub_zero,List.map_take]
  have hc1:=(z1 (l.take k) x (by rw [List.length_take];omega)).b
  have hfi:=wA x (l.take k) 0
  by_cases hx:1≤x∧x≤16
  ·have hsv:Xo x = .tup [(Yd x).v,V.int 0]:=by rw [Xo,if_pos hx]
   rw [hsv] at hsu
   simp only [QG.v,QG.cells] at hsu
   by_cases hin:x∈l.take k
   ·rw [decide_eq_true (hfi.2 hin)] at hc1
    rw [agN fun h=>adx h hget hin]
    (have zx:=And.intro e1 (And.intro hw (And.intro hget hA)));exact zg
   ·rw [decide_eq_false (fun h=>hin (hfi.1 h))] at hc1
    have hg2:(l.take (k + 1)).any aeY = false:=by
     rw [List.take_add_one,hget,List.any_append,hg];simp [aeY];omega
    have hnd2:(l.take (k + 1)).Nodup:=by
     rw [List.take_add_one,hget]
     exact List.nodup_append.2 ⟨hnd,by simp,fun a ha b hb e=>by simp at hb;subst hb;subst e;exact hin ha⟩
    (have zx:=And.intro e1 (And.intro hw (And.intro hget hA)));refine zgo ?_;repeat' first|exact zt|apply zan|intro hc
    all_goals first|exact hL _ (k + 1) zet ⟨by omega,hg2,hnd2⟩ (by omega) (fun a ha=>by simp only [u32,u33,u34,u35,u36,u37,u38,u39];repeat rw [if_neg (by omega)])
  ·have hbx:aeY x = true:=by simp [aeY];omega
   rw [akc (List.mem_of_getElem? hget) hbx]
   have hsv:Xo x = .tup [acF.v,V.int 8]:=by rw [Xo,if_neg hx,Yd,if_neg hx]
   rw [hsv] at hsu
   simp only [QG.v,QG.cells,acF] at hsu
   (have zx:=And.intro e1 (And.intro hw (And.intro hget hA)));exact zg
def xn:List AO:=[mv 9 3,bc 10 .gtr 9 (V.int 0),mv 11 10,mg 12 0 11 true,mg 13 3 11 true,xg 14 (.bin .sub (.t 13) (.c (V.int 1))) 11 true,xg 15 (.iaddr 1 (.t 12) (.t 14)) 11 true,xg 16 (.load false 1 (.t 15)) 11 true,mg 17 0 11 true,mg 18 3 11 true,xg 19 (.iaddr 1 (.t 17) (.t 18)) 11 true,xg 20 (.load false 1 (.t 19)) 11 true,xg 21 (.bin .geq (.t 16) (.t 20)) 11 true,xo 22 (.pick (.t 11) (.t 21) (.c (V.bool false)))]
def xy:List (List Nat):=[[],[0],[1],[2],[2],[4,2],[3,5,2],[6,2],[2],[2],[8,9,2],[10,2],[7,11,2],[2,12]]
def y0:OT:=.one 0 (.one 1 (.one 2 (.one 3 (.one 4 (.one 5 (.one 6 (.one 7 (.one 8 (.one 9 (.one 10 (.one 11 (.one 12 (.one 13 .done)))))))))))))
@[go_sem] def xj:OP:=oN 0 (mv 9 3) (oN 1 (bc 10 .gtr 9 (V.int 0)) (oN 2 (mv 11 10) (oN 3 (mg 12 0 11 true) (oN 4 (mg 13 3 11 true) (oN 5 (xg 14 (.bin .sub (.t 13) (.c (V.int 1))) 11 true) (oN 6 (xg 15 (.iaddr 1 (.t 12) (.t 14)) 11 true) (oN 7 (xg 16 (.load false 1 (.t 15)) 11 true) (oN 8 (mg 17 0 11 true) (oN 9 (mg 18 3 11 true) (oN 10 (xg 19 (.iaddr 1 (.t 17) (.t 18)) 11 true) (oN 11 (xg 20 (.load false 1 (.t 19)) 11 true) (oN 12 (xg 21 (.bin .geq (.t 16) (.t 20)) 11 true) (oN 13 (xo 22 (.pick (.t 11) (.t 21) (.c (V.bool false)))) .done)))))))))))))
instance:RG [] y0 (xj) (xn) xy 14 (fun _=>true):=⟨rfl,by kernel_rfl,by kernel_rfl⟩
def qj:AC:=Qa [0] (.reg [mc 2 (V.bool false)]) (Qa [] (Qa [0,5,6] (.reg [mv 4 0,ln 5 4,mc 6 (V.int 0)]) (.block 0 (JH [0,5,6] (Qa [0,5,6,7] (.reg [bn 7 .lss 6 5]) (Qa [0,5,6] (.cond (.t 7) .skip (.exit 0)) (Qa [0,5,6] (.block 1 (Qa [0,3,5,6] (.reg [mv 8 6,mv 3 8]) (Qa [0,5,6,22] (yh [] y0 (xj) (xn) xy) (.cond (.t 22) (Qa [2] (.reg [mc 2 (V.bool false)]) .ret) .skip)))) (.reg [bc 23 .add 6 (V.int 1),mv 6 23]))))))) (Qa [2] (.reg [mc 2 (V.bool true)]) .ret)) def r_endpoint_ascends:List Jl:=[.tmp 2]
def Kr (Γ:Env) (f:Nat):Prop:=∀ (l:List Int) (hl:l.length < 2 ^ 30),EvN Γ f [.sl 1 (l.map V.int)] (V.bool (aue l))
theorem age {Γ:Env} {f:Nat} (h:Has Γ.P f 24 qj r_endpoint_ascends) :Kr Γ f:=by
 intro l hl
 refine Qe h zsi zcl zcl fun C hC hm=>?_
 subst hC
 unfold qj
 have hlm:(l.map V.int).length = l.length:=List.length_map _
 (have zx:=hlm);refine zgo ?_;repeat' first|exact zt|apply zan|intro hc
 refine QP (ι:=Nat) (fun k=>k≤l.length∧okP yes ltI l k = true) (fun k=>[(6,V.int k)]) (fun k=>l.length - k) 0 (by omega) ⟨Nat.zero_le _,rfl⟩ (by repeat' first|exact Q8|refine JD (by omega) (by simp only [Ob.lt,ltL,V.lt,and_self,and_true];try omega) ?_) (fun i hi=>by simp only [ovT,Ji,Nat.reduceEqDiff,reduceIte];(repeat' first|exact JC|refine Q7 ?_ ?_|simp only [V.lt,ltL,and_self,and_true]|omega)) zet fun k hk K' hL=>?_
 obtain ⟨hk,hinv⟩:=hk
 simp only [ovT,Ji,Nat.reduceEqDiff,reduceIte]
 rcases hd:l.drop k with _|⟨x,r⟩
 ·have hkl:=Qs hd
  have e1:decide ((k:Int) < ((l.length:Nat):Int)) = false:=by simp;omega
  have hkk:k = l.length:=by omega
  subst hkk
  rw [show aue l = true from hinv]
  (have zx:=e1);exact zg
 ·obtain ⟨hk',hget,hr⟩:=Ql hd
  have hw:=Qj (k:=k) (by omega)
  have e1:decide ((k:Int) < ((l.length:Nat):Int)) = true:=by simp;omega
  rcases k with _|k
  ·have hw0:IntKind.i64.wrap 1 = ((1:Nat):Int):=by decide
   have hg1:okP yes ltI l (0 + 1) = true:=by rw [akz hget];rfl
   have e2:decide (((0:Nat):Int) > 0) = false:=rfl
   (have zx:=And.intro e1 (And.intro e2 (And.intro hw (And.intro hw0 hget))));refine zgo ?_;repeat' first|exact zt|apply zan|intro hc
   all_goals first|exact hL _ 1 zet ⟨by omega,hg1⟩ (by omega) (fun a ha=>by simp only [u32,u33,u34,u35,u36,u37,u38,u39];repeat rw [if_neg (by omega)])
  ·have e2:decide (((k + 1:Nat):Int) > 0) = true:=decide_eq_true (by omega)
   have hw2:IntKind.i64.wrap (((k + 1:Nat):Int) - 1) = (k:Int):=by rw [Yv (by omega) (by omega)];omega
   obtain ⟨y,hgy⟩:∃ y,l[k]? = some y:=⟨_,List.getElem?_eq_getElem (by omega)⟩
   have hnext:=agV (p:=yes) (q:=ltI) hget hgy
   rw [hinv] at hnext
   by_cases hb:y < x
   ·have e3:decide (y≥x) = false:=decide_eq_false (by omega)
    (have zx:=And.intro e1 (And.intro e2 (And.intro e3 (And.intro hw (And.intro hw2 (And.intro hget hgy))))));refine zgo ?_;repeat' first|exact zt|apply zan|intro hc
    all_goals first|exact hL _ (k + 2) zet ⟨by omega,by rw [hnext];simp [yes,ltI,hb]⟩ (by omega) (fun a ha=>by simp only [u32,u33,u34,u35,u36,u37,u38,u39];repeat rw [if_neg (by omega)])
   ·have e3:decide (y≥x) = true:=decide_eq_true (by omega)
    have hf:aue l = false:=akA (k:=k + 2) (by rw [hnext];simp [ltI,hb]) (by omega)
    rw [hf]
    (have zx:=And.intro e1 (And.intro e2 (And.intro e3 (And.intro hw (And.intro hw2 (And.intro hget hgy))))));exact zg
def wL (JJ:Nat):AC:=Qa [0] (.reg [mc 2 (V.bool false)]) (Qa [2] (.reg [mv 3 0,cl 4 JJ [3],bc 5 .eql 4 (V.int 1),mv 2 5]) .ret) def r_endpoint_hash:List Jl:=[.tmp 2]
def yQ (Γ:Env) (f:Nat):Prop:=∀ (n:Int),EvN Γ f [V.int n] (V.bool (afN n))
theorem ajK {Γ:Env} {f JJ:Nat} (h:Has Γ.P f 6 (wL JJ) r_endpoint_hash) (z0:VV Γ JJ):yQ Γ f:=by
 intro n
 refine Qe h zsi zcl zcl fun C hC hm=>?_
 subst hC
 unfold wL
 unfold afN
 exact zg
def Ux:AC:=Qa [0,1] (.reg [mc 3 (V.bool false)]) (Qa [3] (.reg [ld 4 1 1,mv 5 0,xo 6 (.callv (.t 4) [(.t 5)]),xo 7 (.un .not (.t 6)),mv 3 7]) .ret) def r_endpoint_Check_1_1:List Jl:=[.tmp 3]
def Wg (Γ:Env) (f:Nat):Prop:=∀ (k:Nat) (p:Int→Bool) (x:Int) (hp:EvN Γ k [V.int x] (V.bool (p x))),EvN Γ f [V.int x,.ro [.clo (.n k) []] 0] (V.bool (!p x))
theorem adF {Γ:Env} {f:Nat} (h:Has Γ.P f 8 Ux r_endpoint_Check_1_1) :Wg Γ f:=by
 intro k p x hp
 refine Qe h zsi zcl zcl fun C hC hm=>?_
 subst hC
 unfold Ux
 have hq:=hp.b
 exact zg
def qk (Xy:Nat):AC:=Qa [1] (.reg [xo 1 (.box false 1 (.t 0)),mc 2 (.sc .nilFunc)]) (Qa [2] (.reg [xo 3 (.mkfn Xy [(.t 1)]),mv 2 3]) .ret) def r_endpoint_Check_1:List Jl:=[.tmp 2]
def Ks (Γ:Env) (f:Nat):Prop:=(∃ g:Nat,Wg Γ g∧∀ k:Nat,EvC Γ f [.clo (.n k) []] (.clo (.n g) [.ro [.clo (.n k) []] 0]))
theorem agf {Γ:Env} {f Xy:Nat} (h:Has Γ.P f 4 (qk Xy) r_endpoint_Check_1) (z0:Wg Γ Xy):Ks Γ f:=by
 refine ⟨Xy,z0,fun k=>?_⟩
 refine QV h (by simp) (by simp only [V.closed,closedL,and_self]) fun C hC hm=>?_
 subst hC
 unfold qk
 exact zg
def XG:AC:=Qa [0,1] (.reg [mc 4 (V.int 0)]) (Qa [] (Qa [0,1,7,8] (.reg [mv 6 0,ln 7 6,mc 8 (V.int 0)]) (.block 0 (JH [0,1,7,8] (Qa [0,1,7,8,9] (.reg [bn 9 .lss 8 7]) (Qa [0,1,7,8] (.cond (.t 9) .skip (.exit 0)) (Qa [0,1,7,8] (.block 1 (Qa [0,1,5,7,8] (.reg [mv 10 8,mv 5 10]) (Qa [0,1,5,7,8,16] (.reg [mv 11 1,mv 12 0,mv 13 5,ia 14 1 12 13,ld 15 1 14,xo 16 (.callv (.t 11) [(.t 15)])]) (.cond (.t 16) (Qa [4] (.reg [mv 17 5,mv 4 17]) .ret) .skip)))) (.reg [bc 18 .add 8 (V.int 1),mv 8 18]))))))) (Qa [4] (.reg [mc 4 (V.int (-1))]) .ret)) def r_slices_IndexFunc___int_int:List Jl:=[.tmp 4]
def Xs (Γ:Env) (f:Nat):Prop:=∀ (xs:List Int) (g:Nat) (cap:List V) (p:Int→Bool) (hp:∀ x∈xs,EvN Γ g (V.int x :: cap) (V.bool (p x))) (hcap:closedL cap) (hl:xs.length < 2 ^ 62),EvN Γ f [.sl 1 (xs.map V.int),.clo g cap] (V.int (acR p 0 xs))
attribute [local go_sem] List.map_nil in
theorem yl {Γ:Env} {f:Nat} (h:Has Γ.P f 19 XG r_slices_IndexFunc___int_int) :Xs Γ f:=by
 intro xs g cap p hp hcap hl
 refine Qe h zsi zcl zcl fun C hC hm=>?_
 subst hC
 unfold XG
 have s1:∀ o,Xh o cap = cap:=fun o=>Xk o cap hcap
 have s2:∀ o B,Q3 o B cap = True:=fun o B=>eq_true (Yq o B cap hcap)
 refine zgo ?_;repeat' first|exact zt|apply zan|intro hc
 refine QP (ι:=Nat) (fun k=>k≤xs.length∧acR p k (xs.drop k) = acR p 0 xs) (fun k=>[(8,V.int k)]) (fun k=>xs.length - k) 0 (by omega) ⟨by simp,by simp⟩ (by repeat' first|exact Q8|refine JD (by omega) (by simp only [Ob.lt,ltL,V.lt,and_self,and_true];try omega) ?_) (fun i hi=>by simp only [ovT,Ji,Nat.reduceEqDiff,reduceIte];(repeat' first|exact JC|refine Q7 ?_ ?_|simp only [V.lt,ltL,and_self,and_true]|omega);exact Ua _ _ hcap) (by simp only [Nat.reduceAdd,ovT,Ji,Nat.reduceEqDiff,reduceIte,U5,ym,arA,u32,u33,u34,u35,u36,u37,u38,u39,and_self,and_true,true_and];first|rfl|exact J4 _ _ hcap) fun k hk K' hL=>?_
 obtain ⟨hk,hinv⟩:=hk
 simp only [ovT,Ji,Nat.reduceEqDiff,reduceIte]
 rcases hd:xs.drop k with _|⟨y,r⟩
 ·have:=Qs hd
  rw [hd] at hinv
  have e1:decide ((k:Int) < (((xs.map V.int).length:Nat):Int)) = false:=by simp;omega
  (have zx:=e1);refine zgo ?_;repeat' first|exact zt|apply zan|intro hc
  refine Qn _ rfl ?_
  simp only [go_sem]
  rw [← hinv];rfl
 ·obtain ⟨hk,hget,hr⟩:=Ql hd
  rw [hd] at hinv
  have hw:=Qj (k:=k) (by omega)
  have e1:decide ((k:Int) < (((xs.map V.int).length:Nat):Int)) = true:=by simp;omega
  have hpy:=hp y (List.mem_of_getElem? hget)
  by_cases hy:p y = true
  ·rw [hy] at hpy
   (have zy0:=hpy.b;have zx:=And.intro hget (And.intro hw (And.intro e1 (And.intro s1 s2))));refine zgo ?_;repeat' first|exact zt|apply zan|intro hc
   refine Qn _ rfl ?_;simp only [go_sem]
   rw [← hinv];simp [acR,hy]
  ·have hy':p y = false:=by simpa using hy
   rw [hy'] at hpy
   (have zy0:=hpy.b;have zx:=And.intro hget (And.intro hw (And.intro e1 (And.intro s1 s2))));refine zgo ?_;repeat' first|exact zt|apply zan|intro hc
   refine hL _ (k + 1) zet ⟨by omega,?_⟩ (by omega) (fun a ha=>by simp only [u32,u33,u34,u35,u36,u37,u38,u39];repeat rw [if_neg (by omega)])
   rw [hr,← hinv,acR,if_neg hy]
def Y8 (Yz:Nat):AC:=Qa [0,1] (.reg [mc 4 (V.bool false)]) (Qa [4] (.reg [mv 5 0,mv 6 1,cl 7 Yz [5,6],bc 8 .geq 7 (V.int 0),mv 4 8]) .ret) def r_slices_ContainsFunc___int_int:List Jl:=[.tmp 4]
def YX (Γ:Env) (f:Nat):Prop:=∀ (xs:List Int) (g:Nat) (cap:List V) (p:Int→Bool) (hp:∀ x∈xs,EvN Γ g (V.int x :: cap) (V.bool (p x))) (hcap:closedL cap) (hl:xs.length < 2 ^ 62),EvN Γ f [.sl 1 (xs.map V.int),.clo g cap] (V.bool (xs.any p))
theorem qP {Γ:Env} {f Yz:Nat} (h:Has Γ.P f 9 (Y8 Yz) r_slices_ContainsFunc___int_int) (z0:Xs Γ Yz):YX Γ f:=by
 intro xs g cap p hp hcap hl
 refine Qe h zsi zcl zcl fun C hC hm=>?_
 subst hC
 unfold Y8
 have s1:∀ o,Xh o cap = cap:=fun o=>Xk o cap hcap
 have s2:∀ o B,Q3 o B cap = True:=fun o B=>eq_true (Yq o B cap hcap)
 have hi:=(z0 xs g cap p hp hcap hl).b
 have e1:=ag2 p xs 0
 (have zx:=And.intro s1 (And.intro s2 e1));exact zg
def aaa (Qo Qi QU:Nat):List AO:=[fa 71 6 1,ld 72 1 71,mv 73 5,xo 74 (.callv (.t 73) [(.c (.clo Qo []))]),cl 75 Qi [72,74],mv 76 75,xg 77 (.faddr 7 (.t 1)) 76 false,xg 78 (.load false 1 (.t 77)) 76 false,mg 79 5 76 false,xg 80 (.callv (.t 79) [(.c (.clo QU []))]) 76 false,xg 81 (.call Qi [(.t 78),(.t 80)]) 76 false,xo 82 (.pick (.t 76) (.c (V.bool true)) (.t 81))]
def aap:List (List Nat):=[[],[0],[],[2],[1,3,3],[4,4],[5],[6,5],[5],[8,5,5],[7,9,9,5],[5,10]]
def vJ:OT:=.one 0 (.one 1 (.one 2 (.one 3 (.one 4 (.one 5 (.one 6 (.one 8 (.or 7 (.one 9 (.one 10 (.one 11 .done))) (.or 9 (.one 7 (.one 10 (.one 11 .done))) .done)))))))))
@[go_sem] def xk (Qo Qi QU:Nat):OP:=.one 10 false [9,4,3] (xg 81 (.call Qi [(.t 78),(.t 80)]) 76 false) (oN 11 (xo 82 (.pick (.t 76) (.c (V.bool true)) (.t 81))) .done)
@[go_sem] def vV (Qo Qi QU:Nat):OP:=oN 0 (fa 71 6 1) (oN 1 (ld 72 1 71) (oN 2 (mv 73 5) (.one 3 true [] (xo 74 (.callv (.t 73) [(.c (.clo Qo []))])) (.one 4 false [3] (cl 75 Qi [72,74]) (oN 5 (mv 76 75) (oN 6 (xg 77 (.faddr 7 (.t 1)) 76 false) (oN 8 (mg 79 5 76 false) (.or 7 false [4,3] (xg 78 (.load false 1 (.t 77)) 76 false) (.one 9 true [4,3] (xg 80 (.callv (.t 79) [(.c (.clo QU []))]) 76 false) (xk Qo Qi QU)) (.or 9 true [4,3] (xg 80 (.callv (.t 79) [(.c (.clo QU []))]) 76 false) (.one 7 false [4,3] (xg 78 (.load false 1 (.t 77)) 76 false) (xk Qo Qi QU)) .done)))))))))
instance (Qo Qi QU:Nat):RG [3,9] vJ (vV Qo Qi QU) (aaa Qo Qi QU) aap 12 (fun _=>true):=⟨rfl,by kernel_rfl,by kernel_rfl⟩
def yF (YJ V4 Wc Q5 VB Qo Qi QU:Nat):AC:=Qa [1] (.reg [xo 1 (.box true 9 (.t 0)),mc 2 (V.int 0)]) (Qa [1] (Qa [1,32] (.reg [fa 6 0 1,ld 7 1 6,cl 8 YJ [7],xo 9 (.un .not (.t 8)),mv 10 9,xg 11 (.faddr 1 (.t 1)) 10 false,xg 12 (.load false 1 (.t 11)) 10 false,xg 13 (.bin .lss (.t 12) (.c (V.int 1))) 10 false,xo 14 (.pick (.t 10) (.c (V.bool true)) (.t 13)),mv 15 14,xg 16 (.faddr 1 (.t 1)) 15 false,xg 17 (.load false 1 (.t 16)) 15 false,xg 18 (.faddr 2 (.t 1)) 15 false,xg 19 (.load false 1 (.t 18)) 15 false,xg 20 (.bin .gtr (.t 17) (.t 19)) 15 false,xo 21 (.pick (.t 15) (.c (V.bool true)) (.t 20)),mv 22 21,xg 23 (.faddr 2 (.t 1)) 22 false,xg 24 (.load false 1 (.t 23)) 22 false,xg 25 (.bin .gtr (.t 24) (.c (V.int 4))) 22 false,xo 26 (.pick (.t 22) (.c (V.bool true)) (.t 25)),mv 27 26,xg 28 (.faddr 3 (.t 1)) 27 false,xg 29 (.load false 1 (.t 28)) 27 false,xg 30 (.call V4 [(.t 29)]) 27 false,xg 31 (.un .not (.t 30)) 27 false,xo 32 (.pick (.t 27) (.c (V.bool true)) (.t 31))]) (.cond (.t 32) (Qa [2] (.reg [mc 2 (V.int 19)]) .ret) .skip)) (Qa [1] (Qa [1,54] (.reg [fa 33 5 1,ld 34 1 33,ln 35 34,bc 36 .gtr 35 (V.int 4),mv 37 36,xg 38 (.faddr 6 (.t 1)) 37 false,xg 39 (.load false 1 (.t 38)) 37 false,xg 40 (.lenL (.t 39)) 37 false,xg 41 (.bin .gtr (.t 40) (.c (V.int 16))) 37 false,xo 42 (.pick (.t 37) (.c (V.bool true)) (.t 41)),mv 43 42,xg 44 (.faddr 6 (.t 1)) 43 false,xg 45 (.load false 1 (.t 44)) 43 false,xg 46 (.call Wc [(.t 45)]) 43 false,xg 47 (.un .not (.t 46)) 43 false,xo 48 (.pick (.t 43) (.c (V.bool true)) (.t 47)),mv 49 48,xg 50 (.faddr 7 (.t 1)) 49 false,xg 51 (.load false 1 (.t 50)) 49 false,xg 52 (.call Wc [(.t 51)]) 49 false,xg 53 (.un .not (.t 52)) 49 false,xo 54 (.pick (.t 49) (.c (V.bool true)) (.t 53))]) (.cond (.t 54) (Qa [2] (.reg [mc 2 (V.int 19)]) .ret) .skip)) (Qa [1] (Qa [1,56,57,58] (.reg [fa 55 5 1,ld 56 1 55,ln 57 56,mc 58 (V.int 0)]) (.block 0 (JH [1,56,57,58] (Qa [1,56,57,58,59] (.reg [bn 59 .lss 58 57]) (Qa [1,56,57,58] (.cond (.t 59) .skip (.exit 0)) (Qa [1,56,57,58] (.block 1 (Qa [1,4,56,57,58] (.reg [ia 60 4 56 58,xo 61 (.load true 4 (.t 60)),xo 4 (.alloc [.val vi0,.val vi0,.val vi0,.nil 15]),xs 4 4 61]) (Qa [1,56,57,58,69] (.reg [fa 62 0 4,xo 63 (.load true 2 (.t 62)),fa 64 2 4,ld 65 1 64,fa 66 3 4,ld 67 1 66,cl 68 Q5 [63,65,67],xo 69 (.un .not (.t 68))]) (.cond (.t 69) (Qa [2] (.reg [mc 2 (V.int 19)]) .ret) .skip)))) (.reg [bc 70 .add 58 (V.int 1),mv 58 70]))))))) (Qa [1,5] (.reg [mc 5 (.clo VB [])]) (Qa [] (Qa [82] (yh [3,9] vJ (vV Qo Qi QU) (aaa Qo Qi QU) aap) (.cond (.t 82) (Qa [2] (.reg [mc 2 (V.int 19)]) .ret) .skip)) (Qa [2] (.reg [mc 2 (V.int 0)]) .ret)))))) def r_endpoint_Check:List Jl:=[.tmp 2]
def WR (Γ:Env) (f:Nat):Prop:=∀ (e:QL) (sm:e.Sm),EvN Γ f [e.v] (V.int (if JS e = true then 0 else 19))
attribute [local go_sem] QI.cells QI.v in
theorem aiH {Γ:Env} {f YJ V4 Wc Q5 VB Qo Qi QU:Nat} (h:Has Γ.P f 83 (yF YJ V4 Wc Q5 VB Qo Qi QU) r_endpoint_Check) (z0:U7 Γ YJ) (z1:qF Γ V4) (z2:Kr Γ Wc) (z3:jB Γ Q5) (z4:Ks Γ VB) (z5:Wh Γ Qo) (z6:YX Γ Qi) (z7:yQ Γ QU):WR Γ f:=by
 intro e sm
 refine Qe h zsi zcl zcl fun C hC hm=>?_
 subst hC
 unfold yF
 have hw:=(z0 e.name sm.hn).b
 have hsu:=(z1 e.suites sm.hs).b
 have ha1:=(z2 e.anchors sm.ha).b
 have ha2:=(z2 e.hashes sm.hh).b
 obtain ⟨g,hg1,hg⟩:=z4
 have g1:=(hg Qo).b
 have g2:=(hg QU).b
 have k1:=(z6 e.anchors g [.ro [.clo (.n Qo) []] 0] (fun x=>!aeH x) (fun x _=>hg1 Qo aeH x (z5 x)) (by simp [V.closed,closedL]) (by have:=sm.ha;omega)).b
 have k2:=(z6 e.hashes g [.ro [.clo (.n QU) []] 0] (fun x=>!afN x) (fun x _=>hg1 QU afN x (z7 x)) (by simp [V.closed,closedL]) (by have:=sm.hh;omega)).b
 have no1:apF e = false→(if JS e = true then (0:Int) else 19) = 19:=fun h=>by simp [JS,h]
 have no2:anS e = false→(if JS e = true then (0:Int) else 19) = 19:=fun h=>by simp [JS,h]
 have no3:axC e = false→(if JS e = true then (0:Int) else 19) = 19:=fun h=>by simp [JS,h]
 have no4:apE e = false→(if JS e = true then (0:Int) else 19) = 19:=fun h=>by simp [JS,h]
 have lm1:(e.idents.map QI.v).length = e.idents.length:=List.length_map _
 have lm2:(e.anchors.map V.int).length = e.anchors.length:=List.length_map _
 have lm3:(e.hashes.map V.int).length = e.hashes.length:=List.length_map _
 simp only [QL.v,QL.cells]
 rcases q1:apF e with _|_
 ·rw [no1 q1]
  rcases b1:aby e.name with _|_
  ·rw [b1] at hw
   exact zg
  rw [b1] at hw
  by_cases b2:e.least < 1
  ·have e2:decide (e.least < 1) = true:=decide_eq_true b2
   (have zx:=e2);exact zg
  have e2:decide (e.least < 1) = false:=decide_eq_false b2
  by_cases b3:e.least > e.most
  ·have e3:decide (e.least > e.most) = true:=decide_eq_true b3
   (have zx:=And.intro e2 e3);exact zg
  have e3:decide (e.least > e.most) = false:=decide_eq_false b3
  by_cases b4:e.most > 4
  ·have e4:decide (e.most > 4) = true:=decide_eq_true b4
   (have zx:=And.intro e2 (And.intro e3 e4));exact zg
  have e4:decide (e.most > 4) = false:=decide_eq_false b4
  have b5:WY e.suites = false:=by
   rw [apF,b1,decide_eq_true (by omega:e.least≥1),decide_eq_true (by omega:e.least≤e.most),decide_eq_true (by omega:e.most≤4)] at q1
   simpa using q1
  rw [b5] at hsu
  (have zx:=And.intro e2 (And.intro e3 e4));exact zg
 have p1:=q1
 simp only [apF,Bool.and_eq_true,decide_eq_true_eq] at p1
 obtain ⟨b1,b2,b3,b4,b5⟩:=p1
 rw [b1] at hw
 rw [b5] at hsu
 have e2:decide (e.least < 1) = false:=decide_eq_false (by omega)
 have e3:decide (e.least > e.most) = false:=decide_eq_false (by omega)
 have e4:decide (e.most > 4) = false:=decide_eq_false (by omega)
 rcases q2:anS e with _|_
 ·rw [no2 q2]
  by_cases c1:(e.idents.length:Int) > 4
  ·have f1:decide ((e.idents.length:Int) > 4) = true:=decide_eq_true c1
   (have zx:=And.intro e2 (And.intro e3 (And.intro e4 (And.intro lm1 f1))));exact zg
  have f1:decide ((e.idents.length:Int) > 4) = false:=decide_eq_false c1
  by_cases c2:(e.anchors.length:Int) > 16
  ·have f2:decide ((e.anchors.length:Int) > 16) = true:=decide_eq_true c2
   (have zx:=And.intro e2 (And.intro e3 (And.intro e4 (And.intro lm1 (And.intro lm2 (And.intro f1 f2))))));exact zg
  have f2:decide ((e.anchors.length:Int) > 16) = false:=decide_eq_false c2
  rcases c3:aue e.anchors with _|_
  ·rw [c3] at ha1
   (have zx:=And.intro e2 (And.intro e3 (And.intro e4 (And.intro lm1 (And.intro lm2 (And.intro f1 f2))))));exact zg
  rw [c3] at ha1
  have c4:aue e.hashes = false:=by
   rw [anS,c3,decide_eq_true (by omega:(e.idents.length:Int)≤4),decide_eq_true (by omega:(e.anchors.length:Int)≤16)] at q2
   simpa using q2
  rw [c4] at ha2
  (have zx:=And.intro e2 (And.intro e3 (And.intro e4 (And.intro lm1 (And.intro lm2 (And.intro f1 f2))))));exact zg
 have p2:=q2
 simp only [anS,Bool.and_eq_true,decide_eq_true_eq] at p2
 obtain ⟨c1,c2,c3,c4⟩:=p2
 rw [c3] at ha1
 rw [c4] at ha2
 have f1:decide ((e.idents.length:Int) > 4) = false:=decide_eq_false (by omega)
 have f2:decide ((e.anchors.length:Int) > 16) = false:=decide_eq_false (by omega)
 (have zx:=And.intro e2 (And.intro e3 (And.intro e4 (And.intro lm1 (And.intro lm2 (And.intro f1 f2))))));refine zgo ?_;repeat' first|exact zt|apply zan|intro hc
 refine QP (ι:=Nat) (fun k=>k≤e.idents.length∧(e.idents.take k).all QI.ok = true) (fun k=>[(58,V.int k)]) (fun k=>e.idents.length - k) 0 (by omega) ⟨Nat.zero_le _,rfl⟩ (by repeat' first|exact Q8|refine JD (by omega) (by simp only [Ob.lt,ltL,V.lt,and_self,and_true];try omega) ?_) (fun i hi=>by simp only [ovT,Ji,Nat.reduceEqDiff,reduceIte];(repeat' first|exact JC|refine Q7 ?_ ?_|simp only [V.lt,ltL,and_self,and_true]|omega)) zet fun k hk K' hL=>?_
 obtain ⟨hk,hinv⟩:=hk
 simp only [ovT,Ji,Nat.reduceEqDiff,reduceIte]
 rcases hd:e.idents.drop k with _|⟨x,r⟩
 ·have hkl:=Qs hd
  have e5:decide ((k:Int) < ((e.idents.length:Nat):Int)) = false:=by simp;omega
  have q3:axC e = true:=by rw [List.take_of_length_le hkl] at hinv;exact hinv
  rcases d1:e.anchors.any (fun x=>!aeH x) with _|_
  ·rw [d1] at k1
   rcases d2:e.hashes.any (fun x=>!afN x) with _|_
   ·rw [d2] at k2
    have q4:apE e = true:=by
     rw [apE,Bool.and_eq_true,List.all_eq_true,List.all_eq_true]
     rw [List.any_eq_false] at d1 d2
     exact ⟨fun x hx=>by simpa using d1 x hx,fun x hx=>by simpa using d2 x hx⟩
    have hc:JS e = true:=by rw [JS,q1,q2,q3,q4];rfl
    rw [if_pos hc]
    clear hc
    (have zx:=And.intro e5 lm1);exact zg
   ·rw [d2] at k2
    obtain ⟨x,hx,hx2⟩:=List.any_eq_true.1 d2
    rw [no4 (by rw [apE,List.all_eq_false.2 ⟨x,hx,by simpa using hx2⟩,Bool.and_false])]
    (have zx:=And.intro e5 lm1);exact zg
  ·rw [d1] at k1
   obtain ⟨x,hx,hx2⟩:=List.any_eq_true.1 d1
   rw [no4 (by rw [apE,List.all_eq_false.2 ⟨x,hx,by simpa using hx2⟩,Bool.false_and])]
   (have zx:=And.intro e5 lm1);exact zg
 ·obtain ⟨hk',hget,hrr⟩:=Ql hd
  have hwk:=Qj (k:=k) (by omega)
  have e5:decide ((k:Int) < ((e.idents.length:Nat):Int)) = true:=by simp;omega
  have hm:=List.mem_of_getElem? hget
  have hsh:=(z3 x.kalg x.kbits x.kid x.chain (sm.hx x hm).hl (sm.hx x hm).hc).b
  rcases hcb:QI.ok x with _|_
  ·have hcc:yi x.kalg x.kbits x.kid x.chain = false:=hcb
   rw [hcc] at hsh
   rw [no3 (List.all_eq_false.2 ⟨x,hm,by simp [hcb]⟩)]
   (have zx:=And.intro e5 (And.intro hwk (And.intro lm1 hget)));exact zg
  ·have hcc:yi x.kalg x.kbits x.kid x.chain = true:=hcb
   rw [hcc] at hsh
   (have zx:=And.intro e5 (And.intro hwk (And.intro lm1 hget)));refine zgo ?_;repeat' first|exact zt|apply zan|intro hc
   all_goals first|exact hL _ (k + 1) zet ⟨by omega,ahO hget hinv hcb⟩ (by omega) (fun a ha=>by simp only [u32,u33,u34,u35,u36,u37,u38,u39];repeat rw [if_neg (by omega)])
def aw9 (c:UInt8):Bool:=(decide ((c.toNat:Int) < 97) || decide ((c.toNat:Int) > 122)) && ((decide ((c.toNat:Int) < 65) || decide ((c.toNat:Int) > 90)) && ((decide ((c.toNat:Int) < 48) || decide ((c.toNat:Int) > 57)) && (((c.toNat:Int) != 45) && (((c.toNat:Int) != 95) && ((c.toNat:Int) != 46)))))
theorem avi (c:UInt8):asw c [45,95,46] = !aw9 c:=by
 have h:∀ n,n < 256→asw (UInt8.ofNat n) [45,95,46] = !aw9 (UInt8.ofNat n):=by decide +kernel
 have:=h c.toNat (UInt8.toNat_lt c)
 rwa [UInt8.ofNat_toNat] at this
theorem ate {α:Type} (p:α→Bool) (q:α→α→Bool) (l:List α):∀ k,k≤l.length→okP p q l k = (okP yes q l k && (l.take k).all p)
 | 0,_=>rfl
 | k + 1,h=>by
   have hx:l[k]? = some (l[k]'(by omega)):=List.getElem?_eq_getElem (by omega)
   rw [vX,vX,ate p q l k (by omega),List.take_add_one,hx,List.all_append]
   generalize l[k] = x
   simp only [Option.toList_some,List.all_cons,List.all_nil,Bool.and_true,yes,Bool.true_and]
   generalize (k == 0 || match l[k - 1]? with|some y=>q y x|none=>false) = A
   cases okP yes q l k<;>cases (List.take k l).all p<;>cases p x<;>cases A<;>rfl
theorem ane {α:Type} (p:α→Bool) (q:α→α→Bool) (l:List α):okP p q l l.length = (okP yes q l l.length && l.all p):=by
 rw [ate p q l _ (Nat.le_refl _),List.take_length]
theorem ai9 {l:List Int} (h:WY l = true):l.length≤16:=by
 simp only [WY,Bool.and_eq_true,Bool.not_eq_true',decide_eq_true_eq] at h
 refine aqD h.2 fun x hx=>?_
 have:=List.any_eq_false.1 h.1 x hx
 simp [aeY] at this;omega
def adP:AC:=Qa [0] (.reg [mc 2 (V.bool false)]) (Qa [0] (Qa [0,12] (.reg [mv 5 0,xo 6 (.lenS (.t 5)),bc 7 .lss 6 (V.int 1),mv 8 7,mg 9 0 8 false,xg 10 (.lenS (.t 9)) 8 false,xg 11 (.bin .gtr (.t 10) (.c (V.int 32))) 8 false,xo 12 (.pick (.t 8) (.c (V.bool true)) (.t 11))]) (.cond (.t 12) (Qa [2] (.reg [mc 2 (V.bool false)]) .ret) .skip)) (Qa [] (Qa [0,3] (.reg [mc 3 (V.int 0)]) (.block 0 (JH [0,3] (Qa [0,3] (Qa [0,3,16] (.reg [mv 13 3,mv 14 0,xo 15 (.lenS (.t 14)),bn 16 .lss 13 15]) (.cond (.t 16) .skip (.exit 0))) (Qa [0,3] (.block 1 (Qa [0,3,4] (.reg [mv 19 0,mv 20 3,xo 21 (.idxS (.t 19) (.t 20)),mv 4 21]) (Qa [0,3,55] (.reg [mv 22 4,bc 23 .lss 22 (.sc (.int .u8 97)),mv 24 23,mg 25 4 24 false,xg 26 (.bin .gtr (.t 25) (.c (.sc (.int .u8 122)))) 24 false,xo 27 (.pick (.t 24) (.c (V.bool true)) (.t 26)),mv 28 27,mg 29 4 28 true,xg 30 (.bin .lss (.t 29) (.c (.sc (.int .u8 65)))) 28 true,mg 31 30 28 true,mg 32 4 31 false,xg 33 (.bin .gtr (.t 32) (.c (.sc (.int .u8 90)))) 31 false,xg 34 (.pick (.t 31) (.c (V.bool true)) (.t 33)) 28 true,xo 35 (.pick (.t 28) (.t 34) (.c (V.bool false))),mv 36 35,mg 37 4 36 true,xg 38 (.bin .lss (.t 37) (.c (.sc (.int .u8 48)))) 36 true,mg 39 38 36 true,mg 40 4 39 false,xg 41 (.bin .gtr (.t 40) (.c (.sc (.int .u8 57)))) 39 false,xg 42 (.pick (.t 39) (.c (V.bool true)) (.t 41)) 36 true,xo 43 (.pick (.t 36) (.t 42) (.c (V.bool false))),mv 44 43,mg 45 4 44 true,xg 46 (.bin .neq (.t 45) (.c (.sc (.int .u8 45)))) 44 true,xo 47 (.pick (.t 44) (.t 46) (.c (V.bool false))),mv 48 47,mg 49 4 48 true,xg 50 (.bin .neq (.t 49) (.c (.sc (.int .u8 95)))) 48 true,xo 51 (.pick (.t 48) (.t 50) (.c (V.bool false))),mv 52 51,mg 53 4 52 true,xg 54 (.bin .neq (.t 53) (.c (.sc (.int .u8 46)))) 52 true,xo 55 (.pick (.t 52) (.t 54) (.c (V.bool false)))]) (.cond (.t 55) (Qa [2] (.reg [mc 2 (V.bool false)]) .ret) .skip)))) (.reg [mv 17 3,bc 18 .add 17 (V.int 1),mv 3 18])))))) (Qa [2] (.reg [mc 2 (V.bool true)]) .ret))) def r_ref06_Word:List Jl:=[.tmp 2]
def acs (Γ:Env) (f:Nat):Prop:=∀ (s:List UInt8) (hs:s.length < 2 ^ 30),EvN Γ f [V.str s] (V.bool (aby s))
theorem anA {Γ:Env} {f:Nat} (h:Has Γ.P f 56 adP r_ref06_Word) :acs Γ f:=by
 intro s hs
 refine Qe h zsi zcl zcl fun C hC hm=>?_
 subst hC
 unfold adP
 by_cases h1:s.length < 1
 ·have e1:decide ((s.length:Int) < 1) = true:=decide_eq_true (by omega)
  have hw:aby s = false:=by rw [aby,decide_eq_false (by omega:¬ (s.length:Int)≥1)];simp
  rw [hw]
  (have zx:=e1);exact zg
 have e1:decide ((s.length:Int) < 1) = false:=decide_eq_false (by omega)
 by_cases h2:s.length > 32
 ·have e2:decide ((s.length:Int) > 32) = true:=decide_eq_true (by omega)
  have hw:aby s = false:=by rw [aby,decide_eq_false (by omega:¬ (s.length:Int)≤32)];simp
  rw [hw]
  (have zx:=And.intro e1 e2);exact zg
 have e2:decide ((s.length:Int) > 32) = false:=decide_eq_false (by omega)
 have hwb:aby s = s.all (fun c=>asw c [45,95,46]):=by rw [aby,decide_eq_true (by omega:(s.length:Int)≥1),decide_eq_true (by omega:(s.length:Int)≤32)];simp
 rw [hwb]
 (have zx:=And.intro e1 e2);refine zgo ?_;repeat' first|exact zt|apply zan|intro hc
 refine QP (ι:=Nat) (fun k=>k≤s.length∧(s.take k).all (fun c=>asw c [45,95,46]) = true) (fun k=>[(3,V.int k)]) (fun k=>s.length - k) 0 (by omega) ⟨Nat.zero_le _,rfl⟩ (by repeat' first|exact Q8|refine JD (by omega) (by simp only [Ob.lt,ltL,V.lt,and_self,and_true];try omega) ?_) (fun i hi=>by simp only [ovT,Ji,Nat.reduceEqDiff,reduceIte];(repeat' first|exact JC|refine Q7 ?_ ?_|simp only [V.lt,ltL,and_self,and_true]|omega)) zet fun k hk K' hL=>?_
 obtain ⟨hk,hinv⟩:=hk
 simp only [ovT,Ji,Nat.reduceEqDiff,reduceIte]
 rcases hd:s.drop k with _|⟨c,r⟩
 ·have hkl:=Qs hd
  rw [List.take_of_length_le hkl] at hinv
  have e3:decide ((k:Int) < ((s.length:Nat):Int)) = false:=by simp;omega
  rw [hinv]
  (have zx:=e3);exact zg
 ·obtain ⟨hk',hget,hr⟩:=Ql hd
  have hw:=Qj (k:=k) (by omega)
  have e3:decide ((k:Int) < ((s.length:Nat):Int)) = true:=by simp;omega
  have hb:=avi c
  have hf:aw9 c = true→s.all (fun c=>asw c [45,95,46]) = false:=fun h=>List.all_eq_false.2 ⟨c,List.mem_of_getElem? hget,by rw [hb,h];decide⟩
  have hg:aw9 c = false→(s.take (k + 1)).all (fun c=>asw c [45,95,46]) = true:=fun h=>ahO hget hinv (by rw [hb,h];rfl)
  (have zx:=And.intro e3 (And.intro hw hget));refine zgo ?_;repeat' first|exact zt|apply zan|intro hc
  all_goals first|(rw [hf]<;>first|(simp [aw9, *];done)|exact zr)|exact hL _ (k + 1) zet ⟨by omega,hg (by simp [aw9, *])⟩ (by omega) (fun a ha=>by simp only [u32,u33,u34,u35,u36,u37,u38,u39];repeat rw [if_neg (by omega)])
theorem amW {e:QL} {k:Nat} (h:okP aeH ltI e.anchors k = false) (hk:k≤e.anchors.length):JS e = false:=by
 have:=akA h hk
 rw [ane,Bool.and_eq_false_iff] at this
 rcases this with h|h
 ·have:anS e = false:=by rw [anS,show aue e.anchors = false from h];simp
  rw [JS,this];simp
 ·have:apE e = false:=by rw [apE,h];simp
  rw [JS,this];simp
theorem aq1 {e:QL} {k:Nat} (h:okP afN ltI e.hashes k = false) (hk:k≤e.hashes.length):JS e = false:=by
 have:=akA h hk
 rw [ane,Bool.and_eq_false_iff] at this
 rcases this with h|h
 ·have:anS e = false:=by rw [anS,show aue e.hashes = false from h];simp
  rw [JS,this];simp
 ·have:apE e = false:=by rw [apE,h];simp
  rw [JS,this];simp
theorem aiN {e:QL} (h:WY e.suites = false):JS e = false:=by simp [JS,apF,h]
theorem atW {e:QL} {x:QI} (h:x∈e.idents) (hx:x.ok = false):JS e = false:=by
 have:axC e = false:=List.all_eq_false.2 ⟨x,h,by simp [hx]⟩
 simp [JS,this]
theorem awA {e:QL} (h1:aby e.name = true) (h2:1≤e.least) (h3:e.least≤e.most) (h4:e.most≤4) (h5:WY e.suites = true) (h6:e.idents.length≤4) (h7:e.anchors.length≤16) (h8:e.idents.all QI.ok = true)
  (h9:okP aeH ltI e.anchors e.anchors.length = true) (h10:okP afN ltI e.hashes e.hashes.length = true):JS e = true:=by
 rw [ane,Bool.and_eq_true] at h9 h10
 have c1:apF e = true:=by rw [apF,h1,h5,decide_eq_true (by omega:e.least≥1),decide_eq_true h3,decide_eq_true h4];rfl
 have c2:anS e = true:=by rw [anS,decide_eq_true (by omega:(e.idents.length:Int)≤4),decide_eq_true (by omega:(e.anchors.length:Int)≤16),show aue e.anchors = true from h9.1,show aue e.hashes = true from h10.1];rfl
 have c4:apE e = true:=by rw [apE,h9.2,h10.2];rfl
 rw [JS,c1,c2,show axC e = true from h8,c4];rfl
def eSt (e:QL):St:=QZ [(1,.ptr 0 0)] [(0,.box true e.cells)] 1
def adt (QQ:Nat):List AO:=[mv 64 5,bc 65 .neq 64 (V.int 0),mv 66 65,xg 67 (.faddr 3 (.t 1)) 66 false,xg 68 (.load false 1 (.t 67)) 66 false,mg 69 3 66 false,xg 70 (.slsl 1 (.t 68) none (some (.t 69))) 66 false,xg 71 (.faddr 3 (.t 1)) 66 false,xg 72 (.load false 1 (.t 71)) 66 false,mg 73 3 66 false,xg 74 (.iaddr 1 (.t 72) (.t 73)) 66 false,xg 75 (.load false 1 (.t 74)) 66 false,xg 76 (.call QQ [(.t 70),(.t 75)]) 66 false,xo 77 (.pick (.t 66) (.c (V.bool true)) (.t 76))]
def aed:List (List Nat):=[[],[0],[1],[2],[3,2],[2],[4,5,2],[2],[7,2],[2],[8,9,2],[10,2],[6,11,2,2],[2,12]]
def ac6:OT:=.one 0 (.one 1 (.one 2 (.one 3 (.one 4 (.one 5 (.one 6 (.one 7 (.one 8 (.one 9 (.one 10 (.one 11 (.one 12 (.one 13 .done)))))))))))))
@[go_sem] def adj (QQ:Nat):OP:=oN 0 (mv 64 5) (oN 1 (bc 65 .neq 64 (V.int 0)) (oN 2 (mv 66 65) (oN 3 (xg 67 (.faddr 3 (.t 1)) 66 false) (oN 4 (xg 68 (.load false 1 (.t 67)) 66 false) (oN 5 (mg 69 3 66 false) (oN 6 (xg 70 (.slsl 1 (.t 68) none (some (.t 69))) 66 false) (oN 7 (xg 71 (.faddr 3 (.t 1)) 66 false) (oN 8 (xg 72 (.load false 1 (.t 71)) 66 false) (oN 9 (mg 73 3 66 false) (oN 10 (xg 74 (.iaddr 1 (.t 72) (.t 73)) 66 false) (oN 11 (xg 75 (.load false 1 (.t 74)) 66 false) (oN 12 (xg 76 (.call QQ [(.t 70),(.t 75)]) 66 false) (oN 13 (xo 77 (.pick (.t 66) (.c (V.bool true)) (.t 76))) .done)))))))))))))
instance (QQ:Nat):RG [] ac6 (adj QQ) (adt QQ) aed 14 (fun _=>true):=⟨rfl,by kernel_rfl,by kernel_rfl⟩
def ads (Yr:Nat):List AO:=[fa 85 5 1,ld 86 1 85,mv 87 6,ia 88 4 86 87,fa 89 0 88,xo 90 (.load true 2 (.t 89)),fa 91 5 1,ld 92 1 91,mv 93 6,ia 94 4 92 93,fa 95 2 94,ld 96 1 95,fa 97 5 1,ld 98 1 97,mv 99 6,ia 100 4 98 99,fa 101 3 100,ld 102 1 101,cl 103 Yr [90,96,102],xo 104 (.un .not (.t 103))]
def aec:List (List Nat):=[[],[0],[],[1,2],[3],[4],[],[6],[],[7,8],[9],[10],[],[12],[],[13,14],[15],[16],[5,11,17],[18]]
def ac5:OT:=.one 0 (.one 1 (.one 2 (.one 3 (.one 4 (.one 5 (.one 6 (.one 7 (.one 8 (.one 9 (.one 10 (.one 11 (.one 12 (.one 13 (.one 14 (.one 15 (.one 16 (.one 17 (.one 18 (.one 19 .done)))))))))))))))))))
@[go_sem] def adi (Yr:Nat):OP:=oN 0 (fa 85 5 1) (oN 1 (ld 86 1 85) (oN 2 (mv 87 6) (oN 3 (ia 88 4 86 87) (oN 4 (fa 89 0 88) (oN 5 (xo 90 (.load true 2 (.t 89))) (oN 6 (fa 91 5 1) (oN 7 (ld 92 1 91) (oN 8 (mv 93 6) (oN 9 (ia 94 4 92 93) (oN 10 (fa 95 2 94) (oN 11 (ld 96 1 95) (oN 12 (fa 97 5 1) (oN 13 (ld 98 1 97) (oN 14 (mv 99 6) (oN 15 (ia 100 4 98 99) (oN 16 (fa 101 3 100) (oN 17 (ld 102 1 101) (oN 18 (cl 103 Yr [90,96,102]) (oN 19 (xo 104 (.un .not (.t 103))) .done)))))))))))))))))))
instance (Yr:Nat):RG [] ac5 (adi Yr) (ads Yr) aec 20 (fun _=>true):=⟨rfl,by kernel_rfl,by kernel_rfl⟩
def adr:List AO:=[fa 112 6 1,ld 113 1 112,mv 114 7,ia 115 1 113 114,ld 116 1 115,bc 117 .lss 116 (V.int 0),mv 118 117,xg 119 (.faddr 6 (.t 1)) 118 false,xg 120 (.load false 1 (.t 119)) 118 false,mg 121 7 118 false,xg 122 (.iaddr 1 (.t 120) (.t 121)) 118 false,xg 123 (.load false 1 (.t 122)) 118 false,xg 124 (.bin .gtr (.t 123) (.c (V.int 2147483648))) 118 false,xo 125 (.pick (.t 118) (.c (V.bool true)) (.t 124)),mv 126 125,mg 127 7 126 false,xg 128 (.bin .gtr (.t 127) (.c (V.int 0))) 126 false,mg 129 128 126 false,xg 130 (.faddr 6 (.t 1)) 129 true,xg 131 (.load false 1 (.t 130)) 129 true,mg 132 7 129 true,xg 133 (.bin .sub (.t 132) (.c (V.int 1))) 129 true,xg 134 (.iaddr 1 (.t 131) (.t 133)) 129 true,xg 135 (.load false 1 (.t 134)) 129 true,xg 136 (.faddr 6 (.t 1)) 129 true,xg 137 (.load false 1 (.t 136)) 129 true,mg 138 7 129 true,xg 139 (.iaddr 1 (.t 137) (.t 138)) 129 true,xg 140 (.load false 1 (.t 139)) 129 true,xg 141 (.bin .geq (.t 135) (.t 140)) 129 true,xg 142 (.pick (.t 129) (.t 141) (.c (V.bool false))) 126 false,xo 143 (.pick (.t 126) (.c (V.bool true)) (.t 142))]
def aeb:List (List Nat):=[[],[0],[],[1,2],[3],[4],[5],[6],[7,6],[6],[8,9,6],[10,6],[11,6],[6,12],[13,6],[14],[15,14],[16,14,14],[17],[18,17],[17],[20,17],[19,21,17],[22,17],[17],[24,17],[17],[25,26,17],[27,17],[23,28,17],[17,29,14],[14,30]]
def ac4:OT:=.one 0 (.one 1 (.one 2 (.one 3 (.one 4 (.one 5 (.one 6 (.one 7 (.one 8 (.one 9 (.one 10 (.one 11 (.one 12 (.one 13 (.one 14 (.one 15 (.one 16 (.one 17 (.one 18 (.one 19 (.one 20 (.one 21 (.one 22 (.one 23 (.one 24 (.one 25 (.one 26 (.one 27 (.one 28 (.one 29 (.one 30 (.one 31 .done)))))))))))))))))))))))))))))))
@[go_sem] def adh:OP:=oN 0 (fa 112 6 1) (oN 1 (ld 113 1 112) (oN 2 (mv 114 7) (oN 3 (ia 115 1 113 114) (oN 4 (ld 116 1 115) (oN 5 (bc 117 .lss 116 (V.int 0)) (oN 6 (mv 118 117) (oN 7 (xg 119 (.faddr 6 (.t 1)) 118 false) (oN 8 (xg 120 (.load false 1 (.t 119)) 118 false) (oN 9 (mg 121 7 118 false) (oN 10 (xg 122 (.iaddr 1 (.t 120) (.t 121)) 118 false) (oN 11 (xg 123 (.load false 1 (.t 122)) 118 false) (oN 12 (xg 124 (.bin .gtr (.t 123) (.c (V.int 2147483648))) 118 false) (oN 13 (xo 125 (.pick (.t 118) (.c (V.bool true)) (.t 124))) (oN 14 (mv 126 125) (oN 15 (mg 127 7 126 false) (oN 16 (xg 128 (.bin .gtr (.t 127) (.c (V.int 0))) 126 false) (oN 17 (mg 129 128 126 false) (oN 18 (xg 130 (.faddr 6 (.t 1)) 129 true) (oN 19 (xg 131 (.load false 1 (.t 130)) 129 true) (oN 20 (mg 132 7 129 true) (oN 21 (xg 133 (.bin .sub (.t 132) (.c (V.int 1))) 129 true) (oN 22 (xg 134 (.iaddr 1 (.t 131) (.t 133)) 129 true) (oN 23 (xg 135 (.load false 1 (.t 134)) 129 true) (oN 24 (xg 136 (.faddr 6 (.t 1)) 129 true) (oN 25 (xg 137 (.load false 1 (.t 136)) 129 true) (oN 26 (mg 138 7 129 true) (oN 27 (xg 139 (.iaddr 1 (.t 137) (.t 138)) 129 true) (oN 28 (xg 140 (.load false 1 (.t 139)) 129 true) (oN 29 (xg 141 (.bin .geq (.t 135) (.t 140)) 129 true) (oN 30 (xg 142 (.pick (.t 129) (.t 141) (.c (V.bool false))) 126 false) (oN 31 (xo 143 (.pick (.t 126) (.c (V.bool true)) (.t 142))) .done)))))))))))))))))))))))))))))))
instance:RG [] ac4 (adh) (adr) aeb 32 (fun _=>true):=⟨rfl,by kernel_rfl,by kernel_rfl⟩
def adq (Ja:Nat):List AO:=[fa 151 7 1,ld 152 1 151,mv 153 8,ia 154 1 152 153,ld 155 1 154,cl 156 Ja [155],bc 157 .neq 156 (V.int 1),mv 158 157,mg 159 8 158 false,xg 160 (.bin .gtr (.t 159) (.c (V.int 0))) 158 false,mg 161 160 158 false,xg 162 (.faddr 7 (.t 1)) 161 true,xg 163 (.load false 1 (.t 162)) 161 true,mg 164 8 161 true,xg 165 (.bin .sub (.t 164) (.c (V.int 1))) 161 true,xg 166 (.iaddr 1 (.t 163) (.t 165)) 161 true,xg 167 (.load false 1 (.t 166)) 161 true,xg 168 (.faddr 7 (.t 1)) 161 true,xg 169 (.load false 1 (.t 168)) 161 true,mg 170 8 161 true,xg 171 (.iaddr 1 (.t 169) (.t 170)) 161 true,xg 172 (.load false 1 (.t 171)) 161 true,xg 173 (.bin .geq (.t 167) (.t 172)) 161 true,xg 174 (.pick (.t 161) (.t 173) (.c (V.bool false))) 158 false,xo 175 (.pick (.t 158) (.c (V.bool true)) (.t 174))]
def aea:List (List Nat):=[[],[0],[],[1,2],[3],[4],[5],[6,5],[7],[8,7],[9,7,7],[10],[11,10],[10],[13,10],[12,14,10],[15,10],[10],[17,10],[10],[18,19,10],[20,10],[16,21,10],[10,22,7],[7,23]]
def ac3:OT:=.one 0 (.one 1 (.one 2 (.one 3 (.one 4 (.one 5 (.one 6 (.one 7 (.one 8 (.one 9 (.one 10 (.one 11 (.one 12 (.one 13 (.one 14 (.one 15 (.one 16 (.one 17 (.one 18 (.one 19 (.one 20 (.one 21 (.one 22 (.one 23 (.one 24 .done))))))))))))))))))))))))
@[go_sem] def adg (Ja:Nat):OP:=oN 0 (fa 151 7 1) (oN 1 (ld 152 1 151) (oN 2 (mv 153 8) (oN 3 (ia 154 1 152 153) (oN 4 (ld 155 1 154) (oN 5 (cl 156 Ja [155]) (oN 6 (bc 157 .neq 156 (V.int 1)) (oN 7 (mv 158 157) (oN 8 (mg 159 8 158 false) (oN 9 (xg 160 (.bin .gtr (.t 159) (.c (V.int 0))) 158 false) (oN 10 (mg 161 160 158 false) (oN 11 (xg 162 (.faddr 7 (.t 1)) 161 true) (.one 12 false [5] (xg 163 (.load false 1 (.t 162)) 161 true) (oN 13 (mg 164 8 161 true) (oN 14 (xg 165 (.bin .sub (.t 164) (.c (V.int 1))) 161 true) (.one 15 false [5] (xg 166 (.iaddr 1 (.t 163) (.t 165)) 161 true) (.one 16 false [5] (xg 167 (.load false 1 (.t 166)) 161 true) (oN 17 (xg 168 (.faddr 7 (.t 1)) 161 true) (.one 18 false [5] (xg 169 (.load false 1 (.t 168)) 161 true) (oN 19 (mg 170 8 161 true) (.one 20 false [5] (xg 171 (.iaddr 1 (.t 169) (.t 170)) 161 true) (.one 21 false [5] (xg 172 (.load false 1 (.t 171)) 161 true) (oN 22 (xg 173 (.bin .geq (.t 167) (.t 172)) 161 true) (oN 23 (xg 174 (.pick (.t 161) (.t 173) (.c (V.bool false))) 158 false) (oN 24 (xo 175 (.pick (.t 158) (.c (V.bool true)) (.t 174))) .done))))))))))))))))))))))))
instance (Ja:Nat):RG [] ac3 (adg Ja) (adq Ja) aea 25 (fun _=>true):=⟨rfl,by kernel_rfl,by kernel_rfl⟩
def ab1 (aad JX QQ Yr Ja:Nat):AC:=Qa [1] (.reg [xo 1 (.box true 9 (.t 0)),mc 2 (V.int 0)]) (Qa [1] (Qa [1,47] (.reg [fa 9 0 1,ld 10 1 9,cl 11 aad [10],xo 12 (.un .not (.t 11)),mv 13 12,xg 14 (.faddr 1 (.t 1)) 13 false,xg 15 (.load false 1 (.t 14)) 13 false,xg 16 (.bin .lss (.t 15) (.c (V.int 1))) 13 false,xo 17 (.pick (.t 13) (.c (V.bool true)) (.t 16)),mv 18 17,xg 19 (.faddr 1 (.t 1)) 18 false,xg 20 (.load false 1 (.t 19)) 18 false,xg 21 (.faddr 2 (.t 1)) 18 false,xg 22 (.load false 1 (.t 21)) 18 false,xg 23 (.bin .gtr (.t 20) (.t 22)) 18 false,xo 24 (.pick (.t 18) (.c (V.bool true)) (.t 23)),mv 25 24,xg 26 (.faddr 2 (.t 1)) 25 false,xg 27 (.load false 1 (.t 26)) 25 false,xg 28 (.bin .gtr (.t 27) (.c (V.int 4))) 25 false,xo 29 (.pick (.t 25) (.c (V.bool true)) (.t 28)),mv 30 29,xg 31 (.faddr 3 (.t 1)) 30 false,xg 32 (.load false 1 (.t 31)) 30 false,xg 33 (.lenL (.t 32)) 30 false,xg 34 (.bin .gtr (.t 33) (.c (V.int 16))) 30 false,xo 35 (.pick (.t 30) (.c (V.bool true)) (.t 34)),mv 36 35,xg 37 (.faddr 5 (.t 1)) 36 false,xg 38 (.load false 1 (.t 37)) 36 false,xg 39 (.lenL (.t 38)) 36 false,xg 40 (.bin .gtr (.t 39) (.c (V.int 4))) 36 false,xo 41 (.pick (.t 36) (.c (V.bool true)) (.t 40)),mv 42 41,xg 43 (.faddr 6 (.t 1)) 42 false,xg 44 (.load false 1 (.t 43)) 42 false,xg 45 (.lenL (.t 44)) 42 false,xg 46 (.bin .gtr (.t 45) (.c (V.int 16))) 42 false,xo 47 (.pick (.t 42) (.c (V.bool true)) (.t 46))]) (.cond (.t 47) (Qa [2] (.reg [mc 2 (V.int 19)]) .ret) .skip)) (Qa [1] (Qa [1,3] (.reg [mc 3 (V.int 0)]) (.block 0 (JH [1,3] (Qa [1,3] (Qa [1,3,52] (.reg [mv 48 3,fa 49 3 1,ld 50 1 49,ln 51 50,bn 52 .lss 48 51]) (.cond (.t 52) .skip (.exit 0))) (Qa [1,3] (.block 1 (Qa [1,3,5] (.reg [fa 56 3 1,ld 57 1 56,mv 58 3,ia 59 1 57 58,ld 60 1 59,cl 61 JX [60],mv 55 61,ex 62 55 0,ex 63 55 1,xo 4 (.alloc [.val vi0,.val vs0,.val vi0,.val vi0,.val vi0,.val vi0,.val vi0,.val vi0,.val vi0,.val vi0,.val vi0,.val vi0]),xs 12 4 62,mv 5 63]) (Qa [1,3,77] (yh [] ac6 (adj QQ) (adt QQ) aed) (.cond (.t 77) (Qa [2] (.reg [mc 2 (V.int 19)]) .ret) .skip)))) (.reg [mv 53 3,bc 54 .add 53 (V.int 1),mv 3 54])))))) (Qa [1] (Qa [1,6] (.reg [mc 6 (V.int 0)]) (.block 2 (JH [1,6] (Qa [1,6] (Qa [1,6,82] (.reg [mv 78 6,fa 79 5 1,ld 80 1 79,ln 81 80,bn 82 .lss 78 81]) (.cond (.t 82) .skip (.exit 2))) (Qa [1,6] (.block 3 (Qa [1,6,104] (yh [] ac5 (adi Yr) (ads Yr) aec) (.cond (.t 104) (Qa [2] (.reg [mc 2 (V.int 19)]) .ret) .skip))) (.reg [mv 83 6,bc 84 .add 83 (V.int 1),mv 6 84])))))) (Qa [1] (Qa [1,7] (.reg [mc 7 (V.int 0)]) (.block 4 (JH [1,7] (Qa [1,7] (Qa [1,7,109] (.reg [mv 105 7,fa 106 6 1,ld 107 1 106,ln 108 107,bn 109 .lss 105 108]) (.cond (.t 109) .skip (.exit 4))) (Qa [1,7] (.block 5 (Qa [1,7,143] (yh [] ac4 (adh) (adr) aeb) (.cond (.t 143) (Qa [2] (.reg [mc 2 (V.int 19)]) .ret) .skip))) (.reg [mv 110 7,bc 111 .add 110 (V.int 1),mv 7 111])))))) (Qa [] (Qa [1,8] (.reg [mc 8 (V.int 0)]) (.block 6 (JH [1,8] (Qa [1,8] (Qa [1,8,148] (.reg [mv 144 8,fa 145 7 1,ld 146 1 145,ln 147 146,bn 148 .lss 144 147]) (.cond (.t 148) .skip (.exit 6))) (Qa [1,8] (.block 7 (Qa [1,8,175] (yh [] ac3 (adg Ja) (adq Ja) aea) (.cond (.t 175) (Qa [2] (.reg [mc 2 (V.int 19)]) .ret) .skip))) (.reg [mv 149 8,bc 150 .add 149 (V.int 1),mv 8 150])))))) (Qa [2] (.reg [mc 2 (V.int 0)]) .ret)))))) def r_ref09_Check:List Jl:=[.tmp 2]
def jS (Γ:Env) (f:Nat):Prop:=∀ (e:QL) (sm:e.Sm),EvN Γ f [e.v] (V.int (if JS e = true then 0 else 19))
attribute [local go_sem] QL.cells QI.cells QI.v eSt QZ in
theorem alU {Γ:Env} {f aad JX QQ Yr Ja:Nat} (h:Has Γ.P f 176 (ab1 aad JX QQ Yr Ja) r_ref09_Check) (z0:acs Γ aad) (z2:UZ Γ JX) (z3:yg Γ QQ) (z4:aaX Γ Yr) (z5:qC Γ Ja):jS Γ f:=by
 intro e sm
 refine Qe h zsi zcl zcl fun C hC hm=>?_
 subst hC
 unfold ab1
 have hw:=(z0 e.name sm.hn).b
 have no:JS e = false→(if JS e = true then (0:Int) else 19) = 19:=fun h=>by rw [h];rfl
 have lm0:(e.suites.map V.int).length = e.suites.length:=List.length_map _
 have lm1:(e.idents.map QI.v).length = e.idents.length:=List.length_map _
 have lm2:(e.anchors.map V.int).length = e.anchors.length:=List.length_map _
 have lm3:(e.hashes.map V.int).length = e.hashes.length:=List.length_map _
 simp only [QL.v,QL.cells]
 refine Ve fun K' hK=>?_
 simp (maxSteps:=1000000) only [go_sem]
 refine hK _ ?_
 clear hK
 clear K'
 (try simp only [go_sem])
 refine YO (ι:=Unit) (fun _=>aby e.name = true∧1≤e.least∧e.least≤e.most∧e.most≤4∧e.suites.length≤16∧e.idents.length≤4∧e.anchors.length≤16) (fun _=>eSt e) (fun K' hK'=>?_) (fun _ hg=>?_)
 ·rcases b1:aby e.name with _|_
  ·rw [b1] at hw
   rw [no (by simp [JS,apF,b1])]
   exact zg
  rw [b1] at hw
  by_cases b2:e.least < 1
  ·have e2:decide (e.least < 1) = true:=decide_eq_true b2
   rw [no (by simp [JS,apF];intros;omega)]
   (have zx:=e2);exact zg
  have e2:decide (e.least < 1) = false:=decide_eq_false b2
  by_cases b3:e.least > e.most
  ·have e3:decide (e.least > e.most) = true:=decide_eq_true b3
   rw [no (by simp [JS,apF];intros;omega)]
   (have zx:=And.intro e2 e3);exact zg
  have e3:decide (e.least > e.most) = false:=decide_eq_false b3
  by_cases b4:e.most > 4
  ·have e4:decide (e.most > 4) = true:=decide_eq_true b4
   rw [no (by simp [JS,apF];intros;omega)]
   (have zx:=And.intro e2 (And.intro e3 e4));exact zg
  have e4:decide (e.most > 4) = false:=decide_eq_false b4
  by_cases b5:(e.suites.length:Int) > 16
  ·have e5:decide ((e.suites.length:Int) > 16) = true:=decide_eq_true b5
   rw [no (aiN (by
    rcases hq:WY e.suites with _|_
    ·rfl
    ·have:=ai9 hq;omega))]
   (have zx:=And.intro e2 (And.intro e3 (And.intro e4 (And.intro lm0 e5))));exact zg
  have e5:decide ((e.suites.length:Int) > 16) = false:=decide_eq_false b5
  by_cases b6:(e.idents.length:Int) > 4
  ·have e6:decide ((e.idents.length:Int) > 4) = true:=decide_eq_true b6
   rw [no (by have:anS e = false:=(by rw [anS,decide_eq_false (by omega:¬ (e.idents.length:Int)≤4),Bool.false_and]);simp [JS,this])]
   (have zx:=And.intro e2 (And.intro e3 (And.intro e4 (And.intro lm0 (And.intro e5 (And.intro lm1 e6))))));exact zg
  have e6:decide ((e.idents.length:Int) > 4) = false:=decide_eq_false b6
  by_cases b7:(e.anchors.length:Int) > 16
  ·have e7:decide ((e.anchors.length:Int) > 16) = true:=decide_eq_true b7
   rw [no (by have:anS e = false:=(by rw [anS,decide_eq_false (by omega:¬ (e.anchors.length:Int)≤16)];simp);simp [JS,this])]
   (have zx:=And.intro e2 (And.intro e3 (And.intro e4 (And.intro lm0 (And.intro e5 (And.intro lm1 (And.intro e6 (And.intro lm2 e7))))))));exact zg
  have e7:decide ((e.anchors.length:Int) > 16) = false:=decide_eq_false b7
  (have zx:=And.intro e2 (And.intro e3 (And.intro e4 (And.intro lm0 (And.intro e5 (And.intro lm1 (And.intro e6 (And.intro lm2 e7))))))));refine zgo ?_;repeat' first|exact zt|apply zan|intro hc
  all_goals first|exact hK' _ () (Qk []) ⟨b1,by omega,by omega,by omega,by omega,by omega,by omega⟩ (QR [] (by simp only [go_sem,zwl,eSt,QZ,QL.cells]<;>exact zcc) (by simp only [go_sem,zwl,eSt,QZ,QL.cells]<;>exact zcc) (by simp [eSt,QZ]) (by simp [eSt,QZ]) (by omega))
 obtain ⟨g1,g2,g3,g4,g5,g6,g7⟩:=hg
 refine YO (ι:=Unit) (fun _=>WY e.suites = true) (fun _=>eSt e) (fun K' hK'=>?_) (fun _ g8=>?_)
 ·refine zgo ?_;repeat' first|exact zt|apply zan|intro hc
  refine QP (ι:=Nat) (fun k=>k≤e.suites.length∧(e.suites.take k).any aeY = false∧(e.suites.take k).Nodup) (fun k=>[(3,V.int k)]) (fun k=>e.suites.length - k) 0 (by omega) ⟨Nat.zero_le _,rfl,List.nodup_nil⟩ (by repeat' first|exact Q8|refine JD (by omega) (by simp only [Ob.lt,ltL,V.lt,and_self,and_true];try omega) ?_) (fun i hi=>by simp only [ovT,Ji,Nat.reduceEqDiff,reduceIte];(repeat' first|exact JC|refine Q7 ?_ ?_|simp only [V.lt,ltL,and_self,and_true]|omega)) zet fun k hk K2 hL=>?_
  obtain ⟨hk,hg,hnd⟩:=hk
  simp only [ovT,Ji,Nat.reduceEqDiff,reduceIte]
  rcases hd:e.suites.drop k with _|⟨x,r⟩
  ·have hkl:=Qs hd
   have e1:decide ((k:Int) < ((e.suites.length:Nat):Int)) = false:=by simp;omega
   rw [List.take_of_length_le hkl] at hg hnd
   have hf:WY e.suites = true:=by simp [WY,hg,hnd]
   (have zx:=And.intro e1 lm0);refine zgo ?_;repeat' first|exact zt|apply zan|intro hc
   all_goals first|exact hK' _ () (Qk []) hf (QR [] (by simp only [go_sem,zwl,eSt,QZ,QL.cells]<;>exact zcc) (by simp only [go_sem,zwl,eSt,QZ,QL.cells]<;>exact zcc) (by simp [eSt,QZ]) (by simp [eSt,QZ]) (by omega))
  ·obtain ⟨hk',hget,hr⟩:=Ql hd
   have hwk:=Qj (k:=k) (by omega)
   have e1:decide ((k:Int) < ((e.suites.length:Nat):Int)) = true:=by simp;omega
   have hsu:=(z2 x).b
   have hA:List.take (k - 0) (e.suites.map V.int) = (e.suites.take k).map V.int:=by rw [Nat.sub_zero,List.map_take]
   have hc1:=(z3 (e.suites.take k) x (by rw [List.length_take];omega)).b
   by_cases hx:1≤x∧x≤16
   ·have hsv:Xo x = .tup [(Yd x).v,V.int 0]:=by rw [Xo,if_pos hx]
    rw [hsv] at hsu
    simp only [QG.v,QG.cells] at hsu
    by_cases hin:x∈e.suites.take k
    ·rw [show (e.suites.take k).contains x = true by simpa using hin] at hc1
     rw [no (aiN (agN fun h=>adx h hget hin))]
     (have zx:=And.intro e1 (And.intro hwk (And.intro lm0 (And.intro hget hA))));exact zg
    ·rw [show (e.suites.take k).contains x = false by simpa using hin] at hc1
     have hg2:(e.suites.take (k + 1)).any aeY = false:=by
      rw [List.take_add_one,hget,List.any_append,hg];simp [aeY];omega
     have hnd2:(e.suites.take (k + 1)).Nodup:=by
      rw [List.take_add_one,hget]
      exact List.nodup_append.2 ⟨hnd,by simp,fun a ha b hb e=>by simp at hb;subst hb;subst e;exact hin ha⟩
     (have zx:=And.intro e1 (And.intro hwk (And.intro lm0 (And.intro hget hA))));refine zgo ?_;repeat' first|exact zt|apply zan|intro hc
     all_goals first|exact hL _ (k + 1) zet ⟨by omega,hg2,hnd2⟩ (by omega) (fun a ha=>by simp only [u32,u33,u34,u35,u36,u37,u38,u39];repeat rw [if_neg (by omega)])
   ·have hbx:aeY x = true:=by simp [aeY];omega
    rw [no (aiN (akc (List.mem_of_getElem? hget) hbx))]
    have hsv:Xo x = .tup [acF.v,V.int 8]:=by rw [Xo,if_neg hx,Yd,if_neg hx]
    rw [hsv] at hsu
    simp only [QG.v,QG.cells,acF] at hsu
    (have zx:=And.intro e1 (And.intro hwk (And.intro lm0 (And.intro hget hA))));exact zg
 refine YO (ι:=Unit) (fun _=>e.idents.all QI.ok = true) (fun _=>eSt e) (fun K' hK'=>?_) (fun _ g9=>?_)
 ·refine zgo ?_;repeat' first|exact zt|apply zan|intro hc
  refine QP (ι:=Nat) (fun k=>k≤e.idents.length∧(e.idents.take k).all QI.ok = true) (fun k=>[(6,V.int k)]) (fun k=>e.idents.length - k) 0 (by omega) ⟨Nat.zero_le _,rfl⟩ (by repeat' first|exact Q8|refine JD (by omega) (by simp only [Ob.lt,ltL,V.lt,and_self,and_true];try omega) ?_) (fun i hi=>by simp only [ovT,Ji,Nat.reduceEqDiff,reduceIte];(repeat' first|exact JC|refine Q7 ?_ ?_|simp only [V.lt,ltL,and_self,and_true]|omega)) zet fun k hk K2 hL=>?_
  obtain ⟨hk,hinv⟩:=hk
  simp only [ovT,Ji,Nat.reduceEqDiff,reduceIte]
  rcases hd:e.idents.drop k with _|⟨x,r⟩
  ·have hkl:=Qs hd
   have e1:decide ((k:Int) < ((e.idents.length:Nat):Int)) = false:=by simp;omega
   rw [List.take_of_length_le hkl] at hinv
   (have zx:=And.intro e1 lm1);refine zgo ?_;repeat' first|exact zt|apply zan|intro hc
   all_goals first|exact hK' _ () (Qk []) hinv (QR [] (by simp only [go_sem,zwl,eSt,QZ,QL.cells]<;>exact zcc) (by simp only [go_sem,zwl,eSt,QZ,QL.cells]<;>exact zcc) (by simp [eSt,QZ]) (by simp [eSt,QZ]) (by omega))
  ·obtain ⟨hk',hget,hr⟩:=Ql hd
   have hwk:=Qj (k:=k) (by omega)
   have e1:decide ((k:Int) < ((e.idents.length:Nat):Int)) = true:=by simp;omega
   have hm:=List.mem_of_getElem? hget
   have hsh:=(z4 x.kalg x.kbits x.kid x.chain (sm.hx x hm).hl (sm.hx x hm).hc).b
   rcases hcb:QI.ok x with _|_
   ·have hcc:yi x.kalg x.kbits x.kid x.chain = false:=hcb
    rw [hcc] at hsh
    rw [no (atW hm hcb)]
    (have zx:=And.intro e1 (And.intro hwk (And.intro lm1 hget)));exact zg
   ·have hcc:yi x.kalg x.kbits x.kid x.chain = true:=hcb
    rw [hcc] at hsh
    (have zx:=And.intro e1 (And.intro hwk (And.intro lm1 hget)));refine zgo ?_;repeat' first|exact zt|apply zan|intro hc
    all_goals first|exact hL _ (k + 1) zet ⟨by omega,ahO hget hinv hcb⟩ (by omega) (fun a ha=>by simp only [u32,u33,u34,u35,u36,u37,u38,u39];repeat rw [if_neg (by omega)])
 refine YO (ι:=Unit) (fun _=>okP aeH ltI e.anchors e.anchors.length = true) (fun _=>eSt e) (fun K' hK'=>?_) (fun _ g10=>?_)
 ·refine zgo ?_;repeat' first|exact zt|apply zan|intro hc
  refine QP (ι:=Nat) (fun k=>k≤e.anchors.length∧okP aeH ltI e.anchors k = true) (fun k=>[(7,V.int k)]) (fun k=>e.anchors.length - k) 0 (by omega) ⟨Nat.zero_le _,rfl⟩ (by repeat' first|exact Q8|refine JD (by omega) (by simp only [Ob.lt,ltL,V.lt,and_self,and_true];try omega) ?_) (fun i hi=>by simp only [ovT,Ji,Nat.reduceEqDiff,reduceIte];(repeat' first|exact JC|refine Q7 ?_ ?_|simp only [V.lt,ltL,and_self,and_true]|omega)) zet fun k hk K2 hL=>?_
  obtain ⟨hk,hinv⟩:=hk
  simp only [ovT,Ji,Nat.reduceEqDiff,reduceIte]
  rcases hd:e.anchors.drop k with _|⟨x,r⟩
  ·have hkl:=Qs hd
   have e1:decide ((k:Int) < ((e.anchors.length:Nat):Int)) = false:=by simp;omega
   have hkk:k = e.anchors.length:=by omega
   rw [hkk] at hinv
   (have zx:=And.intro e1 lm2);refine zgo ?_;repeat' first|exact zt|apply zan|intro hc
   all_goals first|exact hK' _ () (Qk []) hinv (QR [] (by simp only [go_sem,zwl,eSt,QZ,QL.cells]<;>exact zcc) (by simp only [go_sem,zwl,eSt,QZ,QL.cells]<;>exact zcc) (by simp [eSt,QZ]) (by simp [eSt,QZ]) (by omega))
  ·obtain ⟨hk',hget,hr⟩:=Ql hd
   have hwk:=Qj (k:=k) (by omega)
   have e1:decide ((k:Int) < ((e.anchors.length:Nat):Int)) = true:=by simp;omega
   skip
   rcases hx:aeH x with _|_
   ·have hb:okP aeH ltI e.anchors (k + 1) = false:=by rw [vX,hget];simp [hx]
    rw [no (amW hb (by omega))]
    by_cases z1:x < 0
    ·have y1:decide (x < 0) = true:=decide_eq_true z1
     (have zx:=And.intro e1 (And.intro y1 (And.intro hwk (And.intro lm2 hget))));exact zg
    have y1:decide (x < 0) = false:=decide_eq_false z1
    have y2:decide (x > 2147483648) = true:=decide_eq_true (by simp [aeH] at hx;omega)
    (have zx:=And.intro e1 (And.intro y1 (And.intro y2 (And.intro hwk (And.intro lm2 hget)))));exact zg
   ·have hx2:=hx
    simp only [aeH,Bool.and_eq_true,decide_eq_true_eq] at hx2
    have y1:decide (x < 0) = false:=decide_eq_false (by omega)
    have y2:decide (x > 2147483648) = false:=decide_eq_false (by omega)
    rcases k with _|k
    ·have hw0:IntKind.i64.wrap 1 = ((1:Nat):Int):=by decide
     have hg1:okP aeH ltI e.anchors (0 + 1) = true:=by rw [akz hget,hx]
     have e2:decide (((0:Nat):Int) > 0) = false:=rfl
     (have zx:=And.intro e1 (And.intro e2 (And.intro hwk (And.intro hw0 (And.intro lm2 (And.intro y1 (And.intro y2 hget)))))));refine zgo ?_;repeat' first|exact zt|apply zan|intro hc
     all_goals first|exact hL _ 1 zet ⟨by omega,hg1⟩ (by omega) (fun a ha=>by simp only [u32,u33,u34,u35,u36,u37,u38,u39];repeat rw [if_neg (by omega)])
    ·have e2:decide (((k + 1:Nat):Int) > 0) = true:=decide_eq_true (by omega)
     have hw2:IntKind.i64.wrap (((k + 1:Nat):Int) - 1) = (k:Int):=by rw [Yv (by omega) (by omega)];omega
     obtain ⟨y,hgy⟩:∃ y,e.anchors[k]? = some y:=⟨_,List.getElem?_eq_getElem (by omega)⟩
     have hnext:=agV (p:=aeH) (q:=ltI) hget hgy
     rw [hinv,hx] at hnext
     by_cases hb:y < x
     ·have e3:decide (y≥x) = false:=decide_eq_false (by omega)
      (have zx:=And.intro e1 (And.intro e2 (And.intro e3 (And.intro hwk (And.intro hw2 (And.intro lm2 (And.intro y1 (And.intro y2 (And.intro hget hgy)))))))));refine zgo ?_;repeat' first|exact zt|apply zan|intro hc
      all_goals first|exact hL _ (k + 2) zet ⟨by omega,by rw [hnext];simp [ltI,hb]⟩ (by omega) (fun a ha=>by simp only [u32,u33,u34,u35,u36,u37,u38,u39];repeat rw [if_neg (by omega)])
     ·have e3:decide (y≥x) = true:=decide_eq_true (by omega)
      rw [no (amW (k:=k + 2) (by rw [hnext];simp [ltI,hb]) (by omega))]
      (have zx:=And.intro e1 (And.intro e2 (And.intro e3 (And.intro hwk (And.intro hw2 (And.intro lm2 (And.intro y1 (And.intro y2 (And.intro hget hgy)))))))));exact zg
 have hshh:=sm.hh
 ·refine zgo ?_;repeat' first|exact zt|apply zan|intro hc
  refine QP (ι:=Nat) (fun k=>k≤e.hashes.length∧okP afN ltI e.hashes k = true) (fun k=>[(8,V.int k)]) (fun k=>e.hashes.length - k) 0 (by omega) ⟨Nat.zero_le _,rfl⟩ (by repeat' first|exact Q8|refine JD (by omega) (by simp only [Ob.lt,ltL,V.lt,and_self,and_true];try omega) ?_) (fun i hi=>by simp only [ovT,Ji,Nat.reduceEqDiff,reduceIte];(repeat' first|exact JC|refine Q7 ?_ ?_|simp only [V.lt,ltL,and_self,and_true]|omega)) zet fun k hk K2 hL=>?_
  obtain ⟨hk,hinv⟩:=hk
  simp only [ovT,Ji,Nat.reduceEqDiff,reduceIte]
  rcases hd:e.hashes.drop k with _|⟨x,r⟩
  ·have hkl:=Qs hd
   have e1:decide ((k:Int) < ((e.hashes.length:Nat):Int)) = false:=by simp;omega
   have hkk:k = e.hashes.length:=by omega
   rw [hkk] at hinv
   rw [if_pos (awA g1 g2 g3 g4 g8 g6 g7 g9 g10 hinv)]
   (have zx:=And.intro e1 lm3);exact zg
  ·obtain ⟨hk',hget,hr⟩:=Ql hd
   have hwk:=Qj (k:=k) (by omega)
   have e1:decide ((k:Int) < ((e.hashes.length:Nat):Int)) = true:=by simp;omega
   have hki:=(z5 x).b
   rcases hx:afN x with _|_
   ·have hb:okP afN ltI e.hashes (k + 1) = false:=by rw [vX,hget];simp [hx]
    rw [no (aq1 hb (by omega))]
    have y1:((Jk x).kind != 1) = true:=by simpa [afN] using hx
    (have zx:=And.intro e1 (And.intro y1 (And.intro hwk (And.intro lm3 hget))));exact zg
   ·have y1:((Jk x).kind != 1) = false:=by simpa [afN] using hx
    rcases k with _|k
    ·have hw0:IntKind.i64.wrap 1 = ((1:Nat):Int):=by decide
     have hg1:okP afN ltI e.hashes (0 + 1) = true:=by rw [akz hget,hx]
     have e2:decide (((0:Nat):Int) > 0) = false:=rfl
     (have zx:=And.intro e1 (And.intro e2 (And.intro hwk (And.intro hw0 (And.intro lm3 (And.intro y1 hget))))));refine zgo ?_;repeat' first|exact zt|apply zan|intro hc
     all_goals first|exact hL _ 1 zet ⟨by omega,hg1⟩ (by omega) (fun a ha=>by simp only [u32,u33,u34,u35,u36,u37,u38,u39];repeat rw [if_neg (by omega)])
    ·have e2:decide (((k + 1:Nat):Int) > 0) = true:=decide_eq_true (by omega)
     have hw2:IntKind.i64.wrap (((k + 1:Nat):Int) - 1) = (k:Int):=by rw [Yv (by omega) (by omega)];omega
     obtain ⟨y,hgy⟩:∃ y,e.hashes[k]? = some y:=⟨_,List.getElem?_eq_getElem (by omega)⟩
     have hnext:=agV (p:=afN) (q:=ltI) hget hgy
     rw [hinv,hx] at hnext
     by_cases hb:y < x
     ·have e3:decide (y≥x) = false:=decide_eq_false (by omega)
      (have zx:=And.intro e1 (And.intro e2 (And.intro e3 (And.intro hwk (And.intro hw2 (And.intro lm3 (And.intro y1 (And.intro hget hgy))))))));refine zgo ?_;repeat' first|exact zt|apply zan|intro hc
      all_goals first|exact hL _ (k + 2) zet ⟨by omega,by rw [hnext];simp [ltI,hb]⟩ (by omega) (fun a ha=>by simp only [u32,u33,u34,u35,u36,u37,u38,u39];repeat rw [if_neg (by omega)])
     ·have e3:decide (y≥x) = true:=decide_eq_true (by omega)
      rw [no (aq1 (k:=k + 2) (by rw [hnext];simp [ltI,hb]) (by omega))]
      (have zx:=And.intro e1 (And.intro e2 (And.intro e3 (And.intro hwk (And.intro hw2 (And.intro lm3 (And.intro y1 (And.intro hget hgy))))))));exact zg
def eqL {α:Type} (p:α→α→Bool):List α→List α→Bool
 | [],[]=>true
 | x :: a,y :: b=>p x y && eqL p a b
 | _,_=>false
theorem abY {α:Type} {p:α→α→Bool}:∀ (a b:List α),¬ a.length = b.length→eqL p a b = false
 | [],[],h=>absurd rfl h
 | [],_ :: _,_=>rfl
 | _ :: _,[],_=>rfl
 | x :: a,y :: b,h=>by rw [eqL,abY a b (fun e=>h (by simp [e])),Bool.and_false]
def eqS (x y:List UInt8):Bool:=x == y
def eqI (x y:Int):Bool:=x == y
def cs1 (c d:Qw):Bool:=(c.serial == d.serial) && ((c.issuer == d.issuer) && ((c.subject == d.subject) && eqL eqS c.names d.names))
def cs2 (c d:Qw):Bool:=((c.kalg == d.kalg) && (c.kbits == d.kbits)) && ((c.kid == d.kid) && (((c.halg == d.halg) && (c.hbits == d.hbits)) && ((c.skey == d.skey) && (c.ssum == d.ssum))))
def cs3 (c d:Qw):Bool:=(c.from_ == d.from_) && ((c.to_ == d.to_) && ((c.auth == d.auth) && (c.path == d.path)))
def x6 (c d:Qw):Bool:=cs1 c d && (cs2 c d && cs3 c d)
def xZ (x y:QI):Bool:=((x.kalg == y.kalg) && (x.kbits == y.kbits)) && ((x.kid == y.kid) && eqL x6 x.chain y.chain)
def Ww:List AO:=[mv 16 0,mv 17 5,ia 18 1 16 17,ld 19 1 18,mv 20 1,mv 21 5,ia 22 1 20 21,ld 23 1 22,bn 24 .neq 19 23]
def Wy:List (List Nat):=[[],[],[0,1],[2],[],[],[4,5],[6],[3,7]]
def Wu:OT:=.one 0 (.one 1 (.one 2 (.one 3 (.one 4 (.one 5 (.one 6 (.one 7 (.one 8 .done))))))))
@[go_sem] def Wv:OP:=oN 0 (mv 16 0) (oN 1 (mv 17 5) (oN 2 (ia 18 1 16 17) (oN 3 (ld 19 1 18) (oN 4 (mv 20 1) (oN 5 (mv 21 5) (oN 6 (ia 22 1 20 21) (oN 7 (ld 23 1 22) (oN 8 (bn 24 .neq 19 23) .done))))))))
instance:RG [] Wu (Wv) (Ww) Wy 9 (fun _=>true):=⟨rfl,by kernel_rfl,by kernel_rfl⟩
def Xl:AC:=Qa [0,1] (.reg [mc 4 (V.bool false)]) (Qa [0,1] (Qa [0,1,10] (.reg [mv 6 0,ln 7 6,mv 8 1,ln 9 8,bn 10 .neq 7 9]) (.cond (.t 10) (Qa [4] (.reg [mc 4 (V.bool false)]) .ret) .skip)) (Qa [] (Qa [0,1,12,13] (.reg [mv 11 0,ln 12 11,mc 13 (V.int 0)]) (.block 0 (JH [0,1,12,13] (Qa [0,1,12,13,14] (.reg [bn 14 .lss 13 12]) (Qa [0,1,12,13] (.cond (.t 14) .skip (.exit 0)) (Qa [0,1,12,13] (.block 1 (Qa [0,1,5,12,13] (.reg [mv 15 13,mv 5 15]) (Qa [0,1,12,13,24] (yh [] Wu (Wv) (Ww) Wy) (.cond (.t 24) (Qa [4] (.reg [mc 4 (V.bool false)]) .ret) .skip)))) (.reg [bc 25 .add 13 (V.int 1),mv 13 25]))))))) (Qa [4] (.reg [mc 4 (V.bool true)]) .ret))) def r_slices_Equal___string_string:List Jl:=[.tmp 4]
def Y9 (Γ:Env) (f:Nat):Prop:=∀ (a b:List (List UInt8)) (ha:a.length < 2 ^ 60),EvN Γ f [.sl 1 (a.map V.str),.sl 1 (b.map V.str)] (V.bool (eqL eqS a b))
theorem qX {Γ:Env} {f:Nat} (h:Has Γ.P f 26 Xl r_slices_Equal___string_string) :Y9 Γ f:=by
 intro a b ha
 refine Qe h zsi zcl zcl fun C hC hm=>?_
 subst hC
 unfold Xl
 have lma:(a.map V.str).length = a.length:=List.length_map _
 have lmb:(b.map V.str).length = b.length:=List.length_map _
 by_cases hlen:a.length = b.length
 ·have e0:(((a.length:Nat):Int) != ((b.length:Nat):Int)) = false:=by simp [hlen]
  (have zx:=And.intro lma (And.intro lmb e0));refine zgo ?_;repeat' first|exact zt|apply zan|intro hc
  refine QP (ι:=Nat) (fun k=>k≤a.length∧eqL eqS (a.drop k) (b.drop k) = eqL eqS a b) (fun k=>[(13,V.int k)]) (fun k=>a.length - k) 0 (by omega) ⟨Nat.zero_le _,rfl⟩ (by repeat' first|exact Q8|refine JD (by omega) (by simp only [Ob.lt,ltL,V.lt,and_self,and_true];try omega) ?_) (fun i hi=>by simp only [ovT,Ji,Nat.reduceEqDiff,reduceIte];(repeat' first|exact JC|refine Q7 ?_ ?_|simp only [V.lt,ltL,and_self,and_true]|omega)) zet fun k hk K' hL=>?_
  obtain ⟨hk,hinv⟩:=hk
  simp only [ovT,Ji,Nat.reduceEqDiff,reduceIte]
  rcases hd:a.drop k with _|⟨y,r⟩
  ·have:=Qs hd
   have hd2:b.drop k = []:=List.drop_eq_nil_of_le (by omega)
   rw [hd,hd2] at hinv
   have e1:decide ((k:Int) < ((a.length:Nat):Int)) = false:=by simp;omega
   rw [← hinv,show eqL eqS [] [] = true from rfl]
   (have zx:=And.intro e1 lma);exact zg
  ·obtain ⟨hk',hget,hr⟩:=Ql hd
   have e1:decide ((k:Int) < ((a.length:Nat):Int)) = true:=by simp;omega
   rcases hd2:b.drop k with _|⟨z,r2⟩
   ·have:=Qs hd2;omega
   ·obtain ⟨hk2,hget2,hr2⟩:=Ql hd2
    rw [hd,hd2,eqL] at hinv
    have hw:=Qj (k:=k) (by omega)
    have hmy:=List.mem_of_getElem? hget
    have hmz:=List.mem_of_getElem? hget2
    skip
    rcases hyz:eqS y z with _|_
    ·rw [hyz,Bool.false_and] at hinv
     rw [← hinv]
     have e2:(y == z) = false:=hyz
     (have zx:=And.intro e1 (And.intro lma (And.intro hget (And.intro hget2 (And.intro hw e2)))));exact zg
    ·rw [hyz,Bool.true_and] at hinv
     have e2:(y == z) = true:=hyz
     (have zx:=And.intro e1 (And.intro lma (And.intro hget (And.intro hget2 (And.intro hw e2)))));refine zgo ?_;repeat' first|exact zt|apply zan|intro hc
     all_goals first|exact hL _ (k + 1) zet ⟨by omega,by rw [hr,hr2];exact hinv⟩ (by omega) (fun a ha=>by simp only [u32,u33,u34,u35,u36,u37,u38,u39];repeat rw [if_neg (by omega)])
 ·have e0:(((a.length:Nat):Int) != ((b.length:Nat):Int)) = true:=by simp;omega
  rw [abY a b hlen]
  (have zx:=And.intro lma (And.intro lmb e0));exact zg
def Uj:List AO:=[mv 16 0,mv 17 5,ia 18 1 16 17,ld 19 1 18,mv 20 1,mv 21 5,ia 22 1 20 21,ld 23 1 22,bn 24 .neq 19 23]
def Um:List (List Nat):=[[],[],[0,1],[2],[],[],[4,5],[6],[3,7]]
def Uf:OT:=.one 0 (.one 1 (.one 2 (.one 3 (.one 4 (.one 5 (.one 6 (.one 7 (.one 8 .done))))))))
@[go_sem] def Uh:OP:=oN 0 (mv 16 0) (oN 1 (mv 17 5) (oN 2 (ia 18 1 16 17) (oN 3 (ld 19 1 18) (oN 4 (mv 20 1) (oN 5 (mv 21 5) (oN 6 (ia 22 1 20 21) (oN 7 (ld 23 1 22) (oN 8 (bn 24 .neq 19 23) .done))))))))
instance:RG [] Uf (Uh) (Uj) Um 9 (fun _=>true):=⟨rfl,by kernel_rfl,by kernel_rfl⟩
def WH:AC:=Qa [0,1] (.reg [mc 4 (V.bool false)]) (Qa [0,1] (Qa [0,1,10] (.reg [mv 6 0,ln 7 6,mv 8 1,ln 9 8,bn 10 .neq 7 9]) (.cond (.t 10) (Qa [4] (.reg [mc 4 (V.bool false)]) .ret) .skip)) (Qa [] (Qa [0,1,12,13] (.reg [mv 11 0,ln 12 11,mc 13 (V.int 0)]) (.block 0 (JH [0,1,12,13] (Qa [0,1,12,13,14] (.reg [bn 14 .lss 13 12]) (Qa [0,1,12,13] (.cond (.t 14) .skip (.exit 0)) (Qa [0,1,12,13] (.block 1 (Qa [0,1,5,12,13] (.reg [mv 15 13,mv 5 15]) (Qa [0,1,12,13,24] (yh [] Uf (Uh) (Uj) Um) (.cond (.t 24) (Qa [4] (.reg [mc 4 (V.bool false)]) .ret) .skip)))) (.reg [bc 25 .add 13 (V.int 1),mv 13 25]))))))) (Qa [4] (.reg [mc 4 (V.bool true)]) .ret))) def r_slices_Equal___int_int:List Jl:=[.tmp 4]
def Wr (Γ:Env) (f:Nat):Prop:=∀ (a b:List Int) (ha:a.length < 2 ^ 60),EvN Γ f [.sl 1 (a.map V.int),.sl 1 (b.map V.int)] (V.bool (eqL eqI a b))
theorem aaC {Γ:Env} {f:Nat} (h:Has Γ.P f 26 WH r_slices_Equal___int_int) :Wr Γ f:=by
 intro a b ha
 refine Qe h zsi zcl zcl fun C hC hm=>?_
 subst hC
 unfold WH
 have lma:(a.map V.int).length = a.length:=List.length_map _
 have lmb:(b.map V.int).length = b.length:=List.length_map _
 by_cases hlen:a.length = b.length
 ·have e0:(((a.length:Nat):Int) != ((b.length:Nat):Int)) = false:=by simp [hlen]
  (have zx:=And.intro lma (And.intro lmb e0));refine zgo ?_;repeat' first|exact zt|apply zan|intro hc
  refine QP (ι:=Nat) (fun k=>k≤a.length∧eqL eqI (a.drop k) (b.drop k) = eqL eqI a b) (fun k=>[(13,V.int k)]) (fun k=>a.length - k) 0 (by omega) ⟨Nat.zero_le _,rfl⟩ (by repeat' first|exact Q8|refine JD (by omega) (by simp only [Ob.lt,ltL,V.lt,and_self,and_true];try omega) ?_) (fun i hi=>by simp only [ovT,Ji,Nat.reduceEqDiff,reduceIte];(repeat' first|exact JC|refine Q7 ?_ ?_|simp only [V.lt,ltL,and_self,and_true]|omega)) zet fun k hk K' hL=>?_
  obtain ⟨hk,hinv⟩:=hk
  simp only [ovT,Ji,Nat.reduceEqDiff,reduceIte]
  rcases hd:a.drop k with _|⟨y,r⟩
  ·have:=Qs hd
   have hd2:b.drop k = []:=List.drop_eq_nil_of_le (by omega)
   rw [hd,hd2] at hinv
   have e1:decide ((k:Int) < ((a.length:Nat):Int)) = false:=by simp;omega
   rw [← hinv,show eqL eqI [] [] = true from rfl]
   (have zx:=And.intro e1 lma);exact zg
  ·obtain ⟨hk',hget,hr⟩:=Ql hd
   have e1:decide ((k:Int) < ((a.length:Nat):Int)) = true:=by simp;omega
   rcases hd2:b.drop k with _|⟨z,r2⟩
   ·have:=Qs hd2;omega
   ·obtain ⟨hk2,hget2,hr2⟩:=Ql hd2
    rw [hd,hd2,eqL] at hinv
    have hw:=Qj (k:=k) (by omega)
    have hmy:=List.mem_of_getElem? hget
    have hmz:=List.mem_of_getElem? hget2
    skip
    rcases hyz:eqI y z with _|_
    ·rw [hyz,Bool.false_and] at hinv
     rw [← hinv]
     have e2:(y != z) = true:=by simpa [eqI] using hyz
     (have zx:=And.intro e1 (And.intro lma (And.intro hget (And.intro hget2 (And.intro hw e2)))));exact zg
    ·rw [hyz,Bool.true_and] at hinv
     have e2:(y != z) = false:=by simpa [eqI] using hyz
     (have zx:=And.intro e1 (And.intro lma (And.intro hget (And.intro hget2 (And.intro hw e2)))));refine zgo ?_;repeat' first|exact zt|apply zan|intro hc
     all_goals first|exact hL _ (k + 1) zet ⟨by omega,by rw [hr,hr2];exact hinv⟩ (by omega) (fun a ha=>by simp only [u32,u33,u34,u35,u36,u37,u38,u39];repeat rw [if_neg (by omega)])
 ·have e0:(((a.length:Nat):Int) != ((b.length:Nat):Int)) = true:=by simp;omega
  rw [abY a b hlen]
  (have zx:=And.intro lma (And.intro lmb e0));exact zg
def wk:List AO:=[mv 17 0,mv 18 5,ia 19 1 17 18,ld 20 1 19,mv 21 1,mv 22 5,ia 23 1 21 22,ld 24 1 23,bn 25 .neq 20 24]
def wX:List (List Nat):=[[],[],[0,1],[2],[],[],[4,5],[6],[3,7]]
def xU:OT:=.one 0 (.one 1 (.one 2 (.one 3 (.one 4 (.one 5 (.one 6 (.one 7 (.one 8 .done))))))))
@[go_sem] def wc:OP:=oN 0 (mv 17 0) (oN 1 (mv 18 5) (oN 2 (ia 19 1 17 18) (oN 3 (ld 20 1 19) (oN 4 (mv 21 1) (oN 5 (mv 22 5) (oN 6 (ia 23 1 21 22) (oN 7 (ld 24 1 23) (oN 8 (bn 25 .neq 20 24) .done))))))))
instance:RG [] xU (wc) (wk) wX 9 (fun _=>true):=⟨rfl,by kernel_rfl,by kernel_rfl⟩
def ji:AC:=Qa [0,1] (.reg [mc 4 (V.bool false)]) (Qa [0,1] (Qa [0,1,10] (.reg [mv 6 0,ln 7 6,mv 8 1,ln 9 8,bn 10 .neq 7 9]) (.cond (.t 10) (Qa [4] (.reg [mc 4 (V.bool false)]) .ret) .skip)) (Qa [] (Qa [0,1,5] (.reg [mc 5 (V.int 0)]) (.block 0 (JH [0,1,5] (Qa [0,1,5] (Qa [0,1,5,14] (.reg [mv 11 5,mv 12 0,ln 13 12,bn 14 .lss 11 13]) (.cond (.t 14) .skip (.exit 0))) (Qa [0,1,5] (.block 1 (Qa [0,1,5,25] (yh [] xU (wc) (wk) wX) (.cond (.t 25) (Qa [4] (.reg [mc 4 (V.bool false)]) .ret) .skip))) (.reg [mv 15 5,bc 16 .add 15 (V.int 1),mv 5 16])))))) (Qa [4] (.reg [mc 4 (V.bool true)]) .ret))) def r_ref02_SameTexts:List Jl:=[.tmp 4]
def VF (Γ:Env) (f:Nat):Prop:=∀ (a b:List (List UInt8)) (ha:a.length < 2 ^ 60),EvN Γ f [.sl 1 (a.map V.str),.sl 1 (b.map V.str)] (V.bool (eqL eqS a b))
theorem ahs {Γ:Env} {f:Nat} (h:Has Γ.P f 26 ji r_ref02_SameTexts) :VF Γ f:=by
 intro a b ha
 refine Qe h zsi zcl zcl fun C hC hm=>?_
 subst hC
 unfold ji
 have lma:(a.map V.str).length = a.length:=List.length_map _
 have lmb:(b.map V.str).length = b.length:=List.length_map _
 by_cases hlen:a.length = b.length
 ·have e0:(((a.length:Nat):Int) != ((b.length:Nat):Int)) = false:=by simp [hlen]
  (have zx:=And.intro lma (And.intro lmb e0));refine zgo ?_;repeat' first|exact zt|apply zan|intro hc
  refine QP (ι:=Nat) (fun k=>k≤a.length∧eqL eqS (a.drop k) (b.drop k) = eqL eqS a b) (fun k=>[(5,V.int k)]) (fun k=>a.length - k) 0 (by omega) ⟨Nat.zero_le _,rfl⟩ (by repeat' first|exact Q8|refine JD (by omega) (by simp only [Ob.lt,ltL,V.lt,and_self,and_true];try omega) ?_) (fun i hi=>by simp only [ovT,Ji,Nat.reduceEqDiff,reduceIte];(repeat' first|exact JC|refine Q7 ?_ ?_|simp only [V.lt,ltL,and_self,and_true]|omega)) zet fun k hk K' hL=>?_
  obtain ⟨hk,hinv⟩:=hk
  simp only [ovT,Ji,Nat.reduceEqDiff,reduceIte]
  rcases hd:a.drop k with _|⟨y,r⟩
  ·have:=Qs hd
   have hd2:b.drop k = []:=List.drop_eq_nil_of_le (by omega)
   rw [hd,hd2] at hinv
   have e1:decide ((k:Int) < ((a.length:Nat):Int)) = false:=by simp;omega
   rw [← hinv,show eqL eqS [] [] = true from rfl]
   (have zx:=And.intro e1 lma);exact zg
  ·obtain ⟨hk',hget,hr⟩:=Ql hd
   have e1:decide ((k:Int) < ((a.length:Nat):Int)) = true:=by simp;omega
   rcases hd2:b.drop k with _|⟨z,r2⟩
   ·have:=Qs hd2;omega
   ·obtain ⟨hk2,hget2,hr2⟩:=Ql hd2
    rw [hd,hd2,eqL] at hinv
    have hw:=Qj (k:=k) (by omega)
    have hmy:=List.mem_of_getElem? hget
    have hmz:=List.mem_of_getElem? hget2
    skip
    rcases hyz:eqS y z with _|_
    ·rw [hyz,Bool.false_and] at hinv
     rw [← hinv]
     have e2:(y == z) = false:=hyz
     (have zx:=And.intro e1 (And.intro lma (And.intro hget (And.intro hget2 (And.intro hw e2)))));exact zg
    ·rw [hyz,Bool.true_and] at hinv
     have e2:(y == z) = true:=hyz
     (have zx:=And.intro e1 (And.intro lma (And.intro hget (And.intro hget2 (And.intro hw e2)))));refine zgo ?_;repeat' first|exact zt|apply zan|intro hc
     all_goals first|exact hL _ (k + 1) zet ⟨by omega,by rw [hr,hr2];exact hinv⟩ (by omega) (fun a ha=>by simp only [u32,u33,u34,u35,u36,u37,u38,u39];repeat rw [if_neg (by omega)])
 ·have e0:(((a.length:Nat):Int) != ((b.length:Nat):Int)) = true:=by simp;omega
  rw [abY a b hlen]
  (have zx:=And.intro lma (And.intro lmb e0));exact zg
def ql (Yg:Nat):AC:=Qa [2,3] (.reg [xo 2 (.box true 15 (.t 0)),xo 3 (.box true 15 (.t 1)),mc 4 (V.bool false)]) (Qa [2,3,5] (.reg [fa 7 0 2,ld 8 1 7,fa 9 0 3,ld 10 1 9,bn 11 .eql 8 10,mv 12 11,xg 13 (.faddr 1 (.t 2)) 12 true,xg 14 (.load false 1 (.t 13)) 12 true,xg 15 (.faddr 1 (.t 3)) 12 true,xg 16 (.load false 1 (.t 15)) 12 true,xg 17 (.bin .eql (.t 14) (.t 16)) 12 true,xo 18 (.pick (.t 12) (.t 17) (.c (V.bool false))),mv 19 18,xg 20 (.faddr 2 (.t 2)) 19 true,xg 21 (.load false 1 (.t 20)) 19 true,xg 22 (.faddr 2 (.t 3)) 19 true,xg 23 (.load false 1 (.t 22)) 19 true,xg 24 (.bin .eql (.t 21) (.t 23)) 19 true,xo 25 (.pick (.t 19) (.t 24) (.c (V.bool false))),mv 26 25,xg 27 (.faddr 12 (.t 2)) 26 true,xg 28 (.load false 1 (.t 27)) 26 true,xg 29 (.faddr 12 (.t 3)) 26 true,xg 30 (.load false 1 (.t 29)) 26 true,xg 31 (.call Yg [(.t 28),(.t 30)]) 26 true,xo 32 (.pick (.t 26) (.t 31) (.c (V.bool false))),mv 5 32]) (Qa [2,3,5,6] (.reg [fa 33 3 2,xo 34 (.load true 2 (.t 33)),fa 35 3 3,xo 36 (.load true 2 (.t 35)),xo 37 (.eqagg false [0,0] (.t 34) (.t 36)),mv 38 37,xg 39 (.faddr 5 (.t 2)) 38 true,xg 40 (.load false 1 (.t 39)) 38 true,xg 41 (.faddr 5 (.t 3)) 38 true,xg 42 (.load false 1 (.t 41)) 38 true,xg 43 (.bin .eql (.t 40) (.t 42)) 38 true,xo 44 (.pick (.t 38) (.t 43) (.c (V.bool false))),mv 45 44,xg 46 (.faddr 6 (.t 2)) 45 true,xg 47 (.load true 2 (.t 46)) 45 true,xg 48 (.faddr 6 (.t 3)) 45 true,xg 49 (.load true 2 (.t 48)) 45 true,xg 50 (.eqagg false [0,0] (.t 47) (.t 49)) 45 true,xo 51 (.pick (.t 45) (.t 50) (.c (V.bool false))),mv 52 51,xg 53 (.faddr 13 (.t 2)) 52 true,xg 54 (.load true 2 (.t 53)) 52 true,xg 55 (.faddr 13 (.t 3)) 52 true,xg 56 (.load true 2 (.t 55)) 52 true,xg 57 (.eqagg false [0,0] (.t 54) (.t 56)) 52 true,xo 58 (.pick (.t 52) (.t 57) (.c (V.bool false))),mv 6 58]) (Qa [4] (.reg [mv 59 5,mv 60 59,mg 61 6 60 true,xo 62 (.pick (.t 60) (.t 61) (.c (V.bool false))),mv 63 62,xg 64 (.faddr 8 (.t 2)) 63 true,xg 65 (.load false 1 (.t 64)) 63 true,xg 66 (.faddr 8 (.t 3)) 63 true,xg 67 (.load false 1 (.t 66)) 63 true,xg 68 (.bin .eql (.t 65) (.t 67)) 63 true,xo 69 (.pick (.t 63) (.t 68) (.c (V.bool false))),mv 70 69,xg 71 (.faddr 9 (.t 2)) 70 true,xg 72 (.load false 1 (.t 71)) 70 true,xg 73 (.faddr 9 (.t 3)) 70 true,xg 74 (.load false 1 (.t 73)) 70 true,xg 75 (.bin .eql (.t 72) (.t 74)) 70 true,xo 76 (.pick (.t 70) (.t 75) (.c (V.bool false))),mv 77 76,xg 78 (.faddr 10 (.t 2)) 77 true,xg 79 (.load false 1 (.t 78)) 77 true,xg 80 (.faddr 10 (.t 3)) 77 true,xg 81 (.load false 1 (.t 80)) 77 true,xg 82 (.eqb false (.t 79) (.t 81)) 77 true,xo 83 (.pick (.t 77) (.t 82) (.c (V.bool false))),mv 84 83,xg 85 (.faddr 11 (.t 2)) 84 true,xg 86 (.load false 1 (.t 85)) 84 true,xg 87 (.faddr 11 (.t 3)) 84 true,xg 88 (.load false 1 (.t 87)) 84 true,xg 89 (.bin .eql (.t 86) (.t 88)) 84 true,xo 90 (.pick (.t 84) (.t 89) (.c (V.bool false))),mv 4 90]) .ret))) def r_certificate_Same:List Jl:=[.tmp 4]
def Kt (Γ:Env) (f:Nat):Prop:=∀ (c d:Qw) (hc:c.names.length < 2 ^ 60),EvN Γ f [c.v,d.v] (V.bool (x6 c d))
attribute [local go_sem] QZ in
theorem agh {Γ:Env} {f Yg:Nat} (h:Has Γ.P f 91 (ql Yg) r_certificate_Same) (z0:Y9 Γ Yg):Kt Γ f:=by
 intro c d hc
 refine Qe h zsi zcl zcl fun C hC hm=>?_
 subst hC
 unfold ql
 have hn:=(z0 c.names d.names hc).b
 simp only [Qw.v,Qw.cells]
 refine Ve fun K' hK=>?_
 simp (maxSteps:=1000000) only [go_sem]
 refine hK _ ?_
 clear hK
 clear K'
 (try simp only [go_sem])
 refine YO (ι:=Unit) (fun _=>True) (fun _=>QZ [(2,.ptr 0 0),(3,.ptr 1 0),(5,V.bool (cs1 c d))] [(0,.box true c.cells),(1,.box true d.cells)] 2) (fun K' hK'=>?_) (fun _ _=>?_)
 ·refine zgo ?_;repeat' first|exact zt|apply zan|intro hc
  all_goals first|exact hK' _ () (Qk [(1,1000)]) trivial (QR [(1,1000)] (by simp only [go_sem,zwl,Qw.cells];simp [cs1, *]) (by simp only [go_sem,zwl,Qw.cells]<;>exact zcc) (by simp [Qk]) (by simp;omega) (by omega))
 refine YO (ι:=Unit) (fun _=>True) (fun _=>QZ [(2,.ptr 0 0),(3,.ptr 1 0),(5,V.bool (cs1 c d)),(6,V.bool (cs2 c d))] [(0,.box true c.cells),(1,.box true d.cells)] 2) (fun K' hK'=>?_) (fun _ _=>?_)
 ·simp only [Qw.cells]
  refine zgo ?_;repeat' first|exact zt|apply zan|intro hc
  all_goals first|exact hK' _ () (Qk []) trivial (QR [] (by simp only [go_sem,zwl,Qw.cells];simp [cs2, *]) (by simp only [go_sem,zwl,Qw.cells]<;>exact zcc) (by simp [Qk]) (by simp) (by omega))
 simp only [Qw.cells]
 rcases q1:cs1 c d with _|_
 ·rw [show x6 c d = false by simp [x6,q1]]
  exact zg
 rcases q2:cs2 c d with _|_
 ·rw [show x6 c d = false by simp [x6,q2]]
  exact zg
 rw [show x6 c d = cs3 c d by simp [x6,q1,q2]]
 refine zgo ?_;repeat' first|exact zt|apply zan|intro hc
 all_goals first|(refine Qn _ rfl ?_;simp only [go_sem];simp [cs3, *];done)
def adT (QN:Nat):AC:=Qa [2,3] (.reg [xo 2 (.box true 15 (.t 0)),xo 3 (.box true 15 (.t 1)),mc 4 (V.bool false)]) (Qa [4] (.reg [fa 5 0 2,ld 6 1 5,fa 7 0 3,ld 8 1 7,bn 9 .eql 6 8,mv 10 9,xg 11 (.faddr 1 (.t 2)) 10 true,xg 12 (.load false 1 (.t 11)) 10 true,xg 13 (.faddr 1 (.t 3)) 10 true,xg 14 (.load false 1 (.t 13)) 10 true,xg 15 (.bin .eql (.t 12) (.t 14)) 10 true,xo 16 (.pick (.t 10) (.t 15) (.c (V.bool false))),mv 17 16,xg 18 (.faddr 2 (.t 2)) 17 true,xg 19 (.load false 1 (.t 18)) 17 true,xg 20 (.faddr 2 (.t 3)) 17 true,xg 21 (.load false 1 (.t 20)) 17 true,xg 22 (.bin .eql (.t 19) (.t 21)) 17 true,xo 23 (.pick (.t 17) (.t 22) (.c (V.bool false))),mv 24 23,xg 25 (.faddr 3 (.t 2)) 24 true,xg 26 (.load true 2 (.t 25)) 24 true,xg 27 (.faddr 3 (.t 3)) 24 true,xg 28 (.load true 2 (.t 27)) 24 true,xg 29 (.eqagg false [0,0] (.t 26) (.t 28)) 24 true,xo 30 (.pick (.t 24) (.t 29) (.c (V.bool false))),mv 31 30,xg 32 (.faddr 5 (.t 2)) 31 true,xg 33 (.load false 1 (.t 32)) 31 true,xg 34 (.faddr 5 (.t 3)) 31 true,xg 35 (.load false 1 (.t 34)) 31 true,xg 36 (.bin .eql (.t 33) (.t 35)) 31 true,xo 37 (.pick (.t 31) (.t 36) (.c (V.bool false))),mv 38 37,xg 39 (.faddr 6 (.t 2)) 38 true,xg 40 (.load true 2 (.t 39)) 38 true,xg 41 (.faddr 6 (.t 3)) 38 true,xg 42 (.load true 2 (.t 41)) 38 true,xg 43 (.eqagg false [0,0] (.t 40) (.t 42)) 38 true,xo 44 (.pick (.t 38) (.t 43) (.c (V.bool false))),mv 45 44,xg 46 (.faddr 8 (.t 2)) 45 true,xg 47 (.load false 1 (.t 46)) 45 true,xg 48 (.faddr 8 (.t 3)) 45 true,xg 49 (.load false 1 (.t 48)) 45 true,xg 50 (.bin .eql (.t 47) (.t 49)) 45 true,xo 51 (.pick (.t 45) (.t 50) (.c (V.bool false))),mv 52 51,xg 53 (.faddr 9 (.t 2)) 52 true,xg 54 (.load false 1 (.t 53)) 52 true,xg 55 (.faddr 9 (.t 3)) 52 true,xg 56 (.load false 1 (.t 55)) 52 true,xg 57 (.bin .eql (.t 54) (.t 56)) 52 true,xo 58 (.pick (.t 52) (.t 57) (.c (V.bool false))),mv 59 58,xg 60 (.faddr 10 (.t 2)) 59 true,xg 61 (.load false 1 (.t 60)) 59 true,xg 62 (.faddr 10 (.t 3)) 59 true,xg 63 (.load false 1 (.t 62)) 59 true,xg 64 (.eqb false (.t 61) (.t 63)) 59 true,xo 65 (.pick (.t 59) (.t 64) (.c (V.bool false))),mv 66 65,xg 67 (.faddr 11 (.t 2)) 66 true,xg 68 (.load false 1 (.t 67)) 66 true,xg 69 (.faddr 11 (.t 3)) 66 true,xg 70 (.load false 1 (.t 69)) 66 true,xg 71 (.bin .eql (.t 68) (.t 70)) 66 true,xo 72 (.pick (.t 66) (.t 71) (.c (V.bool false))),mv 73 72,xg 74 (.faddr 12 (.t 2)) 73 true,xg 75 (.load false 1 (.t 74)) 73 true,xg 76 (.faddr 12 (.t 3)) 73 true,xg 77 (.load false 1 (.t 76)) 73 true,xg 78 (.call QN [(.t 75),(.t 77)]) 73 true,xo 79 (.pick (.t 73) (.t 78) (.c (V.bool false))),mv 80 79,xg 81 (.faddr 13 (.t 2)) 80 true,xg 82 (.load true 2 (.t 81)) 80 true,xg 83 (.faddr 13 (.t 3)) 80 true,xg 84 (.load true 2 (.t 83)) 80 true,xg 85 (.eqagg false [0,0] (.t 82) (.t 84)) 80 true,xo 86 (.pick (.t 80) (.t 85) (.c (V.bool false))),mv 4 86]) .ret) def r_ref03_Same:List Jl:=[.tmp 4]
def acx (Γ:Env) (f:Nat):Prop:=∀ (c d:Qw) (hc:c.names.length < 2 ^ 60),EvN Γ f [c.v,d.v] (V.bool (x6 c d))
theorem anE {Γ:Env} {f QN:Nat} (h:Has Γ.P f 87 (adT QN) r_ref03_Same) (z0:VF Γ QN):acx Γ f:=by
 intro c d hc
 refine Qe h zsi zcl zcl fun C hC hm=>?_
 subst hC
 unfold adT
 have hn:=(z0 c.names d.names hc).b
 simp only [Qw.v,Qw.cells]
 refine zgo ?_;repeat' first|exact zt|apply zan|intro hc
 all_goals first|(refine Qn _ rfl ?_;simp only [go_sem];simp [x6,cs1,cs2,cs3, *];done)
theorem aqT:∀ (a b:List Int),eqL eqI a b = (a == b)
 | [],[]=>rfl
 | [],_ :: _=>rfl
 | _ :: _,[]=>rfl
 | x :: a,y :: b=>by rw [eqL,aqT a b];rfl
def se1 (a b:QL):Bool:=(a.suites == b.suites) && ((a.anchors == b.anchors) && (a.hashes == b.hashes))
def se2 (a b:QL):Bool:=(a.name == b.name) && ((a.least == b.least) && ((a.most == b.most) && ((a.own == b.own) && (a.fall == b.fall))))
def aru (a b:QL):Bool:=se2 a b && (se1 a b && eqL xZ a.idents b.idents)
def QA:AC:=Qa [0,1,2] (.reg [mc 6 (V.bool false)]) (Qa [0,1,2] (Qa [0,1,2,14] (.reg [mv 10 0,ln 11 10,mv 12 1,ln 13 12,bn 14 .neq 11 13]) (.cond (.t 14) (Qa [6] (.reg [mc 6 (V.bool false)]) .ret) .skip)) (Qa [] (Qa [1,2,15,16,17] (.reg [mv 15 0,ln 16 15,mc 17 (V.int 0)]) (.block 0 (JH [1,2,15,16,17] (Qa [1,2,15,16,17,18] (.reg [bn 18 .lss 17 16]) (Qa [1,2,15,16,17] (.cond (.t 18) .skip (.exit 0)) (Qa [1,2,15,16,17] (.block 1 (Qa [1,2,7,8,15,16,17] (.reg [mv 19 17,ia 20 15 15 17,xo 21 (.load true 15 (.t 20)),xo 8 (.alloc [.val vi0,.val vs0,.val vs0,.val vi0,.val vi0,.val vi0,.val vi0,.val vi0,.val vi0,.val vi0,.val (.bool false),.val vi0,.nil 1,.val vi0,.val vi0]),mv 7 19,xs 15 8 21]) (Qa [1,2,8,9,15,16,17] (.reg [mv 22 1,mv 23 7,ia 24 15 22 23,xo 25 (.load true 15 (.t 24)),xo 9 (.alloc [.val vi0,.val vs0,.val vs0,.val vi0,.val vi0,.val vi0,.val vi0,.val vi0,.val vi0,.val vi0,.val (.bool false),.val vi0,.nil 1,.val vi0,.val vi0]),xs 15 9 25]) (Qa [1,2,15,16,17,30] (.reg [mv 26 2,xo 27 (.load true 15 (.t 8)),xo 28 (.load true 15 (.t 9)),xo 29 (.callv (.t 26) [(.t 27),(.t 28)]),xo 30 (.un .not (.t 29))]) (.cond (.t 30) (Qa [6] (.reg [mc 6 (V.bool false)]) .ret) .skip))))) (.reg [bc 31 .add 17 (V.int 1),mv 17 31]))))))) (Qa [6] (.reg [mc 6 (V.bool true)]) .ret))) def r_slices_EqualFunc___api_Certificate___api_Certificate_api_Certificate_api_Certificate:List Jl:=[.tmp 6]
def Qz (Γ:Env) (f:Nat):Prop:=∀ (g:Nat) (a b:List Qw) (ha:a.length < 2 ^ 60) (hg:∀ x∈a,∀ y∈b,EvN Γ g [Qw.v x,Qw.v y] (V.bool (x6 x y))),EvN Γ f [.sl 15 (a.map Qw.v),.sl 15 (b.map Qw.v),.clo g []] (V.bool (eqL x6 a b))
attribute [local go_sem] Qw.cells Qw.v in
theorem JE {Γ:Env} {f:Nat} (h:Has Γ.P f 32 QA r_slices_EqualFunc___api_Certificate___api_Certificate_api_Certificate_api_Certificate) :Qz Γ f:=by
 intro g a b ha hg
 refine Qe h zsi zcl zcl fun C hC hm=>?_
 subst hC
 unfold QA
 have lma:(a.map Qw.v).length = a.length:=List.length_map _
 have lmb:(b.map Qw.v).length = b.length:=List.length_map _
 by_cases hlen:a.length = b.length
 ·have e0:(((a.length:Nat):Int) != ((b.length:Nat):Int)) = false:=by simp [hlen]
  (have zx:=And.intro lma (And.intro lmb e0));refine zgo ?_;repeat' first|exact zt|apply zan|intro hc
  refine QP (ι:=Nat) (fun k=>k≤a.length∧eqL x6 (a.drop k) (b.drop k) = eqL x6 a b) (fun k=>[(17,V.int k)]) (fun k=>a.length - k) 0 (by omega) ⟨Nat.zero_le _,rfl⟩ (by repeat' first|exact Q8|refine JD (by omega) (by simp only [Ob.lt,ltL,V.lt,and_self,and_true];try omega) ?_) (fun i hi=>by simp only [ovT,Ji,Nat.reduceEqDiff,reduceIte];(repeat' first|exact JC|refine Q7 ?_ ?_|simp only [V.lt,ltL,and_self,and_true]|omega)) zet fun k hk K' hL=>?_
  obtain ⟨hk,hinv⟩:=hk
  simp only [ovT,Ji,Nat.reduceEqDiff,reduceIte]
  rcases hd:a.drop k with _|⟨y,r⟩
  ·have:=Qs hd
   have hd2:b.drop k = []:=List.drop_eq_nil_of_le (by omega)
   rw [hd,hd2] at hinv
   have e1:decide ((k:Int) < ((a.length:Nat):Int)) = false:=by simp;omega
   rw [← hinv,show eqL x6 [] [] = true from rfl]
   (have zx:=And.intro e1 lma);exact zg
  ·obtain ⟨hk',hget,hr⟩:=Ql hd
   have e1:decide ((k:Int) < ((a.length:Nat):Int)) = true:=by simp;omega
   rcases hd2:b.drop k with _|⟨z,r2⟩
   ·have:=Qs hd2;omega
   ·obtain ⟨hk2,hget2,hr2⟩:=Ql hd2
    rw [hd,hd2,eqL] at hinv
    have hw:=Qj (k:=k) (by omega)
    have hmy:=List.mem_of_getElem? hget
    have hmz:=List.mem_of_getElem? hget2
    have hgy:=(hg y hmy z hmz).b
    simp only [Qw.v,Qw.cells] at hgy
    rcases hyz:x6 y z with _|_
    ·rw [hyz,Bool.false_and] at hinv
     rw [← hinv]
     rw [hyz] at hgy
     (have zx:=And.intro e1 (And.intro lma (And.intro hget (And.intro hget2 hw))));exact zg
    ·rw [hyz,Bool.true_and] at hinv
     rw [hyz] at hgy
     (have zx:=And.intro e1 (And.intro lma (And.intro hget (And.intro hget2 hw))));refine zgo ?_;repeat' first|exact zt|apply zan|intro hc
     all_goals first|exact hL _ (k + 1) zet ⟨by omega,by rw [hr,hr2];exact hinv⟩ (by omega) (fun a ha=>by simp only [u32,u33,u34,u35,u36,u37,u38,u39];repeat rw [if_neg (by omega)])
 ·have e0:(((a.length:Nat):Int) != ((b.length:Nat):Int)) = true:=by simp;omega
  rw [abY a b hlen]
  (have zx:=And.intro lma (And.intro lmb e0));exact zg
def wj (YS:Nat):List AO:=[mv 17 0,mv 18 5,ia 19 15 17 18,xo 20 (.load true 15 (.t 19)),mv 21 1,mv 22 5,ia 23 15 21 22,xo 24 (.load true 15 (.t 23)),cl 25 YS [20,24],xo 26 (.un .not (.t 25))]
def wW:List (List Nat):=[[],[],[0,1],[2],[],[],[4,5],[6],[3,7],[8]]
def xT:OT:=.one 0 (.one 1 (.one 2 (.one 3 (.one 4 (.one 5 (.one 6 (.one 7 (.one 8 (.one 9 .done)))))))))
@[go_sem] def wb (YS:Nat):OP:=oN 0 (mv 17 0) (oN 1 (mv 18 5) (oN 2 (ia 19 15 17 18) (oN 3 (xo 20 (.load true 15 (.t 19))) (oN 4 (mv 21 1) (oN 5 (mv 22 5) (oN 6 (ia 23 15 21 22) (oN 7 (xo 24 (.load true 15 (.t 23))) (oN 8 (cl 25 YS [20,24]) (oN 9 (xo 26 (.un .not (.t 25))) .done)))))))))
instance (YS:Nat):RG [] xT (wb YS) (wj YS) wW 10 (fun _=>true):=⟨rfl,by kernel_rfl,by kernel_rfl⟩
def jh (YS:Nat):AC:=Qa [0,1] (.reg [mc 4 (V.bool false)]) (Qa [0,1] (Qa [0,1,10] (.reg [mv 6 0,ln 7 6,mv 8 1,ln 9 8,bn 10 .neq 7 9]) (.cond (.t 10) (Qa [4] (.reg [mc 4 (V.bool false)]) .ret) .skip)) (Qa [] (Qa [0,1,5] (.reg [mc 5 (V.int 0)]) (.block 0 (JH [0,1,5] (Qa [0,1,5] (Qa [0,1,5,14] (.reg [mv 11 5,mv 12 0,ln 13 12,bn 14 .lss 11 13]) (.cond (.t 14) .skip (.exit 0))) (Qa [0,1,5] (.block 1 (Qa [0,1,5,26] (yh [] xT (wb YS) (wj YS) wW) (.cond (.t 26) (Qa [4] (.reg [mc 4 (V.bool false)]) .ret) .skip))) (.reg [mv 15 5,bc 16 .add 15 (V.int 1),mv 5 16])))))) (Qa [4] (.reg [mc 4 (V.bool true)]) .ret))) def r_ref03_SameChain:List Jl:=[.tmp 4]
def qB (Γ:Env) (f:Nat):Prop:=∀ (a b:List Qw) (ha:a.length < 2 ^ 60) (hn:∀ x∈a,x.names.length < 2 ^ 60),EvN Γ f [.sl 15 (a.map Qw.v),.sl 15 (b.map Qw.v)] (V.bool (eqL x6 a b))
attribute [local go_sem] Qw.cells Qw.v in
theorem ahr {Γ:Env} {f YS:Nat} (h:Has Γ.P f 27 (jh YS) r_ref03_SameChain) (z0:acx Γ YS):qB Γ f:=by
 intro a b ha hn
 refine Qe h zsi zcl zcl fun C hC hm=>?_
 subst hC
 unfold jh
 have lma:(a.map Qw.v).length = a.length:=List.length_map _
 have lmb:(b.map Qw.v).length = b.length:=List.length_map _
 by_cases hlen:a.length = b.length
 ·have e0:(((a.length:Nat):Int) != ((b.length:Nat):Int)) = false:=by simp [hlen]
  (have zx:=And.intro lma (And.intro lmb e0));refine zgo ?_;repeat' first|exact zt|apply zan|intro hc
  refine QP (ι:=Nat) (fun k=>k≤a.length∧eqL x6 (a.drop k) (b.drop k) = eqL x6 a b) (fun k=>[(5,V.int k)]) (fun k=>a.length - k) 0 (by omega) ⟨Nat.zero_le _,rfl⟩ (by repeat' first|exact Q8|refine JD (by omega) (by simp only [Ob.lt,ltL,V.lt,and_self,and_true];try omega) ?_) (fun i hi=>by simp only [ovT,Ji,Nat.reduceEqDiff,reduceIte];(repeat' first|exact JC|refine Q7 ?_ ?_|simp only [V.lt,ltL,and_self,and_true]|omega)) zet fun k hk K' hL=>?_
  obtain ⟨hk,hinv⟩:=hk
  simp only [ovT,Ji,Nat.reduceEqDiff,reduceIte]
  rcases hd:a.drop k with _|⟨y,r⟩
  ·have:=Qs hd
   have hd2:b.drop k = []:=List.drop_eq_nil_of_le (by omega)
   rw [hd,hd2] at hinv
   have e1:decide ((k:Int) < ((a.length:Nat):Int)) = false:=by simp;omega
   rw [← hinv,show eqL x6 [] [] = true from rfl]
   (have zx:=And.intro e1 lma);exact zg
  ·obtain ⟨hk',hget,hr⟩:=Ql hd
   have e1:decide ((k:Int) < ((a.length:Nat):Int)) = true:=by simp;omega
   rcases hd2:b.drop k with _|⟨z,r2⟩
   ·have:=Qs hd2;omega
   ·obtain ⟨hk2,hget2,hr2⟩:=Ql hd2
    rw [hd,hd2,eqL] at hinv
    have hw:=Qj (k:=k) (by omega)
    have hmy:=List.mem_of_getElem? hget
    have hmz:=List.mem_of_getElem? hget2
    have hgy:=(z0 y z (hn y hmy)).b
    simp only [Qw.v,Qw.cells] at hgy
    rcases hyz:x6 y z with _|_
    ·rw [hyz,Bool.false_and] at hinv
     rw [← hinv]
     rw [hyz] at hgy
     (have zx:=And.intro e1 (And.intro lma (And.intro hget (And.intro hget2 hw))));exact zg
    ·rw [hyz,Bool.true_and] at hinv
     rw [hyz] at hgy
     (have zx:=And.intro e1 (And.intro lma (And.intro hget (And.intro hget2 hw))));refine zgo ?_;repeat' first|exact zt|apply zan|intro hc
     all_goals first|exact hL _ (k + 1) zet ⟨by omega,by rw [hr,hr2];exact hinv⟩ (by omega) (fun a ha=>by simp only [u32,u33,u34,u35,u36,u37,u38,u39];repeat rw [if_neg (by omega)])
 ·have e0:(((a.length:Nat):Int) != ((b.length:Nat):Int)) = true:=by simp;omega
  rw [abY a b hlen]
  (have zx:=And.intro lma (And.intro lmb e0));exact zg
def jp (Qq We:Nat):AC:=Qa [2,3] (.reg [xo 2 (.box true 4 (.t 0)),xo 3 (.box true 4 (.t 1)),mc 4 (V.bool false)]) (Qa [4] (.reg [fa 5 0 2,xo 6 (.load true 2 (.t 5)),fa 7 0 3,xo 8 (.load true 2 (.t 7)),xo 9 (.eqagg false [0,0] (.t 6) (.t 8)),mv 10 9,xg 11 (.faddr 2 (.t 2)) 10 true,xg 12 (.load false 1 (.t 11)) 10 true,xg 13 (.faddr 2 (.t 3)) 10 true,xg 14 (.load false 1 (.t 13)) 10 true,xg 15 (.bin .eql (.t 12) (.t 14)) 10 true,xo 16 (.pick (.t 10) (.t 15) (.c (V.bool false))),mv 17 16,xg 18 (.faddr 3 (.t 2)) 17 true,xg 19 (.load false 1 (.t 18)) 17 true,xg 20 (.faddr 3 (.t 3)) 17 true,xg 21 (.load false 1 (.t 20)) 17 true,xg 22 (.call Qq [(.t 19),(.t 21),(.c (.clo We []))]) 17 true,xo 23 (.pick (.t 17) (.t 22) (.c (V.bool false))),mv 4 23]) .ret) def r_endpoint_Same_1:List Jl:=[.tmp 4]
def qH (Γ:Env) (f:Nat):Prop:=∀ (x y:QI) (hl:x.chain.length < 2 ^ 60) (hn:∀ c∈x.chain,c.names.length < 2 ^ 60),EvN Γ f [x.v,y.v] (V.bool (xZ x y))
theorem ahz {Γ:Env} {f Qq We:Nat} (h:Has Γ.P f 24 (jp Qq We) r_endpoint_Same_1) (z0:Qz Γ Qq) (z1:Kt Γ We):qH Γ f:=by
 intro x y hl hn
 refine Qe h zsi zcl zcl fun C hC hm=>?_
 subst hC
 unfold jp
 have hq:=(z0 We x.chain y.chain hl (fun c hc d _=>z1 c d (hn c hc))).b
 simp only [QI.v,QI.cells]
 refine zgo ?_;repeat' first|exact zt|apply zan|intro hc
 all_goals first|(refine Qn _ rfl ?_;simp only [go_sem];simp [xZ, *];done)
def QK:AC:=Qa [0,1,2] (.reg [mc 6 (V.bool false)]) (Qa [0,1,2] (Qa [0,1,2,14] (.reg [mv 10 0,ln 11 10,mv 12 1,ln 13 12,bn 14 .neq 11 13]) (.cond (.t 14) (Qa [6] (.reg [mc 6 (V.bool false)]) .ret) .skip)) (Qa [] (Qa [1,2,15,16,17] (.reg [mv 15 0,ln 16 15,mc 17 (V.int 0)]) (.block 0 (JH [1,2,15,16,17] (Qa [1,2,15,16,17,18] (.reg [bn 18 .lss 17 16]) (Qa [1,2,15,16,17] (.cond (.t 18) .skip (.exit 0)) (Qa [1,2,15,16,17] (.block 1 (Qa [1,2,7,8,15,16,17] (.reg [mv 19 17,ia 20 4 15 17,xo 21 (.load true 4 (.t 20)),xo 8 (.alloc [.val vi0,.val vi0,.val vi0,.nil 15]),mv 7 19,xs 4 8 21]) (Qa [1,2,8,9,15,16,17] (.reg [mv 22 1,mv 23 7,ia 24 4 22 23,xo 25 (.load true 4 (.t 24)),xo 9 (.alloc [.val vi0,.val vi0,.val vi0,.nil 15]),xs 4 9 25]) (Qa [1,2,15,16,17,30] (.reg [mv 26 2,xo 27 (.load true 4 (.t 8)),xo 28 (.load true 4 (.t 9)),xo 29 (.callv (.t 26) [(.t 27),(.t 28)]),xo 30 (.un .not (.t 29))]) (.cond (.t 30) (Qa [6] (.reg [mc 6 (V.bool false)]) .ret) .skip))))) (.reg [bc 31 .add 17 (V.int 1),mv 17 31]))))))) (Qa [6] (.reg [mc 6 (V.bool true)]) .ret))) def r_slices_EqualFunc___api_Identity___api_Identity_api_Identity_api_Identity:List Jl:=[.tmp 6]
def QJ (Γ:Env) (f:Nat):Prop:=∀ (g:Nat) (a b:List QI) (ha:a.length < 2 ^ 60) (hg:∀ x∈a,∀ y∈b,EvN Γ g [QI.v x,QI.v y] (V.bool (xZ x y))),EvN Γ f [.sl 4 (a.map QI.v),.sl 4 (b.map QI.v),.clo g []] (V.bool (eqL xZ a b))
attribute [local go_sem] QI.cells QI.v in
theorem J3 {Γ:Env} {f:Nat} (h:Has Γ.P f 32 QK r_slices_EqualFunc___api_Identity___api_Identity_api_Identity_api_Identity) :QJ Γ f:=by
 intro g a b ha hg
 refine Qe h zsi zcl zcl fun C hC hm=>?_
 subst hC
 unfold QK
 have lma:(a.map QI.v).length = a.length:=List.length_map _
 have lmb:(b.map QI.v).length = b.length:=List.length_map _
 by_cases hlen:a.length = b.length
 ·have e0:(((a.length:Nat):Int) != ((b.length:Nat):Int)) = false:=by simp [hlen]
  (have zx:=And.intro lma (And.intro lmb e0));refine zgo ?_;repeat' first|exact zt|apply zan|intro hc
  refine QP (ι:=Nat) (fun k=>k≤a.length∧eqL xZ (a.drop k) (b.drop k) = eqL xZ a b) (fun k=>[(17,V.int k)]) (fun k=>a.length - k) 0 (by omega) ⟨Nat.zero_le _,rfl⟩ (by repeat' first|exact Q8|refine JD (by omega) (by simp only [Ob.lt,ltL,V.lt,and_self,and_true];try omega) ?_) (fun i hi=>by simp only [ovT,Ji,Nat.reduceEqDiff,reduceIte];(repeat' first|exact JC|refine Q7 ?_ ?_|simp only [V.lt,ltL,and_self,and_true]|omega)) zet fun k hk K' hL=>?_
  obtain ⟨hk,hinv⟩:=hk
  simp only [ovT,Ji,Nat.reduceEqDiff,reduceIte]
  rcases hd:a.drop k with _|⟨y,r⟩
  ·have:=Qs hd
   have hd2:b.drop k = []:=List.drop_eq_nil_of_le (by omega)
   rw [hd,hd2] at hinv
   have e1:decide ((k:Int) < ((a.length:Nat):Int)) = false:=by simp;omega
   rw [← hinv,show eqL xZ [] [] = true from rfl]
   (have zx:=And.intro e1 lma);exact zg
  ·obtain ⟨hk',hget,hr⟩:=Ql hd
   have e1:decide ((k:Int) < ((a.length:Nat):Int)) = true:=by simp;omega
   rcases hd2:b.drop k with _|⟨z,r2⟩
   ·have:=Qs hd2;omega
   ·obtain ⟨hk2,hget2,hr2⟩:=Ql hd2
    rw [hd,hd2,eqL] at hinv
    have hw:=Qj (k:=k) (by omega)
    have hmy:=List.mem_of_getElem? hget
    have hmz:=List.mem_of_getElem? hget2
    have hgy:=(hg y hmy z hmz).b
    simp only [QI.v,QI.cells] at hgy
    rcases hyz:xZ y z with _|_
    ·rw [hyz,Bool.false_and] at hinv
     rw [← hinv]
     rw [hyz] at hgy
     (have zx:=And.intro e1 (And.intro lma (And.intro hget (And.intro hget2 hw))));exact zg
    ·rw [hyz,Bool.true_and] at hinv
     rw [hyz] at hgy
     (have zx:=And.intro e1 (And.intro lma (And.intro hget (And.intro hget2 hw))));refine zgo ?_;repeat' first|exact zt|apply zan|intro hc
     all_goals first|exact hL _ (k + 1) zet ⟨by omega,by rw [hr,hr2];exact hinv⟩ (by omega) (fun a ha=>by simp only [u32,u33,u34,u35,u36,u37,u38,u39];repeat rw [if_neg (by omega)])
 ·have e0:(((a.length:Nat):Int) != ((b.length:Nat):Int)) = true:=by simp;omega
  rw [abY a b hlen]
  (have zx:=And.intro lma (And.intro lmb e0));exact zg
def Kz (Jp:Nat):List AO:=[mv 17 0,mv 18 5,ia 19 4 17 18,fa 20 0 19,xo 21 (.load true 2 (.t 20)),mv 22 1,mv 23 5,ia 24 4 22 23,fa 25 0 24,xo 26 (.load true 2 (.t 25)),xo 27 (.eqagg true [0,0] (.t 21) (.t 26)),mv 28 27,mg 29 0 28 false,mg 30 5 28 false,xg 31 (.iaddr 4 (.t 29) (.t 30)) 28 false,xg 32 (.faddr 2 (.t 31)) 28 false,xg 33 (.load false 1 (.t 32)) 28 false,mg 34 1 28 false,mg 35 5 28 false,xg 36 (.iaddr 4 (.t 34) (.t 35)) 28 false,xg 37 (.faddr 2 (.t 36)) 28 false,xg 38 (.load false 1 (.t 37)) 28 false,xg 39 (.bin .neq (.t 33) (.t 38)) 28 false,xo 40 (.pick (.t 28) (.c (V.bool true)) (.t 39)),mv 41 40,mg 42 0 41 false,mg 43 5 41 false,xg 44 (.iaddr 4 (.t 42) (.t 43)) 41 false,xg 45 (.faddr 3 (.t 44)) 41 false,xg 46 (.load false 1 (.t 45)) 41 false,mg 47 1 41 false,mg 48 5 41 false,xg 49 (.iaddr 4 (.t 47) (.t 48)) 41 false,xg 50 (.faddr 3 (.t 49)) 41 false,xg 51 (.load false 1 (.t 50)) 41 false,xg 52 (.call Jp [(.t 46),(.t 51)]) 41 false,xg 53 (.un .not (.t 52)) 41 false,xo 54 (.pick (.t 41) (.c (V.bool true)) (.t 53))]
def KC:List (List Nat):=[[],[],[0,1],[2],[3],[],[],[5,6],[7],[8],[4,9],[10],[11],[11],[12,13,11],[14,11],[15,11],[11],[11],[17,18,11],[19,11],[20,11],[16,21,11],[11,22],[23,11],[24],[24],[25,26,24],[27,24],[28,24],[24],[24],[30,31,24],[32,24],[33,24],[29,34,24,24],[35,24],[24,36]]
def Kv:OT:=.one 0 (.one 1 (.one 2 (.one 3 (.one 4 (.one 5 (.one 6 (.one 7 (.one 8 (.one 9 (.one 10 (.one 11 (.one 12 (.one 13 (.one 14 (.one 15 (.one 16 (.one 17 (.one 18 (.one 19 (.one 20 (.one 21 (.one 22 (.one 23 (.one 24 (.one 25 (.one 26 (.one 27 (.one 28 (.one 29 (.one 30 (.one 31 (.one 32 (.one 33 (.one 34 (.one 35 (.one 36 (.one 37 .done)))))))))))))))))))))))))))))))))))))
@[go_sem] def Kx (Jp:Nat):OP:=oN 0 (mv 17 0) (oN 1 (mv 18 5) (oN 2 (ia 19 4 17 18) (oN 3 (fa 20 0 19) (oN 4 (xo 21 (.load true 2 (.t 20))) (oN 5 (mv 22 1) (oN 6 (mv 23 5) (oN 7 (ia 24 4 22 23) (oN 8 (fa 25 0 24) (oN 9 (xo 26 (.load true 2 (.t 25))) (oN 10 (xo 27 (.eqagg true [0,0] (.t 21) (.t 26))) (oN 11 (mv 28 27) (oN 12 (mg 29 0 28 false) (oN 13 (mg 30 5 28 false) (oN 14 (xg 31 (.iaddr 4 (.t 29) (.t 30)) 28 false) (oN 15 (xg 32 (.faddr 2 (.t 31)) 28 false) (oN 16 (xg 33 (.load false 1 (.t 32)) 28 false) (oN 17 (mg 34 1 28 false) (oN 18 (mg 35 5 28 false) (oN 19 (xg 36 (.iaddr 4 (.t 34) (.t 35)) 28 false) (oN 20 (xg 37 (.faddr 2 (.t 36)) 28 false) (oN 21 (xg 38 (.load false 1 (.t 37)) 28 false) (oN 22 (xg 39 (.bin .neq (.t 33) (.t 38)) 28 false) (oN 23 (xo 40 (.pick (.t 28) (.c (V.bool true)) (.t 39))) (oN 24 (mv 41 40) (oN 25 (mg 42 0 41 false) (oN 26 (mg 43 5 41 false) (oN 27 (xg 44 (.iaddr 4 (.t 42) (.t 43)) 41 false) (oN 28 (xg 45 (.faddr 3 (.t 44)) 41 false) (oN 29 (xg 46 (.load false 1 (.t 45)) 41 false) (oN 30 (mg 47 1 41 false) (oN 31 (mg 48 5 41 false) (oN 32 (xg 49 (.iaddr 4 (.t 47) (.t 48)) 41 false) (oN 33 (xg 50 (.faddr 3 (.t 49)) 41 false) (oN 34 (xg 51 (.load false 1 (.t 50)) 41 false) (oN 35 (xg 52 (.call Jp [(.t 46),(.t 51)]) 41 false) (oN 36 (xg 53 (.un .not (.t 52)) 41 false) (oN 37 (xo 54 (.pick (.t 41) (.c (V.bool true)) (.t 53))) .done)))))))))))))))))))))))))))))))))))))
instance (Jp:Nat):RG [] Kv (Kx Jp) (Kz Jp) KC 38 (fun _=>true):=⟨rfl,by kernel_rfl,by kernel_rfl⟩
def Vs (Jp:Nat):AC:=Qa [0,1] (.reg [mc 4 (V.bool false)]) (Qa [0,1] (Qa [0,1,10] (.reg [mv 6 0,ln 7 6,mv 8 1,ln 9 8,bn 10 .neq 7 9]) (.cond (.t 10) (Qa [4] (.reg [mc 4 (V.bool false)]) .ret) .skip)) (Qa [] (Qa [0,1,5] (.reg [mc 5 (V.int 0)]) (.block 0 (JH [0,1,5] (Qa [0,1,5] (Qa [0,1,5,14] (.reg [mv 11 5,mv 12 0,ln 13 12,bn 14 .lss 11 13]) (.cond (.t 14) .skip (.exit 0))) (Qa [0,1,5] (.block 1 (Qa [0,1,5,54] (yh [] Kv (Kx Jp) (Kz Jp) KC) (.cond (.t 54) (Qa [4] (.reg [mc 4 (V.bool false)]) .ret) .skip))) (.reg [mv 15 5,bc 16 .add 15 (V.int 1),mv 5 16])))))) (Qa [4] (.reg [mc 4 (V.bool true)]) .ret))) def r_ref09_SameIdentities:List Jl:=[.tmp 4]
def Vf (Γ:Env) (f:Nat):Prop:=∀ (a b:List QI) (ha:a.length < 2 ^ 60) (hl:∀ x∈a,x.chain.length < 2 ^ 60) (hn:∀ x∈a,∀ c∈x.chain,c.names.length < 2 ^ 60),EvN Γ f [.sl 4 (a.map QI.v),.sl 4 (b.map QI.v)] (V.bool (eqL xZ a b))
attribute [local go_sem] QI.cells QI.v in
theorem abT {Γ:Env} {f Jp:Nat} (h:Has Γ.P f 55 (Vs Jp) r_ref09_SameIdentities) (z0:qB Γ Jp):Vf Γ f:=by
 intro a b ha hl hn
 refine Qe h zsi zcl zcl fun C hC hm=>?_
 subst hC
 unfold Vs
 have lma:(a.map QI.v).length = a.length:=List.length_map _
 have lmb:(b.map QI.v).length = b.length:=List.length_map _
 by_cases hlen:a.length = b.length
 ·have e0:(((a.length:Nat):Int) != ((b.length:Nat):Int)) = false:=by simp [hlen]
  (have zx:=And.intro lma (And.intro lmb e0));refine zgo ?_;repeat' first|exact zt|apply zan|intro hc
  refine QP (ι:=Nat) (fun k=>k≤a.length∧eqL xZ (a.drop k) (b.drop k) = eqL xZ a b) (fun k=>[(5,V.int k)]) (fun k=>a.length - k) 0 (by omega) ⟨Nat.zero_le _,rfl⟩ (by repeat' first|exact Q8|refine JD (by omega) (by simp only [Ob.lt,ltL,V.lt,and_self,and_true];try omega) ?_) (fun i hi=>by simp only [ovT,Ji,Nat.reduceEqDiff,reduceIte];(repeat' first|exact JC|refine Q7 ?_ ?_|simp only [V.lt,ltL,and_self,and_true]|omega)) zet fun k hk K' hL=>?_
  obtain ⟨hk,hinv⟩:=hk
  simp only [ovT,Ji,Nat.reduceEqDiff,reduceIte]
  rcases hd:a.drop k with _|⟨y,r⟩
  ·have:=Qs hd
   have hd2:b.drop k = []:=List.drop_eq_nil_of_le (by omega)
   rw [hd,hd2] at hinv
   have e1:decide ((k:Int) < ((a.length:Nat):Int)) = false:=by simp;omega
   rw [← hinv,show eqL xZ [] [] = true from rfl]
   (have zx:=And.intro e1 lma);exact zg
  ·obtain ⟨hk',hget,hr⟩:=Ql hd
   have e1:decide ((k:Int) < ((a.length:Nat):Int)) = true:=by simp;omega
   rcases hd2:b.drop k with _|⟨z,r2⟩
   ·have:=Qs hd2;omega
   ·obtain ⟨hk2,hget2,hr2⟩:=Ql hd2
    rw [hd,hd2,eqL] at hinv
    have hw:=Qj (k:=k) (by omega)
    have hmy:=List.mem_of_getElem? hget
    have hmz:=List.mem_of_getElem? hget2
    have hgy:=(z0 y.chain z.chain (hl y hmy) (hn y hmy)).b
    have hfal:xZ y z = false→eqL xZ a b = false:=fun h=>by rw [← hinv,h,Bool.false_and]
    have htru:xZ y z = true→eqL xZ r r2 = eqL xZ a b:=fun h=>by rw [← hinv,h,Bool.true_and]
    rcases y1:(y.kalg == z.kalg) with _|_<;>rcases y2:(y.kbits == z.kbits) with _|_<;>rcases y3:(y.kid != z.kid) with _|_
    all_goals
     (have zx:=And.intro e1 (And.intro lma (And.intro hget (And.intro hget2 (And.intro hw (And.intro y1 (And.intro y2 y3)))))));refine zgo ?_;repeat' first|exact zt|apply zan|intro hc
     all_goals (try simp only [bne_eq_false_iff_eq,bne_iff_ne,ne_eq] at *)
     all_goals first|(rw [hfal]<;>first|(simp [xZ, *];done)|exact zr)|exact hL _ (k + 1) zet ⟨by omega,by rw [hr,hr2];exact htru (by simp [xZ, *])⟩ (by omega) (fun a ha=>by simp only [u32,u33,u34,u35,u36,u37,u38,u39];repeat rw [if_neg (by omega)])
 ·have e0:(((a.length:Nat):Int) != ((b.length:Nat):Int)) = true:=by simp;omega
  rw [abY a b hlen]
  (have zx:=And.intro lma (And.intro lmb e0));exact zg
structure QL.SmE (e:QL):Prop where
 hs:e.suites.length < 2 ^ 60
 ha:e.anchors.length < 2 ^ 60
 hh:e.hashes.length < 2 ^ 60
 hi:e.idents.length < 2 ^ 60
 hl:∀ x∈e.idents,x.chain.length < 2 ^ 60
 hn:∀ x∈e.idents,∀ c∈x.chain,c.names.length < 2 ^ 60
def wM (WE J0 Qu:Nat):AC:=Qa [2,3] (.reg [xo 2 (.box true 9 (.t 0)),xo 3 (.box true 9 (.t 1)),mc 4 (V.bool false)]) (Qa [2,3,5] (.reg [mc 5 (.clo WE [])]) (Qa [2,3,5,6] (.reg [fa 7 3 2,ld 8 1 7,fa 9 3 3,ld 10 1 9,cl 11 J0 [8,10],mv 12 11,xg 13 (.faddr 6 (.t 2)) 12 true,xg 14 (.load false 1 (.t 13)) 12 true,xg 15 (.faddr 6 (.t 3)) 12 true,xg 16 (.load false 1 (.t 15)) 12 true,xg 17 (.call J0 [(.t 14),(.t 16)]) 12 true,xo 18 (.pick (.t 12) (.t 17) (.c (V.bool false))),mv 19 18,xg 20 (.faddr 7 (.t 2)) 19 true,xg 21 (.load false 1 (.t 20)) 19 true,xg 22 (.faddr 7 (.t 3)) 19 true,xg 23 (.load false 1 (.t 22)) 19 true,xg 24 (.call J0 [(.t 21),(.t 23)]) 19 true,xo 25 (.pick (.t 19) (.t 24) (.c (V.bool false))),mv 6 25]) (Qa [4] (.reg [fa 26 0 2,ld 27 1 26,fa 28 0 3,ld 29 1 28,bn 30 .eql 27 29,mv 31 30,xg 32 (.faddr 1 (.t 2)) 31 true,xg 33 (.load false 1 (.t 32)) 31 true,xg 34 (.faddr 1 (.t 3)) 31 true,xg 35 (.load false 1 (.t 34)) 31 true,xg 36 (.bin .eql (.t 33) (.t 35)) 31 true,xo 37 (.pick (.t 31) (.t 36) (.c (V.bool false))),mv 38 37,xg 39 (.faddr 2 (.t 2)) 38 true,xg 40 (.load false 1 (.t 39)) 38 true,xg 41 (.faddr 2 (.t 3)) 38 true,xg 42 (.load false 1 (.t 41)) 38 true,xg 43 (.bin .eql (.t 40) (.t 42)) 38 true,xo 44 (.pick (.t 38) (.t 43) (.c (V.bool false))),mv 45 44,xg 46 (.faddr 4 (.t 2)) 45 true,xg 47 (.load false 1 (.t 46)) 45 true,xg 48 (.faddr 4 (.t 3)) 45 true,xg 49 (.load false 1 (.t 48)) 45 true,xg 50 (.eqb false (.t 47) (.t 49)) 45 true,xo 51 (.pick (.t 45) (.t 50) (.c (V.bool false))),mv 52 51,xg 53 (.faddr 8 (.t 2)) 52 true,xg 54 (.load false 1 (.t 53)) 52 true,xg 55 (.faddr 8 (.t 3)) 52 true,xg 56 (.load false 1 (.t 55)) 52 true,xg 57 (.eqb false (.t 54) (.t 56)) 52 true,xo 58 (.pick (.t 52) (.t 57) (.c (V.bool false))),mv 59 58,mg 60 6 59 true,xo 61 (.pick (.t 59) (.t 60) (.c (V.bool false))),mv 62 61,xg 63 (.faddr 5 (.t 2)) 62 true,xg 64 (.load false 1 (.t 63)) 62 true,xg 65 (.faddr 5 (.t 3)) 62 true,xg 66 (.load false 1 (.t 65)) 62 true,mg 67 5 62 true,xg 68 (.call Qu [(.t 64),(.t 66),(.t 67)]) 62 true,xo 69 (.pick (.t 62) (.t 68) (.c (V.bool false))),mv 4 69]) .ret))) def r_endpoint_Same:List Jl:=[.tmp 4]
def yR (Γ:Env) (f:Nat):Prop:=∀ (a b:QL) (sm:a.SmE),EvN Γ f [a.v,b.v] (V.bool (aru a b))
theorem ajL {Γ:Env} {f WE J0 Qu:Nat} (h:Has Γ.P f 70 (wM WE J0 Qu) r_endpoint_Same) (z0:qH Γ WE) (z1:Wr Γ J0) (z2:QJ Γ Qu):yR Γ f:=by
 intro a b sm
 refine Qe h zsi zcl zcl fun C hC hm=>?_
 subst hC
 unfold wM
 have q1:=(z1 a.suites b.suites sm.hs).b
 have q2:=(z1 a.anchors b.anchors sm.ha).b
 have q3:=(z1 a.hashes b.hashes sm.hh).b
 have q4:=(z2 WE a.idents b.idents sm.hi (fun x hx y _=>z0 x y (sm.hl x hx) (sm.hn x hx))).b
 rw [aqT] at q1 q2 q3
 simp only [QL.v,QL.cells]
 rcases r1:a.suites == b.suites with _|_<;>rcases r2:a.anchors == b.anchors with _|_<;>rcases r4:eqL xZ a.idents b.idents with _|_
 all_goals
  rw [r1] at q1
  rw [r2] at q2
  rw [r4] at q4
  refine zgo ?_;repeat' first|exact zt|apply zan|intro hc
  all_goals first|(refine Qn _ rfl ?_;simp only [go_sem];simp [aru,se1,se2, *];done)
def adM (X2 XX:Nat):AC:=Qa [2,3] (.reg [xo 2 (.box true 9 (.t 0)),xo 3 (.box true 9 (.t 1)),mc 4 (V.bool false)]) (Qa [4] (.reg [fa 5 0 2,ld 6 1 5,fa 7 0 3,ld 8 1 7,bn 9 .eql 6 8,mv 10 9,xg 11 (.faddr 1 (.t 2)) 10 true,xg 12 (.load false 1 (.t 11)) 10 true,xg 13 (.faddr 1 (.t 3)) 10 true,xg 14 (.load false 1 (.t 13)) 10 true,xg 15 (.bin .eql (.t 12) (.t 14)) 10 true,xo 16 (.pick (.t 10) (.t 15) (.c (V.bool false))),mv 17 16,xg 18 (.faddr 2 (.t 2)) 17 true,xg 19 (.load false 1 (.t 18)) 17 true,xg 20 (.faddr 2 (.t 3)) 17 true,xg 21 (.load false 1 (.t 20)) 17 true,xg 22 (.bin .eql (.t 19) (.t 21)) 17 true,xo 23 (.pick (.t 17) (.t 22) (.c (V.bool false))),mv 24 23,xg 25 (.faddr 3 (.t 2)) 24 true,xg 26 (.load false 1 (.t 25)) 24 true,xg 27 (.faddr 3 (.t 3)) 24 true,xg 28 (.load false 1 (.t 27)) 24 true,xg 29 (.call X2 [(.t 26),(.t 28)]) 24 true,xo 30 (.pick (.t 24) (.t 29) (.c (V.bool false))),mv 31 30,xg 32 (.faddr 4 (.t 2)) 31 true,xg 33 (.load false 1 (.t 32)) 31 true,xg 34 (.faddr 4 (.t 3)) 31 true,xg 35 (.load false 1 (.t 34)) 31 true,xg 36 (.eqb false (.t 33) (.t 35)) 31 true,xo 37 (.pick (.t 31) (.t 36) (.c (V.bool false))),mv 38 37,xg 39 (.faddr 5 (.t 2)) 38 true,xg 40 (.load false 1 (.t 39)) 38 true,xg 41 (.faddr 5 (.t 3)) 38 true,xg 42 (.load false 1 (.t 41)) 38 true,xg 43 (.call XX [(.t 40),(.t 42)]) 38 true,xo 44 (.pick (.t 38) (.t 43) (.c (V.bool false))),mv 45 44,xg 46 (.faddr 6 (.t 2)) 45 true,xg 47 (.load false 1 (.t 46)) 45 true,xg 48 (.faddr 6 (.t 3)) 45 true,xg 49 (.load false 1 (.t 48)) 45 true,xg 50 (.call X2 [(.t 47),(.t 49)]) 45 true,xo 51 (.pick (.t 45) (.t 50) (.c (V.bool false))),mv 52 51,xg 53 (.faddr 7 (.t 2)) 52 true,xg 54 (.load false 1 (.t 53)) 52 true,xg 55 (.faddr 7 (.t 3)) 52 true,xg 56 (.load false 1 (.t 55)) 52 true,xg 57 (.call X2 [(.t 54),(.t 56)]) 52 true,xo 58 (.pick (.t 52) (.t 57) (.c (V.bool false))),mv 59 58,xg 60 (.faddr 8 (.t 2)) 59 true,xg 61 (.load false 1 (.t 60)) 59 true,xg 62 (.faddr 8 (.t 3)) 59 true,xg 63 (.load false 1 (.t 62)) 59 true,xg 64 (.eqb false (.t 61) (.t 63)) 59 true,xo 65 (.pick (.t 59) (.t 64) (.c (V.bool false))),mv 4 65]) .ret) def r_ref09_Same:List Jl:=[.tmp 4]
def acp (Γ:Env) (f:Nat):Prop:=∀ (a b:QL) (sm:a.SmE),EvN Γ f [a.v,b.v] (V.bool (aru a b))
theorem anw {Γ:Env} {f X2 XX:Nat} (h:Has Γ.P f 66 (adM X2 XX) r_ref09_Same) (z0:jA Γ X2) (z1:Vf Γ XX):acp Γ f:=by
 intro a b sm
 refine Qe h zsi zcl zcl fun C hC hm=>?_
 subst hC
 unfold adM
 have q1:=(z0 a.suites b.suites (by have:=sm.hs;omega)).b
 have q2:=(z0 a.anchors b.anchors (by have:=sm.ha;omega)).b
 have q3:=(z0 a.hashes b.hashes (by have:=sm.hh;omega)).b
 have q4:=(z1 a.idents b.idents sm.hi sm.hl sm.hn).b
 simp only [QL.v,QL.cells]
 refine zgo ?_;repeat' first|exact zt|apply zan|intro hc
 all_goals first|(refine Qn _ rfl ?_;simp only [go_sem];simp [aru,se1,se2, *];done)
def qi (Qy:Nat):AC:=Qa [0] (.reg [mc 2 (V.bool false)]) (Qa [2] (.reg [mv 3 0,cl 4 Qy [3],xo 5 (.un .not (.t 4)),mv 2 5]) .ret) def r_endpoint_lines_1:List Jl:=[.tmp 2]
def Kq (Γ:Env) (f:Nat):Prop:=∀ (s:List UInt8) (hs:s.length < 2 ^ 60),EvN Γ f [V.str s] (V.bool (!QX s))
theorem agd {Γ:Env} {f Qy:Nat} (h:Has Γ.P f 6 (qi Qy) r_endpoint_lines_1) (z0:Vm Γ Qy):Kq Γ f:=by
 intro s hs
 refine Qe h zsi zcl zcl fun C hC hm=>?_
 subst hC
 unfold qi
 have h1:=(z0 s hs).b
 refine zgo ?_;repeat' first|exact zt|apply zan|intro hc
 all_goals refine Qn _ rfl ?_;simp only [go_sem]
def jn:AC:=Qa [0,1,2] (.reg [mc 6 (V.str [])]) (Qa [2] (Qa [1,2,7] (.reg [mv 7 0]) (.cond (.t 7) (Qa [6] (.reg [mv 8 1,mv 6 8]) .ret) .skip)) (Qa [6] (.reg [mv 9 2,mv 6 9]) .ret)) def r_endpoint_choose:List Jl:=[.tmp 6]
def qG (Γ:Env) (f:Nat):Prop:=∀ (b:Bool) (x y:List UInt8),EvN Γ f [V.bool b,V.str x,V.str y] (V.str (if b = true then x else y))
theorem ahx {Γ:Env} {f:Nat} (h:Has Γ.P f 10 jn r_endpoint_choose) :qG Γ f:=by
 intro b x y
 refine Qe h zsi zcl zcl fun C hC hm=>?_
 subst hC
 unfold jn
 cases b
 ·refine zgo ?_;repeat' first|exact zt|apply zan|intro hc
  refine Qn _ rfl ?_;simp only [go_sem]
 ·refine zgo ?_;repeat' first|exact zt|apply zan|intro hc
  refine Qn _ rfl ?_;simp only [go_sem]
def Xm:AC:=Qa [0] (.reg [xo 2 (.mknil 1)]) (Qa [0] (Qa [0,4] (.reg [mv 3 0,xo 4 (.isnil false (.t 3))]) (.cond (.t 4) (Qa [2] (.reg [xo 2 (.mknil 1)]) .ret) .skip)) (Qa [2] (.reg [xo 5 (.bslice 0 1 false [vs0] []),mv 6 0,xo 7 (.append 1 16 [vs0] (.t 5) (.t 6)),mv 2 7]) .ret)) def r_slices_Clone___string_string:List Jl:=[.tmp 2]
def Xa (Γ:Env) (f:Nat):Prop:=∀ (l:List (List UInt8)) (hl:l.length < 2 ^ 34),EvC Γ f [.sl 1 (l.map V.str)] (.sl 1 (l.map V.str))
theorem qY {Γ:Env} {f:Nat} (h:Has Γ.P f 8 Xm r_slices_Clone___string_string) :Xa Γ f:=by
 intro l hl
 refine QV h zsi zcl fun C hC hm=>?_
 subst hC
 unfold Xm
 rcases l with _|⟨x,r⟩
 ·repeat' (first|(refine zsk ?_;intro K' hK)|refine zsp ?_|(refine zsc ?_ ?_<;>intro hc<;>first|exact znh|try simp only [znz] at hc)|simp (maxSteps:=1000000) only [go_sem]|(refine hK _ ?_;clear hK K')|apply zan|exact zsq|fail)
  intro t
  rcases t with _|_
  ·repeat' (first|(refine zsk ?_;intro K' hK)|refine zsp ?_|(refine zsc ?_ ?_<;>intro hc<;>first|exact znh|try simp only [znz] at hc)|simp (maxSteps:=1000000) only [go_sem]|(refine hK _ ?_;clear hK K')|apply zan|exact zsq|fail)
   all_goals first|exact zr
  ·repeat' (first|(refine zsk ?_;intro K' hK)|refine zsp ?_|(refine zsc ?_ ?_<;>intro hc<;>first|exact znh|try simp only [znz] at hc)|simp (maxSteps:=1000000) only [go_sem]|(refine hK _ ?_;clear hK K')|apply zan|exact zsq|fail)
   all_goals first|exact zr
 ·repeat' (first|(refine zsk ?_;intro K' hK)|refine zsp ?_|(refine zsc ?_ ?_<;>intro hc<;>first|exact znh|try simp only [znz] at hc)|simp (maxSteps:=1000000) only [go_sem]|(refine hK _ ?_;clear hK K')|apply zan|exact zsq|fail)
  all_goals first
   | (simp only [List.length_map,List.length_cons] at hl ⊢;omega)
   | (refine Qn _ rfl ?_;simp only [go_sem];first|done|(rw [List.take_of_length_le (by simp)];done)|(rw [List.take_of_length_le (by simp)];rfl)|trace_state)
def YA:AC:=Qa [0,1] (.reg [mc 4 (V.int 0)]) (Qa [] (Qa [0,1,7,8] (.reg [mv 6 0,ln 7 6,mc 8 (V.int 0)]) (.block 0 (JH [0,1,7,8] (Qa [0,1,7,8,9] (.reg [bn 9 .lss 8 7]) (Qa [0,1,7,8] (.cond (.t 9) .skip (.exit 0)) (Qa [0,1,7,8] (.block 1 (Qa [0,1,5,7,8] (.reg [mv 10 8,mv 5 10]) (Qa [0,1,5,7,8,16] (.reg [mv 11 1,mv 12 0,mv 13 5,ia 14 1 12 13,ld 15 1 14,xo 16 (.callv (.t 11) [(.t 15)])]) (.cond (.t 16) (Qa [4] (.reg [mv 17 5,mv 4 17]) .ret) .skip)))) (.reg [bc 18 .add 8 (V.int 1),mv 8 18]))))))) (Qa [4] (.reg [mc 4 (V.int (-1))]) .ret)) def r_slices_IndexFunc___string_string:List Jl:=[.tmp 4]
def Yw (Γ:Env) (f:Nat):Prop:=∀ (xs:List (List UInt8)) (g:Nat) (cap:List V) (p:(List UInt8)→Bool) (hp:∀ x∈xs,EvN Γ g (V.str x :: cap) (V.bool (p x))) (hcap:closedL cap) (hl:xs.length < 2 ^ 62),EvN Γ f [.sl 1 (xs.map V.str),.clo g cap] (V.int (acR p 0 xs))
attribute [local go_sem] List.map_nil in
theorem Ke {Γ:Env} {f:Nat} (h:Has Γ.P f 19 YA r_slices_IndexFunc___string_string) :Yw Γ f:=by
 intro xs g cap p hp hcap hl
 refine Qe h zsi zcl zcl fun C hC hm=>?_
 subst hC
 unfold YA
 have s1:∀ o,Xh o cap = cap:=fun o=>Xk o cap hcap
 have s2:∀ o B,Q3 o B cap = True:=fun o B=>eq_true (Yq o B cap hcap)
 refine zgo ?_;repeat' first|exact zt|apply zan|intro hc
 refine QP (ι:=Nat) (fun k=>k≤xs.length∧acR p k (xs.drop k) = acR p 0 xs) (fun k=>[(8,V.int k)]) (fun k=>xs.length - k) 0 (by omega) ⟨by simp,by simp⟩ (by repeat' first|exact Q8|refine JD (by omega) (by simp only [Ob.lt,ltL,V.lt,and_self,and_true];try omega) ?_) (fun i hi=>by simp only [ovT,Ji,Nat.reduceEqDiff,reduceIte];(repeat' first|exact JC|refine Q7 ?_ ?_|simp only [V.lt,ltL,and_self,and_true]|omega);exact Ua _ _ hcap) (by simp only [Nat.reduceAdd,ovT,Ji,Nat.reduceEqDiff,reduceIte,U5,ym,arA,u32,u33,u34,u35,u36,u37,u38,u39,and_self,and_true,true_and];first|rfl|exact J4 _ _ hcap) fun k hk K' hL=>?_
 obtain ⟨hk,hinv⟩:=hk
 simp only [ovT,Ji,Nat.reduceEqDiff,reduceIte]
 rcases hd:xs.drop k with _|⟨y,r⟩
 ·have:=Qs hd
  rw [hd] at hinv
  have e1:decide ((k:Int) < (((xs.map V.str).length:Nat):Int)) = false:=by simp;omega
  (have zx:=e1);refine zgo ?_;repeat' first|exact zt|apply zan|intro hc
  refine Qn _ rfl ?_
  simp only [go_sem]
  rw [← hinv];rfl
 ·obtain ⟨hk,hget,hr⟩:=Ql hd
  rw [hd] at hinv
  have hw:=Qj (k:=k) (by omega)
  have e1:decide ((k:Int) < (((xs.map V.str).length:Nat):Int)) = true:=by simp;omega
  have hpy:=hp y (List.mem_of_getElem? hget)
  by_cases hy:p y = true
  ·rw [hy] at hpy
   (have zy0:=hpy.b;have zx:=And.intro hget (And.intro hw (And.intro e1 (And.intro s1 s2))));refine zgo ?_;repeat' first|exact zt|apply zan|intro hc
   refine Qn _ rfl ?_;simp only [go_sem]
   rw [← hinv];simp [acR,hy]
  ·have hy':p y = false:=by simpa using hy
   rw [hy'] at hpy
   (have zy0:=hpy.b;have zx:=And.intro hget (And.intro hw (And.intro e1 (And.intro s1 s2))));refine zgo ?_;repeat' first|exact zt|apply zan|intro hc
   refine hL _ (k + 1) zet ⟨by omega,?_⟩ (by omega) (fun a ha=>by simp only [u32,u33,u34,u35,u36,u37,u38,u39];repeat rw [if_neg (by omega)])
   rw [hr,← hinv,acR,if_neg hy]
def Ye (JP:Nat):AC:=Qa [0,1] (.reg [mc 4 (V.bool false)]) (Qa [4] (.reg [mv 5 0,mv 6 1,cl 7 JP [5,6],bc 8 .geq 7 (V.int 0),mv 4 8]) .ret) def r_slices_ContainsFunc___string_string:List Jl:=[.tmp 4]
def Yb (Γ:Env) (f:Nat):Prop:=∀ (xs:List (List UInt8)) (g:Nat) (cap:List V) (p:(List UInt8)→Bool) (hp:∀ x∈xs,EvN Γ g (V.str x :: cap) (V.bool (p x))) (hcap:closedL cap) (hl:xs.length < 2 ^ 62),EvN Γ f [.sl 1 (xs.map V.str),.clo g cap] (V.bool (xs.any p))
theorem V7 {Γ:Env} {f JP:Nat} (h:Has Γ.P f 9 (Ye JP) r_slices_ContainsFunc___string_string) (z0:Yw Γ JP):Yb Γ f:=by
 intro xs g cap p hp hcap hl
 refine Qe h zsi zcl zcl fun C hC hm=>?_
 subst hC
 unfold Ye
 have s1:∀ o,Xh o cap = cap:=fun o=>Xk o cap hcap
 have s2:∀ o B,Q3 o B cap = True:=fun o B=>eq_true (Yq o B cap hcap)
 have hi:=(z0 xs g cap p hp hcap hl).b
 have e1:=ag2 p xs 0
 (have zx:=And.intro s1 (And.intro s2 e1));exact zg
end Av
end

/- K20 -/
import Derived.Test.YtajbkpjbnooblaaGreatDoorK19
set_option linter.unusedVariables false
set_option linter.unusedSimpArgs false
section
set_option linter.unusedSimpArgs false
set_option linter.unusedVariables false
set_option maxRecDepth 10000
set_option maxHeartbeats 4000000
namespace Av
open Go
attribute [local irreducible] AWp VV UQ Ko awS awC jF awQ yc Jb XH jD awR XT awB okR Wy ris
structure Yo where
 kalg:Int
 kbits:Int
 kid:Int
 chain:List Yg
def Yo.cells (x:Yo):List V:=[V.int x.kalg,V.int x.kbits,V.int x.kid,.sl 15 (x.chain.map Yg.v)]
def Yo.v (x:Yo):V:=.agg x.cells
structure Yo.Sm (x:Yo):Prop where
 hl:x.chain.length < 2 ^ 60
 hc:∀ c∈x.chain,c.Sm
structure JQ where
 name:List UInt8
 least:Int
 most:Int
 suites:List Int
 own:Bool
 idents:List Yo
 anchors:List Int
 hashes:List Int
 fall:Bool
def JQ.cells (e:JQ):List V:=[V.str e.name,V.int e.least,V.int e.most,.sl 1 (e.suites.map V.int),V.bool e.own,.sl 4 (e.idents.map Yo.v),.sl 1 (e.anchors.map V.int),.sl 1 (e.hashes.map V.int),V.bool e.fall]
def JQ.v (e:JQ):V:=.agg e.cells
structure JQ.Sm (e:JQ):Prop where
 hn:e.name.length < 2 ^ 30
 hs:e.suites.length < 2 ^ 30
 hi:e.idents.length < 2 ^ 30
 hx:∀ x∈e.idents,x.Sm
 ha:e.anchors.length < 2 ^ 30
 hh:e.hashes.length < 2 ^ 30
def ltI (a b:Int):Bool:=decide (a < b)
def yes {α:Type} (_:α):Bool:=true
def Uo (l:List Int):Bool:=(!l.any aec) && decide l.Nodup
def apt (l:List Int):Bool:=okP yes ltI l l.length
def aex (n:Int):Bool:=(Yz n).kind == 1
def Yo.ok (x:Yo):Bool:=wq x.kalg x.kbits x.kid x.chain
def amm (e:JQ):Bool:=ab8 e.name && (decide (e.least≥1) && (decide (e.least≤e.most) && (decide (e.most≤4) && Uo e.suites)))
def akK (e:JQ):Bool:=decide ((e.idents.length:Int)≤4) && (decide ((e.anchors.length:Int)≤16) && (apt e.anchors && apt e.hashes))
def ask (e:JQ):Bool:=e.idents.all Yo.ok
def aml (e:JQ):Bool:=e.anchors.all ael && e.hashes.all aex
def Y5 (e:JQ):Bool:=amm e && (akK e && (ask e && aml e))
theorem ahS {l:List Int} {x:Int} (h:x∈l) (hx:aec x = true):Uo l = false:=by
 have:l.any aec = true:=List.any_eq_true.2 ⟨x,h,hx⟩
 simp [Uo,this]
theorem afc {l:List Int} (h:¬ l.Nodup):Uo l = false:=by simp [Uo,h]
def xd (Yd Qh:Nat):AC:=Qe [0] (.reg [mc 2 (V.bool false)]) (Qe [] (Qe [0,7,8,9] (.reg [mv 7 0,ln 8 7,mc 9 (V.int 0)]) (.block 0 (Xw [0,7,8,9] (Qe [0,7,8,9,10] (.reg [bn 10 .lss 9 8]) (Qe [0,7,8,9] (.cond (.t 10) (.skip) (.exit 0)) (Qe [0,7,8,9] (.block 1 (Qe [0,3,4,7,8,9] (.reg [mv 11 9,ia 12 1 7 9,ld 13 1 12,mv 3 11,mv 4 13]) (Qe [0,3,4,6,7,8,9] (.reg [mv 15 4,cl 16 Yd [15],mv 14 16,ex 17 14 0,ex 18 14 1,xo 5 (.alloc [.val (.int .i64 0),.val (.string ⟨#[]⟩),.val (.int .i64 0),.val (.int .i64 0),.val (.int .i64 0),.val (.int .i64 0),.val (.int .i64 0),.val (.int .i64 0),.val (.int .i64 0),.val (.int .i64 0),.val (.int .i64 0),.val (.int .i64 0)]),xs 12 5 17,mv 6 18]) (Qe [0,7,8,9,27] (.reg [mv 19 6,bc 20 .neq 19 (V.int 0),mv 21 20,mg 22 0 21 false,mg 23 3 21 false,xg 24 (.slsl 1 (.t 22) none (some (.t 23))) 21 false,mg 25 4 21 false,xg 26 (.call Qh [(.t 24),(.t 25)]) 21 false,xo 27 (.pick (.t 21) (.c (V.bool true)) (.t 26))]) (.cond (.t 27) (Qe [2] (.reg [mc 2 (V.bool false)]) (.ret)) (.skip)))))) (.reg [bc 28 .add 9 (V.int 1),mv 9 28]))))))) (Qe [2] (.reg [mc 2 (V.bool true)]) (.ret))) def r_endpoint_suites:List YF:=[.tmp 2]
def yv (Γ:Env) (f:Nat):Prop:=∀ (l:List Int) (hl:l.length < 2 ^ 30),EvN Γ f [.sl 1 (l.map V.int)] (V.bool (Uo l))
theorem afH {Γ:Env} {f Yd Qh:Nat} (h:Has Γ.P f 29 (xd Yd Qh) r_endpoint_suites) (z0:UL Γ Yd) (z1:JJ Γ Qh):yv Γ f:=by
 intro l hl
 refine Qj h zsi zcl zcl fun C hC hm=>?_
 subst hC
 unfold xd
 refine zgo ?_;repeat' first|exact zt|apply zan|intro hc
 refine JM (ι:=Nat) (fun k=>k≤l.length∧(l.take k).any aec = false∧(l.take k).Nodup) (fun k=>[(9,V.int k)]) (fun k=>l.length - k) 0 (by omega) ⟨Nat.zero_le _,rfl,List.nodup_nil⟩ (by repeat' first|exact Yb|refine YR (by omega) (by simp only [Ob.lt,ltL,V.lt,and_self,and_true];try omega) ?_) (fun i hi=>by simp only [ovT,Q9,Nat.reduceEqDiff,reduceIte];(repeat' first|exact YQ|refine Ya ?_ ?_|simp only [V.lt,ltL,and_self,and_true]|omega)) (by simp only [Nat.reduceAdd,ovT,Q9,Nat.reduceEqDiff,reduceIte,Qt,Q0,Uh,u32,u33,u34,u35,u36,u37,u38,u39,and_self,and_true,true_and];first|done|rfl) fun k hk K' hL=>?_
 obtain ⟨hk,hg,hnd⟩:=hk
 simp only [ovT,Q9,Nat.reduceEqDiff,reduceIte]
 rcases hd:l.drop k with _|⟨x,r⟩
 ·have hkl:=Ja hd
  have e1:decide ((k:Int) < (((l.map V.int).length:Nat):Int)) = false:=by simp;omega
  rw [List.take_of_length_le hkl] at hg hnd
  have hf:Uo l = true:=by simp [Uo,hg,hnd]
  rw [hf]
  (have zx:=e1);exact zg
 ·obtain ⟨hk',hget,hr⟩:=QK hd
  have hw:=QP (k:=k) (by omega)
  have e1:decide ((k:Int) < (((l.map V.int).length:Nat):Int)) = true:=by simp;omega
  have hsu:=(z0 x).b
  have hA:List.take (k - 0) (l.map V.int) = (l.take k).map V.int:=by rw [Nat.sub_zero,List.map_take]
  have hc1:=(z1 (l.take k) x (by rw [List.length_take];omega)).b
  have hfi:=vI x (l.take k) 0
  by_cases hx:1≤x∧x≤16
  ·have hsv:Va x = .tup [(XI x).v,V.int 0]:=by rw [Va,if_pos hx]
   rw [hsv] at hsu
   simp only [Ji.v,Ji.cells] at hsu
   by_cases hin:x∈l.take k
   ·rw [decide_eq_true (hfi.2 hin)] at hc1
    rw [afc fun h=>adh h hget hin]
    (have zx:=And.intro e1 (And.intro hw (And.intro hget hA)));exact zg
   ·rw [decide_eq_false (fun h=>hin (hfi.1 h))] at hc1
    have hg2:(l.take (k + 1)).any aec = false:=by
     rw [List.take_add_one,hget,List.any_append,hg];simp [aec];omega
    have hnd2:(l.take (k + 1)).Nodup:=by
     rw [List.take_add_one,hget]
     exact List.nodup_append.2 ⟨hnd,by simp,fun a ha b hb e=>by simp at hb;subst hb;subst e;exact hin ha⟩
    (have zx:=And.intro e1 (And.intro hw (And.intro hget hA)));refine zgo ?_;repeat' first|exact zt|apply zan|intro hc
    all_goals first|exact hL _ (k + 1) (by simp only [Nat.reduceAdd,ovT,Q9,Nat.reduceEqDiff,reduceIte,Qt,Q0,Uh,u32,u33,u34,u35,u36,u37,u38,u39,and_self,and_true,true_and];first|done|rfl) ⟨by omega,hg2,hnd2⟩ (by omega) (fun a ha=>by simp only [u32,u33,u34,u35,u36,u37,u38,u39];repeat rw [if_neg (by omega)])
  ·have hbx:aec x = true:=by simp [aec];omega
   rw [ahS (List.mem_of_getElem? hget) hbx]
   have hsv:Va x = .tup [acS.v,V.int 8]:=by rw [Va,if_neg hx,XI,if_neg hx]
   rw [hsv] at hsu
   simp only [Ji.v,Ji.cells,acS] at hsu
   (have zx:=And.intro e1 (And.intro hw (And.intro hget hA)));exact zg
def qn:List AO:=[mv 9 3,bc 10 .gtr 9 (V.int 0),mv 11 10,mg 12 0 11 true,mg 13 3 11 true,xg 14 (.bin .sub (.t 13) (.c (V.int 1))) 11 true,xg 15 (.iaddr 1 (.t 12) (.t 14)) 11 true,xg 16 (.load false 1 (.t 15)) 11 true,mg 17 0 11 true,mg 18 3 11 true,xg 19 (.iaddr 1 (.t 17) (.t 18)) 11 true,xg 20 (.load false 1 (.t 19)) 11 true,xg 21 (.bin .geq (.t 16) (.t 20)) 11 true,xo 22 (.pick (.t 11) (.t 21) (.c (V.bool false)))]
def qt:List (List Nat):=[[],[0],[1],[2],[2],[4,2],[3,5,2],[6,2],[2],[2],[8,9,2],[10,2],[7,11,2],[2,12]]
def qf:OT:=.one 0 (.one 1 (.one 2 (.one 3 (.one 4 (.one 5 (.one 6 (.one 7 (.one 8 (.one 9 (.one 10 (.one 11 (.one 12 (.one 13 (.done))))))))))))))
@[go_sem] def Y7:OP:=.one 0 false [] (mv 9 3) (.one 1 false [] (bc 10 .gtr 9 (V.int 0)) (.one 2 false [] (mv 11 10) (.one 3 false [] (mg 12 0 11 true) (.one 4 false [] (mg 13 3 11 true) (.one 5 false [] (xg 14 (.bin .sub (.t 13) (.c (V.int 1))) 11 true) (.one 6 false [] (xg 15 (.iaddr 1 (.t 12) (.t 14)) 11 true) (.one 7 false [] (xg 16 (.load false 1 (.t 15)) 11 true) (.one 8 false [] (mg 17 0 11 true) (.one 9 false [] (mg 18 3 11 true) (.one 10 false [] (xg 19 (.iaddr 1 (.t 17) (.t 18)) 11 true) (.one 11 false [] (xg 20 (.load false 1 (.t 19)) 11 true) (.one 12 false [] (xg 21 (.bin .geq (.t 16) (.t 20)) 11 true) (.one 13 false [] (xo 22 (.pick (.t 11) (.t 21) (.c (V.bool false)))) (.done))))))))))))))
theorem WE:okR (qn) qt [] qf = true:=by kernel_rfl
theorem Wz:Wy (ris (qn) qt []) qf = Y7:=by kernel_rfl def c_endpoint_ascends:AC:=Qe [0] (.reg [mc 2 (V.bool false)]) (Qe [] (Qe [0,5,6] (.reg [mv 4 0,ln 5 4,mc 6 (V.int 0)]) (.block 0 (Xw [0,5,6] (Qe [0,5,6,7] (.reg [bn 7 .lss 6 5]) (Qe [0,5,6] (.cond (.t 7) (.skip) (.exit 0)) (Qe [0,5,6] (.block 1 (Qe [0,3,5,6] (.reg [mv 8 6,mv 3 8]) (Qe [0,5,6,22] (ace [] qf (Y7) (qn) qt) (.cond (.t 22) (Qe [2] (.reg [mc 2 (V.bool false)]) (.ret)) (.skip))))) (.reg [bc 23 .add 6 (V.int 1),mv 6 23]))))))) (Qe [2] (.reg [mc 2 (V.bool true)]) (.ret))) def r_endpoint_ascends:List YF:=[.tmp 2]
def jv (Γ:Env) (f:Nat):Prop:=∀ (l:List Int) (hl:l.length < 2 ^ 30),EvN Γ f [.sl 1 (l.map V.int)] (V.bool (apt l))
theorem aeU {Γ:Env} {f:Nat} (h:Has Γ.P f 24 c_endpoint_ascends r_endpoint_ascends) :jv Γ f:=by
 intro l hl
 refine Qj h zsi zcl zcl fun C hC hm=>?_
 subst hC
 unfold c_endpoint_ascends
 have hlm:(l.map V.int).length = l.length:=List.length_map _
 repeat' (first|(refine zsk ?_;intro K' hK)|(refine zrt 14 (WE) (Wz) ?_;intro K' hK)|refine zsp ?_|(refine zsc ?_ ?_<;>intro hc<;>first|exact znh|try simp only [znz] at hc)|simp (maxSteps:=1000000) only [go_sem,hlm,Y7]|(refine hK _ ?_;clear hK K')|apply zan|exact zsq|fail)
 refine JM (ι:=Nat) (fun k=>k≤l.length∧okP yes ltI l k = true) (fun k=>[(6,V.int k)]) (fun k=>l.length - k) 0 (by omega) ⟨Nat.zero_le _,rfl⟩ (by repeat' first|exact Yb|refine YR (by omega) (by simp only [Ob.lt,ltL,V.lt,and_self,and_true];try omega) ?_) (fun i hi=>by simp only [ovT,Q9,Nat.reduceEqDiff,reduceIte];(repeat' first|exact YQ|refine Ya ?_ ?_|simp only [V.lt,ltL,and_self,and_true]|omega)) (by simp only [Nat.reduceAdd,ovT,Q9,Nat.reduceEqDiff,reduceIte,Qt,Q0,Uh,u32,u33,u34,u35,u36,u37,u38,u39,and_self,and_true,true_and];first|done|rfl) fun k hk K' hL=>?_
 obtain ⟨hk,hinv⟩:=hk
 simp only [ovT,Q9,Nat.reduceEqDiff,reduceIte]
 rcases hd:l.drop k with _|⟨x,r⟩
 ·have hkl:=Ja hd
  have e1:decide ((k:Int) < ((l.length:Nat):Int)) = false:=by simp;omega
  have hkk:k = l.length:=by omega
  subst hkk
  rw [show apt l = true from hinv]
  repeat' (first|(refine zsk ?_;intro K' hK)|(refine zrt 14 (WE) (Wz) ?_;intro K' hK)|refine zsp ?_|(refine zsc ?_ ?_<;>intro hc<;>first|exact znh|try simp only [znz] at hc)|simp (maxSteps:=1000000) only [go_sem,e1,Y7]|(refine hK _ ?_;clear hK K')|apply zan|exact zsq|fail)
  all_goals first|exact zr
 ·obtain ⟨hk',hget,hr⟩:=QK hd
  have hw:=QP (k:=k) (by omega)
  have e1:decide ((k:Int) < ((l.length:Nat):Int)) = true:=by simp;omega
  rcases k with _|k
  ·have hw0:IntKind.i64.wrap 1 = ((1:Nat):Int):=by decide
   have hg1:okP yes ltI l (0 + 1) = true:=by rw [aie hget];rfl
   have e2:decide (((0:Nat):Int) > 0) = false:=rfl
   repeat' (first|(refine zsk ?_;intro K' hK)|(refine zrt 14 (WE) (Wz) ?_;intro K' hK)|refine zsp ?_|(refine zsc ?_ ?_<;>intro hc<;>first|exact znh|try simp only [znz] at hc)|simp (maxSteps:=1000000) only [go_sem,e1,e2,hw,hw0,Int.toNat_natCast,List.getElem?_map,hget,Y7]|(refine hK _ ?_;clear hK K')|apply zan|exact zsq|fail)
   all_goals first|exact hL _ 1 (by simp only [Nat.reduceAdd,ovT,Q9,Nat.reduceEqDiff,reduceIte,Qt,Q0,Uh,u32,u33,u34,u35,u36,u37,u38,u39,and_self,and_true,true_and];first|done|rfl) ⟨by omega,hg1⟩ (by omega) (fun a ha=>by simp only [u32,u33,u34,u35,u36,u37,u38,u39];repeat rw [if_neg (by omega)])
  ·have e2:decide (((k + 1:Nat):Int) > 0) = true:=decide_eq_true (by omega)
   have hw2:IntKind.i64.wrap (((k + 1:Nat):Int) - 1) = (k:Int):=by rw [UP (by omega) (by omega)];omega
   obtain ⟨y,hgy⟩:∃ y,l[k]? = some y:=⟨_,List.getElem?_eq_getElem (by omega)⟩
   have hnext:=afg (p:=yes) (q:=ltI) hget hgy
   rw [hinv] at hnext
   by_cases hb:y < x
   ·have e3:decide (y≥x) = false:=decide_eq_false (by omega)
    repeat' (first|(refine zsk ?_;intro K' hK)|(refine zrt 14 (WE) (Wz) ?_;intro K' hK)|refine zsp ?_|(refine zsc ?_ ?_<;>intro hc<;>first|exact znh|try simp only [znz] at hc)|simp (maxSteps:=1000000) only [go_sem,e1,e2,e3,hw,hw2,Int.toNat_natCast,List.getElem?_map,hget,hgy,Y7]|(refine hK _ ?_;clear hK K')|apply zan|exact zsq|fail)
    all_goals first|exact hL _ (k + 2) (by simp only [Nat.reduceAdd,ovT,Q9,Nat.reduceEqDiff,reduceIte,Qt,Q0,Uh,u32,u33,u34,u35,u36,u37,u38,u39,and_self,and_true,true_and];first|done|rfl) ⟨by omega,by rw [hnext];simp [yes,ltI,hb]⟩ (by omega) (fun a ha=>by simp only [u32,u33,u34,u35,u36,u37,u38,u39];repeat rw [if_neg (by omega)])
   ·have e3:decide (y≥x) = true:=decide_eq_true (by omega)
    have hf:apt l = false:=aif (k:=k + 2) (by rw [hnext];simp [ltI,hb]) (by omega)
    rw [hf]
    repeat' (first|(refine zsk ?_;intro K' hK)|(refine zrt 14 (WE) (Wz) ?_;intro K' hK)|refine zsp ?_|(refine zsc ?_ ?_<;>intro hc<;>first|exact znh|try simp only [znz] at hc)|simp (maxSteps:=1000000) only [go_sem,e1,e2,e3,hw,hw2,Int.toNat_natCast,List.getElem?_map,hget,hgy,Y7]|(refine hK _ ?_;clear hK K')|apply zan|exact zsq|fail)
    all_goals first|exact zr
def vR (Yx:Nat):AC:=Qe [0] (.reg [mc 2 (V.bool false)]) (Qe [2] (.reg [mv 3 0,cl 4 Yx [3],bc 5 .eql 4 (V.int 1),mv 2 5]) (.ret)) def r_endpoint_hash:List YF:=[.tmp 2]
def wL (Γ:Env) (f:Nat):Prop:=∀ (n:Int),EvN Γ f [V.int n] (V.bool (aex n))
theorem aht {Γ:Env} {f Yx:Nat} (h:Has Γ.P f 6 (vR Yx) r_endpoint_hash) (z0:KG Γ Yx):wL Γ f:=by
 intro n
 refine Qj h zsi zcl zcl fun C hC hm=>?_
 subst hC
 unfold vR
 unfold aex
 exact zg
def qq:AC:=Qe [0,1] (.reg [mc 3 (V.bool false)]) (Qe [3] (.reg [ld 4 1 1,mv 5 0,xo 6 (.callv (.t 4) [(.t 5)]),xo 7 (.un .not (.t 6)),mv 3 7]) (.ret)) def r_endpoint_Check_1_1:List YF:=[.tmp 3]
def Vx (Γ:Env) (f:Nat):Prop:=∀ (k:Nat) (p:Int→Bool) (x:Int) (hp:EvN Γ k [V.int x] (V.bool (p x))),EvN Γ f [V.int x,.ro [.clo (.n k) []] 0] (V.bool (!p x))
theorem adp {Γ:Env} {f:Nat} (h:Has Γ.P f 8 qq r_endpoint_Check_1_1) :Vx Γ f:=by
 intro k p x hp
 refine Qj h zsi zcl zcl fun C hC hm=>?_
 subst hC
 unfold qq
 have hq:=hp.b
 exact zg
def j8 (WG:Nat):AC:=Qe [1] (.reg [xo 1 (.box false 1 (.t 0)),mc 2 (.sc .nilFunc)]) (Qe [2] (.reg [xo 3 (.mkfn WG [(.t 1)]),mv 2 3]) (.ret)) def r_endpoint_Check_1:List YF:=[.tmp 2]
def jw (Γ:Env) (f:Nat):Prop:=(∃ g:Nat,Vx Γ g∧∀ k:Nat,EvC Γ f [.clo (.n k) []] (.clo (.n g) [.ro [.clo (.n k) []] 0]))
theorem aeV {Γ:Env} {f WG:Nat} (h:Has Γ.P f 4 (j8 WG) r_endpoint_Check_1) (z0:Vx Γ WG):jw Γ f:=by
 refine ⟨WG,z0,fun k=>?_⟩
 refine XR h (by simp) (by simp only [V.closed,closedL,and_self]) fun C hC hm=>?_
 subst hC
 unfold j8
 exact zg
def WN:AC:=Qe [0,1] (.reg [mc 4 (V.int 0)]) (Qe [] (Qe [0,1,7,8] (.reg [mv 6 0,ln 7 6,mc 8 (V.int 0)]) (.block 0 (Xw [0,1,7,8] (Qe [0,1,7,8,9] (.reg [bn 9 .lss 8 7]) (Qe [0,1,7,8] (.cond (.t 9) (.skip) (.exit 0)) (Qe [0,1,7,8] (.block 1 (Qe [0,1,5,7,8] (.reg [mv 10 8,mv 5 10]) (Qe [0,1,5,7,8,16] (.reg [mv 11 1,mv 12 0,mv 13 5,ia 14 1 12 13,ld 15 1 14,xo 16 (.callv (.t 11) [(.t 15)])]) (.cond (.t 16) (Qe [4] (.reg [mv 17 5,mv 4 17]) (.ret)) (.skip))))) (.reg [bc 18 .add 8 (V.int 1),mv 8 18]))))))) (Qe [4] (.reg [mc 4 (V.int (-1))]) (.ret))) def r_slices_IndexFunc___int_int:List YF:=[.tmp 4]
def Wx (Γ:Env) (f:Nat):Prop:=∀ (xs:List Int) (g:Nat) (cap:List V) (p:Int→Bool) (hp:∀ x∈xs,EvN Γ g (V.int x :: cap) (V.bool (p x))) (hcap:closedL cap) (hl:xs.length < 2 ^ 62),EvN Γ f [.sl 1 (xs.map V.int),.clo g cap] (V.int (ac3 p 0 xs))
attribute [local go_sem] List.map_nil in
theorem wv {Γ:Env} {f:Nat} (h:Has Γ.P f 19 WN r_slices_IndexFunc___int_int) :Wx Γ f:=by
 intro xs g cap p hp hcap hl
 refine Qj h zsi zcl zcl fun C hC hm=>?_
 subst hC
 unfold WN
 have s1:∀ o,Wh o cap = cap:=fun o=>Wn o cap hcap
 have s2:∀ o B,JL o B cap = True:=fun o B=>eq_true (Xo o B cap hcap)
 refine zgo ?_;repeat' first|exact zt|apply zan|intro hc
 refine JM (ι:=Nat) (fun k=>k≤xs.length∧ac3 p k (xs.drop k) = ac3 p 0 xs) (fun k=>[(8,V.int k)]) (fun k=>xs.length - k) 0 (by omega) ⟨by simp,by simp⟩ (by repeat' first|exact Yb|refine YR (by omega) (by simp only [Ob.lt,ltL,V.lt,and_self,and_true];try omega) ?_) (fun i hi=>by simp only [ovT,Q9,Nat.reduceEqDiff,reduceIte];(repeat' first|exact YQ|refine Ya ?_ ?_|simp only [V.lt,ltL,and_self,and_true]|omega);exact KZ _ _ hcap) (by simp only [Nat.reduceAdd,ovT,Q9,Nat.reduceEqDiff,reduceIte,Qt,Q0,Uh,u32,u33,u34,u35,u36,u37,u38,u39,and_self,and_true,true_and];first|rfl|exact YT _ _ hcap) fun k hk K' hL=>?_
 obtain ⟨hk,hinv⟩:=hk
 simp only [ovT,Q9,Nat.reduceEqDiff,reduceIte]
 rcases hd:xs.drop k with _|⟨y,r⟩
 ·have:=Ja hd
  rw [hd] at hinv
  have e1:decide ((k:Int) < (((xs.map V.int).length:Nat):Int)) = false:=by simp;omega
  (have zx:=e1);refine zgo ?_;repeat' first|exact zt|apply zan|intro hc
  refine QA _ rfl ?_
  simp only [go_sem]
  rw [← hinv];rfl
 ·obtain ⟨hk,hget,hr⟩:=QK hd
  rw [hd] at hinv
  have hw:=QP (k:=k) (by omega)
  have e1:decide ((k:Int) < (((xs.map V.int).length:Nat):Int)) = true:=by simp;omega
  have hpy:=hp y (List.mem_of_getElem? hget)
  by_cases hy:p y = true
  ·rw [hy] at hpy
   (have zy0:=hpy.b;have zx:=And.intro hget (And.intro hw (And.intro e1 (And.intro s1 s2))));refine zgo ?_;repeat' first|exact zt|apply zan|intro hc
   refine QA _ rfl ?_;simp only [go_sem]
   rw [← hinv];simp [ac3,hy]
  ·have hy':p y = false:=by simpa using hy
   rw [hy'] at hpy
   (have zy0:=hpy.b;have zx:=And.intro hget (And.intro hw (And.intro e1 (And.intro s1 s2))));refine zgo ?_;repeat' first|exact zt|apply zan|intro hc
   refine hL _ (k + 1) (by simp only [Nat.reduceAdd,ovT,Q9,Nat.reduceEqDiff,reduceIte,Qt,Q0,Uh,u32,u33,u34,u35,u36,u37,u38,u39,and_self,and_true,true_and]) ⟨by omega,?_⟩ (by omega) (fun a ha=>by simp only [u32,u33,u34,u35,u36,u37,u38,u39];repeat rw [if_neg (by omega)])
   rw [hr,← hinv,ac3,if_neg hy]
def X9 (XC:Nat):AC:=Qe [0,1] (.reg [mc 4 (V.bool false)]) (Qe [4] (.reg [mv 5 0,mv 6 1,cl 7 XC [5,6],bc 8 .geq 7 (V.int 0),mv 4 8]) (.ret)) def r_slices_ContainsFunc___int_int:List YF:=[.tmp 4]
def X0 (Γ:Env) (f:Nat):Prop:=∀ (xs:List Int) (g:Nat) (cap:List V) (p:Int→Bool) (hp:∀ x∈xs,EvN Γ g (V.int x :: cap) (V.bool (p x))) (hcap:closedL cap) (hl:xs.length < 2 ^ 62),EvN Γ f [.sl 1 (xs.map V.int),.clo g cap] (V.bool (xs.any p))
theorem yF {Γ:Env} {f XC:Nat} (h:Has Γ.P f 9 (X9 XC) r_slices_ContainsFunc___int_int) (z0:Wx Γ XC):X0 Γ f:=by
 intro xs g cap p hp hcap hl
 refine Qj h zsi zcl zcl fun C hC hm=>?_
 subst hC
 unfold X9
 have s1:∀ o,Wh o cap = cap:=fun o=>Wn o cap hcap
 have s2:∀ o B,JL o B cap = True:=fun o B=>eq_true (Xo o B cap hcap)
 have hi:=(z0 xs g cap p hp hcap hl).b
 have e1:=afk p xs 0
 (have zx:=And.intro s1 (And.intro s2 e1));exact zg
@[go_sem] def VX (Qk Qg QJ:Nat):AO:=xg 80 (.callv (.t 79) [(.c (.clo QJ []))]) 76 false
@[go_sem] def xP (Qk Qg QJ:Nat):AO:=xg 81 (.call Qg [(.t 78),(.t 80)]) 76 false
@[go_sem] def xO:AO:=xo 82 (.pick (.t 76) (.c (V.bool true)) (.t 81))
def jX (Qk Qg QJ:Nat):List AO:=[fa 71 6 1,ld 72 1 71,mv 73 5,xo 74 (.callv (.t 73) [(.c (.clo Qk []))]),cl 75 Qg [72,74],mv 76 75,xg 77 (.faddr 7 (.t 1)) 76 false,xg 78 (.load false 1 (.t 77)) 76 false,mg 79 5 76 false,VX Qk Qg QJ,xP Qk Qg QJ,xO]
def yg:List (List Nat):=[[],[0],[],[2],[1,3,3],[4,4],[5],[6,5],[5],[8,5,5],[7,9,9,5],[5,10]]
def jO:OT:=.one 0 (.one 1 (.one 2 (.or 3 (.or 4 (.one 5 (.one 8 (.or 6 (.or 7 (.or 9 (.one 10 (.one 11 (.done))) (.done)) (.or 9 (.one 7 (.one 10 (.one 11 (.done)))) (.done))) (.or 9 (.one 6 (.one 7 (.one 10 (.one 11 (.done))))) (.done))))) (.done)) (.done))))
@[go_sem] def wW (Qk Qg QJ:Nat):OP:=.one 10 false [9,4,3] (xP Qk Qg QJ) (.one 11 false [10,9,4,3] xO (.done))
@[go_sem] def wV (Qk Qg QJ:Nat):OP:=.one 7 false [4,3] (xg 78 (.load false 1 (.t 77)) 76 false) (wW Qk Qg QJ)
@[go_sem] def Jn (Qk Qg QJ:Nat):OP:=.one 0 false [] (fa 71 6 1) (.one 1 false [] (ld 72 1 71) (.one 2 false [] (mv 73 5) (.or 3 true [] (xo 74 (.callv (.t 73) [(.c (.clo Qk []))])) (.or 4 false [3] (cl 75 Qg [72,74]) (.one 5 false [4,3] (mv 76 75) (.one 8 false [4,3] (mg 79 5 76 false) (.or 6 false [4,3] (xg 77 (.faddr 7 (.t 1)) 76 false) (.or 7 false [4,3] (xg 78 (.load false 1 (.t 77)) 76 false) (.or 9 true [4,3] (VX Qk Qg QJ) (wW Qk Qg QJ) (.done)) (.or 9 true [4,3] (VX Qk Qg QJ) (wV Qk Qg QJ) (.done))) (.or 9 true [4,3] (VX Qk Qg QJ) (.one 6 false [4,3] (xg 77 (.faddr 7 (.t 1)) 76 false) (wV Qk Qg QJ)) (.done))))) (.done)) (.done))))
theorem Jz (Qk Qg QJ:Nat):okR (jX Qk Qg QJ) yg [3,9] jO = true:=by kernel_rfl
theorem Jy (Qk Qg QJ:Nat):Wy (ris (jX Qk Qg QJ) yg [3,9]) jO = Jn Qk Qg QJ:=by kernel_rfl def c_endpoint_Check (XP KT Vs JK U7 Qk Qg QJ:Nat):AC:=Qe [1] (.reg [xo 1 (.box true 9 (.t 0)),mc 2 (V.int 0)]) (Qe [1] (Qe [1,32] (.reg [fa 6 0 1,ld 7 1 6,cl 8 XP [7],xo 9 (.un .not (.t 8)),mv 10 9,xg 11 (.faddr 1 (.t 1)) 10 false,xg 12 (.load false 1 (.t 11)) 10 false,xg 13 (.bin .lss (.t 12) (.c (V.int 1))) 10 false,xo 14 (.pick (.t 10) (.c (V.bool true)) (.t 13)),mv 15 14,xg 16 (.faddr 1 (.t 1)) 15 false,xg 17 (.load false 1 (.t 16)) 15 false,xg 18 (.faddr 2 (.t 1)) 15 false,xg 19 (.load false 1 (.t 18)) 15 false,xg 20 (.bin .gtr (.t 17) (.t 19)) 15 false,xo 21 (.pick (.t 15) (.c (V.bool true)) (.t 20)),mv 22 21,xg 23 (.faddr 2 (.t 1)) 22 false,xg 24 (.load false 1 (.t 23)) 22 false,xg 25 (.bin .gtr (.t 24) (.c (V.int 4))) 22 false,xo 26 (.pick (.t 22) (.c (V.bool true)) (.t 25)),mv 27 26,xg 28 (.faddr 3 (.t 1)) 27 false,xg 29 (.load false 1 (.t 28)) 27 false,xg 30 (.call KT [(.t 29)]) 27 false,xg 31 (.un .not (.t 30)) 27 false,xo 32 (.pick (.t 27) (.c (V.bool true)) (.t 31))]) (.cond (.t 32) (Qe [2] (.reg [mc 2 (V.int 19)]) (.ret)) (.skip))) (Qe [1] (Qe [1,54] (.reg [fa 33 5 1,ld 34 1 33,ln 35 34,bc 36 .gtr 35 (V.int 4),mv 37 36,xg 38 (.faddr 6 (.t 1)) 37 false,xg 39 (.load false 1 (.t 38)) 37 false,xg 40 (.lenL (.t 39)) 37 false,xg 41 (.bin .gtr (.t 40) (.c (V.int 16))) 37 false,xo 42 (.pick (.t 37) (.c (V.bool true)) (.t 41)),mv 43 42,xg 44 (.faddr 6 (.t 1)) 43 false,xg 45 (.load false 1 (.t 44)) 43 false,xg 46 (.call Vs [(.t 45)]) 43 false,xg 47 (.un .not (.t 46)) 43 false,xo 48 (.pick (.t 43) (.c (V.bool true)) (.t 47)),mv 49 48,xg 50 (.faddr 7 (.t 1)) 49 false,xg 51 (.load false 1 (.t 50)) 49 false,xg 52 (.call Vs [(.t 51)]) 49 false,xg 53 (.un .not (.t 52)) 49 false,xo 54 (.pick (.t 49) (.c (V.bool true)) (.t 53))]) (.cond (.t 54) (Qe [2] (.reg [mc 2 (V.int 19)]) (.ret)) (.skip))) (Qe [1] (Qe [1,56,57,58] (.reg [fa 55 5 1,ld 56 1 55,ln 57 56,mc 58 (V.int 0)]) (.block 0 (Xw [1,56,57,58] (Qe [1,56,57,58,59] (.reg [bn 59 .lss 58 57]) (Qe [1,56,57,58] (.cond (.t 59) (.skip) (.exit 0)) (Qe [1,56,57,58] (.block 1 (Qe [1,4,56,57,58] (.reg [ia 60 4 56 58,xo 61 (.load true 4 (.t 60)),xo 4 (.alloc [.val (.int .i64 0),.val (.int .i64 0),.val (.int .i64 0),.nil 15]),xs 4 4 61]) (Qe [1,56,57,58,69] (.reg [fa 62 0 4,xo 63 (.load true 2 (.t 62)),fa 64 2 4,ld 65 1 64,fa 66 3 4,ld 67 1 66,cl 68 JK [63,65,67],xo 69 (.un .not (.t 68))]) (.cond (.t 69) (Qe [2] (.reg [mc 2 (V.int 19)]) (.ret)) (.skip))))) (.reg [bc 70 .add 58 (V.int 1),mv 58 70]))))))) (Qe [1,5] (.reg [mc 5 (.clo U7 [])]) (Qe [] (Qe [82] (ace [3,9] jO (Jn Qk Qg QJ) (jX Qk Qg QJ) yg) (.cond (.t 82) (Qe [2] (.reg [mc 2 (V.int 19)]) (.ret)) (.skip))) (Qe [2] (.reg [mc 2 (V.int 0)]) (.ret))))))) def r_endpoint_Check:List YF:=[.tmp 2]
def Uf (Γ:Env) (f:Nat):Prop:=∀ (e:JQ) (sm:e.Sm),EvN Γ f [e.v] (V.int (if Y5 e = true then 0 else 19))
theorem agD {Γ:Env} {f XP KT Vs JK U7 Qk Qg QJ:Nat} (h:Has Γ.P f 83 (c_endpoint_Check XP KT Vs JK U7 Qk Qg QJ) r_endpoint_Check) (z0:q9 Γ XP) (z1:yv Γ KT) (z2:jv Γ Vs) (z3:xw Γ JK) (z4:jw Γ U7) (z5:Vy Γ Qk) (z6:X0 Γ Qg) (z7:wL Γ QJ):Uf Γ f:=by
 intro e sm
 refine Qj h zsi zcl zcl fun C hC hm=>?_
 subst hC
 unfold c_endpoint_Check
 have hw:=(z0 e.name sm.hn).b
 have hsu:=(z1 e.suites sm.hs).b
 have ha1:=(z2 e.anchors sm.ha).b
 have ha2:=(z2 e.hashes sm.hh).b
 obtain ⟨g,hg1,hg⟩:=z4
 have g1:=(hg Qk).b
 have g2:=(hg QJ).b
 have k1:=(z6 e.anchors g [.ro [.clo (.n Qk) []] 0] (fun x=>!ael x) (fun x _=>hg1 Qk ael x (z5 x)) (by simp [V.closed,closedL]) (by have:=sm.ha;omega)).b
 have k2:=(z6 e.hashes g [.ro [.clo (.n QJ) []] 0] (fun x=>!aex x) (fun x _=>hg1 QJ aex x (z7 x)) (by simp [V.closed,closedL]) (by have:=sm.hh;omega)).b
 have no1:amm e = false→(if Y5 e = true then (0:Int) else 19) = 19:=fun h=>by simp [Y5,h]
 have no2:akK e = false→(if Y5 e = true then (0:Int) else 19) = 19:=fun h=>by simp [Y5,h]
 have no3:ask e = false→(if Y5 e = true then (0:Int) else 19) = 19:=fun h=>by simp [Y5,h]
 have no4:aml e = false→(if Y5 e = true then (0:Int) else 19) = 19:=fun h=>by simp [Y5,h]
 have lm1:(e.idents.map Yo.v).length = e.idents.length:=List.length_map _
 have lm2:(e.anchors.map V.int).length = e.anchors.length:=List.length_map _
 have lm3:(e.hashes.map V.int).length = e.hashes.length:=List.length_map _
 simp only [JQ.v,JQ.cells]
 rcases q1:amm e with _|_
 ·rw [no1 q1]
  rcases b1:ab8 e.name with _|_
  ·rw [b1] at hw
   repeat' (first|(refine zsk ?_;intro K' hK)|(refine zrt 12 (Jz _ _ _) (Jy _ _ _) ?_;intro K' hK)|refine zsp ?_|(refine zsc ?_ ?_<;>intro hc<;>first|exact znh|try simp only [znz] at hc)|simp (maxSteps:=1000000) only [go_sem,Jn]|(refine hK _ ?_;clear hK K')|apply zan|((first|apply Ql|apply Qi);(focus first|exact hw|exact (z0 _ zsd).b|exact (z1 _ zsd).b|exact (z2 _ zsd).b|exact (z3 _ _ _ _ zsd zsd).b|exact (z5 _).b|exact (z6 _ _ _ _ zsd zsd zsd).b|exact (z7 _).b))|exact zsq|fail)
   all_goals first|exact zr
  rw [b1] at hw
  by_cases b2:e.least < 1
  ·have e2:decide (e.least < 1) = true:=decide_eq_true b2
   repeat' (first|(refine zsk ?_;intro K' hK)|(refine zrt 12 (Jz _ _ _) (Jy _ _ _) ?_;intro K' hK)|refine zsp ?_|(refine zsc ?_ ?_<;>intro hc<;>first|exact znh|try simp only [znz] at hc)|simp (maxSteps:=1000000) only [go_sem,e2,Jn]|(refine hK _ ?_;clear hK K')|apply zan|((first|apply Ql|apply Qi);(focus first|exact hw|exact (z0 _ zsd).b|exact (z1 _ zsd).b|exact (z2 _ zsd).b|exact (z3 _ _ _ _ zsd zsd).b|exact (z5 _).b|exact (z6 _ _ _ _ zsd zsd zsd).b|exact (z7 _).b))|exact zsq|fail)
   all_goals first|exact zr
  have e2:decide (e.least < 1) = false:=decide_eq_false b2
  by_cases b3:e.least > e.most
  ·have e3:decide (e.least > e.most) = true:=decide_eq_true b3
   repeat' (first|(refine zsk ?_;intro K' hK)|(refine zrt 12 (Jz _ _ _) (Jy _ _ _) ?_;intro K' hK)|refine zsp ?_|(refine zsc ?_ ?_<;>intro hc<;>first|exact znh|try simp only [znz] at hc)|simp (maxSteps:=1000000) only [go_sem,e2,e3,Jn]|(refine hK _ ?_;clear hK K')|apply zan|((first|apply Ql|apply Qi);(focus first|exact hw|exact (z0 _ zsd).b|exact (z1 _ zsd).b|exact (z2 _ zsd).b|exact (z3 _ _ _ _ zsd zsd).b|exact (z5 _).b|exact (z6 _ _ _ _ zsd zsd zsd).b|exact (z7 _).b))|exact zsq|fail)
   all_goals first|exact zr
  have e3:decide (e.least > e.most) = false:=decide_eq_false b3
  by_cases b4:e.most > 4
  ·have e4:decide (e.most > 4) = true:=decide_eq_true b4
   repeat' (first|(refine zsk ?_;intro K' hK)|(refine zrt 12 (Jz _ _ _) (Jy _ _ _) ?_;intro K' hK)|refine zsp ?_|(refine zsc ?_ ?_<;>intro hc<;>first|exact znh|try simp only [znz] at hc)|simp (maxSteps:=1000000) only [go_sem,e2,e3,e4,Jn]|(refine hK _ ?_;clear hK K')|apply zan|((first|apply Ql|apply Qi);(focus first|exact hw|exact (z0 _ zsd).b|exact (z1 _ zsd).b|exact (z2 _ zsd).b|exact (z3 _ _ _ _ zsd zsd).b|exact (z5 _).b|exact (z6 _ _ _ _ zsd zsd zsd).b|exact (z7 _).b))|exact zsq|fail)
   all_goals first|exact zr
  have e4:decide (e.most > 4) = false:=decide_eq_false b4
  have b5:Uo e.suites = false:=by
   rw [amm,b1,decide_eq_true (by omega:e.least≥1),decide_eq_true (by omega:e.least≤e.most),decide_eq_true (by omega:e.most≤4)] at q1
   simpa using q1
  rw [b5] at hsu
  repeat' (first|(refine zsk ?_;intro K' hK)|(refine zrt 12 (Jz _ _ _) (Jy _ _ _) ?_;intro K' hK)|refine zsp ?_|(refine zsc ?_ ?_<;>intro hc<;>first|exact znh|try simp only [znz] at hc)|simp (maxSteps:=1000000) only [go_sem,e2,e3,e4,Jn]|(refine hK _ ?_;clear hK K')|apply zan|((first|apply Ql|apply Qi);(focus first|exact hw|exact hsu|exact (z0 _ zsd).b|exact (z1 _ zsd).b|exact (z2 _ zsd).b|exact (z3 _ _ _ _ zsd zsd).b|exact (z5 _).b|exact (z6 _ _ _ _ zsd zsd zsd).b|exact (z7 _).b))|exact zsq|fail)
  all_goals first|exact zr
 have p1:=q1
 simp only [amm,Bool.and_eq_true,decide_eq_true_eq] at p1
 obtain ⟨b1,b2,b3,b4,b5⟩:=p1
 rw [b1] at hw
 rw [b5] at hsu
 have e2:decide (e.least < 1) = false:=decide_eq_false (by omega)
 have e3:decide (e.least > e.most) = false:=decide_eq_false (by omega)
 have e4:decide (e.most > 4) = false:=decide_eq_false (by omega)
 rcases q2:akK e with _|_
 ·rw [no2 q2]
  by_cases c1:(e.idents.length:Int) > 4
  ·have f1:decide ((e.idents.length:Int) > 4) = true:=decide_eq_true c1
   repeat' (first|(refine zsk ?_;intro K' hK)|(refine zrt 12 (Jz _ _ _) (Jy _ _ _) ?_;intro K' hK)|refine zsp ?_|(refine zsc ?_ ?_<;>intro hc<;>first|exact znh|try simp only [znz] at hc)|simp (maxSteps:=1000000) only [go_sem,e2,e3,e4,lm1,f1,Jn]|(refine hK _ ?_;clear hK K')|apply zan|((first|apply Ql|apply Qi);(focus first|exact hw|exact hsu|exact (z0 _ zsd).b|exact (z1 _ zsd).b|exact (z2 _ zsd).b|exact (z3 _ _ _ _ zsd zsd).b|exact (z5 _).b|exact (z6 _ _ _ _ zsd zsd zsd).b|exact (z7 _).b))|exact zsq|fail)
   all_goals first|exact zr
  have f1:decide ((e.idents.length:Int) > 4) = false:=decide_eq_false c1
  by_cases c2:(e.anchors.length:Int) > 16
  ·have f2:decide ((e.anchors.length:Int) > 16) = true:=decide_eq_true c2
   repeat' (first|(refine zsk ?_;intro K' hK)|(refine zrt 12 (Jz _ _ _) (Jy _ _ _) ?_;intro K' hK)|refine zsp ?_|(refine zsc ?_ ?_<;>intro hc<;>first|exact znh|try simp only [znz] at hc)|simp (maxSteps:=1000000) only [go_sem,e2,e3,e4,lm1,lm2,f1,f2,Jn]|(refine hK _ ?_;clear hK K')|apply zan|((first|apply Ql|apply Qi);(focus first|exact hw|exact hsu|exact (z0 _ zsd).b|exact (z1 _ zsd).b|exact (z2 _ zsd).b|exact (z3 _ _ _ _ zsd zsd).b|exact (z5 _).b|exact (z6 _ _ _ _ zsd zsd zsd).b|exact (z7 _).b))|exact zsq|fail)
   all_goals first|exact zr
  have f2:decide ((e.anchors.length:Int) > 16) = false:=decide_eq_false c2
  rcases c3:apt e.anchors with _|_
  ·rw [c3] at ha1
   repeat' (first|(refine zsk ?_;intro K' hK)|(refine zrt 12 (Jz _ _ _) (Jy _ _ _) ?_;intro K' hK)|refine zsp ?_|(refine zsc ?_ ?_<;>intro hc<;>first|exact znh|try simp only [znz] at hc)|simp (maxSteps:=1000000) only [go_sem,e2,e3,e4,lm1,lm2,f1,f2,Jn]|(refine hK _ ?_;clear hK K')|apply zan|((first|apply Ql|apply Qi);(focus first|exact hw|exact hsu|exact ha1|exact (z0 _ zsd).b|exact (z1 _ zsd).b|exact (z2 _ zsd).b|exact (z3 _ _ _ _ zsd zsd).b|exact (z5 _).b|exact (z6 _ _ _ _ zsd zsd zsd).b|exact (z7 _).b))|exact zsq|fail)
   all_goals first|exact zr
  rw [c3] at ha1
  have c4:apt e.hashes = false:=by
   rw [akK,c3,decide_eq_true (by omega:(e.idents.length:Int)≤4),decide_eq_true (by omega:(e.anchors.length:Int)≤16)] at q2
   simpa using q2
  rw [c4] at ha2
  repeat' (first|(refine zsk ?_;intro K' hK)|(refine zrt 12 (Jz _ _ _) (Jy _ _ _) ?_;intro K' hK)|refine zsp ?_|(refine zsc ?_ ?_<;>intro hc<;>first|exact znh|try simp only [znz] at hc)|simp (maxSteps:=1000000) only [go_sem,e2,e3,e4,lm1,lm2,f1,f2,Jn]|(refine hK _ ?_;clear hK K')|apply zan|((first|apply Ql|apply Qi);(focus first|exact hw|exact hsu|exact ha1|exact ha2|exact (z0 _ zsd).b|exact (z1 _ zsd).b|exact (z2 _ zsd).b|exact (z3 _ _ _ _ zsd zsd).b|exact (z5 _).b|exact (z6 _ _ _ _ zsd zsd zsd).b|exact (z7 _).b))|exact zsq|fail)
  all_goals first|exact zr
 have p2:=q2
 simp only [akK,Bool.and_eq_true,decide_eq_true_eq] at p2
 obtain ⟨c1,c2,c3,c4⟩:=p2
 rw [c3] at ha1
 rw [c4] at ha2
 have f1:decide ((e.idents.length:Int) > 4) = false:=decide_eq_false (by omega)
 have f2:decide ((e.anchors.length:Int) > 16) = false:=decide_eq_false (by omega)
 repeat' (first|(refine zsk ?_;intro K' hK)|(refine zrt 12 (Jz _ _ _) (Jy _ _ _) ?_;intro K' hK)|refine zsp ?_|(refine zsc ?_ ?_<;>intro hc<;>first|exact znh|try simp only [znz] at hc)|simp (maxSteps:=1000000) only [go_sem,e2,e3,e4,lm1,lm2,f1,f2,Jn]|(refine hK _ ?_;clear hK K')|apply zan|((first|apply Ql|apply Qi);(focus first|exact hw|exact hsu|exact ha1|exact ha2|exact (z0 _ zsd).b|exact (z1 _ zsd).b|exact (z2 _ zsd).b|exact (z3 _ _ _ _ zsd zsd).b|exact (z5 _).b|exact (z6 _ _ _ _ zsd zsd zsd).b|exact (z7 _).b))|exact zsq|fail)
 refine JM (ι:=Nat) (fun k=>k≤e.idents.length∧(e.idents.take k).all Yo.ok = true) (fun k=>[(58,V.int k)]) (fun k=>e.idents.length - k) 0 (by omega) ⟨Nat.zero_le _,rfl⟩ (by repeat' first|exact Yb|refine YR (by omega) (by simp only [Ob.lt,ltL,V.lt,and_self,and_true];try omega) ?_) (fun i hi=>by simp only [ovT,Q9,Nat.reduceEqDiff,reduceIte];(repeat' first|exact YQ|refine Ya ?_ ?_|simp only [V.lt,ltL,and_self,and_true]|omega)) (by simp only [Nat.reduceAdd,ovT,Q9,Nat.reduceEqDiff,reduceIte,Qt,Q0,Uh,u32,u33,u34,u35,u36,u37,u38,u39,and_self,and_true,true_and];first|done|rfl) fun k hk K' hL=>?_
 obtain ⟨hk,hinv⟩:=hk
 simp only [ovT,Q9,Nat.reduceEqDiff,reduceIte]
 rcases hd:e.idents.drop k with _|⟨x,r⟩
 ·have hkl:=Ja hd
  have e5:decide ((k:Int) < ((e.idents.length:Nat):Int)) = false:=by simp;omega
  have q3:ask e = true:=by rw [List.take_of_length_le hkl] at hinv;exact hinv
  rcases d1:e.anchors.any (fun x=>!ael x) with _|_
  ·rw [d1] at k1
   rcases d2:e.hashes.any (fun x=>!aex x) with _|_
   ·rw [d2] at k2
    have q4:aml e = true:=by
     rw [aml,Bool.and_eq_true,List.all_eq_true,List.all_eq_true]
     rw [List.any_eq_false] at d1 d2
     exact ⟨fun x hx=>by simpa using d1 x hx,fun x hx=>by simpa using d2 x hx⟩
    have hc:Y5 e = true:=by rw [Y5,q1,q2,q3,q4];rfl
    rw [if_pos hc]
    clear hc
    repeat' (first|(refine zsk ?_;intro K' hK)|(refine zrt 12 (Jz _ _ _) (Jy _ _ _) ?_;intro K' hK)|refine zsp ?_|(refine zsc ?_ ?_<;>intro hc<;>first|exact znh|try simp only [znz] at hc)|simp (maxSteps:=1000000) only [go_sem,e5,lm1,Jn]|(refine hK _ ?_;clear hK K')|apply zan|((first|apply Ql|apply Qi);(focus first|exact g1|exact g2|exact k1|exact k2|exact (z0 _ zsd).b|exact (z1 _ zsd).b|exact (z2 _ zsd).b|exact (z3 _ _ _ _ zsd zsd).b|exact (z5 _).b|exact (z6 _ _ _ _ zsd zsd zsd).b|exact (z7 _).b))|exact zsq|fail)
    all_goals first|exact zr
   ·rw [d2] at k2
    obtain ⟨x,hx,hx2⟩:=List.any_eq_true.1 d2
    rw [no4 (by rw [aml,List.all_eq_false.2 ⟨x,hx,by simpa using hx2⟩,Bool.and_false])]
    repeat' (first|(refine zsk ?_;intro K' hK)|(refine zrt 12 (Jz _ _ _) (Jy _ _ _) ?_;intro K' hK)|refine zsp ?_|(refine zsc ?_ ?_<;>intro hc<;>first|exact znh|try simp only [znz] at hc)|simp (maxSteps:=1000000) only [go_sem,e5,lm1,Jn]|(refine hK _ ?_;clear hK K')|apply zan|((first|apply Ql|apply Qi);(focus first|exact g1|exact g2|exact k1|exact k2|exact (z0 _ zsd).b|exact (z1 _ zsd).b|exact (z2 _ zsd).b|exact (z3 _ _ _ _ zsd zsd).b|exact (z5 _).b|exact (z6 _ _ _ _ zsd zsd zsd).b|exact (z7 _).b))|exact zsq|fail)
    all_goals first|exact zr
  ·rw [d1] at k1
   obtain ⟨x,hx,hx2⟩:=List.any_eq_true.1 d1
   rw [no4 (by rw [aml,List.all_eq_false.2 ⟨x,hx,by simpa using hx2⟩,Bool.false_and])]
   repeat' (first|(refine zsk ?_;intro K' hK)|(refine zrt 12 (Jz _ _ _) (Jy _ _ _) ?_;intro K' hK)|refine zsp ?_|(refine zsc ?_ ?_<;>intro hc<;>first|exact znh|try simp only [znz] at hc)|simp (maxSteps:=1000000) only [go_sem,e5,lm1,Jn]|(refine hK _ ?_;clear hK K')|apply zan|((first|apply Ql|apply Qi);(focus first|exact g1|exact g2|exact k1|exact k2|exact (z0 _ zsd).b|exact (z1 _ zsd).b|exact (z2 _ zsd).b|exact (z3 _ _ _ _ zsd zsd).b|exact (z5 _).b|exact (z6 _ _ _ _ zsd zsd zsd).b|exact (z7 _).b))|exact zsq|fail)
   all_goals first|exact zr
 ·obtain ⟨hk',hget,hrr⟩:=QK hd
  have hwk:=QP (k:=k) (by omega)
  have e5:decide ((k:Int) < ((e.idents.length:Nat):Int)) = true:=by simp;omega
  have hm:=List.mem_of_getElem? hget
  have hsh:=(z3 x.kalg x.kbits x.kid x.chain (sm.hx x hm).hl (sm.hx x hm).hc).b
  rcases hcb:Yo.ok x with _|_
  ·have hcc:wq x.kalg x.kbits x.kid x.chain = false:=hcb
   rw [hcc] at hsh
   rw [no3 (List.all_eq_false.2 ⟨x,hm,by simp [hcb]⟩)]
   repeat' (first|(refine zsk ?_;intro K' hK)|(refine zrt 12 (Jz _ _ _) (Jy _ _ _) ?_;intro K' hK)|refine zsp ?_|(refine zsc ?_ ?_<;>intro hc<;>first|exact znh|try simp only [znz] at hc)|simp (maxSteps:=1000000) only [go_sem,e5,hwk,lm1,Int.toNat_natCast,List.getElem?_map,hget,Yo.v,Yo.cells,Jn]|(refine hK _ ?_;clear hK K')|apply zan|((first|apply Ql|apply Qi);(focus first|exact hsh|exact (z0 _ zsd).b|exact (z1 _ zsd).b|exact (z2 _ zsd).b|exact (z3 _ _ _ _ zsd zsd).b|exact (z5 _).b|exact (z6 _ _ _ _ zsd zsd zsd).b|exact (z7 _).b))|exact zsq|fail)
   all_goals first|exact zr
  ·have hcc:wq x.kalg x.kbits x.kid x.chain = true:=hcb
   rw [hcc] at hsh
   repeat' (first|(refine zsk ?_;intro K' hK)|(refine zrt 12 (Jz _ _ _) (Jy _ _ _) ?_;intro K' hK)|refine zsp ?_|(refine zsc ?_ ?_<;>intro hc<;>first|exact znh|try simp only [znz] at hc)|simp (maxSteps:=1000000) only [go_sem,e5,hwk,lm1,Int.toNat_natCast,List.getElem?_map,hget,Yo.v,Yo.cells,Jn]|(refine hK _ ?_;clear hK K')|apply zan|((first|apply Ql|apply Qi);(focus first|exact hsh|exact (z0 _ zsd).b|exact (z1 _ zsd).b|exact (z2 _ zsd).b|exact (z3 _ _ _ _ zsd zsd).b|exact (z5 _).b|exact (z6 _ _ _ _ zsd zsd zsd).b|exact (z7 _).b))|exact zsq|fail)
   all_goals first|exact hL _ (k + 1) (by simp only [Nat.reduceAdd,ovT,Q9,Nat.reduceEqDiff,reduceIte,Qt,Q0,Uh,u32,u33,u34,u35,u36,u37,u38,u39,and_self,and_true,true_and];first|done|rfl) ⟨by omega,afT hget hinv hcb⟩ (by omega) (fun a ha=>by simp only [u32,u33,u34,u35,u36,u37,u38,u39];repeat rw [if_neg (by omega)])
end Av
end
section
set_option linter.unusedSimpArgs false
set_option linter.unusedVariables false
set_option maxRecDepth 10000
set_option maxHeartbeats 4000000
namespace Av
open Go
attribute [local irreducible] AWp VV UQ Ko awS awC jF awQ yc Jb XH jD awR XT awB okR Wy ris
def arR (c:UInt8):Bool:=(decide ((c.toNat:Int) < 97) || decide ((c.toNat:Int) > 122)) && ((decide ((c.toNat:Int) < 65) || decide ((c.toNat:Int) > 90)) && ((decide ((c.toNat:Int) < 48) || decide ((c.toNat:Int) > 57)) && (((c.toNat:Int) != 45) && (((c.toNat:Int) != 95) && ((c.toNat:Int) != 46)))))
theorem aqm (c:UInt8):an6 c [45,95,46] = !arR c:=by
 have h:∀ n,n < 256→an6 (UInt8.ofNat n) [45,95,46] = !arR (UInt8.ofNat n):=by decide +kernel
 have:=h c.toNat (UInt8.toNat_lt c)
 rwa [UInt8.ofNat_toNat] at this
theorem aoK {α:Type} (p:α→Bool) (q:α→α→Bool) (l:List α):∀ k,k≤l.length→okP p q l k = (okP yes q l k && (l.take k).all p)
 | 0,_=>rfl
 | k + 1,h=>by
   have hx:l[k]? = some (l[k]'(by omega)):=List.getElem?_eq_getElem (by omega)
   rw [aaX,aaX,aoK p q l k (by omega),List.take_add_one,hx,List.all_append]
   generalize l[k] = x
   simp only [Option.toList_some,List.all_cons,List.all_nil,Bool.and_true,yes,Bool.true_and]
   generalize (k == 0 || match l[k - 1]? with|some y=>q y x|none=>false) = A
   cases okP yes q l k<;>cases (List.take k l).all p<;>cases p x<;>cases A<;>rfl
theorem ake {α:Type} (p:α→Bool) (q:α→α→Bool) (l:List α):okP p q l l.length = (okP yes q l l.length && l.all p):=by
 rw [aoK p q l _ (Nat.le_refl _),List.take_length]
theorem agZ {l:List Int} (h:Uo l = true):l.length≤16:=by
 simp only [Uo,Bool.and_eq_true,Bool.not_eq_true',decide_eq_true_eq] at h
 refine aqF h.2 fun x hx=>?_
 have:=List.any_eq_false.1 h.1 x hx
 simp [aec] at this;omega
def adw:AC:=Qe [0] (.reg [mc 2 (V.bool false)]) (Qe [0] (Qe [0,12] (.reg [mv 5 0,xo 6 (.lenS (.t 5)),bc 7 .lss 6 (V.int 1),mv 8 7,mg 9 0 8 false,xg 10 (.lenS (.t 9)) 8 false,xg 11 (.bin .gtr (.t 10) (.c (V.int 32))) 8 false,xo 12 (.pick (.t 8) (.c (V.bool true)) (.t 11))]) (.cond (.t 12) (Qe [2] (.reg [mc 2 (V.bool false)]) (.ret)) (.skip))) (Qe [] (Qe [0,3] (.reg [mc 3 (V.int 0)]) (.block 0 (Xw [0,3] (Qe [0,3] (Qe [0,3,16] (.reg [mv 13 3,mv 14 0,xo 15 (.lenS (.t 14)),bn 16 .lss 13 15]) (.cond (.t 16) (.skip) (.exit 0))) (Qe [0,3] (.block 1 (Qe [0,3,4] (.reg [mv 19 0,mv 20 3,xo 21 (.idxS (.t 19) (.t 20)),mv 4 21]) (Qe [0,3,55] (.reg [mv 22 4,bc 23 .lss 22 (.sc (.int .u8 97)),mv 24 23,mg 25 4 24 false,xg 26 (.bin .gtr (.t 25) (.c (.sc (.int .u8 122)))) 24 false,xo 27 (.pick (.t 24) (.c (V.bool true)) (.t 26)),mv 28 27,mg 29 4 28 true,xg 30 (.bin .lss (.t 29) (.c (.sc (.int .u8 65)))) 28 true,mg 31 30 28 true,mg 32 4 31 false,xg 33 (.bin .gtr (.t 32) (.c (.sc (.int .u8 90)))) 31 false,xg 34 (.pick (.t 31) (.c (V.bool true)) (.t 33)) 28 true,xo 35 (.pick (.t 28) (.t 34) (.c (V.bool false))),mv 36 35,mg 37 4 36 true,xg 38 (.bin .lss (.t 37) (.c (.sc (.int .u8 48)))) 36 true,mg 39 38 36 true,mg 40 4 39 false,xg 41 (.bin .gtr (.t 40) (.c (.sc (.int .u8 57)))) 39 false,xg 42 (.pick (.t 39) (.c (V.bool true)) (.t 41)) 36 true,xo 43 (.pick (.t 36) (.t 42) (.c (V.bool false))),mv 44 43,mg 45 4 44 true,xg 46 (.bin .neq (.t 45) (.c (.sc (.int .u8 45)))) 44 true,xo 47 (.pick (.t 44) (.t 46) (.c (V.bool false))),mv 48 47,mg 49 4 48 true,xg 50 (.bin .neq (.t 49) (.c (.sc (.int .u8 95)))) 48 true,xo 51 (.pick (.t 48) (.t 50) (.c (V.bool false))),mv 52 51,mg 53 4 52 true,xg 54 (.bin .neq (.t 53) (.c (.sc (.int .u8 46)))) 52 true,xo 55 (.pick (.t 52) (.t 54) (.c (V.bool false)))]) (.cond (.t 55) (Qe [2] (.reg [mc 2 (V.bool false)]) (.ret)) (.skip))))) (.reg [mv 17 3,bc 18 .add 17 (V.int 1),mv 3 18])))))) (Qe [2] (.reg [mc 2 (V.bool true)]) (.ret)))) def r_ref06_Word:List YF:=[.tmp 2]
def acM (Γ:Env) (f:Nat):Prop:=∀ (s:List UInt8) (hs:s.length < 2 ^ 30),EvN Γ f [V.str s] (V.bool (ab8 s))
theorem akq {Γ:Env} {f:Nat} (h:Has Γ.P f 56 adw r_ref06_Word) :acM Γ f:=by
 intro s hs
 refine Qj h zsi zcl zcl fun C hC hm=>?_
 subst hC
 unfold adw
 by_cases h1:s.length < 1
 ·have e1:decide ((s.length:Int) < 1) = true:=decide_eq_true (by omega)
  have hw:ab8 s = false:=by rw [ab8,decide_eq_false (by omega:¬ (s.length:Int)≥1)];simp
  rw [hw]
  (have zx:=e1);exact zg
 have e1:decide ((s.length:Int) < 1) = false:=decide_eq_false (by omega)
 by_cases h2:s.length > 32
 ·have e2:decide ((s.length:Int) > 32) = true:=decide_eq_true (by omega)
  have hw:ab8 s = false:=by rw [ab8,decide_eq_false (by omega:¬ (s.length:Int)≤32)];simp
  rw [hw]
  (have zx:=And.intro e1 e2);exact zg
 have e2:decide ((s.length:Int) > 32) = false:=decide_eq_false (by omega)
 have hwb:ab8 s = s.all (fun c=>an6 c [45,95,46]):=by rw [ab8,decide_eq_true (by omega:(s.length:Int)≥1),decide_eq_true (by omega:(s.length:Int)≤32)];simp
 rw [hwb]
 (have zx:=And.intro e1 e2);refine zgo ?_;repeat' first|exact zt|apply zan|intro hc
 refine JM (ι:=Nat) (fun k=>k≤s.length∧(s.take k).all (fun c=>an6 c [45,95,46]) = true) (fun k=>[(3,V.int k)]) (fun k=>s.length - k) 0 (by omega) ⟨Nat.zero_le _,rfl⟩ (by repeat' first|exact Yb|refine YR (by omega) (by simp only [Ob.lt,ltL,V.lt,and_self,and_true];try omega) ?_) (fun i hi=>by simp only [ovT,Q9,Nat.reduceEqDiff,reduceIte];(repeat' first|exact YQ|refine Ya ?_ ?_|simp only [V.lt,ltL,and_self,and_true]|omega)) (by simp only [Nat.reduceAdd,ovT,Q9,Nat.reduceEqDiff,reduceIte,Qt,Q0,Uh,u32,u33,u34,u35,u36,u37,u38,u39,and_self,and_true,true_and];first|done|rfl) fun k hk K' hL=>?_
 obtain ⟨hk,hinv⟩:=hk
 simp only [ovT,Q9,Nat.reduceEqDiff,reduceIte]
 rcases hd:s.drop k with _|⟨c,r⟩
 ·have hkl:=Ja hd
  rw [List.take_of_length_le hkl] at hinv
  have e3:decide ((k:Int) < ((s.length:Nat):Int)) = false:=by simp;omega
  rw [hinv]
  (have zx:=e3);exact zg
 ·obtain ⟨hk',hget,hr⟩:=QK hd
  have hw:=QP (k:=k) (by omega)
  have e3:decide ((k:Int) < ((s.length:Nat):Int)) = true:=by simp;omega
  have hb:=aqm c
  have hf:arR c = true→s.all (fun c=>an6 c [45,95,46]) = false:=fun h=>List.all_eq_false.2 ⟨c,List.mem_of_getElem? hget,by rw [hb,h];decide⟩
  have hg:arR c = false→(s.take (k + 1)).all (fun c=>an6 c [45,95,46]) = true:=fun h=>afT hget hinv (by rw [hb,h];rfl)
  (have zx:=And.intro e3 (And.intro hw hget));refine zgo ?_;repeat' first|exact zt|apply zan|intro hc
  all_goals first|(rw [hf]<;>first|(simp [arR, *];done)|exact zr)|exact hL _ (k + 1) (by simp only [Nat.reduceAdd,ovT,Q9,Nat.reduceEqDiff,reduceIte,Qt,Q0,Uh,u32,u33,u34,u35,u36,u37,u38,u39,and_self,and_true,true_and];first|done|rfl) ⟨by omega,hg (by simp [arR, *])⟩ (by omega) (fun a ha=>by simp only [u32,u33,u34,u35,u36,u37,u38,u39];repeat rw [if_neg (by omega)])
end Av
end
section
set_option linter.unusedSimpArgs false
set_option linter.unusedVariables false
set_option maxRecDepth 10000
set_option maxHeartbeats 4000000
namespace Av
open Go
attribute [local irreducible] AWp VV UQ Ko awS awC jF awQ yc Jb XH jD awR XT awB okR Wy ris
theorem aj0 {e:JQ} {k:Nat} (h:okP ael ltI e.anchors k = false) (hk:k≤e.anchors.length):Y5 e = false:=by
 have:=aif h hk
 rw [ake,Bool.and_eq_false_iff] at this
 rcases this with h|h
 ·have:akK e = false:=by rw [akK,show apt e.anchors = false from h];simp
  rw [Y5,this];simp
 ·have:aml e = false:=by rw [aml,h];simp
  rw [Y5,this];simp
theorem amW {e:JQ} {k:Nat} (h:okP aex ltI e.hashes k = false) (hk:k≤e.hashes.length):Y5 e = false:=by
 have:=aif h hk
 rw [ake,Bool.and_eq_false_iff] at this
 rcases this with h|h
 ·have:akK e = false:=by rw [akK,show apt e.hashes = false from h];simp
  rw [Y5,this];simp
 ·have:aml e = false:=by rw [aml,h];simp
  rw [Y5,this];simp
theorem agI {e:JQ} (h:Uo e.suites = false):Y5 e = false:=by simp [Y5,amm,h]
theorem apg {e:JQ} {x:Yo} (h:x∈e.idents) (hx:x.ok = false):Y5 e = false:=by
 have:ask e = false:=List.all_eq_false.2 ⟨x,h,by simp [hx]⟩
 simp [Y5,this]
theorem arq {e:JQ} (h1:ab8 e.name = true) (h2:1≤e.least) (h3:e.least≤e.most) (h4:e.most≤4) (h5:Uo e.suites = true) (h6:e.idents.length≤4) (h7:e.anchors.length≤16) (h8:e.idents.all Yo.ok = true)
  (h9:okP ael ltI e.anchors e.anchors.length = true) (h10:okP aex ltI e.hashes e.hashes.length = true):Y5 e = true:=by
 rw [ake,Bool.and_eq_true] at h9 h10
 have c1:amm e = true:=by rw [amm,h1,h5,decide_eq_true (by omega:e.least≥1),decide_eq_true h3,decide_eq_true h4];rfl
 have c2:akK e = true:=by rw [akK,decide_eq_true (by omega:(e.idents.length:Int)≤4),decide_eq_true (by omega:(e.anchors.length:Int)≤16),show apt e.anchors = true from h9.1,show apt e.hashes = true from h10.1];rfl
 have c4:aml e = true:=by rw [aml,h9.2,h10.2];rfl
 rw [Y5,c1,c2,show ask e = true from h8,c4];rfl
def eSt (e:JQ):St:=JY [(1,.ptr 0 0)] [(0,.box true e.cells)] 1
def vx (JB:Nat):List AO:=[mv 64 5,bc 65 .neq 64 (V.int 0),mv 66 65,xg 67 (.faddr 3 (.t 1)) 66 false,xg 68 (.load false 1 (.t 67)) 66 false,mg 69 3 66 false,xg 70 (.slsl 1 (.t 68) none (some (.t 69))) 66 false,xg 71 (.faddr 3 (.t 1)) 66 false,xg 72 (.load false 1 (.t 71)) 66 false,mg 73 3 66 false,xg 74 (.iaddr 1 (.t 72) (.t 73)) 66 false,xg 75 (.load false 1 (.t 74)) 66 false,xg 76 (.call JB [(.t 70),(.t 75)]) 66 false,xo 77 (.pick (.t 66) (.c (V.bool true)) (.t 76))]
def aaa:List (List Nat):=[[],[0],[1],[2],[3,2],[2],[4,5,2],[2],[7,2],[2],[8,9,2],[10,2],[6,11,2,2],[2,12]]
def vl:OT:=.one 0 (.one 1 (.one 2 (.one 3 (.one 4 (.one 5 (.one 6 (.one 7 (.one 8 (.one 9 (.one 10 (.one 11 (.one 12 (.one 13 (.done))))))))))))))
@[go_sem] def Qx (JB:Nat):OP:=.one 0 false [] (mv 64 5) (.one 1 false [] (bc 65 .neq 64 (V.int 0)) (.one 2 false [] (mv 66 65) (.one 3 false [] (xg 67 (.faddr 3 (.t 1)) 66 false) (.one 4 false [] (xg 68 (.load false 1 (.t 67)) 66 false) (.one 5 false [] (mg 69 3 66 false) (.one 6 false [] (xg 70 (.slsl 1 (.t 68) none (some (.t 69))) 66 false) (.one 7 false [] (xg 71 (.faddr 3 (.t 1)) 66 false) (.one 8 false [] (xg 72 (.load false 1 (.t 71)) 66 false) (.one 9 false [] (mg 73 3 66 false) (.one 10 false [] (xg 74 (.iaddr 1 (.t 72) (.t 73)) 66 false) (.one 11 false [] (xg 75 (.load false 1 (.t 74)) 66 false) (.one 12 false [] (xg 76 (.call JB [(.t 70),(.t 75)]) 66 false) (.one 13 false [12] (xo 77 (.pick (.t 66) (.c (V.bool true)) (.t 76))) (.done))))))))))))))
theorem QI (JB:Nat):okR (vx JB) aaa [] vl = true:=by kernel_rfl
theorem QE (JB:Nat):Wy (ris (vx JB) aaa []) vl = Qx JB:=by kernel_rfl
def vw (YJ:Nat):List AO:=[fa 85 5 1,ld 86 1 85,mv 87 6,ia 88 4 86 87,fa 89 0 88,xo 90 (.load true 2 (.t 89)),fa 91 5 1,ld 92 1 91,mv 93 6,ia 94 4 92 93,fa 95 2 94,ld 96 1 95,fa 97 5 1,ld 98 1 97,mv 99 6,ia 100 4 98 99,fa 101 3 100,ld 102 1 101,cl 103 YJ [90,96,102],xo 104 (.un .not (.t 103))]
def v8:List (List Nat):=[[],[0],[],[1,2],[3],[4],[],[6],[],[7,8],[9],[10],[],[12],[],[13,14],[15],[16],[5,11,17],[18]]
def vk:OT:=.one 0 (.one 1 (.one 2 (.one 3 (.one 4 (.one 5 (.one 6 (.one 7 (.one 8 (.one 9 (.one 10 (.one 11 (.one 12 (.one 13 (.one 14 (.one 15 (.one 16 (.one 17 (.one 18 (.one 19 (.done))))))))))))))))))))
@[go_sem] def Qw (YJ:Nat):OP:=.one 0 false [] (fa 85 5 1) (.one 1 false [] (ld 86 1 85) (.one 2 false [] (mv 87 6) (.one 3 false [] (ia 88 4 86 87) (.one 4 false [] (fa 89 0 88) (.one 5 false [] (xo 90 (.load true 2 (.t 89))) (.one 6 false [] (fa 91 5 1) (.one 7 false [] (ld 92 1 91) (.one 8 false [] (mv 93 6) (.one 9 false [] (ia 94 4 92 93) (.one 10 false [] (fa 95 2 94) (.one 11 false [] (ld 96 1 95) (.one 12 false [] (fa 97 5 1) (.one 13 false [] (ld 98 1 97) (.one 14 false [] (mv 99 6) (.one 15 false [] (ia 100 4 98 99) (.one 16 false [] (fa 101 3 100) (.one 17 false [] (ld 102 1 101) (.one 18 false [] (cl 103 YJ [90,96,102]) (.one 19 false [18] (xo 104 (.un .not (.t 103))) (.done))))))))))))))))))))
theorem QH (YJ:Nat):okR (vw YJ) v8 [] vk = true:=by kernel_rfl
theorem QD (YJ:Nat):Wy (ris (vw YJ) v8 []) vk = Qw YJ:=by kernel_rfl
def vv:List AO:=[fa 112 6 1,ld 113 1 112,mv 114 7,ia 115 1 113 114,ld 116 1 115,bc 117 .lss 116 (V.int 0),mv 118 117,xg 119 (.faddr 6 (.t 1)) 118 false,xg 120 (.load false 1 (.t 119)) 118 false,mg 121 7 118 false,xg 122 (.iaddr 1 (.t 120) (.t 121)) 118 false,xg 123 (.load false 1 (.t 122)) 118 false,xg 124 (.bin .gtr (.t 123) (.c (V.int 2147483648))) 118 false,xo 125 (.pick (.t 118) (.c (V.bool true)) (.t 124)),mv 126 125,mg 127 7 126 false,xg 128 (.bin .gtr (.t 127) (.c (V.int 0))) 126 false,mg 129 128 126 false,xg 130 (.faddr 6 (.t 1)) 129 true,xg 131 (.load false 1 (.t 130)) 129 true,mg 132 7 129 true,xg 133 (.bin .sub (.t 132) (.c (V.int 1))) 129 true,xg 134 (.iaddr 1 (.t 131) (.t 133)) 129 true,xg 135 (.load false 1 (.t 134)) 129 true,xg 136 (.faddr 6 (.t 1)) 129 true,xg 137 (.load false 1 (.t 136)) 129 true,mg 138 7 129 true,xg 139 (.iaddr 1 (.t 137) (.t 138)) 129 true,xg 140 (.load false 1 (.t 139)) 129 true,xg 141 (.bin .geq (.t 135) (.t 140)) 129 true,xg 142 (.pick (.t 129) (.t 141) (.c (V.bool false))) 126 false,xo 143 (.pick (.t 126) (.c (V.bool true)) (.t 142))]
def v7:List (List Nat):=[[],[0],[],[1,2],[3],[4],[5],[6],[7,6],[6],[8,9,6],[10,6],[11,6],[6,12],[13,6],[14],[15,14],[16,14,14],[17],[18,17],[17],[20,17],[19,21,17],[22,17],[17],[24,17],[17],[25,26,17],[27,17],[23,28,17],[17,29,14],[14,30]]
def vj:OT:=.one 0 (.one 1 (.one 2 (.one 3 (.one 4 (.one 5 (.one 6 (.one 7 (.one 8 (.one 9 (.one 10 (.one 11 (.one 12 (.one 13 (.one 14 (.one 15 (.one 16 (.one 17 (.one 18 (.one 19 (.one 20 (.one 21 (.one 22 (.one 23 (.one 24 (.one 25 (.one 26 (.one 27 (.one 28 (.one 29 (.one 30 (.one 31 (.done))))))))))))))))))))))))))))))))
@[go_sem] def Qv:OP:=.one 0 false [] (fa 112 6 1) (.one 1 false [] (ld 113 1 112) (.one 2 false [] (mv 114 7) (.one 3 false [] (ia 115 1 113 114) (.one 4 false [] (ld 116 1 115) (.one 5 false [] (bc 117 .lss 116 (V.int 0)) (.one 6 false [] (mv 118 117) (.one 7 false [] (xg 119 (.faddr 6 (.t 1)) 118 false) (.one 8 false [] (xg 120 (.load false 1 (.t 119)) 118 false) (.one 9 false [] (mg 121 7 118 false) (.one 10 false [] (xg 122 (.iaddr 1 (.t 120) (.t 121)) 118 false) (.one 11 false [] (xg 123 (.load false 1 (.t 122)) 118 false) (.one 12 false [] (xg 124 (.bin .gtr (.t 123) (.c (V.int 2147483648))) 118 false) (.one 13 false [] (xo 125 (.pick (.t 118) (.c (V.bool true)) (.t 124))) (.one 14 false [] (mv 126 125) (.one 15 false [] (mg 127 7 126 false) (.one 16 false [] (xg 128 (.bin .gtr (.t 127) (.c (V.int 0))) 126 false) (.one 17 false [] (mg 129 128 126 false) (.one 18 false [] (xg 130 (.faddr 6 (.t 1)) 129 true) (.one 19 false [] (xg 131 (.load false 1 (.t 130)) 129 true) (.one 20 false [] (mg 132 7 129 true) (.one 21 false [] (xg 133 (.bin .sub (.t 132) (.c (V.int 1))) 129 true) (.one 22 false [] (xg 134 (.iaddr 1 (.t 131) (.t 133)) 129 true) (.one 23 false [] (xg 135 (.load false 1 (.t 134)) 129 true) (.one 24 false [] (xg 136 (.faddr 6 (.t 1)) 129 true) (.one 25 false [] (xg 137 (.load false 1 (.t 136)) 129 true) (.one 26 false [] (mg 138 7 129 true) (.one 27 false [] (xg 139 (.iaddr 1 (.t 137) (.t 138)) 129 true) (.one 28 false [] (xg 140 (.load false 1 (.t 139)) 129 true) (.one 29 false [] (xg 141 (.bin .geq (.t 135) (.t 140)) 129 true) (.one 30 false [] (xg 142 (.pick (.t 129) (.t 141) (.c (V.bool false))) 126 false) (.one 31 false [] (xo 143 (.pick (.t 126) (.c (V.bool true)) (.t 142))) (.done))))))))))))))))))))))))))))))))
theorem QG:okR (vv) v7 [] vj = true:=by kernel_rfl
theorem QC:Wy (ris (vv) v7 []) vj = Qv:=by kernel_rfl
def vu (JH:Nat):List AO:=[fa 151 7 1,ld 152 1 151,mv 153 8,ia 154 1 152 153,ld 155 1 154,cl 156 JH [155],bc 157 .neq 156 (V.int 1),mv 158 157,mg 159 8 158 false,xg 160 (.bin .gtr (.t 159) (.c (V.int 0))) 158 false,mg 161 160 158 false,xg 162 (.faddr 7 (.t 1)) 161 true,xg 163 (.load false 1 (.t 162)) 161 true,mg 164 8 161 true,xg 165 (.bin .sub (.t 164) (.c (V.int 1))) 161 true,xg 166 (.iaddr 1 (.t 163) (.t 165)) 161 true,xg 167 (.load false 1 (.t 166)) 161 true,xg 168 (.faddr 7 (.t 1)) 161 true,xg 169 (.load false 1 (.t 168)) 161 true,mg 170 8 161 true,xg 171 (.iaddr 1 (.t 169) (.t 170)) 161 true,xg 172 (.load false 1 (.t 171)) 161 true,xg 173 (.bin .geq (.t 167) (.t 172)) 161 true,xg 174 (.pick (.t 161) (.t 173) (.c (V.bool false))) 158 false,xo 175 (.pick (.t 158) (.c (V.bool true)) (.t 174))]
def v6:List (List Nat):=[[],[0],[],[1,2],[3],[4],[5],[6,5],[7],[8,7],[9,7,7],[10],[11,10],[10],[13,10],[12,14,10],[15,10],[10],[17,10],[10],[18,19,10],[20,10],[16,21,10],[10,22,7],[7,23]]
def vi:OT:=.one 0 (.one 1 (.one 2 (.one 3 (.one 4 (.or 5 (.one 6 (.one 7 (.one 8 (.one 9 (.one 10 (.one 11 (.one 12 (.one 13 (.one 14 (.one 15 (.one 16 (.one 17 (.one 18 (.one 19 (.one 20 (.one 21 (.one 22 (.one 23 (.one 24 (.done)))))))))))))))))))) (.done))))))
@[go_sem] def Qu (JH:Nat):OP:=.one 0 false [] (fa 151 7 1) (.one 1 false [] (ld 152 1 151) (.one 2 false [] (mv 153 8) (.one 3 false [] (ia 154 1 152 153) (.one 4 false [] (ld 155 1 154) (.or 5 false [] (cl 156 JH [155]) (.one 6 false [5] (bc 157 .neq 156 (V.int 1)) (.one 7 false [5] (mv 158 157) (.one 8 false [5] (mg 159 8 158 false) (.one 9 false [5] (xg 160 (.bin .gtr (.t 159) (.c (V.int 0))) 158 false) (.one 10 false [5] (mg 161 160 158 false) (.one 11 false [5] (xg 162 (.faddr 7 (.t 1)) 161 true) (.one 12 false [5] (xg 163 (.load false 1 (.t 162)) 161 true) (.one 13 false [5] (mg 164 8 161 true) (.one 14 false [5] (xg 165 (.bin .sub (.t 164) (.c (V.int 1))) 161 true) (.one 15 false [5] (xg 166 (.iaddr 1 (.t 163) (.t 165)) 161 true) (.one 16 false [5] (xg 167 (.load false 1 (.t 166)) 161 true) (.one 17 false [5] (xg 168 (.faddr 7 (.t 1)) 161 true) (.one 18 false [5] (xg 169 (.load false 1 (.t 168)) 161 true) (.one 19 false [5] (mg 170 8 161 true) (.one 20 false [5] (xg 171 (.iaddr 1 (.t 169) (.t 170)) 161 true) (.one 21 false [5] (xg 172 (.load false 1 (.t 171)) 161 true) (.one 22 false [5] (xg 173 (.bin .geq (.t 167) (.t 172)) 161 true) (.one 23 false [5] (xg 174 (.pick (.t 161) (.t 173) (.c (V.bool false))) 158 false) (.one 24 false [5] (xo 175 (.pick (.t 158) (.c (V.bool true)) (.t 174))) (.done)))))))))))))))))))) (.done))))))
theorem QF (JH:Nat):okR (vu JH) v6 [] vi = true:=by kernel_rfl
theorem QB (JH:Nat):Wy (ris (vu JH) v6 []) vi = Qu JH:=by kernel_rfl def c_ref09_Check (aa0 WK JB YJ JH:Nat):AC:=Qe [1] (.reg [xo 1 (.box true 9 (.t 0)),mc 2 (V.int 0)]) (Qe [1] (Qe [1,47] (.reg [fa 9 0 1,ld 10 1 9,cl 11 aa0 [10],xo 12 (.un .not (.t 11)),mv 13 12,xg 14 (.faddr 1 (.t 1)) 13 false,xg 15 (.load false 1 (.t 14)) 13 false,xg 16 (.bin .lss (.t 15) (.c (V.int 1))) 13 false,xo 17 (.pick (.t 13) (.c (V.bool true)) (.t 16)),mv 18 17,xg 19 (.faddr 1 (.t 1)) 18 false,xg 20 (.load false 1 (.t 19)) 18 false,xg 21 (.faddr 2 (.t 1)) 18 false,xg 22 (.load false 1 (.t 21)) 18 false,xg 23 (.bin .gtr (.t 20) (.t 22)) 18 false,xo 24 (.pick (.t 18) (.c (V.bool true)) (.t 23)),mv 25 24,xg 26 (.faddr 2 (.t 1)) 25 false,xg 27 (.load false 1 (.t 26)) 25 false,xg 28 (.bin .gtr (.t 27) (.c (V.int 4))) 25 false,xo 29 (.pick (.t 25) (.c (V.bool true)) (.t 28)),mv 30 29,xg 31 (.faddr 3 (.t 1)) 30 false,xg 32 (.load false 1 (.t 31)) 30 false,xg 33 (.lenL (.t 32)) 30 false,xg 34 (.bin .gtr (.t 33) (.c (V.int 16))) 30 false,xo 35 (.pick (.t 30) (.c (V.bool true)) (.t 34)),mv 36 35,xg 37 (.faddr 5 (.t 1)) 36 false,xg 38 (.load false 1 (.t 37)) 36 false,xg 39 (.lenL (.t 38)) 36 false,xg 40 (.bin .gtr (.t 39) (.c (V.int 4))) 36 false,xo 41 (.pick (.t 36) (.c (V.bool true)) (.t 40)),mv 42 41,xg 43 (.faddr 6 (.t 1)) 42 false,xg 44 (.load false 1 (.t 43)) 42 false,xg 45 (.lenL (.t 44)) 42 false,xg 46 (.bin .gtr (.t 45) (.c (V.int 16))) 42 false,xo 47 (.pick (.t 42) (.c (V.bool true)) (.t 46))]) (.cond (.t 47) (Qe [2] (.reg [mc 2 (V.int 19)]) (.ret)) (.skip))) (Qe [1] (Qe [1,3] (.reg [mc 3 (V.int 0)]) (.block 0 (Xw [1,3] (Qe [1,3] (Qe [1,3,52] (.reg [mv 48 3,fa 49 3 1,ld 50 1 49,ln 51 50,bn 52 .lss 48 51]) (.cond (.t 52) (.skip) (.exit 0))) (Qe [1,3] (.block 1 (Qe [1,3,5] (.reg [fa 56 3 1,ld 57 1 56,mv 58 3,ia 59 1 57 58,ld 60 1 59,cl 61 WK [60],mv 55 61,ex 62 55 0,ex 63 55 1,xo 4 (.alloc [.val (.int .i64 0),.val (.string ⟨#[]⟩),.val (.int .i64 0),.val (.int .i64 0),.val (.int .i64 0),.val (.int .i64 0),.val (.int .i64 0),.val (.int .i64 0),.val (.int .i64 0),.val (.int .i64 0),.val (.int .i64 0),.val (.int .i64 0)]),xs 12 4 62,mv 5 63]) (Qe [1,3,77] (ace [] vl (Qx JB) (vx JB) aaa) (.cond (.t 77) (Qe [2] (.reg [mc 2 (V.int 19)]) (.ret)) (.skip))))) (.reg [mv 53 3,bc 54 .add 53 (V.int 1),mv 3 54])))))) (Qe [1] (Qe [1,6] (.reg [mc 6 (V.int 0)]) (.block 2 (Xw [1,6] (Qe [1,6] (Qe [1,6,82] (.reg [mv 78 6,fa 79 5 1,ld 80 1 79,ln 81 80,bn 82 .lss 78 81]) (.cond (.t 82) (.skip) (.exit 2))) (Qe [1,6] (.block 3 (Qe [1,6,104] (ace [] vk (Qw YJ) (vw YJ) v8) (.cond (.t 104) (Qe [2] (.reg [mc 2 (V.int 19)]) (.ret)) (.skip)))) (.reg [mv 83 6,bc 84 .add 83 (V.int 1),mv 6 84])))))) (Qe [1] (Qe [1,7] (.reg [mc 7 (V.int 0)]) (.block 4 (Xw [1,7] (Qe [1,7] (Qe [1,7,109] (.reg [mv 105 7,fa 106 6 1,ld 107 1 106,ln 108 107,bn 109 .lss 105 108]) (.cond (.t 109) (.skip) (.exit 4))) (Qe [1,7] (.block 5 (Qe [1,7,143] (ace [] vj (Qv) (vv) v7) (.cond (.t 143) (Qe [2] (.reg [mc 2 (V.int 19)]) (.ret)) (.skip)))) (.reg [mv 110 7,bc 111 .add 110 (V.int 1),mv 7 111])))))) (Qe [] (Qe [1,8] (.reg [mc 8 (V.int 0)]) (.block 6 (Xw [1,8] (Qe [1,8] (Qe [1,8,148] (.reg [mv 144 8,fa 145 7 1,ld 146 1 145,ln 147 146,bn 148 .lss 144 147]) (.cond (.t 148) (.skip) (.exit 6))) (Qe [1,8] (.block 7 (Qe [1,8,175] (ace [] vi (Qu JH) (vu JH) v6) (.cond (.t 175) (Qe [2] (.reg [mc 2 (V.int 19)]) (.ret)) (.skip)))) (.reg [mv 149 8,bc 150 .add 149 (V.int 1),mv 8 150])))))) (Qe [2] (.reg [mc 2 (V.int 0)]) (.ret))))))) def r_ref09_Check:List YF:=[.tmp 2]
def xK (Γ:Env) (f:Nat):Prop:=∀ (e:JQ) (sm:e.Sm),EvN Γ f [e.v] (V.int (if Y5 e = true then 0 else 19))
theorem ajc {Γ:Env} {f aa0 WK JB YJ JH:Nat} (h:Has Γ.P f 176 (c_ref09_Check aa0 WK JB YJ JH) r_ref09_Check) (z0:acM Γ aa0) (z2:xM Γ WK) (z3:aa6 Γ JB) (z4:abz Γ YJ) (z5:yr Γ JH):xK Γ f:=by
 intro e sm
 refine Qj h zsi zcl zcl fun C hC hm=>?_
 subst hC
 unfold c_ref09_Check
 have hw:=(z0 e.name sm.hn).b
 have no:Y5 e = false→(if Y5 e = true then (0:Int) else 19) = 19:=fun h=>by rw [h];rfl
 have lm0:(e.suites.map V.int).length = e.suites.length:=List.length_map _
 have lm1:(e.idents.map Yo.v).length = e.idents.length:=List.length_map _
 have lm2:(e.anchors.map V.int).length = e.anchors.length:=List.length_map _
 have lm3:(e.hashes.map V.int).length = e.hashes.length:=List.length_map _
 simp only [JQ.v,JQ.cells]
 refine xJ fun K' hK=>?_
 simp (maxSteps:=1000000) only [go_sem]
 refine hK _ ?_
 clear hK
 clear K'
 (try simp only [go_sem])
 refine UA (ι:=Unit) (fun _=>ab8 e.name = true∧1≤e.least∧e.least≤e.most∧e.most≤4∧e.suites.length≤16∧e.idents.length≤4∧e.anchors.length≤16) (fun _=>eSt e) (fun K' hK'=>?_) (fun _ hg=>?_)
 ·rcases b1:ab8 e.name with _|_
  ·rw [b1] at hw
   rw [no (by simp [Y5,amm,b1])]
   repeat' (first|(refine zsk ?_;intro K' hK)|(refine zrt 14 (QI _) (QE _) ?_;intro K' hK)|(refine zrt 20 (QH _) (QD _) ?_;intro K' hK)|(refine zrt 32 (QG) (QC) ?_;intro K' hK)|(refine zrt 25 (QF _) (QB _) ?_;intro K' hK)|refine zsp ?_|(refine zsc ?_ ?_<;>intro hc<;>first|exact znh|try simp only [znz] at hc)|simp (maxSteps:=1000000) only [go_sem,Qx,Qw,Qv,Qu]|(refine hK _ ?_;clear hK K')|apply zan|((first|apply Ql|apply Qi);(focus first|exact hw|exact (z0 _ zsd).b|exact (z2 _).b|exact (z3 _ _ zsd).b|exact (z4 _ _ _ _ zsd zsd).b|exact (z5 _).b))|exact zsq|fail)
   all_goals first|exact zr
  rw [b1] at hw
  by_cases b2:e.least < 1
  ·have e2:decide (e.least < 1) = true:=decide_eq_true b2
   rw [no (by simp [Y5,amm];intros;omega)]
   repeat' (first|(refine zsk ?_;intro K' hK)|(refine zrt 14 (QI _) (QE _) ?_;intro K' hK)|(refine zrt 20 (QH _) (QD _) ?_;intro K' hK)|(refine zrt 32 (QG) (QC) ?_;intro K' hK)|(refine zrt 25 (QF _) (QB _) ?_;intro K' hK)|refine zsp ?_|(refine zsc ?_ ?_<;>intro hc<;>first|exact znh|try simp only [znz] at hc)|simp (maxSteps:=1000000) only [go_sem,e2,Qx,Qw,Qv,Qu]|(refine hK _ ?_;clear hK K')|apply zan|((first|apply Ql|apply Qi);(focus first|exact hw|exact (z0 _ zsd).b|exact (z2 _).b|exact (z3 _ _ zsd).b|exact (z4 _ _ _ _ zsd zsd).b|exact (z5 _).b))|exact zsq|fail)
   all_goals first|exact zr
  have e2:decide (e.least < 1) = false:=decide_eq_false b2
  by_cases b3:e.least > e.most
  ·have e3:decide (e.least > e.most) = true:=decide_eq_true b3
   rw [no (by simp [Y5,amm];intros;omega)]
   repeat' (first|(refine zsk ?_;intro K' hK)|(refine zrt 14 (QI _) (QE _) ?_;intro K' hK)|(refine zrt 20 (QH _) (QD _) ?_;intro K' hK)|(refine zrt 32 (QG) (QC) ?_;intro K' hK)|(refine zrt 25 (QF _) (QB _) ?_;intro K' hK)|refine zsp ?_|(refine zsc ?_ ?_<;>intro hc<;>first|exact znh|try simp only [znz] at hc)|simp (maxSteps:=1000000) only [go_sem,e2,e3,Qx,Qw,Qv,Qu]|(refine hK _ ?_;clear hK K')|apply zan|((first|apply Ql|apply Qi);(focus first|exact hw|exact (z0 _ zsd).b|exact (z2 _).b|exact (z3 _ _ zsd).b|exact (z4 _ _ _ _ zsd zsd).b|exact (z5 _).b))|exact zsq|fail)
   all_goals first|exact zr
  have e3:decide (e.least > e.most) = false:=decide_eq_false b3
  by_cases b4:e.most > 4
  ·have e4:decide (e.most > 4) = true:=decide_eq_true b4
   rw [no (by simp [Y5,amm];intros;omega)]
   repeat' (first|(refine zsk ?_;intro K' hK)|(refine zrt 14 (QI _) (QE _) ?_;intro K' hK)|(refine zrt 20 (QH _) (QD _) ?_;intro K' hK)|(refine zrt 32 (QG) (QC) ?_;intro K' hK)|(refine zrt 25 (QF _) (QB _) ?_;intro K' hK)|refine zsp ?_|(refine zsc ?_ ?_<;>intro hc<;>first|exact znh|try simp only [znz] at hc)|simp (maxSteps:=1000000) only [go_sem,e2,e3,e4,Qx,Qw,Qv,Qu]|(refine hK _ ?_;clear hK K')|apply zan|((first|apply Ql|apply Qi);(focus first|exact hw|exact (z0 _ zsd).b|exact (z2 _).b|exact (z3 _ _ zsd).b|exact (z4 _ _ _ _ zsd zsd).b|exact (z5 _).b))|exact zsq|fail)
   all_goals first|exact zr
  have e4:decide (e.most > 4) = false:=decide_eq_false b4
  by_cases b5:(e.suites.length:Int) > 16
  ·have e5:decide ((e.suites.length:Int) > 16) = true:=decide_eq_true b5
   rw [no (agI (by
    rcases hq:Uo e.suites with _|_
    ·rfl
    ·have:=agZ hq;omega))]
   repeat' (first|(refine zsk ?_;intro K' hK)|(refine zrt 14 (QI _) (QE _) ?_;intro K' hK)|(refine zrt 20 (QH _) (QD _) ?_;intro K' hK)|(refine zrt 32 (QG) (QC) ?_;intro K' hK)|(refine zrt 25 (QF _) (QB _) ?_;intro K' hK)|refine zsp ?_|(refine zsc ?_ ?_<;>intro hc<;>first|exact znh|try simp only [znz] at hc)|simp (maxSteps:=1000000) only [go_sem,e2,e3,e4,lm0,e5,Qx,Qw,Qv,Qu]|(refine hK _ ?_;clear hK K')|apply zan|((first|apply Ql|apply Qi);(focus first|exact hw|exact (z0 _ zsd).b|exact (z2 _).b|exact (z3 _ _ zsd).b|exact (z4 _ _ _ _ zsd zsd).b|exact (z5 _).b))|exact zsq|fail)
   all_goals first|exact zr
  have e5:decide ((e.suites.length:Int) > 16) = false:=decide_eq_false b5
  by_cases b6:(e.idents.length:Int) > 4
  ·have e6:decide ((e.idents.length:Int) > 4) = true:=decide_eq_true b6
   rw [no (by have:akK e = false:=(by rw [akK,decide_eq_false (by omega:¬ (e.idents.length:Int)≤4),Bool.false_and]);simp [Y5,this])]
   repeat' (first|(refine zsk ?_;intro K' hK)|(refine zrt 14 (QI _) (QE _) ?_;intro K' hK)|(refine zrt 20 (QH _) (QD _) ?_;intro K' hK)|(refine zrt 32 (QG) (QC) ?_;intro K' hK)|(refine zrt 25 (QF _) (QB _) ?_;intro K' hK)|refine zsp ?_|(refine zsc ?_ ?_<;>intro hc<;>first|exact znh|try simp only [znz] at hc)|simp (maxSteps:=1000000) only [go_sem,e2,e3,e4,lm0,e5,lm1,e6,Qx,Qw,Qv,Qu]|(refine hK _ ?_;clear hK K')|apply zan|((first|apply Ql|apply Qi);(focus first|exact hw|exact (z0 _ zsd).b|exact (z2 _).b|exact (z3 _ _ zsd).b|exact (z4 _ _ _ _ zsd zsd).b|exact (z5 _).b))|exact zsq|fail)
   all_goals first|exact zr
  have e6:decide ((e.idents.length:Int) > 4) = false:=decide_eq_false b6
  by_cases b7:(e.anchors.length:Int) > 16
  ·have e7:decide ((e.anchors.length:Int) > 16) = true:=decide_eq_true b7
   rw [no (by have:akK e = false:=(by rw [akK,decide_eq_false (by omega:¬ (e.anchors.length:Int)≤16)];simp);simp [Y5,this])]
   repeat' (first|(refine zsk ?_;intro K' hK)|(refine zrt 14 (QI _) (QE _) ?_;intro K' hK)|(refine zrt 20 (QH _) (QD _) ?_;intro K' hK)|(refine zrt 32 (QG) (QC) ?_;intro K' hK)|(refine zrt 25 (QF _) (QB _) ?_;intro K' hK)|refine zsp ?_|(refine zsc ?_ ?_<;>intro hc<;>first|exact znh|try simp only [znz] at hc)|simp (maxSteps:=1000000) only [go_sem,e2,e3,e4,lm0,e5,lm1,e6,lm2,e7,Qx,Qw,Qv,Qu]|(refine hK _ ?_;clear hK K')|apply zan|((first|apply Ql|apply Qi);(focus first|exact hw|exact (z0 _ zsd).b|exact (z2 _).b|exact (z3 _ _ zsd).b|exact (z4 _ _ _ _ zsd zsd).b|exact (z5 _).b))|exact zsq|fail)
   all_goals first|exact zr
  have e7:decide ((e.anchors.length:Int) > 16) = false:=decide_eq_false b7
  repeat' (first|(refine zsk ?_;intro K' hK)|(refine zrt 14 (QI _) (QE _) ?_;intro K' hK)|(refine zrt 20 (QH _) (QD _) ?_;intro K' hK)|(refine zrt 32 (QG) (QC) ?_;intro K' hK)|(refine zrt 25 (QF _) (QB _) ?_;intro K' hK)|refine zsp ?_|(refine zsc ?_ ?_<;>intro hc<;>first|exact znh|try simp only [znz] at hc)|simp (maxSteps:=1000000) only [go_sem,e2,e3,e4,lm0,e5,lm1,e6,lm2,e7,Qx,Qw,Qv,Qu]|(refine hK _ ?_;clear hK K')|apply zan|((first|apply Ql|apply Qi);(focus first|exact hw|exact (z0 _ zsd).b|exact (z2 _).b|exact (z3 _ _ zsd).b|exact (z4 _ _ _ _ zsd zsd).b|exact (z5 _).b))|exact zsq|fail)
  all_goals first|exact hK' _ () (QX []) ⟨b1,by omega,by omega,by omega,by omega,by omega,by omega⟩ (Ys [] (by simp only [go_sem,zwl,eSt,JY,JQ.cells]<;>exact zcc) (by simp only [go_sem,zwl,eSt,JY,JQ.cells]<;>exact zcc) (by simp [eSt,JY]) (by simp [eSt,JY]) (by omega))
 obtain ⟨g1,g2,g3,g4,g5,g6,g7⟩:=hg
 refine UA (ι:=Unit) (fun _=>Uo e.suites = true) (fun _=>eSt e) (fun K' hK'=>?_) (fun _ g8=>?_)
 ·repeat' (first|(refine zsk ?_;intro K' hK)|(refine zrt 14 (QI _) (QE _) ?_;intro K' hK)|(refine zrt 20 (QH _) (QD _) ?_;intro K' hK)|(refine zrt 32 (QG) (QC) ?_;intro K' hK)|(refine zrt 25 (QF _) (QB _) ?_;intro K' hK)|refine zsp ?_|(refine zsc ?_ ?_<;>intro hc<;>first|exact znh|try simp only [znz] at hc)|simp (maxSteps:=1000000) only [go_sem,eSt,JY,JQ.cells,Qx,Qw,Qv,Qu]|(refine hK _ ?_;clear hK K')|apply zan|((first|apply Ql|apply Qi);(focus first|exact (z0 _ zsd).b|exact (z2 _).b|exact (z3 _ _ zsd).b|exact (z4 _ _ _ _ zsd zsd).b|exact (z5 _).b))|exact zsq|fail)
  refine JM (ι:=Nat) (fun k=>k≤e.suites.length∧(e.suites.take k).any aec = false∧(e.suites.take k).Nodup) (fun k=>[(3,V.int k)]) (fun k=>e.suites.length - k) 0 (by omega) ⟨Nat.zero_le _,rfl,List.nodup_nil⟩ (by repeat' first|exact Yb|refine YR (by omega) (by simp only [Ob.lt,ltL,V.lt,and_self,and_true];try omega) ?_) (fun i hi=>by simp only [ovT,Q9,Nat.reduceEqDiff,reduceIte];(repeat' first|exact YQ|refine Ya ?_ ?_|simp only [V.lt,ltL,and_self,and_true]|omega)) (by simp only [Nat.reduceAdd,ovT,Q9,Nat.reduceEqDiff,reduceIte,Qt,Q0,Uh,u32,u33,u34,u35,u36,u37,u38,u39,and_self,and_true,true_and];first|done|rfl) fun k hk K2 hL=>?_
  obtain ⟨hk,hg,hnd⟩:=hk
  simp only [ovT,Q9,Nat.reduceEqDiff,reduceIte]
  rcases hd:e.suites.drop k with _|⟨x,r⟩
  ·have hkl:=Ja hd
   have e1:decide ((k:Int) < ((e.suites.length:Nat):Int)) = false:=by simp;omega
   rw [List.take_of_length_le hkl] at hg hnd
   have hf:Uo e.suites = true:=by simp [Uo,hg,hnd]
   repeat' (first|(refine zsk ?_;intro K' hK)|(refine zrt 14 (QI _) (QE _) ?_;intro K' hK)|(refine zrt 20 (QH _) (QD _) ?_;intro K' hK)|(refine zrt 32 (QG) (QC) ?_;intro K' hK)|(refine zrt 25 (QF _) (QB _) ?_;intro K' hK)|refine zsp ?_|(refine zsc ?_ ?_<;>intro hc<;>first|exact znh|try simp only [znz] at hc)|simp (maxSteps:=1000000) only [go_sem,e1,lm0,Qx,Qw,Qv,Qu]|(refine hK _ ?_;clear hK K')|apply zan|((first|apply Ql|apply Qi);(focus first|exact (z0 _ zsd).b|exact (z2 _).b|exact (z3 _ _ zsd).b|exact (z4 _ _ _ _ zsd zsd).b|exact (z5 _).b))|exact zsq|fail)
   all_goals first|exact hK' _ () (QX []) hf (Ys [] (by simp only [go_sem,zwl,eSt,JY,JQ.cells]<;>exact zcc) (by simp only [go_sem,zwl,eSt,JY,JQ.cells]<;>exact zcc) (by simp [eSt,JY]) (by simp [eSt,JY]) (by omega))
  ·obtain ⟨hk',hget,hr⟩:=QK hd
   have hwk:=QP (k:=k) (by omega)
   have e1:decide ((k:Int) < ((e.suites.length:Nat):Int)) = true:=by simp;omega
   have hsu:=(z2 x).b
   have hA:List.take (k - 0) (e.suites.map V.int) = (e.suites.take k).map V.int:=by rw [Nat.sub_zero,List.map_take]
   have hc1:=(z3 (e.suites.take k) x (by rw [List.length_take];omega)).b
   by_cases hx:1≤x∧x≤16
   ·have hsv:Va x = .tup [(XI x).v,V.int 0]:=by rw [Va,if_pos hx]
    rw [hsv] at hsu
    simp only [Ji.v,Ji.cells] at hsu
    by_cases hin:x∈e.suites.take k
    ·rw [show (e.suites.take k).contains x = true by simpa using hin] at hc1
     rw [no (agI (afc fun h=>adh h hget hin))]
     repeat' (first|(refine zsk ?_;intro K' hK)|(refine zrt 14 (QI _) (QE _) ?_;intro K' hK)|(refine zrt 20 (QH _) (QD _) ?_;intro K' hK)|(refine zrt 32 (QG) (QC) ?_;intro K' hK)|(refine zrt 25 (QF _) (QB _) ?_;intro K' hK)|refine zsp ?_|(refine zsc ?_ ?_<;>intro hc<;>first|exact znh|try simp only [znz] at hc)|simp (maxSteps:=1000000) only [go_sem,e1,hwk,lm0,Int.toNat_natCast,List.getElem?_map,hget,hA,Qx,Qw,Qv,Qu]|(refine hK _ ?_;clear hK K')|apply zan|((first|apply Ql|apply Qi);(focus first|exact hc1|exact hsu|exact (z0 _ zsd).b|exact (z2 _).b|exact (z3 _ _ zsd).b|exact (z4 _ _ _ _ zsd zsd).b|exact (z5 _).b))|exact zsq|fail)
     all_goals first|exact zr
    ·rw [show (e.suites.take k).contains x = false by simpa using hin] at hc1
     have hg2:(e.suites.take (k + 1)).any aec = false:=by
      rw [List.take_add_one,hget,List.any_append,hg];simp [aec];omega
     have hnd2:(e.suites.take (k + 1)).Nodup:=by
      rw [List.take_add_one,hget]
      exact List.nodup_append.2 ⟨hnd,by simp,fun a ha b hb e=>by simp at hb;subst hb;subst e;exact hin ha⟩
     repeat' (first|(refine zsk ?_;intro K' hK)|(refine zrt 14 (QI _) (QE _) ?_;intro K' hK)|(refine zrt 20 (QH _) (QD _) ?_;intro K' hK)|(refine zrt 32 (QG) (QC) ?_;intro K' hK)|(refine zrt 25 (QF _) (QB _) ?_;intro K' hK)|refine zsp ?_|(refine zsc ?_ ?_<;>intro hc<;>first|exact znh|try simp only [znz] at hc)|simp (maxSteps:=1000000) only [go_sem,e1,hwk,lm0,Int.toNat_natCast,List.getElem?_map,hget,hA,Qx,Qw,Qv,Qu]|(refine hK _ ?_;clear hK K')|apply zan|((first|apply Ql|apply Qi);(focus first|exact hc1|exact hsu|exact (z0 _ zsd).b|exact (z2 _).b|exact (z3 _ _ zsd).b|exact (z4 _ _ _ _ zsd zsd).b|exact (z5 _).b))|exact zsq|fail)
     all_goals first|exact hL _ (k + 1) (by simp only [Nat.reduceAdd,ovT,Q9,Nat.reduceEqDiff,reduceIte,Qt,Q0,Uh,u32,u33,u34,u35,u36,u37,u38,u39,and_self,and_true,true_and];first|done|rfl) ⟨by omega,hg2,hnd2⟩ (by omega) (fun a ha=>by simp only [u32,u33,u34,u35,u36,u37,u38,u39];repeat rw [if_neg (by omega)])
   ·have hbx:aec x = true:=by simp [aec];omega
    rw [no (agI (ahS (List.mem_of_getElem? hget) hbx))]
    have hsv:Va x = .tup [acS.v,V.int 8]:=by rw [Va,if_neg hx,XI,if_neg hx]
    rw [hsv] at hsu
    simp only [Ji.v,Ji.cells,acS] at hsu
    repeat' (first|(refine zsk ?_;intro K' hK)|(refine zrt 14 (QI _) (QE _) ?_;intro K' hK)|(refine zrt 20 (QH _) (QD _) ?_;intro K' hK)|(refine zrt 32 (QG) (QC) ?_;intro K' hK)|(refine zrt 25 (QF _) (QB _) ?_;intro K' hK)|refine zsp ?_|(refine zsc ?_ ?_<;>intro hc<;>first|exact znh|try simp only [znz] at hc)|simp (maxSteps:=1000000) only [go_sem,e1,hwk,lm0,Int.toNat_natCast,List.getElem?_map,hget,hA,Qx,Qw,Qv,Qu]|(refine hK _ ?_;clear hK K')|apply zan|((first|apply Ql|apply Qi);(focus first|exact hsu|exact (z0 _ zsd).b|exact (z2 _).b|exact (z3 _ _ zsd).b|exact (z4 _ _ _ _ zsd zsd).b|exact (z5 _).b))|exact zsq|fail)
    all_goals first|exact zr
 refine UA (ι:=Unit) (fun _=>e.idents.all Yo.ok = true) (fun _=>eSt e) (fun K' hK'=>?_) (fun _ g9=>?_)
 ·repeat' (first|(refine zsk ?_;intro K' hK)|(refine zrt 14 (QI _) (QE _) ?_;intro K' hK)|(refine zrt 20 (QH _) (QD _) ?_;intro K' hK)|(refine zrt 32 (QG) (QC) ?_;intro K' hK)|(refine zrt 25 (QF _) (QB _) ?_;intro K' hK)|refine zsp ?_|(refine zsc ?_ ?_<;>intro hc<;>first|exact znh|try simp only [znz] at hc)|simp (maxSteps:=1000000) only [go_sem,eSt,JY,JQ.cells,Qx,Qw,Qv,Qu]|(refine hK _ ?_;clear hK K')|apply zan|((first|apply Ql|apply Qi);(focus first|exact (z0 _ zsd).b|exact (z2 _).b|exact (z3 _ _ zsd).b|exact (z4 _ _ _ _ zsd zsd).b|exact (z5 _).b))|exact zsq|fail)
  refine JM (ι:=Nat) (fun k=>k≤e.idents.length∧(e.idents.take k).all Yo.ok = true) (fun k=>[(6,V.int k)]) (fun k=>e.idents.length - k) 0 (by omega) ⟨Nat.zero_le _,rfl⟩ (by repeat' first|exact Yb|refine YR (by omega) (by simp only [Ob.lt,ltL,V.lt,and_self,and_true];try omega) ?_) (fun i hi=>by simp only [ovT,Q9,Nat.reduceEqDiff,reduceIte];(repeat' first|exact YQ|refine Ya ?_ ?_|simp only [V.lt,ltL,and_self,and_true]|omega)) (by simp only [Nat.reduceAdd,ovT,Q9,Nat.reduceEqDiff,reduceIte,Qt,Q0,Uh,u32,u33,u34,u35,u36,u37,u38,u39,and_self,and_true,true_and];first|done|rfl) fun k hk K2 hL=>?_
  obtain ⟨hk,hinv⟩:=hk
  simp only [ovT,Q9,Nat.reduceEqDiff,reduceIte]
  rcases hd:e.idents.drop k with _|⟨x,r⟩
  ·have hkl:=Ja hd
   have e1:decide ((k:Int) < ((e.idents.length:Nat):Int)) = false:=by simp;omega
   rw [List.take_of_length_le hkl] at hinv
   repeat' (first|(refine zsk ?_;intro K' hK)|(refine zrt 14 (QI _) (QE _) ?_;intro K' hK)|(refine zrt 20 (QH _) (QD _) ?_;intro K' hK)|(refine zrt 32 (QG) (QC) ?_;intro K' hK)|(refine zrt 25 (QF _) (QB _) ?_;intro K' hK)|refine zsp ?_|(refine zsc ?_ ?_<;>intro hc<;>first|exact znh|try simp only [znz] at hc)|simp (maxSteps:=1000000) only [go_sem,e1,lm1,Qx,Qw,Qv,Qu]|(refine hK _ ?_;clear hK K')|apply zan|((first|apply Ql|apply Qi);(focus first|exact (z0 _ zsd).b|exact (z2 _).b|exact (z3 _ _ zsd).b|exact (z4 _ _ _ _ zsd zsd).b|exact (z5 _).b))|exact zsq|fail)
   all_goals first|exact hK' _ () (QX []) hinv (Ys [] (by simp only [go_sem,zwl,eSt,JY,JQ.cells]<;>exact zcc) (by simp only [go_sem,zwl,eSt,JY,JQ.cells]<;>exact zcc) (by simp [eSt,JY]) (by simp [eSt,JY]) (by omega))
  ·obtain ⟨hk',hget,hr⟩:=QK hd
   have hwk:=QP (k:=k) (by omega)
   have e1:decide ((k:Int) < ((e.idents.length:Nat):Int)) = true:=by simp;omega
   have hm:=List.mem_of_getElem? hget
   have hsh:=(z4 x.kalg x.kbits x.kid x.chain (sm.hx x hm).hl (sm.hx x hm).hc).b
   rcases hcb:Yo.ok x with _|_
   ·have hcc:wq x.kalg x.kbits x.kid x.chain = false:=hcb
    rw [hcc] at hsh
    rw [no (apg hm hcb)]
    repeat' (first|(refine zsk ?_;intro K' hK)|(refine zrt 14 (QI _) (QE _) ?_;intro K' hK)|(refine zrt 20 (QH _) (QD _) ?_;intro K' hK)|(refine zrt 32 (QG) (QC) ?_;intro K' hK)|(refine zrt 25 (QF _) (QB _) ?_;intro K' hK)|refine zsp ?_|(refine zsc ?_ ?_<;>intro hc<;>first|exact znh|try simp only [znz] at hc)|simp (maxSteps:=1000000) only [go_sem,e1,hwk,lm1,Int.toNat_natCast,List.getElem?_map,hget,Yo.v,Yo.cells,Qx,Qw,Qv,Qu]|(refine hK _ ?_;clear hK K')|apply zan|((first|apply Ql|apply Qi);(focus first|exact hsh|exact (z0 _ zsd).b|exact (z2 _).b|exact (z3 _ _ zsd).b|exact (z4 _ _ _ _ zsd zsd).b|exact (z5 _).b))|exact zsq|fail)
    all_goals first|exact zr
   ·have hcc:wq x.kalg x.kbits x.kid x.chain = true:=hcb
    rw [hcc] at hsh
    repeat' (first|(refine zsk ?_;intro K' hK)|(refine zrt 14 (QI _) (QE _) ?_;intro K' hK)|(refine zrt 20 (QH _) (QD _) ?_;intro K' hK)|(refine zrt 32 (QG) (QC) ?_;intro K' hK)|(refine zrt 25 (QF _) (QB _) ?_;intro K' hK)|refine zsp ?_|(refine zsc ?_ ?_<;>intro hc<;>first|exact znh|try simp only [znz] at hc)|simp (maxSteps:=1000000) only [go_sem,e1,hwk,lm1,Int.toNat_natCast,List.getElem?_map,hget,Yo.v,Yo.cells,Qx,Qw,Qv,Qu]|(refine hK _ ?_;clear hK K')|apply zan|((first|apply Ql|apply Qi);(focus first|exact hsh|exact (z0 _ zsd).b|exact (z2 _).b|exact (z3 _ _ zsd).b|exact (z4 _ _ _ _ zsd zsd).b|exact (z5 _).b))|exact zsq|fail)
    all_goals first|exact hL _ (k + 1) (by simp only [Nat.reduceAdd,ovT,Q9,Nat.reduceEqDiff,reduceIte,Qt,Q0,Uh,u32,u33,u34,u35,u36,u37,u38,u39,and_self,and_true,true_and];first|done|rfl) ⟨by omega,afT hget hinv hcb⟩ (by omega) (fun a ha=>by simp only [u32,u33,u34,u35,u36,u37,u38,u39];repeat rw [if_neg (by omega)])
 refine UA (ι:=Unit) (fun _=>okP ael ltI e.anchors e.anchors.length = true) (fun _=>eSt e) (fun K' hK'=>?_) (fun _ g10=>?_)
 ·repeat' (first|(refine zsk ?_;intro K' hK)|(refine zrt 14 (QI _) (QE _) ?_;intro K' hK)|(refine zrt 20 (QH _) (QD _) ?_;intro K' hK)|(refine zrt 32 (QG) (QC) ?_;intro K' hK)|(refine zrt 25 (QF _) (QB _) ?_;intro K' hK)|refine zsp ?_|(refine zsc ?_ ?_<;>intro hc<;>first|exact znh|try simp only [znz] at hc)|simp (maxSteps:=1000000) only [go_sem,eSt,JY,JQ.cells,Qx,Qw,Qv,Qu]|(refine hK _ ?_;clear hK K')|apply zan|((first|apply Ql|apply Qi);(focus first|exact (z0 _ zsd).b|exact (z2 _).b|exact (z3 _ _ zsd).b|exact (z4 _ _ _ _ zsd zsd).b|exact (z5 _).b))|exact zsq|fail)
  refine JM (ι:=Nat) (fun k=>k≤e.anchors.length∧okP ael ltI e.anchors k = true) (fun k=>[(7,V.int k)]) (fun k=>e.anchors.length - k) 0 (by omega) ⟨Nat.zero_le _,rfl⟩ (by repeat' first|exact Yb|refine YR (by omega) (by simp only [Ob.lt,ltL,V.lt,and_self,and_true];try omega) ?_) (fun i hi=>by simp only [ovT,Q9,Nat.reduceEqDiff,reduceIte];(repeat' first|exact YQ|refine Ya ?_ ?_|simp only [V.lt,ltL,and_self,and_true]|omega)) (by simp only [Nat.reduceAdd,ovT,Q9,Nat.reduceEqDiff,reduceIte,Qt,Q0,Uh,u32,u33,u34,u35,u36,u37,u38,u39,and_self,and_true,true_and];first|done|rfl) fun k hk K2 hL=>?_
  obtain ⟨hk,hinv⟩:=hk
  simp only [ovT,Q9,Nat.reduceEqDiff,reduceIte]
  rcases hd:e.anchors.drop k with _|⟨x,r⟩
  ·have hkl:=Ja hd
   have e1:decide ((k:Int) < ((e.anchors.length:Nat):Int)) = false:=by simp;omega
   have hkk:k = e.anchors.length:=by omega
   rw [hkk] at hinv
   repeat' (first|(refine zsk ?_;intro K' hK)|(refine zrt 14 (QI _) (QE _) ?_;intro K' hK)|(refine zrt 20 (QH _) (QD _) ?_;intro K' hK)|(refine zrt 32 (QG) (QC) ?_;intro K' hK)|(refine zrt 25 (QF _) (QB _) ?_;intro K' hK)|refine zsp ?_|(refine zsc ?_ ?_<;>intro hc<;>first|exact znh|try simp only [znz] at hc)|simp (maxSteps:=1000000) only [go_sem,e1,lm2,Qx,Qw,Qv,Qu]|(refine hK _ ?_;clear hK K')|apply zan|((first|apply Ql|apply Qi);(focus first|exact (z0 _ zsd).b|exact (z2 _).b|exact (z3 _ _ zsd).b|exact (z4 _ _ _ _ zsd zsd).b|exact (z5 _).b))|exact zsq|fail)
   all_goals first|exact hK' _ () (QX []) hinv (Ys [] (by simp only [go_sem,zwl,eSt,JY,JQ.cells]<;>exact zcc) (by simp only [go_sem,zwl,eSt,JY,JQ.cells]<;>exact zcc) (by simp [eSt,JY]) (by simp [eSt,JY]) (by omega))
  ·obtain ⟨hk',hget,hr⟩:=QK hd
   have hwk:=QP (k:=k) (by omega)
   have e1:decide ((k:Int) < ((e.anchors.length:Nat):Int)) = true:=by simp;omega
   skip
   rcases hx:ael x with _|_
   ·have hb:okP ael ltI e.anchors (k + 1) = false:=by rw [aaX,hget];simp [hx]
    rw [no (aj0 hb (by omega))]
    by_cases z1:x < 0
    ·have y1:decide (x < 0) = true:=decide_eq_true z1
     repeat' (first|(refine zsk ?_;intro K' hK)|(refine zrt 14 (QI _) (QE _) ?_;intro K' hK)|(refine zrt 20 (QH _) (QD _) ?_;intro K' hK)|(refine zrt 32 (QG) (QC) ?_;intro K' hK)|(refine zrt 25 (QF _) (QB _) ?_;intro K' hK)|refine zsp ?_|(refine zsc ?_ ?_<;>intro hc<;>first|exact znh|try simp only [znz] at hc)|simp (maxSteps:=1000000) only [go_sem,e1,y1,hwk,lm2,Int.toNat_natCast,List.getElem?_map,hget,Qx,Qw,Qv,Qu]|(refine hK _ ?_;clear hK K')|apply zan|((first|apply Ql|apply Qi);(focus first|exact (z0 _ zsd).b|exact (z2 _).b|exact (z3 _ _ zsd).b|exact (z4 _ _ _ _ zsd zsd).b|exact (z5 _).b))|exact zsq|fail)
     all_goals first|exact zr
    have y1:decide (x < 0) = false:=decide_eq_false z1
    have y2:decide (x > 2147483648) = true:=decide_eq_true (by simp [ael] at hx;omega)
    repeat' (first|(refine zsk ?_;intro K' hK)|(refine zrt 14 (QI _) (QE _) ?_;intro K' hK)|(refine zrt 20 (QH _) (QD _) ?_;intro K' hK)|(refine zrt 32 (QG) (QC) ?_;intro K' hK)|(refine zrt 25 (QF _) (QB _) ?_;intro K' hK)|refine zsp ?_|(refine zsc ?_ ?_<;>intro hc<;>first|exact znh|try simp only [znz] at hc)|simp (maxSteps:=1000000) only [go_sem,e1,y1,y2,hwk,lm2,Int.toNat_natCast,List.getElem?_map,hget,Qx,Qw,Qv,Qu]|(refine hK _ ?_;clear hK K')|apply zan|((first|apply Ql|apply Qi);(focus first|exact (z0 _ zsd).b|exact (z2 _).b|exact (z3 _ _ zsd).b|exact (z4 _ _ _ _ zsd zsd).b|exact (z5 _).b))|exact zsq|fail)
    all_goals first|exact zr
   ·have hx2:=hx
    simp only [ael,Bool.and_eq_true,decide_eq_true_eq] at hx2
    have y1:decide (x < 0) = false:=decide_eq_false (by omega)
    have y2:decide (x > 2147483648) = false:=decide_eq_false (by omega)
    rcases k with _|k
    ·have hw0:IntKind.i64.wrap 1 = ((1:Nat):Int):=by decide
     have hg1:okP ael ltI e.anchors (0 + 1) = true:=by rw [aie hget,hx]
     have e2:decide (((0:Nat):Int) > 0) = false:=rfl
     repeat' (first|(refine zsk ?_;intro K' hK)|(refine zrt 14 (QI _) (QE _) ?_;intro K' hK)|(refine zrt 20 (QH _) (QD _) ?_;intro K' hK)|(refine zrt 32 (QG) (QC) ?_;intro K' hK)|(refine zrt 25 (QF _) (QB _) ?_;intro K' hK)|refine zsp ?_|(refine zsc ?_ ?_<;>intro hc<;>first|exact znh|try simp only [znz] at hc)|simp (maxSteps:=1000000) only [go_sem,e1,e2,hwk,hw0,lm2,y1,y2,Int.toNat_natCast,List.getElem?_map,hget,Qx,Qw,Qv,Qu]|(refine hK _ ?_;clear hK K')|apply zan|((first|apply Ql|apply Qi);(focus first|exact (z0 _ zsd).b|exact (z2 _).b|exact (z3 _ _ zsd).b|exact (z4 _ _ _ _ zsd zsd).b|exact (z5 _).b))|exact zsq|fail)
     all_goals first|exact hL _ 1 (by simp only [Nat.reduceAdd,ovT,Q9,Nat.reduceEqDiff,reduceIte,Qt,Q0,Uh,u32,u33,u34,u35,u36,u37,u38,u39,and_self,and_true,true_and];first|done|rfl) ⟨by omega,hg1⟩ (by omega) (fun a ha=>by simp only [u32,u33,u34,u35,u36,u37,u38,u39];repeat rw [if_neg (by omega)])
    ·have e2:decide (((k + 1:Nat):Int) > 0) = true:=decide_eq_true (by omega)
     have hw2:IntKind.i64.wrap (((k + 1:Nat):Int) - 1) = (k:Int):=by rw [UP (by omega) (by omega)];omega
     obtain ⟨y,hgy⟩:∃ y,e.anchors[k]? = some y:=⟨_,List.getElem?_eq_getElem (by omega)⟩
     have hnext:=afg (p:=ael) (q:=ltI) hget hgy
     rw [hinv,hx] at hnext
     by_cases hb:y < x
     ·have e3:decide (y≥x) = false:=decide_eq_false (by omega)
      repeat' (first|(refine zsk ?_;intro K' hK)|(refine zrt 14 (QI _) (QE _) ?_;intro K' hK)|(refine zrt 20 (QH _) (QD _) ?_;intro K' hK)|(refine zrt 32 (QG) (QC) ?_;intro K' hK)|(refine zrt 25 (QF _) (QB _) ?_;intro K' hK)|refine zsp ?_|(refine zsc ?_ ?_<;>intro hc<;>first|exact znh|try simp only [znz] at hc)|simp (maxSteps:=1000000) only [go_sem,e1,e2,e3,hwk,hw2,lm2,y1,y2,Int.toNat_natCast,List.getElem?_map,hget,hgy,Qx,Qw,Qv,Qu]|(refine hK _ ?_;clear hK K')|apply zan|((first|apply Ql|apply Qi);(focus first|exact (z0 _ zsd).b|exact (z2 _).b|exact (z3 _ _ zsd).b|exact (z4 _ _ _ _ zsd zsd).b|exact (z5 _).b))|exact zsq|fail)
      all_goals first|exact hL _ (k + 2) (by simp only [Nat.reduceAdd,ovT,Q9,Nat.reduceEqDiff,reduceIte,Qt,Q0,Uh,u32,u33,u34,u35,u36,u37,u38,u39,and_self,and_true,true_and];first|done|rfl) ⟨by omega,by rw [hnext];simp [ltI,hb]⟩ (by omega) (fun a ha=>by simp only [u32,u33,u34,u35,u36,u37,u38,u39];repeat rw [if_neg (by omega)])
     ·have e3:decide (y≥x) = true:=decide_eq_true (by omega)
      rw [no (aj0 (k:=k + 2) (by rw [hnext];simp [ltI,hb]) (by omega))]
      repeat' (first|(refine zsk ?_;intro K' hK)|(refine zrt 14 (QI _) (QE _) ?_;intro K' hK)|(refine zrt 20 (QH _) (QD _) ?_;intro K' hK)|(refine zrt 32 (QG) (QC) ?_;intro K' hK)|(refine zrt 25 (QF _) (QB _) ?_;intro K' hK)|refine zsp ?_|(refine zsc ?_ ?_<;>intro hc<;>first|exact znh|try simp only [znz] at hc)|simp (maxSteps:=1000000) only [go_sem,e1,e2,e3,hwk,hw2,lm2,y1,y2,Int.toNat_natCast,List.getElem?_map,hget,hgy,Qx,Qw,Qv,Qu]|(refine hK _ ?_;clear hK K')|apply zan|((first|apply Ql|apply Qi);(focus first|exact (z0 _ zsd).b|exact (z2 _).b|exact (z3 _ _ zsd).b|exact (z4 _ _ _ _ zsd zsd).b|exact (z5 _).b))|exact zsq|fail)
      all_goals first|exact zr
 have hshh:=sm.hh
 ·repeat' (first|(refine zsk ?_;intro K' hK)|(refine zrt 14 (QI _) (QE _) ?_;intro K' hK)|(refine zrt 20 (QH _) (QD _) ?_;intro K' hK)|(refine zrt 32 (QG) (QC) ?_;intro K' hK)|(refine zrt 25 (QF _) (QB _) ?_;intro K' hK)|refine zsp ?_|(refine zsc ?_ ?_<;>intro hc<;>first|exact znh|try simp only [znz] at hc)|simp (maxSteps:=1000000) only [go_sem,eSt,JY,JQ.cells,Qx,Qw,Qv,Qu]|(refine hK _ ?_;clear hK K')|apply zan|((first|apply Ql|apply Qi);(focus first|exact (z0 _ zsd).b|exact (z2 _).b|exact (z3 _ _ zsd).b|exact (z4 _ _ _ _ zsd zsd).b|exact (z5 _).b))|exact zsq|fail)
  refine JM (ι:=Nat) (fun k=>k≤e.hashes.length∧okP aex ltI e.hashes k = true) (fun k=>[(8,V.int k)]) (fun k=>e.hashes.length - k) 0 (by omega) ⟨Nat.zero_le _,rfl⟩ (by repeat' first|exact Yb|refine YR (by omega) (by simp only [Ob.lt,ltL,V.lt,and_self,and_true];try omega) ?_) (fun i hi=>by simp only [ovT,Q9,Nat.reduceEqDiff,reduceIte];(repeat' first|exact YQ|refine Ya ?_ ?_|simp only [V.lt,ltL,and_self,and_true]|omega)) (by simp only [Nat.reduceAdd,ovT,Q9,Nat.reduceEqDiff,reduceIte,Qt,Q0,Uh,u32,u33,u34,u35,u36,u37,u38,u39,and_self,and_true,true_and];first|done|rfl) fun k hk K2 hL=>?_
  obtain ⟨hk,hinv⟩:=hk
  simp only [ovT,Q9,Nat.reduceEqDiff,reduceIte]
  rcases hd:e.hashes.drop k with _|⟨x,r⟩
  ·have hkl:=Ja hd
   have e1:decide ((k:Int) < ((e.hashes.length:Nat):Int)) = false:=by simp;omega
   have hkk:k = e.hashes.length:=by omega
   rw [hkk] at hinv
   rw [if_pos (arq g1 g2 g3 g4 g8 g6 g7 g9 g10 hinv)]
   repeat' (first|(refine zsk ?_;intro K' hK)|(refine zrt 14 (QI _) (QE _) ?_;intro K' hK)|(refine zrt 20 (QH _) (QD _) ?_;intro K' hK)|(refine zrt 32 (QG) (QC) ?_;intro K' hK)|(refine zrt 25 (QF _) (QB _) ?_;intro K' hK)|refine zsp ?_|(refine zsc ?_ ?_<;>intro hc<;>first|exact znh|try simp only [znz] at hc)|simp (maxSteps:=1000000) only [go_sem,e1,lm3,Qx,Qw,Qv,Qu]|(refine hK _ ?_;clear hK K')|apply zan|((first|apply Ql|apply Qi);(focus first|exact (z0 _ zsd).b|exact (z2 _).b|exact (z3 _ _ zsd).b|exact (z4 _ _ _ _ zsd zsd).b|exact (z5 _).b))|exact zsq|fail)
   all_goals first|exact zr
  ·obtain ⟨hk',hget,hr⟩:=QK hd
   have hwk:=QP (k:=k) (by omega)
   have e1:decide ((k:Int) < ((e.hashes.length:Nat):Int)) = true:=by simp;omega
   have hki:=(z5 x).b
   rcases hx:aex x with _|_
   ·have hb:okP aex ltI e.hashes (k + 1) = false:=by rw [aaX,hget];simp [hx]
    rw [no (amW hb (by omega))]
    have y1:((Yz x).kind != 1) = true:=by simpa [aex] using hx
    repeat' (first|(refine zsk ?_;intro K' hK)|(refine zrt 14 (QI _) (QE _) ?_;intro K' hK)|(refine zrt 20 (QH _) (QD _) ?_;intro K' hK)|(refine zrt 32 (QG) (QC) ?_;intro K' hK)|(refine zrt 25 (QF _) (QB _) ?_;intro K' hK)|refine zsp ?_|(refine zsc ?_ ?_<;>intro hc<;>first|exact znh|try simp only [znz] at hc)|simp (maxSteps:=1000000) only [go_sem,e1,y1,hwk,lm3,Int.toNat_natCast,List.getElem?_map,hget,Qx,Qw,Qv,Qu]|(refine hK _ ?_;clear hK K')|apply zan|((first|apply Ql|apply Qi);(focus first|exact hki|exact (z0 _ zsd).b|exact (z2 _).b|exact (z3 _ _ zsd).b|exact (z4 _ _ _ _ zsd zsd).b|exact (z5 _).b))|exact zsq|fail)
    all_goals first|exact zr
   ·have y1:((Yz x).kind != 1) = false:=by simpa [aex] using hx
    rcases k with _|k
    ·have hw0:IntKind.i64.wrap 1 = ((1:Nat):Int):=by decide
     have hg1:okP aex ltI e.hashes (0 + 1) = true:=by rw [aie hget,hx]
     have e2:decide (((0:Nat):Int) > 0) = false:=rfl
     repeat' (first|(refine zsk ?_;intro K' hK)|(refine zrt 14 (QI _) (QE _) ?_;intro K' hK)|(refine zrt 20 (QH _) (QD _) ?_;intro K' hK)|(refine zrt 32 (QG) (QC) ?_;intro K' hK)|(refine zrt 25 (QF _) (QB _) ?_;intro K' hK)|refine zsp ?_|(refine zsc ?_ ?_<;>intro hc<;>first|exact znh|try simp only [znz] at hc)|simp (maxSteps:=1000000) only [go_sem,e1,e2,hwk,hw0,lm3,y1,Int.toNat_natCast,List.getElem?_map,hget,Qx,Qw,Qv,Qu]|(refine hK _ ?_;clear hK K')|apply zan|((first|apply Ql|apply Qi);(focus first|exact hki|exact (z0 _ zsd).b|exact (z2 _).b|exact (z3 _ _ zsd).b|exact (z4 _ _ _ _ zsd zsd).b|exact (z5 _).b))|exact zsq|fail)
     all_goals first|exact hL _ 1 (by simp only [Nat.reduceAdd,ovT,Q9,Nat.reduceEqDiff,reduceIte,Qt,Q0,Uh,u32,u33,u34,u35,u36,u37,u38,u39,and_self,and_true,true_and];first|done|rfl) ⟨by omega,hg1⟩ (by omega) (fun a ha=>by simp only [u32,u33,u34,u35,u36,u37,u38,u39];repeat rw [if_neg (by omega)])
    ·have e2:decide (((k + 1:Nat):Int) > 0) = true:=decide_eq_true (by omega)
     have hw2:IntKind.i64.wrap (((k + 1:Nat):Int) - 1) = (k:Int):=by rw [UP (by omega) (by omega)];omega
     obtain ⟨y,hgy⟩:∃ y,e.hashes[k]? = some y:=⟨_,List.getElem?_eq_getElem (by omega)⟩
     have hnext:=afg (p:=aex) (q:=ltI) hget hgy
     rw [hinv,hx] at hnext
     by_cases hb:y < x
     ·have e3:decide (y≥x) = false:=decide_eq_false (by omega)
      repeat' (first|(refine zsk ?_;intro K' hK)|(refine zrt 14 (QI _) (QE _) ?_;intro K' hK)|(refine zrt 20 (QH _) (QD _) ?_;intro K' hK)|(refine zrt 32 (QG) (QC) ?_;intro K' hK)|(refine zrt 25 (QF _) (QB _) ?_;intro K' hK)|refine zsp ?_|(refine zsc ?_ ?_<;>intro hc<;>first|exact znh|try simp only [znz] at hc)|simp (maxSteps:=1000000) only [go_sem,e1,e2,e3,hwk,hw2,lm3,y1,Int.toNat_natCast,List.getElem?_map,hget,hgy,Qx,Qw,Qv,Qu]|(refine hK _ ?_;clear hK K')|apply zan|((first|apply Ql|apply Qi);(focus first|exact hki|exact (z0 _ zsd).b|exact (z2 _).b|exact (z3 _ _ zsd).b|exact (z4 _ _ _ _ zsd zsd).b|exact (z5 _).b))|exact zsq|fail)
      all_goals first|exact hL _ (k + 2) (by simp only [Nat.reduceAdd,ovT,Q9,Nat.reduceEqDiff,reduceIte,Qt,Q0,Uh,u32,u33,u34,u35,u36,u37,u38,u39,and_self,and_true,true_and];first|done|rfl) ⟨by omega,by rw [hnext];simp [ltI,hb]⟩ (by omega) (fun a ha=>by simp only [u32,u33,u34,u35,u36,u37,u38,u39];repeat rw [if_neg (by omega)])
     ·have e3:decide (y≥x) = true:=decide_eq_true (by omega)
      rw [no (amW (k:=k + 2) (by rw [hnext];simp [ltI,hb]) (by omega))]
      repeat' (first|(refine zsk ?_;intro K' hK)|(refine zrt 14 (QI _) (QE _) ?_;intro K' hK)|(refine zrt 20 (QH _) (QD _) ?_;intro K' hK)|(refine zrt 32 (QG) (QC) ?_;intro K' hK)|(refine zrt 25 (QF _) (QB _) ?_;intro K' hK)|refine zsp ?_|(refine zsc ?_ ?_<;>intro hc<;>first|exact znh|try simp only [znz] at hc)|simp (maxSteps:=1000000) only [go_sem,e1,e2,e3,hwk,hw2,lm3,y1,Int.toNat_natCast,List.getElem?_map,hget,hgy,Qx,Qw,Qv,Qu]|(refine hK _ ?_;clear hK K')|apply zan|((first|apply Ql|apply Qi);(focus first|exact hki|exact (z0 _ zsd).b|exact (z2 _).b|exact (z3 _ _ zsd).b|exact (z4 _ _ _ _ zsd zsd).b|exact (z5 _).b))|exact zsq|fail)
      all_goals first|exact zr
end Av
end
section
set_option linter.unusedSimpArgs false
set_option linter.unusedVariables false
set_option maxRecDepth 10000
set_option maxHeartbeats 4000000
namespace Av
open Go
attribute [local irreducible] AWp VV UQ Ko awS awC jF awQ yc Jb XH jD awR XT awB okR Wy ris
def eqL {α:Type} (p:α→α→Bool):List α→List α→Bool
 | [],[]=>true
 | x :: a,y :: b=>p x y && eqL p a b
 | _,_=>false
theorem acv {α:Type} {p:α→α→Bool}:∀ (a b:List α),¬ a.length = b.length→eqL p a b = false
 | [],[],h=>absurd rfl h
 | [],_ :: _,_=>rfl
 | _ :: _,[],_=>rfl
 | x :: a,y :: b,h=>by rw [eqL,acv a b (fun e=>h (by simp [e])),Bool.and_false]
def eqS (x y:List UInt8):Bool:=x == y
def eqI (x y:Int):Bool:=x == y
def cs1 (c d:Yg):Bool:=(c.serial == d.serial) && ((c.issuer == d.issuer) && ((c.subject == d.subject) && eqL eqS c.names d.names))
def cs2 (c d:Yg):Bool:=((c.kalg == d.kalg) && (c.kbits == d.kbits)) && ((c.kid == d.kid) && (((c.halg == d.halg) && (c.hbits == d.hbits)) && ((c.skey == d.skey) && (c.ssum == d.ssum))))
def cs3 (c d:Yg):Bool:=(c.from_ == d.from_) && ((c.to_ == d.to_) && ((c.auth == d.auth) && (c.path == d.path)))
def aa9 (c d:Yg):Bool:=cs1 c d && (cs2 c d && cs3 c d)
def aa8 (x y:Yo):Bool:=((x.kalg == y.kalg) && (x.kbits == y.kbits)) && ((x.kid == y.kid) && eqL aa9 x.chain y.chain)
def XY:List AO:=[mv 16 0,mv 17 5,ia 18 1 16 17,ld 19 1 18,mv 20 1,mv 21 5,ia 22 1 20 21,ld 23 1 22,bn 24 .neq 19 23]
def XZ:List (List Nat):=[[],[],[0,1],[2],[],[],[4,5],[6],[3,7]]
def XX:OT:=.one 0 (.one 1 (.one 2 (.one 3 (.one 4 (.one 5 (.one 6 (.one 7 (.one 8 (.done)))))))))
@[go_sem] def JF:OP:=.one 0 false [] (mv 16 0) (.one 1 false [] (mv 17 5) (.one 2 false [] (ia 18 1 16 17) (.one 3 false [] (ld 19 1 18) (.one 4 false [] (mv 20 1) (.one 5 false [] (mv 21 5) (.one 6 false [] (ia 22 1 20 21) (.one 7 false [] (ld 23 1 22) (.one 8 false [] (bn 24 .neq 19 23) (.done)))))))))
theorem Ym:okR (XY) XZ [] XX = true:=by kernel_rfl
theorem Yl:Wy (ris (XY) XZ []) XX = JF:=by kernel_rfl def c_slices_Equal___string_string:AC:=Qe [0,1] (.reg [mc 4 (V.bool false)]) (Qe [0,1] (Qe [0,1,10] (.reg [mv 6 0,ln 7 6,mv 8 1,ln 9 8,bn 10 .neq 7 9]) (.cond (.t 10) (Qe [4] (.reg [mc 4 (V.bool false)]) (.ret)) (.skip))) (Qe [] (Qe [0,1,12,13] (.reg [mv 11 0,ln 12 11,mc 13 (V.int 0)]) (.block 0 (Xw [0,1,12,13] (Qe [0,1,12,13,14] (.reg [bn 14 .lss 13 12]) (Qe [0,1,12,13] (.cond (.t 14) (.skip) (.exit 0)) (Qe [0,1,12,13] (.block 1 (Qe [0,1,5,12,13] (.reg [mv 15 13,mv 5 15]) (Qe [0,1,12,13,24] (ace [] XX (JF) (XY) XZ) (.cond (.t 24) (Qe [4] (.reg [mc 4 (V.bool false)]) (.ret)) (.skip))))) (.reg [bc 25 .add 13 (V.int 1),mv 13 25]))))))) (Qe [4] (.reg [mc 4 (V.bool true)]) (.ret)))) def r_slices_Equal___string_string:List YF:=[.tmp 4]
def Wa (Γ:Env) (f:Nat):Prop:=∀ (a b:List (List UInt8)) (ha:a.length < 2 ^ 60),EvN Γ f [.sl 1 (a.map V.str),.sl 1 (b.map V.str)] (V.bool (eqL eqS a b))
theorem yZ {Γ:Env} {f:Nat} (h:Has Γ.P f 26 c_slices_Equal___string_string r_slices_Equal___string_string) :Wa Γ f:=by
 intro a b ha
 refine Qj h zsi zcl zcl fun C hC hm=>?_
 subst hC
 unfold c_slices_Equal___string_string
 have lma:(a.map V.str).length = a.length:=List.length_map _
 have lmb:(b.map V.str).length = b.length:=List.length_map _
 by_cases hlen:a.length = b.length
 ·have e0:(((a.length:Nat):Int) != ((b.length:Nat):Int)) = false:=by simp [hlen]
  repeat' (first|(refine zsk ?_;intro K' hK)|(refine zrt 9 (Ym) (Yl) ?_;intro K' hK)|refine zsp ?_|(refine zsc ?_ ?_<;>intro hc<;>first|exact znh|try simp only [znz] at hc)|simp (maxSteps:=1000000) only [go_sem,lma,lmb,e0,JF]|(refine hK _ ?_;clear hK K')|apply zan|exact zsq|fail)
  refine JM (ι:=Nat) (fun k=>k≤a.length∧eqL eqS (a.drop k) (b.drop k) = eqL eqS a b) (fun k=>[(13,V.int k)]) (fun k=>a.length - k) 0 (by omega) ⟨Nat.zero_le _,rfl⟩ (by repeat' first|exact Yb|refine YR (by omega) (by simp only [Ob.lt,ltL,V.lt,and_self,and_true];try omega) ?_) (fun i hi=>by simp only [ovT,Q9,Nat.reduceEqDiff,reduceIte];(repeat' first|exact YQ|refine Ya ?_ ?_|simp only [V.lt,ltL,and_self,and_true]|omega)) (by simp only [Nat.reduceAdd,ovT,Q9,Nat.reduceEqDiff,reduceIte,Qt,Q0,Uh,u32,u33,u34,u35,u36,u37,u38,u39,and_self,and_true,true_and];first|done|rfl) fun k hk K' hL=>?_
  obtain ⟨hk,hinv⟩:=hk
  simp only [ovT,Q9,Nat.reduceEqDiff,reduceIte]
  rcases hd:a.drop k with _|⟨y,r⟩
  ·have:=Ja hd
   have hd2:b.drop k = []:=List.drop_eq_nil_of_le (by omega)
   rw [hd,hd2] at hinv
   have e1:decide ((k:Int) < ((a.length:Nat):Int)) = false:=by simp;omega
   rw [← hinv,show eqL eqS [] [] = true from rfl]
   repeat' (first|(refine zsk ?_;intro K' hK)|(refine zrt 9 (Ym) (Yl) ?_;intro K' hK)|refine zsp ?_|(refine zsc ?_ ?_<;>intro hc<;>first|exact znh|try simp only [znz] at hc)|simp (maxSteps:=1000000) only [go_sem,e1,lma,JF]|(refine hK _ ?_;clear hK K')|apply zan|exact zsq|fail)
   all_goals first|exact zr
  ·obtain ⟨hk',hget,hr⟩:=QK hd
   have e1:decide ((k:Int) < ((a.length:Nat):Int)) = true:=by simp;omega
   rcases hd2:b.drop k with _|⟨z,r2⟩
   ·have:=Ja hd2;omega
   ·obtain ⟨hk2,hget2,hr2⟩:=QK hd2
    rw [hd,hd2,eqL] at hinv
    have hw:=QP (k:=k) (by omega)
    have hmy:=List.mem_of_getElem? hget
    have hmz:=List.mem_of_getElem? hget2
    skip
    rcases hyz:eqS y z with _|_
    ·rw [hyz,Bool.false_and] at hinv
     rw [← hinv]
     have e2:(y == z) = false:=hyz
     repeat' (first|(refine zsk ?_;intro K' hK)|(refine zrt 9 (Ym) (Yl) ?_;intro K' hK)|refine zsp ?_|(refine zsc ?_ ?_<;>intro hc<;>first|exact znh|try simp only [znz] at hc)|simp (maxSteps:=1000000) only [go_sem,e1,lma,Int.toNat_natCast,List.getElem?_map,hget,hget2,hw,e2,JF]|(refine hK _ ?_;clear hK K')|apply zan|exact zsq|fail)
     all_goals first|exact zr
    ·rw [hyz,Bool.true_and] at hinv
     have e2:(y == z) = true:=hyz
     repeat' (first|(refine zsk ?_;intro K' hK)|(refine zrt 9 (Ym) (Yl) ?_;intro K' hK)|refine zsp ?_|(refine zsc ?_ ?_<;>intro hc<;>first|exact znh|try simp only [znz] at hc)|simp (maxSteps:=1000000) only [go_sem,e1,lma,Int.toNat_natCast,List.getElem?_map,hget,hget2,hw,e2,JF]|(refine hK _ ?_;clear hK K')|apply zan|exact zsq|fail)
     all_goals first|exact hL _ (k + 1) (by simp only [Nat.reduceAdd,ovT,Q9,Nat.reduceEqDiff,reduceIte,Qt,Q0,Uh,u32,u33,u34,u35,u36,u37,u38,u39,and_self,and_true,true_and];first|done|rfl) ⟨by omega,by rw [hr,hr2];exact hinv⟩ (by omega) (fun a ha=>by simp only [u32,u33,u34,u35,u36,u37,u38,u39];repeat rw [if_neg (by omega)])
 ·have e0:(((a.length:Nat):Int) != ((b.length:Nat):Int)) = true:=by simp;omega
  rw [acv a b hlen]
  repeat' (first|(refine zsk ?_;intro K' hK)|(refine zrt 9 (Ym) (Yl) ?_;intro K' hK)|refine zsp ?_|(refine zsc ?_ ?_<;>intro hc<;>first|exact znh|try simp only [znz] at hc)|simp (maxSteps:=1000000) only [go_sem,lma,lmb,e0,JF]|(refine hK _ ?_;clear hK K')|apply zan|exact zsq|fail)
  all_goals first|exact zr
def Vc:List AO:=[mv 16 0,mv 17 5,ia 18 1 16 17,ld 19 1 18,mv 20 1,mv 21 5,ia 22 1 20 21,ld 23 1 22,bn 24 .neq 19 23]
def Vf:List (List Nat):=[[],[],[0,1],[2],[],[],[4,5],[6],[3,7]]
def Vb:OT:=.one 0 (.one 1 (.one 2 (.one 3 (.one 4 (.one 5 (.one 6 (.one 7 (.one 8 (.done)))))))))
@[go_sem] def J4:OP:=.one 0 false [] (mv 16 0) (.one 1 false [] (mv 17 5) (.one 2 false [] (ia 18 1 16 17) (.one 3 false [] (ld 19 1 18) (.one 4 false [] (mv 20 1) (.one 5 false [] (mv 21 5) (.one 6 false [] (ia 22 1 20 21) (.one 7 false [] (ld 23 1 22) (.one 8 false [] (bn 24 .neq 19 23) (.done)))))))))
theorem Y4:okR (Vc) Vf [] Vb = true:=by kernel_rfl
theorem Y3:Wy (ris (Vc) Vf []) Vb = J4:=by kernel_rfl def c_slices_Equal___int_int:AC:=Qe [0,1] (.reg [mc 4 (V.bool false)]) (Qe [0,1] (Qe [0,1,10] (.reg [mv 6 0,ln 7 6,mv 8 1,ln 9 8,bn 10 .neq 7 9]) (.cond (.t 10) (Qe [4] (.reg [mc 4 (V.bool false)]) (.ret)) (.skip))) (Qe [] (Qe [0,1,12,13] (.reg [mv 11 0,ln 12 11,mc 13 (V.int 0)]) (.block 0 (Xw [0,1,12,13] (Qe [0,1,12,13,14] (.reg [bn 14 .lss 13 12]) (Qe [0,1,12,13] (.cond (.t 14) (.skip) (.exit 0)) (Qe [0,1,12,13] (.block 1 (Qe [0,1,5,12,13] (.reg [mv 15 13,mv 5 15]) (Qe [0,1,12,13,24] (ace [] Vb (J4) (Vc) Vf) (.cond (.t 24) (Qe [4] (.reg [mc 4 (V.bool false)]) (.ret)) (.skip))))) (.reg [bc 25 .add 13 (V.int 1),mv 13 25]))))))) (Qe [4] (.reg [mc 4 (V.bool true)]) (.ret)))) def r_slices_Equal___int_int:List YF:=[.tmp 4]
def VS (Γ:Env) (f:Nat):Prop:=∀ (a b:List Int) (ha:a.length < 2 ^ 60),EvN Γ f [.sl 1 (a.map V.int),.sl 1 (b.map V.int)] (V.bool (eqL eqI a b))
theorem abg {Γ:Env} {f:Nat} (h:Has Γ.P f 26 c_slices_Equal___int_int r_slices_Equal___int_int) :VS Γ f:=by
 intro a b ha
 refine Qj h zsi zcl zcl fun C hC hm=>?_
 subst hC
 unfold c_slices_Equal___int_int
 have lma:(a.map V.int).length = a.length:=List.length_map _
 have lmb:(b.map V.int).length = b.length:=List.length_map _
 by_cases hlen:a.length = b.length
 ·have e0:(((a.length:Nat):Int) != ((b.length:Nat):Int)) = false:=by simp [hlen]
  repeat' (first|(refine zsk ?_;intro K' hK)|(refine zrt 9 (Y4) (Y3) ?_;intro K' hK)|refine zsp ?_|(refine zsc ?_ ?_<;>intro hc<;>first|exact znh|try simp only [znz] at hc)|simp (maxSteps:=1000000) only [go_sem,lma,lmb,e0,J4]|(refine hK _ ?_;clear hK K')|apply zan|exact zsq|fail)
  refine JM (ι:=Nat) (fun k=>k≤a.length∧eqL eqI (a.drop k) (b.drop k) = eqL eqI a b) (fun k=>[(13,V.int k)]) (fun k=>a.length - k) 0 (by omega) ⟨Nat.zero_le _,rfl⟩ (by repeat' first|exact Yb|refine YR (by omega) (by simp only [Ob.lt,ltL,V.lt,and_self,and_true];try omega) ?_) (fun i hi=>by simp only [ovT,Q9,Nat.reduceEqDiff,reduceIte];(repeat' first|exact YQ|refine Ya ?_ ?_|simp only [V.lt,ltL,and_self,and_true]|omega)) (by simp only [Nat.reduceAdd,ovT,Q9,Nat.reduceEqDiff,reduceIte,Qt,Q0,Uh,u32,u33,u34,u35,u36,u37,u38,u39,and_self,and_true,true_and];first|done|rfl) fun k hk K' hL=>?_
  obtain ⟨hk,hinv⟩:=hk
  simp only [ovT,Q9,Nat.reduceEqDiff,reduceIte]
  rcases hd:a.drop k with _|⟨y,r⟩
  ·have:=Ja hd
   have hd2:b.drop k = []:=List.drop_eq_nil_of_le (by omega)
   rw [hd,hd2] at hinv
   have e1:decide ((k:Int) < ((a.length:Nat):Int)) = false:=by simp;omega
   rw [← hinv,show eqL eqI [] [] = true from rfl]
   repeat' (first|(refine zsk ?_;intro K' hK)|(refine zrt 9 (Y4) (Y3) ?_;intro K' hK)|refine zsp ?_|(refine zsc ?_ ?_<;>intro hc<;>first|exact znh|try simp only [znz] at hc)|simp (maxSteps:=1000000) only [go_sem,e1,lma,J4]|(refine hK _ ?_;clear hK K')|apply zan|exact zsq|fail)
   all_goals first|exact zr
  ·obtain ⟨hk',hget,hr⟩:=QK hd
   have e1:decide ((k:Int) < ((a.length:Nat):Int)) = true:=by simp;omega
   rcases hd2:b.drop k with _|⟨z,r2⟩
   ·have:=Ja hd2;omega
   ·obtain ⟨hk2,hget2,hr2⟩:=QK hd2
    rw [hd,hd2,eqL] at hinv
    have hw:=QP (k:=k) (by omega)
    have hmy:=List.mem_of_getElem? hget
    have hmz:=List.mem_of_getElem? hget2
    skip
    rcases hyz:eqI y z with _|_
    ·rw [hyz,Bool.false_and] at hinv
     rw [← hinv]
     have e2:(y != z) = true:=by simpa [eqI] using hyz
     repeat' (first|(refine zsk ?_;intro K' hK)|(refine zrt 9 (Y4) (Y3) ?_;intro K' hK)|refine zsp ?_|(refine zsc ?_ ?_<;>intro hc<;>first|exact znh|try simp only [znz] at hc)|simp (maxSteps:=1000000) only [go_sem,e1,lma,Int.toNat_natCast,List.getElem?_map,hget,hget2,hw,e2,J4]|(refine hK _ ?_;clear hK K')|apply zan|exact zsq|fail)
     all_goals first|exact zr
    ·rw [hyz,Bool.true_and] at hinv
     have e2:(y != z) = false:=by simpa [eqI] using hyz
     repeat' (first|(refine zsk ?_;intro K' hK)|(refine zrt 9 (Y4) (Y3) ?_;intro K' hK)|refine zsp ?_|(refine zsc ?_ ?_<;>intro hc<;>first|exact znh|try simp only [znz] at hc)|simp (maxSteps:=1000000) only [go_sem,e1,lma,Int.toNat_natCast,List.getElem?_map,hget,hget2,hw,e2,J4]|(refine hK _ ?_;clear hK K')|apply zan|exact zsq|fail)
     all_goals first|exact hL _ (k + 1) (by simp only [Nat.reduceAdd,ovT,Q9,Nat.reduceEqDiff,reduceIte,Qt,Q0,Uh,u32,u33,u34,u35,u36,u37,u38,u39,and_self,and_true,true_and];first|done|rfl) ⟨by omega,by rw [hr,hr2];exact hinv⟩ (by omega) (fun a ha=>by simp only [u32,u33,u34,u35,u36,u37,u38,u39];repeat rw [if_neg (by omega)])
 ·have e0:(((a.length:Nat):Int) != ((b.length:Nat):Int)) = true:=by simp;omega
  rw [acv a b hlen]
  repeat' (first|(refine zsk ?_;intro K' hK)|(refine zrt 9 (Y4) (Y3) ?_;intro K' hK)|refine zsp ?_|(refine zsc ?_ ?_<;>intro hc<;>first|exact znh|try simp only [znz] at hc)|simp (maxSteps:=1000000) only [go_sem,lma,lmb,e0,J4]|(refine hK _ ?_;clear hK K')|apply zan|exact zsq|fail)
  all_goals first|exact zr
def jf:List AO:=[mv 17 0,mv 18 5,ia 19 1 17 18,ld 20 1 19,mv 21 1,mv 22 5,ia 23 1 21 22,ld 24 1 23,bn 25 .neq 20 24]
def jp:List (List Nat):=[[],[],[0,1],[2],[],[],[4,5],[6],[3,7]]
def jc:OT:=.one 0 (.one 1 (.one 2 (.one 3 (.one 4 (.one 5 (.one 6 (.one 7 (.one 8 (.done)))))))))
@[go_sem] def Xt:OP:=.one 0 false [] (mv 17 0) (.one 1 false [] (mv 18 5) (.one 2 false [] (ia 19 1 17 18) (.one 3 false [] (ld 20 1 19) (.one 4 false [] (mv 21 1) (.one 5 false [] (mv 22 5) (.one 6 false [] (ia 23 1 21 22) (.one 7 false [] (ld 24 1 23) (.one 8 false [] (bn 25 .neq 20 24) (.done)))))))))
theorem W0:okR (jf) jp [] jc = true:=by kernel_rfl
theorem WV:Wy (ris (jf) jp []) jc = Xt:=by kernel_rfl def c_ref02_SameTexts:AC:=Qe [0,1] (.reg [mc 4 (V.bool false)]) (Qe [0,1] (Qe [0,1,10] (.reg [mv 6 0,ln 7 6,mv 8 1,ln 9 8,bn 10 .neq 7 9]) (.cond (.t 10) (Qe [4] (.reg [mc 4 (V.bool false)]) (.ret)) (.skip))) (Qe [] (Qe [0,1,5] (.reg [mc 5 (V.int 0)]) (.block 0 (Xw [0,1,5] (Qe [0,1,5] (Qe [0,1,5,14] (.reg [mv 11 5,mv 12 0,ln 13 12,bn 14 .lss 11 13]) (.cond (.t 14) (.skip) (.exit 0))) (Qe [0,1,5] (.block 1 (Qe [0,1,5,25] (ace [] jc (Xt) (jf) jp) (.cond (.t 25) (Qe [4] (.reg [mc 4 (V.bool false)]) (.ret)) (.skip)))) (.reg [mv 15 5,bc 16 .add 15 (V.int 1),mv 5 16])))))) (Qe [4] (.reg [mc 4 (V.bool true)]) (.ret)))) def r_ref02_SameTexts:List YF:=[.tmp 4]
def yq (Γ:Env) (f:Nat):Prop:=∀ (a b:List (List UInt8)) (ha:a.length < 2 ^ 60),EvN Γ f [.sl 1 (a.map V.str),.sl 1 (b.map V.str)] (V.bool (eqL eqS a b))
theorem afF {Γ:Env} {f:Nat} (h:Has Γ.P f 26 c_ref02_SameTexts r_ref02_SameTexts) :yq Γ f:=by
 intro a b ha
 refine Qj h zsi zcl zcl fun C hC hm=>?_
 subst hC
 unfold c_ref02_SameTexts
 have lma:(a.map V.str).length = a.length:=List.length_map _
 have lmb:(b.map V.str).length = b.length:=List.length_map _
 by_cases hlen:a.length = b.length
 ·have e0:(((a.length:Nat):Int) != ((b.length:Nat):Int)) = false:=by simp [hlen]
  repeat' (first|(refine zsk ?_;intro K' hK)|(refine zrt 9 (W0) (WV) ?_;intro K' hK)|refine zsp ?_|(refine zsc ?_ ?_<;>intro hc<;>first|exact znh|try simp only [znz] at hc)|simp (maxSteps:=1000000) only [go_sem,lma,lmb,e0,Xt]|(refine hK _ ?_;clear hK K')|apply zan|exact zsq|fail)
  refine JM (ι:=Nat) (fun k=>k≤a.length∧eqL eqS (a.drop k) (b.drop k) = eqL eqS a b) (fun k=>[(5,V.int k)]) (fun k=>a.length - k) 0 (by omega) ⟨Nat.zero_le _,rfl⟩ (by repeat' first|exact Yb|refine YR (by omega) (by simp only [Ob.lt,ltL,V.lt,and_self,and_true];try omega) ?_) (fun i hi=>by simp only [ovT,Q9,Nat.reduceEqDiff,reduceIte];(repeat' first|exact YQ|refine Ya ?_ ?_|simp only [V.lt,ltL,and_self,and_true]|omega)) (by simp only [Nat.reduceAdd,ovT,Q9,Nat.reduceEqDiff,reduceIte,Qt,Q0,Uh,u32,u33,u34,u35,u36,u37,u38,u39,and_self,and_true,true_and];first|done|rfl) fun k hk K' hL=>?_
  obtain ⟨hk,hinv⟩:=hk
  simp only [ovT,Q9,Nat.reduceEqDiff,reduceIte]
  rcases hd:a.drop k with _|⟨y,r⟩
  ·have:=Ja hd
   have hd2:b.drop k = []:=List.drop_eq_nil_of_le (by omega)
   rw [hd,hd2] at hinv
   have e1:decide ((k:Int) < ((a.length:Nat):Int)) = false:=by simp;omega
   rw [← hinv,show eqL eqS [] [] = true from rfl]
   repeat' (first|(refine zsk ?_;intro K' hK)|(refine zrt 9 (W0) (WV) ?_;intro K' hK)|refine zsp ?_|(refine zsc ?_ ?_<;>intro hc<;>first|exact znh|try simp only [znz] at hc)|simp (maxSteps:=1000000) only [go_sem,e1,lma,Xt]|(refine hK _ ?_;clear hK K')|apply zan|exact zsq|fail)
   all_goals first|exact zr
  ·obtain ⟨hk',hget,hr⟩:=QK hd
   have e1:decide ((k:Int) < ((a.length:Nat):Int)) = true:=by simp;omega
   rcases hd2:b.drop k with _|⟨z,r2⟩
   ·have:=Ja hd2;omega
   ·obtain ⟨hk2,hget2,hr2⟩:=QK hd2
    rw [hd,hd2,eqL] at hinv
    have hw:=QP (k:=k) (by omega)
    have hmy:=List.mem_of_getElem? hget
    have hmz:=List.mem_of_getElem? hget2
    skip
    rcases hyz:eqS y z with _|_
    ·rw [hyz,Bool.false_and] at hinv
     rw [← hinv]
     have e2:(y == z) = false:=hyz
     repeat' (first|(refine zsk ?_;intro K' hK)|(refine zrt 9 (W0) (WV) ?_;intro K' hK)|refine zsp ?_|(refine zsc ?_ ?_<;>intro hc<;>first|exact znh|try simp only [znz] at hc)|simp (maxSteps:=1000000) only [go_sem,e1,lma,Int.toNat_natCast,List.getElem?_map,hget,hget2,hw,e2,Xt]|(refine hK _ ?_;clear hK K')|apply zan|exact zsq|fail)
     all_goals first|exact zr
    ·rw [hyz,Bool.true_and] at hinv
     have e2:(y == z) = true:=hyz
     repeat' (first|(refine zsk ?_;intro K' hK)|(refine zrt 9 (W0) (WV) ?_;intro K' hK)|refine zsp ?_|(refine zsc ?_ ?_<;>intro hc<;>first|exact znh|try simp only [znz] at hc)|simp (maxSteps:=1000000) only [go_sem,e1,lma,Int.toNat_natCast,List.getElem?_map,hget,hget2,hw,e2,Xt]|(refine hK _ ?_;clear hK K')|apply zan|exact zsq|fail)
     all_goals first|exact hL _ (k + 1) (by simp only [Nat.reduceAdd,ovT,Q9,Nat.reduceEqDiff,reduceIte,Qt,Q0,Uh,u32,u33,u34,u35,u36,u37,u38,u39,and_self,and_true,true_and];first|done|rfl) ⟨by omega,by rw [hr,hr2];exact hinv⟩ (by omega) (fun a ha=>by simp only [u32,u33,u34,u35,u36,u37,u38,u39];repeat rw [if_neg (by omega)])
 ·have e0:(((a.length:Nat):Int) != ((b.length:Nat):Int)) = true:=by simp;omega
  rw [acv a b hlen]
  repeat' (first|(refine zsk ?_;intro K' hK)|(refine zrt 9 (W0) (WV) ?_;intro K' hK)|refine zsp ?_|(refine zsc ?_ ?_<;>intro hc<;>first|exact znh|try simp only [znz] at hc)|simp (maxSteps:=1000000) only [go_sem,lma,lmb,e0,Xt]|(refine hK _ ?_;clear hK K')|apply zan|exact zsq|fail)
  all_goals first|exact zr
def j9 (Xa:Nat):AC:=Qe [2,3] (.reg [xo 2 (.box true 15 (.t 0)),xo 3 (.box true 15 (.t 1)),mc 4 (V.bool false)]) (Qe [2,3,5] (.reg [fa 7 0 2,ld 8 1 7,fa 9 0 3,ld 10 1 9,bn 11 .eql 8 10,mv 12 11,xg 13 (.faddr 1 (.t 2)) 12 true,xg 14 (.load false 1 (.t 13)) 12 true,xg 15 (.faddr 1 (.t 3)) 12 true,xg 16 (.load false 1 (.t 15)) 12 true,xg 17 (.bin .eql (.t 14) (.t 16)) 12 true,xo 18 (.pick (.t 12) (.t 17) (.c (V.bool false))),mv 19 18,xg 20 (.faddr 2 (.t 2)) 19 true,xg 21 (.load false 1 (.t 20)) 19 true,xg 22 (.faddr 2 (.t 3)) 19 true,xg 23 (.load false 1 (.t 22)) 19 true,xg 24 (.bin .eql (.t 21) (.t 23)) 19 true,xo 25 (.pick (.t 19) (.t 24) (.c (V.bool false))),mv 26 25,xg 27 (.faddr 12 (.t 2)) 26 true,xg 28 (.load false 1 (.t 27)) 26 true,xg 29 (.faddr 12 (.t 3)) 26 true,xg 30 (.load false 1 (.t 29)) 26 true,xg 31 (.call Xa [(.t 28),(.t 30)]) 26 true,xo 32 (.pick (.t 26) (.t 31) (.c (V.bool false))),mv 5 32]) (Qe [2,3,5,6] (.reg [fa 33 3 2,xo 34 (.load true 2 (.t 33)),fa 35 3 3,xo 36 (.load true 2 (.t 35)),xo 37 (.eqagg false [0,0] (.t 34) (.t 36)),mv 38 37,xg 39 (.faddr 5 (.t 2)) 38 true,xg 40 (.load false 1 (.t 39)) 38 true,xg 41 (.faddr 5 (.t 3)) 38 true,xg 42 (.load false 1 (.t 41)) 38 true,xg 43 (.bin .eql (.t 40) (.t 42)) 38 true,xo 44 (.pick (.t 38) (.t 43) (.c (V.bool false))),mv 45 44,xg 46 (.faddr 6 (.t 2)) 45 true,xg 47 (.load true 2 (.t 46)) 45 true,xg 48 (.faddr 6 (.t 3)) 45 true,xg 49 (.load true 2 (.t 48)) 45 true,xg 50 (.eqagg false [0,0] (.t 47) (.t 49)) 45 true,xo 51 (.pick (.t 45) (.t 50) (.c (V.bool false))),mv 52 51,xg 53 (.faddr 13 (.t 2)) 52 true,xg 54 (.load true 2 (.t 53)) 52 true,xg 55 (.faddr 13 (.t 3)) 52 true,xg 56 (.load true 2 (.t 55)) 52 true,xg 57 (.eqagg false [0,0] (.t 54) (.t 56)) 52 true,xo 58 (.pick (.t 52) (.t 57) (.c (V.bool false))),mv 6 58]) (Qe [4] (.reg [mv 59 5,mv 60 59,mg 61 6 60 true,xo 62 (.pick (.t 60) (.t 61) (.c (V.bool false))),mv 63 62,xg 64 (.faddr 8 (.t 2)) 63 true,xg 65 (.load false 1 (.t 64)) 63 true,xg 66 (.faddr 8 (.t 3)) 63 true,xg 67 (.load false 1 (.t 66)) 63 true,xg 68 (.bin .eql (.t 65) (.t 67)) 63 true,xo 69 (.pick (.t 63) (.t 68) (.c (V.bool false))),mv 70 69,xg 71 (.faddr 9 (.t 2)) 70 true,xg 72 (.load false 1 (.t 71)) 70 true,xg 73 (.faddr 9 (.t 3)) 70 true,xg 74 (.load false 1 (.t 73)) 70 true,xg 75 (.bin .eql (.t 72) (.t 74)) 70 true,xo 76 (.pick (.t 70) (.t 75) (.c (V.bool false))),mv 77 76,xg 78 (.faddr 10 (.t 2)) 77 true,xg 79 (.load false 1 (.t 78)) 77 true,xg 80 (.faddr 10 (.t 3)) 77 true,xg 81 (.load false 1 (.t 80)) 77 true,xg 82 (.eqb false (.t 79) (.t 81)) 77 true,xo 83 (.pick (.t 77) (.t 82) (.c (V.bool false))),mv 84 83,xg 85 (.faddr 11 (.t 2)) 84 true,xg 86 (.load false 1 (.t 85)) 84 true,xg 87 (.faddr 11 (.t 3)) 84 true,xg 88 (.load false 1 (.t 87)) 84 true,xg 89 (.bin .eql (.t 86) (.t 88)) 84 true,xo 90 (.pick (.t 84) (.t 89) (.c (V.bool false))),mv 4 90]) (.ret)))) def r_certificate_Same:List YF:=[.tmp 4]
def jx (Γ:Env) (f:Nat):Prop:=∀ (c d:Yg) (hc:c.names.length < 2 ^ 60),EvN Γ f [c.v,d.v] (V.bool (aa9 c d))
attribute [local go_sem] JY in
theorem aeW {Γ:Env} {f Xa:Nat} (h:Has Γ.P f 91 (j9 Xa) r_certificate_Same) (z0:Wa Γ Xa):jx Γ f:=by
 intro c d hc
 refine Qj h zsi zcl zcl fun C hC hm=>?_
 subst hC
 unfold j9
 have hn:=(z0 c.names d.names hc).b
 simp only [Yg.v,Yg.cells]
 refine xJ fun K' hK=>?_
 simp (maxSteps:=1000000) only [go_sem]
 refine hK _ ?_
 clear hK
 clear K'
 (try simp only [go_sem])
 refine UA (ι:=Unit) (fun _=>True) (fun _=>JY [(2,.ptr 0 0),(3,.ptr 1 0),(5,V.bool (cs1 c d))] [(0,.box true c.cells),(1,.box true d.cells)] 2) (fun K' hK'=>?_) (fun _ _=>?_)
 ·refine zgo ?_;repeat' first|exact zt|apply zan|intro hc
  all_goals first|exact hK' _ () (QX [(1,1000)]) trivial (Ys [(1,1000)] (by simp only [go_sem,zwl,Yg.cells];simp [cs1, *]) (by simp only [go_sem,zwl,Yg.cells]<;>exact zcc) (by simp [QX]) (by simp;omega) (by omega))
 refine UA (ι:=Unit) (fun _=>True) (fun _=>JY [(2,.ptr 0 0),(3,.ptr 1 0),(5,V.bool (cs1 c d)),(6,V.bool (cs2 c d))] [(0,.box true c.cells),(1,.box true d.cells)] 2) (fun K' hK'=>?_) (fun _ _=>?_)
 ·simp only [Yg.cells]
  refine zgo ?_;repeat' first|exact zt|apply zan|intro hc
  all_goals first|exact hK' _ () (QX []) trivial (Ys [] (by simp only [go_sem,zwl,Yg.cells];simp [cs2, *]) (by simp only [go_sem,zwl,Yg.cells]<;>exact zcc) (by simp [QX]) (by simp) (by omega))
 simp only [Yg.cells]
 rcases q1:cs1 c d with _|_
 ·rw [show aa9 c d = false by simp [aa9,q1]]
  exact zg
 rcases q2:cs2 c d with _|_
 ·rw [show aa9 c d = false by simp [aa9,q2]]
  exact zg
 rw [show aa9 c d = cs3 c d by simp [aa9,q1,q2]]
 refine zgo ?_;repeat' first|exact zt|apply zan|intro hc
 all_goals first|(refine QA _ rfl ?_;simp only [go_sem];simp [cs3, *];done)
def adx (KS:Nat):AC:=Qe [2,3] (.reg [xo 2 (.box true 15 (.t 0)),xo 3 (.box true 15 (.t 1)),mc 4 (V.bool false)]) (Qe [4] (.reg [fa 5 0 2,ld 6 1 5,fa 7 0 3,ld 8 1 7,bn 9 .eql 6 8,mv 10 9,xg 11 (.faddr 1 (.t 2)) 10 true,xg 12 (.load false 1 (.t 11)) 10 true,xg 13 (.faddr 1 (.t 3)) 10 true,xg 14 (.load false 1 (.t 13)) 10 true,xg 15 (.bin .eql (.t 12) (.t 14)) 10 true,xo 16 (.pick (.t 10) (.t 15) (.c (V.bool false))),mv 17 16,xg 18 (.faddr 2 (.t 2)) 17 true,xg 19 (.load false 1 (.t 18)) 17 true,xg 20 (.faddr 2 (.t 3)) 17 true,xg 21 (.load false 1 (.t 20)) 17 true,xg 22 (.bin .eql (.t 19) (.t 21)) 17 true,xo 23 (.pick (.t 17) (.t 22) (.c (V.bool false))),mv 24 23,xg 25 (.faddr 3 (.t 2)) 24 true,xg 26 (.load true 2 (.t 25)) 24 true,xg 27 (.faddr 3 (.t 3)) 24 true,xg 28 (.load true 2 (.t 27)) 24 true,xg 29 (.eqagg false [0,0] (.t 26) (.t 28)) 24 true,xo 30 (.pick (.t 24) (.t 29) (.c (V.bool false))),mv 31 30,xg 32 (.faddr 5 (.t 2)) 31 true,xg 33 (.load false 1 (.t 32)) 31 true,xg 34 (.faddr 5 (.t 3)) 31 true,xg 35 (.load false 1 (.t 34)) 31 true,xg 36 (.bin .eql (.t 33) (.t 35)) 31 true,xo 37 (.pick (.t 31) (.t 36) (.c (V.bool false))),mv 38 37,xg 39 (.faddr 6 (.t 2)) 38 true,xg 40 (.load true 2 (.t 39)) 38 true,xg 41 (.faddr 6 (.t 3)) 38 true,xg 42 (.load true 2 (.t 41)) 38 true,xg 43 (.eqagg false [0,0] (.t 40) (.t 42)) 38 true,xo 44 (.pick (.t 38) (.t 43) (.c (V.bool false))),mv 45 44,xg 46 (.faddr 8 (.t 2)) 45 true,xg 47 (.load false 1 (.t 46)) 45 true,xg 48 (.faddr 8 (.t 3)) 45 true,xg 49 (.load false 1 (.t 48)) 45 true,xg 50 (.bin .eql (.t 47) (.t 49)) 45 true,xo 51 (.pick (.t 45) (.t 50) (.c (V.bool false))),mv 52 51,xg 53 (.faddr 9 (.t 2)) 52 true,xg 54 (.load false 1 (.t 53)) 52 true,xg 55 (.faddr 9 (.t 3)) 52 true,xg 56 (.load false 1 (.t 55)) 52 true,xg 57 (.bin .eql (.t 54) (.t 56)) 52 true,xo 58 (.pick (.t 52) (.t 57) (.c (V.bool false))),mv 59 58,xg 60 (.faddr 10 (.t 2)) 59 true,xg 61 (.load false 1 (.t 60)) 59 true,xg 62 (.faddr 10 (.t 3)) 59 true,xg 63 (.load false 1 (.t 62)) 59 true,xg 64 (.eqb false (.t 61) (.t 63)) 59 true,xo 65 (.pick (.t 59) (.t 64) (.c (V.bool false))),mv 66 65,xg 67 (.faddr 11 (.t 2)) 66 true,xg 68 (.load false 1 (.t 67)) 66 true,xg 69 (.faddr 11 (.t 3)) 66 true,xg 70 (.load false 1 (.t 69)) 66 true,xg 71 (.bin .eql (.t 68) (.t 70)) 66 true,xo 72 (.pick (.t 66) (.t 71) (.c (V.bool false))),mv 73 72,xg 74 (.faddr 12 (.t 2)) 73 true,xg 75 (.load false 1 (.t 74)) 73 true,xg 76 (.faddr 12 (.t 3)) 73 true,xg 77 (.load false 1 (.t 76)) 73 true,xg 78 (.call KS [(.t 75),(.t 77)]) 73 true,xo 79 (.pick (.t 73) (.t 78) (.c (V.bool false))),mv 80 79,xg 81 (.faddr 13 (.t 2)) 80 true,xg 82 (.load true 2 (.t 81)) 80 true,xg 83 (.faddr 13 (.t 3)) 80 true,xg 84 (.load true 2 (.t 83)) 80 true,xg 85 (.eqagg false [0,0] (.t 82) (.t 84)) 80 true,xo 86 (.pick (.t 80) (.t 85) (.c (V.bool false))),mv 4 86]) (.ret)) def r_ref03_Same:List YF:=[.tmp 4]
def acO (Γ:Env) (f:Nat):Prop:=∀ (c d:Yg) (hc:c.names.length < 2 ^ 60),EvN Γ f [c.v,d.v] (V.bool (aa9 c d))
theorem aks {Γ:Env} {f KS:Nat} (h:Has Γ.P f 87 (adx KS) r_ref03_Same) (z0:yq Γ KS):acO Γ f:=by
 intro c d hc
 refine Qj h zsi zcl zcl fun C hC hm=>?_
 subst hC
 unfold adx
 have hn:=(z0 c.names d.names hc).b
 simp only [Yg.v,Yg.cells]
 refine zgo ?_;repeat' first|exact zt|apply zan|intro hc
 all_goals first|(refine QA _ rfl ?_;simp only [go_sem];simp [aa9,cs1,cs2,cs3, *];done)
end Av
end
section
set_option linter.unusedSimpArgs false
set_option linter.unusedVariables false
set_option maxRecDepth 10000
set_option maxHeartbeats 4000000
namespace Av
open Go
attribute [local irreducible] AWp VV UQ Ko awS awC jF awQ yc Jb XH jD awR XT awB okR Wy ris
theorem amQ:∀ (a b:List Int),eqL eqI a b = (a == b)
 | [],[]=>rfl
 | [],_ :: _=>rfl
 | _ :: _,[]=>rfl
 | x :: a,y :: b=>by rw [eqL,amQ a b];rfl
def se1 (a b:JQ):Bool:=(a.suites == b.suites) && ((a.anchors == b.anchors) && (a.hashes == b.hashes))
def se2 (a b:JQ):Bool:=(a.name == b.name) && ((a.least == b.least) && ((a.most == b.most) && ((a.own == b.own) && (a.fall == b.fall))))
def apD (a b:JQ):Bool:=se2 a b && (se1 a b && eqL aa8 a.idents b.idents)
def QY:AC:=Qe [0,1,2] (.reg [mc 6 (V.bool false)]) (Qe [0,1,2] (Qe [0,1,2,14] (.reg [mv 10 0,ln 11 10,mv 12 1,ln 13 12,bn 14 .neq 11 13]) (.cond (.t 14) (Qe [6] (.reg [mc 6 (V.bool false)]) (.ret)) (.skip))) (Qe [] (Qe [1,2,15,16,17] (.reg [mv 15 0,ln 16 15,mc 17 (V.int 0)]) (.block 0 (Xw [1,2,15,16,17] (Qe [1,2,15,16,17,18] (.reg [bn 18 .lss 17 16]) (Qe [1,2,15,16,17] (.cond (.t 18) (.skip) (.exit 0)) (Qe [1,2,15,16,17] (.block 1 (Qe [1,2,7,8,15,16,17] (.reg [mv 19 17,ia 20 15 15 17,xo 21 (.load true 15 (.t 20)),xo 8 (.alloc [.val (.int .i64 0),.val (.string ⟨#[]⟩),.val (.string ⟨#[]⟩),.val (.int .i64 0),.val (.int .i64 0),.val (.int .i64 0),.val (.int .i64 0),.val (.int .i64 0),.val (.int .i64 0),.val (.int .i64 0),.val (.bool false),.val (.int .i64 0),.nil 1,.val (.int .i64 0),.val (.int .i64 0)]),mv 7 19,xs 15 8 21]) (Qe [1,2,8,9,15,16,17] (.reg [mv 22 1,mv 23 7,ia 24 15 22 23,xo 25 (.load true 15 (.t 24)),xo 9 (.alloc [.val (.int .i64 0),.val (.string ⟨#[]⟩),.val (.string ⟨#[]⟩),.val (.int .i64 0),.val (.int .i64 0),.val (.int .i64 0),.val (.int .i64 0),.val (.int .i64 0),.val (.int .i64 0),.val (.int .i64 0),.val (.bool false),.val (.int .i64 0),.nil 1,.val (.int .i64 0),.val (.int .i64 0)]),xs 15 9 25]) (Qe [1,2,15,16,17,30] (.reg [mv 26 2,xo 27 (.load true 15 (.t 8)),xo 28 (.load true 15 (.t 9)),xo 29 (.callv (.t 26) [(.t 27),(.t 28)]),xo 30 (.un .not (.t 29))]) (.cond (.t 30) (Qe [6] (.reg [mc 6 (V.bool false)]) (.ret)) (.skip)))))) (.reg [bc 31 .add 17 (V.int 1),mv 17 31]))))))) (Qe [6] (.reg [mc 6 (V.bool true)]) (.ret)))) def r_slices_EqualFunc___api_Certificate___api_Certificate_api_Certificate_api_Certificate:List YF:=[.tmp 6]
def QW (Γ:Env) (f:Nat):Prop:=∀ (g:Nat) (a b:List Yg) (ha:a.length < 2 ^ 60) (hg:∀ x∈a,∀ y∈b,EvN Γ g [Yg.v x,Yg.v y] (V.bool (aa9 x y))),EvN Γ f [.sl 15 (a.map Yg.v),.sl 15 (b.map Yg.v),.clo g []] (V.bool (eqL aa9 a b))
attribute [local go_sem] Yg.cells Yg.v in
theorem Yt {Γ:Env} {f:Nat} (h:Has Γ.P f 32 QY r_slices_EqualFunc___api_Certificate___api_Certificate_api_Certificate_api_Certificate) :QW Γ f:=by
 intro g a b ha hg
 refine Qj h zsi zcl zcl fun C hC hm=>?_
 subst hC
 unfold QY
 have lma:(a.map Yg.v).length = a.length:=List.length_map _
 have lmb:(b.map Yg.v).length = b.length:=List.length_map _
 by_cases hlen:a.length = b.length
 ·have e0:(((a.length:Nat):Int) != ((b.length:Nat):Int)) = false:=by simp [hlen]
  (have zx:=And.intro lma (And.intro lmb e0));refine zgo ?_;repeat' first|exact zt|apply zan|intro hc
  refine JM (ι:=Nat) (fun k=>k≤a.length∧eqL aa9 (a.drop k) (b.drop k) = eqL aa9 a b) (fun k=>[(17,V.int k)]) (fun k=>a.length - k) 0 (by omega) ⟨Nat.zero_le _,rfl⟩ (by repeat' first|exact Yb|refine YR (by omega) (by simp only [Ob.lt,ltL,V.lt,and_self,and_true];try omega) ?_) (fun i hi=>by simp only [ovT,Q9,Nat.reduceEqDiff,reduceIte];(repeat' first|exact YQ|refine Ya ?_ ?_|simp only [V.lt,ltL,and_self,and_true]|omega)) (by simp only [Nat.reduceAdd,ovT,Q9,Nat.reduceEqDiff,reduceIte,Qt,Q0,Uh,u32,u33,u34,u35,u36,u37,u38,u39,and_self,and_true,true_and];first|done|rfl) fun k hk K' hL=>?_
  obtain ⟨hk,hinv⟩:=hk
  simp only [ovT,Q9,Nat.reduceEqDiff,reduceIte]
  rcases hd:a.drop k with _|⟨y,r⟩
  ·have:=Ja hd
   have hd2:b.drop k = []:=List.drop_eq_nil_of_le (by omega)
   rw [hd,hd2] at hinv
   have e1:decide ((k:Int) < ((a.length:Nat):Int)) = false:=by simp;omega
   rw [← hinv,show eqL aa9 [] [] = true from rfl]
   (have zx:=And.intro e1 lma);exact zg
  ·obtain ⟨hk',hget,hr⟩:=QK hd
   have e1:decide ((k:Int) < ((a.length:Nat):Int)) = true:=by simp;omega
   rcases hd2:b.drop k with _|⟨z,r2⟩
   ·have:=Ja hd2;omega
   ·obtain ⟨hk2,hget2,hr2⟩:=QK hd2
    rw [hd,hd2,eqL] at hinv
    have hw:=QP (k:=k) (by omega)
    have hmy:=List.mem_of_getElem? hget
    have hmz:=List.mem_of_getElem? hget2
    have hgy:=(hg y hmy z hmz).b
    simp only [Yg.v,Yg.cells] at hgy
    rcases hyz:aa9 y z with _|_
    ·rw [hyz,Bool.false_and] at hinv
     rw [← hinv]
     rw [hyz] at hgy
     (have zx:=And.intro e1 (And.intro lma (And.intro hget (And.intro hget2 hw))));exact zg
    ·rw [hyz,Bool.true_and] at hinv
     rw [hyz] at hgy
     (have zx:=And.intro e1 (And.intro lma (And.intro hget (And.intro hget2 hw))));refine zgo ?_;repeat' first|exact zt|apply zan|intro hc
     all_goals first|exact hL _ (k + 1) (by simp only [Nat.reduceAdd,ovT,Q9,Nat.reduceEqDiff,reduceIte,Qt,Q0,Uh,u32,u33,u34,u35,u36,u37,u38,u39,and_self,and_true,true_and];first|done|rfl) ⟨by omega,by rw [hr,hr2];exact hinv⟩ (by omega) (fun a ha=>by simp only [u32,u33,u34,u35,u36,u37,u38,u39];repeat rw [if_neg (by omega)])
 ·have e0:(((a.length:Nat):Int) != ((b.length:Nat):Int)) = true:=by simp;omega
  rw [acv a b hlen]
  (have zx:=And.intro lma (And.intro lmb e0));exact zg
def je (Xe:Nat):List AO:=[mv 17 0,mv 18 5,ia 19 15 17 18,xo 20 (.load true 15 (.t 19)),mv 21 1,mv 22 5,ia 23 15 21 22,xo 24 (.load true 15 (.t 23)),cl 25 Xe [20,24],xo 26 (.un .not (.t 25))]
def jo:List (List Nat):=[[],[],[0,1],[2],[],[],[4,5],[6],[3,7],[8]]
def jb:OT:=.one 0 (.one 1 (.one 2 (.one 3 (.one 4 (.one 5 (.one 6 (.one 7 (.one 8 (.one 9 (.done))))))))))
@[go_sem] def Xs (Xe:Nat):OP:=.one 0 false [] (mv 17 0) (.one 1 false [] (mv 18 5) (.one 2 false [] (ia 19 15 17 18) (.one 3 false [] (xo 20 (.load true 15 (.t 19))) (.one 4 false [] (mv 21 1) (.one 5 false [] (mv 22 5) (.one 6 false [] (ia 23 15 21 22) (.one 7 false [] (xo 24 (.load true 15 (.t 23))) (.one 8 false [] (cl 25 Xe [20,24]) (.one 9 false [8] (xo 26 (.un .not (.t 25))) (.done))))))))))
theorem WZ (Xe:Nat):okR (je Xe) jo [] jb = true:=by kernel_rfl
theorem WU (Xe:Nat):Wy (ris (je Xe) jo []) jb = Xs Xe:=by kernel_rfl def c_ref03_SameChain (Xe:Nat):AC:=Qe [0,1] (.reg [mc 4 (V.bool false)]) (Qe [0,1] (Qe [0,1,10] (.reg [mv 6 0,ln 7 6,mv 8 1,ln 9 8,bn 10 .neq 7 9]) (.cond (.t 10) (Qe [4] (.reg [mc 4 (V.bool false)]) (.ret)) (.skip))) (Qe [] (Qe [0,1,5] (.reg [mc 5 (V.int 0)]) (.block 0 (Xw [0,1,5] (Qe [0,1,5] (Qe [0,1,5,14] (.reg [mv 11 5,mv 12 0,ln 13 12,bn 14 .lss 11 13]) (.cond (.t 14) (.skip) (.exit 0))) (Qe [0,1,5] (.block 1 (Qe [0,1,5,26] (ace [] jb (Xs Xe) (je Xe) jo) (.cond (.t 26) (Qe [4] (.reg [mc 4 (V.bool false)]) (.ret)) (.skip)))) (.reg [mv 15 5,bc 16 .add 15 (V.int 1),mv 5 16])))))) (Qe [4] (.reg [mc 4 (V.bool true)]) (.ret)))) def r_ref03_SameChain:List YF:=[.tmp 4]
def yp (Γ:Env) (f:Nat):Prop:=∀ (a b:List Yg) (ha:a.length < 2 ^ 60) (hn:∀ x∈a,x.names.length < 2 ^ 60),EvN Γ f [.sl 15 (a.map Yg.v),.sl 15 (b.map Yg.v)] (V.bool (eqL aa9 a b))
theorem afE {Γ:Env} {f Xe:Nat} (h:Has Γ.P f 27 (c_ref03_SameChain Xe) r_ref03_SameChain) (z0:acO Γ Xe):yp Γ f:=by
 intro a b ha hn
 refine Qj h zsi zcl zcl fun C hC hm=>?_
 subst hC
 unfold c_ref03_SameChain
 have lma:(a.map Yg.v).length = a.length:=List.length_map _
 have lmb:(b.map Yg.v).length = b.length:=List.length_map _
 by_cases hlen:a.length = b.length
 ·have e0:(((a.length:Nat):Int) != ((b.length:Nat):Int)) = false:=by simp [hlen]
  repeat' (first|(refine zsk ?_;intro K' hK)|(refine zrt 10 (WZ _) (WU _) ?_;intro K' hK)|refine zsp ?_|(refine zsc ?_ ?_<;>intro hc<;>first|exact znh|try simp only [znz] at hc)|simp (maxSteps:=1000000) only [go_sem,lma,lmb,e0,Xs]|(refine hK _ ?_;clear hK K')|apply zan|((first|apply Ql|apply Qi);(focus first|exact (z0 _ _ zsd).b))|exact zsq|fail)
  refine JM (ι:=Nat) (fun k=>k≤a.length∧eqL aa9 (a.drop k) (b.drop k) = eqL aa9 a b) (fun k=>[(5,V.int k)]) (fun k=>a.length - k) 0 (by omega) ⟨Nat.zero_le _,rfl⟩ (by repeat' first|exact Yb|refine YR (by omega) (by simp only [Ob.lt,ltL,V.lt,and_self,and_true];try omega) ?_) (fun i hi=>by simp only [ovT,Q9,Nat.reduceEqDiff,reduceIte];(repeat' first|exact YQ|refine Ya ?_ ?_|simp only [V.lt,ltL,and_self,and_true]|omega)) (by simp only [Nat.reduceAdd,ovT,Q9,Nat.reduceEqDiff,reduceIte,Qt,Q0,Uh,u32,u33,u34,u35,u36,u37,u38,u39,and_self,and_true,true_and];first|done|rfl) fun k hk K' hL=>?_
  obtain ⟨hk,hinv⟩:=hk
  simp only [ovT,Q9,Nat.reduceEqDiff,reduceIte]
  rcases hd:a.drop k with _|⟨y,r⟩
  ·have:=Ja hd
   have hd2:b.drop k = []:=List.drop_eq_nil_of_le (by omega)
   rw [hd,hd2] at hinv
   have e1:decide ((k:Int) < ((a.length:Nat):Int)) = false:=by simp;omega
   rw [← hinv,show eqL aa9 [] [] = true from rfl]
   repeat' (first|(refine zsk ?_;intro K' hK)|(refine zrt 10 (WZ _) (WU _) ?_;intro K' hK)|refine zsp ?_|(refine zsc ?_ ?_<;>intro hc<;>first|exact znh|try simp only [znz] at hc)|simp (maxSteps:=1000000) only [go_sem,e1,lma,Xs]|(refine hK _ ?_;clear hK K')|apply zan|((first|apply Ql|apply Qi);(focus first|exact (z0 _ _ zsd).b))|exact zsq|fail)
   all_goals first|exact zr
  ·obtain ⟨hk',hget,hr⟩:=QK hd
   have e1:decide ((k:Int) < ((a.length:Nat):Int)) = true:=by simp;omega
   rcases hd2:b.drop k with _|⟨z,r2⟩
   ·have:=Ja hd2;omega
   ·obtain ⟨hk2,hget2,hr2⟩:=QK hd2
    rw [hd,hd2,eqL] at hinv
    have hw:=QP (k:=k) (by omega)
    have hmy:=List.mem_of_getElem? hget
    have hmz:=List.mem_of_getElem? hget2
    have hgy:=(z0 y z (hn y hmy)).b
    simp only [Yg.v,Yg.cells] at hgy
    rcases hyz:aa9 y z with _|_
    ·rw [hyz,Bool.false_and] at hinv
     rw [← hinv]
     rw [hyz] at hgy
     repeat' (first|(refine zsk ?_;intro K' hK)|(refine zrt 10 (WZ _) (WU _) ?_;intro K' hK)|refine zsp ?_|(refine zsc ?_ ?_<;>intro hc<;>first|exact znh|try simp only [znz] at hc)|simp (maxSteps:=1000000) only [go_sem,e1,lma,Int.toNat_natCast,List.getElem?_map,hget,hget2,hw,Yg.v,Yg.cells,Xs]|(refine hK _ ?_;clear hK K')|apply zan|((first|apply Ql|apply Qi);(focus first|exact hgy|exact (z0 _ _ zsd).b))|exact zsq|fail)
     all_goals first|exact zr
    ·rw [hyz,Bool.true_and] at hinv
     rw [hyz] at hgy
     repeat' (first|(refine zsk ?_;intro K' hK)|(refine zrt 10 (WZ _) (WU _) ?_;intro K' hK)|refine zsp ?_|(refine zsc ?_ ?_<;>intro hc<;>first|exact znh|try simp only [znz] at hc)|simp (maxSteps:=1000000) only [go_sem,e1,lma,Int.toNat_natCast,List.getElem?_map,hget,hget2,hw,Yg.v,Yg.cells,Xs]|(refine hK _ ?_;clear hK K')|apply zan|((first|apply Ql|apply Qi);(focus first|exact hgy|exact (z0 _ _ zsd).b))|exact zsq|fail)
     all_goals first|exact hL _ (k + 1) (by simp only [Nat.reduceAdd,ovT,Q9,Nat.reduceEqDiff,reduceIte,Qt,Q0,Uh,u32,u33,u34,u35,u36,u37,u38,u39,and_self,and_true,true_and];first|done|rfl) ⟨by omega,by rw [hr,hr2];exact hinv⟩ (by omega) (fun a ha=>by simp only [u32,u33,u34,u35,u36,u37,u38,u39];repeat rw [if_neg (by omega)])
 ·have e0:(((a.length:Nat):Int) != ((b.length:Nat):Int)) = true:=by simp;omega
  rw [acv a b hlen]
  repeat' (first|(refine zsk ?_;intro K' hK)|(refine zrt 10 (WZ _) (WU _) ?_;intro K' hK)|refine zsp ?_|(refine zsc ?_ ?_<;>intro hc<;>first|exact znh|try simp only [znz] at hc)|simp (maxSteps:=1000000) only [go_sem,lma,lmb,e0,Xs]|(refine hK _ ?_;clear hK K')|apply zan|((first|apply Ql|apply Qi);(focus first|exact (z0 _ _ zsd).b))|exact zsq|fail)
  all_goals first|exact zr
def xh (Qr Vu:Nat):AC:=Qe [2,3] (.reg [xo 2 (.box true 4 (.t 0)),xo 3 (.box true 4 (.t 1)),mc 4 (V.bool false)]) (Qe [4] (.reg [fa 5 0 2,xo 6 (.load true 2 (.t 5)),fa 7 0 3,xo 8 (.load true 2 (.t 7)),xo 9 (.eqagg false [0,0] (.t 6) (.t 8)),mv 10 9,xg 11 (.faddr 2 (.t 2)) 10 true,xg 12 (.load false 1 (.t 11)) 10 true,xg 13 (.faddr 2 (.t 3)) 10 true,xg 14 (.load false 1 (.t 13)) 10 true,xg 15 (.bin .eql (.t 12) (.t 14)) 10 true,xo 16 (.pick (.t 10) (.t 15) (.c (V.bool false))),mv 17 16,xg 18 (.faddr 3 (.t 2)) 17 true,xg 19 (.load false 1 (.t 18)) 17 true,xg 20 (.faddr 3 (.t 3)) 17 true,xg 21 (.load false 1 (.t 20)) 17 true,xg 22 (.call Qr [(.t 19),(.t 21),(.c (.clo Vu []))]) 17 true,xo 23 (.pick (.t 17) (.t 22) (.c (V.bool false))),mv 4 23]) (.ret)) def r_endpoint_Same_1:List YF:=[.tmp 4]
def yx (Γ:Env) (f:Nat):Prop:=∀ (x y:Yo) (hl:x.chain.length < 2 ^ 60) (hn:∀ c∈x.chain,c.names.length < 2 ^ 60),EvN Γ f [x.v,y.v] (V.bool (aa8 x y))
theorem afK {Γ:Env} {f Qr Vu:Nat} (h:Has Γ.P f 24 (xh Qr Vu) r_endpoint_Same_1) (z0:QW Γ Qr) (z1:jx Γ Vu):yx Γ f:=by
 intro x y hl hn
 refine Qj h zsi zcl zcl fun C hC hm=>?_
 subst hC
 unfold xh
 have hq:=(z0 Vu x.chain y.chain hl (fun c hc d _=>z1 c d (hn c hc))).b
 simp only [Yo.v,Yo.cells]
 refine zgo ?_;repeat' first|exact zt|apply zan|intro hc
 all_goals first|(refine QA _ rfl ?_;simp only [go_sem];simp [aa8, *];done)
def Jk:AC:=Qe [0,1,2] (.reg [mc 6 (V.bool false)]) (Qe [0,1,2] (Qe [0,1,2,14] (.reg [mv 10 0,ln 11 10,mv 12 1,ln 13 12,bn 14 .neq 11 13]) (.cond (.t 14) (Qe [6] (.reg [mc 6 (V.bool false)]) (.ret)) (.skip))) (Qe [] (Qe [1,2,15,16,17] (.reg [mv 15 0,ln 16 15,mc 17 (V.int 0)]) (.block 0 (Xw [1,2,15,16,17] (Qe [1,2,15,16,17,18] (.reg [bn 18 .lss 17 16]) (Qe [1,2,15,16,17] (.cond (.t 18) (.skip) (.exit 0)) (Qe [1,2,15,16,17] (.block 1 (Qe [1,2,7,8,15,16,17] (.reg [mv 19 17,ia 20 4 15 17,xo 21 (.load true 4 (.t 20)),xo 8 (.alloc [.val (.int .i64 0),.val (.int .i64 0),.val (.int .i64 0),.nil 15]),mv 7 19,xs 4 8 21]) (Qe [1,2,8,9,15,16,17] (.reg [mv 22 1,mv 23 7,ia 24 4 22 23,xo 25 (.load true 4 (.t 24)),xo 9 (.alloc [.val (.int .i64 0),.val (.int .i64 0),.val (.int .i64 0),.nil 15]),xs 4 9 25]) (Qe [1,2,15,16,17,30] (.reg [mv 26 2,xo 27 (.load true 4 (.t 8)),xo 28 (.load true 4 (.t 9)),xo 29 (.callv (.t 26) [(.t 27),(.t 28)]),xo 30 (.un .not (.t 29))]) (.cond (.t 30) (Qe [6] (.reg [mc 6 (V.bool false)]) (.ret)) (.skip)))))) (.reg [bc 31 .add 17 (V.int 1),mv 17 31]))))))) (Qe [6] (.reg [mc 6 (V.bool true)]) (.ret)))) def r_slices_EqualFunc___api_Identity___api_Identity_api_Identity_api_Identity:List YF:=[.tmp 6]
def Jj (Γ:Env) (f:Nat):Prop:=∀ (g:Nat) (a b:List Yo) (ha:a.length < 2 ^ 60) (hg:∀ x∈a,∀ y∈b,EvN Γ g [Yo.v x,Yo.v y] (V.bool (aa8 x y))),EvN Γ f [.sl 4 (a.map Yo.v),.sl 4 (b.map Yo.v),.clo g []] (V.bool (eqL aa8 a b))
attribute [local go_sem] Yo.cells Yo.v in
theorem YS {Γ:Env} {f:Nat} (h:Has Γ.P f 32 Jk r_slices_EqualFunc___api_Identity___api_Identity_api_Identity_api_Identity) :Jj Γ f:=by
 intro g a b ha hg
 refine Qj h zsi zcl zcl fun C hC hm=>?_
 subst hC
 unfold Jk
 have lma:(a.map Yo.v).length = a.length:=List.length_map _
 have lmb:(b.map Yo.v).length = b.length:=List.length_map _
 by_cases hlen:a.length = b.length
 ·have e0:(((a.length:Nat):Int) != ((b.length:Nat):Int)) = false:=by simp [hlen]
  (have zx:=And.intro lma (And.intro lmb e0));refine zgo ?_;repeat' first|exact zt|apply zan|intro hc
  refine JM (ι:=Nat) (fun k=>k≤a.length∧eqL aa8 (a.drop k) (b.drop k) = eqL aa8 a b) (fun k=>[(17,V.int k)]) (fun k=>a.length - k) 0 (by omega) ⟨Nat.zero_le _,rfl⟩ (by repeat' first|exact Yb|refine YR (by omega) (by simp only [Ob.lt,ltL,V.lt,and_self,and_true];try omega) ?_) (fun i hi=>by simp only [ovT,Q9,Nat.reduceEqDiff,reduceIte];(repeat' first|exact YQ|refine Ya ?_ ?_|simp only [V.lt,ltL,and_self,and_true]|omega)) (by simp only [Nat.reduceAdd,ovT,Q9,Nat.reduceEqDiff,reduceIte,Qt,Q0,Uh,u32,u33,u34,u35,u36,u37,u38,u39,and_self,and_true,true_and];first|done|rfl) fun k hk K' hL=>?_
  obtain ⟨hk,hinv⟩:=hk
  simp only [ovT,Q9,Nat.reduceEqDiff,reduceIte]
  rcases hd:a.drop k with _|⟨y,r⟩
  ·have:=Ja hd
   have hd2:b.drop k = []:=List.drop_eq_nil_of_le (by omega)
   rw [hd,hd2] at hinv
   have e1:decide ((k:Int) < ((a.length:Nat):Int)) = false:=by simp;omega
   rw [← hinv,show eqL aa8 [] [] = true from rfl]
   (have zx:=And.intro e1 lma);exact zg
  ·obtain ⟨hk',hget,hr⟩:=QK hd
   have e1:decide ((k:Int) < ((a.length:Nat):Int)) = true:=by simp;omega
   rcases hd2:b.drop k with _|⟨z,r2⟩
   ·have:=Ja hd2;omega
   ·obtain ⟨hk2,hget2,hr2⟩:=QK hd2
    rw [hd,hd2,eqL] at hinv
    have hw:=QP (k:=k) (by omega)
    have hmy:=List.mem_of_getElem? hget
    have hmz:=List.mem_of_getElem? hget2
    have hgy:=(hg y hmy z hmz).b
    simp only [Yo.v,Yo.cells] at hgy
    rcases hyz:aa8 y z with _|_
    ·rw [hyz,Bool.false_and] at hinv
     rw [← hinv]
     rw [hyz] at hgy
     (have zx:=And.intro e1 (And.intro lma (And.intro hget (And.intro hget2 hw))));exact zg
    ·rw [hyz,Bool.true_and] at hinv
     rw [hyz] at hgy
     (have zx:=And.intro e1 (And.intro lma (And.intro hget (And.intro hget2 hw))));refine zgo ?_;repeat' first|exact zt|apply zan|intro hc
     all_goals first|exact hL _ (k + 1) (by simp only [Nat.reduceAdd,ovT,Q9,Nat.reduceEqDiff,reduceIte,Qt,Q0,Uh,u32,u33,u34,u35,u36,u37,u38,u39,and_self,and_true,true_and];first|done|rfl) ⟨by omega,by rw [hr,hr2];exact hinv⟩ (by omega) (fun a ha=>by simp only [u32,u33,u34,u35,u36,u37,u38,u39];repeat rw [if_neg (by omega)])
 ·have e0:(((a.length:Nat):Int) != ((b.length:Nat):Int)) = true:=by simp;omega
  rw [acv a b hlen]
  (have zx:=And.intro lma (And.intro lmb e0));exact zg
def V3 (JP:Nat):List AO:=[mv 17 0,mv 18 5,ia 19 4 17 18,fa 20 0 19,xo 21 (.load true 2 (.t 20)),mv 22 1,mv 23 5,ia 24 4 22 23,fa 25 0 24,xo 26 (.load true 2 (.t 25)),xo 27 (.eqagg true [0,0] (.t 21) (.t 26)),mv 28 27,mg 29 0 28 false,mg 30 5 28 false,xg 31 (.iaddr 4 (.t 29) (.t 30)) 28 false,xg 32 (.faddr 2 (.t 31)) 28 false,xg 33 (.load false 1 (.t 32)) 28 false,mg 34 1 28 false,mg 35 5 28 false,xg 36 (.iaddr 4 (.t 34) (.t 35)) 28 false,xg 37 (.faddr 2 (.t 36)) 28 false,xg 38 (.load false 1 (.t 37)) 28 false,xg 39 (.bin .neq (.t 33) (.t 38)) 28 false,xo 40 (.pick (.t 28) (.c (V.bool true)) (.t 39)),mv 41 40,mg 42 0 41 false,mg 43 5 41 false,xg 44 (.iaddr 4 (.t 42) (.t 43)) 41 false,xg 45 (.faddr 3 (.t 44)) 41 false,xg 46 (.load false 1 (.t 45)) 41 false,mg 47 1 41 false,mg 48 5 41 false,xg 49 (.iaddr 4 (.t 47) (.t 48)) 41 false,xg 50 (.faddr 3 (.t 49)) 41 false,xg 51 (.load false 1 (.t 50)) 41 false,xg 52 (.call JP [(.t 46),(.t 51)]) 41 false,xg 53 (.un .not (.t 52)) 41 false,xo 54 (.pick (.t 41) (.c (V.bool true)) (.t 53))]
def Ub:List (List Nat):=[[],[],[0,1],[2],[3],[],[],[5,6],[7],[8],[4,9],[10],[11],[11],[12,13,11],[14,11],[15,11],[11],[11],[17,18,11],[19,11],[20,11],[16,21,11],[11,22],[23,11],[24],[24],[25,26,24],[27,24],[28,24],[24],[24],[30,31,24],[32,24],[33,24],[29,34,24,24],[35,24],[24,36]]
def V1:OT:=.one 0 (.one 1 (.one 2 (.one 3 (.one 4 (.one 5 (.one 6 (.one 7 (.one 8 (.one 9 (.one 10 (.one 11 (.one 12 (.one 13 (.one 14 (.one 15 (.one 16 (.one 17 (.one 18 (.one 19 (.one 20 (.one 21 (.one 22 (.one 23 (.one 24 (.one 25 (.one 26 (.one 27 (.one 28 (.one 29 (.one 30 (.one 31 (.one 32 (.one 33 (.one 34 (.or 35 (.one 36 (.one 37 (.done))) (.done))))))))))))))))))))))))))))))))))))
@[go_sem] def YM (JP:Nat):OP:=.one 0 false [] (mv 17 0) (.one 1 false [] (mv 18 5) (.one 2 false [] (ia 19 4 17 18) (.one 3 false [] (fa 20 0 19) (.one 4 false [] (xo 21 (.load true 2 (.t 20))) (.one 5 false [] (mv 22 1) (.one 6 false [] (mv 23 5) (.one 7 false [] (ia 24 4 22 23) (.one 8 false [] (fa 25 0 24) (.one 9 false [] (xo 26 (.load true 2 (.t 25))) (.one 10 false [] (xo 27 (.eqagg true [0,0] (.t 21) (.t 26))) (.one 11 false [] (mv 28 27) (.one 12 false [] (mg 29 0 28 false) (.one 13 false [] (mg 30 5 28 false) (.one 14 false [] (xg 31 (.iaddr 4 (.t 29) (.t 30)) 28 false) (.one 15 false [] (xg 32 (.faddr 2 (.t 31)) 28 false) (.one 16 false [] (xg 33 (.load false 1 (.t 32)) 28 false) (.one 17 false [] (mg 34 1 28 false) (.one 18 false [] (mg 35 5 28 false) (.one 19 false [] (xg 36 (.iaddr 4 (.t 34) (.t 35)) 28 false) (.one 20 false [] (xg 37 (.faddr 2 (.t 36)) 28 false) (.one 21 false [] (xg 38 (.load false 1 (.t 37)) 28 false) (.one 22 false [] (xg 39 (.bin .neq (.t 33) (.t 38)) 28 false) (.one 23 false [] (xo 40 (.pick (.t 28) (.c (V.bool true)) (.t 39))) (.one 24 false [] (mv 41 40) (.one 25 false [] (mg 42 0 41 false) (.one 26 false [] (mg 43 5 41 false) (.one 27 false [] (xg 44 (.iaddr 4 (.t 42) (.t 43)) 41 false) (.one 28 false [] (xg 45 (.faddr 3 (.t 44)) 41 false) (.one 29 false [] (xg 46 (.load false 1 (.t 45)) 41 false) (.one 30 false [] (mg 47 1 41 false) (.one 31 false [] (mg 48 5 41 false) (.one 32 false [] (xg 49 (.iaddr 4 (.t 47) (.t 48)) 41 false) (.one 33 false [] (xg 50 (.faddr 3 (.t 49)) 41 false) (.one 34 false [] (xg 51 (.load false 1 (.t 50)) 41 false) (.or 35 false [] (xg 52 (.call JP [(.t 46),(.t 51)]) 41 false) (.one 36 false [35] (xg 53 (.un .not (.t 52)) 41 false) (.one 37 false [35] (xo 54 (.pick (.t 41) (.c (V.bool true)) (.t 53))) (.done))) (.done))))))))))))))))))))))))))))))))))))
theorem Wq (JP:Nat):okR (V3 JP) Ub [] V1 = true:=by kernel_rfl
theorem Wp (JP:Nat):Wy (ris (V3 JP) Ub []) V1 = YM JP:=by kernel_rfl def c_ref09_SameIdentities (JP:Nat):AC:=Qe [0,1] (.reg [mc 4 (V.bool false)]) (Qe [0,1] (Qe [0,1,10] (.reg [mv 6 0,ln 7 6,mv 8 1,ln 9 8,bn 10 .neq 7 9]) (.cond (.t 10) (Qe [4] (.reg [mc 4 (V.bool false)]) (.ret)) (.skip))) (Qe [] (Qe [0,1,5] (.reg [mc 5 (V.int 0)]) (.block 0 (Xw [0,1,5] (Qe [0,1,5] (Qe [0,1,5,14] (.reg [mv 11 5,mv 12 0,ln 13 12,bn 14 .lss 11 13]) (.cond (.t 14) (.skip) (.exit 0))) (Qe [0,1,5] (.block 1 (Qe [0,1,5,54] (ace [] V1 (YM JP) (V3 JP) Ub) (.cond (.t 54) (Qe [4] (.reg [mc 4 (V.bool false)]) (.ret)) (.skip)))) (.reg [mv 15 5,bc 16 .add 15 (V.int 1),mv 5 16])))))) (Qe [4] (.reg [mc 4 (V.bool true)]) (.ret)))) def r_ref09_SameIdentities:List YF:=[.tmp 4]
def UE (Γ:Env) (f:Nat):Prop:=∀ (a b:List Yo) (ha:a.length < 2 ^ 60) (hl:∀ x∈a,x.chain.length < 2 ^ 60) (hn:∀ x∈a,∀ c∈x.chain,c.names.length < 2 ^ 60),EvN Γ f [.sl 4 (a.map Yo.v),.sl 4 (b.map Yo.v)] (V.bool (eqL aa8 a b))
theorem acr {Γ:Env} {f JP:Nat} (h:Has Γ.P f 55 (c_ref09_SameIdentities JP) r_ref09_SameIdentities) (z0:yp Γ JP):UE Γ f:=by
 intro a b ha hl hn
 refine Qj h zsi zcl zcl fun C hC hm=>?_
 subst hC
 unfold c_ref09_SameIdentities
 have lma:(a.map Yo.v).length = a.length:=List.length_map _
 have lmb:(b.map Yo.v).length = b.length:=List.length_map _
 by_cases hlen:a.length = b.length
 ·have e0:(((a.length:Nat):Int) != ((b.length:Nat):Int)) = false:=by simp [hlen]
  repeat' (first|(refine zsk ?_;intro K' hK)|(refine zrt 38 (Wq _) (Wp _) ?_;intro K' hK)|refine zsp ?_|(refine zsc ?_ ?_<;>intro hc<;>first|exact znh|try simp only [znz] at hc)|simp (maxSteps:=1000000) only [go_sem,lma,lmb,e0,YM]|(refine hK _ ?_;clear hK K')|apply zan|((first|apply Ql|apply Qi);(focus first|exact (z0 _ _ zsd zsd).b))|exact zsq|fail)
  refine JM (ι:=Nat) (fun k=>k≤a.length∧eqL aa8 (a.drop k) (b.drop k) = eqL aa8 a b) (fun k=>[(5,V.int k)]) (fun k=>a.length - k) 0 (by omega) ⟨Nat.zero_le _,rfl⟩ (by repeat' first|exact Yb|refine YR (by omega) (by simp only [Ob.lt,ltL,V.lt,and_self,and_true];try omega) ?_) (fun i hi=>by simp only [ovT,Q9,Nat.reduceEqDiff,reduceIte];(repeat' first|exact YQ|refine Ya ?_ ?_|simp only [V.lt,ltL,and_self,and_true]|omega)) (by simp only [Nat.reduceAdd,ovT,Q9,Nat.reduceEqDiff,reduceIte,Qt,Q0,Uh,u32,u33,u34,u35,u36,u37,u38,u39,and_self,and_true,true_and];first|done|rfl) fun k hk K' hL=>?_
  obtain ⟨hk,hinv⟩:=hk
  simp only [ovT,Q9,Nat.reduceEqDiff,reduceIte]
  rcases hd:a.drop k with _|⟨y,r⟩
  ·have:=Ja hd
   have hd2:b.drop k = []:=List.drop_eq_nil_of_le (by omega)
   rw [hd,hd2] at hinv
   have e1:decide ((k:Int) < ((a.length:Nat):Int)) = false:=by simp;omega
   rw [← hinv,show eqL aa8 [] [] = true from rfl]
   repeat' (first|(refine zsk ?_;intro K' hK)|(refine zrt 38 (Wq _) (Wp _) ?_;intro K' hK)|refine zsp ?_|(refine zsc ?_ ?_<;>intro hc<;>first|exact znh|try simp only [znz] at hc)|simp (maxSteps:=1000000) only [go_sem,e1,lma,YM]|(refine hK _ ?_;clear hK K')|apply zan|((first|apply Ql|apply Qi);(focus first|exact (z0 _ _ zsd zsd).b))|exact zsq|fail)
   all_goals first|exact zr
  ·obtain ⟨hk',hget,hr⟩:=QK hd
   have e1:decide ((k:Int) < ((a.length:Nat):Int)) = true:=by simp;omega
   rcases hd2:b.drop k with _|⟨z,r2⟩
   ·have:=Ja hd2;omega
   ·obtain ⟨hk2,hget2,hr2⟩:=QK hd2
    rw [hd,hd2,eqL] at hinv
    have hw:=QP (k:=k) (by omega)
    have hmy:=List.mem_of_getElem? hget
    have hmz:=List.mem_of_getElem? hget2
    have hgy:=(z0 y.chain z.chain (hl y hmy) (hn y hmy)).b
    have hfal:aa8 y z = false→eqL aa8 a b = false:=fun h=>by rw [← hinv,h,Bool.false_and]
    have htru:aa8 y z = true→eqL aa8 r r2 = eqL aa8 a b:=fun h=>by rw [← hinv,h,Bool.true_and]
    rcases y1:(y.kalg == z.kalg) with _|_<;>rcases y2:(y.kbits == z.kbits) with _|_<;>rcases y3:(y.kid != z.kid) with _|_
    all_goals
     repeat' (first|(refine zsk ?_;intro K' hK)|(refine zrt 38 (Wq _) (Wp _) ?_;intro K' hK)|refine zsp ?_|(refine zsc ?_ ?_<;>intro hc<;>first|exact znh|try simp only [znz] at hc)|simp (maxSteps:=1000000) only [go_sem,e1,lma,Int.toNat_natCast,List.getElem?_map,hget,hget2,hw,Yo.v,Yo.cells,y1,y2,y3,YM]|(refine hK _ ?_;clear hK K')|apply zan|((first|apply Ql|apply Qi);(focus first|exact hgy|exact (z0 _ _ zsd zsd).b))|exact zsq|fail)
     all_goals (try simp only [bne_eq_false_iff_eq,bne_iff_ne,ne_eq] at *)
     all_goals first|(rw [hfal]<;>first|(simp [aa8, *];done)|exact zr)|exact hL _ (k + 1) (by simp only [Nat.reduceAdd,ovT,Q9,Nat.reduceEqDiff,reduceIte,Qt,Q0,Uh,u32,u33,u34,u35,u36,u37,u38,u39,and_self,and_true,true_and];first|done|rfl) ⟨by omega,by rw [hr,hr2];exact htru (by simp [aa8, *])⟩ (by omega) (fun a ha=>by simp only [u32,u33,u34,u35,u36,u37,u38,u39];repeat rw [if_neg (by omega)])
 ·have e0:(((a.length:Nat):Int) != ((b.length:Nat):Int)) = true:=by simp;omega
  rw [acv a b hlen]
  repeat' (first|(refine zsk ?_;intro K' hK)|(refine zrt 38 (Wq _) (Wp _) ?_;intro K' hK)|refine zsp ?_|(refine zsc ?_ ?_<;>intro hc<;>first|exact znh|try simp only [znz] at hc)|simp (maxSteps:=1000000) only [go_sem,lma,lmb,e0,YM]|(refine hK _ ?_;clear hK K')|apply zan|((first|apply Ql|apply Qi);(focus first|exact (z0 _ _ zsd zsd).b))|exact zsq|fail)
  all_goals first|exact zr
structure JQ.SmE (e:JQ):Prop where
 hs:e.suites.length < 2 ^ 60
 ha:e.anchors.length < 2 ^ 60
 hh:e.hashes.length < 2 ^ 60
 hi:e.idents.length < 2 ^ 60
 hl:∀ x∈e.idents,x.chain.length < 2 ^ 60
 hn:∀ x∈e.idents,∀ c∈x.chain,c.names.length < 2 ^ 60
def vS (V5 YN QM:Nat):AC:=Qe [2,3] (.reg [xo 2 (.box true 9 (.t 0)),xo 3 (.box true 9 (.t 1)),mc 4 (V.bool false)]) (Qe [2,3,5] (.reg [mc 5 (.clo V5 [])]) (Qe [2,3,5,6] (.reg [fa 7 3 2,ld 8 1 7,fa 9 3 3,ld 10 1 9,cl 11 YN [8,10],mv 12 11,xg 13 (.faddr 6 (.t 2)) 12 true,xg 14 (.load false 1 (.t 13)) 12 true,xg 15 (.faddr 6 (.t 3)) 12 true,xg 16 (.load false 1 (.t 15)) 12 true,xg 17 (.call YN [(.t 14),(.t 16)]) 12 true,xo 18 (.pick (.t 12) (.t 17) (.c (V.bool false))),mv 19 18,xg 20 (.faddr 7 (.t 2)) 19 true,xg 21 (.load false 1 (.t 20)) 19 true,xg 22 (.faddr 7 (.t 3)) 19 true,xg 23 (.load false 1 (.t 22)) 19 true,xg 24 (.call YN [(.t 21),(.t 23)]) 19 true,xo 25 (.pick (.t 19) (.t 24) (.c (V.bool false))),mv 6 25]) (Qe [4] (.reg [fa 26 0 2,ld 27 1 26,fa 28 0 3,ld 29 1 28,bn 30 .eql 27 29,mv 31 30,xg 32 (.faddr 1 (.t 2)) 31 true,xg 33 (.load false 1 (.t 32)) 31 true,xg 34 (.faddr 1 (.t 3)) 31 true,xg 35 (.load false 1 (.t 34)) 31 true,xg 36 (.bin .eql (.t 33) (.t 35)) 31 true,xo 37 (.pick (.t 31) (.t 36) (.c (V.bool false))),mv 38 37,xg 39 (.faddr 2 (.t 2)) 38 true,xg 40 (.load false 1 (.t 39)) 38 true,xg 41 (.faddr 2 (.t 3)) 38 true,xg 42 (.load false 1 (.t 41)) 38 true,xg 43 (.bin .eql (.t 40) (.t 42)) 38 true,xo 44 (.pick (.t 38) (.t 43) (.c (V.bool false))),mv 45 44,xg 46 (.faddr 4 (.t 2)) 45 true,xg 47 (.load false 1 (.t 46)) 45 true,xg 48 (.faddr 4 (.t 3)) 45 true,xg 49 (.load false 1 (.t 48)) 45 true,xg 50 (.eqb false (.t 47) (.t 49)) 45 true,xo 51 (.pick (.t 45) (.t 50) (.c (V.bool false))),mv 52 51,xg 53 (.faddr 8 (.t 2)) 52 true,xg 54 (.load false 1 (.t 53)) 52 true,xg 55 (.faddr 8 (.t 3)) 52 true,xg 56 (.load false 1 (.t 55)) 52 true,xg 57 (.eqb false (.t 54) (.t 56)) 52 true,xo 58 (.pick (.t 52) (.t 57) (.c (V.bool false))),mv 59 58,mg 60 6 59 true,xo 61 (.pick (.t 59) (.t 60) (.c (V.bool false))),mv 62 61,xg 63 (.faddr 5 (.t 2)) 62 true,xg 64 (.load false 1 (.t 63)) 62 true,xg 65 (.faddr 5 (.t 3)) 62 true,xg 66 (.load false 1 (.t 65)) 62 true,mg 67 5 62 true,xg 68 (.call QM [(.t 64),(.t 66),(.t 67)]) 62 true,xo 69 (.pick (.t 62) (.t 68) (.c (V.bool false))),mv 4 69]) (.ret)))) def r_endpoint_Same:List YF:=[.tmp 4]
def wM (Γ:Env) (f:Nat):Prop:=∀ (a b:JQ) (sm:a.SmE),EvN Γ f [a.v,b.v] (V.bool (apD a b))
theorem ahu {Γ:Env} {f V5 YN QM:Nat} (h:Has Γ.P f 70 (vS V5 YN QM) r_endpoint_Same) (z0:yx Γ V5) (z1:VS Γ YN) (z2:Jj Γ QM):wM Γ f:=by
 intro a b sm
 refine Qj h zsi zcl zcl fun C hC hm=>?_
 subst hC
 unfold vS
 have q1:=(z1 a.suites b.suites sm.hs).b
 have q2:=(z1 a.anchors b.anchors sm.ha).b
 have q3:=(z1 a.hashes b.hashes sm.hh).b
 have q4:=(z2 V5 a.idents b.idents sm.hi (fun x hx y _=>z0 x y (sm.hl x hx) (sm.hn x hx))).b
 rw [amQ] at q1 q2 q3
 simp only [JQ.v,JQ.cells]
 rcases r1:a.suites == b.suites with _|_<;>rcases r2:a.anchors == b.anchors with _|_<;>rcases r4:eqL aa8 a.idents b.idents with _|_
 all_goals
  rw [r1] at q1
  rw [r2] at q2
  rw [r4] at q4
  refine zgo ?_;repeat' first|exact zt|apply zan|intro hc
  all_goals first|(refine QA _ rfl ?_;simp only [go_sem];simp [apD,se1,se2, *];done)
def adv (Vh W7:Nat):AC:=Qe [2,3] (.reg [xo 2 (.box true 9 (.t 0)),xo 3 (.box true 9 (.t 1)),mc 4 (V.bool false)]) (Qe [4] (.reg [fa 5 0 2,ld 6 1 5,fa 7 0 3,ld 8 1 7,bn 9 .eql 6 8,mv 10 9,xg 11 (.faddr 1 (.t 2)) 10 true,xg 12 (.load false 1 (.t 11)) 10 true,xg 13 (.faddr 1 (.t 3)) 10 true,xg 14 (.load false 1 (.t 13)) 10 true,xg 15 (.bin .eql (.t 12) (.t 14)) 10 true,xo 16 (.pick (.t 10) (.t 15) (.c (V.bool false))),mv 17 16,xg 18 (.faddr 2 (.t 2)) 17 true,xg 19 (.load false 1 (.t 18)) 17 true,xg 20 (.faddr 2 (.t 3)) 17 true,xg 21 (.load false 1 (.t 20)) 17 true,xg 22 (.bin .eql (.t 19) (.t 21)) 17 true,xo 23 (.pick (.t 17) (.t 22) (.c (V.bool false))),mv 24 23,xg 25 (.faddr 3 (.t 2)) 24 true,xg 26 (.load false 1 (.t 25)) 24 true,xg 27 (.faddr 3 (.t 3)) 24 true,xg 28 (.load false 1 (.t 27)) 24 true,xg 29 (.call Vh [(.t 26),(.t 28)]) 24 true,xo 30 (.pick (.t 24) (.t 29) (.c (V.bool false))),mv 31 30,xg 32 (.faddr 4 (.t 2)) 31 true,xg 33 (.load false 1 (.t 32)) 31 true,xg 34 (.faddr 4 (.t 3)) 31 true,xg 35 (.load false 1 (.t 34)) 31 true,xg 36 (.eqb false (.t 33) (.t 35)) 31 true,xo 37 (.pick (.t 31) (.t 36) (.c (V.bool false))),mv 38 37,xg 39 (.faddr 5 (.t 2)) 38 true,xg 40 (.load false 1 (.t 39)) 38 true,xg 41 (.faddr 5 (.t 3)) 38 true,xg 42 (.load false 1 (.t 41)) 38 true,xg 43 (.call W7 [(.t 40),(.t 42)]) 38 true,xo 44 (.pick (.t 38) (.t 43) (.c (V.bool false))),mv 45 44,xg 46 (.faddr 6 (.t 2)) 45 true,xg 47 (.load false 1 (.t 46)) 45 true,xg 48 (.faddr 6 (.t 3)) 45 true,xg 49 (.load false 1 (.t 48)) 45 true,xg 50 (.call Vh [(.t 47),(.t 49)]) 45 true,xo 51 (.pick (.t 45) (.t 50) (.c (V.bool false))),mv 52 51,xg 53 (.faddr 7 (.t 2)) 52 true,xg 54 (.load false 1 (.t 53)) 52 true,xg 55 (.faddr 7 (.t 3)) 52 true,xg 56 (.load false 1 (.t 55)) 52 true,xg 57 (.call Vh [(.t 54),(.t 56)]) 52 true,xo 58 (.pick (.t 52) (.t 57) (.c (V.bool false))),mv 59 58,xg 60 (.faddr 8 (.t 2)) 59 true,xg 61 (.load false 1 (.t 60)) 59 true,xg 62 (.faddr 8 (.t 3)) 59 true,xg 63 (.load false 1 (.t 62)) 59 true,xg 64 (.eqb false (.t 61) (.t 63)) 59 true,xo 65 (.pick (.t 59) (.t 64) (.c (V.bool false))),mv 4 65]) (.ret)) def r_ref09_Same:List YF:=[.tmp 4]
def acL (Γ:Env) (f:Nat):Prop:=∀ (a b:JQ) (sm:a.SmE),EvN Γ f [a.v,b.v] (V.bool (apD a b))
theorem akp {Γ:Env} {f Vh W7:Nat} (h:Has Γ.P f 66 (adv Vh W7) r_ref09_Same) (z0:xv Γ Vh) (z1:UE Γ W7):acL Γ f:=by
 intro a b sm
 refine Qj h zsi zcl zcl fun C hC hm=>?_
 subst hC
 unfold adv
 have q1:=(z0 a.suites b.suites (by have:=sm.hs;omega)).b
 have q2:=(z0 a.anchors b.anchors (by have:=sm.ha;omega)).b
 have q3:=(z0 a.hashes b.hashes (by have:=sm.hh;omega)).b
 have q4:=(z1 a.idents b.idents sm.hi sm.hl sm.hn).b
 simp only [JQ.v,JQ.cells]
 refine zgo ?_;repeat' first|exact zt|apply zan|intro hc
 all_goals first|(refine QA _ rfl ?_;simp only [go_sem];simp [apD,se1,se2, *];done)
end Av
end
section
set_option linter.unusedSimpArgs false
set_option linter.unusedVariables false
set_option maxRecDepth 10000
set_option maxHeartbeats 4000000
namespace Av
open Go
attribute [local irreducible] AWp VV UQ Ko awS awC jF awQ yc Jb XH jD awR XT awB okR Wy ris
def j7 (QV:Nat):AC:=Qe [0] (.reg [mc 2 (V.bool false)]) (Qe [2] (.reg [mv 3 0,cl 4 QV [3],xo 5 (.un .not (.t 4)),mv 2 5]) (.ret)) def r_endpoint_lines_1:List YF:=[.tmp 2]
def ju (Γ:Env) (f:Nat):Prop:=∀ (s:List UInt8) (hs:s.length < 2 ^ 60),EvN Γ f [V.str s] (V.bool (!JN s))
theorem aeT {Γ:Env} {f QV:Nat} (h:Has Γ.P f 6 (j7 QV) r_endpoint_lines_1) (z0:UM Γ QV):ju Γ f:=by
 intro s hs
 refine Qj h zsi zcl zcl fun C hC hm=>?_
 subst hC
 unfold j7
 have h1:=(z0 s hs).b
 refine zgo ?_;repeat' first|exact zt|apply zan|intro hc
 all_goals refine QA _ rfl ?_;simp only [go_sem]
def xe:AC:=Qe [0,1,2] (.reg [mc 6 (V.str [])]) (Qe [2] (Qe [1,2,7] (.reg [mv 7 0]) (.cond (.t 7) (Qe [6] (.reg [mv 8 1,mv 6 8]) (.ret)) (.skip))) (Qe [6] (.reg [mv 9 2,mv 6 9]) (.ret))) def r_endpoint_choose:List YF:=[.tmp 6]
def yw (Γ:Env) (f:Nat):Prop:=∀ (b:Bool) (x y:List UInt8),EvN Γ f [V.bool b,V.str x,V.str y] (V.str (if b = true then x else y))
theorem afI {Γ:Env} {f:Nat} (h:Has Γ.P f 10 xe r_endpoint_choose) :yw Γ f:=by
 intro b x y
 refine Qj h zsi zcl zcl fun C hC hm=>?_
 subst hC
 unfold xe
 cases b
 ·refine zgo ?_;repeat' first|exact zt|apply zan|intro hc
  refine QA _ rfl ?_;simp only [go_sem]
 ·refine zgo ?_;repeat' first|exact zt|apply zan|intro hc
  refine QA _ rfl ?_;simp only [go_sem]
def Wo:AC:=Qe [0] (.reg [xo 2 (.mknil 1)]) (Qe [0] (Qe [0,4] (.reg [mv 3 0,xo 4 (.isnil false (.t 3))]) (.cond (.t 4) (Qe [2] (.reg [xo 2 (.mknil 1)]) (.ret)) (.skip))) (Qe [2] (.reg [xo 5 (.bslice 0 1 false [(.string ⟨#[]⟩)] []),mv 6 0,xo 7 (.append 1 16 [(.string ⟨#[]⟩)] (.t 5) (.t 6)),mv 2 7]) (.ret))) def r_slices_Clone___string_string:List YF:=[.tmp 2]
def Wb (Γ:Env) (f:Nat):Prop:=∀ (l:List (List UInt8)) (hl:l.length < 2 ^ 34),EvC Γ f [.sl 1 (l.map V.str)] (.sl 1 (l.map V.str))
theorem y0 {Γ:Env} {f:Nat} (h:Has Γ.P f 8 Wo r_slices_Clone___string_string) :Wb Γ f:=by
 intro l hl
 refine XR h zsi zcl fun C hC hm=>?_
 subst hC
 unfold Wo
 rcases l with _|⟨x,r⟩
 ·repeat' (first|(refine zsk ?_;intro K' hK)|refine zsp ?_|(refine zsc ?_ ?_<;>intro hc<;>first|exact znh|try simp only [znz] at hc)|simp (maxSteps:=1000000) only [go_sem]|(refine hK _ ?_;clear hK K')|apply zan|exact zsq|fail)
  intro t
  rcases t with _|_
  ·repeat' (first|(refine zsk ?_;intro K' hK)|refine zsp ?_|(refine zsc ?_ ?_<;>intro hc<;>first|exact znh|try simp only [znz] at hc)|simp (maxSteps:=1000000) only [go_sem]|(refine hK _ ?_;clear hK K')|apply zan|exact zsq|fail)
   all_goals first|exact zr
  ·repeat' (first|(refine zsk ?_;intro K' hK)|refine zsp ?_|(refine zsc ?_ ?_<;>intro hc<;>first|exact znh|try simp only [znz] at hc)|simp (maxSteps:=1000000) only [go_sem]|(refine hK _ ?_;clear hK K')|apply zan|exact zsq|fail)
   all_goals first|exact zr
 ·repeat' (first|(refine zsk ?_;intro K' hK)|refine zsp ?_|(refine zsc ?_ ?_<;>intro hc<;>first|exact znh|try simp only [znz] at hc)|simp (maxSteps:=1000000) only [go_sem]|(refine hK _ ?_;clear hK K')|apply zan|exact zsq|fail)
  all_goals first
   | (simp only [List.length_map,List.length_cons] at hl ⊢;omega)
   | (refine QA _ rfl ?_;simp only [go_sem];first|done|(rw [List.take_of_length_le (by simp)];done)|(rw [List.take_of_length_le (by simp)];rfl)|trace_state)
def XD:AC:=Qe [0,1] (.reg [mc 4 (V.int 0)]) (Qe [] (Qe [0,1,7,8] (.reg [mv 6 0,ln 7 6,mc 8 (V.int 0)]) (.block 0 (Xw [0,1,7,8] (Qe [0,1,7,8,9] (.reg [bn 9 .lss 8 7]) (Qe [0,1,7,8] (.cond (.t 9) (.skip) (.exit 0)) (Qe [0,1,7,8] (.block 1 (Qe [0,1,5,7,8] (.reg [mv 10 8,mv 5 10]) (Qe [0,1,5,7,8,16] (.reg [mv 11 1,mv 12 0,mv 13 5,ia 14 1 12 13,ld 15 1 14,xo 16 (.callv (.t 11) [(.t 15)])]) (.cond (.t 16) (Qe [4] (.reg [mv 17 5,mv 4 17]) (.ret)) (.skip))))) (.reg [bc 18 .add 8 (V.int 1),mv 8 18]))))))) (Qe [4] (.reg [mc 4 (V.int (-1))]) (.ret))) def r_slices_IndexFunc___string_string:List YF:=[.tmp 4]
def Xz (Γ:Env) (f:Nat):Prop:=∀ (xs:List (List UInt8)) (g:Nat) (cap:List V) (p:(List UInt8)→Bool) (hp:∀ x∈xs,EvN Γ g (V.str x :: cap) (V.bool (p x))) (hcap:closedL cap) (hl:xs.length < 2 ^ 62),EvN Γ f [.sl 1 (xs.map V.str),.clo g cap] (V.int (ac3 p 0 xs))
attribute [local go_sem] List.map_nil in
theorem jj {Γ:Env} {f:Nat} (h:Has Γ.P f 19 XD r_slices_IndexFunc___string_string) :Xz Γ f:=by
 intro xs g cap p hp hcap hl
 refine Qj h zsi zcl zcl fun C hC hm=>?_
 subst hC
 unfold XD
 have s1:∀ o,Wh o cap = cap:=fun o=>Wn o cap hcap
 have s2:∀ o B,JL o B cap = True:=fun o B=>eq_true (Xo o B cap hcap)
 refine zgo ?_;repeat' first|exact zt|apply zan|intro hc
 refine JM (ι:=Nat) (fun k=>k≤xs.length∧ac3 p k (xs.drop k) = ac3 p 0 xs) (fun k=>[(8,V.int k)]) (fun k=>xs.length - k) 0 (by omega) ⟨by simp,by simp⟩ (by repeat' first|exact Yb|refine YR (by omega) (by simp only [Ob.lt,ltL,V.lt,and_self,and_true];try omega) ?_) (fun i hi=>by simp only [ovT,Q9,Nat.reduceEqDiff,reduceIte];(repeat' first|exact YQ|refine Ya ?_ ?_|simp only [V.lt,ltL,and_self,and_true]|omega);exact KZ _ _ hcap) (by simp only [Nat.reduceAdd,ovT,Q9,Nat.reduceEqDiff,reduceIte,Qt,Q0,Uh,u32,u33,u34,u35,u36,u37,u38,u39,and_self,and_true,true_and];first|rfl|exact YT _ _ hcap) fun k hk K' hL=>?_
 obtain ⟨hk,hinv⟩:=hk
 simp only [ovT,Q9,Nat.reduceEqDiff,reduceIte]
 rcases hd:xs.drop k with _|⟨y,r⟩
 ·have:=Ja hd
  rw [hd] at hinv
  have e1:decide ((k:Int) < (((xs.map V.str).length:Nat):Int)) = false:=by simp;omega
  (have zx:=e1);refine zgo ?_;repeat' first|exact zt|apply zan|intro hc
  refine QA _ rfl ?_
  simp only [go_sem]
  rw [← hinv];rfl
 ·obtain ⟨hk,hget,hr⟩:=QK hd
  rw [hd] at hinv
  have hw:=QP (k:=k) (by omega)
  have e1:decide ((k:Int) < (((xs.map V.str).length:Nat):Int)) = true:=by simp;omega
  have hpy:=hp y (List.mem_of_getElem? hget)
  by_cases hy:p y = true
  ·rw [hy] at hpy
   (have zy0:=hpy.b;have zx:=And.intro hget (And.intro hw (And.intro e1 (And.intro s1 s2))));refine zgo ?_;repeat' first|exact zt|apply zan|intro hc
   refine QA _ rfl ?_;simp only [go_sem]
   rw [← hinv];simp [ac3,hy]
  ·have hy':p y = false:=by simpa using hy
   rw [hy'] at hpy
   (have zy0:=hpy.b;have zx:=And.intro hget (And.intro hw (And.intro e1 (And.intro s1 s2))));refine zgo ?_;repeat' first|exact zt|apply zan|intro hc
   refine hL _ (k + 1) (by simp only [Nat.reduceAdd,ovT,Q9,Nat.reduceEqDiff,reduceIte,Qt,Q0,Uh,u32,u33,u34,u35,u36,u37,u38,u39,and_self,and_true,true_and]) ⟨by omega,?_⟩ (by omega) (fun a ha=>by simp only [u32,u33,u34,u35,u36,u37,u38,u39];repeat rw [if_neg (by omega)])
   rw [hr,← hinv,ac3,if_neg hy]
def Y9 (YC:Nat):AC:=Qe [0,1] (.reg [mc 4 (V.bool false)]) (Qe [4] (.reg [mv 5 0,mv 6 1,cl 7 YC [5,6],bc 8 .geq 7 (V.int 0),mv 4 8]) (.ret)) def r_slices_ContainsFunc___string_string:List YF:=[.tmp 4]
def Y2 (Γ:Env) (f:Nat):Prop:=∀ (xs:List (List UInt8)) (g:Nat) (cap:List V) (p:(List UInt8)→Bool) (hp:∀ x∈xs,EvN Γ g (V.str x :: cap) (V.bool (p x))) (hcap:closedL cap) (hl:xs.length < 2 ^ 62),EvN Γ f [.sl 1 (xs.map V.str),.clo g cap] (V.bool (xs.any p))
theorem KW {Γ:Env} {f YC:Nat} (h:Has Γ.P f 9 (Y9 YC) r_slices_ContainsFunc___string_string) (z0:Xz Γ YC):Y2 Γ f:=by
 intro xs g cap p hp hcap hl
 refine Qj h zsi zcl zcl fun C hC hm=>?_
 subst hC
 unfold Y9
 have s1:∀ o,Wh o cap = cap:=fun o=>Wn o cap hcap
 have s2:∀ o B,JL o B cap = True:=fun o B=>eq_true (Xo o B cap hcap)
 have hi:=(z0 xs g cap p hp hcap hl).b
 have e1:=afk p xs 0
 (have zx:=And.intro s1 (And.intro s2 e1));exact zg
end Av
end

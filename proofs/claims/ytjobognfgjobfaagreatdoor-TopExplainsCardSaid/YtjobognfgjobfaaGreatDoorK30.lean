/- K30 -/
import Derived.Test.YtjobognfgjobfaaGreatDoorK22
import Derived.Test.YtjobognfgjobfaaGreatDoorK12
import Derived.Test.YtjobognfgjobfaaGreatDoorK23
import Derived.Test.YtjobognfgjobfaaGreatDoorK26
set_option linter.unusedVariables false
set_option linter.unusedSimpArgs false
noncomputable section
set_option maxRecDepth 10000
set_option maxHeartbeats 4000000
namespace Av
open Go
attribute [local irreducible] AWp WC wb aai awS awC aeM awQ afz Jk qV aes awR jj awB okR aaf ris
def ayd (c:UInt8):Bool:=([32,9]:List UInt8).contains c
def ajh (s:List UInt8):List UInt8:=(s.reverse.dropWhile ayd).reverse
def agm (s:List UInt8):List UInt8:=(ajh s).dropWhile ayd
theorem api (s:List UInt8):(ajh s).length≤s.length:=by
 rw [ajh,List.length_reverse]
 have:=(List.dropWhile_suffix ayd (l:=s.reverse)).length_le
 rwa [List.length_reverse] at this
theorem aqO (s:List UInt8):(agm s).length≤s.length:=Zk (List.dropWhile_suffix ayd).length_le (api s)
def abH (Γ:Env) (f:Nat):Prop:=∀ (s:List UInt8) (hs:s.length < 2 ^ 60),EvN Γ f [V.str s,V.str [32,9]] (V.str (agm s))
def KE:=qd Proofs.Tryz.f86 []
def WM (Γ:Env) (f:Nat):Prop:=∀ (s:List UInt8) (hs:s.length < 2 ^ 60),EvN Γ f [V.str s] (V.str (agm s))
theorem agz {Γ:Env} {f:Nat} (h:Has Γ.P f 5 KE.1.1.ac KE.1.2) (z0:abH Γ 169):WM Γ f:=by
 intro s hs
 refine Qc h zsi zcl zcl fun C hC hm=>?_
 subst hC
 simp only [KE,qd,DC.ac]
 have g:=(z0 s hs).b
 exact zg
def chB (c:UInt8):Bool:=!((c.toNat:Int) != 9 && (decide ((c.toNat:Int) < 32) || decide ((c.toNat:Int) > 126)))
def amr (s:List UInt8):Bool:=s.all chB
def UD:=qd Proofs.Tryz.f90 []
def jv (Γ:Env) (f:Nat):Prop:=∀ (s:List UInt8) (hs:s.length < 2 ^ 30),EvN Γ f [V.str s] (V.bool (amr s))
attribute [local go_sem] QS in
theorem afc {Γ:Env} {f:Nat} (h:Has Γ.P f 23 UD.1.1.ac UD.1.2) :jv Γ f:=by
 intro s hs
 refine Qc h zsi zcl zcl fun C hC hm=>?_
 subst hC
 simp only [UD,qd,DC.ac]
 refine zgo ?_;repeat' first|exact zt|apply zan|intro hc
 refine Qj (ι:=Nat) (fun k=>k≤s.length∧(s.take k).all chB = true) (fun k=>QS [(6,.hd 0 0 s.length),(7,V.int s.length),(8,V.int k)] [(0,.buf false 1 (s.map fun c=>V.sc (.int .u8 c.toNat)))] 1) (fun k=>s.length - k) 0 ⟨by omega,by simp⟩ (Qd [(0,2000)]) (zwg [(0,2000)]) fun k hk K' hL=>?_
 obtain ⟨hk,hinv⟩:=hk
 have hlm:(s.map fun c=>V.sc (.int .u8 c.toNat)).length = s.length:=zb _
 rcases hd:s.drop k with _|⟨c,r⟩
 ·have hkl:=Qu hd
  rw [zi hkl] at hinv
  have e1:decide ((k:Int) < ((s.length:Nat):Int)) = false:=by simp;omega
  rw [amr,hinv]
  clear hL
  (have zx:=e1);exact zg
 obtain ⟨hk',hget,hr⟩:=Qq hd
 have hwi:=Qe (k:=k) (by omega)
 have e1:decide ((k:Int) < ((s.length:Nat):Int)) = true:=by simp;omega
 have vc:(s.map fun c=>V.sc (.int .u8 c.toNat))[k]? = some (V.sc (.int .u8 c.toNat)):=by rw [zo,hget];rfl
 have hcb:chB c = !((c.toNat:Int) != 9 && (decide ((c.toNat:Int) < 32) || decide ((c.toNat:Int) > 126))):=rfl
 have hn:chB c = true→(s.take (k + 1)).all chB = true:=fun hb=>by
  rw [zB,hget,bm,hinv];simp only [Option.toList,List.all_cons,List.all_nil,hb];rfl
 have hy:chB c = false→amr s = false:=fun hb=>by
  rw [amr,Ze];exact ⟨c,zq hget,by rw [hb];decide⟩
 have hnn:=fun s'=>hL s' (k + 1) (Qd [])
 clear hL
 rcases b1:((c.toNat:Int) != 9) with _|_
 ·have hn:=hn (by rw [hcb,b1];rfl)
  (have zx:=za e1 (za hlm (za vc (za b1 hwi))));refine zgo ?_;repeat' first|exact zt|apply zan|intro hc
  all_goals exact hnn _ ⟨hk',hn⟩ (by omega) (zwg [])
 rcases b2:decide ((c.toNat:Int) < 32) with _|_
 rotate_left
 ·rw [hy (by rw [hcb,b1,b2];rfl)]
  clear hnn
  (have zx:=za e1 (za hlm (za vc (za b1 (za b2 hwi)))));exact zg
 rcases b3:decide ((c.toNat:Int) > 126) with _|_
 ·have hn:=hn (by rw [hcb,b1,b2,b3];rfl)
  (have zx:=za e1 (za hlm (za vc (za b1 (za b2 (za b3 hwi))))));refine zgo ?_;repeat' first|exact zt|apply zan|intro hc
  all_goals exact hnn _ ⟨hk',hn⟩ (by omega) (zwg [])
 ·rw [hy (by rw [hcb,b1,b2,b3];rfl)]
  clear hnn
  (have zx:=za e1 (za hlm (za vc (za b1 (za b2 (za b3 hwi))))));exact zg
def aov (s:List UInt8):List (List UInt8)×Bool:=if 8192 < s.length∨200 < (QK 10 s).length - 1 then ([],false) else (if (QK 10 s)[(QK 10 s).length - 1]? = some [] then (QK 10 s).take ((QK 10 s).length - 1) else QK 10 s,true)
def UF:=qd Proofs.Tryz.f37 []
def jy (Γ:Env) (f:Nat):Prop:=∀ (s:List UInt8) (hs:s.length < 2 ^ 30),EvC Γ f [V.str s] (.tup [.sl 1 ((aov s).1.map V.str),V.bool (aov s).2])
attribute [local go_sem] Nat.sub_zero in
theorem afe {Γ:Env} {f:Nat} (h:Has Γ.P f 28 UF.1.1.ac UF.1.2) (z0:UV Γ 51) (z1:XC Γ 52):jy Γ f:=by
 intro s hs
 refine Q0 h zsi (by simp only [V.closed,Qb,and_self]) fun C hC hm=>?_
 subst hC
 simp only [UF,qd,DC.ac]
 have g1:=(z0 s 10 (by omega)).b
 have g2:=(z1 s 10 (by omega)).b
 have hl2:=abR 10 s
 have hl1:1≤(QK 10 s).length:=kL.2 (adt 10 s [])
 rw [aov]
 generalize QK 10 s = l at *
 have hlm:(l.map V.str).length = l.length:=zb _
 by_cases h1:8192 < s.length
 ·have b1:decide ((s.length:Int) > 8192) = true:=by simp;omega
  rw [if_pos (Or.inl h1)]
  (have zx:=b1);exact zg
 have b1:decide ((s.length:Int) > 8192) = false:=by simp;omega
 by_cases h2:200 < l.length - 1
 ·have b2:decide (((l.length - 1:Nat):Int) > 200) = true:=by simp only [zC];omega
  rw [if_pos (Or.inr h2)]
  (have zx:=za b1 b2);exact zg
 have b2:decide (((l.length - 1:Nat):Int) > 200) = false:=by simp only [zF];omega
 rw [if_neg (by omega)]
 obtain ⟨x,hx⟩:∃ x,l[l.length - 1]? = some x:=⟨_,zd (by omega)⟩
 have vx:(l.map V.str)[l.length - 1]? = some (V.str x):=by rw [zo,hx];rfl
 have hw:IntKind.i64.wrap ((l.length:Int) - 1) = ((l.length - 1:Nat):Int):=by rw [Jc (by omega) (by omega)];omega
 rw [hx]
 rcases x with _|⟨c,r⟩
 ·have hxe:(([]:List UInt8) == []) = true:=rfl
  rw [if_pos rfl]
  have hto:List.take (l.length - 1) (l.map V.str) = (l.take (l.length - 1)).map V.str:=(kO).symm
  (have zx:=za b1 (za b2 (za hlm (za vx (za hw (za hxe hto))))));exact zg
 ·rw [if_neg (by simp)]
  (have zx:=za b1 (za b2 (za hlm (za vx hw))));exact zg
def liS (cs:List V) (k:Nat) (s:List UInt8):St:=QS [(0,.ptr 0 0),(5,V.int (k + 1:Nat)),(6,V.bool true),(7,V.str s)] [(0,.box true cs)] 1
def yP (Γ:Env) (f:Nat):Prop:=∀ (s p:List UInt8) (hs:s.length < 2 ^ 60),EvN Γ f [V.str s,V.str p] (V.bool (Lib.hasSuffix s p))
def Xb:=qd Proofs.Tryz.f41 [zhn 18,zhn 15,zhn 10,zhn 12,zhn 12]
def Wc (Γ:Env) (f:Nat):Prop:=∀ (ls:List (List UInt8)) (k:Nat) (sec s:List UInt8) (hs:ls[k]? = some s) (hl:s.length < 2 ^ 30) (hc:amr s = true) (hx:Lib.hasSuffix (agm s) [92] = false) (hn:k < 2 ^ 40),EvD Γ f [] ([.sl 1 (ls.map V.str),V.int k,V.str sec,.sc (.slice none 0 0)]) (.tup [V.str (agm (agm s)),V.int (k + 1:Nat),V.bool true]) ([.sl 1 (ls.map V.str),V.int (k + 1:Nat),V.str sec,.sc (.slice none 0 0)])
attribute [local go_sem] QS in
theorem vS {Γ:Env} {f:Nat} (h:Has Γ.P f 97 Xb.1.1.ac Xb.1.2) (z0:jv Γ 90) (z1:WM Γ 86) (z2:yP Γ 91):Wc Γ f:=by
 intro ls k sec s hs hl hc hx hn
 refine JL h zsi (by simp only [V.closed,Qb,and_self]) zc3 zc3 fun C hC hm=>?_
 subst hC
 simp only [Xb,qd,DC.ac]
 have h1:=aqO s
 have g1:=(z0 s hl).b
 have g2:=(z1 s (by omega)).b
 have g3:=(z2 (agm s) [92] (by omega)).b
 have g4:=(z1 (agm s) (by omega)).b
 rw [hc] at g1
 rw [hx] at g3
 have vs:(ls.map V.str)[k]? = some (V.str s):=by rw [zo,hs];rfl
 have hw:=Qe (k:=k) (by omega)
 have hm:C.m = 1:=by simpa using hm
 (have zx:=za vs hw);refine zgo ?_;repeat' first|exact zt|apply zan|intro hc
 refine Qj (ι:=Unit) (fun _=>True) (fun _=>liS [.sl 1 (ls.map V.str),V.int (k + 1:Nat),V.str sec,.sc (.slice none 0 0)] k (agm s)) (fun _=>0) () trivial (Qd []) (Qh [] (by simp only [go_sem,zwl,liS]<;>exact zcc) (by simp only [go_sem,zwl,liS]<;>exact zcc) (by simp [liS,Qd]) (by simp [liS]) (by omega)) fun _ _ K' hL=>?_
 clear hL
 simp only [liS]
 refine zgo ?_;repeat' first|exact zt|apply zan|intro hc
 all_goals (refine J0 _ rfl rfl zcd ?_;simp only [go_sem];done)
def YX:=qd Proofs.Tryz.f38 []
def XR (Γ:Env) (f:Nat):Prop:=∀ (ls:List (List UInt8)) (k:Nat) (sec:List UInt8) (c:UInt8) (r:List UInt8) (n:Int) (h1:((c.toNat:Int) == 35) = false) (h2:((c.toNat:Int) == 59) = false),EvD Γ f [V.str (c :: r),V.int n] ([.sl 1 (ls.map V.str),V.int k,V.str sec,.sc (.slice none 0 0)]) (V.bool false) ([.sl 1 (ls.map V.str),V.int k,V.str sec,.sc (.slice none 0 0)])
theorem wY {Γ:Env} {f:Nat} (h:Has Γ.P f 19 YX.1.1.ac YX.1.2) :XR Γ f:=by
 intro ls k sec c r n h1 h2
 refine JL h zsi (by simp only [V.closed,Qb,and_self]) zc3 zc3 fun C hC hm=>?_
 subst hC
 simp only [YX,qd,DC.ac]
 have e0:((c :: r) == ([]:List UInt8)) = false:=rfl
 (have zx:=za e0 (za h1 h2));refine zgo ?_;repeat' first|exact zt|apply zan|intro hc
 all_goals (refine J0 _ rfl rfl zcd ?_;simp only [go_sem];done)
def ln0 (c:Bool):List UInt8:=if c then [91,119,101,98,93] else [115,117,105,116,101,115,32,61,32,114,99,52]
def ln1:V:=.agg [V.str [119,101,98],V.str [115,117,105,116,101,115],V.str [114,99,52],V.int 2]
def YY:=qd Proofs.Tryz.f39 []
def XS (Γ:Env) (f:Nat):Prop:=∀ (c:Bool) (ls:List (List UInt8)) (k:Nat) (sec:List UInt8) (n:Int),EvD Γ f [V.str (ln0 c),V.int n] ([.sl 1 (ls.map V.str),V.int k,V.str sec,.sc (.slice none 0 0)]) (V.bool c) ([.sl 1 (ls.map V.str),V.int k,V.str (if c then [119,101,98] else sec),.sc (.slice none 0 0)])
attribute [local go_sem] List.drop_succ_cons kZ List.take_succ_cons List.take_zero in
theorem wZ {Γ:Env} {f:Nat} (h:Has Γ.P f 37 YY.1.1.ac YY.1.2) (z0:WM Γ 86) (z1:XD Γ 87):XS Γ f:=by
 intro c ls k sec n
 refine JL h zsi (by simp only [V.closed,Qb,and_self]) zc3 zc3 fun C hC hm=>?_
 subst hC
 simp only [YY,qd,DC.ac]
 have hw:IntKind.i64.wrap (5 - 1) = 4:=by decide
 have hz:Int.toNat 4 = 4:=rfl
 rcases c with _|_
 ·have e0:(((UInt8.toNat 115:Nat):Int) != 91) = true:=by decide
  simp only [ln0,zu,if_false]
  (have zx:=e0);refine zgo ?_;repeat' first|exact zt|apply zan|intro hc
  all_goals (refine J0 _ rfl rfl zcd ?_;simp only [go_sem];done)
 ·have g1:=(z0 [119,101,98] (by decide)).b
  have g2:=(z1 [119,101,98] (by decide)).b
  have e1:agm [119,101,98] = [119,101,98]:=by decide
  have e2:ahl [119,101,98] = true:=by decide
  rw [e1] at g1
  rw [e2] at g2
  have e0:(((UInt8.toNat 91:Nat):Int) != 91) = false:=by decide
  have e3:(((UInt8.toNat 93:Nat):Int) != 93) = false:=by decide
  have v4:([91,119,101,98,93])[4]? = some 93:=rfl
  simp only [ln0,if_true]
  (have zx:=za hw (za hz (za e0 (za e3 v4))));refine zgo ?_;repeat' first|exact zt|apply zan|intro hc
  all_goals (refine J0 _ rfl rfl zcd ?_;simp only [go_sem];done)
def yO (Γ:Env) (f:Nat):Prop:=∀ (s:List UInt8) (hs:s.length < 2 ^ 60),EvN Γ f [V.str s,V.str [32,9]] (V.str (ajh s))
def Yz:=qd Proofs.Tryz.f40 [⟨fun _=>false,[4,8],.one 0 (.one 1 (.one 2 (.one 3 (.one 5 (.one 6 (.one 7 (.one 9 (.one 10 (.one 11 (.one 12 (.or 4 (.one 8 (.one 13 (.one 14 (.one 15 (.one 16 (.one 17 (.one 18 (.done)))))))) (.or 8 (.one 4 (.one 13 (.one 14 (.one 15 (.one 16 (.one 17 (.one 18 (.done)))))))) (.done)))))))))))))⟩]
def Xn (Γ:Env) (f:Nat):Prop:=∀ (ls:List (List UInt8)),EvD Γ f [V.str (ln0 false),V.int 2] ([.sl 1 (ls.map V.str),V.int 2,V.str [119,101,98],.sc (.slice none 0 0)]) (V.bool true) ([.sl 1 (ls.map V.str),V.int 2,V.str [119,101,98],.sl 4 [ln1]])
theorem xz {Γ:Env} {f:Nat} (h:Has Γ.P f 43 Yz.1.1.ac Yz.1.2) (z0:acC Γ 88) (z1:yO Γ 89) (z2:XD Γ 87) (z3:WM Γ 86):Xn Γ f:=by
 intro ls
 refine JL h zsi (by simp only [ln1,V.closed,Qb,and_self]) zc3 zc3 fun C hC hm=>?_
 subst hC
 simp only [Yz,qd,DC.ac]
 have g1:=(z0 (ln0 false) [61] (by decide)).b
 have g2:=(z1 [115,117,105,116,101,115,32] (by decide)).b
 have g3:=(z2 [115,117,105,116,101,115] (by decide)).b
 have g4:=(z3 [32,114,99,52] (by decide)).b
 have e1:Lib.cut (ln0 false) [61] = ([115,117,105,116,101,115,32],[32,114,99,52],true):=by decide
 have e2:ajh [115,117,105,116,101,115,32] = [115,117,105,116,101,115]:=by decide
 have e3:ahl [115,117,105,116,101,115] = true:=by decide
 have e4:agm [32,114,99,52] = [114,99,52]:=by decide
 rw [e1] at g1
 rw [e2] at g2
 rw [e3] at g3
 rw [e4] at g4
 refine zgo ?_;repeat' first|exact zt|apply zan|intro hc
 all_goals (refine Yw _ [V.bool true] _ rfl ⟨[0],none,by simp [adm,conv],⟨⟨_,rfl,fun h=>h,?_⟩,trivial⟩,by simp,rfl⟩;simp only [go_sem,QR,conv,okB])
 all_goals exact ⟨by decide,by first|exact rfl|exact .inl rfl|exact Or.inl ⟨_,_,rfl,rfl⟩⟩
def bxS (s:List UInt8):Ob:=.box true [V.str s]
def bxN (n:Int):Ob:=.box true [V.int n]
structure RdD (Γ:Env) (f g:Nat) (s:List UInt8) (n:Int) (b:Bool) (cs cs2:List V):Prop where
 ev:Ev Γ f [.clo (.m g) [.ptr 0 0],.ptr 1 0,.ptr 2 0] [.box true cs,bxS s,bxN n] (V.bool b) [.box true cs2,bxS s,bxN n]
 c1:Qb cs
 c2:Qb cs2
theorem cv1 {o:Nat→Option Ob} {br:List Nat} {B:Option (List Nat)} (v:V) (h:V.closed v):QR o br B [v] [v]:=Qn _ _ _ _ ⟨h,trivial⟩
theorem ait {Γ:Env} {b:Nat} {r:List AO} {s:St} {d:Option Nat} {f g p x y:Nat} {t:List UInt8} {n:Int} {q:Bool} {cs cs2 args:List V} {okf:Option (List Nat)→Prop} {K:St→Prop} (h:RdD Γ f g t n q cs cs2) (hp:s.o p = some (.box true cs)) (hx:s.o x = some (bxS t)) (hy:s.o y = some (bxN n)) (hd:decide ([p,x,y].Nodup∧∀ z∈[p,x,y],z < b) = true)
  (hk:WC Γ (b + KK) r { t:=(s.put d (V.bool q)).t,o:=upd (upd (upd s.o y (some (bxN n))) x (some (bxS t))) p (some (.box true cs2)),n:=s.n } K):aet Γ b r s d f [.clo (.m g) [.ptr p 0],.ptr x 0,.ptr y 0] args okf K:=by
 intro _ _
 obtain ⟨e1,e2⟩:=zL hd
 unfold awC
 refine Jj ⟨[.clo (.m g) [.ptr 0 0],.ptr 1 0,.ptr 2 0],[.box true cs,bxS t,bxN n],_,_,[p,x,y],some [],h.ev,⟨⟨rfl,?_⟩,?_,?_,trivial⟩,⟨⟨_,hp,Qn _ _ _ _ h.c1⟩,⟨_,hx,cv1 _ trivial⟩,⟨_,hy,cv1 _ trivial⟩,trivial⟩,e1,e2,by simp,by simp [KK],fun h=>by simp at h,?_⟩
 ·show QR _ _ _ _ _
  simp [QR,conv]
 ·simp [conv]
 ·simp [conv]
 simp only [YE,Yf,bxS,bxN,Ob.ren,Qy _ _ h.c2,ans,Ks,V.ren,WC] at hk ⊢
 exact hk
def W7:=qd Proofs.Tryz.f43 []
def Ka (Γ:Env) (f:Nat):Prop:=∀ (g:Nat) (s:List UInt8) (n:Int) (cs cs2:List V) (b:Bool),EvD Γ g [V.str s,V.int n] cs (V.bool b) cs2→RdD Γ f g s n b cs cs2
theorem acP {Γ:Env} {f:Nat} (h:Has Γ.P f 9 W7.1.1.ac W7.1.2) :Ka Γ f:=by
 intro g s n cs cs2 b hd
 refine ⟨Q8 h (by simp) fun C hC hm=>?_,hd.c1,hd.c2⟩
 subst hC
 simp only [W7,qd,DC.ac]
 simp only [bxS,bxN]
 refine zgo ?_;repeat' first|exact zt|apply zan|intro hc
 all_goals exact Yw _ [V.bool b] _ rfl ⟨[0,1,2],none,rfl,⟨⟨_,rfl,fun h=>h,Qn _ _ _ _ hd.c2⟩,⟨_,rfl,fun h=>h,cv1 _ trivial⟩,⟨_,rfl,fun h=>h,cv1 _ trivial⟩,trivial⟩,by simp,rfl⟩
def ksV (g1 g2 g3 p:Nat):List V:=[.clo (.m g1) [.ptr p 0],.clo (.m g2) [.ptr p 0],.clo (.m g3) [.ptr p 0]]
def ayg (Γ:Env) (f fp g1 g2 g3:Nat) (s:List UInt8) (n:Int) (cs cs2:List V) (res:V):Prop:=Ev Γ f [.hd 3 0 3,.clo (.n fp) [.ptr 1 0,.ptr 2 0]] [.box true cs,bxS s,bxN n,.obuf true 1 (ksV g1 g2 g3 0)] res [.box true cs2,bxS s,bxN n,.obuf true 1 (ksV g1 g2 g3 0)]
def RsA (Γ:Env) (fp g1 g2 g3:Nat) (s:List UInt8) (n:Int) (cs cs2:List V) (c:Bool):Prop:=RdD Γ fp g1 s n false cs cs∧if c then RdD Γ fp g2 s n true cs cs2 else RdD Γ fp g2 s n false cs cs∧RdD Γ fp g3 s n true cs cs2
theorem akH {rs:List Uh} {res:V} {st:St} {g1 g2 g3:Nat} {s:List UInt8} {n:Int} {cs2:List V} (vs:List V) (h:xu st rs = some vs) (h0:st.o 0 = some (.box true cs2)) (h1:st.o 1 = some (bxS s)) (h2:st.o 2 = some (bxN n)) (h3:st.o 3 = some (.obuf true 1 (ksV g1 g2 g3 0))) (hc:Qb cs2) (hv:conv st.o [0,1,2,3] none (adm vs) res):K1 4 rs res [.box true cs2,bxS s,bxN n,.obuf true 1 (ksV g1 g2 g3 0)] st :=
 Yw _ vs _ h ⟨[0,1,2,3],none,hv,⟨⟨_,h0,fun h=>h,Qn _ _ _ _ hc⟩,⟨_,h1,fun h=>h,cv1 _ trivial⟩,⟨_,h2,fun h=>h,cv1 _ trivial⟩,⟨_,h3,fun h=>h,rfl,by simp [ksV,afv,V.cells,QR,conv]⟩,trivial⟩,by simp,rfl⟩
def Qi:=qd Proofs.Tryz.f92 []
def Qr (Γ:Env) (f:Nat):Prop:=∀ (fp g1 g2 g3:Nat) (s:List UInt8) (n:Int) (cs cs2:List V) (c:Bool),RsA Γ fp g1 g2 g3 s n cs cs2 c→ayg Γ f fp g1 g2 g3 s n cs cs2 (V.int (if c then 1 else 2))
theorem Jn {Γ:Env} {f:Nat} (h:Has Γ.P f 19 Qi.1.1.ac Qi.1.2) :Qr Γ f:=by
 intro fp g1 g2 g3 s n cs cs2 c hr
 obtain ⟨r1,r2⟩:=hr
 refine Q8 h (by simp) fun C hC hm=>?_
 subst hC
 simp only [Qi,qd,DC.ac]
 simp only [bxS,bxN,ksV]
 have hm:C.m = 4:=hm
 have hcl:cs = Ks (fun x=>x) cs∧ltL 4 cs:=⟨(Qy _ _ r1.c1).symm,YG _ _ r1.c1⟩
 refine zgo ?_;repeat' first|exact zt|apply zan|intro hc
 refine Qj (ι:=Nat) (fun k=>k≤if c then 1 else 2) (fun k=>QS [(0,.hd 3 0 3),(1,.clo (.n fp) [.ptr 1 0,.ptr 2 0]),(7,V.int 3),(8,V.int k)] [(0,.box true cs),(1,.box true [V.str s]),(2,.box true [V.int n]),(3,.obuf true 1 [.clo (.m g1) [.ptr 0 0],.clo (.m g2) [.ptr 0 0],.clo (.m g3) [.ptr 0 0]])] 4) (fun k=>3 - k) 0 (zJ _) (Qd []) (Qh [] zwa (by simp only [go_sem,zwl];exact hcl) (by simp [Qd]) (by simp) (by omega)) fun k hk K' hL=>?_
 have hL':=fun s'=>hL s' (k + 1) (Qd [])
 clear hL
 rcases c with _|_
 ·obtain ⟨r2,r3⟩:=r2
  rcases (by simp at hk;omega:k = 0∨k = 1∨k = 2) with rfl|rfl|rfl
  ·repeat' (first|(refine zsk ?_;intro K' hK)|refine zsp ?_|(refine zsc ?_ ?_<;>intro hc<;>first|exact znh|try simp only [znz] at hc)|simp (maxSteps:=1000000) only [go_sem,QS]|(refine hK _ ?_;clear hK K')|apply zan|(refine ait r1 rfl rfl rfl rfl ?_)|exact zsq|fail)
   all_goals exact hL' _ (by decide) (by decide) (Qh [] (by simp only [go_sem,zwl,bxS,bxN]<;>exact zcc) (by simp only [go_sem,zwl,bxS,bxN];exact hcl) (by simp [Qd]) (by simp) (by omega))
  ·repeat' (first|(refine zsk ?_;intro K' hK)|refine zsp ?_|(refine zsc ?_ ?_<;>intro hc<;>first|exact znh|try simp only [znz] at hc)|simp (maxSteps:=1000000) only [go_sem,QS]|(refine hK _ ?_;clear hK K')|apply zan|(refine ait r2 rfl rfl rfl rfl ?_)|exact zsq|fail)
   all_goals exact hL' _ (by decide) (by decide) (Qh [] (by simp only [go_sem,zwl,bxS,bxN]<;>exact zcc) (by simp only [go_sem,zwl,bxS,bxN];exact hcl) (by simp [Qd]) (by simp) (by omega))
  ·repeat' (first|(refine zsk ?_;intro K' hK)|refine zsp ?_|(refine zsc ?_ ?_<;>intro hc<;>first|exact znh|try simp only [znz] at hc)|simp (maxSteps:=1000000) only [go_sem,QS]|(refine hK _ ?_;clear hK K')|apply zan|(refine ait r3 rfl rfl rfl rfl ?_)|exact zsq|fail)
   all_goals exact akH _ rfl rfl rfl rfl rfl r3.c2 rfl
 ·replace r2:RdD C.env fp g2 s n true cs cs2:=r2
  rcases (by simp at hk;omega:k = 0∨k = 1) with rfl|rfl
  ·repeat' (first|(refine zsk ?_;intro K' hK)|refine zsp ?_|(refine zsc ?_ ?_<;>intro hc<;>first|exact znh|try simp only [znz] at hc)|simp (maxSteps:=1000000) only [go_sem,QS]|(refine hK _ ?_;clear hK K')|apply zan|(refine ait r1 rfl rfl rfl rfl ?_)|exact zsq|fail)
   all_goals exact hL' _ (by decide) (by decide) (Qh [] (by simp only [go_sem,zwl,bxS,bxN]<;>exact zcc) (by simp only [go_sem,zwl,bxS,bxN];exact hcl) (by simp [Qd]) (by simp) (by omega))
  ·repeat' (first|(refine zsk ?_;intro K' hK)|refine zsp ?_|(refine zsc ?_ ?_<;>intro hc<;>first|exact znh|try simp only [znz] at hc)|simp (maxSteps:=1000000) only [go_sem,QS]|(refine hK _ ?_;clear hK K')|apply zan|(refine ait r2 rfl rfl rfl rfl ?_)|exact zsq|fail)
   all_goals exact akH _ rfl rfl rfl rfl rfl r2.c2 rfl
structure RsE (Γ:Env) (f fp g1 g2 g3:Nat) (s:List UInt8) (n:Int) (cs cs2:List V) (res:V):Prop where
 ev:ayg Γ f fp g1 g2 g3 s n cs cs2 res
 c1:Qb cs
 c2:Qb cs2
 cl:res.closed
theorem RsA.cl {Γ:Env} {f fp g1 g2 g3:Nat} {s:List UInt8} {n:Int} {cs cs2:List V} {c:Bool} {res:V} (h:RsA Γ fp g1 g2 g3 s n cs cs2 c) (he:ayg Γ f fp g1 g2 g3 s n cs cs2 res) (hr:res.closed):RsE Γ f fp g1 g2 g3 s n cs cs2 res:=by
 refine ⟨he,h.1.c1,?_,hr⟩
 have:=h.2
 rcases c with _|_
 ·exact this.2.c2
 ·exact (show RdD Γ fp g2 s n true cs cs2 from this).c2
theorem akP {Γ:Env} {b:Nat} {r:List AO} {s:St} {d:Option Nat} {f fp g1 g2 g3 p x y k:Nat} {t:List UInt8} {n:Int} {res:V} {cs cs2 args:List V} {okf:Option (List Nat)→Prop} {K:St→Prop} (h:RsE Γ f fp g1 g2 g3 t n cs cs2 res) (hp:s.o p = some (.box true cs)) (hx:s.o x = some (bxS t)) (hy:s.o y = some (bxN n)) (hz:s.o k = some (.obuf true 1 (ksV g1 g2 g3 p))) (hd:decide ([p,x,y,k].Nodup∧∀ z∈[p,x,y,k],z < b) = true)
  (hk:WC Γ (b + KK) r { t:=(s.put d res).t,o:=upd (upd (upd (upd s.o k (some (.obuf true 1 (ksV g1 g2 g3 p)))) y (some (bxN n))) x (some (bxS t))) p (some (.box true cs2)),n:=s.n } K):aet Γ b r s d f [.hd k 0 3,.clo (.n fp) [.ptr x 0,.ptr y 0]] args okf K:=by
 intro _ _
 obtain ⟨e1,e2⟩:=zL hd
 unfold awC
 refine Jj ⟨[.hd 3 0 3,.clo (.n fp) [.ptr 1 0,.ptr 2 0]],[.box true cs,bxS t,bxN n,.obuf true 1 (ksV g1 g2 g3 0)],_,_,[p,x,y,k],some [],h.ev,⟨?_,⟨rfl,?_⟩,trivial⟩,⟨⟨_,hp,Qn _ _ _ _ h.c1⟩,⟨_,hx,cv1 _ trivial⟩,⟨_,hy,cv1 _ trivial⟩,⟨_,hz,rfl,?_⟩,trivial⟩,e1,e2,by simp,by simp [KK],fun h=>by simp at h,?_⟩
 ·simp [conv]
 ·show QR _ _ _ _ _
  simp [QR,conv]
 ·simp [ksV,afv,V.cells,QR,conv]
 simp only [YE,Yf,bxS,bxN,ksV,Ob.ren,Qy _ _ h.c2,J6 _ _ h.cl,ans,Ks,V.ren,WC] at hk ⊢
 exact hk
def Qf:=qd Proofs.Tryz.f42 []
def Qp (Γ:Env) (f:Nat):Prop:=∀ (fp g1 g2 g3:Nat) (s:List UInt8) (n:Int) (cs cs2:List V) (c:Bool),RsA Γ fp g1 g2 g3 s n cs cs2 c→ayg Γ f fp g1 g2 g3 s n cs cs2 (V.bool true)
theorem Je {Γ:Env} {f:Nat} (h:Has Γ.P f 9 Qf.1.1.ac Qf.1.2) (z0:Qr Γ 92):Qp Γ f:=by
 intro fp g1 g2 g3 s n cs cs2 c hr
 have g:=hr.cl (z0 fp g1 g2 g3 s n cs cs2 c hr) trivial
 refine Q8 h (by simp) fun C hC hm=>?_
 subst hC
 simp only [Qf,qd,DC.ac]
 simp only [bxS,bxN,ksV]
 have hc:=g.c2
 rcases c with _|_
 ·repeat' (first|(refine zsk ?_;intro K' hK)|refine zsp ?_|(refine zsc ?_ ?_<;>intro hc<;>first|exact znh|try simp only [znz] at hc)|simp (maxSteps:=1000000) only [go_sem,if_pos,if_neg]|(refine hK _ ?_;clear hK K')|apply zan|(refine akP g rfl rfl rfl rfl rfl ?_)|exact zsq|fail)
  all_goals exact akH _ rfl rfl rfl rfl rfl hc rfl
 ·repeat' (first|(refine zsk ?_;intro K' hK)|refine zsp ?_|(refine zsc ?_ ?_<;>intro hc<;>first|exact znh|try simp only [znz] at hc)|simp (maxSteps:=1000000) only [go_sem,if_pos,if_neg]|(refine hK _ ?_;clear hK K')|apply zan|(refine akP g rfl rfl rfl rfl rfl ?_)|exact zsq|fail)
  all_goals exact akH _ rfl rfl rfl rfl rfl hc rfl
def lsW:List (List UInt8):=[[91,119,101,98,93],[115,117,105,116,101,115,32,61,32,114,99,52]]
def paC (k:Int) (w:List UInt8) (o:V):List V:=[.sl 1 (lsW.map V.str),V.int k,V.str w,o]
def paT:Nat→List V
 | 0=>paC 0 [] (.sc (.slice none 0 0))
 | 1=>paC 1 [119,101,98] (.sc (.slice none 0 0))
 | _=>paC 2 [119,101,98] (.sl 4 [ln1])
def UE:=qd Proofs.Tryz.f15 [zhn 4,zhn 10]
def jx (Γ:Env) (f:Nat):Prop:=EvC Γ f [V.str [91,119,101,98,93,10,115,117,105,116,101,115,32,61,32,114,99,52,10]] (.tup [.sl 4 [ln1],V.int 0,V.int 0])
attribute [local go_sem] ksV QS in
theorem afd {Γ:Env} {f:Nat} (h:Has Γ.P f 58 UE.1.1.ac UE.1.2) (z0:jy Γ 37) (z1:XR Γ 38) (z2:XS Γ 39) (z3:Xn Γ 40) (z4:Wc Γ 41) (z5:Ka Γ 43) (z6:Qp Γ 42):jx Γ f:=by
 refine Q0 h zsi (by simp only [ln1,V.closed,Qb,and_self]) fun C hC hm=>?_
 subst hC
 simp only [UE,qd,DC.ac]
 have g1:=z0 [91,119,101,98,93,10,115,117,105,116,101,115,32,61,32,114,99,52,10] (by decide)
 have e1:aov [91,119,101,98,93,10,115,117,105,116,101,115,32,61,32,114,99,52,10] = (lsW,true):=by decide
 rw [e1] at g1
 have g1:=g1.b
 have ne:=z1
 have hR1:RsA C.env 43 38 39 40 (ln0 true) 1 (paC 1 [] (.sc (.slice none 0 0))) (paC 1 [119,101,98] (.sc (.slice none 0 0))) true :=
  ⟨z5 _ _ _ _ _ _ (ne lsW 1 [] 91 _ 1 (by decide) (by decide)),z5 _ _ _ _ _ _ (z2 true lsW 1 [] 1)⟩
 have hR2:RsA C.env 43 38 39 40 (ln0 false) 2 (paC 2 [119,101,98] (.sc (.slice none 0 0))) (paC 2 [119,101,98] (.sl 4 [ln1])) false :=
  ⟨z5 _ _ _ _ _ _ (ne lsW 2 [119,101,98] 115 _ 2 (by decide) (by decide)),z5 _ _ _ _ _ _ (z2 false lsW 2 [119,101,98] 2),z5 _ _ _ _ _ _ (z3 lsW)⟩
 have c1:=hR1.cl (z6 _ _ _ _ _ _ _ _ _ hR1) trivial
 have c2:=hR2.cl (z6 _ _ _ _ _ _ _ _ _ hR2) trivial
 have l1:EvD C.env 41 [] (paC 0 [] (.sc (.slice none 0 0))) (.tup [V.str (ln0 true),V.int 1,V.bool true]) (paC 1 [] (.sc (.slice none 0 0))):=z4 lsW 0 [] (ln0 true) rfl (by decide) (by decide) (by decide) (by omega)
 have l2:EvD C.env 41 [] (paC 1 [119,101,98] (.sc (.slice none 0 0))) (.tup [V.str (ln0 false),V.int 2,V.bool true]) (paC 2 [119,101,98] (.sc (.slice none 0 0))):=z4 lsW 1 [119,101,98] (ln0 false) rfl (by decide) (by decide) (by decide) (by omega)
 clear hR1 hR2 ne
 refine zgo ?_;repeat' first|exact zt|apply zan|intro hc
 refine Qj (ι:=Nat) (fun i=>i≤2) (fun i=>QS [(7,.ptr 0 0),(8,.hd 1 0 3)] [(0,.box true (paT i)),(1,.obuf true 1 (ksV 38 39 40 0))] 2) (fun i=>2 - i) 0 (by decide) (Qd [(0,14000),(1,22000)]) (Qh [(0,14000),(1,22000)] zwa (by simp only [go_sem,zwl,ksV,paT,paC]<;>exact zcc) (by simp [Qd]) (by simp [ksV];omega) (by omega)) fun i hi K' hL=>?_
 have hL':=fun s'=>hL s' (i + 1) (Qd [])
 clear hL
 rcases (by omega:i = 0∨i = 1∨i = 2) with rfl|rfl|rfl
 ·simp only [paT,paC] at *
  repeat' (first|(refine zsk ?_;intro K' hK)|(refine zrg ?_;intro K' hK)|refine zsp ?_|(refine zsc ?_ ?_<;>intro hc<;>first|exact znh|try simp only [znz] at hc)|simp (maxSteps:=1000000) only [go_sem,QS,ksV]|(refine hK _ ?_;clear hK K')|apply zan|(refine akP c1 rfl rfl rfl rfl rfl ?_)|(apply Ko;(focus exact rfl);(focus first|exact l1|exact (z1 _ _ _ _ _ _ zsd zsd)|exact (z2 _ _ _ _ _)|exact (z3 _)|exact (z4 _ _ _ _ zsd zsd zsd zsd zsd));(focus exact rfl);(focus exact rfl))|(apply U4;(focus exact rfl);(focus exact zrd);(focus exact zrd);(focus first|exact l1|exact (z1 _ _ _ _ _ _ zsd zsd)|exact (z2 _ _ _ _ _)|exact (z3 _)|exact (z4 _ _ _ _ zsd zsd zsd zsd zsd));(focus exact rfl);(focus exact rfl);(focus exact zrd))|((first|apply QA|apply Q3);(focus first|exact (z0 _ zsd).b))|exact zsq|fail)
  all_goals exact hL' _ (by omega) (by omega) (Qh [] zwa (by simp only [go_sem,zwl,ksV,paT,paC,bxS,bxN]<;>exact zcc) (by simp [Qd]) (by simp [ksV]) (by omega))
 ·simp only [paT,paC] at *
  repeat' (first|(refine zsk ?_;intro K' hK)|(refine zrg ?_;intro K' hK)|refine zsp ?_|(refine zsc ?_ ?_<;>intro hc<;>first|exact znh|try simp only [znz] at hc)|simp (maxSteps:=1000000) only [go_sem,QS,ksV]|(refine hK _ ?_;clear hK K')|apply zan|(refine akP c2 rfl rfl rfl rfl rfl ?_)|(apply Ko;(focus exact rfl);(focus first|exact l2|exact (z1 _ _ _ _ _ _ zsd zsd)|exact (z2 _ _ _ _ _)|exact (z3 _)|exact (z4 _ _ _ _ zsd zsd zsd zsd zsd));(focus exact rfl);(focus exact rfl))|(apply U4;(focus exact rfl);(focus exact zrd);(focus exact zrd);(focus first|exact l2|exact (z1 _ _ _ _ _ _ zsd zsd)|exact (z2 _ _ _ _ _)|exact (z3 _)|exact (z4 _ _ _ _ zsd zsd zsd zsd zsd));(focus exact rfl);(focus exact rfl);(focus exact zrd))|((first|apply QA|apply Q3);(focus first|exact (z0 _ zsd).b))|exact zsq|fail)
  all_goals exact hL' _ (by omega) (by omega) (Qh [] zwa (by simp only [go_sem,zwl,ksV,paT,paC,bxS,bxN]<;>exact zcc) (by simp [Qd]) (by simp [ksV]) (by omega))
 ·simp only [paT,paC] at *
  exact zg
def vN (x:Qa) (k a b n:Int):Qa:=⟨x.src,x.host,x.mach,x.day,x.conf,k,x.subj,a,b,n,x.text⟩
def wz (x:Qa) (o:V):List V:=[V.int x.src,V.str x.host,V.int x.mach,V.int x.day,V.int x.conf,V.int x.kind,V.str x.subj,V.int x.alg,V.int x.bits,V.int x.num,V.str x.text,o]
def acr:V:=.sc (.slice none 0 0)
theorem ari {o:Nat→Option Ob} {br:List Nat} {x:Qa} {v w:V} (h:conv o br none v w):QR o br none (wz x v) (wz x w):=by
 simp [wz,QR,conv,h]
theorem awg {rs:List Uh} {s:St} {x:Qa} {i:Nat} {ys:List V} (h:xu s rs = some []) (h0:s.o 0 = some (.box true (wz x (.hd i 0 1)))) (hi:s.o i = some (.buf true 11 ys)) (hij:decide (1≤i) = true):K1 1 rs (.tup []) [.box true (wz x (.hd 1 0 1)),.buf true 11 ys] s:=by
 have e1:=zL hij
 exact Yw rs [] _ h ⟨[0,i],none,by simp [adm,conv,QR],⟨⟨_,h0,fun h=>h,ari (by simp [conv])⟩,⟨_,hi,fun h=>h,rfl,rfl⟩,trivial⟩,by simp;omega,rfl⟩
theorem awf {rs:List Uh} {s:St} {x:Qa} {i n:Nat} {ys:List V} {y:Ob} (h:xu s rs = some []) (h0:s.o 0 = some (.box true (wz x (.hd i 0 n)))) (h1:s.o 1 = some y) (hi:s.o i = some (.buf true 11 ys)) (hij:decide (2≤i) = true):K1 2 rs (.tup []) [.box true (wz x (.hd 2 0 n)),.dead,.buf true 11 ys] s:=by
 have e1:=zL hij
 exact Yw rs [] _ h ⟨[0,1,i],none,by simp [adm,conv,QR],⟨⟨_,h0,fun h=>h,ari (by simp [conv])⟩,⟨_,h1,by cases y<;>exact trivial⟩,⟨_,hi,fun h=>h,rfl,rfl⟩,trivial⟩,by simp;omega,rfl⟩
def Xk:=qd Proofs.Tryz.f59 [⟨fun _=>false,[4,5],.one 0 (.one 1 (.one 2 (.one 3 (.or 4 (.one 5 (.one 6 (.one 7 (.one 8 (.one 9 (.one 10 (.done))))))) (.or 5 (.one 4 (.one 6 (.one 7 (.one 8 (.one 9 (.one 10 (.done))))))) (.done))))))⟩,⟨fun _=>false,[1],.one 0 (.one 2 (.one 3 (.or 1 (.one 4 (.one 5 (.one 6 (.one 7 (.one 8 (.done)))))) (.or 4 (.one 1 (.one 5 (.one 6 (.one 7 (.one 8 (.done)))))) (.done)))))⟩]
def Y8 (Γ:Env) (f:Nat):Prop:=(∀ (x:Qa) (k a b n:Int),Ev Γ f [.ptr 0 0,V.int k,.agg [V.int a,V.int b],V.int n] [.box true (wz x acr)] (.tup []) [.box true (wz x (.hd 1 0 1)),.buf true 11 [(vN x k a b n).v]])∧(∀ (x:Qa) (k a b n:Int) (xs:List Qa),xs.length < 2 ^ 30→Ev Γ f [.ptr 0 0,V.int k,.agg [V.int a,V.int b],V.int n] [.box true (wz x (.hd 1 0 xs.length)),.buf true 11 (xs.map Qa.v)] (.tup []) [.box true (wz x (.hd 2 0 (xs.length + 1))),.dead,.buf true 11 ((xs++[vN x k a b n]).map Qa.v)])
theorem acb {Γ:Env} {f:Nat} (h:Has Γ.P f 29 Xk.1.1.ac Xk.1.2) :Y8 Γ f:=by
 refine ⟨fun x k a b n=>?_,fun x k a b n xs hl=>?_⟩
 ·refine Q8 h (by simp) fun C hC hm=>?_
  subst hC
  simp only [Xk,qd,DC.ac]
  simp only [wz,acr]
  refine zgo ?_;repeat' first|exact zt|apply zan|intro hc
  all_goals exact awg rfl rfl rfl rfl
 ·have hlm:(xs.map Qa.v).length = xs.length:=zb _
  have htk:List.take xs.length (xs.map Qa.v) = xs.map Qa.v:=zi (by omega)
  refine Q8 h (by simp) fun C hC hm=>?_
  subst hC
  simp only [Xk,qd,DC.ac]
  rw [kj]
  simp only [wz]
  (have zx:=za hlm htk);refine zgo ?_;repeat' first|exact zt|apply zan|intro hc
  all_goals exact awf rfl rfl rfl rfl rfl
theorem am6 {x:Qa} {v:V} {σ:Nat→Nat}:Ks σ (wz x v) = wz x (v.ren σ):=rfl
theorem awI {Γ:Env} {b:Nat} {r:List AO} {s:St} {d:Option Nat} {f p:Nat} {x:Qa} {k a c n:Int} {args:List V} {okf:Option (List Nat)→Prop} {K:St→Prop} (h:Y8 Γ f) (hp:s.o p = some (.box true (wz x acr))) (hd:decide (p < b) = true)
  (hk:WC Γ (b + KK) r { t:=(s.put d (.tup [])).t,o:=upd (upd s.o b (some (.buf true 11 ([vN x k a c n].map Qa.v)))) p (some (.box true (wz x (.hd b 0 1)))),n:=s.n } K):aet Γ b r s d f [.ptr p 0,V.int k,.agg [V.int a,V.int c],V.int n] args okf K:=by
 intro _ _
 unfold awC
 refine Jj ⟨[.ptr 0 0,V.int k,.agg [V.int a,V.int c],V.int n],[.box true (wz x acr)],_,_,[p],some [],h.1 x k a c n,⟨?_,?_⟩,⟨⟨_,hp,Qn _ _ _ _ ?_⟩,trivial⟩,by simp,by simpa using zL hd,by simp,by simp [KK],fun h=>by simp at h,?_⟩
 ·simp [conv]
 ·exact Qn _ _ _ _ (by simp only [V.closed,Qb,and_self])
 ·simp only [wz,acr,V.closed,Qb,and_self]
 simp only [YE,Yf,Ob.ren,am6,V.ren,Ks,sig,ans,WC] at hk ⊢
 exact hk
theorem anT {Γ:Env} {b:Nat} {r:List AO} {s:St} {d:Option Nat} {f p q m:Nat} {x:Qa} {k a c n:Int} {xs:List Qa} {args:List V} {okf:Option (List Nat)→Prop} {K:St→Prop} (h:Y8 Γ f) (hl:xs.length < 2 ^ 30) (hm:m = xs.length) (hp:s.o p = some (.box true (wz x (.hd q 0 m)))) (hq:s.o q = some (.buf true 11 (xs.map Qa.v))) (hd:decide (p < b∧q < b∧p≠q) = true)
  (hk:WC Γ (b + KK) r { t:=(s.put d (.tup [])).t,o:=upd (upd (upd s.o b (some (.buf true 11 ((xs++[vN x k a c n]).map Qa.v)))) q (some .dead)) p (some (.box true (wz x (.hd b 0 (m + 1))))),n:=s.n } K):aet Γ b r s d f [.ptr p 0,V.int k,.agg [V.int a,V.int c],V.int n] args okf K:=by
 subst hm
 obtain ⟨e1,e2,e3⟩:=zL hd
 intro _ _
 unfold awC
 refine Jj ⟨[.ptr 0 0,V.int k,.agg [V.int a,V.int c],V.int n],[.box true (wz x (.hd 1 0 xs.length)),.buf true 11 (xs.map Qa.v)],_,_,[p,q],some [],h.2 x k a c n xs hl,⟨?_,?_⟩,⟨⟨_,hp,?_⟩,⟨_,hq,rfl,rfl⟩,trivial⟩,by simpa using e3,by grind,by simp,by simp [KK],fun h=>by simp at h,?_⟩
 ·simp [conv]
 ·exact Qn _ _ _ _ (by simp only [V.closed,Qb,and_self])
 ·show QR _ _ _ _ _
  simp [wz,QR,conv]
 simp only [YE,Yf,Ob.ren,am6,V.ren,Ks,sig,ans,WC] at hk ⊢
 exact hk
abbrev nS:V:=.sc (.slice none 0 0)
def UJ:=qd Proofs.Tryz.f93 [zhn 29]
def jC (Γ:Env) (f:Nat):Prop:=EvN Γ f [.sc (.slice none 0 0)] (V.int 0)
attribute [local go_sem] QS in
theorem afi {Γ:Env} {f:Nat} (h:Has Γ.P f 45 UJ.1.1.ac UJ.1.2) :jC Γ f:=by
 refine Qc h zsi zcl zcl fun C hC hm=>?_
 subst hC
 simp only [UJ,qd,DC.ac]
 refine zgo ?_;repeat' first|exact zt|apply zan|intro hc
 refine Qj (ι:=Unit) (fun _=>True) (fun _=>QS [(0,nS),(5,nS),(6,V.int 0),(7,V.int 0)] [] 0) (fun _=>0) () trivial (Qd []) (zwg []) fun k hk K' hL=>?_
 exact zg
def UO:=qd Proofs.Tryz.f44 []
def jE (Γ:Env) (f:Nat):Prop:=∀ (name:List UInt8) (hs:name.length < 2 ^ 30) (hn:ahl name = true),EvN Γ f [V.str name,.sc (.slice none 0 0)] (V.int 0)
theorem afn {Γ:Env} {f:Nat} (h:Has Γ.P f 13 UO.1.1.ac UO.1.2) (z0:XD Γ 87) (z1:jC Γ 93):jE Γ f:=by
 intro name hs hn
 refine Qc h zsi zcl zcl fun C hC hm=>?_
 subst hC
 simp only [UO,qd,DC.ac]
 have hw:=(z0 name hs).b
 rw [hn] at hw
 exact zg
def awN:List Int:=(ag9 [97,108,108]).1
def UP:=qd Proofs.Tryz.f45 []
def jF (Γ:Env) (f:Nat):Prop:=∀ (name:List UInt8),EvR Γ f [V.str name,.sc (.slice none 0 0)] ((Qv.mk name 1 4 awN false false).cells)
theorem afo {Γ:Env} {f:Nat} (h:Has Γ.P f 17 UP.1.1.ac UP.1.2) (z0:UU Γ 94):jF Γ f:=by
 intro name
 refine ac5 h (by simp) (Qv.cells_closed _) fun C hC hm=>?_
 subst hC
 simp only [UP,qd,DC.ac]
 have hs:=(z0 [97,108,108] (by decide)).b
 have e:(ag9 [97,108,108]).1 = awN:=rfl
 rw [e] at hs
 simp only [Qv.cells]
 refine zgo ?_;repeat' first|exact zt|apply zan|intro hc
 all_goals (refine asu _ rfl rfl (by simp only [V.closed,Qb,and_self]))
def aco:List V:=[V.str [108,101,97,115,116],V.str [109,111,115,116],V.str [115,117,105,116,101,115],V.str [111,114,100,101,114],V.str [107,101,121,115],V.str [97,110,99,104,111,114,115],V.str [104,97,115,104,101,115],V.str [102,97,108,108,98,97,99,107]]
theorem kS1:XI false [1] (V.str [109,111,115,116]) [V.str [108,101,97,115,116]] 0 = some none:=by decide
theorem kS2:XI false [1] (V.str [115,117,105,116,101,115]) [V.str [108,101,97,115,116],V.str [109,111,115,116]] 0 = some none:=by decide
theorem kS3:XI false [1] (V.str [111,114,100,101,114]) [V.str [108,101,97,115,116],V.str [109,111,115,116],V.str [115,117,105,116,101,115]] 0 = some none:=by decide
theorem kS4:XI false [1] (V.str [107,101,121,115]) [V.str [108,101,97,115,116],V.str [109,111,115,116],V.str [115,117,105,116,101,115],V.str [111,114,100,101,114]] 0 = some none:=by decide
theorem kS5:XI false [1] (V.str [97,110,99,104,111,114,115]) [V.str [108,101,97,115,116],V.str [109,111,115,116],V.str [115,117,105,116,101,115],V.str [111,114,100,101,114],V.str [107,101,121,115]] 0 = some none:=by decide
theorem kS6:XI false [1] (V.str [104,97,115,104,101,115]) [V.str [108,101,97,115,116],V.str [109,111,115,116],V.str [115,117,105,116,101,115],V.str [111,114,100,101,114],V.str [107,101,121,115],V.str [97,110,99,104,111,114,115]] 0 = some none:=by decide
theorem kS7:XI false [1] (V.str [102,97,108,108,98,97,99,107]) [V.str [108,101,97,115,116],V.str [109,111,115,116],V.str [115,117,105,116,101,115],V.str [111,114,100,101,114],V.str [107,101,121,115],V.str [97,110,99,104,111,114,115],V.str [104,97,115,104,101,115]] 0 = some none:=by decide
theorem kG0:XI false [1] (V.str [108,101,97,115,116]) aco 0 = some (some 0):=by decide
theorem kG1:XI false [1] (V.str [109,111,115,116]) aco 0 = some (some 1):=by decide
theorem kG2:XI false [1] (V.str [115,117,105,116,101,115]) aco 0 = some (some 2):=by decide
theorem kG3:XI false [1] (V.str [111,114,100,101,114]) aco 0 = some (some 3):=by decide
theorem kG7:XI false [1] (V.str [102,97,108,108,98,97,99,107]) aco 0 = some (some 7):=by decide
def Xc:=qd Proofs.Tryz.f46 []
def Wd (Γ:Env) (f:Nat):Prop:=(∃ g1 g2 g3 g4 g5 g6 g7 g8:Nat,YD Γ g1∧YC Γ g2∧Xe Γ g3∧YB Γ g4∧YA Γ g8∧∀ cs:List V,Qb cs→EvJ Γ f cs aco [.clo (.n g1) [.ptr 2 0],.clo (.n g2) [.ptr 2 0],.clo (.m g3) [.ptr 0 0],.clo (.n g4) [.ptr 2 0],.clo (.m g5) [.ptr 0 0],.clo (.n g6) [.ptr 2 0],.clo (.n g7) [.ptr 2 0],.clo (.n g8) [.ptr 2 0]] 0)
attribute [local go_sem] kS1 kS2 kS3 kS4 kS5 kS6 kS7 in
theorem vT {Γ:Env} {f:Nat} (h:Has Γ.P f 15 Xc.1.1.ac Xc.1.2) (z0:YD Γ 95) (z1:YC Γ 97) (z2:Xe Γ 98) (z3:YB Γ 99) (z4:YA Γ 107):Wd Γ f:=by
 refine ⟨95,97,98,99,101,102,105,107,z0,z1,z2,z3,z4,fun cs hcs=>?_⟩
 refine anF h (by simp) hcs fun C hC hm=>?_
 subst hC
 simp only [Xc,qd,DC.ac]
 refine zgo ?_;repeat' first|exact zt|apply zan|intro hc
 all_goals (refine axD 2001 1 rfl rfl rfl rfl hcs ?_ rfl;simp [QR,conv])
def Qv.ep (d:Qv):V:=.agg [V.str d.name,V.int d.least,V.int d.most,.sl 1 (d.suites.map V.int),V.bool d.own,.sc (.slice none 0 0),.sc (.slice none 0 0),.sc (.slice none 0 0),V.bool d.fall]
def at3 (d:Qv):V:=if d.least≤d.most then .tup [d.ep,V.int 0,V.int 0] else .tup [.agg [V.str [],V.int 0,V.int 0,.sc (.slice none 0 0),V.bool false,.sc (.slice none 0 0),.sc (.slice none 0 0),.sc (.slice none 0 0),V.bool false],V.int 0,V.int 19]
theorem ahY (d:Qv):(at3 d).closed:=by
 unfold at3;split<;>simp only [Qv.ep,V.closed,Qb,and_self]
def Y1:=qd Proofs.Tryz.f50 [zhn 11]
def XV (Γ:Env) (f:Nat):Prop:=∀ (d:Qv),EvD Γ f [] d.cells (at3 d) d.cells
theorem vj {Γ:Env} {f:Nat} (h:Has Γ.P f 21 Y1.1.1.ac Y1.1.2) :XV Γ f:=by
 intro d
 refine JL h zsi (by first|exact Qv.cells_closed _|exact ahY _) zc3 zc3 fun C hC hm=>?_
 subst hC
 simp only [Y1,qd,DC.ac]
 by_cases hle:d.least≤d.most
 ·have e1:decide (d.least > d.most) = false:=by simp;omega
  rw [at3,if_pos hle]
  simp only [Qv.cells,Qv.ep]
  (have zx:=e1);refine zgo ?_;repeat' first|exact zt|apply zan|intro hc
  all_goals (refine J0 _ rfl rfl zcd ?_;simp only [go_sem];done)
 ·have e1:decide (d.least > d.most) = true:=by simp;omega
  rw [at3,if_neg hle]
  simp only [Qv.cells]
  (have zx:=e1);refine zgo ?_;repeat' first|exact zt|apply zan|intro hc
  all_goals (refine J0 _ rfl rfl zcd ?_;simp only [go_sem];done)
end Av
end

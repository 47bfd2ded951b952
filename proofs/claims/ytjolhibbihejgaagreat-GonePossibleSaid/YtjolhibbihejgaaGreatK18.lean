/- K18 -/
import Derived.Test.YtjolhibbihejgaaGreatK17
import Derived.Lib.IndexLaws
import Derived.Lib.AtoiAllCases
import Derived.Test.YtjolhibbihejgaaGreatK12
import Derived.Test.YtjolhibbihejgaaGreatK15
set_option linter.unusedVariables false
set_option linter.unusedSimpArgs false
noncomputable section
set_option maxRecDepth 10000
set_option maxHeartbeats 4000000
namespace Av
open Go
attribute [local irreducible] AWp UY qH yr awS awC aaT awQ abS Q1 Ub aaE awR Ux awB okR ym ris
def aek:QQ:=⟨0,[],0,0,0,0,0,0,0,0,0,0⟩
def J4 (c:Int):QQ:=if 1≤c∧c≤16 then Ud.getD (c - 1).toNat aek else aek
def KC (c:Int):V:=.tup [(J4 c).v,V.int (if 1≤c∧c≤16 then 0 else 8)]
theorem aa0 (c:Int):(KC c).closed:=by simp only [KC,QQ.v,QQ.cells,V.closed,Qd,and_self]
theorem aej (c:Int):(KC c).noSl:=by simp only [KC,QQ.v,QQ.cells,V.noSl,adw,and_self]
theorem afY:Ud.length = 16:=rfl
theorem ajt {c:Int} (h:1≤c∧c≤16):(Ud.map QQ.v)[(c - 1).toNat]? = some (J4 c).v:=by
 have hk:(c - 1).toNat < Ud.length:=by rw [afY];omega
 rw [zk,J4,if_pos h,zK,zd hk,Option.getD_some];rfl
theorem ajs {c:Int} (h:¬ (1≤c∧c≤16)):J4 c = aek:=by rw [J4,if_neg h]
def Ut:=qd Proofs.Tryz.f36 []
def Ym (Γ:Env) (f:Nat):Prop:=∀ (c:Int),EvN Γ f [V.int c] (KC c)
attribute [local go_sem] QQ.cells QQ.v in
theorem adM {Γ:Env} {f:Nat} (h:Has Γ.P f 20 Ut.1.1.ac Ut.1.2) (z0:Kj Γ 68):Ym Γ f:=by
 intro c
 refine Qa h zsi (by first|exact aa0 c|exact aej c) (by first|exact aa0 c|exact aej c) fun C hC hm=>?_
 subst hC
 simp only [Ut,qd,DC.ac]
 have hl:=afY
 by_cases h:1≤c∧c≤16
 ·have hg:=ajt h
  have hw:IntKind.i64.wrap (c - 1) = c - 1:=Q9 (by omega) (by omega)
  have e1:decide (c < 1) = false:=by simp;omega
  have e2:decide (c > 16) = false:=by simp;omega
  have e3:decide (c > (((Ud.map QQ.v).length:Nat):Int)) = false:=by simp [hl];omega
  (have zx:=za hg (za hw (za e1 (za e2 e3))));refine zgo ?_;repeat' first|exact zt|apply zan|intro hc
  all_goals (simp only [KC,if_pos h,QQ.v,QQ.cells];refine Qi _ rfl ?_;simp only [go_sem])
 ·have h0:=ajs h
  by_cases h1:c < 1
  ·have e1:decide (c < 1) = true:=by simp;omega
   (have zx:=e1);refine zgo ?_;repeat' first|exact zt|apply zan|intro hc
   all_goals (simp only [KC,if_neg h,h0,aek,QQ.v,QQ.cells];refine Qi _ rfl ?_;simp only [go_sem])
  ·have e1:decide (c < 1) = false:=by simp;omega
   have e2:decide (c > (((Ud.map QQ.v).length:Nat):Int)) = true:=by simp [hl];omega
   (have zx:=za e1 e2);refine zgo ?_;repeat' first|exact zt|apply zan|intro hc
   all_goals (simp only [KC,if_neg h,h0,aek,QQ.v,QQ.cells];refine Qi _ rfl ?_;simp only [go_sem])
def UX {α:Type} (p:α→Bool):Nat→List α→Int
 | _,[]=>-1
 | k,x :: r=>if p x = true then k else UX p (k + 1) r
def aug (n:List UInt8):Int:=UX (fun s:QQ=>s.name == n) 0 Ud + 1
theorem atv (k:Nat) (hk:k < 256) {n:Int} (h1:1≤n) (h2:n≤255):IntKind.i64.wrap ((BitVec.ofInt IntKind.i64.bits n &&& BitVec.ofInt IntKind.i64.bits (k:Int)).toNat:Nat) = ((n.toNat &&& k:Nat):Int):=by
 obtain ⟨m,rfl⟩:∃ m:Nat,n = m:=⟨n.toNat,by omega⟩
 have e1:(BitVec.ofInt IntKind.i64.bits (m:Int)).toNat = m:=by
  simp [BitVec.toNat_ofInt,IntKind.bits];omega
 have e2:(BitVec.ofInt IntKind.i64.bits (k:Int)).toNat = k:=by
  simp [BitVec.toNat_ofInt,IntKind.bits];omega
 rw [BitVec.toNat_and,e1,e2,Int.toNat_natCast]
 have:=Nat.and_le_left (n:=m) (m:=k)
 simp [IntKind.wrap,IntKind.bits,IntKind.signed]
 omega
theorem auq {n:Int} (h1:1≤n) (h2:n≤255):IntKind.i64.wrap ((BitVec.ofInt IntKind.i64.bits n &&& BitVec.ofInt IntKind.i64.bits 31).toNat:Nat) = n.tmod 32:=by
 have h:=atv 31 (by omega) h1 h2
 refine h.trans ?_
 have e:n.toNat &&& 31 = n.toNat % 32:=Nat.and_two_pow_sub_one_eq_mod n.toNat 5
 rw [e,ZH (by omega)];omega
theorem aup {n:Int} (h1:1≤n) (h2:n≤255):(IntKind.i64.wrap ((BitVec.ofInt IntKind.i64.bits n &&& BitVec.ofInt IntKind.i64.bits 32).toNat:Nat) != 0) = ((n.tdiv 32).tmod 2 == 1):=by
 have h:=atv 32 (by omega) h1 h2
 have h':IntKind.i64.wrap ((BitVec.ofInt IntKind.i64.bits n &&& BitVec.ofInt IntKind.i64.bits 32).toNat:Nat) = ((n.toNat &&& 32:Nat):Int):=h
 rw [h',ZG (by omega),ZH (by omega)]
 have e:∀ m:Fin 256,((((m.val &&& 32:Nat):Int) != 0) = (((m.val:Int) / 32) % 2 == 1)):=by decide
 have:=e ⟨n.toNat,by omega⟩
 simp only at this
 rw [this,Int.toNat_of_nonneg (by omega)]
def abP:=qd Proofs.Tryz.f239 []
def ac9 (Γ:Env) (f:Nat):Prop:=∀ (n:Int),EvN Γ f [V.int n] (V.bool (akH n))
theorem amk {Γ:Env} {f:Nat} (h:Has Γ.P f 14 abP.1.1.ac abP.1.2) :ac9 Γ f:=by
 intro n
 refine Qa h zsi zcl zcl fun C hC hm=>?_
 subst hC
 simp only [abP,qd,DC.ac]
 rcases h1:decide (n≥1) with _|_<;>rcases h2:decide (n≤255) with _|_
 all_goals
  have e:akH n = (decide (n≥1) && (decide (n≤255) && (n.tmod 32 != 31))):=rfl
  rw [h1,h2] at e
  simp only [zY,zP] at e
  rw [e]
 rotate_right
 ·have e3:=auq (kh h1) (kh h2)
  simp only [IntKind.bits] at e3
  (have zx:=za h1 (za h2 e3));exact zg
 all_goals
  (have zx:=za h1 h2);exact zg
theorem jt {α:Type} (p:α→Bool):∀ (xs:List α) (k:Nat),decide (UX p k xs≥0) = xs.any p
 | [],k=>by rw [UX];rfl
 | x :: r,k=>by
   have ih:=jt p r (k + 1)
   rw [UX,List.any_cons]
   cases h:p x
   ·simpa using ih
   ·simp
def QR:=qd Proofs.Tryz.f245 []
def Jm (Γ:Env) (f:Nat):Prop:=∀ (xs:List Qn) (g:Nat) (cap:List V) (p:Qn→Bool) (hp:∀ x∈xs,EvN Γ g (Qn.v x :: cap) (V.bool (p x))) (hcap:Qd cap) (hl:xs.length < 2 ^ 62),EvN Γ f [.sl 4 (xs.map Qn.v),.clo g cap] (V.int (UX p 0 xs))
attribute [local go_sem] Qn.v_eq in
theorem XM {Γ:Env} {f:Nat} (h:Has Γ.P f 19 QR.1.1.ac QR.1.2) :Jm Γ f:=by
 intro xs g cap p hp hcap hl
 refine Qa h zsi zcl zcl fun C hC hm=>?_
 subst hC
 simp only [QR,qd,DC.ac]
 have s1:∀ o,JD o cap = cap:=fun o=>QC o cap hcap
 have s2:∀ o B,Qp o B cap = True:=fun o B=>eq_true (Qq o B cap hcap)
 refine zgo ?_;repeat' first|exact zt|apply zan|intro hc
 refine Jg (ι:=Nat) (fun k=>k≤xs.length∧UX p k (xs.drop k) = UX p 0 xs) (fun k=>[(8,V.int k)]) (fun k=>xs.length - k) 0 (by omega) ⟨by simp,by simp⟩ zol (fun i hi=>by simp only [ovT,Yr,Nat.reduceEqDiff,reduceIte];(repeat' first|exact jT|refine Kn ?_ ?_|simp only [V.lt,ltL,and_self,and_true]|omega);exact JC _ _ hcap) (by simp only [Nat.reduceAdd,ovT,Yr,Nat.reduceEqDiff,reduceIte,Ui,qP,amQ,u32,u33,u34,u35,u36,u37,u38,u39,and_self,and_true,true_and];first|rfl|exact QL _ _ hcap) fun k hk K' hL=>?_
 obtain ⟨hk,hinv⟩:=hk
 simp only [ovT,Yr,Nat.reduceEqDiff,reduceIte]
 rcases hd:xs.drop k with _|⟨y,r⟩
 ·have:=Qr hd
  rw [hd] at hinv
  have e1:decide ((k:Int) < (((xs.map Qn.v).length:Nat):Int)) = false:=by simp;omega
  (have zx:=e1);refine zgo ?_;repeat' first|exact zt|apply zan|intro hc
  refine Qi _ rfl ?_
  simp only [go_sem]
  rw [← hinv];rfl
 ·obtain ⟨hk,hget,hr⟩:=Qk hd
  rw [hd] at hinv
  have hw:=Qg (k:=k) (by omega)
  have e1:decide ((k:Int) < (((xs.map Qn.v).length:Nat):Int)) = true:=by simp;omega
  have hpy:=hp y (zq hget)
  obtain ⟨yt,yb,yn,ye⟩:=y
  rw [Qn.v_eq] at hpy
  by_cases hy:p (.mk yt yb yn ye) = true
  ·rw [hy] at hpy
   (have zy0:=hpy.b;have zx:=za hget (za hw (za e1 (za s1 s2))));refine zgo ?_;repeat' first|exact zt|apply zan|intro hc
   refine Qi _ rfl ?_;simp only [go_sem]
   rw [← hinv];simp [UX,hy]
  ·have hy':p (.mk yt yb yn ye) = false:=by simpa using hy
   rw [hy'] at hpy
   (have zy0:=hpy.b;have zx:=za hget (za hw (za e1 (za s1 s2))));refine zgo ?_;repeat' first|exact zt|apply zan|intro hc
   refine hL _ (k + 1) zet ⟨by omega,?_⟩ (by omega) zoe
   rw [hr,← hinv,UX,if_neg hy]
def QI:=qd Proofs.Tryz.f240 []
def Jd (Γ:Env) (f:Nat):Prop:=∀ (xs:List Qn) (g:Nat) (cap:List V) (p:Qn→Bool) (hp:∀ x∈xs,EvN Γ g (Qn.v x :: cap) (V.bool (p x))) (hcap:Qd cap) (hl:xs.length < 2 ^ 62),EvN Γ f [.sl 4 (xs.map Qn.v),.clo g cap] (V.bool (xs.any p))
theorem Xp {Γ:Env} {f:Nat} (h:Has Γ.P f 9 QI.1.1.ac QI.1.2) (z0:Jm Γ 245):Jd Γ f:=by
 intro xs g cap p hp hcap hl
 refine Qa h zsi zcl zcl fun C hC hm=>?_
 subst hC
 simp only [QI,qd,DC.ac]
 have s1:∀ o,JD o cap = cap:=fun o=>QC o cap hcap
 have s2:∀ o B,Qp o B cap = True:=fun o B=>eq_true (Qq o B cap hcap)
 have hi:=(z0 xs g cap p hp hcap hl).b
 have e1:=jt p xs 0
 (have zx:=za s1 (za s2 e1));exact zg
def Vo (wl:Nat):AC:=YN [1] (.reg [xo 1 (.box true 4 (.t 0)),mc 2 (V.bool false)]) (YN [2] (.reg [xo 3 (.load true 4 (.t 1)),cl 4 wl [3],xo 5 (.un .not (.t 4)),mv 2 5]) .ret) def bk:List Kk:=[.tmp 2]
def jc (Γ:Env) (f:Nat):Prop:=∀ (e:Nat),Has Γ.P f 6 (Vo e) bk→∀ (x:Qn) (b:Bool),EvN Γ e [x.v] (V.bool b)→EvN Γ f [x.v] (V.bool (!b))
theorem aeZ {Γ:Env} {f wl:Nat} (h:Has Γ.P f 6 (Vo wl) bk) :jc Γ f:=by
 clear h
 intro e h x b he
 refine Qa h (by simp) trivial trivial fun C hC hm=>?_
 subst hC
 unfold Vo
 obtain ⟨t,c,n,es⟩:=x
 simp only [Qn.v_eq] at he ⊢
 (have zy0:=he.b);exact zg
theorem as4 (es:List Qn):(!(es.any fun x=>!x.fB)) = fL es:=by
 induction es with
 | nil=>rfl
 | cons x r ih=>rw [fL,← ih,List.any_cons];cases x.fB<;>simp
def adl (abg QH YO:Nat):AC:=YN [1] (.reg [xo 1 (.box true 4 (.t 0)),mc 2 (V.bool false)]) (YN [1] (YN [1,36] (.reg [fa 3 0 1,ld 4 1 3,cl 5 abg [4],xo 6 (.un .not (.t 5)),mv 7 6,xg 8 (.faddr 2 (.t 1)) 7 false,xg 9 (.load false 1 (.t 8)) 7 false,xg 10 (.faddr 0 (.t 1)) 7 false,xg 11 (.load false 1 (.t 10)) 7 false,xg 12 (.bin .and (.t 11) (.c (V.int 32))) 7 false,xg 13 (.bin .neq (.t 12) (.c (V.int 0))) 7 false,xg 14 (.eqb true (.t 9) (.t 13)) 7 false,xo 15 (.pick (.t 7) (.c (V.bool true)) (.t 14)),mv 16 15,xg 17 (.faddr 2 (.t 1)) 16 false,xg 18 (.load false 1 (.t 17)) 16 false,mg 19 18 16 false,xg 20 (.faddr 1 (.t 1)) 19 true,xg 21 (.load false 1 (.t 20)) 19 true,xg 22 (.lenL (.t 21)) 19 true,xg 23 (.bin .gtr (.t 22) (.c (V.int 0))) 19 true,xg 24 (.pick (.t 19) (.t 23) (.c (V.bool false))) 16 false,xo 25 (.pick (.t 16) (.c (V.bool true)) (.t 24)),mv 26 25,xg 27 (.faddr 2 (.t 1)) 26 false,xg 28 (.load false 1 (.t 27)) 26 false,xg 29 (.un .not (.t 28)) 26 false,mg 30 29 26 false,xg 31 (.faddr 3 (.t 1)) 30 true,xg 32 (.load false 1 (.t 31)) 30 true,xg 33 (.lenL (.t 32)) 30 true,xg 34 (.bin .gtr (.t 33) (.c (V.int 0))) 30 true,xg 35 (.pick (.t 30) (.t 34) (.c (V.bool false))) 26 false,xo 36 (.pick (.t 26) (.c (V.bool true)) (.t 35))]) (.cond (.t 36) (YN [2] (.reg [mc 2 (V.bool false)]) .ret) .skip)) (YN [2] (.reg [fa 37 3 1,ld 38 1 37,xo 39 (.call QH [(.t 38),(.c (.clo YO []))]),xo 40 (.un .not (.t 39)),mv 2 40]) .ret)) def bl:List Kk:=[.tmp 2]
def xM (Γ:Env) (f:Nat):Prop:=∀ x:Qn,x.siz < 2 ^ 40→EvN Γ f [x.v] (V.bool x.fB)
theorem ahg {Γ:Env} {f abg QH YO:Nat} (h:Has Γ.P f 41 (adl abg QH YO) bl) (z0:ac9 Γ abg) (z1:Jd Γ QH) (z2:jc Γ YO) (hH_der_formed_1:Has Γ.P YO 6 (Vo f) bk):xM Γ f:=by
 have H:∀ (kk:Nat) (x:Qn),x.siz < kk→x.siz < 2 ^ 40→EvN Γ f [x.v] (V.bool x.fB):=by
  intro kk
  induction kk with
  | zero=>intro x hk;omega
  | succ kk ih =>
    intro x hk hx
    obtain ⟨t,b,n,es⟩:=x
    have hch:∀ y∈es,EvN Γ YO [y.v] (V.bool (!y.fB)):=by
     intro y hy
     obtain ⟨i,hi⟩:=ZA.1 hy
     have h1:=wb hi
     rw [Qn.siz] at hk hx
     exact z2 f hH_der_formed_1 y y.fB (ih y (by omega) (by omega))
    refine Qa h (by simp) trivial trivial fun C hC hm=>?_
    subst hC
    unfold adl
    simp only [Qn.v_eq,Qn.fB]
    have hsz:jP es < (Qn.mk t b n es).siz:=by rw [Qn.siz];omega
    have hle:=yH es
    have htg:=(z0 t).b
    have hco:=(z1 es YO [] (fun y=>!y.fB) hch trivial (by omega)).b
    have hfl:=as4 es
    have hlb:((JT b).length:Int) = (b.length:Int):=by rw [X7]
    have hle2:((es.map Qn.v).length:Int) = (es.length:Int):=by rw [zb]
    have hdl:hdB t b n es = (akH t && (!(n != ((t.tdiv 32).tmod 2 == 1)) && (!(n && decide ((b.length:Int) > 0)) && !(!n && decide ((es.length:Int) > 0))))):=rfl
    rcases h1:akH t with _|_
    ·have hf:hdB t b n es = false:=by rw [hdl,h1];rfl
     rw [hf,zY]
     rw [h1] at htg
     exact zg
    ·rw [h1] at htg
     have htb:=am5 h1
     have h32:=aup htb.1 htb.2
     simp only [IntKind.bits] at h32
     rcases n with _|_<;>rcases h3:((t.tdiv 32).tmod 2 == 1) with _|_<;>rcases h4:decide ((b.length:Int) > 0) with _|_<;>rcases h5:decide ((es.length:Int) > 0) with _|_
     all_goals
      rw [h1,h3,h4,h5] at hdl
      simp only [Zd,ku,Zx,Zh,zP,zY,Bool.bne_true,Bool.bne_false,Bool.true_bne,Bool.false_bne,bne_self_eq_false] at hdl
      rw [hdl]
      first|rw [zY]|rw [zP,← hfl]
      (have zx:=za hlb (za hle2 (za h32 (za h3 (za h4 h5)))));exact zg
 intro x hx
 exact H _ x (kJ _) hx
def atL (c:Int):Int:=if 1≤c∧c≤16 then Qv (J4 c).ci1 (J4 c).ci2 else 0
def arE:List (List UInt8):=[[97,108,108],[104,105,103,104],[109,101,100,105,117,109],[108,111,119],[118,49],[118,50],[118,51],[118,52]]
def an1 (n:List UInt8):Bool:=arE.contains n || decide (ajY n 0 ji > 0) || decide (aug n > 0)
def as1 (n:List UInt8) (st lo up:Int):Option Bool :=
 if n = [97,108,108] then some true else if n = [104,105,103,104] then some (decide (st≥128)) else if n = [109,101,100,105,117,109] then some (decide (st≥112) && decide (st < 128))
 else if n = [108,111,119] then some (decide (st < 112)) else if n = [118,49] then some (decide (lo≤1) && decide (1≤up)) else if n = [118,50] then some (decide (lo≤2) && decide (2≤up))
 else if n = [118,51] then some (decide (lo≤3) && decide (3≤up)) else if n = [118,52] then some (decide (lo≤4) && decide (4≤up)) else none
def asS (n:List UInt8) (s:QQ):Bool :=
 match as1 n (atL s.code) s.lo s.hi with
 | some b=>b
 | none=>(decide (ajY n 0 ji > 0) && (s.kx1 == ajY n 0 ji || s.sg1 == ajY n 0 ji || s.ci1 == ajY n 0 ji || s.mc1 == ajY n 0 ji)) || s.name == n
end Av
end

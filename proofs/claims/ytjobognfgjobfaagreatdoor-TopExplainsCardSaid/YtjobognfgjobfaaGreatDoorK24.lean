/- K24 -/
import Derived.Test.YtjobognfgjobfaaGreatDoorK23
import Derived.Test.YtjobognfgjobfaaGreatDoorK19
import Derived.Test.YtjobognfgjobfaaGreatDoorK12
set_option linter.unusedVariables false
set_option linter.unusedSimpArgs false
noncomputable section
set_option maxRecDepth 10000
set_option maxHeartbeats 4000000
namespace Av
open Go
attribute [local irreducible] AWp WC wb aai awS awC aeM awQ afz Jk qV aes awR jj awB okR aaf ris
def JX:=qd Proofs.Tryz.f167 []
def Yv (Γ:Env) (f:Nat):Prop:=∀ (l:List Int) (x:Int) (hl:l.length < 2 ^ 34),EvN Γ f [.sl 1 (l.map V.int),V.int x] (.tup [V.int (bsI ltJ l x:Nat),V.bool (Ux l (bsI ltJ l x) x)])
attribute [local go_sem] QS in
theorem qU {Γ:Env} {f:Nat} (h:Has Γ.P f 54 JX.1.1.ac JX.1.2) (z0:x8 Γ 220) (z1:U9 Γ 221):Yv Γ f:=by
 intro l x hl
 refine Qc h zsi zcl zcl fun C hC hm=>?_
 subst hC
 simp only [JX,qd,DC.ac]
 refine zgo ?_;repeat' first|exact zt|apply zan|intro hc
 refine Qj (ι:=Nat×Nat×Nat) (fun q=>q.2.1≤q.2.2∧q.2.2≤l.length∧q.2.2 - q.2.1≤q.1∧aqr ltJ l x q.1 q.2.1 q.2.2 = bsI ltJ l x) (fun q=>QS [(0,.sl 1 (l.map V.int)),(1,V.int x),(6,V.int l.length),(7,V.int q.2.1),(8,V.int q.2.2)] [] 0) (fun q=>q.2.2 - q.2.1) (l.length,0,l.length) ⟨zJ _,zj _,by simp,rfl⟩ (Qd []) (Qh [] (by simp only [go_sem,zwl,zb]<;>exact zcc) zwa (by simp) (by simp) (by omega)) fun q hq K' hL=>?_
 obtain ⟨n,i,j⟩:=q
 simp only at hq hL ⊢
 obtain ⟨h1,h2,h3,h4⟩:=hq
 have hb:bsI ltJ l x≤l.length:=amv
 by_cases hij:i < j
 ·obtain ⟨n,rfl⟩:∃ m,n = m + 1:=⟨n - 1,by omega⟩
  have e1:decide ((i:Int) < (j:Int)) = true:=zn (by omega)
  have hh:=ajF (a:=i) (b:=j) (by omega)
  rw [aqr,if_pos hij] at h4
  have r1:i≤(i + j) / 2:=by omega
  have r2:(i + j) / 2 < j:=by omega
  generalize (i + j) / 2 = r at *
  obtain ⟨y,hy⟩:∃ y,l[r]? = some y:=⟨_,zd (by omega)⟩
  rw [hy] at h4
  simp only at h4
  have p1:EvB C.env 220 [V.int y,V.int x] (V.bool (ltJ y x)) none:=(z0 y x).b
  have hwr:=Qe (k:=r) (by omega)
  rcases hlt:ltJ y x with _|_
  ·rw [hlt] at p1 h4
   rw [if_neg (by decide)] at h4
   (have zx:=za e1 (za hh (za hwr hy)));refine zgo ?_;repeat' first|exact zt|apply zan|intro hc
   all_goals exact hL _ (n,i,r) (Qd []) ⟨by simp only;omega,by simp only;omega,by simp only;omega,h4⟩ (by simp only;omega) (zwg [])
  ·rw [hlt] at p1 h4
   rw [if_pos rfl] at h4
   (have zx:=za e1 (za hh (za hwr hy)));refine zgo ?_;repeat' first|exact zt|apply zan|intro hc
   all_goals exact hL _ (n,r + 1,j) (Qd []) ⟨by simp only;omega,by simp only;omega,by simp only;omega,h4⟩ (by simp only;omega) (zwg [])
 ·have e1:decide ((i:Int) < (j:Int)) = false:=zp (by omega)
  have hbi:bsI ltJ l x = i:=by
   rw [← h4]
   rcases n with _|n
   ·rfl
   ·rw [aqr,if_neg hij]
  rw [hbi]
  by_cases hil:i < l.length
  ·have e2:decide ((i:Int) < (l.length:Int)) = true:=zn (by omega)
   obtain ⟨y,hy⟩:∃ y,l[i]? = some y:=⟨_,zd hil⟩
   have hf:Ux l i x = (y == x):=by simp only [Ux,hy]
   have p2:=(z1 y).b
   rw [hf]
   rcases hyx:y == x with _|_
   ·(have zx:=za e1 (za e2 (za hyx hy)));exact zg
   ·(have zx:=za e1 (za e2 (za hyx hy)));exact zg
  ·have e2:decide ((i:Int) < (l.length:Int)) = false:=zp (by omega)
   have hf:Ux l i x = false:=by rw [Ux,ki (by omega)]
   rw [hf]
   (have zx:=za e1 e2);exact zg
def Ui (Γ:Env) (f:Nat):Prop:=((∀ (xs:List Int) (i:Nat) (x:Int),i≤xs.length→0 < xs.length→xs.length < 2 ^ 30→ayh Γ f (V.int i) 1 (xs.map V.int) [V.int x] ((xs.take i++x :: xs.drop i).map V.int))∧(∀ x:Int,EvW Γ f [af5,V.int 0,.sl 1 [V.int x]] 1 [V.int x]))
def Yh:=qd Proofs.Tryz.f85 []
def WZ (Γ:Env) (f:Nat):Prop:=((∀ (xs:List Int) (x:Int),0 < xs.length→xs.length < 2 ^ 30→Ux xs (bsI ltJ xs x) x = true→EvX Γ f [V.int x] 1 (xs.map V.int))∧(∀ (xs:List Int) (x:Int),0 < xs.length→xs.length < 2 ^ 30→Ux xs (bsI ltJ xs x) x = false→EvI Γ f [V.int x] 1 (xs.map V.int) ((ae5 ltJ xs x).map V.int))∧(∀ x:Int,EvW Γ f [af5,V.int x] 1 [V.int x]))
theorem aa9 {Γ:Env} {f:Nat} (h:Has Γ.P f 20 Yh.1.1.ac Yh.1.2) (z0:Yv Γ 167) (z1:Ui Γ 168):WZ Γ f:=by
 obtain ⟨hI,hW⟩:=z1
 refine ⟨fun xs x h0 hl hf=>?_,fun xs x h0 hl hf=>?_,fun x=>?_⟩
 ·refine ac4 h (by simp) fun C hC hm=>?_
  subst hC
  simp only [Yh,qd,DC.ac]
  have hb:=(z0 xs x (by omega)).b
  rw [hf] at hb
  have ht:List.take (xs.map V.int).length (xs.map V.int) = xs.map V.int:=zG
  (have zx:=ht);refine zgo ?_;repeat' first|exact zt|apply zan|intro hc
  all_goals first|(refine ast _ rfl rfl rfl ?_;first|rfl|(simp;done))
 ·refine aih h (by simp) fun C hC hm=>?_
  subst hC
  simp only [Yh,qd,DC.ac]
  have hb:=(z0 xs x (by omega)).b
  have hi:=hI xs (bsI ltJ xs x) x amv h0 hl
  rw [ae5,if_neg (by rw [hf];decide)]
  rw [hf] at hb
  have ht:List.take (xs.map V.int).length (xs.map V.int) = xs.map V.int:=zG
  generalize bsI ltJ xs x = i at *
  repeat' (first|(refine zsk ?_;intro K' hK)|refine zsp ?_|(refine zsc ?_ ?_<;>intro hc<;>first|exact znh|try simp only [znz] at hc)|simp (maxSteps:=1000000) only [go_sem,ht]|(refine hK _ ?_;clear hK K')|apply zan|(apply amC;(focus exact rfl);(focus first|exact hi);(focus exact rfl);(focus exact rfl);(focus (first|exact rfl|(simp;done))))|(apply aiu;(focus exact rfl);(focus exact rfl);(focus first|exact hi);(focus exact rfl);(focus (first|exact rfl|(simp;done)));(focus (first|exact rfl|(simp;done))))|(apply QA;(focus first|exact hb|exact (z0 _ _ zsd).b))|exact zsq|fail)
  all_goals first|(refine au4 _ _ rfl ⟨_,rfl⟩ rfl (by omega) rfl ?_;first|rfl|(simp;done))
 ·refine Xi h (by simp) (by intro y hy;rw [zy.1 hy];simp only [V.noSl]) fun C hC hm=>?_
  subst hC
  simp only [Yh,qd,DC.ac]
  have hb:=(z0 [] x (by simp)).b
  have hw:=hW x
  simp only [zH] at hb
  have hb:=hb.le2 (LeV.nil 1) (LeV.refl _)
  refine zgo ?_;repeat' first|exact zt|apply zan|intro hc
  all_goals first|(refine yK (xs:=[V.int x]) _ _ rfl ?_ ?_<;>first|rfl|(simp;done))
structure JG where
 num:Nat
 hosts:List (List UInt8)
 machs:List Int
 finds:List Nat
def mhd (a:Nat) (ms:List Int):V:=if ms = [] then af5 else .hd a 0 ms.length
def JG.own (e:JG) (a:Nat):V:=.agg [V.int e.num,.hd a 0 e.hosts.length,mhd (a + 1) e.machs,.hd (a + 2) 0 e.finds.length]
def ye:Nat→List JG→List V
 | _,[]=>[]
 | n,e :: r=>e.own n :: ye (n + 3) r
theorem U2:∀ (es:List JG) (n:Nat),(ye n es).length = es.length
 | [],_=>rfl
 | e :: r,n=>by simp only [ye,List.length_cons,U2 r]
theorem Ky:∀ (es:List JG) (n j:Nat),(ye n es)[j]? = (es[j]?).map fun e=>e.own (n + 3 * j)
 | [],n,j=>by simp [ye]
 | e :: r,n,0=>by simp [ye]
 | e :: r,n,j + 1=>by
   simp only [ye,List.getElem?_cons_succ]
   rw [Ky r (n + 3) j,show n + 3 + 3 * j = n + 3 * (j + 1) by omega]
def mob (ms:List Int):Ob:=if ms = [] then .dead else .buf true 1 (ms.map V.int)
def rowE:List JG→List Ob
 | []=>[]
 | e :: r=>.buf true 1 (e.hosts.map V.str) :: mob e.machs :: .buf true 1 (QL e.finds) :: rowE r
theorem acE:∀ es:List JG,(rowE es).length = 3 * es.length
 | []=>rfl
 | e :: r=>by simp only [rowE,List.length_cons,acE r];omega
theorem WE:∀ (es:List JG) (j:Nat),(rowE es)[3 * j]? = (es[j]?).map fun e=>.buf true 1 (e.hosts.map V.str)
 | [],j=>by simp [rowE]
 | e :: r,0=>by simp [rowE]
 | e :: r,j + 1=>by
   rw [show 3 * (j + 1) = 3 * j + 1 + 1 + 1 by omega]
   simp only [rowE,List.getElem?_cons_succ,WE r j]
theorem Kx:∀ (es:List JG) (j:Nat),(rowE es)[3 * j + 1]? = (es[j]?).map fun e=>mob e.machs
 | [],j=>by simp [rowE]
 | e :: r,0=>by simp [rowE]
 | e :: r,j + 1=>by
   rw [show 3 * (j + 1) + 1 = (3 * j + 1) + 1 + 1 + 1 by omega]
   simp only [rowE,List.getElem?_cons_succ,Kx r j]
theorem WD:∀ (es:List JG) (j:Nat),(rowE es)[3 * j + 2]? = (es[j]?).map fun e=>.buf true 1 (QL e.finds)
 | [],j=>by simp [rowE]
 | e :: r,0=>by simp [rowE]
 | e :: r,j + 1=>by
   rw [show 3 * (j + 1) + 2 = (3 * j + 2) + 1 + 1 + 1 by omega]
   simp only [rowE,List.getElem?_cons_succ,WD r j]
theorem aof:∀ a b:List JG,rowE (a++b) = rowE a++rowE b
 | [],b=>rfl
 | e :: r,b=>by simp only [List.cons_append,rowE,aof r b]
def af3 (x:List Nat) (nm:Nat→Nat) (k:Nat):Nat:=match x[k]? with|some a=>a|none=>nm (k - x.length)
def eO (p K W:List Nat) (fx:List Ob) (es:List JG):List Ob:=.box true (QL p) :: .map (QL K) (QL W) 0 :: .obuf true 4 (ye (3 + fx.length) es) :: (fx++rowE es)
theorem aim (p K W:List Nat) (fx:List Ob) (es:List JG):(eO p K W fx es).length = 3 + fx.length + 3 * es.length:=by
 simp only [eO,List.length_cons,zv,acE];omega
theorem abq (p K W:List Nat) (fx:List Ob) (es:List JG) (q:Nat):(eO p K W fx es)[3 + fx.length + q]? = (rowE es)[q]?:=by
 rw [show 3 + fx.length + q = fx.length + q + 1 + 1 + 1 by omega]
 simp only [eO,List.getElem?_cons_succ]
 rw [ke (by omega)];congr 1;omega
theorem avS (τ:Nat→Nat) (a:Nat) (ms:List Int):(mhd a ms).ren τ = mhd (τ a) ms:=by
 unfold mhd;split<;>rfl
theorem axx {a n:Nat} (ms:List Int) (h:a < n):(mhd a ms).lt n:=by
 unfold mhd;split
 ·simp only [V.lt]
 ·exact h
theorem aom {τ:Nat→Nat}:∀ (es:List JG) (n j:Nat),(Ks τ (ye n es))[j]? = (es[j]?).map fun e=>.agg [V.int (e.num:Nat),.hd (τ (n + 3 * j)) 0 e.hosts.length,mhd (τ (n + 3 * j + 1)) e.machs,.hd (τ (n + 3 * j + 2)) 0 e.finds.length]
 | [],n,j=>by simp [ye,Ks]
 | e :: r,n,0=>by simp [ye,Ks,JG.own,V.ren,avS]
 | e :: r,n,j + 1=>by
   simp only [ye,Ks,List.getElem?_cons_succ]
   rw [aom r (n + 3) j,show n + 3 + 3 * j = n + 3 * (j + 1) by omega]
theorem arl:∀ (es:List JG) (n m:Nat),n + 3 * es.length≤m→ltL m (ye n es)
 | [],_,_,_=>trivial
 | e :: r,n,m,h=>by
   simp only [List.length_cons] at h
   refine ⟨⟨trivial,?_,axx _ (by omega),?_,trivial⟩,arl r (n + 3) m (by omega)⟩
   ·show n < m;omega
   ·show n + 2 < m;omega
theorem wx {x:List Nat} {nm:Nat→Nat} {k:Nat} (h:x.length≤k):af3 x nm k = nm (k - x.length):=by
 rw [af3,ki h]
theorem adz {x:List Nat} {nm:Nat→Nat} {k:Nat} (h:k < x.length):af3 x nm k = x[k]:=by
 rw [af3,zd h]
theorem ady {x:List Nat} {nm:Nat→Nat} {k:Nat} (h:k < x.length):af3 x nm k = x.getD k 0:=by
 rw [adz h,zI,zd h];rfl
theorem apu {p:List Nat} {τ:Nat→Nat} {n:Nat} {c:Bool}:(Ob.box c (QL p)).weak τ n (.box c (QL p)):=⟨id,(QH _ _).symm,Q6 _ _⟩
theorem an7 {s:St} {ts:List (Nat×V)} {p K W:List Nat} {fx:List Ob} {es:List JG} {n:Nat} (hnn:3 + fx.length + 3 * es.length≤n) (x:List Nat) (nm:Nat→Nat) (els:List V) (hx:x.length = 3 + fx.length)
  (ht:∀ q∈ts,s.t q.1 = q.2.ren (af3 x nm)∧q.2.lt n)
  (h0:s.o (x.getD 0 0) = some (.box true (QL p))) (h1:s.o (x.getD 1 0) = some (.map (QL K) (QL W) 0)) (h2:s.o (x.getD 2 0) = some (.obuf true 4 els)∨(es = []∧s.o (x.getD 2 0) = some (.buf true 4 [])))
  (hfx:∀ k y,fx[k]? = some y→∃ z,s.o (x.getD (3 + k) 0) = some z∧z.weak (af3 x nm) n y)
  (hel:∀ j:Nat,els[j]? = (es[j]?).map fun e=>.agg [V.int e.num,.hd (nm (3 * j)) 0 e.hosts.length,mhd (nm (3 * j + 1)) e.machs,.hd (nm (3 * j + 2)) 0 e.finds.length])
  (hr:∀ (j:Nat) (e:JG),es[j]? = some e→s.o (nm (3 * j)) = some (.buf true 1 (e.hosts.map V.str))∧(∃ y,s.o (nm (3 * j + 1)) = some y∧(e.machs≠[]→y = .buf true 1 (e.machs.map V.int)))∧s.o (nm (3 * j + 2)) = some (.buf true 1 (QL e.finds)))
  (hn:x.Nodup) (hnx:∀ q,q < 3 * es.length→nm q ∉ x) (hni:∀ a b,a < 3 * es.length→b < 3 * es.length→nm a = nm b→a = b):anX 0 (af3 x nm) s { t:=yR ts,o:=fun k=>(eO p K W fx es)[k]?,n:=n }:=by
 have hxl:3≤x.length:=by omega
 refine ⟨fun i=>?_,fun a y hy=>?_,fun a b ha hb hab=>?_,fun k hk=>absurd hk (ZD _),zJ _⟩
 ·rcases abh ts i with h|h
  ·exact .inl h
  ·right;exact ht _ h
 ·have hy:(eO p K W fx es)[a]? = some y:=hy
  obtain ⟨ha,_⟩:=zl.1 hy
  rw [aim] at ha
  refine ⟨by show a < n;omega,?_⟩
  match a,ha,hy with
  | 0,_,hy =>
    rw [ady (by omega)]
    simp only [eO,List.getElem?_cons_zero,zf] at hy
    subst hy
    exact ⟨_,h0,apu⟩
  | 1,_,hy =>
    rw [ady (by omega)]
    simp only [eO,List.getElem?_cons_succ,List.getElem?_cons_zero,zf] at hy
    subst hy
    exact ⟨_,h1,rfl,rfl,(QH _ _).symm,Q6 _ _⟩
  | 2,_,hy =>
    rw [ady (by omega)]
    simp only [eO,List.getElem?_cons_succ,List.getElem?_cons_zero,zf] at hy
    subst hy
    rcases h2.symm with ⟨he0,h2'⟩|h2'
    ·subst he0;exact ⟨_,h2',id,rfl,rfl⟩
    refine ⟨_,h2',id,rfl,?_,arl _ _ _ (by show _≤n;omega)⟩
    apply Z8
    intro j
    rw [hel,aom]
    cases es[j]? with
    | none=>rfl
    | some e =>
      simp only [Option.map_some]
      rw [wx (by omega),wx (by omega),wx (by omega),hx]
      rw [show 3 + fx.length + 3 * j - (3 + fx.length) = 3 * j by omega,show 3 + fx.length + 3 * j + 1 - (3 + fx.length) = 3 * j + 1 by omega,show 3 + fx.length + 3 * j + 2 - (3 + fx.length) = 3 * j + 2 by omega]
  | a + 3,ha,hy =>
    by_cases hfa:a < fx.length
    ·rw [ady (by omega),show a + 3 = 3 + a by omega]
     simp only [eO,List.getElem?_cons_succ] at hy
     rw [kf hfa] at hy
     exact hfx a y hy
    ·obtain ⟨q,rfl⟩:∃ q,a = fx.length + q:=⟨a - fx.length,by omega⟩
     rw [show fx.length + q + 3 = 3 + fx.length + q by omega] at hy ⊢
     rw [abq] at hy
     rw [wx (by omega),hx,show 3 + fx.length + q - (3 + fx.length) = q by omega]
     obtain ⟨j,hq⟩:∃ j,q = 3 * j∨q = 3 * j + 1∨q = 3 * j + 2:=⟨q / 3,by omega⟩
     rcases hq with rfl|rfl|rfl
     ·rw [WE] at hy
      simp only [zh] at hy
      obtain ⟨e,he,rfl⟩:=hy
      exact ⟨_,(hr j e he).1,id,rfl,rfl⟩
     ·rw [Kx] at hy
      simp only [zh] at hy
      obtain ⟨e,he,rfl⟩:=hy
      obtain ⟨y,hy1,hy2⟩:=(hr j e he).2.1
      refine ⟨y,hy1,?_⟩
      unfold mob
      split
      ·cases y<;>trivial
      ·rename_i hne
       rw [hy2 hne]
       exact ⟨id,rfl,rfl⟩
     ·rw [WD] at hy
      simp only [zh] at hy
      obtain ⟨e,he,rfl⟩:=hy
      exact ⟨_,(hr j e he).2.2,id,rfl,rfl⟩
 ·have la:a < 3 + fx.length + 3 * es.length:=by
   rw [← aim p K W fx es]
   exact Nat.lt_of_not_le fun h=>ha (ki h)
  have lb:b < 3 + fx.length + 3 * es.length:=by
   rw [← aim p K W fx es]
   exact Nat.lt_of_not_le fun h=>hb (ki h)
  by_cases h1:a < x.length<;>by_cases h2:b < x.length
  ·rw [adz h1,adz h2] at hab
   exact (List.getElem_inj hn).1 hab
  ·rw [adz h1,wx (by omega)] at hab
   exact (hnx (b - x.length) (by omega) (hab ▸ zV h1)).elim
  ·rw [adz h2,wx (by omega)] at hab
   exact (hnx (a - x.length) (by omega) (hab.symm ▸ zV h2)).elim
  ·rw [wx (by omega),wx (by omega)] at hab
   have:=hni _ _ (by omega) (by omega) hab
   omega
def akr (k:Nat):List Nat→Nat→Option Nat
 | [],_=>none
 | e :: r,i=>if k = e then some i else akr k r (i + 1)
theorem ab1 (k:Nat):∀ (ks:List Nat) (i:Nat),XI false [0] (V.int (k:Int)) (QL ks) i = some (akr k ks i)
 | [],_=>rfl
 | e :: r,i=>by
   have h:xB false [0] (V.int (k:Int)) (V.int (e:Int)) = some ((k:Int) == (e:Int)):=by simp [xB,Yk]
   rw [QL,zE,XI,h]
   by_cases hk:k = e
   ·subst hk;simp [akr]
   ·have:((k:Int) == (e:Int)) = false:=by simp;omega
    rw [this];simp only [akr,if_neg hk]
    exact ab1 k r (i + 1)
theorem ar3 {k:Nat}:∀ {ks:List Nat} {i a:Nat},akr k ks i = some a→i≤a∧a < i + ks.length∧ks[a - i]? = some k
 | [],_,_,h=>by cases h
 | e :: r,i,a,h=>by
   rw [akr] at h
   split at h
   ·rename_i he;cases h;subst he;simp
   ·have:=ar3 h
    simp only [List.length_cons]
    refine ⟨by omega,by omega,?_⟩
    rw [show a - i = (a - (i + 1)) + 1 by omega,List.getElem?_cons_succ]
    exact this.2.2
theorem aoE {k:Nat}:∀ {ks:List Nat} {i a:Nat} (r:List Nat),akr k ks i = some a→akr k (ks++r) i = some a
 | [],_,_,_,h=>by cases h
 | e :: t,i,a,r,h=>by
   rw [akr] at h
   rw [List.cons_append,akr]
   split at h
   ·rename_i he;rw [if_pos he];exact h
   ·rename_i he;rw [if_neg he];exact aoE r h
theorem akq {k:Nat}:∀ {ks:List Nat} {i:Nat},(∀ x∈ks,x≠k)→akr k (ks++[k]) i = some (i + ks.length)
 | [],i,_=>by simp [akr]
 | e :: t,i,h=>by
   have h1:=h e (kD ..)
   rw [List.cons_append,akr,if_neg (fun x=>h1 x.symm),akq fun x hx=>h x (kp _ hx),List.length_cons]
   congr 1;omega
theorem alN {k:Nat}:∀ {ks:List Nat} {i:Nat},(∀ x∈ks,x≠k)→akr k ks i = none
 | [],i,_=>rfl
 | e :: t,i,h=>by
   rw [akr,if_neg (fun x=>h e (kD ..) x.symm)]
   exact alN fun x hx=>h x (kp _ hx)
theorem aps {p:List Nat} (h:PW p):∀ i,Ut p (Ut p i) = Ut p i:=by
 intro i
 induction i using Nat.strongRecOn with
 | _ i ih =>
   rcases e:p[i]? with _|j
   ·have:Ut p i = i:=by rw [Ut,ali,e]
    rw [this,this]
   ·rw [abT h e]
    have:=h.le i j e
    split
    ·rename_i hj;rw [abT h e,if_pos hj]
    ·exact ih j (by omega)
def Jh (i:Nat) (f:Qa) (e:JG):JG:={ e with hosts:=ae5 Op.bytesLess e.hosts f.host,finds:=e.finds++[i] }
def Xx (i:Nat) (f:Qa) (e:JG):JG:={ Jh i f e with machs:=if f.mach = 0 then e.machs else ae5 ltJ e.machs f.mach }
def akG (p:List Nat) (es:List JG) (i:Nat) (f:Qa):List JG :=
 if Ut p i = i then es++[Xx i f ⟨i,[],[],[]⟩] else
 match akr (Ut p i) (es.map JG.num) 0 with
 | some a=>(match es[a]? with|some e=>es.set a (Xx i f e)|none=>es)
 | none=>es
def Xw (l:List Qa) (p:List Nat):Nat→List JG
 | 0=>[]
 | k + 1=>match l[k]? with
   | some f=>akG p (Xw l p k) k f
   | none=>Xw l p k
def Xj (l:List Qa) (gap:Int):List JG:=Xw l (apR l gap) l.length
structure ESz (k:Nat) (e:JG):Prop where
 num:e.num < k
 h0:0 < e.hosts.length
 h1:e.hosts.length≤k
 f0:0 < e.finds.length
 f1:e.finds.length≤k
 m1:e.machs.length≤k
 fl:∀ i∈e.finds,i < k
structure EI (p:List Nat) (k:Nat) (es:List JG):Prop where
 sz:∀ e∈es,ESz k e
 len:es.length≤k
 has:∀ j,j < k→Ut p j = j→∃ a,akr j (es.map JG.num) 0 = some a
theorem ae4 {α:Type} [BEq α] {lt:α→α→Bool} (l:List α) (x:α):(ae5 lt l x).length≤l.length + 1∧0 < (ae5 lt l x).length:=by
 unfold ae5
 split
 ·rename_i h
  refine ⟨by omega,?_⟩
  unfold Ux at h
  split at h
  ·rename_i y hy
   have:=(zl.1 hy).1
   omega
  ·cases h
 ·have:=amv (lt:=lt) (l:=l) (x:=x)
  simp only [zv,List.length_cons,zU,kF]
  omega
theorem ahd {α:Type} [BEq α] {lt:α→α→Bool} (x:α):ae5 lt [] x = [x]:=by
 simp [ae5,Ux,bsI,aqr]
theorem ESz.upd {k:Nat} {e:JG} {f:Qa} (h:ESz k e):ESz (k + 1) (Xx k f e):=by
 obtain ⟨a1,a2,a3,a4,a5,a6,a7⟩:=h
 have g1:=ae4 (lt:=Op.bytesLess) e.hosts f.host
 have g2:=ae4 (lt:=ltJ) e.machs f.mach
 refine ⟨by simp only [Xx,Jh];omega,by simp only [Xx,Jh];omega,by simp only [Xx,Jh];omega,by simp only [Xx,Jh,zv,List.length_singleton];omega,by simp only [Xx,Jh,zv,List.length_singleton];omega,?_,fun i hi=>?_⟩
 ·simp only [Xx,Jh];split<;>omega
 ·simp only [Xx,Jh,zP,zy] at hi
  rcases hi with hi|hi
  ·have:=a7 i hi;omega
  ·omega
theorem ESz.new {k:Nat} {f:Qa}:ESz (k + 1) (Xx k f ⟨k,[],[],[]⟩):=by
 have g1:=ae4 (lt:=Op.bytesLess) [] f.host
 have g2:=ae4 (lt:=ltJ) [] f.mach
 simp only [List.length_nil] at g1 g2
 refine ⟨by simp only [Xx,Jh];omega,by simp only [Xx,Jh];omega,by simp only [Xx,Jh];omega,by simp [Xx,Jh],by simp [Xx,Jh],?_,fun i hi=>?_⟩
 ·simp only [Xx,Jh];split
  ·simp
  ·omega
 ·simp only [Xx,Jh,List.nil_append,zy] at hi;omega
theorem ESz.mono {k:Nat} {e:JG} (h:ESz k e):ESz (k + 1) e:=⟨bd h.num,h.h0,Zb h.h1,h.f0,Zb h.f1,Zb h.m1,fun i hi=>bd (h.fl i hi)⟩
theorem EI.find {p:List Nat} {k:Nat} {es:List JG} (hp:PW p) (h:EI p k es) (hk:Ut p k≠k):∃ a e,akr (Ut p k) (es.map JG.num) 0 = some a∧es[a]? = some e∧e.num = Ut p k:=by
 have h1:=aha hp k
 obtain ⟨a,ha⟩:=h.has _ (by omega) (aps hp k)
 obtain ⟨_,h2,h3⟩:=ar3 ha
 rw [Nat.sub_zero,zo,zh] at h3
 obtain ⟨e,he,hn⟩:=h3
 exact ⟨a,e,ha,he,hn⟩
theorem wT {es:List JG} {a:Nat} {e e1:JG} (h:es[a]? = some e) (hn:e1.num = e.num):(es.set a e1).map JG.num = es.map JG.num:=by
 rw [Zt]
 apply Z8
 intro j
 rw [kr]
 split
 ·rename_i hj;subst hj
  rw [zb,if_pos (zl.1 h).1,zo,h,hn];rfl
 ·rfl
theorem EI.step {p:List Nat} {k:Nat} {es:List JG} {f:Qa} (hp:PW p) (h:EI p k es):EI p (k + 1) (akG p es k f):=by
 obtain ⟨s1,s2,s3⟩:=h
 by_cases hk:Ut p k = k
 ·rw [akG,if_pos hk]
  refine ⟨fun e he=>?_,by rw [zv,List.length_singleton];omega,fun j hj hjr=>?_⟩
  ·rcases zP.1 he with he|he
   ·exact (s1 e he).mono
   ·rw [zy.1 he];exact ESz.new
  ·rw [kj]
   rcases Nat.lt_or_eq_of_le (Nat.le_of_lt_succ hj) with hj|rfl
   ·obtain ⟨a,ha⟩:=s3 j hj hjr
    exact ⟨a,aoE _ ha⟩
   ·refine ⟨_,akq fun x hx=>?_⟩
    obtain ⟨e,he,rfl⟩:=kc.1 hx
    have:=(s1 e he).num
    omega
 ·obtain ⟨a,e,ha,he,hn⟩:=EI.find hp ⟨s1,s2,s3⟩ hk
  rw [akG,if_neg hk,ha]
  simp only [he]
  have hm:(es.set a (Xx k f e)).map JG.num = es.map JG.num:=by
   rw [Zt]
   apply Z8
   intro j
   rw [kr]
   split
   ·rename_i hj;subst hj
    rw [zb,if_pos (zl.1 he).1,zo,he];rfl
   ·rfl
  refine ⟨fun y hy=>?_,by rw [zN];omega,fun j hj hjr=>?_⟩
  ·rcases Zh hy with hy|rfl
   ·exact (s1 y hy).mono
   ·exact (s1 e (zq he)).upd
  ·rw [hm]
   rcases Nat.lt_or_eq_of_le (Nat.le_of_lt_succ hj) with hj|rfl
   ·exact s3 j hj hjr
   ·exact (hk hjr).elim
theorem vV {l:List Qa} {p:List Nat} (hp:PW p):∀ k,k≤l.length→EI p k (Xw l p k)
 | 0,_=>⟨by simp [Xw],zj _,fun j hj=>absurd hj (ZD _)⟩
 | k + 1,hk=>by
   have ih:=vV (l:=l) hp k (by omega)
   rw [Xw,zd (by omega)]
   exact ih.step hp
theorem anH {l:List Qa} {p:List Nat} {k:Nat} {f:Qa} (h:l[k]? = some f):Xw l p (k + 1) = akG p (Xw l p k) k f:=by rw [Xw,h]
def JG.v (e:JG):V:=.agg [V.int e.num,.sl 1 (e.hosts.map V.str),.sl 1 (e.machs.map V.int),.sl 1 (QL e.finds)]
section
variable {C:Ctx} {nt:Nat} {s:St} {K:St→Prop} {E:Nat→St→Prop} {R:St→Prop}
theorem ao9 {x:AC} {ι:Type} (good:ι→Prop) (mid:ι→St) (pre:St→St) (h:∀ K':St→Prop,(∀ s' i τ,good i→anX C.m τ (pre s') (mid i)→K' s')→AWp C nt x s K' E R) (h':∀ i,good i→∀ s' τ,anX C.m τ (pre s') (mid i)→K s'):AWp C nt x s K E R:=h K fun s' i τ g w=>h' i g s' τ w
end
def aci (f:Qa) (e:JG):JG:={ e with machs:=if f.mach = 0 then e.machs else ae5 ltJ e.machs f.mach }
def ayY (l:List Qa) (p:List Nat) (k:Nat) (f:Qa) (q:List JG×Nat×JG):Prop:=q.1[q.2.1]? = some q.2.2∧q.1.set q.2.1 (aci f q.2.2) = Xw l p (k + 1)∧q.1.length≤400∧q.2.2.machs.length≤400
def nmS (N a H M F q:Nat):Nat:=if q = 3 * a then H else if q = 3 * a + 1 then M else if q = 3 * a + 2 then F else N + q
theorem ahP {s:St} {ts:List (Nat×V)} {p K W:List Nat} {fx:List Ob} {es0 es1:List JG} {e1:JG} {N a H M F:Nat} {els:List V} (x:List Nat) (hes:es1 = es0.set a e1) (hx:x.length = 3 + fx.length) (ha:a < es0.length) (hlen:es0.length≤400)
  (ht:∀ q∈ts,s.t q.1 = q.2.ren (af3 x (nmS N a H M F))∧q.2.lt 2000) (hfl:fx.length≤1)
  (h0:s.o (x.getD 0 0) = some (.box true (QL p))) (h1:s.o (x.getD 1 0) = some (.map (QL K) (QL W) 0)) (h2:s.o (x.getD 2 0) = some (.obuf true 4 els))
  (hfx:∀ k y,fx[k]? = some y→∃ z,s.o (x.getD (3 + k) 0) = some z∧z.weak (af3 x (nmS N a H M F)) 2000 y)
  (hels:∀ j,els[j]? = if j = a then some (.agg [V.int e1.num,.hd H 0 e1.hosts.length,mhd M e1.machs,.hd F 0 e1.finds.length]) else (ye N es0)[j]?)
  (hfar:∀ q y,q < 3 * es0.length→q / 3≠a→(rowE es0)[q]? = some y→s.o (N + q) = some y)
  (hH:s.o H = some (.buf true 1 (e1.hosts.map V.str))) (hM:∃ y,s.o M = some y∧(e1.machs≠[]→y = .buf true 1 (e1.machs.map V.int))) (hF:s.o F = some (.buf true 1 (QL e1.finds)))
  (hn:x.Nodup) (hxn:∀ q,q < 3 * es0.length→N + q ∉ x) (hHx:H ∉ x∧M ∉ x∧F ∉ x) (hd:H≠M∧H≠F∧M≠F)
  (hHN:H = N + 3 * a∨H < N∨N + 3 * es0.length≤H) (hMN:M = N + (3 * a + 1)∨M < N∨N + 3 * es0.length≤M) (hFN:F = N + (3 * a + 2)∨F < N∨N + 3 * es0.length≤F) :
  anX 0 (af3 x (nmS N a H M F)) s { t:=yR ts,o:=fun k=>(eO p K W fx es1)[k]?,n:=2000 }:=by
 subst hes
 have a0:nmS N a H M F (3 * a) = H:=by rw [nmS,if_pos rfl]
 have a1:nmS N a H M F (3 * a + 1) = M:=by rw [nmS,if_neg (by omega),if_pos rfl]
 have a2:nmS N a H M F (3 * a + 2) = F:=by rw [nmS,if_neg (by omega),if_neg (by omega),if_pos rfl]
 have a3:∀ q,q / 3≠a→nmS N a H M F q = N + q:=fun q hq=>by rw [nmS,if_neg (by omega),if_neg (by omega),if_neg (by omega)]
 have b1:∀ q,q / 3 = a→(q = 3 * a∨q = 3 * a + 1∨q = 3 * a + 2):=fun q hq=>by omega
 have gt:∀ j,(es0.set a e1)[j]? = if j = a then some e1 else es0[j]?:=fun j=>by
  rw [kr]
  by_cases hj:a = j
  ·subst hj;rw [if_pos rfl,if_pos ha,if_pos rfl]
  ·rw [if_neg hj,if_neg (fun e=>hj e.symm)]
 refine an7 (n:=2000) (by rw [zN];omega) x _ els hx ht h0 h1 (.inl h2) hfx (fun j=>?_) (fun j e he=>?_) hn (fun q hq=>?_) (fun c d hc hd' hcd=>?_)
 ·rw [hels,gt]
  by_cases hj:j = a
  ·subst hj;rw [if_pos rfl,if_pos rfl,a0,a1,a2];rfl
  ·rw [if_neg hj,if_neg hj,Ky,a3 _ (by omega),a3 _ (by omega),a3 _ (by omega)]
   cases es0[j]? with
   | none=>rfl
   | some e=>simp only [Option.map_some,JG.own,kV]
 ·rw [gt] at he
  by_cases hj:j = a
  ·subst hj
   rw [if_pos rfl] at he;cases he
   rw [a0,a1,a2]
   exact ⟨hH,hM,hF⟩
  ·rw [if_neg hj] at he
   have hjl:=(zl.1 he).1
   rw [a3 _ (by omega),a3 _ (by omega),a3 _ (by omega)]
   refine ⟨hfar _ _ (by omega) (by omega) (by rw [WE,he];rfl),⟨mob e.machs,hfar _ _ (by omega) (by omega) (by rw [Kx,he];rfl),fun hne=>by rw [mob,if_neg hne]⟩,hfar _ _ (by omega) (by omega) (by rw [WD,he];rfl)⟩
 ·rw [zN] at hq
  by_cases hqa:q / 3 = a
  ·rcases b1 q hqa with rfl|rfl|rfl
   ·rw [a0];exact hHx.1
   ·rw [a1];exact hHx.2.1
   ·rw [a2];exact hHx.2.2
  ·rw [a3 q hqa];exact hxn q hq
 ·rw [zN] at hc hd'
  obtain ⟨d1,d2,d3⟩:=hd
  by_cases hca:c / 3 = a<;>by_cases hda:d / 3 = a
  ·rcases b1 c hca with rfl|rfl|rfl<;>rcases b1 d hda with rfl|rfl|rfl<;>simp only [a0,a1,a2] at hcd<;>omega
  ·rw [a3 d hda] at hcd
   rcases b1 c hca with rfl|rfl|rfl<;>simp only [a0,a1,a2] at hcd<;>omega
  ·rw [a3 c hca] at hcd
   rcases b1 d hda with rfl|rfl|rfl<;>simp only [a0,a1,a2] at hcd<;>omega
  ·rw [a3 c hca,a3 d hda] at hcd;omega
def awd (l:List Qa) (gap:Int):V:=if Y6 l gap = 0 then .tup [.sl 4 ((Xj l gap).map JG.v),V.int 0] else .tup [.sl 4 [],V.int (Y6 l gap)]
def eTs (l:List Qa) (n k:Nat):List (Nat×V):=[(7,.ptr 0 0),(8,.hd 2 0 n),(9,.mp 1),(24,.sl 11 (l.map Qa.v)),(25,V.int l.length),(26,V.int k)]
def eSt (l:List Qa) (p:List Nat) (es:List JG) (k:Nat):St:={ t:=yR (eTs l es.length k),o:=fun a=>(eO p (es.map JG.num) (List.range es.length) [] es)[a]?,n:=2000 }
def mTs (l:List Qa) (n a k:Nat):List (Nat×V):=[(7,.ptr 0 0),(8,.hd 2 0 n),(9,.mp 1),(11,.ptr 3 0),(13,.ept 2 a 0),(24,.sl 11 (l.map Qa.v)),(25,V.int l.length),(26,V.int k)]
def mSt (l:List Qa) (p:List Nat) (es:List JG) (f:Qa) (a k:Nat):St:={ t:=yR (mTs l es.length a k),o:=fun x=>(eO p (es.map JG.num) (List.range es.length) [.box true f.cells] es)[x]?,n:=2000 }
theorem aiR (n:Nat):QL (List.range n)++[V.int (n:Int)] = QL (List.range (n + 1)):=by rw [vK,ZO]
theorem aol {o:Nat→Option Ob}:∀ (es:List JG) (n:Nat),(∀ q y,(rowE es)[q]? = some y→o (n + q) = some y)→QR o [] none (ye n es) (es.map JG.v)
 | [],_,_=>trivial
 | e :: r,n,h=>by
   have h0:=h 0 _ rfl
   have h1:=h 1 _ rfl
   have h2:=h 2 _ rfl
   refine ⟨⟨rfl,?_,?_,?_,trivial⟩,aol r (n + 3) fun q y hq=>?_⟩
   ·rw [anL];exact ⟨trivial,by simp,.inl ⟨true,_,h0,by rw [kZ,zi (by simp)]⟩⟩
   ·unfold mhd
    split
    ·rename_i hm;rw [hm];rfl
    ·rename_i hm
     rw [mob,if_neg hm] at h1
     rw [anL];exact ⟨trivial,by simp,.inl ⟨true,_,h1,by rw [kZ,zi (by simp)]⟩⟩
   ·rw [anL];exact ⟨trivial,by simp,.inl ⟨true,_,h2,by rw [kZ,zi (by rw [X7];exact zj _)]⟩⟩
   ·rw [show n + 3 + q = n + (q + 1 + 1 + 1) by omega]
    exact h (q + 1 + 1 + 1) y (by simpa [rowE] using hq)
theorem ass:∀ es:List JG,ntL (es.map JG.v)
 | []=>trivial
 | e :: r=>⟨by simp [JG.v],ass r⟩
theorem aga:∀ es:List JG,Qb (es.map JG.v)
 | []=>trivial
 | e :: r=>⟨by simp only [JG.v,V.closed,Qb,and_self],aga r⟩
theorem arJ {t:Nat→V} {l:List Qa} {n a k:Nat} {τ:Nat→Nat} (h7:t 7 = .ptr (τ 0) 0) (h8:t 8 = .hd (τ 2) 0 n) (h9:t 9 = .mp (τ 1)) (h11:t 11 = .ptr (τ 3) 0) (h13:t 13 = .ept (τ 2) a 0) (h24:t 24 = .sl 11 (l.map Qa.v)) (h25:t 25 = V.int l.length) (h26:t 26 = V.int k):∀ q∈mTs l n a k,t q.1 = q.2.ren τ∧q.2.lt 2000:=by
 intro q hq
 simp only [mTs,zw,zD,or_false] at hq
 rcases hq with rfl|rfl|rfl|rfl|rfl|rfl|rfl|rfl
 ·exact ⟨h7,by show 0 < 2000;omega⟩
 ·exact ⟨h8,by show 2 < 2000;omega⟩
 ·exact ⟨h9,by show 1 < 2000;omega⟩
 ·exact ⟨h11,by show 3 < 2000;omega⟩
 ·exact ⟨h13,by show 2 < 2000;omega⟩
 ·exact ⟨h24,trivial⟩
 ·exact ⟨h25,trivial⟩
 ·exact ⟨h26,trivial⟩
theorem agc {t:Nat→V} {l:List Qa} {n k:Nat} {τ:Nat→Nat} (h7:t 7 = .ptr (τ 0) 0) (h8:t 8 = .hd (τ 2) 0 n) (h9:t 9 = .mp (τ 1)) (h24:t 24 = .sl 11 (l.map Qa.v)) (h25:t 25 = V.int l.length) (h26:t 26 = V.int k):∀ q∈eTs l n k,t q.1 = q.2.ren τ∧q.2.lt 2000:=by
 intro q hq
 simp only [eTs,zw,zD,or_false] at hq
 rcases hq with rfl|rfl|rfl|rfl|rfl|rfl
 ·exact ⟨h7,by show 0 < 2000;omega⟩
 ·exact ⟨h8,by show 2 < 2000;omega⟩
 ·exact ⟨h9,by show 1 < 2000;omega⟩
 ·exact ⟨h24,trivial⟩
 ·exact ⟨h25,trivial⟩
 ·exact ⟨h26,trivial⟩
theorem av4 {o:Nat→Option Ob} {f:Qa} {τ:Nat→Nat} {n x3:Nat} {x:List Nat} (hx:x.getD 3 0 = x3) (h:o x3 = some (.box true f.cells)):∀ k y,[Ob.box true f.cells][k]? = some y→∃ z,o (x.getD (3 + k) 0) = some z∧z.weak τ n y:=by
 intro k y hy
 match k,hy with
 | 0,hy =>
   simp only [List.getElem?_cons_zero,zf] at hy
   subst hy
   rw [hx]
   exact ⟨_,h,id,(Qy _ _ (by simp only [Qa.cells,V.closed,Qb,and_self])).symm,YG _ _ (by simp only [Qa.cells,V.closed,Qb,and_self])⟩
def Wt:=qd Proofs.Tryz.f36 [⟨fun _=>false,[4,6,7],.one 0 (.one 1 (.one 2 (.one 3 (.one 5 (.or 4 (.one 6 (.one 7 (.one 8 (.one 9 (.one 10 (.done)))))) (.or 6 (.one 4 (.one 7 (.one 8 (.one 9 (.one 10 (.done)))))) (.done)))))))⟩,⟨fun _=>false,[5,7,8,12],.one 0 (.one 1 (.one 2 (.one 3 (.one 4 (.one 6 (.one 9 (.one 10 (.one 11 (.one 13 (.one 14 (.or 5 (.or 7 (.or 8 (.one 12 (.one 15 (.one 16 (.one 17 (.one 18 (.one 19 (.one 20 (.one 21 (.done))))))))) (.or 12 (.one 8 (.one 15 (.one 16 (.one 17 (.one 18 (.one 19 (.one 20 (.one 21 (.done))))))))) (.done))) (.or 12 (.one 7 (.one 8 (.one 15 (.one 16 (.one 17 (.one 18 (.one 19 (.one 20 (.one 21 (.done)))))))))) (.done))) (.or 7 (.or 5 (.or 8 (.one 12 (.one 15 (.one 16 (.one 17 (.one 18 (.one 19 (.one 20 (.one 21 (.done))))))))) (.or 12 (.one 8 (.one 15 (.one 16 (.one 17 (.one 18 (.one 19 (.one 20 (.one 21 (.done))))))))) (.done))) (.or 12 (.one 5 (.one 8 (.one 15 (.one 16 (.one 17 (.one 18 (.one 19 (.one 20 (.one 21 (.done)))))))))) (.done))) (.or 12 (.or 5 (.one 7 (.one 8 (.one 15 (.one 16 (.one 17 (.one 18 (.one 19 (.one 20 (.one 21 (.done)))))))))) (.or 7 (.one 5 (.one 8 (.one 15 (.one 16 (.one 17 (.one 18 (.one 19 (.one 20 (.one 21 (.done)))))))))) (.done))) (.done))))))))))))))⟩]
def X4 (Γ:Env) (f:Nat):Prop:=∀ (l:List Qa) (gap:Int) (hl:l.length < 2 ^ 40) (hz:∀ x∈l,x.Sz),EvC Γ f [.sl 11 (l.map Qa.v),V.int gap] (awd l gap)
attribute [local go_sem] eSt eTs mTs in
theorem aca {Γ:Env} {f:Nat} (h:Has Γ.P f 86 Wt.1.1.ac Wt.1.2) (z0:jD Γ 81) (z2:qt Γ 82) (z3:YQ Γ 83) (z4:XU Γ 84) (z5:WZ Γ 85):X4 Γ f:=by
 intro l gap hl hz
 refine Q0 h zsi (by unfold awd;split<;>simp only [V.closed,Qb,and_self]) fun C hC hm=>?_
 subst hC
 simp only [Wt,qd,DC.ac]
 have hm:C.m = 0:=by simpa using hm
 obtain ⟨sX,sI,sW⟩:=z4
 obtain ⟨iX,iI,iW⟩:=z5
 have p0:=(z0 l gap hl hz).b
 by_cases hE:Y6 l gap = 0
 rotate_left
 ·rw [awd,if_neg hE]
  have e01:(Y6 l gap != 0) = true:=by simpa using hE
  generalize Y6 l gap = er at *
  (have zx:=e01);refine zgo ?_;repeat' first|exact zt|apply zan|intro hc
  all_goals exact zr
 obtain ⟨hl4,hd⟩:=aua hE
 rw [hE] at p0
 have p1:=z2 l gap hl4 hd
 have hp:=ahc l gap
 have hent:Xj l gap = Xw l (apR l gap) l.length:=rfl
 rw [awd,if_pos hE,hent]
 generalize apR l gap = p at *
 have e00:((0:Int) != 0) = false:=by decide
 (have zx:=e00);refine zgo ?_;repeat' first|exact zt|apply zan|intro hc
 have t0:af3 [10000,13000,12000] id 0 = 10000:=rfl
 have t1:af3 [10000,13000,12000] id 1 = 13000:=rfl
 have t2:af3 [10000,13000,12000] id 2 = 12000:=rfl
 refine Qj (ι:=Nat) (fun k=>k≤l.length) (fun k=>eSt l p (Xw l p k) k) (fun k=>l.length - k) 0 (zJ _) (af3 [10000,13000,12000] id) ?_ fun k hk K' hL=>?_
 ·rw [hm]
  refine an7 (by simp [Xw]) [10000,13000,12000] id [] rfl ?_ rfl rfl (.inr ⟨rfl,rfl⟩) (fun k y h=>by simp at h) (fun j=>by simp [Xw]) (fun j e h=>by simp [Xw] at h) (by simp) (fun q hq=>by simp [Xw] at hq) (fun a b ha=>by simp [Xw] at ha)
  simp only [go_sem,zwl,eTs,Xw,t0,t1,t2,zb]
 clear t0 t1 t2
 have hI:=vV (l:=l) hp k hk
 rcases hdr:l.drop k with _|⟨f,r⟩
 ·have hkl:=Qu hdr
  have e1:decide ((k:Int) < (l.length:Int)) = false:=by simp;omega
  obtain rfl:k = l.length:=by omega
  generalize Xw l p l.length = es at *
  (have zx:=e1);refine zgo ?_;repeat' first|exact zt|apply zan|intro hc
  all_goals
   refine Qg _ rfl ⟨?_,rfl,trivial⟩
   show conv _ _ _ (.hd 2 0 es.length) (.sl 4 (es.map JG.v))
   rw [anL]
   refine ⟨trivial,by simp,.inr ⟨true,ye 3 es,rfl,?_,ass es,aga es⟩⟩
   rw [kZ,zi (by rw [U2];exact zj _)]
   exact aol es 3 fun q y hq=>(abq p _ _ [] es q).trans hq
 obtain ⟨hk',hget,hr⟩:=Qq hdr
 have hw:=Qe (k:=k) (by omega)
 have e1:decide ((k:Int) < (l.length:Int)) = true:=by simp;omega
 have hsu:=anH (p:=p) hget
 generalize Xw l p k = es at *
 have n1:=z3 p k hp (by omega)
 by_cases hk0:Ut p k = k
 ·rw [hk0] at n1
  have e2:((k:Int) == (k:Int)) = true:=by simp
  have g0:(eO p (es.map JG.num) (List.range es.length) [] es)[0]? = some (.box true (QL p)):=rfl
  have g1:(eO p (es.map JG.num) (List.range es.length) [] es)[1]? = some (.map (QL (es.map JG.num)) (QL (List.range es.length)) 0):=rfl
  have g2:(eO p (es.map JG.num) (List.range es.length) [] es)[2]? = some (.obuf true 4 (ye 3 es)):=rfl
  have hnum:∀ x∈es.map JG.num,x≠k:=fun x hx=>by
   obtain ⟨e,he,rfl⟩:=kc.1 hx
   have:=(hI.sz e he).num
   omega
  have f1:=ab1 k (es.map JG.num) 0
  rw [alN hnum] at f1
  have f2:=ab1 k (es.map JG.num++[k]) 0
  rw [akq hnum,kH,zb] at f2
  have f3:=aik (k:Int)
  have f4:=vK (es.map JG.num) k
  have f5:=vK (List.range es.length) es.length
  have f6:(QL (List.range es.length++[es.length]))[es.length]? = some (V.int (es.length:Nat)):=Uw (by simp)
  have f7:List.take es.length (ye 3 es) = ye 3 es:=zi (by rw [U2];exact zj _)
  have f8:=U2 es 3
  have hel:=hI.len
  repeat' (first|(refine zsk ?_;intro K' hK)|refine zsp ?_|(refine zsc ?_ ?_<;>intro hc<;>first|exact znh|try simp only [znz] at hc)|simp (maxSteps:=1000000) only [go_sem,eSt,eTs,e1,e2,g0,g1,g2,f1,f2,f3,f4,f5,f6,f7,f8,Int.toNat_natCast,zo,hget,Qa.v,Qa.cells]|(refine hK _ ?_;clear hK K')|apply zan|(apply Ko;(focus exact rfl);(focus first|exact n1|exact (z3 _ _ zsd zsd));(focus exact rfl);(focus exact rfl))|(apply wQ;(focus first|exact (z2 _ _ zsd zsd)))|(apply QA;(focus first|exact (z0 _ _ zsd zsd).b))|exact zsq|fail)
  refine ao9 (ι:=List JG×Nat×JG) (ayY l p k f) (fun q=>mSt l p q.1 f q.2.1 k) (fun s=>s.keep [7,8,9,11,13,24,25,26]) (fun K2 hK2=>?_) (fun q hq s' τ hwk=>?_)
  ·have f9:=sW f.host
   have f10:(ye 3 es++[V.agg [V.int k,af5,af5,af5]])[es.length]? = some (V.agg [V.int k,af5,af5,af5]):=by
    rw [ke (by rw [f8];exact zj _),f8,k9];rfl
   have f13:∀ v:V,((ye 3 es++[V.agg [V.int k,af5,af5,af5]]).set es.length v)[es.length]? = some v:=fun v=>by rw [kr];simp [f8]
   have f14:∀ j v,((ye 3 es++[V.agg [V.int k,af5,af5,af5]]).set es.length v)[j]? = if j = es.length then some v else (ye 3 es)[j]?:=fun j v=>by
    rw [kr]
    by_cases hj:es.length = j
    ·subst hj;simp [f8]
    ·rw [if_neg hj,if_neg (fun e=>hj e.symm)]
     by_cases hj2:j < es.length
     ·rw [kf (by rw [f8];exact hj2)]
     ·rw [ki (by simp [f8];omega),ki (by rw [f8];omega)]
   generalize ye 3 es++[V.agg [V.int k,af5,af5,af5]] = L at *
   have f15:∀ v w:V,(L.set es.length v).set es.length w = L.set es.length w:=fun v w=>List.set_set ..
   repeat' (first|(refine zsk ?_;intro K' hK)|(refine zrg ?_;intro K' hK)|refine zsp ?_|(refine zsc ?_ ?_<;>intro hc<;>first|exact znh|try simp only [znz] at hc)|simp (maxSteps:=1000000) only [go_sem,f8,f10,f13,f15,Int.toNat_natCast]|(refine hK _ ?_;clear hK K')|apply zan|(apply Ko;(focus exact rfl);(focus first|exact (z3 _ _ zsd zsd));(focus exact rfl);(focus exact rfl))|(apply U4;(focus exact rfl);(focus exact zrd);(focus exact zrd);(focus first|exact (z3 _ _ zsd zsd));(focus exact rfl);(focus exact rfl);(focus exact zrd))|(apply wQ;(focus first|exact (z2 _ _ zsd zsd)))|((first|apply K0|apply Vv);(focus first|exact f9))|(apply aaE;(focus first|exact (z2 _ _ zsd zsd));(focus exact zrd))|((first|apply QA|apply Q3);(focus first|exact (z0 _ _ zsd zsd).b))|exact zsq|fail)
   all_goals
    refine hK2 _ (es++[Jh k f ⟨k,[],[],[]⟩],es.length,Jh k f ⟨k,[],[],[]⟩) (af3 [0,1,25000,6000] (nmS 3 es.length 41000 2 48000)) ⟨?_,?_,?_,?_⟩ ?_
    ·simp only;rw [ke (zj _),k9];rfl
    ·simp only;rw [hsu,akG,if_pos hk0,List.set_append_right _ _ (zj _),k9];rfl
    ·simp only [zv,List.length_singleton];omega
    ·simp only [Jh,List.length_nil];omega
    rw [hm]
    refine ahP (es0:=es++[⟨k,[],[],[]⟩]) (e1:=Jh k f ⟨k,[],[],[]⟩) (els:=L.set es.length (V.agg [V.int k,V.hd 41000 0 1,af5,V.hd 48000 0 1])) [0,1,25000,6000] ?_ rfl (by simp) (by simp;omega) (arJ rfl (by rw [zv];rfl) rfl rfl rfl rfl rfl rfl) (by simp) rfl ?_ rfl (av4 rfl rfl) (fun j=>?_) (fun q y hq hq3 hy=>?_) ?_ ⟨_,rfl,fun hne=>(hne rfl).elim⟩ rfl (by simp) (fun q hq=>?_) (by simp) (by omega) ?_ ?_ ?_
    ·simp only;rw [List.set_append_right _ _ (zj _),k9];rfl
    ·rw [kj,zv,List.length_singleton,ZO];rfl
    ·rw [f14]
     by_cases hj:j = es.length
     ·rw [if_pos hj,if_pos hj]
      simp only [Jh,ahd,mhd];rfl
     ·rw [if_neg hj,if_neg hj,Ky,Ky]
      by_cases hj2:j < es.length
      ·rw [kf hj2]
      ·rw [ki (by omega),ki (by simp;omega)]
    ·have hj:q / 3 < es.length:=by simp only [zv,List.length_singleton] at hq;omega
     simp only [St.keep,upd]
     repeat rw [if_neg (by omega)]
     rw [show 3 + q = 3 + ([]:List Ob).length + q from rfl,abq]
     rw [← hy,aof,kf (by rw [acE];omega)]
    ·simp only [Jh,ahd];rfl
    ·simp only [zw,zD,or_false,zv,List.length_singleton] at hq ⊢;omega
    ·right;right;simp;omega
    ·right;left;omega
    ·right;right;simp;omega
  ·obtain ⟨es2,a2,e2⟩:=q
   obtain ⟨q1,q2,q3,q4⟩:=hq
   simp only at q1 q2 q3 q4 hwk ⊢
   refine ahg hwk ?_
   clear hwk
   have q5:=(zl.1 q1).1
   have g0:(eO p (es2.map JG.num) (List.range es2.length) [.box true f.cells] es2)[0]? = some (.box true (QL p)):=rfl
   have g1:(eO p (es2.map JG.num) (List.range es2.length) [.box true f.cells] es2)[1]? = some (.map (QL (es2.map JG.num)) (QL (List.range es2.length)) 0):=rfl
   have g2:(eO p (es2.map JG.num) (List.range es2.length) [.box true f.cells] es2)[2]? = some (.obuf true 4 (ye 4 es2)):=rfl
   have g3:(eO p (es2.map JG.num) (List.range es2.length) [.box true f.cells] es2)[3]? = some (.box true f.cells):=rfl
   simp only [mSt]
   generalize hEO:eO p (es2.map JG.num) (List.range es2.length) [.box true f.cells] es2 = EO at g0 g1 g2 g3 ⊢
   simp only [Qa.cells] at g3
   have hrow:∀ q y,(rowE es2)[q]? = some y→EO[4 + q]? = some y:=fun q y h=>by
    rw [← hEO,show 4 + q = 3 + [Ob.box true f.cells].length + q from rfl,abq];exact h
   have wEO:ZW (eO p (es2.map JG.num) (List.range es2.length) [.box true f.cells] es2 = EO):=⟨hEO⟩
   clear hEO
   by_cases hm0:f.mach = 0
   ·have e5:(f.mach != 0) = false:=by simpa using hm0
    (have zx:=za g0 (za g1 (za g2 (za g3 (za e5 hw)))));refine zgo ?_;repeat' first|exact zt|apply zan|intro hc
    all_goals
     refine hL _ (k + 1) (af3 [0,1,2] (nmS 4 a2 (4 + 3 * a2) (4 + 3 * a2 + 1) (4 + 3 * a2 + 2))) (by omega) (by omega) ?_
     rw [hm,← q2]
     refine ahP (N:=4) (es0:=es2) (e1:=aci f e2) (els:=ye 4 es2) [0,1,2] rfl rfl q5 (by omega) (agc rfl (by rw [zN];rfl) rfl rfl rfl rfl) (by simp) ?_ ?_ ?_ (fun k y h=>by simp at h) (fun j=>?_) (fun q y hq hq3 hy=>?_) ?_ ⟨mob e2.machs,hrow _ _ (by rw [Kx,q1];rfl),fun hne=>by rw [aci,if_pos hm0] at hne ⊢;rw [mob,if_neg hne]⟩ ?_ (by simp) (fun q hq=>?_) ?_ ?_ ?_ ?_ ?_
     ·exact g0
     ·rw [wT (e1:=aci f e2) q1 rfl,zN];exact g1
     ·first|exact g2|rfl
     ·rw [Ky]
      by_cases hj:j = a2
      ·rw [if_pos hj,hj,q1];simp only [Option.map_some,JG.own,aci,if_pos hm0]
      ·rw [if_neg hj]
     ·exact hrow q y hy
     ·exact hrow _ _ (by rw [WE,q1];rfl)
     ·exact hrow _ _ (by rw [WD,q1];rfl)
     ·simp only [zw,zD,or_false] at hq ⊢;omega
     ·simp only [zw,zD,or_false];omega
     ·omega
     ·omega
     ·omega
     ·omega
   ·have e5:(f.mach != 0) = true:=by simpa using hm0
    have f8:=U2 es2 4
    have f13:∀ v:V,((ye 4 es2).set a2 v)[a2]? = some v:=fun v=>by rw [kr,if_pos rfl,if_pos (by rw [f8];exact q5)]
    have f14:∀ j (v:V),((ye 4 es2).set a2 v)[j]? = if j = a2 then some v else (ye 4 es2)[j]?:=fun j v=>by
     rw [kr]
     by_cases hj:a2 = j
     ·subst hj;rw [if_pos rfl,if_pos (by rw [f8];exact q5),if_pos rfl]
     ·rw [if_neg hj,if_neg (fun e=>hj e.symm)]
    by_cases hne2:e2.machs = []
    ·have f10:(ye 4 es2)[a2]? = some (.agg [V.int e2.num,.hd (4 + 3 * a2) 0 e2.hosts.length,af5,.hd (4 + 3 * a2 + 2) 0 e2.finds.length]):=by rw [Ky,q1];simp only [Option.map_some,JG.own,mhd,if_pos hne2]
     have f9:=iW f.mach
     have hins:ae5 ltJ e2.machs f.mach = [f.mach]:=by rw [hne2,ahd]
     have hne3:¬ ([f.mach]:List Int) = []:=by simp
     (have zx:=za g0 (za g1 (za g2 (za g3 (za e5 (za hw (za f10 f13)))))));refine zgo ?_;repeat' first|exact zt|apply zan|intro hc
     all_goals
      refine hL _ (k + 1) (af3 [0,1,2] (nmS 4 a2 (4 + 3 * a2) 12000 (4 + 3 * a2 + 2))) (by omega) (by omega) ?_
      rw [hm,← q2]
      refine ahP (N:=4) (es0:=es2) (e1:=aci f e2) (els:=(ye 4 es2).set a2 (.agg [V.int e2.num,.hd (4 + 3 * a2) 0 e2.hosts.length,.hd 12000 0 1,.hd (4 + 3 * a2 + 2) 0 e2.finds.length])) [0,1,2] rfl rfl q5 (by omega) (agc rfl (by rw [zN];rfl) rfl rfl rfl rfl) (by simp) ?_ ?_ ?_ (fun k y h=>by simp at h) (fun j=>?_) (fun q y hq hq3 hy=>?_) ?_ ⟨_,rfl,fun _=>by simp only [aci,if_neg hm0,hins];rfl⟩ ?_ (by simp) (fun q hq=>?_) ?_ ?_ ?_ ?_ ?_
      ·simp only [zM,zQ,upd,Nat.reduceEqDiff,if_false,if_true];first|done|exact g0
      ·rw [wT (e1:=aci f e2) q1 rfl,zN];simp only [zM,zQ,upd,Nat.reduceEqDiff,if_false,if_true];first|done|exact g1
      ·simp only [zM,zQ,upd,Nat.reduceEqDiff,if_false,if_true];first|done|rfl
      ·rw [f14]
       by_cases hj:j = a2
       ·rw [if_pos hj,if_pos hj];simp only [aci,if_neg hm0,hins,mhd];first|rfl|(rw [if_neg hne2];done)|(rw [if_neg hne3];done)
       ·rw [if_neg hj,if_neg hj]
      ·simp only [upd];(repeat rw [if_neg (by omega)]);exact hrow q y hy
      ·simp only [upd];(repeat rw [if_neg (by omega)]);exact hrow _ _ (by rw [WE,q1];rfl)
      ·simp only [upd];(repeat rw [if_neg (by omega)]);exact hrow _ _ (by rw [WD,q1];rfl)
      ·simp only [zw,zD,or_false] at hq ⊢;omega
      ·simp only [zw,zD,or_false];omega
      ·omega
      ·omega
      ·omega
      ·omega
    ·have f10:(ye 4 es2)[a2]? = some (.agg [V.int e2.num,.hd (4 + 3 * a2) 0 e2.hosts.length,.hd (4 + 3 * a2 + 1) 0 e2.machs.length,.hd (4 + 3 * a2 + 2) 0 e2.finds.length]):=by rw [Ky,q1];simp only [Option.map_some,JG.own,mhd,if_neg hne2]
     have gM:EO[4 + 3 * a2 + 1]? = some (.buf true 1 (e2.machs.map V.int)):=by
      rw [show 4 + 3 * a2 + 1 = 4 + (3 * a2 + 1) by omega]
      exact hrow _ _ (by rw [Kx,q1];simp only [Option.map_some,mob,if_neg hne2])
     have hml:0 < e2.machs.length:=kL.2 hne2
     obtain ⟨nM,hnM⟩:∃ n,n = 4 + 3 * a2 + 1:=⟨_,rfl⟩
     rw [← hnM] at f10 gM
     have hM2:nM < 2000:=by omega
     have hM3:3≤nM:=by omega
     have u1:∀ q,(nM = q + 2000) = False:=fun q=>eq_false (by omega)
     have u3:∀ q,(q + 2000 = nM) = False:=fun q=>eq_false (by omega)
     have u5:(nM = 2) = False:=eq_false (by omega)
     have u6:(2 = nM) = False:=eq_false (by omega)
     have u7:(0 = nM) = False:=eq_false (by omega)
     have u8:(1 = nM) = False:=eq_false (by omega)
     have v1:∀ q,decide (nM < q + 2000) = true:=fun q=>zn (by omega)
     have wM:ZW (nM = 4 + 3 * a2 + 1):=⟨hnM⟩
     clear hnM
     rcases hfo:Ux e2.machs (bsI ltJ e2.machs f.mach) f.mach with _|_
     ·have f9:=iI e2.machs f.mach hml (by omega) hfo
      obtain ⟨hh,hins⟩:∃ hh,ae5 ltJ e2.machs f.mach = hh:=⟨_,rfl⟩
      have hne3:¬ hh = []:=by
       have:=(ae4 (lt:=ltJ) e2.machs f.mach).2
       rw [hins] at this
       exact kL.1 this
      rw [hins] at f9
      have hlm:(List.map V.int hh).length = hh.length:=zb _
      repeat' (first|(refine zsk ?_;intro K' hK)|(refine zrg ?_;intro K' hK)|refine zsp ?_|(refine zsc ?_ ?_<;>intro hc<;>first|exact znh|try simp only [znz] at hc)|simp (maxSteps:=1000000) only [go_sem,mTs,g0,g1,g2,g3,e5,hw,f10,f13,hlm,gM,v1,u1,u3,u5,u6,Int.toNat_natCast]|(refine hK _ ?_;clear hK K')|apply zan|(apply amC;(focus exact rfl);(focus first|exact f9);(focus exact rfl);(focus exact rfl);(focus (first|exact rfl|(simp;done))))|(apply aiu;(focus exact rfl);(focus exact rfl);(focus first|exact f9);(focus exact rfl);(focus (first|exact rfl|(simp;done)));(focus (first|exact rfl|(simp;done))))|(apply anW;(focus first|exact rfl|(simp only [upd,if_false, *];exact rfl));(focus first|exact rfl|decide|(simp [rA,rW];done)|(simp [rA,rW];omega)|omega);(focus first|exact rfl|decide|(simp [rA,rW];done)|(simp [rA,rW];omega)|omega);(focus first|exact f9);(focus exact rfl);(focus first|exact rfl|decide|(simp [rA,rW];done)|(simp [rA,rW];omega)|omega);(focus (first|exact rfl|(simp;done)));(focus exact rfl))|(apply Ko;(focus exact rfl);(focus first|exact (z3 _ _ zsd zsd));(focus exact rfl);(focus exact rfl))|(apply U4;(focus exact rfl);(focus exact zrd);(focus exact zrd);(focus first|exact (z3 _ _ zsd zsd));(focus exact rfl);(focus exact rfl);(focus exact zrd))|(apply wQ;(focus first|exact (z2 _ _ zsd zsd)))|(apply aaE;(focus first|exact (z2 _ _ zsd zsd));(focus exact zrd))|((first|apply QA|apply Q3);(focus first|exact (z0 _ _ zsd zsd).b))|exact zsq|fail)
      all_goals
       have wM':=wM.h
       refine hL _ (k + 1) (af3 [0,1,2] (nmS 4 a2 (4 + 3 * a2) 12000 (4 + 3 * a2 + 2))) (by omega) (by omega) ?_
       rw [hm,← q2]
       refine ahP (N:=4) (es0:=es2) (e1:=aci f e2) (els:=(ye 4 es2).set a2 (.agg [V.int e2.num,.hd (4 + 3 * a2) 0 e2.hosts.length,.hd 12000 0 hh.length,.hd (4 + 3 * a2 + 2) 0 e2.finds.length])) [0,1,2] rfl rfl q5 (by omega) (agc rfl (by rw [zN];rfl) rfl rfl rfl rfl) (by simp) ?_ ?_ ?_ (fun k y h=>by simp at h) (fun j=>?_) (fun q y hq hq3 hy=>?_) ?_ ⟨.buf true 1 (hh.map V.int),by simp only [upd,u3,Nat.reduceEqDiff,if_false,if_true],fun _=>by simp only [aci,if_neg hm0,hins]⟩ ?_ (by simp) (fun q hq=>?_) ?_ ?_ ?_ ?_ ?_
       ·simp only [zM,zQ,upd,Nat.reduceEqDiff,if_false,if_true,u6,u7,u8];first|done|exact g0
       ·rw [wT (e1:=aci f e2) q1 rfl,zN];simp only [zM,zQ,upd,Nat.reduceEqDiff,if_false,if_true,u6,u7,u8];first|done|exact g1
       ·simp only [zM,zQ,upd,Nat.reduceEqDiff,if_false,if_true,u6,u7,u8];first|done|rfl
       ·rw [f14]
        by_cases hj:j = a2
        ·rw [if_pos hj,if_pos hj];simp only [aci,if_neg hm0,hins,mhd];first|rfl|(rw [if_neg hne2];done)|(rw [if_neg hne3];done)
        ·rw [if_neg hj,if_neg hj]
       ·simp only [upd];(repeat rw [if_neg (by omega)]);exact hrow q y hy
       ·simp only [upd];(repeat rw [if_neg (by omega)]);exact hrow _ _ (by rw [WE,q1];rfl)
       ·simp only [upd];(repeat rw [if_neg (by omega)]);exact hrow _ _ (by rw [WD,q1];rfl)
       ·simp only [zw,zD,or_false] at hq ⊢;omega
       ·simp only [zw,zD,or_false];omega
       ·omega
       ·omega
       ·omega
       ·omega
     ·have f9:=iX e2.machs f.mach hml (by omega) hfo
      have hins:ae5 ltJ e2.machs f.mach = e2.machs:=by rw [ae5,if_pos hfo]
      repeat' (first|(refine zsk ?_;intro K' hK)|(refine zrg ?_;intro K' hK)|refine zsp ?_|(refine zsc ?_ ?_<;>intro hc<;>first|exact znh|try simp only [znz] at hc)|simp (maxSteps:=1000000) only [go_sem,mTs,g0,g1,g2,g3,e5,hw,f10,f13,gM,v1,u1,u3,u5,u6,Int.toNat_natCast]|(refine hK _ ?_;clear hK K')|apply zan|(apply apb;(focus exact rfl);(focus first|exact f9);(focus exact rfl);(focus exact rfl);(focus (first|exact rfl|(simp;done))))|(apply anV;(focus first|exact rfl|(simp only [upd,if_false, *];exact rfl));(focus first|exact rfl|decide|(simp [rA,rW];done)|(simp [rA,rW];omega)|omega);(focus first|exact rfl|decide|(simp [rA,rW];done)|(simp [rA,rW];omega)|omega);(focus first|exact f9);(focus exact rfl);(focus first|exact rfl|decide|(simp [rA,rW];done)|(simp [rA,rW];omega)|omega);(focus (first|exact rfl|(simp;done)));(focus exact rfl))|(apply Ko;(focus exact rfl);(focus first|exact (z3 _ _ zsd zsd));(focus exact rfl);(focus exact rfl))|(apply U4;(focus exact rfl);(focus exact zrd);(focus exact zrd);(focus first|exact (z3 _ _ zsd zsd));(focus exact rfl);(focus exact rfl);(focus exact zrd))|(apply wQ;(focus first|exact (z2 _ _ zsd zsd)))|(apply aaE;(focus first|exact (z2 _ _ zsd zsd));(focus exact zrd))|((first|apply QA|apply Q3);(focus first|exact (z0 _ _ zsd zsd).b))|exact zsq|fail)
      all_goals
       have wM':=wM.h
       refine hL _ (k + 1) (af3 [0,1,2] (nmS 4 a2 (4 + 3 * a2) nM (4 + 3 * a2 + 2))) (by omega) (by omega) ?_
       rw [hm,← q2]
       refine ahP (N:=4) (es0:=es2) (e1:=aci f e2) (els:=(ye 4 es2).set a2 (.agg [V.int e2.num,.hd (4 + 3 * a2) 0 e2.hosts.length,.hd nM 0 e2.machs.length,.hd (4 + 3 * a2 + 2) 0 e2.finds.length])) [0,1,2] rfl rfl q5 (by omega) (agc rfl (by rw [zN];rfl) rfl rfl rfl rfl) (by simp) ?_ ?_ ?_ (fun k y h=>by simp at h) (fun j=>?_) (fun q y hq hq3 hy=>?_) ?_ ⟨.buf true 1 (e2.machs.map V.int),by simp only [upd,u5,if_false,if_true,gM],fun _=>by simp only [aci,if_neg hm0,hins]⟩ ?_ (by simp) (fun q hq=>?_) ?_ ?_ ?_ ?_ ?_
       ·simp only [zM,zQ,upd,Nat.reduceEqDiff,if_false,if_true,u6,u7,u8];first|done|exact g0
       ·rw [wT (e1:=aci f e2) q1 rfl,zN];simp only [zM,zQ,upd,Nat.reduceEqDiff,if_false,if_true,u6,u7,u8];first|done|exact g1
       ·simp only [zM,zQ,upd,Nat.reduceEqDiff,if_false,if_true,u6,u7,u8];first|done|rfl
       ·rw [f14]
        by_cases hj:j = a2
        ·rw [if_pos hj,if_pos hj];simp only [aci,if_neg hm0,hins,mhd];first|rfl|(rw [if_neg hne2];done)|(rw [if_neg hne3];done)
        ·rw [if_neg hj,if_neg hj]
       ·simp only [upd];(repeat rw [if_neg (by omega)]);exact hrow q y hy
       ·simp only [upd];(repeat rw [if_neg (by omega)]);exact hrow _ _ (by rw [WE,q1];rfl)
       ·simp only [upd];(repeat rw [if_neg (by omega)]);exact hrow _ _ (by rw [WD,q1];rfl)
       ·simp only [zw,zD,or_false] at hq ⊢;omega
       ·simp only [zw,zD,or_false];omega
       ·omega
       ·omega
       ·omega
       ·omega
 ·obtain ⟨a,e,hia,hea,hen⟩:=hI.find hp hk0
  have hal:=(zl.1 hea).1
  have hsz:=hI.sz e (zq hea)
  have hel:=hI.len
  have hrk:=aha hp k
  have e2:(((Ut p k:Nat):Int) == (k:Int)) = false:=by simp;omega
  have g0:(eO p (es.map JG.num) (List.range es.length) [] es)[0]? = some (.box true (QL p)):=rfl
  have g1:(eO p (es.map JG.num) (List.range es.length) [] es)[1]? = some (.map (QL (es.map JG.num)) (QL (List.range es.length)) 0):=rfl
  have g2:(eO p (es.map JG.num) (List.range es.length) [] es)[2]? = some (.obuf true 4 (ye 3 es)):=rfl
  have f1:=ab1 (Ut p k) (es.map JG.num) 0
  rw [hia] at f1
  have f3:=aik ((Ut p k:Nat):Int)
  have f6:(QL (List.range es.length))[a]? = some (V.int (a:Nat)):=Uw (by simp [hal])
  have f8:=U2 es 3
  have hes:Xw l p (k + 1) = es.set a (Xx k f e):=by rw [hsu,akG,if_neg hk0,hia];simp only [hea]
  clear hsu
  generalize Ut p k = rt at *
  repeat' (first|(refine zsk ?_;intro K' hK)|refine zsp ?_|(refine zsc ?_ ?_<;>intro hc<;>first|exact znh|try simp only [znz] at hc)|simp (maxSteps:=1000000) only [go_sem,eSt,eTs,e1,e2,g0,g1,g2,f1,f3,f6,f8,Int.toNat_natCast,zo,hget,Qa.v,Qa.cells]|(refine hK _ ?_;clear hK K')|apply zan|(apply Ko;(focus exact rfl);(focus first|exact n1|exact (z3 _ _ zsd zsd));(focus exact rfl);(focus exact rfl))|(apply wQ;(focus first|exact (z2 _ _ zsd zsd)))|(apply QA;(focus first|exact (z0 _ _ zsd zsd).b))|exact zsq|fail)
  refine ao9 (ι:=List JG×Nat×JG) (ayY l p k f) (fun q=>mSt l p q.1 f q.2.1 k) (fun s=>s.keep [7,8,9,11,13,24,25,26]) (fun K2 hK2=>?_) (fun q hq s' τ hwk=>?_)
  ·have f10:(ye 3 es)[a]? = some (.agg [V.int e.num,.hd (3 + 3 * a) 0 e.hosts.length,mhd (3 + 3 * a + 1) e.machs,.hd (3 + 3 * a + 2) 0 e.finds.length]):=by rw [Ky,hea];rfl
   have gH:(eO p (es.map JG.num) (List.range es.length) [] es)[3 + 3 * a]? = some (.buf true 1 (e.hosts.map V.str)):=by
    rw [show 3 + 3 * a = 3 + ([]:List Ob).length + 3 * a from rfl,abq,WE,hea];rfl
   have gF:(eO p (es.map JG.num) (List.range es.length) [] es)[3 + 3 * a + 2]? = some (.buf true 1 (QL e.finds)):=by
    rw [show 3 + 3 * a + 2 = 3 + ([]:List Ob).length + (3 * a + 2) by simp;omega,abq,WD,hea];rfl
   obtain ⟨nH,hnH⟩:∃ n,n = 3 + 3 * a:=⟨_,rfl⟩
   obtain ⟨nF,hnF⟩:∃ n,n = 3 + 3 * a + 2:=⟨_,rfl⟩
   rw [← hnF] at f10 gF
   rw [← hnH] at f10 gH
   have hF2:nF < 2000:=by omega
   have hH2:nH < 2000:=by omega
   have v1:∀ q,decide (nH < q + 2000) = true:=fun q=>zn (by omega)
   have v2:∀ q,decide (nF < q + 2000) = true:=fun q=>zn (by omega)
   have u1:∀ q,(nH = q + 2000) = False:=fun q=>eq_false (by omega)
   have u2:∀ q,(nF = q + 2000) = False:=fun q=>eq_false (by omega)
   have u3:∀ q,(q + 2000 = nH) = False:=fun q=>eq_false (by omega)
   have u4:∀ q,(q + 2000 = nF) = False:=fun q=>eq_false (by omega)
   have u5:(nH = nF) = False:=eq_false (by omega)
   have u6:(nF = nH) = False:=eq_false (by omega)
   have u7:(nH = 0) = False:=eq_false (by omega)
   have u8:(nF = 0) = False:=eq_false (by omega)
   have u11:(nH = 2) = False:=eq_false (by omega)
   have u12:(nF = 2) = False:=eq_false (by omega)
   have u9:(2 = nH) = False:=eq_false (by omega)
   have u10:(2 = nF) = False:=eq_false (by omega)
   have hH3:3≤nH:=by omega
   have hF3:3≤nF:=by omega
   have wH:ZW (nH = 3 + 3 * a):=⟨hnH⟩
   have wF:ZW (nF = 3 + 3 * a + 2):=⟨hnF⟩
   clear hnH hnF
   have f11:List.take e.finds.length (QL e.finds)++[V.int k] = QL (e.finds++[k]):=by rw [zi (by rw [X7];exact zj _),vK]
   have f12:=X7 e.finds
   have z1:e.finds.length≤400:=by have:=hsz.f1;omega
   have w0:(0 = nH) = False:=eq_false (by omega)
   have w1:(0 = nF) = False:=eq_false (by omega)
   have w2:(1 = nH) = False:=eq_false (by omega)
   have w3:(1 = nF) = False:=eq_false (by omega)
   have f13:∀ v:V,((ye 3 es).set a v)[a]? = some v:=fun v=>by rw [kr,if_pos rfl,if_pos (by rw [f8];exact hal)]
   have f14:∀ j (v:V),((ye 3 es).set a v)[j]? = if j = a then some v else (ye 3 es)[j]?:=fun j v=>by
    rw [kr]
    by_cases hj:a = j
    ·subst hj;rw [if_pos rfl,if_pos (by rw [f8];exact hal),if_pos rfl]
    ·rw [if_neg hj,if_neg (fun e=>hj e.symm)]
   have f15:∀ v w:V,((ye 3 es).set a v).set a w = (ye 3 es).set a w:=fun v w=>List.set_set ..
   rcases hfo:Ux e.hosts (bsI Op.bytesLess e.hosts f.host) f.host with _|_
   ·have f9:=sI e.hosts f.host hsz.h0 (by have:=hsz.h1;omega) hfo
    clear sX sI sW iX iI iW hL
    obtain ⟨hh,hins⟩:∃ hh,ae5 Op.bytesLess e.hosts f.host = hh:=⟨_,rfl⟩
    rw [hins] at f9
    have hlm:(List.map V.str hh).length = hh.length:=zb _
    repeat' (first|(refine zsk ?_;intro K' hK)|(refine zrg ?_;intro K' hK)|refine zsp ?_|(refine zsc ?_ ?_<;>intro hc<;>first|exact znh|try simp only [znz] at hc)|simp (maxSteps:=1000000) only [go_sem,f8,f10,f11,f12,f13,f15,hlm,gH,gF,g2,v1,v2,u1,u2,u3,u4,u5,u6,u7,u8,u9,u10,Int.toNat_natCast]|(refine hK _ ?_;clear hK K')|apply zan|(apply amC;(focus exact rfl);(focus first|exact f9);(focus exact rfl);(focus exact rfl);(focus (first|exact rfl|(simp;done))))|(apply aiu;(focus exact rfl);(focus exact rfl);(focus first|exact f9);(focus exact rfl);(focus (first|exact rfl|(simp;done)));(focus (first|exact rfl|(simp;done))))|(apply anW;(focus first|exact rfl|(simp only [upd,if_false, *];exact rfl));(focus first|exact rfl|decide|(simp [rA,rW];done)|(simp [rA,rW];omega)|omega);(focus first|exact rfl|decide|(simp [rA,rW];done)|(simp [rA,rW];omega)|omega);(focus first|exact f9);(focus exact rfl);(focus first|exact rfl|decide|(simp [rA,rW];done)|(simp [rA,rW];omega)|omega);(focus (first|exact rfl|(simp;done)));(focus exact rfl))|(apply Ko;(focus exact rfl);(focus first|exact (z3 _ _ zsd zsd));(focus exact rfl);(focus exact rfl))|(apply U4;(focus exact rfl);(focus exact zrd);(focus exact zrd);(focus first|exact (z3 _ _ zsd zsd));(focus exact rfl);(focus exact rfl);(focus exact zrd))|(apply wQ;(focus first|exact (z2 _ _ zsd zsd)))|(apply aaE;(focus first|exact (z2 _ _ zsd zsd));(focus exact zrd))|((first|apply QA|apply Q3);(focus first|exact (z0 _ _ zsd zsd).b))|exact zsq|fail)
    all_goals
     have wH':=wH.h
     have wF':=wF.h
     refine hK2 _ (es.set a (Jh k f e),a,Jh k f e) (af3 [0,1,2,6000] (nmS 3 a 30000 (3 + 3 * a + 1) 37000)) ⟨?_,?_,?_,?_⟩ ?_
     ·simp only;rw [kr,if_pos rfl,if_pos hal]
     ·simp only;rw [hes,List.set_set];rfl
     ·simp only [zN];omega
     ·simp only [Jh];have:=hsz.m1;omega
     rw [hm]
     refine ahP (es0:=es) (e1:=Jh k f e) (els:=(ye 3 es).set a (.agg [V.int e.num,.hd 30000 0 hh.length,mhd (nH + 1) e.machs,.hd 37000 0 (e.finds.length + 1)])) [0,1,2,6000] rfl rfl hal (by omega) (arJ rfl (by rw [zN];rfl) rfl rfl rfl rfl rfl rfl) (by simp) ?_ ?_ ?_ (av4 (x3:=6000) rfl ?_) (fun j=>?_) (fun q y hq hq3 hy=>?_) ?_ ⟨mob e.machs,?_,fun hne=>by rw [mob,if_neg (show ¬ e.machs = [] from hne)];rfl⟩ ?_ (by simp) (fun q hq=>?_) ?_ ?_ ?_ ?_ ?_
     ·simp only [zM,St.keep,upd,u7,u8,w0,w1,if_false,if_true,Nat.reduceEqDiff]
     ·rw [wT (e1:=Jh k f e) hea rfl,zN]
      simp only [zQ,zM,St.keep,upd,w2,w3,if_false,if_true,Nat.reduceEqDiff,g1]
     ·simp only [zQ,zM,St.keep,upd,u9,u10,if_false,if_true,Nat.reduceEqDiff]
     ·simp only [St.keep,upd,u3,u4,if_false,if_true,Nat.reduceEqDiff];rfl
     ·rw [f14]
      by_cases hj:j = a
      ·rw [if_pos hj,if_pos hj,wH']
       simp only [Jh,hins,zv,List.length_singleton]
      ·rw [if_neg hj,if_neg hj]
     ·simp only [St.keep,upd]
      repeat rw [if_neg (by omega)]
      rw [show 3 + q = 3 + ([]:List Ob).length + q from rfl,abq]
      exact hy
     ·simp only [Jh,hins,St.keep,upd,u1,u3,u4,u5,u6,u11,u12,if_false,if_true,Nat.reduceEqDiff]
     ·simp only [St.keep,upd]
      repeat rw [if_neg (by omega)]
      rw [show 3 + 3 * a + 1 = 3 + ([]:List Ob).length + (3 * a + 1) by simp;omega,abq,Kx,hea];rfl
     ·simp only [Jh,St.keep,upd,u3,u4,if_false,if_true,Nat.reduceEqDiff]
     ·simp only [zw,zD,or_false] at hq ⊢;omega
     ·simp only [zw,zD,or_false];omega
     ·omega
     ·omega
     ·omega
     ·omega
   ·have f9:=sX e.hosts f.host hsz.h0 (by have:=hsz.h1;omega) hfo
    clear sX sI sW iX iI iW hL
    have hins:ae5 Op.bytesLess e.hosts f.host = e.hosts:=by rw [ae5,if_pos hfo]
    repeat' (first|(refine zsk ?_;intro K' hK)|(refine zrg ?_;intro K' hK)|refine zsp ?_|(refine zsc ?_ ?_<;>intro hc<;>first|exact znh|try simp only [znz] at hc)|simp (maxSteps:=1000000) only [go_sem,f8,f10,f11,f12,f13,f15,gH,gF,g2,v1,v2,u1,u2,u3,u4,u5,u6,u7,u8,u9,u10,Int.toNat_natCast]|(refine hK _ ?_;clear hK K')|apply zan|(apply apb;(focus exact rfl);(focus first|exact f9);(focus exact rfl);(focus exact rfl);(focus (first|exact rfl|(simp;done))))|(apply anV;(focus first|exact rfl|(simp only [upd,if_false, *];exact rfl));(focus first|exact rfl|decide|(simp [rA,rW];done)|(simp [rA,rW];omega)|omega);(focus first|exact rfl|decide|(simp [rA,rW];done)|(simp [rA,rW];omega)|omega);(focus first|exact f9);(focus exact rfl);(focus first|exact rfl|decide|(simp [rA,rW];done)|(simp [rA,rW];omega)|omega);(focus (first|exact rfl|(simp;done)));(focus exact rfl))|(apply Ko;(focus exact rfl);(focus first|exact (z3 _ _ zsd zsd));(focus exact rfl);(focus exact rfl))|(apply U4;(focus exact rfl);(focus exact zrd);(focus exact zrd);(focus first|exact (z3 _ _ zsd zsd));(focus exact rfl);(focus exact rfl);(focus exact zrd))|(apply wQ;(focus first|exact (z2 _ _ zsd zsd)))|(apply aaE;(focus first|exact (z2 _ _ zsd zsd));(focus exact zrd))|((first|apply QA|apply Q3);(focus first|exact (z0 _ _ zsd zsd).b))|exact zsq|fail)
    all_goals
     have wH':=wH.h
     have wF':=wF.h
     refine hK2 _ (es.set a (Jh k f e),a,Jh k f e) (af3 [0,1,2,6000] (nmS 3 a nH (3 + 3 * a + 1) 37000)) ⟨?_,?_,?_,?_⟩ ?_
     ·simp only;rw [kr,if_pos rfl,if_pos hal]
     ·simp only;rw [hes,List.set_set];rfl
     ·simp only [zN];omega
     ·simp only [Jh];have:=hsz.m1;omega
     rw [hm]
     refine ahP (es0:=es) (e1:=Jh k f e) (els:=(ye 3 es).set a (.agg [V.int e.num,.hd nH 0 e.hosts.length,mhd (nH + 1) e.machs,.hd 37000 0 (e.finds.length + 1)])) [0,1,2,6000] rfl rfl hal (by omega) (arJ rfl (by rw [zN];rfl) rfl rfl rfl rfl rfl rfl) (by simp) ?_ ?_ ?_ (av4 (x3:=6000) rfl ?_) (fun j=>?_) (fun q y hq hq3 hy=>?_) ?_ ⟨mob e.machs,?_,fun hne=>by rw [mob,if_neg (show ¬ e.machs = [] from hne)];rfl⟩ ?_ (by simp) (fun q hq=>?_) ?_ ?_ ?_ ?_ ?_
     ·simp only [zM,St.keep,upd,u7,u8,w0,w1,if_false,if_true,Nat.reduceEqDiff]
     ·rw [wT (e1:=Jh k f e) hea rfl,zN]
      simp only [zQ,zM,St.keep,upd,w2,w3,if_false,if_true,Nat.reduceEqDiff,g1]
     ·simp only [zQ,zM,St.keep,upd,u9,u10,if_false,if_true,Nat.reduceEqDiff]
     ·simp only [St.keep,upd,u3,u4,if_false,if_true,Nat.reduceEqDiff];rfl
     ·rw [f14]
      by_cases hj:j = a
      ·rw [if_pos hj,if_pos hj,wH']
       simp only [Jh,hins,zv,List.length_singleton]
      ·rw [if_neg hj,if_neg hj]
     ·simp only [St.keep,upd]
      repeat rw [if_neg (by omega)]
      rw [show 3 + q = 3 + ([]:List Ob).length + q from rfl,abq]
      exact hy
     ·simp only [Jh,hins,St.keep,upd,u1,u3,u4,u5,u6,u11,u12,if_false,if_true,Nat.reduceEqDiff]
     ·simp only [St.keep,upd]
      repeat rw [if_neg (by omega)]
      rw [show 3 + 3 * a + 1 = 3 + ([]:List Ob).length + (3 * a + 1) by simp;omega,abq,Kx,hea];rfl
     ·simp only [Jh,St.keep,upd,u3,u4,if_false,if_true,Nat.reduceEqDiff]
     ·simp only [zw,zD,or_false] at hq ⊢;omega
     ·simp only [zw,zD,or_false];omega
     ·omega
     ·omega
     ·omega
     ·omega
  ·obtain ⟨es2,a2,e2⟩:=q
   obtain ⟨q1,q2,q3,q4⟩:=hq
   simp only at q1 q2 q3 q4 hwk ⊢
   refine ahg hwk ?_
   clear hwk
   have q5:=(zl.1 q1).1
   have g0:(eO p (es2.map JG.num) (List.range es2.length) [.box true f.cells] es2)[0]? = some (.box true (QL p)):=rfl
   have g1:(eO p (es2.map JG.num) (List.range es2.length) [.box true f.cells] es2)[1]? = some (.map (QL (es2.map JG.num)) (QL (List.range es2.length)) 0):=rfl
   have g2:(eO p (es2.map JG.num) (List.range es2.length) [.box true f.cells] es2)[2]? = some (.obuf true 4 (ye 4 es2)):=rfl
   have g3:(eO p (es2.map JG.num) (List.range es2.length) [.box true f.cells] es2)[3]? = some (.box true f.cells):=rfl
   simp only [mSt]
   generalize hEO:eO p (es2.map JG.num) (List.range es2.length) [.box true f.cells] es2 = EO at g0 g1 g2 g3 ⊢
   simp only [Qa.cells] at g3
   have hrow:∀ q y,(rowE es2)[q]? = some y→EO[4 + q]? = some y:=fun q y h=>by
    rw [← hEO,show 4 + q = 3 + [Ob.box true f.cells].length + q from rfl,abq];exact h
   have wEO:ZW (eO p (es2.map JG.num) (List.range es2.length) [.box true f.cells] es2 = EO):=⟨hEO⟩
   clear hEO
   by_cases hm0:f.mach = 0
   ·have e5:(f.mach != 0) = false:=by simpa using hm0
    (have zx:=za g0 (za g1 (za g2 (za g3 (za e5 hw)))));refine zgo ?_;repeat' first|exact zt|apply zan|intro hc
    all_goals
     refine hL _ (k + 1) (af3 [0,1,2] (nmS 4 a2 (4 + 3 * a2) (4 + 3 * a2 + 1) (4 + 3 * a2 + 2))) (by omega) (by omega) ?_
     rw [hm,← q2]
     refine ahP (N:=4) (es0:=es2) (e1:=aci f e2) (els:=ye 4 es2) [0,1,2] rfl rfl q5 (by omega) (agc rfl (by rw [zN];rfl) rfl rfl rfl rfl) (by simp) ?_ ?_ ?_ (fun k y h=>by simp at h) (fun j=>?_) (fun q y hq hq3 hy=>?_) ?_ ⟨mob e2.machs,hrow _ _ (by rw [Kx,q1];rfl),fun hne=>by rw [aci,if_pos hm0] at hne ⊢;rw [mob,if_neg hne]⟩ ?_ (by simp) (fun q hq=>?_) ?_ ?_ ?_ ?_ ?_
     ·exact g0
     ·rw [wT (e1:=aci f e2) q1 rfl,zN];exact g1
     ·first|exact g2|rfl
     ·rw [Ky]
      by_cases hj:j = a2
      ·rw [if_pos hj,hj,q1];simp only [Option.map_some,JG.own,aci,if_pos hm0]
      ·rw [if_neg hj]
     ·exact hrow q y hy
     ·exact hrow _ _ (by rw [WE,q1];rfl)
     ·exact hrow _ _ (by rw [WD,q1];rfl)
     ·simp only [zw,zD,or_false] at hq ⊢;omega
     ·simp only [zw,zD,or_false];omega
     ·omega
     ·omega
     ·omega
     ·omega
   ·have e5:(f.mach != 0) = true:=by simpa using hm0
    have f8:=U2 es2 4
    have f13:∀ v:V,((ye 4 es2).set a2 v)[a2]? = some v:=fun v=>by rw [kr,if_pos rfl,if_pos (by rw [f8];exact q5)]
    have f14:∀ j (v:V),((ye 4 es2).set a2 v)[j]? = if j = a2 then some v else (ye 4 es2)[j]?:=fun j v=>by
     rw [kr]
     by_cases hj:a2 = j
     ·subst hj;rw [if_pos rfl,if_pos (by rw [f8];exact q5),if_pos rfl]
     ·rw [if_neg hj,if_neg (fun e=>hj e.symm)]
    by_cases hne2:e2.machs = []
    ·have f10:(ye 4 es2)[a2]? = some (.agg [V.int e2.num,.hd (4 + 3 * a2) 0 e2.hosts.length,af5,.hd (4 + 3 * a2 + 2) 0 e2.finds.length]):=by rw [Ky,q1];simp only [Option.map_some,JG.own,mhd,if_pos hne2]
     have f9:=iW f.mach
     have hins:ae5 ltJ e2.machs f.mach = [f.mach]:=by rw [hne2,ahd]
     have hne3:¬ ([f.mach]:List Int) = []:=by simp
     (have zx:=za g0 (za g1 (za g2 (za g3 (za e5 (za hw (za f10 f13)))))));refine zgo ?_;repeat' first|exact zt|apply zan|intro hc
     all_goals
      refine hL _ (k + 1) (af3 [0,1,2] (nmS 4 a2 (4 + 3 * a2) 12000 (4 + 3 * a2 + 2))) (by omega) (by omega) ?_
      rw [hm,← q2]
      refine ahP (N:=4) (es0:=es2) (e1:=aci f e2) (els:=(ye 4 es2).set a2 (.agg [V.int e2.num,.hd (4 + 3 * a2) 0 e2.hosts.length,.hd 12000 0 1,.hd (4 + 3 * a2 + 2) 0 e2.finds.length])) [0,1,2] rfl rfl q5 (by omega) (agc rfl (by rw [zN];rfl) rfl rfl rfl rfl) (by simp) ?_ ?_ ?_ (fun k y h=>by simp at h) (fun j=>?_) (fun q y hq hq3 hy=>?_) ?_ ⟨_,rfl,fun _=>by simp only [aci,if_neg hm0,hins];rfl⟩ ?_ (by simp) (fun q hq=>?_) ?_ ?_ ?_ ?_ ?_
      ·simp only [zM,zQ,upd,Nat.reduceEqDiff,if_false,if_true];first|done|exact g0
      ·rw [wT (e1:=aci f e2) q1 rfl,zN];simp only [zM,zQ,upd,Nat.reduceEqDiff,if_false,if_true];first|done|exact g1
      ·simp only [zM,zQ,upd,Nat.reduceEqDiff,if_false,if_true];first|done|rfl
      ·rw [f14]
       by_cases hj:j = a2
       ·rw [if_pos hj,if_pos hj];simp only [aci,if_neg hm0,hins,mhd];first|rfl|(rw [if_neg hne2];done)|(rw [if_neg hne3];done)
       ·rw [if_neg hj,if_neg hj]
      ·simp only [upd];(repeat rw [if_neg (by omega)]);exact hrow q y hy
      ·simp only [upd];(repeat rw [if_neg (by omega)]);exact hrow _ _ (by rw [WE,q1];rfl)
      ·simp only [upd];(repeat rw [if_neg (by omega)]);exact hrow _ _ (by rw [WD,q1];rfl)
      ·simp only [zw,zD,or_false] at hq ⊢;omega
      ·simp only [zw,zD,or_false];omega
      ·omega
      ·omega
      ·omega
      ·omega
    ·have f10:(ye 4 es2)[a2]? = some (.agg [V.int e2.num,.hd (4 + 3 * a2) 0 e2.hosts.length,.hd (4 + 3 * a2 + 1) 0 e2.machs.length,.hd (4 + 3 * a2 + 2) 0 e2.finds.length]):=by rw [Ky,q1];simp only [Option.map_some,JG.own,mhd,if_neg hne2]
     have gM:EO[4 + 3 * a2 + 1]? = some (.buf true 1 (e2.machs.map V.int)):=by
      rw [show 4 + 3 * a2 + 1 = 4 + (3 * a2 + 1) by omega]
      exact hrow _ _ (by rw [Kx,q1];simp only [Option.map_some,mob,if_neg hne2])
     have hml:0 < e2.machs.length:=kL.2 hne2
     obtain ⟨nM,hnM⟩:∃ n,n = 4 + 3 * a2 + 1:=⟨_,rfl⟩
     rw [← hnM] at f10 gM
     have hM2:nM < 2000:=by omega
     have hM3:3≤nM:=by omega
     have u1:∀ q,(nM = q + 2000) = False:=fun q=>eq_false (by omega)
     have u3:∀ q,(q + 2000 = nM) = False:=fun q=>eq_false (by omega)
     have u5:(nM = 2) = False:=eq_false (by omega)
     have u6:(2 = nM) = False:=eq_false (by omega)
     have u7:(0 = nM) = False:=eq_false (by omega)
     have u8:(1 = nM) = False:=eq_false (by omega)
     have v1:∀ q,decide (nM < q + 2000) = true:=fun q=>zn (by omega)
     have wM:ZW (nM = 4 + 3 * a2 + 1):=⟨hnM⟩
     clear hnM
     rcases hfo:Ux e2.machs (bsI ltJ e2.machs f.mach) f.mach with _|_
     ·have f9:=iI e2.machs f.mach hml (by omega) hfo
      obtain ⟨hh,hins⟩:∃ hh,ae5 ltJ e2.machs f.mach = hh:=⟨_,rfl⟩
      have hne3:¬ hh = []:=by
       have:=(ae4 (lt:=ltJ) e2.machs f.mach).2
       rw [hins] at this
       exact kL.1 this
      rw [hins] at f9
      have hlm:(List.map V.int hh).length = hh.length:=zb _
      repeat' (first|(refine zsk ?_;intro K' hK)|(refine zrg ?_;intro K' hK)|refine zsp ?_|(refine zsc ?_ ?_<;>intro hc<;>first|exact znh|try simp only [znz] at hc)|simp (maxSteps:=1000000) only [go_sem,mTs,g0,g1,g2,g3,e5,hw,f10,f13,hlm,gM,v1,u1,u3,u5,u6,Int.toNat_natCast]|(refine hK _ ?_;clear hK K')|apply zan|(apply amC;(focus exact rfl);(focus first|exact f9);(focus exact rfl);(focus exact rfl);(focus (first|exact rfl|(simp;done))))|(apply aiu;(focus exact rfl);(focus exact rfl);(focus first|exact f9);(focus exact rfl);(focus (first|exact rfl|(simp;done)));(focus (first|exact rfl|(simp;done))))|(apply anW;(focus first|exact rfl|(simp only [upd,if_false, *];exact rfl));(focus first|exact rfl|decide|(simp [rA,rW];done)|(simp [rA,rW];omega)|omega);(focus first|exact rfl|decide|(simp [rA,rW];done)|(simp [rA,rW];omega)|omega);(focus first|exact f9);(focus exact rfl);(focus first|exact rfl|decide|(simp [rA,rW];done)|(simp [rA,rW];omega)|omega);(focus (first|exact rfl|(simp;done)));(focus exact rfl))|(apply Ko;(focus exact rfl);(focus first|exact (z3 _ _ zsd zsd));(focus exact rfl);(focus exact rfl))|(apply U4;(focus exact rfl);(focus exact zrd);(focus exact zrd);(focus first|exact (z3 _ _ zsd zsd));(focus exact rfl);(focus exact rfl);(focus exact zrd))|(apply wQ;(focus first|exact (z2 _ _ zsd zsd)))|(apply aaE;(focus first|exact (z2 _ _ zsd zsd));(focus exact zrd))|((first|apply QA|apply Q3);(focus first|exact (z0 _ _ zsd zsd).b))|exact zsq|fail)
      all_goals
       have wM':=wM.h
       refine hL _ (k + 1) (af3 [0,1,2] (nmS 4 a2 (4 + 3 * a2) 12000 (4 + 3 * a2 + 2))) (by omega) (by omega) ?_
       rw [hm,← q2]
       refine ahP (N:=4) (es0:=es2) (e1:=aci f e2) (els:=(ye 4 es2).set a2 (.agg [V.int e2.num,.hd (4 + 3 * a2) 0 e2.hosts.length,.hd 12000 0 hh.length,.hd (4 + 3 * a2 + 2) 0 e2.finds.length])) [0,1,2] rfl rfl q5 (by omega) (agc rfl (by rw [zN];rfl) rfl rfl rfl rfl) (by simp) ?_ ?_ ?_ (fun k y h=>by simp at h) (fun j=>?_) (fun q y hq hq3 hy=>?_) ?_ ⟨.buf true 1 (hh.map V.int),by simp only [upd,u3,Nat.reduceEqDiff,if_false,if_true],fun _=>by simp only [aci,if_neg hm0,hins]⟩ ?_ (by simp) (fun q hq=>?_) ?_ ?_ ?_ ?_ ?_
       ·simp only [zM,zQ,upd,Nat.reduceEqDiff,if_false,if_true,u6,u7,u8];first|done|exact g0
       ·rw [wT (e1:=aci f e2) q1 rfl,zN];simp only [zM,zQ,upd,Nat.reduceEqDiff,if_false,if_true,u6,u7,u8];first|done|exact g1
       ·simp only [zM,zQ,upd,Nat.reduceEqDiff,if_false,if_true,u6,u7,u8];first|done|rfl
       ·rw [f14]
        by_cases hj:j = a2
        ·rw [if_pos hj,if_pos hj];simp only [aci,if_neg hm0,hins,mhd];first|rfl|(rw [if_neg hne2];done)|(rw [if_neg hne3];done)
        ·rw [if_neg hj,if_neg hj]
       ·simp only [upd];(repeat rw [if_neg (by omega)]);exact hrow q y hy
       ·simp only [upd];(repeat rw [if_neg (by omega)]);exact hrow _ _ (by rw [WE,q1];rfl)
       ·simp only [upd];(repeat rw [if_neg (by omega)]);exact hrow _ _ (by rw [WD,q1];rfl)
       ·simp only [zw,zD,or_false] at hq ⊢;omega
       ·simp only [zw,zD,or_false];omega
       ·omega
       ·omega
       ·omega
       ·omega
     ·have f9:=iX e2.machs f.mach hml (by omega) hfo
      have hins:ae5 ltJ e2.machs f.mach = e2.machs:=by rw [ae5,if_pos hfo]
      repeat' (first|(refine zsk ?_;intro K' hK)|(refine zrg ?_;intro K' hK)|refine zsp ?_|(refine zsc ?_ ?_<;>intro hc<;>first|exact znh|try simp only [znz] at hc)|simp (maxSteps:=1000000) only [go_sem,mTs,g0,g1,g2,g3,e5,hw,f10,f13,gM,v1,u1,u3,u5,u6,Int.toNat_natCast]|(refine hK _ ?_;clear hK K')|apply zan|(apply apb;(focus exact rfl);(focus first|exact f9);(focus exact rfl);(focus exact rfl);(focus (first|exact rfl|(simp;done))))|(apply anV;(focus first|exact rfl|(simp only [upd,if_false, *];exact rfl));(focus first|exact rfl|decide|(simp [rA,rW];done)|(simp [rA,rW];omega)|omega);(focus first|exact rfl|decide|(simp [rA,rW];done)|(simp [rA,rW];omega)|omega);(focus first|exact f9);(focus exact rfl);(focus first|exact rfl|decide|(simp [rA,rW];done)|(simp [rA,rW];omega)|omega);(focus (first|exact rfl|(simp;done)));(focus exact rfl))|(apply Ko;(focus exact rfl);(focus first|exact (z3 _ _ zsd zsd));(focus exact rfl);(focus exact rfl))|(apply U4;(focus exact rfl);(focus exact zrd);(focus exact zrd);(focus first|exact (z3 _ _ zsd zsd));(focus exact rfl);(focus exact rfl);(focus exact zrd))|(apply wQ;(focus first|exact (z2 _ _ zsd zsd)))|(apply aaE;(focus first|exact (z2 _ _ zsd zsd));(focus exact zrd))|((first|apply QA|apply Q3);(focus first|exact (z0 _ _ zsd zsd).b))|exact zsq|fail)
      all_goals
       have wM':=wM.h
       refine hL _ (k + 1) (af3 [0,1,2] (nmS 4 a2 (4 + 3 * a2) nM (4 + 3 * a2 + 2))) (by omega) (by omega) ?_
       rw [hm,← q2]
       refine ahP (N:=4) (es0:=es2) (e1:=aci f e2) (els:=(ye 4 es2).set a2 (.agg [V.int e2.num,.hd (4 + 3 * a2) 0 e2.hosts.length,.hd nM 0 e2.machs.length,.hd (4 + 3 * a2 + 2) 0 e2.finds.length])) [0,1,2] rfl rfl q5 (by omega) (agc rfl (by rw [zN];rfl) rfl rfl rfl rfl) (by simp) ?_ ?_ ?_ (fun k y h=>by simp at h) (fun j=>?_) (fun q y hq hq3 hy=>?_) ?_ ⟨.buf true 1 (e2.machs.map V.int),by simp only [upd,u5,if_false,if_true,gM],fun _=>by simp only [aci,if_neg hm0,hins]⟩ ?_ (by simp) (fun q hq=>?_) ?_ ?_ ?_ ?_ ?_
       ·simp only [zM,zQ,upd,Nat.reduceEqDiff,if_false,if_true,u6,u7,u8];first|done|exact g0
       ·rw [wT (e1:=aci f e2) q1 rfl,zN];simp only [zM,zQ,upd,Nat.reduceEqDiff,if_false,if_true,u6,u7,u8];first|done|exact g1
       ·simp only [zM,zQ,upd,Nat.reduceEqDiff,if_false,if_true,u6,u7,u8];first|done|rfl
       ·rw [f14]
        by_cases hj:j = a2
        ·rw [if_pos hj,if_pos hj];simp only [aci,if_neg hm0,hins,mhd];first|rfl|(rw [if_neg hne2];done)|(rw [if_neg hne3];done)
        ·rw [if_neg hj,if_neg hj]
       ·simp only [upd];(repeat rw [if_neg (by omega)]);exact hrow q y hy
       ·simp only [upd];(repeat rw [if_neg (by omega)]);exact hrow _ _ (by rw [WE,q1];rfl)
       ·simp only [upd];(repeat rw [if_neg (by omega)]);exact hrow _ _ (by rw [WD,q1];rfl)
       ·simp only [zw,zD,or_false] at hq ⊢;omega
       ·simp only [zw,zD,or_false];omega
       ·omega
       ·omega
       ·omega
       ·omega
end Av
end

/- Strings as lists of bytes, lists of integers: what the operations do to them. -/
import Derived.Test.YtjobognfgjobfaaGreatDoorK9
import Derived.Laws.Strings
set_option linter.unusedVariables false
set_option linter.unusedSimpArgs false
section
namespace Av
open Go
theorem wq (l:List UInt8):(⟨l.toArray⟩:ByteArray).size = l.length:=by simp [ByteArray.size]
theorem avk (a b:List UInt8):(⟨a.toArray⟩:ByteArray)++⟨b.toArray⟩ = ⟨(a++b).toArray⟩:=by
 apply ByteArray.ext
 simp
theorem abQ (l:List UInt8):(⟨l.toArray⟩:ByteArray).toList = l:=by
 simp
theorem avj (l:List UInt8) (a b:Nat):(⟨l.toArray⟩:ByteArray).extract a b = ⟨((l.drop a).take (b - a)).toArray⟩:=by
 apply ByteArray.ext
 simp
theorem awD (a b:List UInt8):agh .add ⟨a.toArray⟩ ⟨b.toArray⟩ = .asrt (a.length + b.length < 2 ^ 62) (.ret { v:=V.str (a++b) }):=by
 simp only [agh,wq,avk]
theorem awA (a b:List UInt8):agh .eql ⟨a.toArray⟩ ⟨b.toArray⟩ = .ret { v:=.bool (a == b) }:=by
 simp only [agh,abQ]
theorem awv (a b:List UInt8):agh .neq ⟨a.toArray⟩ ⟨b.toArray⟩ = .ret { v:=.bool (!(a == b)) }:=by
 simp only [agh,abQ]
theorem aww (a b:List UInt8):agh .lss ⟨a.toArray⟩ ⟨b.toArray⟩ = .ret { v:=.bool (Op.bytesLess a b) }:=by
 simp only [agh,abQ]
theorem awx (a b:List UInt8):agh .leq ⟨a.toArray⟩ ⟨b.toArray⟩ = .ret { v:=.bool (Op.bytesLess a b || a == b) }:=by
 simp only [agh,abQ]
theorem awy (a b:List UInt8):agh .gtr ⟨a.toArray⟩ ⟨b.toArray⟩ = .ret { v:=.bool (!(Op.bytesLess a b || a == b)) }:=by
 simp only [agh,abQ]
theorem awz (a b:List UInt8):agh .geq ⟨a.toArray⟩ ⟨b.toArray⟩ = .ret { v:=.bool (!(Op.bytesLess a b)) }:=by
 simp only [agh,abQ]
theorem aqk {l:List V} (h:∀ v∈l,v.closed):Qb l:=by
 induction l with
 | nil=>trivial
 | cons v l ih=>exact ⟨h v (by simp),by grind⟩
end Av
end
section
namespace Av
open Go
theorem Qq {α:Type} {l:List α} {k:Nat} {y:α} {r:List α} (h:l.drop k = y :: r):k < l.length∧l[k]? = some y∧l.drop (k + 1) = r:=by
 grind [Nat.lt_or_ge,List.drop_of_length_le,List.drop_eq_getElem_cons,List.cons.injEq]
theorem Qu {α:Type} {l:List α} {k:Nat} (h:l.drop k = []):l.length≤k:=by simpa using h
theorem Qe {k:Nat} (h:k < 2 ^ 62):IntKind.i64.wrap ((k:Int) + 1) = ((k + 1:Nat):Int):=by
 grind [Jc]
def Xs:List (Nat×V)→Nat→V→V
 | [],_,v=>v
 | (j,u) :: r,k,v=>if k = j then u else Xs r k v
def ovT (ts:List (Nat×V)):List (Nat×V)→List (Nat×V)
 | []=>[]
 | (k,v) :: r=>(k,Xs ts k v) :: ovT ts r
def ltO (n:Nat) (o:Nat→Option Ob):Prop:=∀ a x,o a = some x→a < n∧x.lt n
theorem ank {n:Nat} {o:Nat→Option Ob} {a:Nat} {x:Ob} (h1:a < n) (h2:x.lt n) (h:ltO n o):ltO n (upd o a (some x)):=by
 intro b y hb
 by_cases e:b = a
 ·grind [Qk]
 ·rw [QO _ _ e] at hb;exact h b y hb
theorem atE {n:Nat}:ltO n (fun _=>none):=by intro a x h;cases h
def ltT (n:Nat) (l:List (Nat×V)):Prop:=∀ p∈l,p.2.lt n
theorem ae0 {n:Nat}:ltT n []:=by intro p hp;cases hp
theorem abY {n k:Nat} {v:V} {r:List (Nat×V)} (h1:v.lt n) (h:ltT n r):ltT n ((k,v) :: r):=by
 intro p hp
 rcases zw.1 hp with rfl|hp
 ·exact h1
 ·exact h p hp
def eqT (t:Nat→V) (τ:Nat→Nat) (l:List (Nat×V)):Prop:=∀ p∈l,t p.1 = p.2.ren τ
theorem xA {t:Nat→V} {τ:Nat→Nat}:eqT t τ []:=by intro p hp;cases hp
theorem KA {t:Nat→V} {τ:Nat→Nat} {k:Nat} {v:V} {r:List (Nat×V)}:eqT t τ ((k,v) :: r)↔t k = v.ren τ∧eqT t τ r:=by
 constructor
 ·intro h;exact ⟨h (k,v) (by simp),fun p hp=>h p (by simp [hp])⟩
 ·rintro ⟨h1,h2⟩ p hp
  rcases zw.1 hp with rfl|hp
  ·exact h1
  ·exact h2 p hp
def okN (n m:Nat) (rn:List (Nat×Nat)):Prop:=(∀ p∈rn,n≤p.2∧m≤p.1)∧(rn.map (·.2)).Nodup
theorem aap:∀ (rn:List (Nat×Nat)) (a:Nat),(Qd rn a = a∧∀ p∈rn,p.1≠a)∨(a,Qd rn a)∈rn
 | [],a=>.inl ⟨rfl,by simp⟩
 | (k,v) :: r,a=>by
  simp only [Qd]
  split
  ·grind
  ·rename_i h
   rcases aap r a with ⟨h1,h2⟩|h'
   ·grind
   grind
theorem arN {n m:Nat} {rn:List (Nat×Nat)} (h:okN n m rn) {a b:Nat} (ha:a < n) (hb:b < n) (e:Qd rn a = Qd rn b):a = b:=by
 rcases aap rn a with ⟨h1,_⟩|h1<;>rcases aap rn b with ⟨h2,_⟩|h2
 ·omega
 ·have:=(h.1 _ h2).1;grind
 ·have:=(h.1 _ h1).1;grind
 ·have:=aal h.2 h1 h2 e
  grind
theorem arO {n m:Nat} {rn:List (Nat×Nat)} (h:okN n m rn) {k:Nat} (hk:k < m):Qd rn k = k:=by
 rcases aap rn k with ⟨h1,_⟩|h1
 ·exact h1
 ·have:=(h.1 _ h1).2;grind
theorem aqI (τ:Nat→Nat) (n:Nat) (x:Ob) (h:x.lt n):(x.ren τ).weak τ n x:=by
 induction x with
 | dead=>trivial
 | typ T x ih=>exact ⟨rfl,ih h⟩
 | box wr cs=>exact ⟨fun h=>h,rfl,h⟩
 | buf wr s xs=>exact ⟨fun h=>h,rfl,rfl⟩
 | obuf wr s xs=>exact ⟨fun h=>h,rfl,rfl,h⟩
 | map ks vs c0=>exact ⟨rfl,rfl,rfl,h⟩
 | iter a since seen last=>exact ⟨rfl,h,rfl,rfl,rfl⟩
theorem auE {m n:Nat} {s:St} {l:List (Nat×V)} {o:Nat→Option Ob} (rn:List (Nat×Nat)) (hn:okN n m rn) (hm:m≤n) (hl:ltT n l) (hlo:ltO n o)
  (ht:eqT s.t (Qd rn) l) (ho:∀ a,a < n→s.o (Qd rn a) = (o a).map (Ob.ren (Qd rn))):anX m (Qd rn) s { t:=yR l,o:=o,n:=n }:=by
 refine ⟨fun i=>?_,fun a y h=>?_,fun a b ha hb e=>?_,fun k hk=>arO hn hk,hm⟩
 ·rcases abh l i with h|h
  ·exact .inl h
  ·exact .inr ⟨ht _ h,hl _ h⟩
 ·obtain ⟨h1,h2⟩:=hlo a y h
  grind [aqI,Qd]
 ·obtain ⟨x,hx⟩:=Zw.1 ha
  obtain ⟨y,hy⟩:=Zw.1 hb
  exact arN hn (hlo a x hx).1 (hlo b y hy).1 e
section
variable {C:Ctx} {nt:Nat} {K:St→Prop} {E:Nat→St→Prop} {R:St→Prop}
theorem axf:∀ (k:Nat) (v:V),SizeOf.sizeOf v≤k→v.ren (fun a=>a) = v:=by
 intro k
 induction k with
 | zero=>intro v h;cases v<;>simp at h
 | succ k ih =>
   intro v h
   have list:∀ cs:List V,SizeOf.sizeOf cs≤k→Ks (fun a=>a) cs = cs:=by
    intro cs
    induction cs with
    | nil=>intro _;rfl
    | cons u r ihr=>grind [Ks]
   cases v<;>simp only [V.ren]<;>simp at h
   all_goals (rw [list _ (by omega)])
theorem aqC (v:V):v.ren (fun a=>a) = v:=axf _ v (zj _)
theorem ayn (cs:List V):Ks (fun a=>a) cs = cs:=by induction cs with
 | nil=>rfl
 | cons v r ih=>simp only [Ks,aqC,ih]
theorem aym (x:Ob):x.ren (fun a=>a) = x:=by induction x<;>simp_all [Ob.ren,ayn]
theorem ahO:Qd [] = fun a=>a:=by funext a;rfl
theorem Ji {ks:List Nat} {x:AC} {base:List (Nat×V)} {o0:Nat→Option Ob} {n0:Nat} {ι:Type} (good:ι→Prop) (ts:ι→List (Nat×V)) (msr:ι→Nat) (i0:ι)
  (hm:C.m≤n0) (h0:good i0) (hlo:ltO n0 o0) (hl:∀ i,good i→ltT n0 (ovT (ts i) base)) (ht:eqT (yR base) (fun a=>a) (ovT (ts i0) base))
  (h:∀ i,good i→∀ K':St→Prop,(∀ s' i',eqT s'.t (fun a=>a) (ovT (ts i') base)→good i'→msr i' < msr i→(∀ a,a < n0→s'.o a = o0 a)→K' s') →
    AWp C nt x { t:=yR (ovT (ts i) base),o:=o0,n:=n0 } K' E R):AWp C nt (arM ks x) { t:=yR base,o:=o0,n:=n0 } K E R:=by
 have hn:okN n0 C.m []:=⟨by simp,by simp⟩
 have ren0:∀ oo:Nat→Option Ob,∀ a,(oo a).map (Ob.ren (Qd [])) = oo a:=by
  intro oo a
  rw [ahO]
  cases oo a with
  | none=>rfl
  | some x=>simp [aym]
 refine Qj good (fun i=>{ t:=yR (ovT (ts i) base),o:=o0,n:=n0 }) msr i0 h0 (Qd []) (auE [] hn hm (hl i0 h0) hlo (by rw [ahO];exact ht) (fun a _=>(ren0 o0 a).symm)) ?_
 intro i hi K' hK
 exact h i hi K' fun s' i' h1 h2 h3 h4=>hK s' i' (Qd []) h2 h3 (auE [] hn hm (hl i' h2) hlo (by rw [ahO];exact h1) (fun a ha=>(h4 a ha).trans (ren0 o0 a).symm))
end
end Av
end
section
namespace Av
open Go
def awR (A W:Nat→Bool) (b:Nat) (s:St) (d:Option Nat) (J:St→Prop) (m:AM E):Prop:=m.wp (Yd A s.o) fun e=>okW W b e.os∧J (s.eff d e)
def jj (A W:Nat→Bool) (b:Nat) (s:St) (d:Option Nat) (J:St→Prop) (k:Ob→AM E) (x:Option Ob):Prop :=
 match x with
 | some ob=>awR A W b s d J (k ob)
 | none=>False
def aai (Γ:Env) (A W:Nat→Bool) (b:Nat) (s:St) (x:AO) (J:St→Prop):Prop:=awG Γ A W b s x J
def wb (Γ:Env) (fz:Nat→Bool) (b0:Nat) (K:St→Prop) (t:OP) (s:St):Prop:=awP Γ fz b0 K t s
def ahx (Γ:Env) (fz:Nat→Bool) (b0:Nat) (K:St→Prop) (t:OP) (s:St):Prop:=awF Γ fz b0 K t s
def aes (Γ:Env) (A W:Nat→Bool) (b:Nat) (s:St) (x:AO) (g:Nat) (want:Bool) (v:V) (J:St→Prop):Prop :=
 match v with
 | .sc (.bool q)=>(q = want→aai Γ A W b (s.put (some g) (.bool want)) { d:=x.d,op:=x.op } J)∧(q = !want→J ((s.put (some g) (.bool !want)).put x.d V.und))
 | .tup []=>J (s.put x.d V.und)
 | _=>False
def qV (Γ:Env) (A W:Nat→Bool) (b:Nat) (s:St) (d:Option Nat) (v:V) (acts:List V) (J:St→Prop):Prop :=
 match v with
 | .clo f cap=>Jk Γ A W b s d f.f (f.args acts cap) J
 | _=>False
section
variable {Γ:Env} {A W:Nat→Bool} {fz:Nat→Bool} {b b0:Nat} {s:St} {d:Option Nat} {J K:St→Prop}
theorem aq4:wb Γ fz b0 K .done s↔K s:=by simp only [wb,awP]
theorem ata {j:Nat} {X:Bool} {acl:List Nat} {x:AO} {t:OP}:wb Γ fz b0 K (.one j X acl x t) s↔aai Γ (rA X acl fz b0) (rW X acl fz b0) (b0 + j * KK) s x (wb Γ fz b0 K t):=by
 simp only [wb,awP,aai];exact Iff.rfl
theorem avr {j:Nat} {X:Bool} {acl:List Nat} {x:AO} {t r:OP}:wb Γ fz b0 K (.or j X acl x t r) s↔aai Γ (rA X acl fz b0) (rW X acl fz b0) (b0 + j * KK) s x (wb Γ fz b0 K t)∧ahx Γ fz b0 K r s:=by
 simp only [wb,ahx,awP,aai];exact Iff.rfl
theorem atb {j:Nat} {X:Bool} {acl:List Nat} {x:AO} {t r:OP}:ahx Γ fz b0 K (.or j X acl x t r) s↔aai Γ (rA X acl fz b0) (rW X acl fz b0) (b0 + j * KK) s x (wb Γ fz b0 K t)∧ahx Γ fz b0 K r s:=by
 simp only [wb,ahx,awF,aai];exact Iff.rfl
theorem apo:ahx Γ fz b0 K .done s↔True:=by simp only [ahx,awF]
theorem apr {x:Opd} {as:List Opd}:aai Γ A W b s ⟨d,.callv x as,none⟩ J↔qV Γ A W b s d (s.ev x) (as.map s.ev) J:=by
 simp only [aai,awG,asP,qV]
 cases s.ev x<;>rfl
theorem axa {aop:AOp} {g:Nat} {want:Bool}:aai Γ A W b s ⟨d,aop,some (g,want)⟩ J↔aes Γ A W b s ⟨d,aop,none⟩ g want (s.t g) J:=by
 simp only [aai,awG]
 constructor
 ·rintro ⟨q,hq,h1,h2⟩
  unfold aes
  rcases q with _|q
  ·have hq:s.t g = .tup []:=hq
   grind
  ·have hq:s.t g = .bool q:=hq
   rw [hq]
   refine ⟨fun e=>?_,fun e=>?_⟩
   ·rw [ww (by rw [hq,e])];exact h1 (by rw [e])
   grind [ww]
 ·intro h
  unfold aes at h
  split at h
  ·rename_i q hq
   refine ⟨some q,hq,fun e=>?_,fun e=>?_⟩
   ·cases e
    have:=h.1 rfl
    rw [ww hq] at this
    exact this
   ·have e':q = !want:=by cases q<;>cases want<;>simp_all
    grind [ww]
  ·rename_i hq
   exact ⟨none,hq,(fun e=>by cases e),fun _=>h⟩
  ·exact h.elim
theorem axW {a:Nat} {k:Ob→AM E}:awR A W b s d J (.rd a k)↔jj A W b s d J k (Yd A s.o a):=by
 unfold jj
 grind [Yd,awR,AM.wp]
theorem vJ (A:Nat→Bool) (o:Nat→Option Ob) (a:Nat):Yd A o a = if A a = true then o a else none:=rfl
theorem avJ:okW W b []↔True:=by simp [okW]
theorem atw {q:Nat×Ob} {r:List (Nat×Ob)}:okW W b (q :: r)↔(W q.1 || (decide (b≤q.1) && decide (q.1 < b + KK))) = true∧okW W b r:=by simp [okW]
theorem ax0 {f:FuncId} {acts:List V} {res:V} (hc:Qw (Yd A s.o) none acts) (h:EvN Γ f (Yj (Yd A s.o) acts) res) (hk:J { t:=(s.put d res).t,o:=s.o,n:=s.n }):Jk Γ A W b s d f acts J :=
 aws h.1 rfl hc h.2.1 h.2.2 hk
theorem ax2 {f:FuncId} {acts:List V} {res:V} (hc:Qw (Yd A s.o) (some []) acts) (h:EvC Γ f (Yj (Yd A s.o) acts) res) (hk:J { t:=(s.put d res).t,o:=s.o,n:=s.n }):Jk Γ A W b s d f acts J :=
 awt h.1 rfl hc h.2 hk
end
section
variable {C:Ctx} {nt:Nat} {s:St} {K:St→Prop} {E:Nat→St→Prop} {R:St→Prop}
theorem ao4 {ks L:List Nat} {ot:OT} {p:OP} {ops:List AO} {ahead:List (List Nat)} {y:AC} (N:Nat) (fz:Nat→Bool) (hN:ops.length = N) (hc:okR ops ahead L ot = true) (hp:aaf (ris ops ahead L) ot = p)
  (h:∀ K':St→Prop,(∀ s',AWp C nt y s' K E R→K' s')→wb C.env fz s.n (fun s'=>K' ((s'.wn (s.n + N * KK)).keep ks)) p s):AWp C nt (qP ks (aw0 L ot p ops ahead) y) s K E R:=by
 subst hN
 exact ab6 (ao6 fz hc hp (h _ fun _ h=>h))
theorem ao5 {L:List Nat} {ot:OT} {p:OP} {ops:List AO} {ahead:List (List Nat)} (N:Nat) (fz:Nat→Bool) (hN:ops.length = N) (hc:okR ops ahead L ot = true) (hp:aaf (ris ops ahead L) ot = p)
  (h:∀ K':St→Prop,(∀ s',K s'→K' s')→wb C.env fz s.n (fun s'=>K' (s'.wn (s.n + N * KK))) p s):AWp C nt (aw0 L ot p ops ahead) s K E R:=by
 subst hN
 exact ao6 fz hc hp (h _ fun _ h=>h)
end
end Av
end
section
set_option linter.unusedVariables false
namespace Av
open Go
def ax9 (o:Nat→Option Ob) (off len:Nat):Option Ob→V
 | some (.buf _ s xs)=>.sl s ((xs.drop off).take len)
 | some (.obuf _ s xs)=>.sl s (aaU o ((xs.drop off).take len))
 | _=>.top
def hdC (o:Nat→Option Ob) (br:List Nat) (B:Option (List Nat)) (off len s:Nat) (ys:List V):Option Ob→Prop
 | some (.buf _ s1 xs)=>s1 = s∧ys = (xs.drop off).take len
 | some (.obuf _ s1 xs)=>s1 = s∧QR o br B ((xs.drop off).take len) ys∧ntL ys∧Qb ys
 | _=>False
theorem axK (o:Nat→Option Ob) (br:List Nat) (B:Option (List Nat)) (a off len s:Nat) (ys:List V):conv o br B (.hd a off len) (.sl s ys)↔okB B a∧a ∉ br∧hdC o br B off len s ys (o a):=by
 rw [anL];unfold hdC;constructor
 ·rintro ⟨h1,h2,⟨wr,xs,h3,h4⟩|⟨wr,xs,h3,h4⟩⟩<;>rw [h3]<;>exact ⟨h1,h2,rfl,h4⟩
 ·rintro ⟨h1,h2,h3⟩;split at h3
  ·rename_i wr s1 xs e;obtain ⟨rfl,h4⟩:=h3;exact ⟨h1,h2,.inl ⟨wr,xs,e,h4⟩⟩
  ·rename_i wr s1 xs e;obtain ⟨rfl,h4⟩:=h3;exact ⟨h1,h2,.inr ⟨wr,xs,e,h4⟩⟩
  ·exact h3.elim
def avo (off:Nat):Option Ob→V
 | some (.box _ cs)=>.ro cs off
 | _=>.top
def awB (q want:Bool) (A B:Prop):Prop:=(q = want→A)∧(q = !want→B)
@[congr] theorem ax4 {q q2 want:Bool} {A B:Prop} (h:q = q2):awB q want A B = awB q2 want A B:=by rw [h]
@[go_sem ↓] theorem azn {A B:Prop}:awB true true A B = A:=by simp [awB]
@[go_sem ↓] theorem azm {A B:Prop}:awB false true A B = B:=by simp [awB]
@[go_sem ↓] theorem azl {A B:Prop}:awB true false A B = B:=by simp [awB]
@[go_sem ↓] theorem azk {A B:Prop}:awB false false A B = A:=by simp [awB]
theorem awJ {q:Bool} {A B:Prop} (h1:q = true→A) (h2:q = false→B):awB q true A B:=⟨h1,h2⟩
theorem awK {q:Bool} {A B:Prop} (h1:q = false→A) (h2:q = true→B):awB q false A B:=⟨h1,h2⟩
section
variable {Γ:Env} {A W:Nat→Bool} {fz:Nat→Bool} {b b0:Nat} {r:List AO} {s:St} {d:Option Nat} {J K:St→Prop} {o:Nat→Option Ob} {br:List Nat} {B:Option (List Nat)}
@[go_sem] theorem u1:WC Γ b [] s K = K { t:=s.t,o:=s.o,n:=b }:=propext Iff.rfl
@[go_sem] theorem u2 {x:AO}:WC Γ b (x :: r) s K = (match x.g with|none=>(match x.op with|.call f as=>awC Γ b r s x.d f (as.map s.ev) K|.callv y as=>aeM Γ b r s x.d (s.ev y) (as.map s.ev) K|op=>awS Γ b r s x.d K (sem b s.ev op))|some (g,want)=>awQ Γ b r s ⟨x.d,x.op,none⟩ g want (s.t g) K):=by
 obtain ⟨d,op,g⟩:=x
 cases g with
 | some p=>obtain ⟨g,want⟩:=p;exact propext aw9
 | none =>
   cases op
   case callv y as=>exact propext apq
   all_goals rfl
@[go_sem] theorem u3 {f:FuncId} {cap acts:List V}:aeM Γ b r s d (.clo (.n f) cap) acts K = awC Γ b r s d f (acts++cap) K:=propext Iff.rfl
@[go_sem] theorem u4 {x:AO} {g:Nat} {want q:Bool}:awQ Γ b r s x g want (.sc (.bool q)) K = awB q want (WC Γ b (⟨x.d,x.op,none⟩ :: r) (s.put (some g) (.bool want)) K) (WC Γ (b + KK) r ((s.put (some g) (.bool !want)).put x.d V.und) K):=propext Iff.rfl
@[go_sem] theorem u5 {x:AO} {g:Nat} {want:Bool}:awQ Γ b r s x g want (.tup []) K = WC Γ (b + KK) r (s.put x.d V.und) K:=propext Iff.rfl
@[go_sem] theorem u6 {e:E}:awS Γ b r s d K (.ret e) = WC Γ (b + KK) r (s.eff d e) K:=propext Iff.rfl
@[go_sem] theorem u7 {p:Prop} {m:AM E}:awS Γ b r s d K (.asrt p m) = (p∧awS Γ b r s d K m):=propext Iff.rfl
@[go_sem] theorem u8 {a:Nat} {k:Ob→AM E}:awS Γ b r s d K (.rd a k) = afz Γ b r s d K k (s.o a):=propext axV
@[go_sem] theorem u9 {k:Bool→AM E}:awS Γ b r s d K (.any k) = ∀ t,awS Γ b r s d K (k t):=propext Iff.rfl
@[go_sem] theorem u10:awS Γ b r s d K .no = False:=propext Iff.rfl
@[go_sem] theorem u11 {k:Ob→AM E} {ob:Ob}:afz Γ b r s d K k (some ob) = awS Γ b r s d K (k ob):=propext Iff.rfl
@[go_sem] theorem u12:wb Γ fz b0 K .done s = K s:=propext aq4
@[go_sem] theorem u13 {j:Nat} {X:Bool} {acl:List Nat} {x:AO} {t r:OP}:wb Γ fz b0 K (.or j X acl x t r) s = (aai Γ (rA X acl fz b0) (rW X acl fz b0) (b0 + j * KK) s x (wb Γ fz b0 K t)∧ahx Γ fz b0 K r s):=propext avr
@[go_sem] theorem u14 {j:Nat} {X:Bool} {acl:List Nat} {x:AO} {t r:OP}:ahx Γ fz b0 K (.or j X acl x t r) s = (aai Γ (rA X acl fz b0) (rW X acl fz b0) (b0 + j * KK) s x (wb Γ fz b0 K t)∧ahx Γ fz b0 K r s):=propext atb
@[go_sem] theorem u15 {j:Nat} {X:Bool} {acl:List Nat} {x:AO} {t:OP}:wb Γ fz b0 K (.one j X acl x t) s = aai Γ (rA X acl fz b0) (rW X acl fz b0) (b0 + j * KK) s x (wb Γ fz b0 K t):=propext ata
@[go_sem] theorem u16:ahx Γ fz b0 K .done s = True:=propext apo
@[go_sem] theorem u17 {x:AO}:aai Γ A W b s x J = (match x.g with|none=>(match x.op with|.call f as=>Jk Γ A W b s x.d f (as.map s.ev) J|.callv y as=>qV Γ A W b s x.d (s.ev y) (as.map s.ev) J|op=>awR A W b s x.d J (sem b s.ev op))|some (g,want)=>aes Γ A W b s ⟨x.d,x.op,none⟩ g want (s.t g) J):=by
 obtain ⟨d,op,g⟩:=x
 cases g with
 | some p=>obtain ⟨g,want⟩:=p;exact propext axa
 | none =>
   cases op
   case callv y as=>exact propext apr
   all_goals rfl
@[go_sem] theorem u18 {f:FuncId} {cap acts:List V}:qV Γ A W b s d (.clo (.n f) cap) acts J = Jk Γ A W b s d f (acts++cap) J:=propext Iff.rfl
@[go_sem] theorem u19 {x:AO} {g:Nat} {want q:Bool}:aes Γ A W b s x g want (.sc (.bool q)) J = awB q want (aai Γ A W b (s.put (some g) (.bool want)) ⟨x.d,x.op,none⟩ J) (J ((s.put (some g) (.bool !want)).put x.d V.und)):=propext Iff.rfl
@[go_sem] theorem u20 {x:AO} {g:Nat} {want:Bool}:aes Γ A W b s x g want (.tup []) J = J (s.put x.d V.und):=propext Iff.rfl
@[go_sem] theorem u21:awR A W b s d J .no = False:=propext Iff.rfl
@[go_sem] theorem u22 {e:E}:awR A W b s d J (.ret e) = (okW W b e.os∧J (s.eff d e)):=propext Iff.rfl
@[go_sem] theorem u23 {p:Prop} {m:AM E}:awR A W b s d J (.asrt p m) = (p∧awR A W b s d J m):=propext Iff.rfl
@[go_sem] theorem u24 {a:Nat} {k:Ob→AM E}:awR A W b s d J (.rd a k) = jj A W b s d J k (Yd A s.o a):=propext axW
@[go_sem] theorem u25 {k:Ob→AM E} {ob:Ob}:jj A W b s d J k (some ob) = awR A W b s d J (k ob):=propext Iff.rfl
@[go_sem] theorem u26 {A:Nat→Bool} {o:Nat→Option Ob} {a:Nat}:Yd A o a = if A a = true then o a else none:=rfl
@[go_sem] theorem u27 {W:Nat→Bool} {b:Nat}:okW W b [] = True:=propext avJ
@[go_sem] theorem u28 {W:Nat→Bool} {b:Nat} {q:Nat×Ob} {r:List (Nat×Ob)}:okW W b (q :: r) = ((W q.1 || (decide (b≤q.1) && decide (q.1 < b + KK))) = true∧okW W b r):=propext atw
@[go_sem] theorem u29 {X:Bool} {acl:List Nat} {fz:Nat→Bool} {b0 a:Nat}:rA X acl fz b0 a = ((decide (a < b0) && (X || fz a)) || acl.any fun i=>decide (b0 + i * KK≤a) && decide (a < b0 + i * KK + KK)):=rfl
@[go_sem] theorem u30 {X:Bool} {acl:List Nat} {fz:Nat→Bool} {b0 a:Nat}:rW X acl fz b0 a = (X && ((decide (a < b0) && !fz a) || acl.any fun i=>decide (b0 + i * KK≤a) && decide (a < b0 + i * KK + KK))):=rfl
@[go_sem] theorem u31 {s:St} {n:Nat}:s.wn n = { t:=s.t,o:=s.o,n:=n }:=rfl
@[go_sem] theorem u32 {ks:List Nat} {s:St}:s.keep ks = { t:=yR (ks.map fun k=>(k,s.t k)),o:=s.o,n:=s.n }:=rfl
@[go_sem] theorem u33 {α:Type} {f:Nat→α} {a:Nat} {v:α} {i:Nat}:upd f a v i = if i = a then v else f i:=rfl
@[go_sem] theorem u34 {k:Nat} {v:V} {r:List (Nat×V)} {i:Nat}:yR ((k,v) :: r) i = if i = k then v else yR r i:=rfl
@[go_sem] theorem u35 {i:Nat}:yR [] i = .top:=rfl
@[go_sem] theorem u36 {k:Nat} {v:Ob} {r:List (Nat×Ob)} {i:Nat}:adF ((k,v) :: r) i = if i = k then some v else adF r i:=rfl
@[go_sem] theorem u37 {i:Nat}:adF [] i = none:=rfl
@[go_sem] theorem u38 {args:List V} {ins:List Ob}:Yt args ins = { t:=fun i=>(args[i]?).getD .top,o:=fun k=>ins[k]?,n:=ins.length }:=rfl
@[go_sem] theorem u39 {ts:List (Nat×V)} {os:List (Nat×Ob)} {n:Nat}:QS ts os n = { t:=yR ts,o:=adF os,n:=n }:=rfl
@[go_sem] theorem u40 {α:Type}:([]:List α).length = 0:=rfl
@[go_sem] theorem u41 {α:Type} {a:α} {l:List α}:(a :: l).length = l.length + 1:=rfl
@[go_sem] theorem u42 {α:Type} {a:α} {l:List α}:(a :: l)[0]? = some a:=rfl
@[go_sem] theorem u43 {α:Type} {a:α} {l:List α} {i:Nat}:(a :: l)[i + 1]? = l[i]?:=rfl
@[go_sem] theorem u44 {α:Type} {a b:α}:(some a).getD b = a:=rfl
@[go_sem] theorem u45 {α:Type} {b:α}:(none:Option α).getD b = b:=rfl
@[go_sem] theorem u46 {α β:Type} {f:α→β}:(none:Option α).map f = none:=rfl
@[go_sem] theorem u47 {α β:Type} {f:α→β} {a:α}:(some a).map f = some (f a):=rfl
@[go_sem] theorem u48 {α β:Type} {f:α→β}:([]:List α).map f = []:=rfl
@[go_sem] theorem u49 {α β:Type} {f:α→β} {a:α} {l:List α}:(a :: l).map f = f a :: l.map f:=rfl
@[go_sem] theorem u50 {α:Type} {l:List α}:[]++l = l:=rfl
@[go_sem] theorem u51 {α:Type} {a:α} {l r:List α}:(a :: l)++r = a :: (l++r):=rfl
@[go_sem] theorem u52 {α:Type} {l:List α}:l.take 0 = []:=rfl
@[go_sem] theorem u53 {α:Type} {a:α} {l:List α} {n:Nat}:(a :: l).take (n + 1) = a :: l.take n:=rfl
@[go_sem] theorem u54 {α:Type} {l:List α}:l.drop 0 = l:=rfl
@[go_sem] theorem u55 {α:Type} {a:α} {l:List α} {n:Nat}:(a :: l).drop (n + 1) = l.drop n:=rfl
@[go_sem] theorem u56 {α:Type} {p:α→Bool}:([]:List α).any p = false:=rfl
@[go_sem] theorem u57 {α:Type} {p:α→Bool} {a:α} {l:List α}:(a :: l).any p = (p a || l.any p):=rfl
@[go_sem] theorem u58 {α β:Type} {f:β→α→β} {b:β}:([]:List α).foldl f b = b:=rfl
@[go_sem] theorem u59 {α β:Type} {f:β→α→β} {b:β} {a:α} {l:List α}:(a :: l).foldl f b = l.foldl f (f b a):=rfl
@[go_sem] theorem u60 {α:Type} {a:α}:List.replicate 0 a = []:=rfl
@[go_sem] theorem u61 {α:Type} {n:Nat} {a:α}:List.replicate (n + 1) a = a :: List.replicate n a:=rfl
@[go_sem] theorem u62 {α:Type} {a b:α} {l:List α}:(a :: l).set 0 b = b :: l:=rfl
@[go_sem] theorem u63 {α:Type} {a b:α} {l:List α} {n:Nat}:(a :: l).set (n + 1) b = a :: l.set n b:=rfl
@[go_sem] theorem u64 {n:Nat}:n + 0 = n:=rfl
@[go_sem] theorem u65 {n:Nat}:(n:Int).toNat = n:=rfl
@[go_sem] theorem u66 {α:Type} {i:Nat}:([]:List α)[i]? = none:=by simp
@[go_sem] theorem u67 {α:Type} {l:List α}:l++[] = l:=by simp
@[go_sem] theorem u68 {α:Type} {n:Nat}:([]:List α).take n = []:=by simp
@[go_sem] theorem u69 {α:Type} {n:Nat}:([]:List α).drop n = []:=by simp
@[go_sem] theorem u70 {n:Nat}:0 + n = n:=by simp
@[go_sem] theorem u71 {n:Nat}:(0≤(n:Int)) = True:=by simp
@[go_sem] theorem u72 {n:Nat}:(n≤n) = True:=by simp
@[go_sem] theorem u73 {α:Type} {p:α→Prop} {a:α} {l:List α}:(∀ x∈a :: l,p x) = (p a∧∀ x∈l,p x):=by simp
@[go_sem] theorem u74 {α:Type} {p:α→Prop}:(∀ x∈([]:List α),p x) = True:=by simp
@[go_sem] theorem u75 {α:Type} {a:α}:(a∈([]:List α)) = False:=by simp
@[go_sem] theorem u76 {p:Prop}:(True∧p) = p:=by simp
@[go_sem] theorem u77 {p:Prop}:(p∧True) = p:=by simp
@[go_sem] theorem u78 {p:Prop}:(False∧p) = False:=by simp
@[go_sem] theorem u79 {p:Prop}:(True∨p) = True:=by simp
@[go_sem] theorem u80 {p:Prop}:(p∨True) = True:=by simp
@[go_sem] theorem u81 {p:Prop}:(False∨p) = p:=by simp
@[go_sem] theorem u82 {p:Prop}:(p∨False) = p:=by simp
@[go_sem] theorem u83:(¬ True) = False:=by simp
@[go_sem] theorem u84:(¬ False) = True:=by simp
@[go_sem] theorem u85 {p:Prop}:(False→p) = True:=by simp
@[go_sem] theorem u86 {p:Prop}:(True→p) = p:=by simp
@[go_sem] theorem u87 {α:Type}:(α→True) = True:=by simp
@[go_sem] theorem u88 {p:Prop}:(p→True) = True:=by simp
@[go_sem] theorem u89:(false = true) = False:=by simp
@[go_sem] theorem u90:(true = false) = False:=by simp
@[go_sem] theorem u91 {α:Type} {a b:α}:(some a = some b) = (a = b):=by simp
@[go_sem] theorem u92 {α:Type} {a:α}:(a = a) = True:=by simp
@[go_sem] theorem u93:decide True = true:=by simp
@[go_sem] theorem u94:decide False = false:=by simp
@[go_sem] theorem u95:(!true) = false:=rfl
@[go_sem] theorem u96:(!false) = true:=rfl
@[go_sem] theorem u97 {b:Bool}:(true && b) = b:=rfl
@[go_sem] theorem u98 {b:Bool}:(false && b) = false:=rfl
@[go_sem] theorem u99 {b:Bool}:(true || b) = true:=rfl
@[go_sem] theorem aA4 {b:Bool}:(false || b) = b:=rfl
@[go_sem] theorem aA3 {α:Type} {a b:α}:(a≠b) = ¬ (a = b):=rfl
@[go_sem] theorem aA2 {b:Bool}:(b && true) = b:=by simp
@[go_sem] theorem aA1 {b:Bool}:(b && false) = false:=by simp
@[go_sem] theorem aA0 {b:Bool}:(b || true) = true:=by simp
@[go_sem] theorem aAZ {b:Bool}:(b || false) = b:=by simp
@[go_sem] theorem aAY {v:V}:conv o br B v .top = True:=propext (by apply axH)
@[go_sem] theorem aAX {v u:Value}:conv o br B (.sc v) (.sc u) = (v = u):=propext (by apply ayJ)
@[go_sem] theorem aAW {s:Nat} {ys:List V}:conv o br B (.sc (.slice none 0 0)) (.sl s ys) = (ys = []):=propext (by apply axJ)
@[go_sem] theorem aAV {s s':Nat} {xs ys:List V}:conv o br B (.sl s xs) (.sl s' ys) = (s = s'∧xs = ys):=propext (by apply ayI)
@[go_sem] theorem aAU {a off len s:Nat} {ys:List V}:conv o br B (.hd a off len) (.sl s ys) = (okB B a∧a ∉ br∧hdC o br B off len s ys (o a)):=propext (by apply axK)
@[go_sem] theorem aAT {a off off':Nat} {es:List V}:conv o br B (.ptr a off) (.ro es off') = (okB B a∧a ∉ br∧off' = off∧Qb es∧∃ wr cs,o a = some (.box wr cs)∧QR o br B cs es):=propext (by apply axI)
@[go_sem] theorem aAS {off off':Nat} {cs es:List V}:conv o br B (.ro cs off) (.ro es off') = (cs = es∧off' = off):=propext (by apply ayK)
@[go_sem] theorem aAR {cs es:List V}:conv o br B (.agg cs) (.agg es) = QR o br B cs es:=propext (by apply axM)
@[go_sem] theorem aAQ {cs es:List V}:conv o br B (.tup cs) (.tup es) = QR o br B cs es:=propext (by apply axG)
@[go_sem] theorem aAP {f g:FK} {cs es:List V}:conv o br B (.clo f cs) (.clo g es) = (f = g∧QR o br B cs es):=propext (by apply axL)
@[go_sem] theorem aAO :conv o br B .nn .nn = True:=propext (by apply ayL)
@[go_sem] theorem aAN:QR o br B [] [] = True:=propext (awm _ _ _)
@[go_sem] theorem aAM {v e:V} {r r':List V}:QR o br B (v :: r) (e :: r') = (conv o br B v e∧QR o br B r r'):=propext (aud _ _ _ _ _ _ _)
@[go_sem] theorem aAL {a:Nat}:okB none a = True:=propext (aty _)
@[go_sem] theorem aAK {l:List Nat} {a:Nat}:okB (some l) a = (a∈l):=propext (atx _ _)
@[go_sem] theorem aAJ {wr0:Bool} {s0 s:Nat} {xs0:List V} {p:List V→Prop}:(∃ wr xs,some (Ob.buf wr0 s0 xs0) = some (Ob.buf wr s xs)∧p xs) = (s0 = s∧p xs0):=propext ap1
@[go_sem] theorem aAI {wr0:Bool} {s0 s:Nat} {xs0:List V} {p:List V→Prop}:(∃ wr xs,Ob.buf wr0 s0 xs0 = Ob.buf wr s xs∧p xs) = (s0 = s∧p xs0):=propext anw
@[go_sem] theorem aAH {wr0:Bool} {cs0:List V} {p:List V→Prop}:(∃ wr cs,some (Ob.box wr0 cs0) = some (Ob.box wr cs)∧p cs) = p cs0:=propext ap2
@[go_sem] theorem aAG {wr0:Bool} {cs0:List V} {p:List V→Prop}:(∃ wr cs,Ob.box wr0 cs0 = Ob.box wr cs∧p cs) = p cs0:=propext anx
@[go_sem] theorem aAF {wr0:Bool} {s0:Nat} {xs0:List V}:(∃ wr s xs,some (Ob.buf wr0 s0 xs0) = some (Ob.buf wr s xs)) = True:=eq_true ⟨wr0,s0,xs0,rfl⟩
@[go_sem] theorem aAE {wr0:Bool} {s0:Nat} {xs0:List V}:(∃ wr s xs,Ob.buf wr0 s0 xs0 = Ob.buf wr s xs) = True:=eq_true ⟨wr0,s0,xs0,rfl⟩
@[go_sem] theorem aAD {k:IntKind} {a b:Int}:(Value.int k a = Value.int k b) = (a = b):=by simp
@[go_sem] theorem aAC {a b:Bool}:(Value.bool a = Value.bool b) = (a = b):=by simp
@[go_sem] theorem aAB {l:List UInt8}:(⟨l.toArray⟩:ByteArray).size = l.length:=wq l
@[go_sem] theorem aAA {l:List UInt8}:l.toArray.toList = l:=by simp
@[go_sem] theorem aAz {l:List UInt8} {a b:Nat}:(⟨l.toArray⟩:ByteArray).extract a b = ⟨((l.drop a).take (b - a)).toArray⟩:=avj l a b
@[go_sem] theorem aAy {a b:List UInt8}:agh .add ⟨a.toArray⟩ ⟨b.toArray⟩ = .asrt (a.length + b.length < 2 ^ 62) (.ret { v:=V.str (a++b) }):=awD a b
@[go_sem] theorem aAx {a b:List UInt8}:agh .eql ⟨a.toArray⟩ ⟨b.toArray⟩ = .ret { v:=.bool (a == b) }:=awA a b
@[go_sem] theorem aAw {a b:List UInt8}:agh .neq ⟨a.toArray⟩ ⟨b.toArray⟩ = .ret { v:=.bool (!(a == b)) }:=awv a b
@[go_sem] theorem aAv {a b:List UInt8}:agh .lss ⟨a.toArray⟩ ⟨b.toArray⟩ = .ret { v:=.bool (Op.bytesLess a b) }:=aww a b
@[go_sem] theorem aAu {a b:List UInt8}:agh .leq ⟨a.toArray⟩ ⟨b.toArray⟩ = .ret { v:=.bool (Op.bytesLess a b || a == b) }:=awx a b
@[go_sem] theorem aAt {a b:List UInt8}:agh .gtr ⟨a.toArray⟩ ⟨b.toArray⟩ = .ret { v:=.bool (!(Op.bytesLess a b || a == b)) }:=awy a b
@[go_sem] theorem aAs {a b:List UInt8}:agh .geq ⟨a.toArray⟩ ⟨b.toArray⟩ = .ret { v:=.bool (!(Op.bytesLess a b)) }:=awz a b
@[go_sem] theorem aAr {a b:List UInt8}:(Value.string ⟨a.toArray⟩ = Value.string ⟨b.toArray⟩) = (a = b):=by simp
@[go_sem] theorem aAq {v:Value}:V.shut o (.sc v) = .sc v:=by simp only [V.shut]
@[go_sem] theorem aAp :V.shut o .nn = .nn:=by simp only [V.shut]
@[go_sem] theorem aAo :V.shut o .top = .top:=by simp only [V.shut]
@[go_sem] theorem aAn {k:Nat} {xs:List V}:V.shut o (.sl k xs) = .sl k xs:=by simp only [V.shut]
@[go_sem] theorem aAm {cs:List V} {k:Nat}:V.shut o (.ro cs k) = .ro cs k:=by simp only [V.shut]
@[go_sem] theorem aAl {cs:List V}:V.shut o (.agg cs) = .agg (Yj o cs):=by simp only [V.shut]
@[go_sem] theorem aAk {cs:List V}:V.shut o (.tup cs) = .tup (Yj o cs):=by simp only [V.shut]
@[go_sem] theorem aAj {f:FK} {cs:List V}:V.shut o (.clo f cs) = .clo f (Yj o cs):=by simp only [V.shut]
@[go_sem] theorem aAi {a off len:Nat}:V.shut o (.hd a off len) = ax9 o off len (o a):=by simp only [V.shut,ax9]<;>rfl
@[go_sem] theorem aAh {a off:Nat}:V.shut o (.ptr a off) = avo off (o a):=by simp only [V.shut,avo]<;>rfl
@[go_sem] theorem aAg {off len s:Nat} {wr:Bool} {xs:List V}:ax9 o off len (some (.buf wr s xs)) = .sl s ((xs.drop off).take len):=rfl
@[go_sem] theorem aAf {off:Nat} {wr:Bool} {cs:List V}:avo off (some (.box wr cs)) = .ro cs off:=rfl
@[go_sem] theorem aAe:Yj o [] = []:=by simp only [Yj]
@[go_sem] theorem aAd {v:V} {cs:List V}:Yj o (v :: cs) = v.shut o :: Yj o cs:=by simp only [Yj]
@[go_sem] theorem aAc {v:Value}:V.shutOk o B (.sc v) = True:=by simp only [V.shutOk]
@[go_sem] theorem aAb :V.shutOk o B .nn = True:=by simp only [V.shutOk]
@[go_sem] theorem aAa :V.shutOk o B .top = True:=by simp only [V.shutOk]
@[go_sem] theorem az9 {k:Nat} {xs:List V}:V.shutOk o B (.sl k xs) = True:=by simp only [V.shutOk]
@[go_sem] theorem az8 {cs:List V} {k:Nat}:V.shutOk o B (.ro cs k) = True:=by simp only [V.shutOk]
@[go_sem] theorem az7 {a off len:Nat}:V.shutOk o B (.hd a off len) = (okB B a∧awY o B off len (o a)):=by simp only [V.shutOk]
@[go_sem] theorem az6 {a off:Nat}:V.shutOk o B (.ptr a off) = (okB B a∧∃ wr cs,o a = some (.box wr cs)∧Qb cs):=by simp only [V.shutOk]
@[go_sem] theorem az5 {cs:List V}:V.shutOk o B (.agg cs) = Qw o B cs:=by simp only [V.shutOk]
@[go_sem] theorem az4 {cs:List V}:V.shutOk o B (.tup cs) = Qw o B cs:=by simp only [V.shutOk]
@[go_sem] theorem az3 {f:FK} {cs:List V}:V.shutOk o B (.clo f cs) = Qw o B cs:=by simp only [V.shutOk]
@[go_sem] theorem az2:Qw o B [] = True:=by simp only [Qw]
@[go_sem] theorem az1 {v:V} {cs:List V}:Qw o B (v :: cs) = (v.shutOk o B∧Qw o B cs):=by simp only [Qw]
@[go_sem] theorem az0 {v:Value}:V.closed (.sc v) = True:=by simp only [V.closed]
@[go_sem] theorem azZ :V.closed .nn = True:=by simp only [V.closed]
@[go_sem] theorem azY :V.closed .top = True:=by simp only [V.closed]
@[go_sem] theorem azX {k:Nat} {xs:List V}:V.closed (.sl k xs) = True:=by simp only [V.closed]
@[go_sem] theorem azW {cs:List V} {k:Nat}:V.closed (.ro cs k) = True:=by simp only [V.closed]
@[go_sem] theorem azV {cs:List V}:V.closed (.agg cs) = Qb cs:=by simp only [V.closed]
@[go_sem] theorem azU {cs:List V}:V.closed (.tup cs) = Qb cs:=by simp only [V.closed]
@[go_sem] theorem azT {f:FK} {cs:List V}:V.closed (.clo f cs) = Qb cs:=by simp only [V.closed]
@[go_sem] theorem azS:Qb [] = True:=by simp only [Qb]
@[go_sem] theorem azR {v:V} {cs:List V}:Qb (v :: cs) = (v.closed∧Qb cs):=by simp only [Qb]
@[go_sem] theorem azQ {v:Value}:V.cells (.sc v) = [.sc v]:=by simp only [V.cells]
@[go_sem] theorem azP {k:Nat} {xs:List V}:V.cells (.sl k xs) = [.sl k xs]:=by simp only [V.cells]
@[go_sem] theorem azO {a off len:Nat}:V.cells (.hd a off len) = [.hd a off len]:=by simp only [V.cells]
@[go_sem] theorem azN {a off:Nat}:V.cells (.ptr a off) = [.ptr a off]:=by simp only [V.cells]
@[go_sem] theorem azM {cs:List V} {k:Nat}:V.cells (.ro cs k) = [.ro cs k]:=by simp only [V.cells]
@[go_sem] theorem azL {cs:List V}:V.cells (.agg cs) = cs:=by simp only [V.cells]
@[go_sem] theorem azK {f:FK} {cs:List V}:V.cells (.clo f cs) = [.clo f cs]:=by simp only [V.cells]
@[go_sem] theorem azJ :V.cells .nn = [.nn]:=by simp only [V.cells]
@[go_sem] theorem azI:Yk [] [] [] = some true:=by simp only [Yk]
@[go_sem] theorem azH {ks:List Nat} {k k':IntKind} {a b:Int} {xs ys:List V}:Yk (0 :: ks) (.sc (.int k a) :: xs) (.sc (.int k' b) :: ys) = if k = k' then (Yk ks xs ys).map ((a == b) && ·) else none:=by simp only [Yk]
@[go_sem] theorem azG {ks:List Nat} {a b:List UInt8} {xs ys:List V}:Yk (1 :: ks) (.sc (.string ⟨a.toArray⟩) :: xs) (.sc (.string ⟨b.toArray⟩) :: ys) = (Yk ks xs ys).map ((a == b) && ·):=by simp only [Yk];congr;funext t;congr 1;rw [Zq];simp;show (a.toArray == b.toArray) = true↔a = b;simp
@[go_sem] theorem azF {ks:List Nat} {a b:Bool} {xs ys:List V}:Yk (2 :: ks) (.sc (.bool a) :: xs) (.sc (.bool b) :: ys) = (Yk ks xs ys).map ((a == b) && ·):=by simp only [Yk]
@[go_sem] theorem azE {l:List UInt8}:(l == l) = true:=by simp
@[go_sem] theorem azD {n:Int}:(n == n) = true:=by simp
@[go_sem] theorem azC {k:IntKind}:(k == k) = true:=by cases k<;>rfl
@[go_sem] theorem azB {f:FuncId} {cap acts:List V}:aeM Γ b r s d (.clo (.m f) cap) acts K = awC Γ b r s d f (cap++acts) K:=propext Iff.rfl
@[go_sem] theorem azA {f:FuncId} {cap acts:List V}:qV Γ A W b s d (.clo (.m f) cap) acts J = Jk Γ A W b s d f (cap++acts) J:=propext Iff.rfl
@[go_sem] theorem azz {off len s:Nat} {ys:List V} {wr:Bool} {s1:Nat} {xs:List V}:hdC o br B off len s ys (some (.buf wr s1 xs)) = (s1 = s∧ys = (xs.drop off).take len):=rfl
@[go_sem] theorem azy {off len s:Nat} {ys:List V} {wr:Bool} {s1:Nat} {xs:List V}:hdC o br B off len s ys (some (.obuf wr s1 xs)) = (s1 = s∧QR o br B ((xs.drop off).take len) ys∧ntL ys∧Qb ys):=rfl
@[go_sem] theorem azx {off len s:Nat} {wr:Bool} {xs:List V}:ax9 o off len (some (.obuf wr s xs)) = .sl s (aaU o ((xs.drop off).take len)):=rfl
@[go_sem] theorem azw {off len s:Nat} {wr:Bool} {xs:List V}:awY o B off len (some (.buf wr s xs)) = True:=rfl
@[go_sem] theorem azv {off len s:Nat} {wr:Bool} {xs:List V}:awY o B off len (some (.obuf wr s xs)) = (wu o B ((xs.drop off).take len)∧ntL (aaU o ((xs.drop off).take len))):=rfl
@[go_sem] theorem azu {l:List Nat} {k:Nat→AM E}:awS Γ b r s d K (.anyN l k) = (l≠[]∧∀ i∈l,awS Γ b r s d K (k i)):=propext Iff.rfl
@[go_sem] theorem azt {ag:Bool} {ks:List Nat} {k:V} {i:Nat}:XI ag ks k [] i = some none:=rfl
@[go_sem] theorem azs {ks:List Nat} {u v:Value}:xB false ks (.sc u) (.sc v) = Yk ks [.sc u] [.sc v]:=rfl
@[go_sem] theorem azr {ks:List Nat} {u v:List V}:xB true ks (.agg u) (.agg v) = Yk ks u v:=rfl
@[go_sem] theorem azq {a:Nat}:V.cells (.mp a) = [.mp a]:=by simp only [V.cells]
@[go_sem] theorem azp {a k:Nat}:conv o br B (.mp a) (.mp k) = (br[k]? = some a):=by simp only [conv]
end
attribute [go_sem] KK sem AM.int AM.str AM.slice AM.sliceK awu AM.cellsAt aun St.eff St.put St.ev abe V.ofV ZC.v aaT awV splice aks V.mk abp V.small xD adm yQ alC Int.cast_ofNat_Int V.und
end Av
end

/- Strings as lists of bytes, lists of integers: what the operations do to them. -/
import Derived.Test.YtphclkkggijicaaGreatDoorK9
import Derived.Laws.Strings
set_option linter.unusedVariables false
set_option linter.unusedSimpArgs false
section
namespace Av
open Go
theorem KJ (l:List UInt8):(⟨l.toArray⟩:ByteArray).size = l.length:=by simp [ByteArray.size]
theorem aoY (a b:List UInt8):(⟨a.toArray⟩:ByteArray)++⟨b.toArray⟩ = ⟨(a++b).toArray⟩:=by
 apply ByteArray.ext
 simp
theorem xD (l:List UInt8):(⟨l.toArray⟩:ByteArray).toList = l:=by
 simp
theorem ak2 (l:List UInt8) (a b:Nat):(⟨l.toArray⟩:ByteArray).extract a b = ⟨((l.drop a).take (b - a)).toArray⟩:=by
 apply ByteArray.ext
 simp
theorem apW (a b:List UInt8):abe .add ⟨a.toArray⟩ ⟨b.toArray⟩ = .asrt (a.length + b.length < 2 ^ 62) (.ret { v:=V.str (a++b) }):=by
 simp only [abe,KJ,aoY]
theorem apV (a b:List UInt8):abe .eql ⟨a.toArray⟩ ⟨b.toArray⟩ = .ret { v:=.bool (a == b) }:=by
 simp only [abe,xD]
theorem apQ (a b:List UInt8):abe .neq ⟨a.toArray⟩ ⟨b.toArray⟩ = .ret { v:=.bool (!(a == b)) }:=by
 simp only [abe,xD]
theorem apR (a b:List UInt8):abe .lss ⟨a.toArray⟩ ⟨b.toArray⟩ = .ret { v:=.bool (Op.bytesLess a b) }:=by
 simp only [abe,xD]
theorem apS (a b:List UInt8):abe .leq ⟨a.toArray⟩ ⟨b.toArray⟩ = .ret { v:=.bool (Op.bytesLess a b || a == b) }:=by
 simp only [abe,xD]
theorem apT (a b:List UInt8):abe .gtr ⟨a.toArray⟩ ⟨b.toArray⟩ = .ret { v:=.bool (!(Op.bytesLess a b || a == b)) }:=by
 simp only [abe,xD]
theorem apU (a b:List UInt8):abe .geq ⟨a.toArray⟩ ⟨b.toArray⟩ = .ret { v:=.bool (!(Op.bytesLess a b)) }:=by
 simp only [abe,xD]
theorem akx {l:List V} (h:∀ v∈l,v.closed):Qa l:=by
 induction l with
 | nil=>trivial
 | cons v l ih=>exact ⟨h v (by simp),by grind⟩
end Av
end
section
namespace Av
open Go
theorem Qf {α:Type} {l:List α} {k:Nat} {y:α} {r:List α} (h:l.drop k = y :: r):k < l.length∧l[k]? = some y∧l.drop (k + 1) = r:=by
 grind [Nat.lt_or_ge,List.drop_of_length_le,List.drop_eq_getElem_cons,List.cons.injEq]
theorem Qj {α:Type} {l:List α} {k:Nat} (h:l.drop k = []):l.length≤k:=by simpa using h
theorem Qc {k:Nat} (h:k < 2 ^ 62):IntKind.i64.wrap ((k:Int) + 1) = ((k + 1:Nat):Int):=by
 grind [Q9]
def Je:List (Nat×V)→Nat→V→V
 | [],_,v=>v
 | (j,u) :: r,k,v=>if k = j then u else Je r k v
def ovT (ts:List (Nat×V)):List (Nat×V)→List (Nat×V)
 | []=>[]
 | (k,v) :: r=>(k,Je ts k v) :: ovT ts r
def ltO (n:Nat) (o:Nat→Option Ob):Prop:=∀ a x,o a = some x→a < n∧x.lt n
theorem ah9 {n:Nat} {o:Nat→Option Ob} {a:Nat} {x:Ob} (h1:a < n) (h2:x.lt n) (h:ltO n o):ltO n (upd o a (some x)):=by
 intro b y hb
 by_cases e:b = a
 ·grind [Qh]
 ·rw [QC _ _ e] at hb;exact h b y hb
theorem ai1 {n:Nat}:ltO n (fun _=>none):=by intro a x h;cases h
def ltT (n:Nat) (l:List (Nat×V)):Prop:=∀ p∈l,p.2.lt n
theorem aar {n:Nat}:ltT n []:=by intro p hp;cases hp
theorem xG {n k:Nat} {v:V} {r:List (Nat×V)} (h1:v.lt n) (h:ltT n r):ltT n ((k,v) :: r):=by
 intro p hp
 rcases zn.1 hp with rfl|hp
 ·exact h1
 ·exact h p hp
def eqT (t:Nat→V) (τ:Nat→Nat) (l:List (Nat×V)):Prop:=∀ p∈l,t p.1 = p.2.ren τ
theorem Vx {t:Nat→V} {τ:Nat→Nat}:eqT t τ []:=by intro p hp;cases hp
theorem Xv {t:Nat→V} {τ:Nat→Nat} {k:Nat} {v:V} {r:List (Nat×V)}:eqT t τ ((k,v) :: r)↔t k = v.ren τ∧eqT t τ r:=by
 constructor
 ·intro h;exact ⟨h (k,v) (by simp),fun p hp=>h p (by simp [hp])⟩
 ·rintro ⟨h1,h2⟩ p hp
  rcases zn.1 hp with rfl|hp
  ·exact h1
  ·exact h2 p hp
def okN (n m:Nat) (rn:List (Nat×Nat)):Prop:=(∀ p∈rn,n≤p.2∧m≤p.1)∧(rn.map (·.2)).Nodup
theorem jJ:∀ (rn:List (Nat×Nat)) (a:Nat),(Qo rn a = a∧∀ p∈rn,p.1≠a)∨(a,Qo rn a)∈rn
 | [],a=>.inl ⟨rfl,by simp⟩
 | (k,v) :: r,a=>by
  simp only [Qo]
  split
  ·grind
  ·rename_i h
   rcases jJ r a with ⟨h1,h2⟩|h'
   ·grind
   grind
theorem alO {n m:Nat} {rn:List (Nat×Nat)} (h:okN n m rn) {a b:Nat} (ha:a < n) (hb:b < n) (e:Qo rn a = Qo rn b):a = b:=by
 rcases jJ rn a with ⟨h1,_⟩|h1<;>rcases jJ rn b with ⟨h2,_⟩|h2
 ·omega
 ·have:=(h.1 _ h2).1;grind
 ·have:=(h.1 _ h1).1;grind
 ·have:=jG h.2 h1 h2 e
  grind
theorem alP {n m:Nat} {rn:List (Nat×Nat)} (h:okN n m rn) {k:Nat} (hk:k < m):Qo rn k = k:=by
 rcases jJ rn k with ⟨h1,_⟩|h1
 ·exact h1
 ·have:=(h.1 _ h1).2;grind
theorem akT (τ:Nat→Nat) (n:Nat) (x:Ob) (h:x.lt n):(x.ren τ).weak τ n x:=by
 induction x with
 | dead=>trivial
 | typ T x ih=>exact ⟨rfl,ih h⟩
 | box wr cs=>exact ⟨fun h=>h,rfl,h⟩
 | buf wr s xs=>exact ⟨fun h=>h,rfl,rfl⟩
 | obuf wr s xs=>exact ⟨fun h=>h,rfl,rfl,h⟩
 | map ks vs c0=>exact ⟨rfl,rfl,rfl,h⟩
 | iter a since seen last=>exact ⟨rfl,h,rfl,rfl,rfl⟩
theorem aom {m n:Nat} {s:St} {l:List (Nat×V)} {o:Nat→Option Ob} (rn:List (Nat×Nat)) (hn:okN n m rn) (hm:m≤n) (hl:ltT n l) (hlo:ltO n o)
  (ht:eqT s.t (Qo rn) l) (ho:∀ a,a < n→s.o (Qo rn a) = (o a).map (Ob.ren (Qo rn))):amR m (Qo rn) s { t:=jd l,o:=o,n:=n }:=by
 refine ⟨fun i=>?_,fun a y h=>?_,fun a b ha hb e=>?_,fun k hk=>alP hn hk,hm⟩
 ·rcases vl l i with h|h
  ·exact .inl h
  ·exact .inr ⟨ht _ h,hl _ h⟩
 ·obtain ⟨h1,h2⟩:=hlo a y h
  grind [akT,Qo]
 ·obtain ⟨x,hx⟩:=kF.1 ha
  obtain ⟨y,hy⟩:=kF.1 hb
  exact alO hn (hlo a x hx).1 (hlo b y hy).1 e
section
variable {C:Ctx} {nt:Nat} {K:St→Prop} {E:Nat→St→Prop} {R:St→Prop}
theorem aqs:∀ (k:Nat) (v:V),SizeOf.sizeOf v≤k→v.ren (fun a=>a) = v:=by
 intro k
 induction k with
 | zero=>intro v h;cases v<;>simp at h
 | succ k ih =>
   intro v h
   have list:∀ cs:List V,SizeOf.sizeOf cs≤k→Kz (fun a=>a) cs = cs:=by
    intro cs
    induction cs with
    | nil=>intro _;rfl
    | cons u r ihr=>grind [Kz]
   cases v<;>simp only [V.ren]<;>simp at h
   all_goals (rw [list _ (by omega)])
theorem aiQ (v:V):v.ren (fun a=>a) = v:=aqs _ v (zi _)
theorem ark (cs:List V):Kz (fun a=>a) cs = cs:=by induction cs with
 | nil=>rfl
 | cons v r ih=>simp only [Kz,aiQ,ih]
theorem arj (x:Ob):x.ren (fun a=>a) = x:=by induction x<;>simp_all [Ob.ren,ark]
theorem aco:Qo [] = fun a=>a:=by funext a;rfl
theorem Qp {ks:List Nat} {x:AC} {base:List (Nat×V)} {o0:Nat→Option Ob} {n0:Nat} {ι:Type} (good:ι→Prop) (ts:ι→List (Nat×V)) (msr:ι→Nat) (i0:ι)
  (hm:C.m≤n0) (h0:good i0) (hlo:ltO n0 o0) (hl:∀ i,good i→ltT n0 (ovT (ts i) base)) (ht:eqT (jd base) (fun a=>a) (ovT (ts i0) base))
  (h:∀ i,good i→∀ K':St→Prop,(∀ s' i',eqT s'.t (fun a=>a) (ovT (ts i') base)→good i'→msr i' < msr i→(∀ a,a < n0→s'.o a = o0 a)→K' s') →
    AWp C nt x { t:=jd (ovT (ts i) base),o:=o0,n:=n0 } K' E R):AWp C nt (agw ks x) { t:=jd base,o:=o0,n:=n0 } K E R:=by
 have hn:okN n0 C.m []:=⟨by simp,by simp⟩
 have ren0:∀ oo:Nat→Option Ob,∀ a,(oo a).map (Ob.ren (Qo [])) = oo a:=by
  intro oo a
  rw [aco]
  cases oo a with
  | none=>rfl
  | some x=>simp [arj]
 refine QA good (fun i=>{ t:=jd (ovT (ts i) base),o:=o0,n:=n0 }) msr i0 h0 (Qo []) (aom [] hn hm (hl i0 h0) hlo (by rw [aco];exact ht) (fun a _=>(ren0 o0 a).symm)) ?_
 intro i hi K' hK
 exact h i hi K' fun s' i' h1 h2 h3 h4=>hK s' i' (Qo []) h2 h3 (aom [] hn hm (hl i' h2) hlo (by rw [aco];exact h1) (fun a ha=>(h4 a ha).trans (ren0 o0 a).symm))
end
end Av
end
section
namespace Av
open Go
def awR (A W:Nat→Bool) (b:Nat) (s:St) (d:Option Nat) (J:St→Prop) (m:AM E):Prop:=m.wp (Jl A s.o) fun e=>okW W b e.os∧J (s.eff d e)
def Vz (A W:Nat→Bool) (b:Nat) (s:St) (d:Option Nat) (J:St→Prop) (k:Ob→AM E) (x:Option Ob):Prop :=
 match x with
 | some ob=>awR A W b s d J (k ob)
 | none=>False
def jA (Γ:Env) (A W:Nat→Bool) (b:Nat) (s:St) (x:AO) (J:St→Prop):Prop:=awG Γ A W b s x J
def Ky (Γ:Env) (fz:Nat→Bool) (b0:Nat) (K:St→Prop) (t:OP) (s:St):Prop:=awP Γ fz b0 K t s
def aca (Γ:Env) (fz:Nat→Bool) (b0:Nat) (K:St→Prop) (t:OP) (s:St):Prop:=ap0 Γ fz b0 K t s
def vQ (Γ:Env) (A W:Nat→Bool) (b:Nat) (s:St) (x:AO) (g:Nat) (want:Bool) (v:V) (J:St→Prop):Prop :=
 match v with
 | .sc (.bool q)=>(q = want→jA Γ A W b (s.put (some g) (.bool want)) { d:=x.d,op:=x.op } J)∧(q = !want→J ((s.put (some g) (.bool !want)).put x.d V.und))
 | .tup []=>J (s.put x.d V.und)
 | _=>False
def Vq (Γ:Env) (A W:Nat→Bool) (b:Nat) (s:St) (d:Option Nat) (v:V) (acts:List V) (J:St→Prop):Prop :=
 match v with
 | .clo f cap=>QL Γ A W b s d f.f (f.args acts cap) J
 | _=>False
section
variable {Γ:Env} {A W:Nat→Bool} {fz:Nat→Bool} {b b0:Nat} {s:St} {d:Option Nat} {J K:St→Prop}
theorem ale:Ky Γ fz b0 K .done s↔K s:=by simp only [Ky,awP]
theorem anb {j:Nat} {X:Bool} {acl:List Nat} {x:AO} {t:OP}:Ky Γ fz b0 K (.one j X acl x t) s↔jA Γ (rA X acl fz b0) (rW X acl fz b0) (b0 + j * KK) s x (Ky Γ fz b0 K t):=by
 simp only [Ky,awP,jA];exact Iff.rfl
theorem ao8 {j:Nat} {X:Bool} {acl:List Nat} {x:AO} {t r:OP}:Ky Γ fz b0 K (.or j X acl x t r) s↔jA Γ (rA X acl fz b0) (rW X acl fz b0) (b0 + j * KK) s x (Ky Γ fz b0 K t)∧aca Γ fz b0 K r s:=by
 simp only [Ky,aca,awP,jA];exact Iff.rfl
theorem anc {j:Nat} {X:Bool} {acl:List Nat} {x:AO} {t r:OP}:aca Γ fz b0 K (.or j X acl x t r) s↔jA Γ (rA X acl fz b0) (rW X acl fz b0) (b0 + j * KK) s x (Ky Γ fz b0 K t)∧aca Γ fz b0 K r s:=by
 simp only [Ky,aca,ap0,jA];exact Iff.rfl
theorem ajO:aca Γ fz b0 K .done s↔True:=by simp only [aca,ap0]
theorem ajQ {x:Opd} {as:List Opd}:jA Γ A W b s ⟨d,.callv x as,none⟩ J↔Vq Γ A W b s d (s.ev x) (as.map s.ev) J:=by
 simp only [jA,awG,amD,Vq]
 cases s.ev x<;>rfl
theorem aqn {aop:AOp} {g:Nat} {want:Bool}:jA Γ A W b s ⟨d,aop,some (g,want)⟩ J↔vQ Γ A W b s ⟨d,aop,none⟩ g want (s.t g) J:=by
 simp only [jA,awG]
 constructor
 ·rintro ⟨q,hq,h1,h2⟩
  unfold vQ
  rcases q with _|q
  ·have hq:s.t g = .tup []:=hq
   grind
  ·have hq:s.t g = .bool q:=hq
   rw [hq]
   refine ⟨fun e=>?_,fun e=>?_⟩
   ·rw [KO (by rw [hq,e])];exact h1 (by rw [e])
   grind [KO]
 ·intro h
  unfold vQ at h
  split at h
  ·rename_i q hq
   refine ⟨some q,hq,fun e=>?_,fun e=>?_⟩
   ·cases e
    have:=h.1 rfl
    rw [KO hq] at this
    exact this
   ·have e':q = !want:=by cases q<;>cases want<;>simp_all
    grind [KO]
  ·rename_i hq
   exact ⟨none,hq,(fun e=>by cases e),fun _=>h⟩
  ·exact h.elim
theorem aqW {a:Nat} {k:Ob→AM E}:awR A W b s d J (.rd a k)↔Vz A W b s d J k (Jl A s.o a):=by
 unfold Vz
 grind [Jl,awR,AM.wp]
theorem aak (A:Nat→Bool) (o:Nat→Option Ob) (a:Nat):Jl A o a = if A a = true then o a else none:=rfl
theorem apk:okW W b []↔True:=by simp [okW]
theorem anv {q:Nat×Ob} {r:List (Nat×Ob)}:okW W b (q :: r)↔(W q.1 || (decide (b≤q.1) && decide (q.1 < b + KK))) = true∧okW W b r:=by simp [okW]
theorem aqZ {f:FuncId} {acts:List V} {res:V} (hc:Qu (Jl A s.o) none acts) (h:EvN Γ f (JI (Jl A s.o) acts) res) (hk:J { t:=(s.put d res).t,o:=s.o,n:=s.n }):QL Γ A W b s d f acts J :=
 apN h.1 rfl hc h.2.1 h.2.2 hk
theorem aq1 {f:FuncId} {acts:List V} {res:V} (hc:Qu (Jl A s.o) (some []) acts) (h:EvC Γ f (JI (Jl A s.o) acts) res) (hk:J { t:=(s.put d res).t,o:=s.o,n:=s.n }):QL Γ A W b s d f acts J :=
 apO h.1 rfl hc h.2 hk
end
section
variable {C:Ctx} {nt:Nat} {s:St} {K:St→Prop} {E:Nat→St→Prop} {R:St→Prop}
theorem ajz {ks L:List Nat} {ot:OT} {p:OP} {ops:List AO} {ahead:List (List Nat)} {y:AC} (N:Nat) (fz:Nat→Bool) (hN:ops.length = N) (hc:okR ops ahead L ot = true) (hp:js (ris ops ahead L) ot = p)
  (h:∀ K':St→Prop,(∀ s',AWp C nt y s' K E R→K' s')→Ky C.env fz s.n (fun s'=>K' ((s'.wn (s.n + N * KK)).keep ks)) p s):AWp C nt (Kw ks (aqc L ot p ops ahead) y) s K E R:=by
 subst hN
 exact vP (ajB fz hc hp (h _ fun _ h=>h))
theorem ajA {L:List Nat} {ot:OT} {p:OP} {ops:List AO} {ahead:List (List Nat)} (N:Nat) (fz:Nat→Bool) (hN:ops.length = N) (hc:okR ops ahead L ot = true) (hp:js (ris ops ahead L) ot = p)
  (h:∀ K':St→Prop,(∀ s',K s'→K' s')→Ky C.env fz s.n (fun s'=>K' (s'.wn (s.n + N * KK))) p s):AWp C nt (aqc L ot p ops ahead) s K E R:=by
 subst hN
 exact ajB fz hc hp (h _ fun _ h=>h)
end
end Av
end
section
set_option linter.unusedVariables false
namespace Av
open Go
def aq9 (o:Nat→Option Ob) (off len:Nat):Option Ob→V
 | some (.buf _ s xs)=>.sl s ((xs.drop off).take len)
 | some (.obuf _ s xs)=>.sl s (KM o ((xs.drop off).take len))
 | _=>.top
def hdC (o:Nat→Option Ob) (br:List Nat) (B:Option (List Nat)) (off len s:Nat) (ys:List V):Option Ob→Prop
 | some (.buf _ s1 xs)=>s1 = s∧ys = (xs.drop off).take len
 | some (.obuf _ s1 xs)=>s1 = s∧Qz o br B ((xs.drop off).take len) ys∧ntL ys∧Qa ys
 | _=>False
theorem aqM (o:Nat→Option Ob) (br:List Nat) (B:Option (List Nat)) (a off len s:Nat) (ys:List V):conv o br B (.hd a off len) (.sl s ys)↔okB B a∧a ∉ br∧hdC o br B off len s ys (o a):=by
 rw [anV];unfold hdC;constructor
 ·rintro ⟨h1,h2,⟨wr,xs,h3,h4⟩|⟨wr,xs,h3,h4⟩⟩<;>rw [h3]<;>exact ⟨h1,h2,rfl,h4⟩
 ·rintro ⟨h1,h2,h3⟩;split at h3
  ·rename_i wr s1 xs e;obtain ⟨rfl,h4⟩:=h3;exact ⟨h1,h2,.inl ⟨wr,xs,e,h4⟩⟩
  ·rename_i wr s1 xs e;obtain ⟨rfl,h4⟩:=h3;exact ⟨h1,h2,.inr ⟨wr,xs,e,h4⟩⟩
  ·exact h3.elim
def ao3 (off:Nat):Option Ob→V
 | some (.box _ cs)=>.ro cs off
 | _=>.top
def awB (q want:Bool) (A B:Prop):Prop:=(q = want→A)∧(q = !want→B)
@[congr] theorem aq3 {q q2 want:Bool} {A B:Prop} (h:q = q2):awB q want A B = awB q2 want A B:=by rw [h]
@[go_sem ↓] theorem ar7 {A B:Prop}:awB true true A B = A:=by simp [awB]
@[go_sem ↓] theorem ar6 {A B:Prop}:awB false true A B = B:=by simp [awB]
@[go_sem ↓] theorem ar5 {A B:Prop}:awB true false A B = B:=by simp [awB]
@[go_sem ↓] theorem ar4 {A B:Prop}:awB false false A B = A:=by simp [awB]
theorem ap2 {q:Bool} {A B:Prop} (h1:q = true→A) (h2:q = false→B):awB q true A B:=⟨h1,h2⟩
theorem ap3 {q:Bool} {A B:Prop} (h1:q = false→A) (h2:q = true→B):awB q false A B:=⟨h1,h2⟩
section
variable {Γ:Env} {A W:Nat→Bool} {fz:Nat→Bool} {b b0:Nat} {r:List AO} {s:St} {d:Option Nat} {J K:St→Prop} {o:Nat→Option Ob} {br:List Nat} {B:Option (List Nat)}
@[go_sem] theorem u1:Vo Γ b [] s K = K { t:=s.t,o:=s.o,n:=b }:=propext Iff.rfl
@[go_sem] theorem u2 {x:AO}:Vo Γ b (x :: r) s K = (match x.g with|none=>(match x.op with|.call f as=>awC Γ b r s x.d f (as.map s.ev) K|.callv y as=>aad Γ b r s x.d (s.ev y) (as.map s.ev) K|op=>awS Γ b r s x.d K (sem b s.ev op))|some (g,want)=>awQ Γ b r s ⟨x.d,x.op,none⟩ g want (s.t g) K):=by
 obtain ⟨d,op,g⟩:=x
 cases g with
 | some p=>obtain ⟨g,want⟩:=p;exact propext aqm
 | none =>
   cases op
   case callv y as=>exact propext ajP
   all_goals rfl
@[go_sem] theorem u3 {f:FuncId} {cap acts:List V}:aad Γ b r s d (.clo (.n f) cap) acts K = awC Γ b r s d f (acts++cap) K:=propext Iff.rfl
@[go_sem] theorem u4 {x:AO} {g:Nat} {want q:Bool}:awQ Γ b r s x g want (.sc (.bool q)) K = awB q want (Vo Γ b (⟨x.d,x.op,none⟩ :: r) (s.put (some g) (.bool want)) K) (Vo Γ (b + KK) r ((s.put (some g) (.bool !want)).put x.d V.und) K):=propext Iff.rfl
@[go_sem] theorem u5 {x:AO} {g:Nat} {want:Bool}:awQ Γ b r s x g want (.tup []) K = Vo Γ (b + KK) r (s.put x.d V.und) K:=propext Iff.rfl
@[go_sem] theorem u6 {e:E}:awS Γ b r s d K (.ret e) = Vo Γ (b + KK) r (s.eff d e) K:=propext Iff.rfl
@[go_sem] theorem u7 {p:Prop} {m:AM E}:awS Γ b r s d K (.asrt p m) = (p∧awS Γ b r s d K m):=propext Iff.rfl
@[go_sem] theorem u8 {a:Nat} {k:Ob→AM E}:awS Γ b r s d K (.rd a k) = aaN Γ b r s d K k (s.o a):=propext aqV
@[go_sem] theorem u9 {k:Bool→AM E}:awS Γ b r s d K (.any k) = ∀ t,awS Γ b r s d K (k t):=propext Iff.rfl
@[go_sem] theorem u10:awS Γ b r s d K .no = False:=propext Iff.rfl
@[go_sem] theorem u11 {k:Ob→AM E} {ob:Ob}:aaN Γ b r s d K k (some ob) = awS Γ b r s d K (k ob):=propext Iff.rfl
@[go_sem] theorem u12:Ky Γ fz b0 K .done s = K s:=propext ale
@[go_sem] theorem u13 {j:Nat} {X:Bool} {acl:List Nat} {x:AO} {t r:OP}:Ky Γ fz b0 K (.or j X acl x t r) s = (jA Γ (rA X acl fz b0) (rW X acl fz b0) (b0 + j * KK) s x (Ky Γ fz b0 K t)∧aca Γ fz b0 K r s):=propext ao8
@[go_sem] theorem u14 {j:Nat} {X:Bool} {acl:List Nat} {x:AO} {t r:OP}:aca Γ fz b0 K (.or j X acl x t r) s = (jA Γ (rA X acl fz b0) (rW X acl fz b0) (b0 + j * KK) s x (Ky Γ fz b0 K t)∧aca Γ fz b0 K r s):=propext anc
@[go_sem] theorem u15 {j:Nat} {X:Bool} {acl:List Nat} {x:AO} {t:OP}:Ky Γ fz b0 K (.one j X acl x t) s = jA Γ (rA X acl fz b0) (rW X acl fz b0) (b0 + j * KK) s x (Ky Γ fz b0 K t):=propext anb
@[go_sem] theorem u16:aca Γ fz b0 K .done s = True:=propext ajO
@[go_sem] theorem u17 {x:AO}:jA Γ A W b s x J = (match x.g with|none=>(match x.op with|.call f as=>QL Γ A W b s x.d f (as.map s.ev) J|.callv y as=>Vq Γ A W b s x.d (s.ev y) (as.map s.ev) J|op=>awR A W b s x.d J (sem b s.ev op))|some (g,want)=>vQ Γ A W b s ⟨x.d,x.op,none⟩ g want (s.t g) J):=by
 obtain ⟨d,op,g⟩:=x
 cases g with
 | some p=>obtain ⟨g,want⟩:=p;exact propext aqn
 | none =>
   cases op
   case callv y as=>exact propext ajQ
   all_goals rfl
@[go_sem] theorem u18 {f:FuncId} {cap acts:List V}:Vq Γ A W b s d (.clo (.n f) cap) acts J = QL Γ A W b s d f (acts++cap) J:=propext Iff.rfl
@[go_sem] theorem u19 {x:AO} {g:Nat} {want q:Bool}:vQ Γ A W b s x g want (.sc (.bool q)) J = awB q want (jA Γ A W b (s.put (some g) (.bool want)) ⟨x.d,x.op,none⟩ J) (J ((s.put (some g) (.bool !want)).put x.d V.und)):=propext Iff.rfl
@[go_sem] theorem u20 {x:AO} {g:Nat} {want:Bool}:vQ Γ A W b s x g want (.tup []) J = J (s.put x.d V.und):=propext Iff.rfl
@[go_sem] theorem u21:awR A W b s d J .no = False:=propext Iff.rfl
@[go_sem] theorem u22 {e:E}:awR A W b s d J (.ret e) = (okW W b e.os∧J (s.eff d e)):=propext Iff.rfl
@[go_sem] theorem u23 {p:Prop} {m:AM E}:awR A W b s d J (.asrt p m) = (p∧awR A W b s d J m):=propext Iff.rfl
@[go_sem] theorem u24 {a:Nat} {k:Ob→AM E}:awR A W b s d J (.rd a k) = Vz A W b s d J k (Jl A s.o a):=propext aqW
@[go_sem] theorem u25 {k:Ob→AM E} {ob:Ob}:Vz A W b s d J k (some ob) = awR A W b s d J (k ob):=propext Iff.rfl
@[go_sem] theorem u26 {A:Nat→Bool} {o:Nat→Option Ob} {a:Nat}:Jl A o a = if A a = true then o a else none:=rfl
@[go_sem] theorem u27 {W:Nat→Bool} {b:Nat}:okW W b [] = True:=propext apk
@[go_sem] theorem u28 {W:Nat→Bool} {b:Nat} {q:Nat×Ob} {r:List (Nat×Ob)}:okW W b (q :: r) = ((W q.1 || (decide (b≤q.1) && decide (q.1 < b + KK))) = true∧okW W b r):=propext anv
@[go_sem] theorem u29 {X:Bool} {acl:List Nat} {fz:Nat→Bool} {b0 a:Nat}:rA X acl fz b0 a = ((decide (a < b0) && (X || fz a)) || acl.any fun i=>decide (b0 + i * KK≤a) && decide (a < b0 + i * KK + KK)):=rfl
@[go_sem] theorem u30 {X:Bool} {acl:List Nat} {fz:Nat→Bool} {b0 a:Nat}:rW X acl fz b0 a = (X && ((decide (a < b0) && !fz a) || acl.any fun i=>decide (b0 + i * KK≤a) && decide (a < b0 + i * KK + KK))):=rfl
@[go_sem] theorem u31 {s:St} {n:Nat}:s.wn n = { t:=s.t,o:=s.o,n:=n }:=rfl
@[go_sem] theorem u32 {ks:List Nat} {s:St}:s.keep ks = { t:=jd (ks.map fun k=>(k,s.t k)),o:=s.o,n:=s.n }:=rfl
@[go_sem] theorem u33 {α:Type} {f:Nat→α} {a:Nat} {v:α} {i:Nat}:upd f a v i = if i = a then v else f i:=rfl
@[go_sem] theorem u34 {k:Nat} {v:V} {r:List (Nat×V)} {i:Nat}:jd ((k,v) :: r) i = if i = k then v else jd r i:=rfl
@[go_sem] theorem u35 {i:Nat}:jd [] i = .top:=rfl
@[go_sem] theorem u36 {k:Nat} {v:Ob} {r:List (Nat×Ob)} {i:Nat}:abq ((k,v) :: r) i = if i = k then some v else abq r i:=rfl
@[go_sem] theorem u37 {i:Nat}:abq [] i = none:=rfl
@[go_sem] theorem u38 {args:List V} {ins:List Ob}:YL args ins = { t:=fun i=>(args[i]?).getD .top,o:=fun k=>ins[k]?,n:=ins.length }:=rfl
@[go_sem] theorem u39 {ts:List (Nat×V)} {os:List (Nat×Ob)} {n:Nat}:Yd ts os n = { t:=jd ts,o:=abq os,n:=n }:=rfl
@[go_sem] theorem u40 {α:Type}:([]:List α).length = 0:=rfl
@[go_sem] theorem u41 {α:Type} {a:α} {l:List α}:(a :: l).length = l.length + 1:=rfl
@[go_sem] theorem u42 {α:Type} {a:α} {l:List α}:(a :: l)[0]? = some a:=rfl
@[go_sem] theorem u43 {α:Type} {a:α} {l:List α} {i:Nat}:(a :: l)[i + 1]? = l[i]?:=rfl
@[go_sem] theorem u44 {α:Type} {a b:α}:(some a).getD b = a:=rfl
@[go_sem] theorem u45 {α:Type} {b:α}:(none:Option α).getD b = b:=rfl
@[go_sem] theorem u46 {α β:Type} {f:α→β}:(none:Option α).map f = none:=rfl
@[go_sem] theorem u47 {α β:Type} {f:α→β} {a:α}:(some a).map f = some (f a):=rfl
@[go_sem] theorem u48 {α β:Type} {f:α→β}:([]:List α).map f = []:=rfl
@[go_sem] theorem u49 {α β:Type} {f:α→β} {a:α} {l:List α}:(a :: l).map f = f a :: l.map f:=rfl
@[go_sem] theorem u50 {α:Type} {l:List α}:[]++l = l:=rfl
@[go_sem] theorem u51 {α:Type} {a:α} {l r:List α}:(a :: l)++r = a :: (l++r):=rfl
@[go_sem] theorem u52 {α:Type} {l:List α}:l.take 0 = []:=rfl
@[go_sem] theorem u53 {α:Type} {a:α} {l:List α} {n:Nat}:(a :: l).take (n + 1) = a :: l.take n:=rfl
@[go_sem] theorem u54 {α:Type} {l:List α}:l.drop 0 = l:=rfl
@[go_sem] theorem u55 {α:Type} {a:α} {l:List α} {n:Nat}:(a :: l).drop (n + 1) = l.drop n:=rfl
@[go_sem] theorem u56 {α:Type} {p:α→Bool}:([]:List α).any p = false:=rfl
@[go_sem] theorem u57 {α:Type} {p:α→Bool} {a:α} {l:List α}:(a :: l).any p = (p a || l.any p):=rfl
@[go_sem] theorem u58 {α β:Type} {f:β→α→β} {b:β}:([]:List α).foldl f b = b:=rfl
@[go_sem] theorem u59 {α β:Type} {f:β→α→β} {b:β} {a:α} {l:List α}:(a :: l).foldl f b = l.foldl f (f b a):=rfl
@[go_sem] theorem u60 {α:Type} {a:α}:List.replicate 0 a = []:=rfl
@[go_sem] theorem u61 {α:Type} {n:Nat} {a:α}:List.replicate (n + 1) a = a :: List.replicate n a:=rfl
@[go_sem] theorem u62 {α:Type} {a b:α} {l:List α}:(a :: l).set 0 b = b :: l:=rfl
@[go_sem] theorem u63 {α:Type} {a b:α} {l:List α} {n:Nat}:(a :: l).set (n + 1) b = a :: l.set n b:=rfl
@[go_sem] theorem u64 {n:Nat}:n + 0 = n:=rfl
@[go_sem] theorem u65 {n:Nat}:(n:Int).toNat = n:=rfl
@[go_sem] theorem u66 {α:Type} {i:Nat}:([]:List α)[i]? = none:=by simp
@[go_sem] theorem u67 {α:Type} {l:List α}:l++[] = l:=by simp
@[go_sem] theorem u68 {α:Type} {n:Nat}:([]:List α).take n = []:=by simp
@[go_sem] theorem u69 {α:Type} {n:Nat}:([]:List α).drop n = []:=by simp
@[go_sem] theorem u70 {n:Nat}:0 + n = n:=by simp
@[go_sem] theorem u71 {n:Nat}:(0≤(n:Int)) = True:=by simp
@[go_sem] theorem u72 {n:Nat}:(n≤n) = True:=by simp
@[go_sem] theorem u73 {α:Type} {p:α→Prop} {a:α} {l:List α}:(∀ x∈a :: l,p x) = (p a∧∀ x∈l,p x):=by simp
@[go_sem] theorem u74 {α:Type} {p:α→Prop}:(∀ x∈([]:List α),p x) = True:=by simp
@[go_sem] theorem u75 {α:Type} {a:α}:(a∈([]:List α)) = False:=by simp
@[go_sem] theorem u76 {p:Prop}:(True∧p) = p:=by simp
@[go_sem] theorem u77 {p:Prop}:(p∧True) = p:=by simp
@[go_sem] theorem u78 {p:Prop}:(False∧p) = False:=by simp
@[go_sem] theorem u79 {p:Prop}:(True∨p) = True:=by simp
@[go_sem] theorem u80 {p:Prop}:(p∨True) = True:=by simp
@[go_sem] theorem u81 {p:Prop}:(False∨p) = p:=by simp
@[go_sem] theorem u82 {p:Prop}:(p∨False) = p:=by simp
@[go_sem] theorem u83:(¬ True) = False:=by simp
@[go_sem] theorem u84:(¬ False) = True:=by simp
@[go_sem] theorem u85 {p:Prop}:(False→p) = True:=by simp
@[go_sem] theorem u86 {p:Prop}:(True→p) = p:=by simp
@[go_sem] theorem u87 {α:Type}:(α→True) = True:=by simp
@[go_sem] theorem u88 {p:Prop}:(p→True) = True:=by simp
@[go_sem] theorem u89:(false = true) = False:=by simp
@[go_sem] theorem u90:(true = false) = False:=by simp
@[go_sem] theorem u91 {α:Type} {a b:α}:(some a = some b) = (a = b):=by simp
@[go_sem] theorem u92 {α:Type} {a:α}:(a = a) = True:=by simp
@[go_sem] theorem u93:decide True = true:=by simp
@[go_sem] theorem u94:decide False = false:=by simp
@[go_sem] theorem u95:(!true) = false:=rfl
@[go_sem] theorem u96:(!false) = true:=rfl
@[go_sem] theorem u97 {b:Bool}:(true && b) = b:=rfl
@[go_sem] theorem u98 {b:Bool}:(false && b) = false:=rfl
@[go_sem] theorem u99 {b:Bool}:(true || b) = true:=rfl
@[go_sem] theorem atO {b:Bool}:(false || b) = b:=rfl
@[go_sem] theorem atN {α:Type} {a b:α}:(a≠b) = ¬ (a = b):=rfl
@[go_sem] theorem atM {b:Bool}:(b && true) = b:=by simp
@[go_sem] theorem atL {b:Bool}:(b && false) = false:=by simp
@[go_sem] theorem atK {b:Bool}:(b || true) = true:=by simp
@[go_sem] theorem atJ {b:Bool}:(b || false) = b:=by simp
@[go_sem] theorem atI {v:V}:conv o br B v .top = True:=propext (by apply aoH)
@[go_sem] theorem atH {v u:Value}:conv o br B (.sc v) (.sc u) = (v = u):=propext (by apply ary)
@[go_sem] theorem atG {s:Nat} {ys:List V}:conv o br B (.sc (.slice none 0 0)) (.sl s ys) = (ys = []):=propext (by apply aqL)
@[go_sem] theorem atF {s s':Nat} {xs ys:List V}:conv o br B (.sl s xs) (.sl s' ys) = (s = s'∧xs = ys):=propext (by apply arx)
@[go_sem] theorem atE {a off len s:Nat} {ys:List V}:conv o br B (.hd a off len) (.sl s ys) = (okB B a∧a ∉ br∧hdC o br B off len s ys (o a)):=propext (by apply aqM)
@[go_sem] theorem atD {a off off':Nat} {es:List V}:conv o br B (.ptr a off) (.ro es off') = (okB B a∧a ∉ br∧off' = off∧Qa es∧∃ wr cs,o a = some (.box wr cs)∧Qz o br B cs es):=propext (by apply aqK)
@[go_sem] theorem atC {off off':Nat} {cs es:List V}:conv o br B (.ro cs off) (.ro es off') = (cs = es∧off' = off):=propext (by apply arz)
@[go_sem] theorem atB {cs es:List V}:conv o br B (.agg cs) (.agg es) = Qz o br B cs es:=propext (by apply aqO)
@[go_sem] theorem atA {cs es:List V}:conv o br B (.tup cs) (.tup es) = Qz o br B cs es:=propext (by apply aqJ)
@[go_sem] theorem atz {f g:FK} {cs es:List V}:conv o br B (.clo f cs) (.clo g es) = (f = g∧Qz o br B cs es):=propext (by apply aqN)
@[go_sem] theorem aty :conv o br B .nn .nn = True:=propext (by apply arA)
@[go_sem] theorem atx:Qz o br B [] [] = True:=propext (apI _ _ _)
@[go_sem] theorem atw {v e:V} {r r':List V}:Qz o br B (v :: r) (e :: r') = (conv o br B v e∧Qz o br B r r'):=propext (anW _ _ _ _ _ _ _)
@[go_sem] theorem atv {a:Nat}:okB none a = True:=propext (anz _)
@[go_sem] theorem atu {l:List Nat} {a:Nat}:okB (some l) a = (a∈l):=propext (anx _ _)
@[go_sem] theorem att {wr0:Bool} {s0 s:Nat} {xs0:List V} {p:List V→Prop}:(∃ wr xs,some (Ob.buf wr0 s0 xs0) = some (Ob.buf wr s xs)∧p xs) = (s0 = s∧p xs0):=propext akh
@[go_sem] theorem ats {wr0:Bool} {s0 s:Nat} {xs0:List V} {p:List V→Prop}:(∃ wr xs,Ob.buf wr0 s0 xs0 = Ob.buf wr s xs∧p xs) = (s0 = s∧p xs0):=propext aii
@[go_sem] theorem atr {wr0:Bool} {cs0:List V} {p:List V→Prop}:(∃ wr cs,some (Ob.box wr0 cs0) = some (Ob.box wr cs)∧p cs) = p cs0:=propext aki
@[go_sem] theorem atq {wr0:Bool} {cs0:List V} {p:List V→Prop}:(∃ wr cs,Ob.box wr0 cs0 = Ob.box wr cs∧p cs) = p cs0:=propext aij
@[go_sem] theorem atp {wr0:Bool} {s0:Nat} {xs0:List V}:(∃ wr s xs,some (Ob.buf wr0 s0 xs0) = some (Ob.buf wr s xs)) = True:=eq_true ⟨wr0,s0,xs0,rfl⟩
@[go_sem] theorem ato {wr0:Bool} {s0:Nat} {xs0:List V}:(∃ wr s xs,Ob.buf wr0 s0 xs0 = Ob.buf wr s xs) = True:=eq_true ⟨wr0,s0,xs0,rfl⟩
@[go_sem] theorem atn {k:IntKind} {a b:Int}:(Value.int k a = Value.int k b) = (a = b):=by simp
@[go_sem] theorem atm {a b:Bool}:(Value.bool a = Value.bool b) = (a = b):=by simp
@[go_sem] theorem atl {l:List UInt8}:(⟨l.toArray⟩:ByteArray).size = l.length:=KJ l
@[go_sem] theorem atk {l:List UInt8}:l.toArray.toList = l:=by simp
@[go_sem] theorem atj {l:List UInt8} {a b:Nat}:(⟨l.toArray⟩:ByteArray).extract a b = ⟨((l.drop a).take (b - a)).toArray⟩:=ak2 l a b
@[go_sem] theorem ati {a b:List UInt8}:abe .add ⟨a.toArray⟩ ⟨b.toArray⟩ = .asrt (a.length + b.length < 2 ^ 62) (.ret { v:=V.str (a++b) }):=apW a b
@[go_sem] theorem ath {a b:List UInt8}:abe .eql ⟨a.toArray⟩ ⟨b.toArray⟩ = .ret { v:=.bool (a == b) }:=apV a b
@[go_sem] theorem atg {a b:List UInt8}:abe .neq ⟨a.toArray⟩ ⟨b.toArray⟩ = .ret { v:=.bool (!(a == b)) }:=apQ a b
@[go_sem] theorem atf {a b:List UInt8}:abe .lss ⟨a.toArray⟩ ⟨b.toArray⟩ = .ret { v:=.bool (Op.bytesLess a b) }:=apR a b
@[go_sem] theorem ate {a b:List UInt8}:abe .leq ⟨a.toArray⟩ ⟨b.toArray⟩ = .ret { v:=.bool (Op.bytesLess a b || a == b) }:=apS a b
@[go_sem] theorem atd {a b:List UInt8}:abe .gtr ⟨a.toArray⟩ ⟨b.toArray⟩ = .ret { v:=.bool (!(Op.bytesLess a b || a == b)) }:=apT a b
@[go_sem] theorem atc {a b:List UInt8}:abe .geq ⟨a.toArray⟩ ⟨b.toArray⟩ = .ret { v:=.bool (!(Op.bytesLess a b)) }:=apU a b
@[go_sem] theorem atb {a b:List UInt8}:(Value.string ⟨a.toArray⟩ = Value.string ⟨b.toArray⟩) = (a = b):=by simp
@[go_sem] theorem ata {v:Value}:V.shut o (.sc v) = .sc v:=by simp only [V.shut]
@[go_sem] theorem as9 :V.shut o .nn = .nn:=by simp only [V.shut]
@[go_sem] theorem as8 :V.shut o .top = .top:=by simp only [V.shut]
@[go_sem] theorem as7 {k:Nat} {xs:List V}:V.shut o (.sl k xs) = .sl k xs:=by simp only [V.shut]
@[go_sem] theorem as6 {cs:List V} {k:Nat}:V.shut o (.ro cs k) = .ro cs k:=by simp only [V.shut]
@[go_sem] theorem as5 {cs:List V}:V.shut o (.agg cs) = .agg (JI o cs):=by simp only [V.shut]
@[go_sem] theorem as4 {cs:List V}:V.shut o (.tup cs) = .tup (JI o cs):=by simp only [V.shut]
@[go_sem] theorem as3 {f:FK} {cs:List V}:V.shut o (.clo f cs) = .clo f (JI o cs):=by simp only [V.shut]
@[go_sem] theorem as2 {a off len:Nat}:V.shut o (.hd a off len) = aq9 o off len (o a):=by simp only [V.shut,aq9]<;>rfl
@[go_sem] theorem as1 {a off:Nat}:V.shut o (.ptr a off) = ao3 off (o a):=by simp only [V.shut,ao3]<;>rfl
@[go_sem] theorem as0 {off len s:Nat} {wr:Bool} {xs:List V}:aq9 o off len (some (.buf wr s xs)) = .sl s ((xs.drop off).take len):=rfl
@[go_sem] theorem asZ {off:Nat} {wr:Bool} {cs:List V}:ao3 off (some (.box wr cs)) = .ro cs off:=rfl
@[go_sem] theorem asY:JI o [] = []:=by simp only [JI]
@[go_sem] theorem asX {v:V} {cs:List V}:JI o (v :: cs) = v.shut o :: JI o cs:=by simp only [JI]
@[go_sem] theorem asW {v:Value}:V.shutOk o B (.sc v) = True:=by simp only [V.shutOk]
@[go_sem] theorem asV :V.shutOk o B .nn = True:=by simp only [V.shutOk]
@[go_sem] theorem asU :V.shutOk o B .top = True:=by simp only [V.shutOk]
@[go_sem] theorem asT {k:Nat} {xs:List V}:V.shutOk o B (.sl k xs) = True:=by simp only [V.shutOk]
@[go_sem] theorem asS {cs:List V} {k:Nat}:V.shutOk o B (.ro cs k) = True:=by simp only [V.shutOk]
@[go_sem] theorem asR {a off len:Nat}:V.shutOk o B (.hd a off len) = (okB B a∧aqb o B off len (o a)):=by simp only [V.shutOk]
@[go_sem] theorem asQ {a off:Nat}:V.shutOk o B (.ptr a off) = (okB B a∧∃ wr cs,o a = some (.box wr cs)∧Qa cs):=by simp only [V.shutOk]
@[go_sem] theorem asP {cs:List V}:V.shutOk o B (.agg cs) = Qu o B cs:=by simp only [V.shutOk]
@[go_sem] theorem asO {cs:List V}:V.shutOk o B (.tup cs) = Qu o B cs:=by simp only [V.shutOk]
@[go_sem] theorem asN {f:FK} {cs:List V}:V.shutOk o B (.clo f cs) = Qu o B cs:=by simp only [V.shutOk]
@[go_sem] theorem asM:Qu o B [] = True:=by simp only [Qu]
@[go_sem] theorem asL {v:V} {cs:List V}:Qu o B (v :: cs) = (v.shutOk o B∧Qu o B cs):=by simp only [Qu]
@[go_sem] theorem asK {v:Value}:V.closed (.sc v) = True:=by simp only [V.closed]
@[go_sem] theorem asJ :V.closed .nn = True:=by simp only [V.closed]
@[go_sem] theorem asI :V.closed .top = True:=by simp only [V.closed]
@[go_sem] theorem asH {k:Nat} {xs:List V}:V.closed (.sl k xs) = True:=by simp only [V.closed]
@[go_sem] theorem asG {cs:List V} {k:Nat}:V.closed (.ro cs k) = True:=by simp only [V.closed]
@[go_sem] theorem asF {cs:List V}:V.closed (.agg cs) = Qa cs:=by simp only [V.closed]
@[go_sem] theorem asE {cs:List V}:V.closed (.tup cs) = Qa cs:=by simp only [V.closed]
@[go_sem] theorem asD {f:FK} {cs:List V}:V.closed (.clo f cs) = Qa cs:=by simp only [V.closed]
@[go_sem] theorem asC:Qa [] = True:=by simp only [Qa]
@[go_sem] theorem asB {v:V} {cs:List V}:Qa (v :: cs) = (v.closed∧Qa cs):=by simp only [Qa]
@[go_sem] theorem asA {v:Value}:V.cells (.sc v) = [.sc v]:=by simp only [V.cells]
@[go_sem] theorem asz {k:Nat} {xs:List V}:V.cells (.sl k xs) = [.sl k xs]:=by simp only [V.cells]
@[go_sem] theorem asy {a off len:Nat}:V.cells (.hd a off len) = [.hd a off len]:=by simp only [V.cells]
@[go_sem] theorem asx {a off:Nat}:V.cells (.ptr a off) = [.ptr a off]:=by simp only [V.cells]
@[go_sem] theorem asw {cs:List V} {k:Nat}:V.cells (.ro cs k) = [.ro cs k]:=by simp only [V.cells]
@[go_sem] theorem asv {cs:List V}:V.cells (.agg cs) = cs:=by simp only [V.cells]
@[go_sem] theorem asu {f:FK} {cs:List V}:V.cells (.clo f cs) = [.clo f cs]:=by simp only [V.cells]
@[go_sem] theorem ast :V.cells .nn = [.nn]:=by simp only [V.cells]
@[go_sem] theorem ass:JG [] [] [] = some true:=by simp only [JG]
@[go_sem] theorem asr {ks:List Nat} {k k':IntKind} {a b:Int} {xs ys:List V}:JG (0 :: ks) (.sc (.int k a) :: xs) (.sc (.int k' b) :: ys) = if k = k' then (JG ks xs ys).map ((a == b) && ·) else none:=by simp only [JG]
@[go_sem] theorem asq {ks:List Nat} {a b:List UInt8} {xs ys:List V}:JG (1 :: ks) (.sc (.string ⟨a.toArray⟩) :: xs) (.sc (.string ⟨b.toArray⟩) :: ys) = (JG ks xs ys).map ((a == b) && ·):=by simp only [JG];congr;funext t;congr 1;rw [Zp];simp;show (a.toArray == b.toArray) = true↔a = b;simp
@[go_sem] theorem asp {ks:List Nat} {a b:Bool} {xs ys:List V}:JG (2 :: ks) (.sc (.bool a) :: xs) (.sc (.bool b) :: ys) = (JG ks xs ys).map ((a == b) && ·):=by simp only [JG]
@[go_sem] theorem aso {l:List UInt8}:(l == l) = true:=by simp
@[go_sem] theorem asn {n:Int}:(n == n) = true:=by simp
@[go_sem] theorem asm {k:IntKind}:(k == k) = true:=by cases k<;>rfl
@[go_sem] theorem asl {f:FuncId} {cap acts:List V}:aad Γ b r s d (.clo (.m f) cap) acts K = awC Γ b r s d f (cap++acts) K:=propext Iff.rfl
@[go_sem] theorem ask {f:FuncId} {cap acts:List V}:Vq Γ A W b s d (.clo (.m f) cap) acts J = QL Γ A W b s d f (cap++acts) J:=propext Iff.rfl
@[go_sem] theorem asj {off len s:Nat} {ys:List V} {wr:Bool} {s1:Nat} {xs:List V}:hdC o br B off len s ys (some (.buf wr s1 xs)) = (s1 = s∧ys = (xs.drop off).take len):=rfl
@[go_sem] theorem asi {off len s:Nat} {ys:List V} {wr:Bool} {s1:Nat} {xs:List V}:hdC o br B off len s ys (some (.obuf wr s1 xs)) = (s1 = s∧Qz o br B ((xs.drop off).take len) ys∧ntL ys∧Qa ys):=rfl
@[go_sem] theorem ash {off len s:Nat} {wr:Bool} {xs:List V}:aq9 o off len (some (.obuf wr s xs)) = .sl s (KM o ((xs.drop off).take len)):=rfl
@[go_sem] theorem asg {off len s:Nat} {wr:Bool} {xs:List V}:aqb o B off len (some (.buf wr s xs)) = True:=rfl
@[go_sem] theorem asf {off len s:Nat} {wr:Bool} {xs:List V}:aqb o B off len (some (.obuf wr s xs)) = (VL o B ((xs.drop off).take len)∧ntL (KM o ((xs.drop off).take len))):=rfl
@[go_sem] theorem ase {l:List Nat} {k:Nat→AM E}:awS Γ b r s d K (.anyN l k) = (l≠[]∧∀ i∈l,awS Γ b r s d K (k i)):=propext Iff.rfl
@[go_sem] theorem asd {ag:Bool} {ks:List Nat} {k:V} {i:Nat}:Vs ag ks k [] i = some none:=rfl
@[go_sem] theorem asc {ks:List Nat} {u v:Value}:xV false ks (.sc u) (.sc v) = JG ks [.sc u] [.sc v]:=rfl
@[go_sem] theorem asb {ks:List Nat} {u v:List V}:xV true ks (.agg u) (.agg v) = JG ks u v:=rfl
@[go_sem] theorem asa {a:Nat}:V.cells (.mp a) = [.mp a]:=by simp only [V.cells]
@[go_sem] theorem ar9 {a k:Nat}:conv o br B (.mp a) (.mp k) = (br[k]? = some a):=by simp only [conv]
end
attribute [go_sem] KK sem AM.int AM.str AM.slice AM.sliceK apP AM.cellsAt an3 St.eff St.put St.ev yY V.ofV ZC.v yA ap8 splice ae1 V.mk xd V.small Ke ahG UB agu Int.cast_ofNat_Int V.und
end Av
end

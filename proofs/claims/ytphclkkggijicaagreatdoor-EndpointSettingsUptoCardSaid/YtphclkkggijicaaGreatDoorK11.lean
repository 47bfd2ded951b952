/- Code with its notes, reckoned from the program: which slots are still needed, the regions' plans (their orders are given). -/
import Derived.Test.YtphclkkggijicaaGreatDoorK10
import Derived.KernelRfl
set_option linter.unusedVariables false
set_option linter.unusedSimpArgs false
section
namespace Av
open Go
structure RH where
 fz:Nat→Bool
 L:List Nat
 t:OT
def zoc:Nat→Nat→OT
 | _,0=>.done
 | i,n + 1=>.one i (zoc (i + 1) n)
abbrev zhn (n:Nat):RH:=⟨fun _=>true,[],zoc 0 n⟩
inductive DC where
 | skip
 | reg (ops:List AO)
 | regD (N:Nat) (fz:Nat→Bool) (L:List Nat) (t:OT) (p:OP) (ops:List AO) (ahead:List (List Nat))
 | seq (ks:List Nat) (a b:DC)
 | cond (c:Opd) (a b:DC)
 | block (id:Nat) (a:DC)
 | loop (ks:List Nat) (a:DC)
 | exit (id:Nat)
 | ret
abbrev arl (_N:Nat) (_fz:Nat→Bool) (_L:List Nat) (_t:OT) (_p:OP) (ops:List AO) (ahead:List (List Nat)):AC:=.regD ops ahead
def DC.ac:DC→AC
 | .skip=>.skip
 | .reg ops=>.reg ops
 | .regD N fz L t p ops ahead=>arl N fz L t p ops ahead
 | .seq ks a b=>Kw ks a.ac b.ac
 | .cond c a b=>.cond c a.ac b.ac
 | .block i a=>.block i a.ac
 | .loop ks a=>agw ks a.ac
 | .exit i=>.exit i
 | .ret=>.ret
def ap9 (a b:List Nat):List Nat:=a++b.filter fun x=>!a.contains x
def aqC (a:Nat):List Nat→List Nat
 | []=>[a]
 | b :: r=>if a≤b then a :: b :: r else b :: aqC a r
def aoZ:List Nat→List Nat
 | []=>[]
 | a :: r=>aqC a (aoZ r)
def agx (ops:List AO) (out:List Nat):List Nat:=ops.foldr (fun x l=>ap9 (match x.d with|some d=>l.filter (· != d)|none=>l) x.looks) out
def apw (f:List Nat→List Nat):Nat→List Nat→List Nat
 | 0,l=>l
 | n + 1,l=>let u:=ap9 l (f l);if u.length = l.length then u else apw f n u
def live (rt:List Nat):(Nat→List Nat)→AC→List Nat→List Nat
 | _,.skip,out=>out
 | _,.reg ops,out=>agx ops out
 | _,.regD ops _,out=>agx ops out
 | ex,.seq a b,out=>live rt ex a (live rt ex b out)
 | ex,.cond c a b,out=>ap9 (ap9 (match c with|.t i=>[i]|_=>[]) (live rt ex a out)) (live rt ex b out)
 | ex,.block i a,out=>live rt (fun j=>if j = i then out else ex j) a out
 | ex,.loop a,_=>apw (live rt ex a) 9 []
 | ex,.exit i,_=>ex i
 | _,.ret,_=>rt
def akQ (rt:List Nat):(Nat→List Nat)→AC→List Nat→List RH→DC×List Nat×List RH
 | _,.skip,out,hs=>(.skip,out,hs)
 | _,.reg ops,out,hs=>(.reg ops,agx ops out,hs)
 | _,.regD ops ahead,out,hs=>match hs with
   | h :: r=>(.regD ops.length h.fz h.L h.t (js (ris ops ahead h.L) h.t) ops ahead,agx ops out,r)
   | []=>(.regD 0 (fun _=>false) [] .done .done ops ahead,agx ops out,[])
 | ex,.seq a b,out,hs=>match akQ rt ex b out hs with
   | (b',lb,hs)=>match akQ rt ex a lb hs with
    | (a',la,hs)=>(.seq (aoZ lb) a' b',la,hs)
 | ex,.cond c a b,out,hs=>match akQ rt ex b out hs with
   | (b',lb,hs)=>match akQ rt ex a out hs with
    | (a',la,hs)=>(.cond c a' b',ap9 (ap9 (match c with|.t i=>[i]|_=>[]) la) lb,hs)
 | ex,.block i a,out,hs=>match akQ rt (fun j=>if j = i then out else ex j) a out hs with
   | (a',la,hs)=>(.block i a',la,hs)
 | ex,.loop a,_,hs=>let l:=apw (live rt ex a) 9 []
   match akQ rt ex a l hs with
   | (a',_,hs)=>(.loop (aoZ l) a',l,hs)
 | ex,.exit i,_,hs=>(.exit i,ex i,hs)
 | _,.ret,_,hs=>(.ret,rt,hs)
theorem apF (rt:List Nat) (ac:AC):∀ (ex:Nat→List Nat) (out:List Nat) (hs:List RH),(akQ rt ex ac out hs).1.ac = ac:=by
 induction ac with
 | skip=>intros;rfl
 | reg=>intros;rfl
 | regD ops ahead=>intro ex out hs;cases hs<;>rfl
 | seq a b iha ihb=>intro ex out hs;simp only [akQ,DC.ac,iha,ihb]
 | cond c a b iha ihb=>intro ex out hs;simp only [akQ,DC.ac,iha,ihb]
 | block i a ih=>intro ex out hs;simp only [akQ,DC.ac,ih]
 | loop a ih=>intro ex out hs;simp only [akQ,DC.ac,ih]
 | exit=>intros;rfl
 | ret=>intros;rfl
def aqr:V8→List Nat
 | .tmp t=>[t]
 | .cell a _ _=>[a]
noncomputable def dC (P:Program) (fn:Func):Option (AC×List V8) :=
 match fn.body.bind (yP P fn.ntmps),aet P fn.results.toList with
 | some ac,some rs=>some (ac,rs)
 | _,_=>none
noncomputable def dD (x:AC×List V8) (hs:List RH):DC×List V8:=((akQ (x.2.flatMap aqr) (fun _=>[]) x.1 (x.2.flatMap aqr) hs).1,x.2)
noncomputable def dF (P:Program) (fn:Func) (hs:List RH):Option (DC×List V8):=(dC P fn).map (dD · hs)
theorem arw {P:Program} {fn:Func} {hs:List RH} {x:AC×List V8} {d:DC×List V8} (h1:dC P fn = some x) (h2:dD x hs = d):dF P fn hs = some d:=by rw [dF,h1,← h2];rfl
abbrev QD (P:Program) (fn:Func) (hs:List RH):Type:={ d:DC×List V8 // dF P fn hs = some d }
theorem zhd {P:Program} {f:Nat} {fn:Func} {hs:List RH} (q:QD P fn hs) (h:P.funcs[f]? = some fn) (hn:fn.name≠"runtime.NumGoroutine":=by decide):Has P f fn.ntmps q.1.1.ac q.1.2:=by
 obtain ⟨⟨d,rs⟩,hq⟩:=q
 obtain ⟨x,h1,h2⟩:=zf.1 hq
 unfold dC at h1
 split at h1
 ·rename_i ac rs' h3 h4
  cases h1
  cases h2
  obtain ⟨code,hb,hc⟩:=Option.bind_eq_some_iff.1 h3
  exact ⟨fn,code,h,hn,hb,rfl,by rw [hc,apF],h4⟩
 ·cases h1
section
variable {L:List Nat} {ot:OT} {p:OP} {ops:List AO} {ahead:List (List Nat)} {N:Nat} {fz:Nat→Bool} {C:Ctx} {nt:Nat} {s:St} {K:St→Prop} {E:Nat→St→Prop} {R:St→Prop} {ks:List Nat} {y:AC}
theorem arQ (h:∀ K':St→Prop,(∀ s',AWp C nt y s' K E R→K' s')→Ky C.env fz s.n (fun s'=>K' ((s'.wn (s.n + N * KK)).keep ks)) p s) (h1:ops.length = N:=by rfl) (h2:okR ops ahead L ot = true:=by kernel_rfl) (h3:js (ris ops ahead L) ot = p:=by kernel_rfl):AWp C nt (Kw ks (arl N fz L ot p ops ahead) y) s K E R:=ajz N fz h1 h2 h3 h
theorem arP (h:∀ K':St→Prop,(∀ s',K s'→K' s')→Ky C.env fz s.n (fun s'=>K' (s'.wn (s.n + N * KK))) p s) (h1:ops.length = N:=by rfl) (h2:okR ops ahead L ot = true:=by kernel_rfl) (h3:js (ris ops ahead L) ot = p:=by kernel_rfl):AWp C nt (arl N fz L ot p ops ahead) s K E R:=ajA N fz h1 h2 h3 h
end
end Av
end

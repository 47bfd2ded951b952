/- Code with its notes, reckoned from the program: which slots are still needed, the regions' plans (their orders are given). -/
import Derived.Test.YtphclkkggijicaaGreatDoorB10
import Derived.KernelRfl
set_option linter.unusedVariables false
set_option linter.unusedSimpArgs false
section
namespace Av
open Go
structure RH where
 fz:Nat→Bool
 L:List Nat
 t:OT
def zoc:Nat→Nat→OT
 | _,0=>.done
 | i,n + 1=>.one i (zoc (i + 1) n)
abbrev zhn (n:Nat):RH:=⟨fun _=>true,[],zoc 0 n⟩
abbrev zhw (n:Nat):RH:=⟨fun _=>false,[],zoc 0 n⟩
inductive DC where
 | skip
 | reg (ops:List AO)
 | regD (N:Nat) (fz:Nat→Bool) (L:List Nat) (t:OT) (p:OP) (ops:List AO) (ahead:List (List Nat))
 | seq (ks:List Nat) (a b:DC)
 | cond (c:Opd) (a b:DC)
 | block (id:Nat) (a:DC)
 | loop (ks:List Nat) (a:DC)
 | exit (id:Nat)
 | ret
abbrev ar3 (_N:Nat) (_fz:Nat→Bool) (_L:List Nat) (_t:OT) (_p:OP) (ops:List AO) (ahead:List (List Nat)):AC:=.regD ops ahead
def DC.ac:DC→AC
 | .skip=>.skip
 | .reg ops=>.reg ops
 | .regD N fz L t p ops ahead=>ar3 N fz L t p ops ahead
 | .seq ks a b=>Ue ks a.ac b.ac
 | .cond c a b=>.cond c a.ac b.ac
 | .block i a=>.block i a.ac
 | .loop ks a=>afn ks a.ac
 | .exit i=>.exit i
 | .ret=>.ret
def aqO (a b:List Nat):List Nat:=a++b.filter fun x=>!a.contains x
def arj (a:Nat):List Nat→List Nat
 | []=>[a]
 | b :: r=>if a≤b then a :: b :: r else b :: arj a r
def apE:List Nat→List Nat
 | []=>[]
 | a :: r=>arj a (apE r)
def ag3 (ops:List AO) (out:List Nat):List Nat:=ops.foldr (fun x l=>aqO (match x.d with|some d=>l.filter (· != d)|none=>l) x.looks) out
def aqa (f:List Nat→List Nat):Nat→List Nat→List Nat
 | 0,l=>l
 | n + 1,l=>let u:=aqO l (f l);if u.length = l.length then u else aqa f n u
def live (rt:List Nat):(Nat→List Nat)→AC→List Nat→List Nat
 | _,.skip,out=>out
 | _,.reg ops,out=>ag3 ops out
 | _,.regD ops _,out=>ag3 ops out
 | ex,.seq a b,out=>live rt ex a (live rt ex b out)
 | ex,.cond c a b,out=>aqO (aqO (match c with|.t i=>[i]|_=>[]) (live rt ex a out)) (live rt ex b out)
 | ex,.block i a,out=>live rt (fun j=>if j = i then out else ex j) a out
 | ex,.loop a,_=>aqa (live rt ex a) 9 []
 | ex,.exit i,_=>ex i
 | _,.ret,_=>rt
def alq (rt:List Nat):(Nat→List Nat)→AC→List Nat→List RH→DC×List Nat×List RH
 | _,.skip,out,hs=>(.skip,out,hs)
 | _,.reg ops,out,hs=>(.reg ops,ag3 ops out,hs)
 | _,.regD ops ahead,out,hs=>match hs with
   | h :: r=>(.regD ops.length h.fz h.L h.t (jx (ris ops ahead h.L) h.t) ops ahead,ag3 ops out,r)
   | []=>(.regD 0 (fun _=>false) [] .done .done ops ahead,ag3 ops out,[])
 | ex,.seq a b,out,hs=>match alq rt ex b out hs with
   | (b',lb,hs)=>match alq rt ex a lb hs with
    | (a',la,hs)=>(.seq (apE lb) a' b',la,hs)
 | ex,.cond c a b,out,hs=>match alq rt ex b out hs with
   | (b',lb,hs)=>match alq rt ex a out hs with
    | (a',la,hs)=>(.cond c a' b',aqO (aqO (match c with|.t i=>[i]|_=>[]) la) lb,hs)
 | ex,.block i a,out,hs=>match alq rt (fun j=>if j = i then out else ex j) a out hs with
   | (a',la,hs)=>(.block i a',la,hs)
 | ex,.loop a,_,hs=>let l:=aqa (live rt ex a) 9 []
   match alq rt ex a l hs with
   | (a',_,hs)=>(.loop (apE l) a',l,hs)
 | ex,.exit i,_,hs=>(.exit i,ex i,hs)
 | _,.ret,_,hs=>(.ret,rt,hs)
theorem aqi (rt:List Nat) (ac:AC):∀ (ex:Nat→List Nat) (out:List Nat) (hs:List RH),(alq rt ex ac out hs).1.ac = ac:=by
 induction ac with
 | skip=>intros;rfl
 | reg=>intros;rfl
 | regD ops ahead=>intro ex out hs;cases hs<;>rfl
 | seq a b iha ihb=>intro ex out hs;simp only [alq,DC.ac,iha,ihb]
 | cond c a b iha ihb=>intro ex out hs;simp only [alq,DC.ac,iha,ihb]
 | block i a ih=>intro ex out hs;simp only [alq,DC.ac,ih]
 | loop a ih=>intro ex out hs;simp only [alq,DC.ac,ih]
 | exit=>intros;rfl
 | ret=>intros;rfl
def aq6:Uc→List Nat
 | .tmp t=>[t]
 | .cell a _ _=>[a]
noncomputable def dC (P:Program) (fn:Func):Option (AC×List Uc) :=
 match fn.body.bind (xf P fn.ntmps),aeW P fn.results.toList with
 | some ac,some rs=>some (ac,rs)
 | _,_=>none
noncomputable def dD (x:AC×List Uc) (hs:List RH):DC×List Uc:=((alq (x.2.flatMap aq6) (fun _=>[]) x.1 (x.2.flatMap aq6) hs).1,x.2)
noncomputable def dF (P:Program) (fn:Func) (hs:List RH):Option (DC×List Uc):=(dC P fn).map (dD · hs)
theorem asd {P:Program} {fn:Func} {hs:List RH} {x:AC×List Uc} {d:DC×List Uc} (h1:dC P fn = some x) (h2:dD x hs = d):dF P fn hs = some d:=by rw [dF,h1,← h2];rfl
abbrev QD (P:Program) (fn:Func) (hs:List RH):Type:={ d:DC×List Uc // dF P fn hs = some d }
theorem zhd {P:Program} {f:Nat} {fn:Func} {hs:List RH} (q:QD P fn hs) (h:P.funcs[f]? = some fn) (hn:fn.name≠"runtime.NumGoroutine":=by decide):Has P f fn.ntmps q.1.1.ac q.1.2:=by
 obtain ⟨⟨d,rs⟩,hq⟩:=q
 obtain ⟨x,h1,h2⟩:=ze.1 hq
 unfold dC at h1
 split at h1
 ·rename_i ac rs' h3 h4
  cases h1
  cases h2
  obtain ⟨code,hb,hc⟩:=Option.bind_eq_some_iff.1 h3
  exact ⟨fn,code,h,hn,hb,rfl,by rw [hc,aqi],h4⟩
 ·cases h1
section
variable {L:List Nat} {ot:OT} {p:OP} {ops:List AO} {ahead:List (List Nat)} {N:Nat} {fz:Nat→Bool} {C:Ctx} {nt:Nat} {s:St} {K:St→Prop} {E:Nat→St→Prop} {R:St→Prop} {ks:List Nat} {y:AC}
theorem asz (h:∀ K':St→Prop,(∀ s',AWp C nt y s' K E R→K' s')→Kx C.env fz s.n (fun s'=>K' ((s'.wn (s.n + N * KK)).keep ks)) p s) (h1:ops.length = N:=by rfl) (h2:okR ops ahead L ot = true:=by kernel_rfl) (h3:jx (ris ops ahead L) ot = p:=by kernel_rfl):AWp C nt (Ue ks (ar3 N fz L ot p ops ahead) y) s K E R:=aj6 N fz h1 h2 h3 h
theorem asy (h:∀ K':St→Prop,(∀ s',K s'→K' s')→Kx C.env fz s.n (fun s'=>K' (s'.wn (s.n + N * KK))) p s) (h1:ops.length = N:=by rfl) (h2:okR ops ahead L ot = true:=by kernel_rfl) (h3:jx (ris ops ahead L) ot = p:=by kernel_rfl):AWp C nt (ar3 N fz L ot p ops ahead) s K E R:=aj7 N fz h1 h2 h3 h
end
end Av
end

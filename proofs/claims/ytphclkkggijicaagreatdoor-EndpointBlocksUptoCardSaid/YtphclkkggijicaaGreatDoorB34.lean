/- strings.FieldsFunc at blanks: what it answers, byte by byte. -/
import Derived.Test.YtphclkkggijicaaGreatDoorB25
import Derived.Shelf.Strings.FieldsFuncGrows
import Derived.Lib.SpaceUEq
set_option linter.unusedVariables false
set_option linter.unusedSimpArgs false
section
namespace Av
open Go Go.Lib
set_option linter.unusedVariables false
def isB (x:Nat):Bool:=x == 32
theorem ahL:∀ (w:Nat) (l cur:List UInt8),w≤l.length→(∀ j,j < w→l[j]?≠some 32)→ahM l cur = ahM (l.drop w) (cur++l.take w)
 | 0,l,cur,_,_=>by simp
 | w + 1,[],cur,h,_=>by simp at h
 | w + 1,c :: r,cur,h,hn=>by
   have hc:c≠32:=fun e=>hn 0 (by omega) (by simp [e])
   rw [ahM,if_neg hc,ahL w r (cur++[c]) (by simpa using h) (fun j hj=>by have:=hn (j + 1) (by omega);simpa using this)]
   simp
def aeD (s:List UInt8) (x:Nat×Nat):List UInt8:=(s.take x.2).drop x.1
def ajW (s:List UInt8) (pos:Nat):Option Nat→List UInt8
 | some a=>(s.take pos).drop a
 | none=>[]
theorem ark (s:List UInt8) (i:Nat):((⟨s.toArray⟩:ByteArray).get! i) = s.getD i 0:=by
 show (s.toArray[i]!) = _
 simp [zo,getElem!_def]
 cases s[i]?<;>rfl
theorem apL {s:List UInt8} {pos:Nat} (h:pos < s.length):(s[pos]? = some 32→Utf8.decode ⟨s.toArray⟩ pos = (32,1)) ∧
  (s[pos]?≠some 32→isB (Utf8.decode ⟨s.toArray⟩ pos).1 = false∧1≤(Utf8.decode ⟨s.toArray⟩ pos).2∧pos + (Utf8.decode ⟨s.toArray⟩ pos).2≤s.length∧∀ j,j < (Utf8.decode ⟨s.toArray⟩ pos).2→s[pos + j]?≠some 32):=by
 rw [decode_at]
 have hs:(⟨s.toArray⟩:ByteArray).size = s.length:=K6 s
 simp only [ark,hs]
 have hg:∀ i,i < s.length→s[i]? = some (s.getD i 0):=fun i hi=>by
  rw [zo,zf hi];rfl
 have h32:∀ i,i < s.length→(s.getD i 0).toNat≠32→s[i]?≠some 32:=fun i hi hne he=>by
  rw [hg i hi] at he
  exact hne (by rw [kU he];rfl)
 refine ⟨fun hc=>?_,fun hc=>?_⟩
 ·have hb:(s.getD pos 0).toNat = 32:=by
   rw [zo,hc];rfl
  rw [hb];rfl
 ·have hb:(s.getD pos 0).toNat≠32:=fun e=>hc (by
   rw [hg pos h];congr 1;exact UInt8.toNat_inj.1 e)
  have h1:=decodeN_cases (s.length - pos) (s.getD pos 0).toNat (s.getD (pos + 1) 0).toNat (s.getD (pos + 2) 0).toNat (s.getD (pos + 3) 0).toNat
  have h2:=decodeN_conts (s.length - pos) (s.getD pos 0).toNat (s.getD (pos + 1) 0).toNat (s.getD (pos + 2) 0).toNat (s.getD (pos + 3) 0).toNat
  have h3:=decodeN_ge1 (s.length - pos) (s.getD pos 0).toNat (s.getD (pos + 1) 0).toNat (s.getD (pos + 2) 0).toNat (s.getD (pos + 3) 0).toNat
  generalize decodeN (s.length - pos) (s.getD pos 0).toNat (s.getD (pos + 1) 0).toNat (s.getD (pos + 2) 0).toNat (s.getD (pos + 3) 0).toNat = q at *
  obtain ⟨c2,c3,c4,c5⟩:=h2
  refine ⟨?_,h3,?_,fun j hj=>?_⟩
  ·have:q.1≠32:=by
    rcases h1 with ⟨_,h⟩|⟨_,_,_,h',h⟩|⟨_,_,_,_,h',h⟩|⟨h,_⟩|h
    ·rw [h];exact hb
    ·rw [h];simp only;omega
    ·rw [h];simp only;omega
    ·omega
    ·rw [h];decide
   simpa [isB] using this
  ·by_cases a4:4≤q.2
   ·have:=(c4 a4).2;omega
   ·by_cases a3:3≤q.2
    ·have:=(c3 a3).2;omega
    ·by_cases a2:2≤q.2
     ·have:=(c2 a2).2;omega
     ·omega
  ·rcases (by omega:j = 0∨j = 1∨j = 2∨j = 3) with rfl|rfl|rfl|rfl
   ·exact hc
   ·have:=c2 (by omega);exact h32 _ (by omega) (by omega)
   ·have:=c3 (by omega);exact h32 _ (by omega) (by omega)
   ·have:=c4 (by omega);exact h32 _ (by omega) (by omega)
theorem ajV {s:List UInt8} {pos w a:Nat} (ha:a≤pos) (h:pos + w≤s.length):(s.take (pos + w)).drop a = (s.take pos).drop a++(s.drop pos).take w:=by
 rw [List.take_add,kE (by simp;omega)]
theorem alF {s:List UInt8}:∀ (f pos:Nat) (st:Option Nat) (acc:List (Nat×Nat)),s.length≤pos + f→pos≤s.length→(∀ a,st = some a→a < pos) →
  (closeSpans ⟨s.toArray⟩ (spansFromP isB ⟨s.toArray⟩ f pos st acc)).map (aeD s) = acc.map (aeD s)++ahM (s.drop pos) (ajW s pos st):=by
 have hs:(⟨s.toArray⟩:ByteArray).size = s.length:=K6 s
 have hend:∀ (pos:Nat) (st:Option Nat) (acc:List (Nat×Nat)),pos = s.length→(∀ a,st = some a→a < pos)→(closeSpans ⟨s.toArray⟩ (acc,st)).map (aeD s) = acc.map (aeD s)++ahM (s.drop pos) (ajW s pos st):=by
  rintro pos st acc rfl hst
  rw [List.drop_length,ahM]
  rcases st with _|a
  ·simp [closeSpans,ajW]
  ·have:=hst a rfl
   have hne:ajW s s.length (some a)≠[]:=fun e=>by
    have:=congrArg List.length e
    simp [ajW] at this;omega
   rw [if_neg hne]
   simp [closeSpans,ajW,aeD,hs]
 intro f
 induction f with
 | zero =>
   intro pos st acc h1 h2 h3
   unfold spansFromP
   exact hend pos st acc (by omega) h3
 | succ f ih =>
   intro pos st acc h1 h2 h3
   by_cases hp:pos < s.length
   ·have hp':pos < (⟨s.toArray⟩:ByteArray).size:=by rw [hs];exact hp
    obtain ⟨r1,r2⟩:=apL hp
    unfold spansFromP
    rw [if_pos hp']
    have hd:s.drop pos = s[pos] :: s.drop (pos + 1):=zQ hp
    have hg:s[pos]? = some s[pos]:=zf hp
    by_cases hc:s[pos]? = some 32
    ·have h32:s[pos] = 32:=by rw [hg] at hc;exact kU hc
     rw [r1 hc,if_pos (by rfl),hd,ahM,if_pos h32]
     rcases st with _|a
     ·rw [show ajW s pos none = [] from rfl,if_pos rfl]
      exact ih (pos + 1) none acc (by omega) (by omega) (fun a h=>by cases h)
     ·have ha:=h3 a rfl
      have hne:ajW s pos (some a)≠[]:=fun e=>by
       have:=congrArg List.length e
       simp [ajW] at this;omega
      rw [if_neg hne]
      have:=ih (pos + 1) none (acc++[(a,pos)]) (by omega) (by omega) (fun a h=>by cases h)
      simp only
      rw [this,zG,zW];rfl
    ·obtain ⟨e1,e2,e3,e4⟩:=r2 hc
     generalize Utf8.decode ⟨s.toArray⟩ pos = q at *
     rw [if_neg (by rw [e1];decide),ahL q.2 (s.drop pos) _ (by simp;omega) (fun j hj=>by rw [List.getElem?_drop];exact e4 j hj),Zi]
     rcases st with _|a
     ·have:=ih (pos + q.2) (some pos) acc (by omega) e3 (fun a h=>by cases h;omega)
      simp only
      rw [this,show ajW s (pos + q.2) (some pos) = ajW s pos none++(s.drop pos).take q.2 from by
       show (s.take (pos + q.2)).drop pos = _
       rw [ajV (zi _) e3,kc (by rw [zM];omega)];rfl]
     ·have ha:=h3 a rfl
      have:=ih (pos + q.2) (some a) acc (by omega) e3 (fun b h=>by cases h;omega)
      simp only
      rw [this,show ajW s (pos + q.2) (some a) = ajW s pos (some a)++(s.drop pos).take q.2 from ajV (by omega) e3]
   ·rw [spansFromP_end _ _ _ _ _ _ (by rw [hs];exact hp)]
    exact hend pos st acc (by omega) h3
theorem aft (s:List UInt8):goFieldsP isB ⟨s.toArray⟩ = (V0 s).map fun t=>(⟨t.toArray⟩:ByteArray):=by
 have h:=alF (s:=s) s.length 0 none [] (by omega) (zw _) (fun a h=>by cases h)
 rw [zl,List.nil_append,ku] at h
 have hs:(⟨s.toArray⟩:ByteArray).size = s.length:=K6 s
 rw [V0,show ([]:List UInt8) = ajW s 0 none from rfl,← h,goFieldsP,spansOfP,hs,List.map_map]
 refine kj fun x _=>?_
 show ByteArray.extract _ _ _ = _
 rw [alD]
 simp only [aeD,Function.comp,List.drop_take]
end Av
end

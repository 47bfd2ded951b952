/- Closed facts of the seat's program that each row asks. -/
import Derived.Test.YtddmiolapkhaoaaGreatDoorK24
import Derived.Test.YtddmiolapkhaoaaGreatDoorK25
import Derived.Test.YtddmiolapkhaoaaGreatDoorK23
import Derived.Test.YtddmiolapkhaoaaGreatDoorK20
import Derived.KernelRfl
import Derived.Test.YtddmiolapkhaoaaGreatDoorK16
set_option linter.unusedVariables false
set_option linter.unusedSimpArgs false
section
namespace Go.Proofs.YtddmiolapkhaoaaGreatDoor.Seat
open Go Av Go.RowKit
set_option maxRecDepth 100000
theorem own:ownKnob Tryz.prog.godebug = none:=by kernel_rfl
theorem mix:Tryz.prog.follows .mixedOrders = true:=by kernel_rfl
theorem kids:Kids Tryz.prog (· < Tryz.prog.types.size):=kids_rows (by kernel_rfl) (by kernel_rfl)
theorem full:∀ t e,t < Tryz.prog.types.size→Tryz.prog.underlying t = some (.slice e)→0 < Tryz.prog.cellsOf e:=slices_full_of Tryz.prog (by kernel_rfl)
theorem small (l:List TypeId) (h:(l.all fun t=>decide (t < Tryz.prog.types.size)) = true):∀ t∈l,t < Tryz.prog.types.size:=fun t ht=>by simpa using kH.1 h t ht
end Go.Proofs.YtddmiolapkhaoaaGreatDoor.Seat
end
section
namespace Go.Proofs.YtddmiolapkhaoaaGreatDoor
open Go Av Go.RowKit
set_option maxRecDepth 100000
set_option linter.unusedVariables false
theorem zha {P:Program} {f nt:Nat} {c:AC} {rs:List Q0} {fn} (h1:P.funcs[f]? = some fn) (h:P.funcs[f]? = some fn→Has P f nt c rs:=by exact fun h=>⟨_,_,h,by decide,rfl,rfl,by kernel_rfl,by kernel_rfl⟩):Has P f nt c rs:=h h1
class WK (W:World):Prop where
 ok:WOK W
set_option linter.unusedSectionVars false
noncomputable abbrev jw (W:World):=apx Tryz.prog W
variable {W:World} [wk:WK W]
theorem apu:abT (jw W) 4:=am9 (zha Tryz.func4)
theorem avc:ah0 (jw W) 13:=asC (zha Tryz.func13)
theorem adR:Uu (jw W) 52:=ai8 (zha Tryz.func52)
theorem alB:xJ (jw W) 119:=ako (zha Tryz.func119)
theorem adP:K0 (jw W) 89:=anb (zha Tryz.func89) alB
theorem ahZ:K1 (jw W) 116:=ags (zha Tryz.func116)
theorem U0:Xj (jw W) 118:=vD (zha Tryz.func118)
theorem xD:XS (jw W) 117:=yq (zha Tryz.func117) U0
theorem ag3:UP (jw W) 88:=afl (zha Tryz.func88) adP ahZ xD U0
theorem adQ:Ut (jw W) 55:=ai6 (zha Tryz.func55) ag3
theorem alE:xM (jw W) 85:=akr (zha Tryz.func85) adP
theorem ahL:KM (jw W) 53:=agb (zha Tryz.func53) adQ alE adR
theorem adN:Ur (jw W) 25:=ai3 (zha Tryz.func25) adR ahL
theorem ae0:KE (jw W) 26:=akg (zha Tryz.func26) (ajd W wk.ok)
theorem ae1:KF (jw W) 27:=akh (zha Tryz.func27)
theorem UF:XI (jw W) 29:=aek (zha Tryz.func29)
theorem adJ:Vb (jw W) 28:=acC (zha Tryz.func28) (vJ W wk.ok) UF
theorem alD:xL (jw W) 56:=akq (zha Tryz.func56) adP
theorem alC:xK (jw W) 30:=akp (zha Tryz.func30) adQ alD (vJ W wk.ok)
theorem wY:WU (jw W) 31:=afd (zha Tryz.func31) (alw W wk.ok)
theorem acx:VY (jw W) 12:=ahn (zha Tryz.func12) adN ae0 ae1 adJ UF alC wY
theorem VW:JK (jw W) 100:=Vu (zha Tryz.func100)
theorem W8:Jp (jw W) 59:=W0 (zha Tryz.func59) VW
theorem ahW:KX (jw W) 62:=ago (zha Tryz.func62)
theorem afZ:Has Tryz.prog 32 59 (jF 58 59 60 62) c7:=zha Tryz.func32
theorem ajj:qI (jw W) 32:=ahu afZ W8 ahW
theorem anE:vZ (jw W) 123:=alt (zha Tryz.func123)
theorem ajk:qJ (jw W) 101:=ahv (zha Tryz.func101) anE
theorem ak2:jR (jw W) 63:=ai7 (zha Tryz.func63) ajk
theorem anr:vN (jw W) 33:=alb (zha Tryz.func33) ae0 ae1 UF ak2 wY
theorem ans:vO (jw W) 14:=alc (zha Tryz.func14) ajj anr
theorem anD:vY (jw W) 5:=als (zha Tryz.func5) avc acx ans
theorem aqI:adW (jw W) 6:=aoS (zha Tryz.func6)
theorem as1:afv (jw W) 17:=aqk (zha Tryz.func17)
theorem WG:YI (jw W) 8:=af8 (zha Tryz.func8) as1
theorem ahI:KJ (jw W) 34:=af7 (zha Tryz.func34) WG
theorem akZ:jO (jw W) 35:=ai1 (zha Tryz.func35) WG
theorem alA:xI (jw W) 15:=akm (zha Tryz.func15) WG ahI akZ
theorem apq:abP (jw W) 64:=am4 (zha Tryz.func64)
theorem akW:jL (jw W) 124:=aiX (zha Tryz.func124)
theorem anC:vX (jw W) 125:=alq (zha Tryz.func125)
theorem alz:xH (jw W) 126:=akl (zha Tryz.func126)
theorem ajf:qE (jw W) 102:=ahp (zha Tryz.func102) akW anC alz
theorem abG:Ug (jw W) 65:=alr (zha Tryz.func65) ajf
theorem aiJ:yA (jw W) 112:=am5 (zha Tryz.func112)
theorem apt:abS (jw W) 103:=am8 (zha Tryz.func103) aiJ
theorem ahG:KH (jw W) 66:=af5 (zha Tryz.func66) abG apt
theorem abF:Uf (jw W) 36:=alp (zha Tryz.func36) apq abG ahG
theorem anB:vW (jw W) 104:=aln (zha Tryz.func104)
theorem apn:abN (jw W) 105:=am2 (zha Tryz.func105)
theorem agV:qS (jw W) 67:=alo (zha Tryz.func67) anB apn
theorem aqH:adV (jw W) 37:=aoR (zha Tryz.func37) agV
theorem apo:abO (jw W) 16:=am3 (zha Tryz.func16) abF aqH
theorem akY:jN (jw W) 7:=ai0 (zha Tryz.func7) WG alA apo
theorem adO:Us (jw W) 207:=ai5 (zha Tryz.func207)
theorem qC:Ws (jw W) 163:=agr (zha Tryz.func163) adO
theorem afu:WA (jw W) 183:=aeo (zha Tryz.func183) qC
theorem ahU:KV (jw W) 182:=agm (zha Tryz.func182) afu
theorem aft:Wz (jw W) 185:=aen (zha Tryz.func185) (abd W wk.ok)
theorem ahT:KU (jw W) 184:=agl (zha Tryz.func184) aft
theorem ahS:KT (jw W) 186:=agk (zha Tryz.func186)
theorem ahR:KS (jw W) 187:=agj (zha Tryz.func187)
theorem ahQ:KR (jw W) 188:=agi (zha Tryz.func188)
theorem ahP:KQ (jw W) 189:=agh (zha Tryz.func189)
theorem ahO:KP (jw W) 190:=agf (zha Tryz.func190)
theorem ahN:KO (jw W) 191:=agd (zha Tryz.func191)
theorem ahM:KN (jw W) 192:=agc (zha Tryz.func192)
theorem ag0:UM (jw W) 193:=afi (zha Tryz.func193)
theorem agZ:UL (jw W) 194:=afh (zha Tryz.func194)
theorem agY:UK (jw W) 195:=afg (zha Tryz.func195)
theorem agX:UJ (jw W) 196:=aff (zha Tryz.func196)
theorem ak0:jP (jw W) 158:=ai2 (zha Tryz.func158) ahU ahT ahS ahR ahQ ahP ahO ahN ahM ag0 agZ agY agX
theorem acy:VZ (jw W) 133:=ahr (zha Tryz.func133) adN ak0
theorem ajg:qF (jw W) 127:=ahq (zha Tryz.func127) acy
theorem U2:Xl (jw W) 129:=vF (zha Tryz.func129)
theorem abe:Wt (jw W) 149:=vG (zha Tryz.func149) U2
theorem xE:Wy (jw W) 151:=ael (zha Tryz.func151)
theorem aiK:yB (jw W) 161:=ana (zha Tryz.func161)
theorem agW:UH (jw W) 150:=afe (zha Tryz.func150) xE qC aiK
theorem ahK:KL (jw W) 128:=aga (zha Tryz.func128) abe agW xE
theorem ag2:UO (jw W) 211:=afk (zha Tryz.func211)
theorem ahY:KZ (jw W) 173:=agq (zha Tryz.func173) ag2
theorem adI:Va (jw W) 174:=acB (zha Tryz.func174)
theorem V9:J4 (jw W) 152:=VS (zha Tryz.func152) ahY adI
theorem abf:Wu (jw W) 130:=vH (zha Tryz.func130) V9 (qA W wk.ok)
theorem vM:VC (jw W) 177:=akn (zha Tryz.func177) adO
theorem agT:UG (jw W) 178:=afc (zha Tryz.func178)
theorem qB:YW (jw W) 154:=K6 (zha Tryz.func154) vM agT
theorem adM:Vc (jw W) 131:=acD (zha Tryz.func131) qB (vK W wk.ok)
theorem afs:Ua (jw W) 106:=aem (zha Tryz.func106) ajg ahK U2 abf adM
theorem U1:Xk (jw W) 39:=vE (zha Tryz.func39)
theorem ahH:KI (jw W) 165:=af6 (zha Tryz.func165)
theorem ahl:Has Tryz.prog 160 8 (xp 205 165) du:=zha Tryz.func160
theorem adL:W5 (jw W) 160:=aiZ ahl ahH
theorem KA:Yw (jw W) 214:=U5 (zha Tryz.func214) vM
theorem jD:Has Tryz.prog 181 134 (X8 214 215 216 217 218 219 177 220 221 181) dI:=zha Tryz.func181
theorem xC:XR (jw W) 181:=yp jD KA vM
theorem abE:WH (jw W) 156:=aaC (zha Tryz.func156) adL xC
theorem xP:Wb (jw W) 157:=xe (zha Tryz.func157)
theorem ak3:jS (jw W) 132:=ai9 (zha Tryz.func132) U1 abE xP
theorem as2:afw (jw W) 134:=aql (zha Tryz.func134)
theorem VV:JJ (jw W) 197:=Vt (zha Tryz.func197)
theorem U4:Has Tryz.prog 159 148 (YV 197 198 199 200 201 202 203 204 159) dE:=zha Tryz.func159
theorem K7:YH (jw W) 159:=Kw U4 VV
theorem V8:J3 (jw W) 135:=VR (zha Tryz.func135) adL K7
theorem ak4:jT (jw W) 136:=aja (zha Tryz.func136) (abd W wk.ok) qC aiK
theorem anF:v6 (jw W) 107:=alu (zha Tryz.func107) ak3 acy as2 V8 ak4
theorem ajh:qG (jw W) 68:=ahs (zha Tryz.func68) afs anF
theorem jq:Y6 (jw W) 108:=qu (zha Tryz.func108)
theorem KB:Yx (jw W) 69:=U6 (zha Tryz.func69) jq
theorem ahV:KW (jw W) 110:=agn (zha Tryz.func110)
theorem VX:JL (jw W) 137:=Vv (zha Tryz.func137)
theorem W9:Jq (jw W) 109:=W1 (zha Tryz.func109) VX
theorem ak1:jQ (jw W) 70:=ai4 (zha Tryz.func70) ahV W9
theorem aji:qH (jw W) 38:=aht (zha Tryz.func38) ajh KB ak1
theorem aer:VB (jw W) 41:=ac8 (zha Tryz.func41)
theorem yx:Xy (jw W) 71:=jE (zha Tryz.func71)
theorem jH:Xq (jw W) 40:=jg (zha Tryz.func40) yx
theorem ahX:KY (jw W) 42:=agp (zha Tryz.func42)
theorem ag1:UN (jw W) 18:=afj (zha Tryz.func18) aji U1 aer jH ahX
theorem K5:Has Tryz.prog 19 19 (Xp 43 (ayZ Tryz.prog)) eU:=zha Tryz.func19
theorem jp:Y5 (jw W) 19:=qt K5 rfl (yw W wk.ok)
theorem ala:Has Tryz.prog 9 49 (adh 18 (aw4 Tryz.prog) 12 19 20) eW:=zha Tryz.func9
theorem aph:abH (jw W) 9:=amU ala rfl ag1 acx jp (vI W wk.ok)
theorem vL:VA (jw W) 48:=akk (zha Tryz.func48) abF agV
theorem agU:qR (jw W) 23:=ale (zha Tryz.func23) vL
theorem aiI:yz (jw W) 142:=am1 (zha Tryz.func142)
theorem aly:xG (jw W) 143:=akj (zha Tryz.func143) aiI
theorem adK:Uq (jw W) 113:=aiW (zha Tryz.func113) aiI aly
theorem anA:vV (jw W) 114:=alm (zha Tryz.func114) adK
theorem apm:abM (jw W) 76:=am0 (zha Tryz.func76) adK anA
theorem akV:jK (jw W) 77:=aiV (zha Tryz.func77)
theorem ahF:KG (jw W) 78:=af4 (zha Tryz.func78)
theorem aje:qD (jw W) 49:=aho (zha Tryz.func49) vL apm akV ahF
theorem apj:abJ (jw W) 50:=amX (zha Tryz.func50)
theorem anw:vS (jw W) 79:=ali (zha Tryz.func79)
theorem anx:vT (jw W) 80:=alj (zha Tryz.func80)
theorem alx:xF (jw W) 81:=aki (zha Tryz.func81)
theorem anv:vR (jw W) 82:=alh (zha Tryz.func82)
theorem apl:abL (jw W) 83:=amZ (zha Tryz.func83)
theorem apk:abK (jw W) 84:=amY (zha Tryz.func84)
theorem anz:vU (jw W) 51:=alk (zha Tryz.func51) vL anw anx alx anv apl apk
theorem aiH:yy (jw W) 24:=amW (zha Tryz.func24) aje apj anz
theorem akU:jJ (jw W) 21:=aiU (zha Tryz.func21) agU aiH
theorem ant:vP (jw W) 46:=ald (zha Tryz.func46)
theorem api:abI (jw W) 45:=amV (zha Tryz.func45)
theorem aps:abR (jw W) 74:=am7 (zha Tryz.func74) aiJ
theorem ahk:Has Tryz.prog 75 20 (xn 75) bU:=zha Tryz.func75
theorem akX:jM (jw W) 75:=aiY ahk
theorem apr:abQ (jw W) 47:=am6 (zha Tryz.func47) abG aps akX
theorem akT:jI (jw W) 22:=aiT (zha Tryz.func22) abF (vJ W wk.ok) ant api apr
theorem aqG:adU (jw W) 10:=aoQ (zha Tryz.func10) akU akT
theorem anu:vQ (jw W) 11:=alf (zha Tryz.func11) agU aiH
theorem ahJ:wZ (jw W) 3:=af9 (zha Tryz.func3) apu anD aqI akY WG aph aqG anu
end Go.Proofs.YtddmiolapkhaoaaGreatDoor
end
section
namespace Av
open Go Go.RowKit Go.ChangeShapes Go.WideShapes Go.ChangeAt Go.Joins
set_option linter.unusedVariables false
inductive Sh where
 | int|str
 | nil
 | cons (t:TypeId) (a r:Sh)
def Sh.n:Sh→Nat
 | .nil=>0
 | .cons _ a r=>a.n + r.n
 | _=>1
def FV:Sh→List V→Prop
 | .int,l=>∃ n,l = [V.int n]
 | .str,l=>∃ s,l = [V.str s]
 | .nil,l=>l = []
 | .cons _ a r,l=>∃ l1 l2,l = l1++l2∧FV a l1∧FV r l2
def arq (P:Program):Sh→(TypeId→Bool)×(List Field→Nat→Bool)
 | .int=>(fun t=>(match P.underlying t with|some (.int .i64)=>true|_=>false),fun _ _=>false)
 | .str=>(fun t=>(match P.underlying t with|some .string=>true|_=>false),fun _ _=>false)
 | .nil=>(fun _=>false,fun fs _=>(match fs with|[]=>true|_=>false))
 | .cons t a r=>(fun u=>(match P.underlying u with|some (.struct fs)=>P.cellsOf u == a.n + r.n && (match fs.toList with|f :: fs'=>f.type == t && (f.offset == 0 && (P.cellsOf t == a.n && ((arq P a).1 t && (arq P r).2 fs' a.n)))|[]=>false)|_=>false),
    fun fs off=>(match fs with|f :: fs'=>f.type == t && (f.offset == off && (P.cellsOf t == a.n && ((arq P a).1 t && (arq P r).2 fs' (off + a.n))))|[]=>false))
section
variable {H:Type} {enc:TypeId×Value→H} {P:Program} {W:World}
def adS (W:World) (cs:List Value) (ws:List V):Prop:=ws.length = cs.length∧∀ j (h:j < cs.length) (h':j < ws.length),cs[j].oneCell' = true∧Rep W (axx W) noμ cs[j] ws[j]
theorem adS.one {v:Value} {x:V} (h1:v.oneCell' = true) (h2:Rep W (axx W) noμ v x):adS W [v] [x]:=by
 refine ⟨rfl,fun j h h'=>?_⟩
 match j,h with
 | 0,_=>exact ⟨h1,h2⟩
theorem adS.app {a b:List Value} {x y:List V} (h1:adS W a x) (h2:adS W b y):adS W (a++b) (x++y):=by
 refine ⟨by simp [h1.1,h2.1],fun j h h'=>?_⟩
 have e:=h1.1
 by_cases hj:j < a.length
 ·rw [kZ hj,kZ (by omega)];exact h1.2 j hj (by omega)
 ·have hj':a.length≤j:=by omega
  simp only [zp] at h h'
  rw [Z3 hj',Z3 (by omega)]
  simp only [e]
  exact h2.2 (j - a.length) (by omega) (by omega)
def azg (H:Type) (enc:TypeId×Value→H) (P:Program) (W:World) (s:Sh):Prop :=
 ∀ t,(arq P s).1 t = true→∀ fuel (cs:List Value) (y:DataW H×List MemPlace),DataW.trod enc P W 0 (fun _=>true) true fuel t cs = some y →
  cs.length = s.n∧∃ ws,adS W cs ws∧FV s ws
def ava (H:Type) (enc:TypeId×Value→H) (P:Program) (W:World) (s:Sh):Prop :=
 ∀ fs off,(arq P s).2 fs off = true→∀ n (cs:List Value) (xs:List (DataW H×List MemPlace)),xs.length = fs.length→off + s.n = cs.length →
  (∀ (i:Nat) (f:Field),fs[i]? = some f→DataW.trod enc P W 0 (fun _=>true) true n f.type ((cs.drop f.offset).take (P.cellsOf f.type)) = xs[i]?) →
  ∃ ws,adS W (cs.drop off) ws∧FV s ws
theorem ar7 {t:TypeId} {a r:Sh} (iha:azg H enc P W a) (ihr:ava H enc P W r):ava H enc P W (.cons t a r):=by
 intro fs off hfit n cs xs hxl hoff hf
 simp only [arq] at hfit
 match fs,hfit with
 | f :: fs',hfit =>
   simp only [zo,ki] at hfit
   obtain ⟨rfl,rfl,hca,h1,h2⟩:=hfit
   match xs,hxl with
   | y :: ys,hxl =>
     simp only [Sh.n] at hoff
     have f0:=hf 0 f rfl
     simp only [List.getElem?_cons_zero] at f0
     obtain ⟨l1,ws1,c1,v1⟩:=iha _ h1 n _ _ f0
     obtain ⟨ws2,c2,v2⟩:=ihr fs' (f.offset + a.n) h2 n cs ys (by simpa using hxl) (by omega) (fun i g hg=>by simpa using hf (i + 1) g (by simpa using hg))
     refine ⟨ws1++ws2,?_,ws1,ws2,rfl,v1,v2⟩
     have:=c1.app c2
     rw [hca] at this
     rwa [← Zg,Zk] at this
theorem atx (s:Sh):azg H enc P W s∧ava H enc P W s:=by
 induction s with
 | int =>
   refine ⟨fun t ht fuel cs y h=>?_,fun fs off h=>by cases h⟩
   simp only [arq] at ht
   split at ht
   ·rename_i he
    obtain ⟨n,rfl,rfl,_⟩:=DataW.trod_int he h
    exact ⟨rfl,[V.int n],.one rfl (.sc rfl),n,rfl⟩
   ·cases ht
 | str =>
   refine ⟨fun t ht fuel cs y h=>?_,fun fs off h=>by cases h⟩
   simp only [arq] at ht
   split at ht
   ·rename_i he
    obtain ⟨s,rfl,rfl,_⟩:=DataW.trod_string he h
    refine ⟨rfl,[V.str s.data.toList],.one rfl ?_,_,rfl⟩
    have e:Value.string s = Value.string ⟨s.data.toList.toArray⟩:=by simp
    rw [e];exact .sc rfl
   ·cases ht
 | nil =>
   refine ⟨fun t ht=>(by cases ht),fun fs off h n cs xs hxl hoff hf=>⟨[],⟨?_,fun j hj hj'=>(by cases hj')⟩,rfl⟩⟩
   simp only [Sh.n] at hoff
   simp;omega
 | cons t a r iha ihr =>
   have hF:=ar7 (t:=t) iha.1 ihr.2
   refine ⟨fun u hu fuel cs y h=>?_,hF⟩
   simp only [arq] at hu
   split at hu
   ·rename_i fs he
    simp only [zo,ki] at hu
    obtain ⟨hc,hu⟩:=hu
    obtain ⟨xs,n,_,rfl,hcl,hxl,hf⟩:=DataW.trod_struct he h
    obtain ⟨ws,c1,v1⟩:=hF fs.toList 0 (by simp only [arq];simpa [zo] using hu) n cs xs (by simpa using hxl) (by simp only [Sh.n];omega) (fun i f hi=>hf i f (by simpa using hi))
    exact ⟨by rw [hcl,hc];rfl,ws,by simpa using c1,v1⟩
   ·cases hu
theorem asZ {t:TypeId} {u:TypeId} {a r:Sh} {v:Value} {d:DataW H} {p:List MemPlace} (hfit:(arq P (.cons u a r)).1 t = true) (hval:Value.okWide P W .any 0 t v) (hd:DataW.Trod enc P W 0 (fun _=>true) true t v d p) :
  ∃ ws,ayg W v (.agg ws)∧FV (.cons u a r) ws:=by
 have h2:=hfit
 simp only [arq] at h2
 split at h2
 ·rename_i fs he
  obtain ⟨cs,rfl,hsz⟩:=okWide_struct he hval
  obtain ⟨fuel,hf⟩:=hd
  obtain ⟨_,ws,c1,v1⟩:=(atx (H:=H) (enc:=enc) (P:=P) (W:=W) (.cons u a r)).1 t hfit fuel _ _ hf
  simp only [Value.cells] at c1
  have hl:=c1.1
  simp only [Array.length_toList] at hl
  refine ⟨ws,.agg hl.symm (fun j hj=>?_) (fun j hj hj'=>?_),v1⟩
  ·have:=(c1.2 j (by simpa using hj) (by omega)).1
   simpa using this
  ·have:=(c1.2 j (by simpa using hj') hj).2
   simpa using this
 ·cases h2
end
def awE (ti ts tu:TypeId):Sh:=.cons ti .int (.cons ts .str (.cons ti .int (.cons tu (.cons ti .int (.cons ti .int .nil)) (.cons ti .int (.cons ts .str (.cons ti .int .nil))))))
theorem axL {ti ts tu:TypeId} {l:List V} (h:FV (awE ti ts tu) l):∃ f:Qg,.agg l = f.v:=by
 obtain ⟨_,_,rfl,⟨x0,rfl⟩,h⟩:=h
 obtain ⟨_,_,rfl,⟨x1,rfl⟩,h⟩:=h
 obtain ⟨_,_,rfl,⟨x2,rfl⟩,h⟩:=h
 obtain ⟨_,_,rfl,⟨_,_,rfl,⟨x3,rfl⟩,_,_,rfl,⟨x4,rfl⟩,rfl⟩,h⟩:=h
 obtain ⟨_,_,rfl,⟨x5,rfl⟩,h⟩:=h
 obtain ⟨_,_,rfl,⟨x6,rfl⟩,h⟩:=h
 obtain ⟨_,_,rfl,⟨x7,rfl⟩,rfl⟩:=h
 exact ⟨⟨x0,x1,x2,x3,x4,x5,x6,x7⟩,rfl⟩
end Av
end

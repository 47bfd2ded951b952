/- Closed facts of the seat's program that each row asks. -/
import Derived.Test.YtjobognfgjobfaaGreatDoorK39
import Derived.Test.YtjobognfgjobfaaGreatDoorK40
import Derived.Test.YtjobognfgjobfaaGreatDoorK38
import Derived.Test.YtjobognfgjobfaaGreatDoorK32
import Derived.KernelRfl
set_option linter.unusedVariables false
set_option linter.unusedSimpArgs false
section
namespace Go.Proofs.YtjobognfgjobfaaGreatDoor.Seat
open Go Av Go.RowKit
set_option maxRecDepth 100000
theorem own:ownKnob Tryz.prog.godebug = none:=by kernel_rfl
theorem mix:Tryz.prog.follows .mixedOrders = true:=by kernel_rfl
theorem kids:Kids Tryz.prog (· < Tryz.prog.types.size):=kids_rows (by kernel_rfl) (by kernel_rfl)
theorem full:∀ t e,t < Tryz.prog.types.size→Tryz.prog.underlying t = some (.slice e)→0 < Tryz.prog.cellsOf e:=slices_full_of Tryz.prog (by kernel_rfl)
theorem small (l:List TypeId) (h:(l.all fun t=>decide (t < Tryz.prog.types.size)) = true):∀ t∈l,t < Tryz.prog.types.size:=fun t ht=>by simpa using kN.1 h t ht
end Go.Proofs.YtjobognfgjobfaaGreatDoor.Seat
end
section
namespace Go.Proofs.YtjobognfgjobfaaGreatDoor
open Go Av Go.RowKit
set_option maxRecDepth 100000
set_option linter.unusedVariables false
theorem zha {P:Program} {f nt:Nat} {c:AC} {rs:List Uh} {fn} (h1:P.funcs[f]? = some fn) (h:P.funcs[f]? = some fn→Has P f nt c rs:=by exact fun h=>⟨_,_,h,by decide,rfl,rfl,by kernel_rfl,by kernel_rfl⟩):Has P f nt c rs:=h h1
class WK (W:World):Prop where
 ok:WOK W
set_option linter.unusedSectionVars false
noncomputable abbrev jw (W:World):=aeL Tryz.prog W
variable {W:World} [wk:WK W]
theorem amK:aaS (jw W) 4:=akD (zhd wN Tryz.func4)
theorem agX:jy (jw W) 37:=afe (zhd UF Tryz.func37) (xL W wk.ok) (Vw W wk.ok)
theorem v8:XR (jw W) 38:=wY (zhd YX Tryz.func38)
theorem xM:WM (jw W) 86:=agz (zhd KE Tryz.func86) (ai5 W wk.ok)
theorem afG:qm (jw W) 170:=adV (zhd VL Tryz.func170) (xK W wk.ok)
theorem K8:XD (jw W) 87:=agA (zhd KF Tryz.func87) afG
theorem aaa:XS (jw W) 39:=wZ (zhd YY Tryz.func39) xM K8
theorem wo:Xn (jw W) 40:=xz (zhd Yz Tryz.func40) (akR W wk.ok) (ada W wk.ok) K8 xM
theorem agV:jv (jw W) 90:=afc (zhd UD Tryz.func90)
theorem aaI:Wc (jw W) 41:=vS (zhd Xb Tryz.func41) agV xM (adb W wk.ok)
theorem aex:Ka (jw W) 43:=acP (zhd W7 Tryz.func43)
theorem Jp:Qr (jw W) 92:=Jn (zhd Qi Tryz.func92)
theorem Jl:Qp (jw W) 42:=Je (zhd Qf Tryz.func42) Jp
theorem agW:jx (jw W) 15:=afd (zhd UE Tryz.func15) agX v8 aaa wo aaI aex Jl
theorem ag1:jC (jw W) 93:=afi (zhd UJ Tryz.func93)
theorem ag3:jE (jw W) 44:=afn (zhd UO Tryz.func44) K8 ag1
theorem akX:vH (jw W) 231:=aiZ (zhd xe Tryz.func231)
theorem yq:Wf (jw W) 177:=afr (zhd US Tryz.func177) akX
theorem acA:qM (jw W) 242:=aib (zhd jX Tryz.func242)
theorem agk:xj (jw W) 250:=akF (zhd wP Tryz.func250) acA
theorem af1:qN (jw W) 251:=ael (zhd Ua Tryz.func251)
theorem Kp:YP (jw W) 240:=wW (zhd YV Tryz.func240)
theorem JO:QN (jw W) 182:=yT (zhd Yq Tryz.func182) Kp
theorem qc:Xo (jw W) 192:=ac2 (zhd Vk Tryz.func192) agk af1 JO Kp
theorem afE:qj (jw W) 232:=adT (zhd VJ Tryz.func232) qc
theorem acB:qO (jw W) 184:=aid (zhd jZ Tryz.func184) acA
theorem ag7:jI (jw W) 277:=afs (zhd UT Tryz.func277)
theorem Vp:JB (jw W) 276:=WP (zhd QY Tryz.func276)
theorem ajf:x9 (jw W) 233:=aie (zhd j5 Tryz.func233) yq ag7 Vp
theorem afD:qi (jw W) 178:=adS (zhd VI Tryz.func178) afE acB ajf JO
theorem aby:UU (jw W) 94:=agy (zhd KD Tryz.func94) yq (Vw W wk.ok) afD
theorem ag4:jF (jw W) 45:=afo (zhd UP Tryz.func45) aby
theorem aey:Kb (jw W) 179:=acQ (zhd W8 Tryz.func179) (acx W wk.ok) (ai6 W wk.ok)
theorem wR:WB (jw W) 96:=acX (zhd Vf Tryz.func96) aey
theorem vA:YD (jw W) 95:=wh (zhd YN Tryz.func95) wR
theorem vw:YC (jw W) 97:=wg (zhd YM Tryz.func97) wR
theorem Wa:Ya (jw W) 28:=wX (zhd YW Tryz.func28)
theorem K4:Yl (jw W) 335:=Kt (zhd JD Tryz.func335)
theorem wj:Xl (jw W) 327:=xx (zhd Yx Tryz.func327) K4
theorem K5:Ym (jw W) 312:=Ku (zhd JE Tryz.func312) wj
theorem abF:U0 (jw W) 194:=agP (zhd KV Tryz.func194) yq
theorem ack:Vy (jw W) 314:=abl (zhd X0 Tryz.func314) abF qc
theorem aev:U8 (jw W) 313:=acN (zhd W5 Tryz.func313) ack
theorem agU:ju (jw W) 281:=afb (zhd UC Tryz.func281) Wa K5 aev
theorem aaG:Wb (jw W) 282:=vR (zhd Xa Tryz.func282) JO
theorem abx:WX (jw W) 236:=aa7 (zhd XL Tryz.func236) agU (xK W wk.ok) aby aaG JO
theorem afF:qk (jw W) 180:=adU (zhd VK Tryz.func180) (xL W wk.ok) (Vw W wk.ok) abx
theorem abc:Xe (jw W) 98:=aat (zhd Xq Tryz.func98) afF
theorem aae:Vo (jw W) 100:=aeg (zhd V5 Tryz.func100)
theorem vo:YB (jw W) 99:=we (zhd YL Tryz.func99) aae
theorem vn:YA (jw W) 107:=wd (zhd YK Tryz.func107) aae
theorem aaJ:Wd (jw W) 46:=vT (zhd Xc Tryz.func46) vA vw abc vo vn
theorem vB:XB (jw W) 47:=wi (zhd YO Tryz.func47)
theorem Wk:Jm (jw W) 108:=X8 (zhd QJ Tryz.func108)
theorem XQ:Q5 (jw W) 48:=XJ (zhd QE Tryz.func48) Wk
theorem aeH:Ki (jw W) 109:=acY (zhd Vg Tryz.func109)
theorem afX:qI (jw W) 49:=aee (zhd V3 Tryz.func49) aeH
theorem aad:XV (jw W) 50:=vj (zhd Y1 Tryz.func50)
theorem aaK:We (jw W) 16:=vU (zhd Xd Tryz.func16) ag3 ag4 aaJ vB XQ afX aad
theorem xN:WN (jw W) 187:=agC (zhd KH Tryz.func187)
theorem jp:J5 (jw W) 188:=adW (zhd VM Tryz.func188)
theorem an2:abL (jw W) 189:=amb (zhd aaz Tryz.func189) xN jp
theorem ai7:xS (jw W) 248:=ah2 (zhd jO Tryz.func248) (acx W wk.ok)
theorem aez:j7 (jw W) 190:=aiS (zhd yW Tryz.func190) ai7
theorem aiC:yu (jw W) 295:=agB (zhd KG Tryz.func295)
theorem Wm:JY (jw W) 78:=jd (zhd J4 Tryz.func78)
theorem ai8:xT (jw W) 249:=ah3 (zhd jP Tryz.func249) aiC Wm
theorem acy:qn (jw W) 191:=ah1 (zhd jN Tryz.func191) ai8
theorem an0:abJ (jw W) 116:=al9 (zhd aax Tryz.func116) xN jp acB an2 aez acy
theorem an4:abN (jw W) 117:=amd (zhd aaB Tryz.func117) xN jp acy aez
theorem an1:abK (jw W) 53:=ama (zhd aay Tryz.func53) (Vw W wk.ok) an0 an4
theorem Ub:JP (jw W) 138:=Vs (zhd Q9 Tryz.func138)
theorem WT:Ju (jw W) 64:=WG (zhd QU Tryz.func64) Ub
theorem amD:aaL (jw W) 66:=akv (zhd wC Tryz.func66)
theorem aja:xV (jw W) 65:=ah5 (zhd jR Tryz.func65) amD
theorem Uc:JQ (jw W) 139:=Vt (zhd Ja Tryz.func139)
theorem WU:Jv (jw W) 67:=WH (zhd QV Tryz.func67) Uc
theorem an3:abM (jw W) 69:=amc (zhd aaA Tryz.func69)
theorem ai9:xU (jw W) 68:=ah4 (zhd jQ Tryz.func68) an3
theorem abA:qo (jw W) 26:=akx (zhd wE Tryz.func26) WT aja WU ai9
theorem amE:aaM (jw W) 17:=akw (zhd wD Tryz.func17) (xL W wk.ok) (Vw W wk.ok) an1 abA
theorem K9:XE (jw W) 118:=agO (zhd KU Tryz.func118) qc
theorem aiB:yr (jw W) 54:=agx (zhd KC Tryz.func54) abA K9
theorem afB:qh (jw W) 55:=adP (zhd VF Tryz.func55) (vZ W wk.ok)
theorem v6:Vn (jw W) 18:=adQ (zhd VG Tryz.func18) aiB afB (vZ W wk.ok)
theorem qe:XF (jw W) 140:=agQ (zhd KW Tryz.func140)
theorem j6:Wg (jw W) 195:=aic (zhd jY Tryz.func195) agk
theorem afL:qu (jw W) 141:=ad2 (zhd VR Tryz.func141) K9 j6 qe
theorem xQ:WO (jw W) 72:=agJ (zhd KP Tryz.func72) qe afL
theorem ajd:xZ (jw W) 57:=ah8 (zhd jU Tryz.func57) xQ
theorem afY:qJ (jw W) 121:=aef (zhd V4 Tryz.func121) abF JO
theorem aeI:Kj (jw W) 122:=acZ (zhd Vh Tryz.func122)
theorem jr:XP (jw W) 127:=aek (zhd V9 Tryz.func127)
theorem adh:Up (jw W) 296:=acg (zhd Wx Tryz.func296) qe
theorem ag6:jH (jw W) 297:=afq (zhd UR Tryz.func297) K9 j6
theorem af0:qL (jw W) 298:=aej (zhd V8 Tryz.func298)
theorem adg:Uo (jw W) 252:=acf (zhd Ww Tryz.func252) qe adh ag6 jr af0
theorem adi:Uq (jw W) 196:=ach (zhd Wy Tryz.func196) adg
theorem ag0:jB (jw W) 123:=afh (zhd UI Tryz.func123) K9 j6 jr adi
theorem acn:XN (jw W) 125:=abn (zhd X2 Tryz.func125)
theorem aeJ:Kk (jw W) 124:=ac0 (zhd Vi Tryz.func124) acn
theorem Vl:Yc (jw W) 71:=yn (zhd Yi Tryz.func71)
theorem jn:Yu (jw W) 126:=qT (zhd JV Tryz.func126) Vl
theorem aiJ:yA (jw W) 128:=agM (zhd KS Tryz.func128) j6
theorem ag5:jG (jw W) 58:=afp (zhd UQ Tryz.func58) K8 afY aeI ag0 aeJ jr jn aiJ
theorem adc:Y8 (jw W) 59:=acb (zhd Xk Tryz.func59)
theorem Vq:JC (jw W) 73:=WQ (zhd QZ Tryz.func73)
theorem afI:qq (jw W) 213:=adY (zha Tryz.func213)
theorem aiE:UW (jw W) 143:=agE (zhd KJ Tryz.func143) afI
theorem WR:Jt (jw W) 204:=WF (zhd QT Tryz.func204)
theorem Uj:Has Tryz.prog 142 148 (Ye 204 205 206 207 208 209 210 211 142) bq:=zha Tryz.func142
theorem U6:J8 (jw W) 142:=Uy Uj WR
theorem Wz:Jo (jw W) 74:=Wj (zhd QM Tryz.func74) aiE U6
theorem abE:UZ (jw W) 214:=agN (zhd KT Tryz.func214)
theorem jq:XO (jw W) 146:=aei (zhd V7 Tryz.func146) abE
theorem adf:X6 (jw W) 145:=ace (zhd Wv Tryz.func145) jq
theorem afU:qE (jw W) 144:=aeb (zhd V0 Tryz.func144) adf
theorem ade:X5 (jw W) 148:=acd (zhd Wu Tryz.func148) (v7 W wk.ok)
theorem afT:qD (jw W) 147:=aea (zhd VZ Tryz.func147) ade
theorem afS:qC (jw W) 150:=ad9 (zhd VY Tryz.func150)
theorem afR:qB (jw W) 151:=ad8 (zhd VX Tryz.func151)
theorem afQ:qA (jw W) 152:=ad7 (zhd VW Tryz.func152)
theorem afP:qz (jw W) 153:=ad6 (zhd VV Tryz.func153)
theorem afO:qy (jw W) 154:=ad5 (zhd VU Tryz.func154)
theorem afN:qw (jw W) 155:=ad4 (zhd VT Tryz.func155)
theorem afM:qv (jw W) 156:=ad3 (zhd VS Tryz.func156)
theorem aeF:Kg (jw W) 157:=acV (zhd Vd Tryz.func157)
theorem aeE:Kf (jw W) 158:=acU (zhd Vc Tryz.func158)
theorem aeD:Ke (jw W) 159:=acT (zhd Vb Tryz.func159)
theorem aeC:Kd (jw W) 160:=acS (zhd Va Tryz.func160)
theorem abD:UY (jw W) 75:=agH (zhd KN Tryz.func75) afU afT afS afR afQ afP afO afN afM aeF aeE aeD aeC
theorem WL:Jr (jw W) 76:=Wp (zhd QQ Tryz.func76)
theorem acz:qF (jw W) 32:=ah9 (zhd jV Tryz.func32) xQ Vq Wz abD WL
theorem abb:WA (jw W) 19:=aas (zhd Xp Tryz.func19) ajd ag5 adc acz
theorem agT:jt (jw W) 5:=afa (zhd UB Tryz.func5) agW aaK amE v6 abb
theorem an6:abP (jw W) 6:=amf (zhd aaC Tryz.func6)
theorem aqz:adk (jw W) 22:=anA (zhd ab3 Tryz.func22)
theorem YH:JH (jw W) 8:=ad0 (zhd VP Tryz.func8) aqz
theorem afJ:qr (jw W) 60:=adZ (zhd VO Tryz.func60) YH
theorem abB:UX (jw W) 24:=agG (zhd KM Tryz.func24) YH
theorem ajc:xY (jw W) 20:=ah7 (zhd jT Tryz.func20) YH afJ abB
theorem amH:aaP (jw W) 129:=akA (zhd wJ Tryz.func129)
theorem aiD:yv (jw W) 253:=agD (zhd KI Tryz.func253)
theorem akV:vF (jw W) 254:=aiW (zhd xb Tryz.func254)
theorem ajb:xX (jw W) 255:=ah6 (zhd jS Tryz.func255)
theorem agY:jz (jw W) 197:=aff (zhd UG Tryz.func197) aiD akV ajb
theorem aeA:j8 (jw W) 130:=aiX (zhd xc Tryz.func130) agY
theorem amI:aaQ (jw W) 256:=akB (zhd wK Tryz.func256)
theorem amJ:aaR (jw W) 198:=akC (zhd wL Tryz.func198) amI
theorem afH:qp (jw W) 131:=adX (zhd VN Tryz.func131) aeA amJ
theorem akU:vE (jw W) 61:=aiV (zhd yZ Tryz.func61) amH aeA afH
theorem akS:vC (jw W) 199:=aiT (zhd yX Tryz.func199)
theorem amF:aaN (jw W) 200:=aky (zhd wG Tryz.func200)
theorem akT:vD (jw W) 132:=aiU (zhd yY Tryz.func132) akS amF
theorem an5:abO (jw W) 62:=ame (zhd xH Tryz.func62) akT
theorem amG:aaO (jw W) 21:=akz (zhd wI Tryz.func21) akU an5
theorem aiF:yw (jw W) 7:=agF (zhd KL Tryz.func7) YH ajc amG
theorem agZ:jA (jw W) 23:=afg (zhd UH Tryz.func23) YH
theorem akW:vG (jw W) 9:=aiY (zhd xd Tryz.func9) YH agZ abB
theorem aa1:Ue (jw W) 134:=afk (zhd UL Tryz.func134) xQ abD
theorem ag2:jD (jw W) 81:=afj (zhd UK Tryz.func81) aa1
theorem Kq:YQ (jw W) 83:=w9 (zhd YZ Tryz.func83)
theorem aab:XT (jw W) 162:=vg (zhd Y0 Tryz.func162) Kq
theorem xO:X3 (jw W) 164:=ab9 (zhd Ws Tryz.func164)
theorem agj:xi (jw W) 203:=akE (zhd wO Tryz.func203)
theorem aeB:Kc (jw W) 163:=acR (zhd W9 Tryz.func163) xO jq agj
theorem afK:qt (jw W) 82:=ad1 (zhd VQ Tryz.func82) aab aeB xO
theorem aeK:Kl (jw W) 271:=ac1 (zhd Vj Tryz.func271)
theorem afZ:qK (jw W) 216:=aeh (zhd V6 Tryz.func216) aeK
theorem abz:WY (jw W) 217:=aa8 (zhd XM Tryz.func217)
theorem Um:JZ (jw W) 165:=VC (zhd Jf Tryz.func165) afZ abz
theorem aac:XU (jw W) 84:=vh (zhd JJ Tryz.func84) Um (jm W wk.ok)
theorem aje:x8 (jw W) 220:=aia (zhd jW Tryz.func220) abE
theorem aew:U9 (jw W) 221:=acO (zhd W6 Tryz.func221)
theorem jo:Yv (jw W) 167:=qU (zhd JX Tryz.func167) aje aew
theorem abC:WZ (jw W) 85:=aa9 (zhd Yh Tryz.func85) jo (vm W wk.ok)
theorem xP:X4 (jw W) 36:=aca (zhd Wt Tryz.func36) ag2 afK Kq aac abC
theorem wm:Xm (jw W) 201:=xy (zhd Yy Tryz.func201)
theorem aiK:yB (jw W) 133:=agR (zhd KX Tryz.func133) Wa (aaH W wk.ok) wm
theorem aqA:adl (jw W) 135:=anB (zhd ab4 Tryz.func135)
theorem aiL:yD (jw W) 137:=agS (zhd KY Tryz.func137) (v7 W wk.ok) jq agj
theorem akY:vI (jw W) 63:=ai0 (zhd xf Tryz.func63) aiK aa1 aqA (Uk W wk.ok) aiL
theorem aa2:Uf (jw W) 25:=afl (zhd UM Tryz.func25) xP akY
theorem U7:J9 (jw W) 27:=Uz (zhd Jq Tryz.func27) (K6 W wk.ok)
theorem aiI:yz (jw W) 10:=agL (zhd KR Tryz.func10) aa2 abA U7 v6
theorem K7:Yn (jw W) 34:=Kv (zhd JF Tryz.func34) Wm
theorem afV:qG (jw W) 80:=aec (zhd V1 Tryz.func80)
theorem Ud:JR (jw W) 161:=Vu (zhd Jb Tryz.func161)
theorem WV:Jw (jw W) 79:=WI (zhd QW Tryz.func79) Ud
theorem aiH:yy (jw W) 35:=agK (zhd KQ Tryz.func35) afV WV
theorem aa3:Ug (jw W) 13:=afm (zhd UN Tryz.func13) aa2 K7 aiH
theorem acm:Vz (jw W) 30:=abm (zhd X1 Tryz.func30)
theorem yp:YU (jw W) 29:=yh (zhd Yb Tryz.func29) Vl
theorem afW:qH (jw W) 31:=aed (zhd V2 Tryz.func31)
theorem aeG:Kh (jw W) 11:=acW (zhd Ve Tryz.func11) aa3 Wa acm yp afW
theorem WW:Jy (jw W) 33:=WJ (zhd QX Tryz.func33) (Vx W wk.ok)
theorem aiG:yx (jw W) 12:=agI (zhd KO Tryz.func12) WW acz
theorem anZ:abG (jw W) 14:=al8 (zhd aaw Tryz.func14) xP
theorem afC:wS (jw W) 3:=adR (zhd VH Tryz.func3) amK agT an6 aiF YH akW aiI aeG aiG aa3 anZ
end Go.Proofs.YtjobognfgjobfaaGreatDoor
end

/- Closed facts of the seat's program that each row asks. -/
import Derived.Test.YtphclkkggijicaaGreatDoorK35
import Derived.Test.YtphclkkggijicaaGreatDoorK36
import Derived.Test.YtphclkkggijicaaGreatDoorK34
import Derived.Test.YtphclkkggijicaaGreatDoorK28
import Derived.KernelRfl
set_option linter.unusedVariables false
set_option linter.unusedSimpArgs false
section
namespace Go.Proofs.YtphclkkggijicaaGreatDoor.Seat
open Go Av Go.RowKit
set_option maxRecDepth 100000
theorem own:ownKnob Tryz.prog.godebug = none:=by kernel_rfl
theorem mix:Tryz.prog.follows .mixedOrders = true:=by kernel_rfl
theorem kids:Kids Tryz.prog (· < Tryz.prog.types.size):=kids_rows (by kernel_rfl) (by kernel_rfl)
theorem full:∀ t e,t < Tryz.prog.types.size→Tryz.prog.underlying t = some (.slice e)→0 < Tryz.prog.cellsOf e:=slices_full_of Tryz.prog (by kernel_rfl)
theorem small (l:List TypeId) (h:(l.all fun t=>decide (t < Tryz.prog.types.size)) = true):∀ t∈l,t < Tryz.prog.types.size:=fun t ht=>by simpa using kz.1 h t ht
end Go.Proofs.YtphclkkggijicaaGreatDoor.Seat
end
section
namespace Go.Proofs.YtphclkkggijicaaGreatDoor
open Go Av Go.RowKit
set_option maxRecDepth 100000
set_option linter.unusedVariables false
theorem zha {P:Program} {f nt:Nat} {c:AC} {rs:List V8} {fn} (h1:P.funcs[f]? = some fn) (h:P.funcs[f]? = some fn→Has P f nt c rs:=by exact fun h=>⟨_,_,h,by decide,rfl,rfl,by kernel_rfl,by kernel_rfl⟩):Has P f nt c rs:=h h1
class WK (W:World):Prop where
 ok:WOK W
set_option linter.unusedSectionVars false
noncomputable abbrev jw (W:World):=akj Tryz.prog W
variable {W:World} [wk:WK W]
theorem ahw:yv (jw W) 6:=afo (zhd qg Tryz.func6)
theorem aaS:Va (jw W) 115:=vt (zhd XE Tryz.func115) (Kj W wk.ok)
theorem xk:Wq (jw W) 48:=aby (zhd WN Tryz.func48) aaS
theorem Kk:YX (jw W) 131:=abI (zhd WX Tryz.func131)
theorem we:Vl (jw W) 192:=acH (zhd VZ Tryz.func192)
theorem abl:U5 (jw W) 165:=aft (zhd ql Tryz.func165) we
theorem aa1:Vm (jw W) 200:=vH (zhd XS Tryz.func200)
theorem WE:JE (jw W) 163:=qz (zhd JK Tryz.func163)
theorem QM:Qt (jw W) 117:=UE (zhd Jn Tryz.func117) WE
theorem W6:J9 (jw W) 164:=wF (zhd Xc Tryz.func164) abl aa1 QM WE
theorem xn:Ws (jw W) 118:=abG (zhd WV Tryz.func118) W6
theorem qO:Xt (jw W) 119:=acI (zhd V0 Tryz.func119) abl
theorem XT:JQ (jw W) 55:=vG (zhd XR Tryz.func55)
theorem wP:X4 (jw W) 201:=xT (zhd YR Tryz.func201) Kk
theorem abP:VJ (jw W) 202:=aaG (zhd Wm Tryz.func202) xn qO
theorem aa0:Vk (jw W) 203:=vF (zhd XQ Tryz.func203)
theorem wO:X3 (jw W) 166:=xS (zhd YQ Tryz.func166) Kk wP abP XT aa0
theorem wQ:X5 (jw W) 120:=xU (zhd YS Tryz.func120) wO
theorem yK:XX (jw W) 51:=aaB (zhd Wh Tryz.func51) xn qO XT wQ
theorem abM:VG (jw W) 92:=aaC (zhd Wi Tryz.func92) Kk yK
theorem abN:VH (jw W) 35:=aaD (zhd Wj Tryz.func35) xk abM
theorem afU:ja (jw W) 180:=adE (zhd UY Tryz.func180)
theorem Uq:YI (jw W) 147:=aaH (zhd Wn Tryz.func147) afU
theorem aaQ:W8 (jw W) 182:=vq (zhd XC Tryz.func182) W6
theorem wg:Vn (jw W) 154:=acJ (zhd V1 Tryz.func154) we
theorem abQ:VK (jw W) 214:=aaI (zhd Wo Tryz.func214)
theorem Xi:QV (jw W) 213:=YZ (zhd QE Tryz.func213)
theorem adW:Kv (jw W) 183:=acK (zhd V2 Tryz.func183) Uq abQ Xi
theorem aaP:W7 (jw W) 149:=vp (zhd XB Tryz.func149) aaQ wg adW QM
theorem xi:Wp (jw W) 93:=abx (zhd WM Tryz.func93) Uq (xj W wk.ok) aaP
theorem abO:VI (jw W) 36:=aaE (zhd Wk Tryz.func36) xi
theorem qm:YT (jw W) 150:=ww (zhd Y4 Tryz.func150) (adL W wk.ok) (adK W wk.ok)
theorem qo:YV (jw W) 95:=wz (zhd Y6 Tryz.func95) qm
theorem qM:Q8 (jw W) 94:=KG (zhd JC Tryz.func94) qo
theorem qL:Q7 (jw W) 96:=KF (zhd JB Tryz.func96) qo
theorem jn:Yo (jw W) 253:=qA (zhd JL Tryz.func253)
theorem W0:Jh (jw W) 294:=WG (zhd QX Tryz.func294)
theorem KI:J8 (jw W) 284:=Kd (zhd Jt Tryz.func284) W0
theorem W3:Ji (jw W) 254:=WH (zhd QY Tryz.func254) KI
theorem xp:Wt (jw W) 116:=abH (zhd WW Tryz.func116) Uq
theorem xX:Xp (jw W) 256:=y6 (zhd Yv Tryz.func256) xp W6
theorem vT:Wx (jw W) 255:=wv (zhd Y3 Tryz.func255) xX
theorem abK:VE (jw W) 219:=aaw (zhd Wc Tryz.func219) jn W3 vT
theorem j8:YF (jw W) 220:=jh (zhd JW Tryz.func220) QM
theorem xh:Y1 (jw W) 186:=yO (zhd Yj Tryz.func186) abK (Kj W wk.ok) xi j8 QM
theorem aaR:W9 (jw W) 151:=vr (zhd XD Tryz.func151) (ac0 W wk.ok) (xj W wk.ok) xh
theorem yR:Jo (jw W) 97:=jP (zhd Yb Tryz.func97) aaR
theorem jr:Xh (jw W) 99:=vD (zhd XO Tryz.func99)
theorem qK:Q6 (jw W) 98:=KE (zhd JA Tryz.func98) jr
theorem aaW:Vg (jw W) 188:=vA (zhd XL Tryz.func188)
theorem Xj:QW (jw W) 187:=Y0 (zhd QF Tryz.func187)
theorem Uh:Jw (jw W) 136:=Vt (zhd Jc Tryz.func136)
theorem aaa:WC (jw W) 221:=wE (zhd Xb Tryz.func221) Uh
theorem adV:Ku (jw W) 189:=acG (zhd VY Tryz.func189) aaa
theorem ac8:Uw (jw W) 152:=abE (zhd WT Tryz.func152) aaW Xj adV
theorem yS:Jp (jw W) 100:=jQ (zhd Yc Tryz.func100) ac8
theorem qp:YW (jw W) 102:=wB (zhd Y8 Tryz.func102) QM (j9 W wk.ok)
theorem aaZ:Vj (jw W) 103:=vE (zhd XP Tryz.func103) qm XT
theorem qJ:Q5 (jw W) 101:=KD (zhd Jz Tryz.func101) qp aaZ
theorem xm:Wr (jw W) 56:=abF (zhd WU Tryz.func56) qO
theorem x6:Xs (jw W) 105:=y8 (zhd Yx Tryz.func105) wg xm
theorem qI:Q4 (jw W) 104:=KC (zhd Jy Tryz.func104) qp x6
theorem qH:Q3 (jw W) 106:=KB (zhd Jx Tryz.func106) jr
theorem yd:YH (jw W) 37:=ji (zhd JX Tryz.func37) qM qL yR qK yS qJ qI qH
theorem qN:Yg (jw W) 38:=KH (zhd JD Tryz.func38)
theorem YJ:QN (jw W) 107:=YC (zhd Qx Tryz.func107)
theorem Yn:QH (jw W) 39:=Yi (zhd Qv Tryz.func39) YJ
theorem v6:Wz (jw W) 108:=wA (zhd Y7 Tryz.func108)
theorem wN:X2 (jw W) 110:=xR (zhd YP Tryz.func110)
theorem aaX:Vh (jw W) 40:=vB (zhd XM Tryz.func40) v6 (xY W wk.ok) wN
theorem jq:Yp (jw W) 41:=qC (zhd JN Tryz.func41)
theorem W5:JP (jw W) 16:=jj (zhd JY Tryz.func16) abN abO yd qN Yn aaX jq
theorem aaY:Vi (jw W) 49:=vC (zhd XN Tryz.func49) xp QM
theorem v7:WA (jw W) 50:=wC (zhd Y9 Tryz.func50)
theorem x7:Ym (jw W) 53:=y9 (zhd Yy Tryz.func53)
theorem v8:WB (jw W) 52:=wD (zhd Xa Tryz.func52) x7
theorem UZ:JS (jw W) 121:=Uo (zhd Jg Tryz.func121)
theorem VC:Js (jw W) 54:=Vp (zhd Q1 Tryz.func54) UZ
theorem yL:XY (jw W) 19:=aaF (zhd Wl Tryz.func19) xk aaY v7 yK v8 XT VC xm
theorem afT:q9 (jw W) 7:=adD (zhd UX Tryz.func7) W5 yL
theorem aiG:xC (jw W) 8:=ag3 (zhd j4 Tryz.func8)
theorem akK:wR (jw W) 34:=aik (zhd xK Tryz.func34)
theorem Jf:QP (jw W) 10:=vz (zhd XK Tryz.func10) akK
theorem W4:Yh (jw W) 68:=abD (zhd WS Tryz.func68) Jf
theorem aiF:xB (jw W) 71:=ag2 (zhd j3 Tryz.func71) W4
theorem akL:wS (jw W) 70:=ail (zhd xL Tryz.func70) W4 aiF
theorem Up:YG (jw W) 15:=aaA (zhd Wg Tryz.func15) Jf
theorem abi:U2 (jw W) 205:=aff (zhd K1 Tryz.func205)
theorem abh:U1 (jw W) 73:=afe (zhd K0 Tryz.func73)
theorem ac5:Uv (jw W) 237:=abC (zhd WR Tryz.func237)
theorem afR:qZ (jw W) 238:=adz (zhd UU Tryz.func238)
theorem adP:Ko (jw W) 239:=acy (zhd VS Tryz.func239)
theorem yJ:XV (jw W) 204:=aay (zhd We Tryz.func204) ac5 afR adP
theorem vX:V6 (jw W) 169:=adA (zhd UV Tryz.func169) yJ
theorem abj:U3 (jw W) 125:=afg (zhd K5 Tryz.func125)
theorem qn:XW (jw W) 61:=afh (zhd K6 Tryz.func61) abj
theorem jo:Xg (jw W) 123:=vu (zhd XF Tryz.func123) vX qn
theorem yc:X9 (jw W) 124:=adw (zhd UR Tryz.func124) abh jo vX qn
theorem aht:yq (jw W) 268:=afk (zhd K9 Tryz.func268)
theorem ac7:qt (jw W) 270:=ag1 (zhd j2 Tryz.func270)
theorem abu:Has Tryz.prog 288 30 (qF 288) Zy:=zha Tryz.func288
theorem adS:Kr (jw W) 288:=acD abu
theorem abk:U4 (jw W) 269:=afl (zhd qc Tryz.func269) adS
theorem aiA:xv (jw W) 271:=agV (zhd jW Tryz.func271) ac7 abk
theorem ahu:yr (jw W) 272:=afm (zhd qe Tryz.func272)
theorem ahp:yl (jw W) 241:=afb (zhd KX Tryz.func241) aht ac7 aiA ahu abk
theorem aiD:xz (jw W) 286:=agZ (zhd j0 Tryz.func286)
theorem abt:Has Tryz.prog 265 53 (qE 286 265) Zw:=zha Tryz.func265
theorem adR:Kq (jw W) 265:=acC abt aiD
theorem acr:Has Tryz.prog 266 22 (j1 266) Zv:=zha Tryz.func266
theorem afS:q8 (jw W) 266:=adC acr
theorem adQ:Kp (jw W) 287:=acB (zhd VV Tryz.func287)
theorem ae0:Has Tryz.prog 267 34 (wL 267 287) Zx:=zha Tryz.func267
theorem aiE:xA (jw W) 267:=ag0 ae0 adQ
theorem adT:Ks (jw W) 240:=acE (zhd VW Tryz.func240) adR afS aiE
theorem afP:qX (jw W) 206:=adx (zhd US Tryz.func206) yc ahp adT
theorem aiB:xw (jw W) 207:=agW (zhd jX Tryz.func207)
theorem ahq:ym (jw W) 171:=afc (zhd KY Tryz.func171) abi yc afP aiB
theorem vZ:Wy (jw W) 128:=wx (zhd Y5 Tryz.func128) Jf W4 Up ahq
theorem ahy:yx (jw W) 72:=afq (zhd qi Tryz.func72) W4 Jf vZ
theorem ahx:yw (jw W) 33:=afp (zhd qh Tryz.func33) akL Up ahy
theorem ahv:yu (jw W) 9:=afn (zhd qf Tryz.func9) Jf ahx
theorem VD:Yl (jw W) 12:=vy (zhd XJ Tryz.func12) Jf
theorem ahz:yy (jw W) 11:=afr (zhd qj Tryz.func11) VD
theorem adU:Kt (jw W) 14:=acF (zhd VX Tryz.func14) VD Jf
theorem ahA:yz (jw W) 13:=afs (zhd qk Tryz.func13)
theorem abg:U0 (jw W) 57:=ae9 (zhd KV Tryz.func57)
theorem vW:V5 (jw W) 60:=adu (zhd UP Tryz.func60) jo yc
theorem afO:qW (jw W) 25:=adv (zhd UQ Tryz.func25) abh vW
theorem afJ:qR (jw W) 42:=adn (zhd UI Tryz.func42) abg afO
theorem afH:qP (jw W) 111:=adl (zhd UG Tryz.func111)
theorem afI:qQ (jw W) 43:=adm (zhd UH Tryz.func43) afH
theorem adN:Km (jw W) 44:=acw (zhd VQ Tryz.func44)
theorem vU:V3 (jw W) 155:=adq (zhd UL Tryz.func155)
theorem aiC:xy (jw W) 167:=agX (zhd jY Tryz.func167)
theorem afQ:qY (jw W) 168:=ady (zhd UT Tryz.func168)
theorem qG:Xr (jw W) 122:=acz (zhd VT Tryz.func122) aiC afQ
theorem vY:V7 (jw W) 58:=adB (zhd UW Tryz.func58) qG
theorem yI:XU (jw W) 170:=aax (zhd Wd Tryz.func170) vY yJ
theorem ahn:yj (jw W) 127:=ae8 (zhd KU Tryz.func127) yI
theorem xl:Vf (jw W) 197:=afi (zhd K7 Tryz.func197) abj
theorem ahs:yp (jw W) 263:=afj (zhd K8 Tryz.func263) qG
theorem afN:qV (jw W) 233:=ads (zhd UN Tryz.func233) xl ahs
theorem afM:qU (jw W) 234:=adr (zhd UM Tryz.func234) yI xl
theorem aiz:xu (jw W) 193:=agU (zhd jV Tryz.func193) vU afN qG afM
theorem ac6:qr (jw W) 59:=agY (zhd jZ Tryz.func59)
theorem ac3:Ut (jw W) 194:=abA (zhd WP Tryz.func194) ac6
theorem ac4:Uu (jw W) 156:=abB (zhd WQ Tryz.func156) ahn aiz ac3
theorem vV:V4 (jw W) 112:=adt (zhd UO Tryz.func112) vU ac4
theorem aaU:Vc (jw W) 264:=vw (zhd XH Tryz.func264) abi
theorem adO:Kn (jw W) 235:=acx (zhd VR Tryz.func235) aaU
theorem aho:yk (jw W) 195:=afa (zhd KW Tryz.func195) adO
theorem ahl:yh (jw W) 157:=ae6 (zhd KS Tryz.func157) aho
theorem wd:Ve (jw W) 160:=acA (zhd VU Tryz.func160)
theorem ac1:qq (jw W) 196:=agT (zhd jU Tryz.func196)
theorem ac2:Us (jw W) 158:=abz (zhd WO Tryz.func158) wd ac1
theorem adM:Kl (jw W) 159:=acv (zhd VP Tryz.func159) xl qn ac1
theorem afK:qS (jw W) 113:=ado (zhd UJ Tryz.func113) ahl ac2 adM wd vV
theorem ahk:yg (jw W) 45:=ae5 (zhd KR Tryz.func45) vV afK
theorem xZ:Xq (jw W) 17:=y7 (zhd Yw Tryz.func17) afJ afI adN ahk
theorem abL:VF (jw W) 46:=aaz (zhd Wf Tryz.func46)
theorem aaV:Vd (jw W) 198:=vx (zhd XI Tryz.func198)
theorem ahr:yo (jw W) 161:=afd (zhd KZ Tryz.func161) aaV
theorem aaT:Vb (jw W) 114:=vv (zhd XG Tryz.func114) ahr
theorem yQ:YU (jw W) 47:=jO (zhd Ya Tryz.func47) aaT
theorem ahm:yi (jw W) 18:=ae7 (zhd KT Tryz.func18) abL yQ
theorem afL:qT (jw W) 20:=adp (zhd UK Tryz.func20) abg vY ac6 vW qn
theorem jp:Wa (jw W) 3:=qB (zhd JM Tryz.func3) ahw afT aiG ahv Jf ahz VD adU ahA Up W5 xZ ahm yL afL
end Go.Proofs.YtphclkkggijicaaGreatDoor
end

/- Closed facts of the seat's program that each row asks. -/
import Derived.Test.YtphclkkggijicaaGreatDoorB37
import Derived.Test.YtphclkkggijicaaGreatDoorB38
import Derived.Test.YtphclkkggijicaaGreatDoorB36
import Derived.Test.YtphclkkggijicaaGreatDoorB30
import Derived.KernelRfl
set_option linter.unusedVariables false
set_option linter.unusedSimpArgs false
section
namespace Go.Proofs.YtphclkkggijicaaGreatDoor.Seat
open Go Av Go.RowKit
set_option maxRecDepth 100000
theorem own:ownKnob Tryz.prog.godebug = none:=by kernel_rfl
theorem mix:Tryz.prog.follows .mixedOrders = true:=by kernel_rfl
theorem kids:Kids Tryz.prog (· < Tryz.prog.types.size):=kids_rows (by kernel_rfl) (by kernel_rfl)
theorem full:∀ t e,t < Tryz.prog.types.size→Tryz.prog.underlying t = some (.slice e)→0 < Tryz.prog.cellsOf e:=slices_full_of Tryz.prog (by kernel_rfl)
theorem small (l:List TypeId) (h:(l.all fun t=>decide (t < Tryz.prog.types.size)) = true):∀ t∈l,t < Tryz.prog.types.size:=fun t ht=>by simpa using kB.1 h t ht
end Go.Proofs.YtphclkkggijicaaGreatDoor.Seat
end
section
namespace Go.Proofs.YtphclkkggijicaaGreatDoor
open Go Av Go.RowKit
set_option maxRecDepth 100000
set_option linter.unusedVariables false
theorem zha {P:Program} {f nt:Nat} {c:AC} {rs:List Uc} {fn} (h1:P.funcs[f]? = some fn) (h:P.funcs[f]? = some fn→Has P f nt c rs:=by exact fun h=>⟨_,_,h,by decide,rfl,rfl,by kernel_rfl,by kernel_rfl⟩):Has P f nt c rs:=h h1
class WK (W:World):Prop where
 ok:WOK W
set_option linter.unusedSectionVars false
noncomputable abbrev jw (W:World):=akT Tryz.prog W
variable {W:World} [wk:WK W]
theorem ah7:yP (jw W) 6:=afR (zhd qB Tryz.func6)
theorem adM:Has Tryz.prog 21 39 (xL 21) Zz:=zha Tryz.func21
theorem ahX:yF (jw W) 21:=afB adM
theorem abm:Vz (jw W) 115:=v8 (zhd XW Tryz.func115) (KF W wk.ok)
theorem xQ:WG (jw W) 48:=abY (zhd Vc Tryz.func48) abm
theorem KG:Xb (jw W) 131:=ab8 (zhd Vm Tryz.func131)
theorem wQ:VM (jw W) 192:=ada (zhd Ur Tryz.func192)
theorem abL:Ks (jw W) 165:=afV (zhd qF Tryz.func165) wQ
theorem abv:VN (jw W) 200:=aan (zhd Wa Tryz.func200)
theorem WX:JP (jw W) 163:=qP (zhd JX Tryz.func163)
theorem QV:Qw (jw W) 117:=U2 (zhd Ju Tryz.func117) WX
theorem Vv:Yg (jw W) 164:=vk (zhd Xv Tryz.func164) abL abv QV WX
theorem xV:WI (jw W) 118:=ab6 (zhd Vk Tryz.func118) Vv
theorem jc:XM (jw W) 119:=adb (zhd Us Tryz.func119) abL
theorem Wb:J1 (jw W) 55:=aam (zhd X9 Tryz.func55)
theorem vx:Wm (jw W) 201:=wB (zhd Y3 Tryz.func201) KG
theorem acf:Ua (jw W) 202:=aba (zhd WC Tryz.func202) xV jc
theorem abu:VL (jw W) 203:=aal (zhd X8 Tryz.func203)
theorem vw:Wl (jw W) 166:=wA (zhd Y2 Tryz.func166) KG vx acf Wb abu
theorem vy:Wn (jw W) 120:=wC (zhd Y4 Tryz.func120) vw
theorem y6:We (jw W) 51:=aa5 (zhd Wx Tryz.func51) xV jc Wb vy
theorem acd:V8 (jw W) 92:=aa6 (zhd Wy Tryz.func92) KG y6
theorem y7:Wf (jw W) 35:=aa7 (zhd Wz Tryz.func35) xQ acd
theorem agr:jv (jw W) 180:=aea (zhd Km Tryz.func180)
theorem UN:YU (jw W) 147:=abb (zhd WD Tryz.func147) agr
theorem abk:Vx (jw W) 182:=v6 (zhd XU Tryz.func182) Vv
theorem wR:VO (jw W) 154:=adc (zhd Ut Tryz.func154) wQ
theorem acg:Ub (jw W) 214:=abc (zhd WE Tryz.func214)
theorem XB:Q6 (jw W) 213:=Xe (zhd QI Tryz.func213)
theorem aep:KR (jw W) 183:=ade (zhd Uu Tryz.func183) UN acg XB
theorem abj:Vw (jw W) 149:=vZ (zhd XT Tryz.func149) abk wR aep QV
theorem xO:WF (jw W) 93:=abX (zhd Vb Tryz.func93) UN (xP W wk.ok) abj
theorem y8:Wg (jw W) 36:=aa8 (zhd WA Tryz.func36) xO
theorem qG:Y7 (jw W) 150:=w8 (zhd Xm Tryz.func150) (aef W wk.ok) (aee W wk.ok)
theorem qH:Y9 (jw W) 95:=vc (zhd Xp Tryz.func95) qG
theorem ja:Jj (jw W) 94:=KZ (zhd JN Tryz.func94) qH
theorem q9:Ji (jw W) 96:=KY (zhd JM Tryz.func96) qH
theorem jH:YB (jw W) 253:=qQ (zhd JY Tryz.func253)
theorem Vr:Jq (jw W) 294:=W3 (zhd Q8 Tryz.func294)
theorem K1:Yf (jw W) 284:=KA (zhd JB Tryz.func284) Vr
theorem Vs:Jr (jw W) 254:=W4 (zhd Q9 Tryz.func254) K1
theorem xW:WJ (jw W) 116:=ab7 (zhd Vl Tryz.func116) UN
theorem wE:XJ (jw W) 256:=xC (zhd YG Tryz.func256) xW Vv
theorem aaA:WP (jw W) 255:=wZ (zhd Xl Tryz.func255) wE
theorem aca:V6 (jw W) 219:=aa0 (zhd Ws Tryz.func219) jH Vs aaA
theorem yu:YP (jw W) 220:=jA (zhd J5 Tryz.func220) QV
theorem xN:Xh (jw W) 186:=xd (zhd Yv Tryz.func186) aca (KF W wk.ok) xO yu QV
theorem abl:Vy (jw W) 151:=v7 (zhd XV Tryz.func151) (adw W wk.ok) (xP W wk.ok) xN
theorem xj:Jv (jw W) 97:=j7 (zhd Yk Tryz.func97) abl
theorem jJ:Xz (jw W) 99:=aaj (zhd X6 Tryz.func99)
theorem q8:Jh (jw W) 98:=KX (zhd JL Tryz.func98) jJ
theorem abq:VH (jw W) 188:=aag (zhd X3 Tryz.func188)
theorem XC:Q7 (jw W) 187:=Xf (zhd QJ Tryz.func187)
theorem UG:JF (jw W) 136:=VU (zhd Jm Tryz.func136)
theorem aaJ:WV (jw W) 221:=vj (zhd Xu Tryz.func221) UG
theorem aeo:KQ (jw W) 189:=ac9 (zhd Uq Tryz.func189) aaJ
theorem adD:UT (jw W) 152:=ab4 (zhd Vi Tryz.func152) abq XC aeo
theorem xk:Jw (jw W) 100:=j8 (zhd Yl Tryz.func100) adD
theorem qI:Xa (jw W) 102:=vg (zhd Xr Tryz.func102) QV (yv W wk.ok)
theorem abt:VK (jw W) 103:=aak (zhd X7 Tryz.func103) qG Wb
theorem qZ:Jg (jw W) 101:=KW (zhd JK Tryz.func101) qI abt
theorem xT:WH (jw W) 56:=ab5 (zhd Vj Tryz.func56) jc
theorem wG:XL (jw W) 105:=xD (zhd YH Tryz.func105) wR xT
theorem qY:Jf (jw W) 104:=KV (zhd JJ Tryz.func104) qI wG
theorem qX:Je (jw W) 106:=KU (zhd JI Tryz.func106) jJ
theorem Vu:J0 (jw W) 37:=jB (zhd J6 Tryz.func37) ja q9 xj q8 xk qZ qY qX
theorem jb:Yq (jw W) 38:=K0 (zhd JO Tryz.func38)
theorem YW:QW (jw W) 107:=YL (zhd QA Tryz.func107)
theorem YA:QN (jw W) 39:=Yt (zhd Qx Tryz.func39) YW
theorem aaG:WS (jw W) 108:=vf (zhd Xq Tryz.func108)
theorem vv:Wk (jw W) 110:=wz (zhd Y1 Tryz.func110)
theorem abr:VI (jw W) 40:=aah (zhd X4 Tryz.func40) aaG (wF W wk.ok) vv
theorem WY:JQ (jw W) 41:=qR (zhd JZ Tryz.func41)
theorem yx:YR (jw W) 16:=jC (zhd J7 Tryz.func16) y7 y8 Vu jb YA abr WY
theorem abs:VJ (jw W) 49:=aai (zhd X5 Tryz.func49) xW QV
theorem aaH:WT (jw W) 50:=vh (zhd Xs Tryz.func50)
theorem wH:Yz (jw W) 53:=xE (zhd YI Tryz.func53)
theorem aaI:WU (jw W) 52:=vi (zhd Xt Tryz.func52) wH
theorem Kn:J3 (jw W) 121:=UK (zhd Jp Tryz.func121)
theorem V3:JA (jw W) 54:=VP (zhd Jd Tryz.func54) Kn
theorem ace:V9 (jw W) 19:=aa9 (zhd WB Tryz.func19) xQ abs aaH y6 aaI Wb V3 xT
theorem agq:ju (jw W) 7:=ad9 (zhd Kl Tryz.func7) yx ace
theorem ajh:wd (jw W) 8:=ahx (zhd yo Tryz.func8)
theorem alk:vz (jw W) 34:=aiW (zhd wo Tryz.func34)
theorem Jo:QX (jw W) 10:=aaf (zhd X2 Tryz.func10) alk
theorem Vt:Yr (jw W) 68:=ab3 (zhd Vh Tryz.func68) Jo
theorem ajg:wc (jw W) 71:=ahw (zhd ym Tryz.func71) Vt
theorem alm:vA (jw W) 70:=aiX (zhd wq Tryz.func70) Vt ajg
theorem UM:YQ (jw W) 15:=aa4 (zhd Ww Tryz.func15) Jo
theorem abI:Kp (jw W) 205:=afI (zhd qq Tryz.func205)
theorem abH:Ko (jw W) 73:=afH (zhd qp Tryz.func73)
theorem adB:US (jw W) 237:=ab2 (zhd Vg Tryz.func237)
theorem agn:jr (jw W) 238:=ad5 (zhd Ki Tryz.func238)
theorem aei:KJ (jw W) 239:=ac1 (zhd Uj Tryz.func239)
theorem y5:Wd (jw W) 204:=aa2 (zhd Wu Tryz.func204) adB agn aei
theorem aaE:Ux (jw W) 169:=ad6 (zhd Kj Tryz.func169) y5
theorem abJ:Kq (jw W) 125:=afJ (zhd qr Tryz.func125)
theorem xR:VE (jw W) 61:=afK (zhd qt Tryz.func61) abJ
theorem jI:Xy (jw W) 123:=aaa (zhd XX Tryz.func123) aaE xR
theorem yw:Wq (jw W) 124:=ad2 (zhd Kf Tryz.func124) abH jI aaE xR
theorem ah4:yM (jw W) 268:=afN (zhd qw Tryz.func268)
theorem adC:qK (jw W) 270:=ahv (zhd yl Tryz.func270)
theorem abU:Has Tryz.prog 288 30 (qV 288) Zy:=zha Tryz.func288
theorem ael:KN (jw W) 288:=ac6 abU
theorem abK:Kr (jw W) 269:=afO (zhd qy Tryz.func269) ael
theorem aja:x6 (jw W) 271:=ahp (zhd yf Tryz.func271) adC abK
theorem ah5:yN (jw W) 272:=afP (zhd qz Tryz.func272)
theorem ah0:yI (jw W) 241:=afE (zhd qm Tryz.func241) ah4 adC aja ah5 abK
theorem aje:wa (jw W) 286:=aht (zhd yj Tryz.func286)
theorem abT:Has Tryz.prog 265 53 (qU 286 265) Zw:=zha Tryz.func265
theorem aek:KM (jw W) 265:=ac5 abT aje
theorem acW:Has Tryz.prog 266 22 (yk 266) Zv:=zha Tryz.func266
theorem agp:jt (jw W) 266:=ad8 acW
theorem aej:KL (jw W) 287:=ac4 (zhd Un Tryz.func287)
theorem afr:Has Tryz.prog 267 34 (vr 267 287) Zx:=zha Tryz.func267
theorem ajf:wb (jw W) 267:=ahu afr aej
theorem aem:KO (jw W) 240:=ac7 (zhd Uo Tryz.func240) aek agp ajf
theorem agl:jp (jw W) 206:=ad3 (zhd Kg Tryz.func206) yw ah0 aem
theorem ajb:x7 (jw W) 207:=ahq (zhd yg Tryz.func207)
theorem ah1:yJ (jw W) 171:=afF (zhd qn Tryz.func171) abI yw agl ajb
theorem aaF:WR (jw W) 128:=vb (zhd Xo Tryz.func128) Jo Vt UM ah1
theorem ah9:yR (jw W) 72:=afT (zhd qD Tryz.func72) Vt Jo aaF
theorem ah8:yQ (jw W) 33:=afS (zhd qC Tryz.func33) alm UM ah9
theorem ah6:yO (jw W) 9:=afQ (zhd qA Tryz.func9) Jo ah8
theorem V4:Yy (jw W) 12:=aae (zhd X1 Tryz.func12) Jo
theorem aia:yS (jw W) 11:=afU (zhd qE Tryz.func11) V4
theorem aen:KP (jw W) 14:=ac8 (zhd Up Tryz.func14) V4 Jo
theorem UF:JE (jw W) 64:=VT (zhd Jl Tryz.func64)
theorem yz:YT (jw W) 63:=jE (zhd J9 Tryz.func63) UF
theorem JG:QF (jw W) 62:=Xg (zhd QK Tryz.func62)
theorem yy:YS (jw W) 65:=jD (zhd J8 Tryz.func65)
theorem Y6:QZ (jw W) 66:=YV (zhd QB Tryz.func66) JG
theorem xU:Xi (jw W) 22:=xe (zhd Yw Tryz.func22) y7 yz JG y8 Vu yy Y6 WY
theorem ahY:yG (jw W) 57:=afC (zhd qk Tryz.func57)
theorem agj:jn (jw W) 60:=ad0 (zhd Kd Tryz.func60) jI yw
theorem agk:jo (jw W) 25:=ad1 (zhd Ke Tryz.func25) abH agj
theorem age:ji (jw W) 42:=adU (zhd U7 Tryz.func42) ahY agk
theorem ahS:yA (jw W) 126:=afw (zhd qf Tryz.func126)
theorem agb:jd (jw W) 111:=adR (zhd U4 Tryz.func111)
theorem agc:je (jw W) 43:=adS (zhd U5 Tryz.func43) agb
theorem aaC:Uv (jw W) 155:=adW (zhd U9 Tryz.func155)
theorem ajc:x8 (jw W) 167:=ahr (zhd yh Tryz.func167)
theorem agm:jq (jw W) 168:=ad4 (zhd Kh Tryz.func168)
theorem qW:XK (jw W) 122:=ac2 (zhd Uk Tryz.func122) ajc agm
theorem ago:js (jw W) 58:=ad7 (zhd Kk Tryz.func58) qW
theorem y4:Wc (jw W) 170:=aa1 (zhd Wt Tryz.func170) ago y5
theorem ahW:yE (jw W) 127:=afA (zhd qj Tryz.func127) y4
theorem xS:VF (jw W) 197:=afL (zhd qu Tryz.func197) abJ
theorem ah3:yL (jw W) 263:=afM (zhd qv Tryz.func263) qW
theorem agi:jm (jw W) 233:=adY (zhd Kb Tryz.func233) xS ah3
theorem agh:jk (jw W) 234:=adX (zhd Ka Tryz.func234) y4 xS
theorem ai9:xZ (jw W) 193:=aho (zhd yd Tryz.func193) aaC agi qW agh
theorem ajd:x9 (jw W) 59:=ahs (zhd yi Tryz.func59)
theorem adz:UQ (jw W) 194:=ab0 (zhd Ve Tryz.func194) ajd
theorem adA:UR (jw W) 156:=ab1 (zhd Vf Tryz.func156) ahW ai9 adz
theorem aaD:Uw (jw W) 112:=adZ (zhd Kc Tryz.func112) aaC adA
theorem abo:VB (jw W) 264:=aac (zhd XZ Tryz.func264) abI
theorem aeh:KI (jw W) 235:=ac0 (zhd Ui Tryz.func235) abo
theorem ahZ:yH (jw W) 195:=afD (zhd ql Tryz.func195) aeh
theorem ahU:yC (jw W) 157:=afy (zhd qh Tryz.func157) ahZ
theorem wP:VD (jw W) 160:=ac3 (zhd Um Tryz.func160)
theorem adx:qJ (jw W) 196:=ahn (zhd yc Tryz.func196)
theorem ady:UP (jw W) 158:=abZ (zhd Vd Tryz.func158) wP adx
theorem aeg:KH (jw W) 159:=acZ (zhd Uh Tryz.func159) xS xR adx
theorem agf:jj (jw W) 113:=adV (zhd U8 Tryz.func113) ahU ady aeg wP aaD
theorem ahT:yB (jw W) 45:=afx (zhd qg Tryz.func45) aaD agf
theorem agd:jh (jw W) 67:=adT (zhd U6 Tryz.func67) ahS agc ahT
theorem aaB:WQ (jw W) 23:=w9 (zhd Xn Tryz.func23) age agd
theorem acb:V7 (jw W) 46:=aa3 (zhd Wv Tryz.func46)
theorem abp:VC (jw W) 198:=aad (zhd X0 Tryz.func198)
theorem ah2:yK (jw W) 161:=afG (zhd qo Tryz.func161) abp
theorem abn:VA (jw W) 114:=aab (zhd XY Tryz.func114) ah2
theorem xh:Y8 (jw W) 47:=j5 (zhd Yi Tryz.func47) abn
theorem ahV:yD (jw W) 18:=afz (zhd qi Tryz.func18) acb xh
theorem xi:VG (jw W) 4:=j6 (zhd Yj Tryz.func4) ah7 ahX agq ajh ah6 Jo V4 UM aia aen xU aaB ahV
end Go.Proofs.YtphclkkggijicaaGreatDoor
end

/- The functions of the program that the law reaches: their contracts at this seat. -/
import Derived.Test.YtdffoanhbkecgaaGreatDoorK17
import Derived.Test.YtdffoanhbkecgaaGreatDoorK22
import Derived.KernelRfl
set_option linter.unusedVariables false
set_option linter.unusedSimpArgs false
section
namespace Go.Proofs.YtdffoanhbkecgaaGreatDoor
open Go Av Go.RowKit
set_option maxRecDepth 100000
set_option linter.unusedVariables false
theorem aea:Has Tryz.prog 4 6 vB r_make_Light:=⟨Tryz.f4,_,Tryz.func4,by decide,rfl,rfl,by kernel_rfl,by kernel_rfl⟩
theorem agA (W:World) (hW:WOK W):wM (Yf Tryz.prog W) 4:=afs (Γ:=Yf Tryz.prog W) aea
theorem aay:Has Tryz.prog 54 33 (qF 75) r_settings_Letter:=⟨Tryz.f54,_,Tryz.func54,by decide,rfl,rfl,by kernel_rfl,by kernel_rfl⟩
theorem aci (W:World) (hW:WOK W):qf (Yf Tryz.prog W) 54:=abi (Γ:=Yf Tryz.prog W) aay (ym W hW)
theorem abQ:Has Tryz.prog 22 24 (yd 54) r_settings_Word:=⟨Tryz.f22,_,Tryz.func22,by decide,rfl,rfl,by kernel_rfl,by kernel_rfl⟩
theorem vG (W:World) (hW:WOK W):Kf (Yf Tryz.prog W) 22:=acJ (Γ:=Yf Tryz.prog W) abQ (aci W hW)
theorem aa5:Has Tryz.prog 32 45 (c_keystore_Check 61 25) r_keystore_Check:=⟨Tryz.f32,_,Tryz.func32,by decide,rfl,rfl,by kernel_rfl,by kernel_rfl⟩
theorem acT (W:World) (hW:WOK W):qS (Yf Tryz.prog W) 32:=ab2 (Γ:=Yf Tryz.prog W) aa5
theorem aa6:Has Tryz.prog 13 13 (jw 22 32) r_endpoint_early:=⟨Tryz.f13,_,Tryz.func13,by decide,rfl,rfl,by kernel_rfl,by kernel_rfl⟩
theorem acU (W:World) (hW:WOK W):qT (Yf Tryz.prog W) 13:=ab3 (Γ:=Yf Tryz.prog W) aa6 (vG W hW) (acT W hW)
theorem adA:Has Tryz.prog 80 8 wB r_catalog_use:=⟨Tryz.f80,_,Tryz.func80,by decide,rfl,rfl,by kernel_rfl,by kernel_rfl⟩
theorem afE (W:World) (hW:WOK W):xD (Yf Tryz.prog W) 80:=ael (Γ:=Yf Tryz.prog W) adA
theorem aa9:Has Tryz.prog 62 125 (c_catalog_Suites 80) r_catalog_Suites:=⟨Tryz.f62,_,Tryz.func62,by decide,rfl,rfl,by kernel_rfl,by kernel_rfl⟩
theorem jB (W:World) (hW:WOK W):Vz (Yf Tryz.prog W) 62:=ab6 (Γ:=Yf Tryz.prog W) aa9 (afE W hW)
theorem acC:Has Tryz.prog 93 46 xi r_catalog_rows:=⟨Tryz.f93,_,Tryz.func93,by decide,rfl,rfl,by kernel_rfl,by kernel_rfl⟩
theorem aao (W:World) (hW:WOK W):qj (Yf Tryz.prog W) 93:=adG (Γ:=Yf Tryz.prog W) acC
theorem aeb:Has Tryz.prog 78 14 (vC 93) r_catalog_of:=⟨Tryz.f78,_,Tryz.func78,by decide,rfl,rfl,by kernel_rfl,by kernel_rfl⟩
theorem agB (W:World) (hW:WOK W):wN (Yf Tryz.prog W) 78:=aft (Γ:=Yf Tryz.prog W) aeb (aao W hW)
theorem aaD:Has Tryz.prog 101 21 qJ r_catalog_modulus:=⟨Tryz.f101,_,Tryz.func101,by decide,rfl,rfl,by kernel_rfl,by kernel_rfl⟩
theorem acn (W:World) (hW:WOK W):qk (Yf Tryz.prog W) 101:=abn (Γ:=Yf Tryz.prog W) aaD
theorem yr:Has Tryz.prog 76 19 Vu r_slices_Index___int_int:=⟨Tryz.f76,_,Tryz.func76,by decide,rfl,rfl,by kernel_rfl,by kernel_rfl⟩
theorem KB (W:World) (hW:WOK W):XH (Yf Tryz.prog W) 76:=xc (Γ:=Yf Tryz.prog W) yr
theorem jp:Has Tryz.prog 56 9 (Wy 76) r_slices_Contains___int_int:=⟨Tryz.f56,_,Tryz.func56,by decide,rfl,rfl,by kernel_rfl,by kernel_rfl⟩
theorem YE (W:World) (hW:WOK W):JY (Yf Tryz.prog W) 56:=jR (Γ:=Yf Tryz.prog W) jp (KB W hW)
theorem aab:Has Tryz.prog 77 61 (K4 78 101 56 76) r_catalog_Strength:=⟨Tryz.f77,_,Tryz.func77,by decide,rfl,rfl,by kernel_rfl,by kernel_rfl⟩
theorem yX (W:World) (hW:WOK W):VX (Yf Tryz.prog W) 77:=aaK (Γ:=Yf Tryz.prog W) aab (agB W hW) (acn W hW) (YE W hW) (KB W hW)
theorem aaw:Has Tryz.prog 82 49 (qD 77) r_suitespec_group:=⟨Tryz.f82,_,Tryz.func82,by decide,rfl,rfl,by kernel_rfl,by kernel_rfl⟩
theorem acg (W:World) (hW:WOK W):qd (Yf Tryz.prog W) 82:=abg (Γ:=Yf Tryz.prog W) aaw (yX W hW)
theorem acD:Has Tryz.prog 69 20 (xj 93) r_catalog_Find:=⟨Tryz.f69,_,Tryz.func69,by decide,rfl,rfl,by kernel_rfl,by kernel_rfl⟩
theorem aer (W:World) (hW:WOK W):yo (Yf Tryz.prog W) 69:=adH (Γ:=Yf Tryz.prog W) acD (aao W hW)
theorem aba:Has Tryz.prog 108 8 jy r_catalog_Code_1:=⟨Tryz.f108,_,Tryz.func108,by decide,rfl,rfl,by kernel_rfl,by kernel_rfl⟩
theorem acX (W:World) (hW:WOK W):qW (Yf Tryz.prog W) 108:=ab7 (Γ:=Yf Tryz.prog W) aba
theorem VZ:Has Tryz.prog 107 19 YB r_slices_IndexFunc___api_Suite_api_Suite:=⟨Tryz.f107,_,Tryz.func107,by decide,rfl,rfl,by kernel_rfl,by kernel_rfl⟩
theorem Ur (W:World) (hW:WOK W):Yu (Yf Tryz.prog W) 107:=V8 (Γ:=Yf Tryz.prog W) VZ
theorem acE:Has Tryz.prog 83 7 (xk 62 108 107) r_catalog_Code:=⟨Tryz.f83,_,Tryz.func83,by decide,rfl,rfl,by kernel_rfl,by kernel_rfl⟩
theorem aes (W:World) (hW:WOK W):yp (Yf Tryz.prog W) 83:=adI (Γ:=Yf Tryz.prog W) acE (jB W hW) (acX W hW) (Ur W hW)
theorem aav:Has Tryz.prog 64 59 (qC 82 69 83 56) r_suitespec_named:=⟨Tryz.f64,_,Tryz.func64,by decide,rfl,rfl,by kernel_rfl,by kernel_rfl⟩
theorem acf (W:World) (hW:WOK W):qc (Yf Tryz.prog W) 64:=abf (Γ:=Yf Tryz.prog W) aav (acg W hW) (aer W hW) (aes W hW) (YE W hW)
theorem abP:Has Tryz.prog 33 46 (yc 62 63 64) r_suitespec_Set:=⟨Tryz.f33,_,Tryz.func33,by decide,rfl,rfl,by kernel_rfl,by kernel_rfl⟩
theorem vE (W:World) (hW:WOK W):Ke (Yf Tryz.prog W) 33:=acI (Γ:=Yf Tryz.prog W) abP (jB W hW) (vF W hW) (acf W hW)
theorem aa7:Has Tryz.prog 14 17 (jx 33) r_endpoint_begin:=⟨Tryz.f14,_,Tryz.func14,by decide,rfl,rfl,by kernel_rfl,by kernel_rfl⟩
theorem acV (W:World) (hW:WOK W):qU (Yf Tryz.prog W) 14:=ab4 (Γ:=Yf Tryz.prog W) aa7 (vE W hW)
theorem vZ:Has Tryz.prog 65 24 (KY 84 85) r_settings_Decimal:=⟨Tryz.f65,_,Tryz.func65,by decide,rfl,rfl,by kernel_rfl,by kernel_rfl⟩
theorem abw (W:World) (hW:WOK W):Kv (Yf Tryz.prog W) 65:=aaF (Γ:=Yf Tryz.prog W) vZ (aep W hW) (aeo W hW)
theorem v6:Has Tryz.prog 35 29 (KZ 65) r_endpoint_version:=⟨Tryz.f35,_,Tryz.func35,by decide,rfl,rfl,by kernel_rfl,by kernel_rfl⟩
theorem yW (W:World) (hW:WOK W):VW (Yf Tryz.prog W) 35:=aaG (Γ:=Yf Tryz.prog W) v6 (abw W hW)
theorem j3:Has Tryz.prog 34 10 (W9 35) r_endpoint_draft__words_1:=⟨Tryz.f34,_,Tryz.func34,by decide,rfl,rfl,by kernel_rfl,by kernel_rfl⟩
theorem xu (W:World) (hW:WOK W):Xt (Yf Tryz.prog W) 34:=yz (Γ:=Yf Tryz.prog W) j3 (yW W hW)
theorem j2:Has Tryz.prog 36 10 (W8 35) r_endpoint_draft__words_2:=⟨Tryz.f36,_,Tryz.func36,by decide,rfl,rfl,by kernel_rfl,by kernel_rfl⟩
theorem xr (W:World) (hW:WOK W):Xs (Yf Tryz.prog W) 36:=yy (Γ:=Yf Tryz.prog W) j2 (yW W hW)
theorem yu:Has Tryz.prog 141 8 Vv r_slices_Clone___int_int:=⟨Tryz.f141,_,Tryz.func141,by decide,rfl,rfl,by kernel_rfl,by kernel_rfl⟩
theorem xN (W:World) (hW:WOK W):Vf (Yf Tryz.prog W) 141:=xd (Γ:=Yf Tryz.prog W) yu
theorem Ko:Has Tryz.prog 172 53 c_slices_insertionSortCmpFunc_int r_slices_insertionSortCmpFunc_int:=⟨Tryz.f172,_,Tryz.func172,by decide,rfl,rfl,by kernel_rfl,by kernel_rfl⟩
theorem K9 (W:World) (hW:WOK W):Y6 (Yf Tryz.prog W) 172:=KC (Γ:=Yf Tryz.prog W) Ko
theorem qv:Has Tryz.prog 177 38 c_slices_swapRangeCmpFunc_int r_slices_swapRangeCmpFunc_int:=⟨Tryz.f177,_,Tryz.func177,by decide,rfl,rfl,by kernel_rfl,by kernel_rfl⟩
theorem jA (W:World) (hW:WOK W):X2 (Yf Tryz.prog W) 177:=jh (Γ:=Yf Tryz.prog W) qv
theorem jM:Has Tryz.prog 176 58 (WJ 177) r_slices_rotateCmpFunc_int:=⟨Tryz.f176,_,Tryz.func176,by decide,rfl,rfl,by kernel_rfl,by kernel_rfl⟩
theorem yC (W:World) (hW:WOK W):WB (Yf Tryz.prog W) 176:=j7 (Γ:=Yf Tryz.prog W) jM (jA W hW)
theorem je:Has Tryz.prog 173 220 (c_slices_symMergeCmpFunc_int 176 173) r_slices_symMergeCmpFunc_int:=⟨Tryz.f173,_,Tryz.func173,by decide,rfl,rfl,by kernel_rfl,by kernel_rfl⟩
theorem jT (W:World) (hW:WOK W):Wd (Yf Tryz.prog W) 173:=jq (Γ:=Yf Tryz.prog W) je (yC W hW)
theorem jL:Has Tryz.prog 163 63 (WI 172 173) r_slices_stableCmpFunc_int:=⟨Tryz.f163,_,Tryz.func163,by decide,rfl,rfl,by kernel_rfl,by kernel_rfl⟩
theorem yB (W:World) (hW:WOK W):WA (Yf Tryz.prog W) 163:=j6 (Γ:=Yf Tryz.prog W) jL (K9 W hW) (jT W hW)
theorem Kp:Has Tryz.prog 142 9 (Xg 163) r_slices_SortStableFunc___int_int:=⟨Tryz.f142,_,Tryz.func142,by decide,rfl,rfl,by kernel_rfl,by kernel_rfl⟩
theorem qa (W:World) (hW:WOK W):Y7 (Yf Tryz.prog W) 142:=KD (Γ:=Yf Tryz.prog W) Kp (yB W hW)
theorem abU:Has Tryz.prog 55 20 (yg 62) r_catalog_Suite:=⟨Tryz.f55,_,Tryz.func55,by decide,rfl,rfl,by kernel_rfl,by kernel_rfl⟩
theorem vH (W:World) (hW:WOK W):Kg (Yf Tryz.prog W) 55:=acN (Γ:=Yf Tryz.prog W) abU (jB W hW)
theorem w8:Has Tryz.prog 144 15 (US 55 77) r_suitespec_Strength:=⟨Tryz.f144,_,Tryz.func144,by decide,rfl,rfl,by kernel_rfl,by kernel_rfl⟩
theorem aae (W:World) (hW:WOK W):Uv (Yf Tryz.prog W) 144:=vq (Γ:=Yf Tryz.prog W) w8 (vH W hW) (yX W hW)
theorem vY:Has Tryz.prog 143 10 (KX 144) r_suitespec_Sort_1:=⟨Tryz.f143,_,Tryz.func143,by decide,rfl,rfl,by kernel_rfl,by kernel_rfl⟩
theorem abv (W:World) (hW:WOK W):Ku (Yf Tryz.prog W) 143:=aaE (Γ:=Yf Tryz.prog W) vY (aae W hW)
theorem aa1:Has Tryz.prog 114 9 (js 141 142 143) r_suitespec_Sort:=⟨Tryz.f114,_,Tryz.func114,by decide,rfl,rfl,by kernel_rfl,by kernel_rfl⟩
theorem acQ (W:World) (hW:WOK W):qP (Yf Tryz.prog W) 114:=abY (Γ:=Yf Tryz.prog W) aa1 (xN W hW) (qa W hW) (abv W hW)
theorem y6:Has Tryz.prog 115 7 (VS 56) r_suitespec_row__word_1:=⟨Tryz.f115,_,Tryz.func115,by decide,rfl,rfl,by kernel_rfl,by kernel_rfl⟩
theorem wG (W:World) (hW:WOK W):Vx (Yf Tryz.prog W) 115:=xK (Γ:=Yf Tryz.prog W) y6 (YE W hW)
theorem wc:Has Tryz.prog 87 129 (c_suitespec_row__word 114 75 33 115 56) r_suitespec_row__word:=⟨Tryz.f87,_,Tryz.func87,by decide,rfl,rfl,by kernel_rfl,by kernel_rfl⟩
theorem vD (W:World) (hW:WOK W):Ua (Yf Tryz.prog W) 87:=vb (Γ:=Yf Tryz.prog W) wc (acQ W hW) (ym W hW) (vE W hW) (wG W hW) (YE W hW)
theorem aax:Has Tryz.prog 66 39 (qE 86 63 87) r_suitespec_Parse:=⟨Tryz.f66,_,Tryz.func66,by decide,rfl,rfl,by kernel_rfl,by kernel_rfl⟩
theorem ach (W:World) (hW:WOK W):qe (Yf Tryz.prog W) 66:=abh (Γ:=Yf Tryz.prog W) aax (adW W hW) (vF W hW) (vD W hW)
theorem xF:Has Tryz.prog 37 26 (V9 66) r_endpoint_draft__list:=⟨Tryz.f37,_,Tryz.func37,by decide,rfl,rfl,by kernel_rfl,by kernel_rfl⟩
theorem vc (W:World) (hW:WOK W):Wm (Yf Tryz.prog W) 37:=wk (Γ:=Yf Tryz.prog W) xF (ach W hW)
theorem aaC:Has Tryz.prog 39 38 qI r_endpoint_choice:=⟨Tryz.f39,_,Tryz.func39,by decide,rfl,rfl,by kernel_rfl,by kernel_rfl⟩
theorem xP (W:World) (hW:WOK W):Up (Yf Tryz.prog W) 39:=abm (Γ:=Yf Tryz.prog W) aaC
theorem j1:Has Tryz.prog 38 10 (W7 39) r_endpoint_draft__words_3:=⟨Tryz.f38,_,Tryz.func38,by decide,rfl,rfl,by kernel_rfl,by kernel_rfl⟩
theorem xq (W:World) (hW:WOK W):Xr (Yf Tryz.prog W) 38:=yx (Γ:=Yf Tryz.prog W) j1 (xP W hW)
theorem j0:Has Tryz.prog 46 10 (W6 39) r_endpoint_draft__words_6:=⟨Tryz.f46,_,Tryz.func46,by decide,rfl,rfl,by kernel_rfl,by kernel_rfl⟩
theorem xp (W:World) (hW:WOK W):Xq (Yf Tryz.prog W) 46:=yw (Γ:=Yf Tryz.prog W) j0 (xP W hW)
theorem y7:Has Tryz.prog 15 15 (VT 34 36 37 38 40 41 44 46) r_endpoint_draft__words:=⟨Tryz.f15,_,Tryz.func15,by decide,rfl,rfl,by kernel_rfl,by kernel_rfl⟩
theorem wH (W:World) (hW:WOK W):Vy (Yf Tryz.prog W) 15:=xL (Γ:=Yf Tryz.prog W) y7 (xu W hW) (xr W hW) (vc W hW) (xq W hW) (xp W hW)
theorem j4:Has Tryz.prog 16 9 Va r_endpoint_FromSettings_1:=⟨Tryz.f16,_,Tryz.func16,by decide,rfl,rfl,by kernel_rfl,by kernel_rfl⟩
theorem xv (W:World) (hW:WOK W):WL (Yf Tryz.prog W) 16:=yA (Γ:=Yf Tryz.prog W) j4
theorem Vi:Has Tryz.prog 47 19 Yn r_slices_IndexFunc___api_Setting_api_Setting:=⟨Tryz.f47,_,Tryz.func47,by decide,rfl,rfl,by kernel_rfl,by kernel_rfl⟩
theorem VA (W:World) (hW:WOK W):Yk (Yf Tryz.prog W) 47:=Vt (Γ:=Yf Tryz.prog W) Vi
theorem WH:Has Tryz.prog 17 9 (Yg 47) r_slices_ContainsFunc___api_Setting_api_Setting:=⟨Tryz.f17,_,Tryz.func17,by decide,rfl,rfl,by kernel_rfl,by kernel_rfl⟩
theorem Ve (W:World) (hW:WOK W):Ye (Yf Tryz.prog W) 17:=WW (Γ:=Yf Tryz.prog W) WH (VA W hW)
theorem v7:Has Tryz.prog 48 13 K0 r_endpoint_several:=⟨Tryz.f48,_,Tryz.func48,by decide,rfl,rfl,by kernel_rfl,by kernel_rfl⟩
theorem aby (W:World) (hW:WOK W):Kw (Yf Tryz.prog W) 48:=aaH (Γ:=Yf Tryz.prog W) v7
theorem aaA:Has Tryz.prog 18 13 (qG 48 49 50) r_endpoint_values:=⟨Tryz.f18,_,Tryz.func18,by decide,rfl,rfl,by kernel_rfl,by kernel_rfl⟩
theorem ack (W:World) (hW:WOK W):qh (Yf Tryz.prog W) 18:=abk (Γ:=Yf Tryz.prog W) aaA (aby W hW)
theorem yv:Has Tryz.prog 19 21 c_endpoint_draft__finish r_endpoint_draft__finish:=⟨Tryz.f19,_,Tryz.func19,by decide,rfl,rfl,by kernel_rfl,by kernel_rfl⟩
theorem xO (W:World) (hW:WOK W):Vg (Yf Tryz.prog W) 19:=xe (Γ:=Yf Tryz.prog W) yv
theorem y8:Has Tryz.prog 8 100 (c_endpoint_FromSettings 13 14 15 16 17 18 19) r_endpoint_FromSettings:=⟨Tryz.f8,_,Tryz.func8,by decide,rfl,rfl,by kernel_rfl,by kernel_rfl⟩
theorem qb (W:World) (hW:WOK W):X8 (Yf Tryz.prog W) 8:=xM (Γ:=Yf Tryz.prog W) y8 (acU W hW) (acV W hW) (wH W hW) (xv W hW) (Ve W hW) (ack W hW) (xO W hW)
theorem aaB:Has Tryz.prog 23 29 (qH 55 56) r_endpoint_suites:=⟨Tryz.f23,_,Tryz.func23,by decide,rfl,rfl,by kernel_rfl,by kernel_rfl⟩
theorem acm (W:World) (hW:WOK W):qi (Yf Tryz.prog W) 23:=abl (Γ:=Yf Tryz.prog W) aaB (vH W hW) (YE W hW)
theorem v8:Has Tryz.prog 24 24 c_endpoint_ascends r_endpoint_ascends:=⟨Tryz.f24,_,Tryz.func24,by decide,rfl,rfl,by kernel_rfl,by kernel_rfl⟩
theorem abz (W:World) (hW:WOK W):Kx (Yf Tryz.prog W) 24:=aaI (Γ:=Yf Tryz.prog W) v8
theorem aaa:Has Tryz.prog 26 4 (K1 27) r_endpoint_Check_1:=⟨Tryz.f26,_,Tryz.func26,by decide,rfl,rfl,by kernel_rfl,by kernel_rfl⟩
theorem abA (W:World) (hW:WOK W):Ky (Yf Tryz.prog W) 26:=aaJ (Γ:=Yf Tryz.prog W) aaa
theorem jf:Has Tryz.prog 60 19 Wk r_slices_IndexFunc___int_int:=⟨Tryz.f60,_,Tryz.func60,by decide,rfl,rfl,by kernel_rfl,by kernel_rfl⟩
theorem jU (W:World) (hW:WOK W):We (Yf Tryz.prog W) 60:=jr (Γ:=Yf Tryz.prog W) jf
theorem KO:Has Tryz.prog 28 9 (Xy 60) r_slices_ContainsFunc___int_int:=⟨Tryz.f28,_,Tryz.func28,by decide,rfl,rfl,by kernel_rfl,by kernel_rfl⟩
theorem qO (W:World) (hW:WOK W):Xk (Yf Tryz.prog W) 28:=ql (Γ:=Yf Tryz.prog W) KO (jU W hW)
theorem aa8:Has Tryz.prog 11 83 (c_endpoint_Check 22 23 24 25 26 29 28 30) r_endpoint_Check:=⟨Tryz.f11,_,Tryz.func11,by decide,rfl,rfl,by kernel_rfl,by kernel_rfl⟩
theorem acW (W:World) (hW:WOK W):qV (Yf Tryz.prog W) 11:=ab5 (Γ:=Yf Tryz.prog W) aa8 (vG W hW) (acm W hW) (abz W hW) (abA W hW) (qO W hW)
theorem adz:Has Tryz.prog 5 44 (wA 8 11) r_law09_awake:=⟨Tryz.f5,_,Tryz.func5,by decide,rfl,rfl,by kernel_rfl,by kernel_rfl⟩
theorem afD (W:World) (hW:WOK W):xC (Yf Tryz.prog W) 5:=aek (Γ:=Yf Tryz.prog W) adz (qb W hW) (acW W hW)
theorem afj:Has Tryz.prog 6 6 aaQ r_make_Roll:=⟨Tryz.f6,_,Tryz.func6,by decide,rfl,rfl,by kernel_rfl,by kernel_rfl⟩
theorem ahi (W:World) (hW:WOK W):vN (Yf Tryz.prog W) 6:=agk (Γ:=Yf Tryz.prog W) afj
theorem af8:Has Tryz.prog 31 14 acb r_make_Mod:=⟨Tryz.f31,_,Tryz.func31,by decide,rfl,rfl,by kernel_rfl,by kernel_rfl⟩
theorem aiK (W:World) (hW:WOK W):aaR (Yf Tryz.prog W) 31:=ag3 (Γ:=Yf Tryz.prog W) af8
theorem aaz:Has Tryz.prog 12 35 (c_make_Dice__Next 31) r_make_Dice__Next:=⟨Tryz.f12,_,Tryz.func12,by decide,rfl,rfl,by kernel_rfl,by kernel_rfl⟩
theorem acj (W:World) (hW:WOK W):qg (Yf Tryz.prog W) 12:=abj (Γ:=Yf Tryz.prog W) aaz (aiK W hW)
theorem aa4:Has Tryz.prog 7 11 (jv 12) r_make_Dice__One:=⟨Tryz.f7,_,Tryz.func7,by decide,rfl,rfl,by kernel_rfl,by kernel_rfl⟩
theorem acS (W:World) (hW:WOK W):qR (Yf Tryz.prog W) 7:=ab1 (Γ:=Yf Tryz.prog W) aa4 (acj W hW)
theorem ads:Has Tryz.prog 20 35 wq r_ref08_split:=⟨Tryz.f20,_,Tryz.func20,by decide,rfl,rfl,by kernel_rfl,by kernel_rfl⟩
theorem abx (W:World) (hW:WOK W):jb (Yf Tryz.prog W) 20:=aed (Γ:=Yf Tryz.prog W) ads
theorem afh:Has Tryz.prog 98 8 aaO r_ref02_use:=⟨Tryz.f98,_,Tryz.func98,by decide,rfl,rfl,by kernel_rfl,by kernel_rfl⟩
theorem ahg (W:World) (hW:WOK W):vL (Yf Tryz.prog W) 98:=agi (Γ:=Yf Tryz.prog W) afh
theorem adw:Has Tryz.prog 99 26 ww r_ref02_suite:=⟨Tryz.f99,_,Tryz.func99,by decide,rfl,rfl,by kernel_rfl,by kernel_rfl⟩
theorem afA (W:World) (hW:WOK W):xz (Yf Tryz.prog W) 99:=aeh (Γ:=Yf Tryz.prog W) adw
theorem acB:Has Tryz.prog 72 110 (c_ref02_Suites 98 99) r_ref02_Suites:=⟨Tryz.f72,_,Tryz.func72,by decide,rfl,rfl,by kernel_rfl,by kernel_rfl⟩
theorem xn (W:World) (hW:WOK W):Uw (Yf Tryz.prog W) 72:=adF (Γ:=Yf Tryz.prog W) acB (ahg W hW) (afA W hW)
theorem ady:Has Tryz.prog 94 16 (wz 72) r_ref02_Suite:=⟨Tryz.f94,_,Tryz.func94,by decide,rfl,rfl,by kernel_rfl,by kernel_rfl⟩
theorem afC (W:World) (hW:WOK W):xB (Yf Tryz.prog W) 94:=aej (Γ:=Yf Tryz.prog W) ady (xn W hW)
theorem abT:Has Tryz.prog 128 25 yf r_ref02_modulus:=⟨Tryz.f128,_,Tryz.func128,by decide,rfl,rfl,by kernel_rfl,by kernel_rfl⟩
theorem adZ (W:World) (hW:WOK W):jF (Yf Tryz.prog W) 128:=acM (Γ:=Yf Tryz.prog W) abT
theorem adx:Has Tryz.prog 129 24 wx r_ref02_among:=⟨Tryz.f129,_,Tryz.func129,by decide,rfl,rfl,by kernel_rfl,by kernel_rfl⟩
theorem afB (W:World) (hW:WOK W):xA (Yf Tryz.prog W) 129:=aei (Γ:=Yf Tryz.prog W) adx
theorem acA:Has Tryz.prog 130 21 xh r_ref02_single:=⟨Tryz.f130,_,Tryz.func130,by decide,rfl,rfl,by kernel_rfl,by kernel_rfl⟩
theorem aeq (W:World) (hW:WOK W):yn (Yf Tryz.prog W) 130:=adE (Γ:=Yf Tryz.prog W) acA
theorem aa3:Has Tryz.prog 95 76 (ju 128 129 130) r_ref02_Strength:=⟨Tryz.f95,_,Tryz.func95,by decide,rfl,rfl,by kernel_rfl,by kernel_rfl⟩
theorem acR (W:World) (hW:WOK W):qQ (Yf Tryz.prog W) 95:=ab0 (Γ:=Yf Tryz.prog W) aa3 (adZ W hW) (afB W hW) (aeq W hW)
theorem aa2:Has Tryz.prog 70 15 (jt 94 95) r_ref08_Strength:=⟨Tryz.f70,_,Tryz.func70,by decide,rfl,rfl,by kernel_rfl,by kernel_rfl⟩
theorem wY (W:World) (hW:WOK W):UJ (Yf Tryz.prog W) 70:=abZ (Γ:=Yf Tryz.prog W) aa2 (afC W hW) (acR W hW)
theorem ad5:Has Tryz.prog 51 48 (c_ref08_Sort 70) r_ref08_Sort:=⟨Tryz.f51,_,Tryz.func51,by decide,rfl,rfl,by kernel_rfl,by kernel_rfl⟩
theorem agw (W:World) (hW:WOK W):wI (Yf Tryz.prog W) 51:=afn (Γ:=Yf Tryz.prog W) ad5 (wY W hW)
theorem ad7:Has Tryz.prog 131 25 vy r_ref02_rows:=⟨Tryz.f131,_,Tryz.func131,by decide,rfl,rfl,by kernel_rfl,by kernel_rfl⟩
theorem agy (W:World) (hW:WOK W):wK (Yf Tryz.prog W) 131:=afp (Γ:=Yf Tryz.prog W) ad7
theorem ad8:Has Tryz.prog 96 16 (vz 131) r_ref02_Find:=⟨Tryz.f96,_,Tryz.func96,by decide,rfl,rfl,by kernel_rfl,by kernel_rfl⟩
theorem acw (W:World) (hW:WOK W):jV (Yf Tryz.prog W) 96:=afq (Γ:=Yf Tryz.prog W) ad8 (agy W hW)
theorem ad9:Has Tryz.prog 97 24 (vA 72) r_ref02_Code:=⟨Tryz.f97,_,Tryz.func97,by decide,rfl,rfl,by kernel_rfl,by kernel_rfl⟩
theorem agz (W:World) (hW:WOK W):wL (Yf Tryz.prog W) 97:=afr (Γ:=Yf Tryz.prog W) ad9 (xn W hW)
theorem adu:Has Tryz.prog 71 21 (wu 96 97) r_ref08_known:=⟨Tryz.f71,_,Tryz.func71,by decide,rfl,rfl,by kernel_rfl,by kernel_rfl⟩
theorem afy (W:World) (hW:WOK W):xx (Yf Tryz.prog W) 71:=aef (Γ:=Yf Tryz.prog W) adu (acw W hW) (agz W hW)
theorem adt:Has Tryz.prog 73 85 (wt 70 96) r_ref08_named:=⟨Tryz.f73,_,Tryz.func73,by decide,rfl,rfl,by kernel_rfl,by kernel_rfl⟩
theorem afx (W:World) (hW:WOK W):xw (Yf Tryz.prog W) 73:=aee (Γ:=Yf Tryz.prog W) adt (wY W hW) (acw W hW)
theorem afg:Has Tryz.prog 52 60 (c_ref08_Set 20 71 72 73) r_ref08_Set:=⟨Tryz.f52,_,Tryz.func52,by decide,rfl,rfl,by kernel_rfl,by kernel_rfl⟩
theorem ahf (W:World) (hW:WOK W):vK (Yf Tryz.prog W) 52:=agh (Γ:=Yf Tryz.prog W) afg (abx W hW) (afy W hW) (xn W hW) (afx W hW)
theorem afi:Has Tryz.prog 74 18 aaP r_ref02_Has:=⟨Tryz.f74,_,Tryz.func74,by decide,rfl,rfl,by kernel_rfl,by kernel_rfl⟩
theorem ahh (W:World) (hW:WOK W):vM (Yf Tryz.prog W) 74:=agj (Γ:=Yf Tryz.prog W) afi
theorem abR:Has Tryz.prog 53 28 (ye 74) r_ref08_without:=⟨Tryz.f53,_,Tryz.func53,by decide,rfl,rfl,by kernel_rfl,by kernel_rfl⟩
theorem adX (W:World) (hW:WOK W):jD (Yf Tryz.prog W) 53:=acK (Γ:=Yf Tryz.prog W) abR (ahh W hW)
theorem abS:Has Tryz.prog 21 118 (c_ref08_row__do 51 52 53) r_ref08_row__do:=⟨Tryz.f21,_,Tryz.func21,by decide,rfl,rfl,by kernel_rfl,by kernel_rfl⟩
theorem adY (W:World) (hW:WOK W):jE (Yf Tryz.prog W) 21:=acL (Γ:=Yf Tryz.prog W) abS (agw W hW) (ahf W hW) (adX W hW)
theorem adv:Has Tryz.prog 9 39 (wv 20 21) r_ref08_Parse:=⟨Tryz.f9,_,Tryz.func9,by decide,rfl,rfl,by kernel_rfl,by kernel_rfl⟩
theorem afz (W:World) (hW:WOK W):xy (Yf Tryz.prog W) 9:=aeg (Γ:=Yf Tryz.prog W) adv (abx W hW) (adY W hW)
theorem ad6:Has Tryz.prog 10 28 vx r_ref03_Name:=⟨Tryz.f10,_,Tryz.func10,by decide,rfl,rfl,by kernel_rfl,by kernel_rfl⟩
theorem agx (W:World) (hW:WOK W):wJ (Yf Tryz.prog W) 10:=afo (Γ:=Yf Tryz.prog W) ad6
theorem w9:Has Tryz.prog 3 133 (UT 4 5 6 7 8 9 10) r_law09_EndpointLast:=⟨Tryz.f3,_,Tryz.func3,by decide,rfl,rfl,by kernel_rfl,by kernel_rfl⟩
theorem aaf (W:World) (hW:WOK W):jl (Yf Tryz.prog W) 3:=vr (Γ:=Yf Tryz.prog W) w9 (agA W hW) (afD W hW) (ahi W hW) (acS W hW) (qb W hW) (afz W hW) (agx W hW)
end Go.Proofs.YtdffoanhbkecgaaGreatDoor
end

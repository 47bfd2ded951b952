/- The functions of the program that the law reaches: their contracts at this seat. -/
import Derived.Test.YtajbkpjbnooblaaGreatDoorK15
import Derived.Test.YtajbkpjbnooblaaGreatDoorK22
import Derived.KernelRfl
set_option linter.unusedVariables false
set_option linter.unusedSimpArgs false
section
namespace Go.Proofs.YtajbkpjbnooblaaGreatDoor
open Go Av Go.RowKit
set_option maxRecDepth 100000
set_option linter.unusedVariables false
theorem aeC:Has Tryz.prog 59 33 (y9 97) r_settings_Letter:=⟨Tryz.f59,_,Tryz.func59,by decide,rfl,rfl,by kernel_rfl,by kernel_rfl⟩
theorem agP (W:World) (hW:WOK W):yo (JE Tryz.prog W) 59:=afC (Γ:=JE Tryz.prog W) aeC (aae W hW)
theorem agl:Has Tryz.prog 16 24 (vO 59) r_settings_Word:=⟨Tryz.f16,_,Tryz.func16,by decide,rfl,rfl,by kernel_rfl,by kernel_rfl⟩
theorem adG (W:World) (hW:WOK W):q9 (JE Tryz.prog W) 16:=ahq (Γ:=JE Tryz.prog W) agl (agP W hW)
theorem afp:Has Tryz.prog 72 45 (wA 46 19) r_keystore_Check:=⟨Tryz.f72,_,Tryz.func72,by decide,rfl,rfl,by kernel_rfl,by kernel_rfl⟩
theorem ahC (W:World) (hW:WOK W):xx (JE Tryz.prog W) 72:=agz (Γ:=JE Tryz.prog W) afp
theorem afr:Has Tryz.prog 37 13 (wB 16 72) r_endpoint_early:=⟨Tryz.f37,_,Tryz.func37,by decide,rfl,rfl,by kernel_rfl,by kernel_rfl⟩
theorem ahE (W:World) (hW:WOK W):xz (JE Tryz.prog W) 37:=agB (Γ:=JE Tryz.prog W) afr (adG W hW) (ahC W hW)
theorem ait:Has Tryz.prog 117 8 acC r_catalog_use:=⟨Tryz.f117,_,Tryz.func117,by decide,rfl,rfl,by kernel_rfl,by kernel_rfl⟩
theorem akI (W:World) (hW:WOK W):abE (JE Tryz.prog W) 117:=ajl (Γ:=JE Tryz.prog W) ait
theorem afv:Has Tryz.prog 98 125 (wE 117) r_catalog_Suites:=⟨Tryz.f98,_,Tryz.func98,by decide,rfl,rfl,by kernel_rfl,by kernel_rfl⟩
theorem wH (W:World) (hW:WOK W):Ug (JE Tryz.prog W) 98:=agF (Γ:=JE Tryz.prog W) afv (akI W hW)
theorem ahi:Has Tryz.prog 112 46 abl r_catalog_rows:=⟨Tryz.f112,_,Tryz.func112,by decide,rfl,rfl,by kernel_rfl,by kernel_rfl⟩
theorem aer (W:World) (hW:WOK W):yz (JE Tryz.prog W) 112:=aiy (Γ:=JE Tryz.prog W) ahi
theorem aja:Has Tryz.prog 94 14 (adC 112) r_catalog_of:=⟨Tryz.f94,_,Tryz.func94,by decide,rfl,rfl,by kernel_rfl,by kernel_rfl⟩
theorem adJ (W:World) (hW:WOK W):yA (JE Tryz.prog W) 94:=akx (Γ:=JE Tryz.prog W) aja (aer W hW)
theorem aeN:Has Tryz.prog 118 21 xk r_catalog_modulus:=⟨Tryz.f118,_,Tryz.func118,by decide,rfl,rfl,by kernel_rfl,by kernel_rfl⟩
theorem agX (W:World) (hW:WOK W):yB (JE Tryz.prog W) 118:=afN (Γ:=JE Tryz.prog W) aeN
theorem aao:Has Tryz.prog 99 19 V7 r_slices_Index___int_int:=⟨Tryz.f99,_,Tryz.func99,by decide,rfl,rfl,by kernel_rfl,by kernel_rfl⟩
theorem jA (W:World) (hW:WOK W):Wg (JE Tryz.prog W) 99:=abf (Γ:=JE Tryz.prog W) aao
theorem wu:Has Tryz.prog 61 9 (W4 99) r_slices_Contains___int_int:=⟨Tryz.f61,_,Tryz.func61,by decide,rfl,rfl,by kernel_rfl,by kernel_rfl⟩
theorem Yu (W:World) (hW:WOK W):JJ (JE Tryz.prog W) 61:=vb (Γ:=JE Tryz.prog W) wu (jA W hW)
theorem ad6:Has Tryz.prog 100 61 (yb 94 118 61 99) r_catalog_Strength:=⟨Tryz.f100,_,Tryz.func100,by decide,rfl,rfl,by kernel_rfl,by kernel_rfl⟩
theorem yj (W:World) (hW:WOK W):W6 (JE Tryz.prog W) 100:=aeX (Γ:=JE Tryz.prog W) ad6 (adJ W hW) (agX W hW) (Yu W hW) (jA W hW)
theorem aez:Has Tryz.prog 125 49 (y6 100) r_suitespec_group:=⟨Tryz.f125,_,Tryz.func125,by decide,rfl,rfl,by kernel_rfl,by kernel_rfl⟩
theorem agM (W:World) (hW:WOK W):yl (JE Tryz.prog W) 125:=afz (Γ:=JE Tryz.prog W) aez (yj W hW)
theorem ahl:Has Tryz.prog 92 20 (abo 112) r_catalog_Find:=⟨Tryz.f92,_,Tryz.func92,by decide,rfl,rfl,by kernel_rfl,by kernel_rfl⟩
theorem aes (W:World) (hW:WOK W):yC (JE Tryz.prog W) 92:=aiB (Γ:=JE Tryz.prog W) ahl (aer W hW)
theorem afw:Has Tryz.prog 146 8 wF r_catalog_Code_1:=⟨Tryz.f146,_,Tryz.func146,by decide,rfl,rfl,by kernel_rfl,by kernel_rfl⟩
theorem ahH (W:World) (hW:WOK W):xC (JE Tryz.prog W) 146:=agG (Γ:=JE Tryz.prog W) afw
theorem UH:Has Tryz.prog 145 19 YL r_slices_IndexFunc___api_Suite_api_Suite:=⟨Tryz.f145,_,Tryz.func145,by decide,rfl,rfl,by kernel_rfl,by kernel_rfl⟩
theorem Kd (W:World) (hW:WOK W):YE (JE Tryz.prog W) 145:=UR (Γ:=JE Tryz.prog W) UH
theorem ahm:Has Tryz.prog 126 7 (abp 98 146 145) r_catalog_Code:=⟨Tryz.f126,_,Tryz.func126,by decide,rfl,rfl,by kernel_rfl,by kernel_rfl⟩
theorem ajs (W:World) (hW:WOK W):aam (JE Tryz.prog W) 126:=aiC (Γ:=JE Tryz.prog W) ahm (wH W hW) (ahH W hW) (Kd W hW)
theorem aey:Has Tryz.prog 107 59 (y5 125 92 126 61) r_suitespec_named:=⟨Tryz.f107,_,Tryz.func107,by decide,rfl,rfl,by kernel_rfl,by kernel_rfl⟩
theorem agL (W:World) (hW:WOK W):yk (JE Tryz.prog W) 107:=afy (Γ:=JE Tryz.prog W) aey (agM W hW) (aes W hW) (ajs W hW) (Yu W hW)
theorem agk:Has Tryz.prog 73 46 (vN 98 106 107) r_suitespec_Set:=⟨Tryz.f73,_,Tryz.func73,by decide,rfl,rfl,by kernel_rfl,by kernel_rfl⟩
theorem adE (W:World) (hW:WOK W):q8 (JE Tryz.prog W) 73:=ahp (Γ:=JE Tryz.prog W) agk (wH W hW) (adF W hW) (agL W hW)
theorem afs:Has Tryz.prog 38 17 (wC 73) r_endpoint_begin:=⟨Tryz.f38,_,Tryz.func38,by decide,rfl,rfl,by kernel_rfl,by kernel_rfl⟩
theorem ahF (W:World) (hW:WOK W):xA (JE Tryz.prog W) 38:=agC (Γ:=JE Tryz.prog W) afs (adE W hW)
theorem adY:Has Tryz.prog 108 24 (j4 127 48) r_settings_Decimal:=⟨Tryz.f108,_,Tryz.func108,by decide,rfl,rfl,by kernel_rfl,by kernel_rfl⟩
theorem afV (W:World) (hW:WOK W):jr (JE Tryz.prog W) 108:=aeP (Γ:=JE Tryz.prog W) adY (ajo W hW) (aeq W hW)
theorem ad0:Has Tryz.prog 75 29 (j5 108) r_endpoint_version:=⟨Tryz.f75,_,Tryz.func75,by decide,rfl,rfl,by kernel_rfl,by kernel_rfl⟩
theorem aa5 (W:World) (hW:WOK W):UF (JE Tryz.prog W) 75:=aeR (Γ:=JE Tryz.prog W) ad0 (afV W hW)
theorem vG:Has Tryz.prog 74 10 (VM 75) r_endpoint_draft__words_1:=⟨Tryz.f74,_,Tryz.func74,by decide,rfl,rfl,by kernel_rfl,by kernel_rfl⟩
theorem abu (W:World) (hW:WOK W):X5 (JE Tryz.prog W) 74:=aav (Γ:=JE Tryz.prog W) vG (aa5 W hW)
theorem vF:Has Tryz.prog 76 10 (VL 75) r_endpoint_draft__words_2:=⟨Tryz.f76,_,Tryz.func76,by decide,rfl,rfl,by kernel_rfl,by kernel_rfl⟩
theorem abt (W:World) (hW:WOK W):X4 (JE Tryz.prog W) 76:=aau (Γ:=JE Tryz.prog W) vF (aa5 W hW)
theorem aaq:Has Tryz.prog 176 8 V8 r_slices_Clone___int_int:=⟨Tryz.f176,_,Tryz.func176,by decide,rfl,rfl,by kernel_rfl,by kernel_rfl⟩
theorem ab4 (W:World) (hW:WOK W):VT (JE Tryz.prog W) 176:=abh (Γ:=JE Tryz.prog W) aaq
theorem jg:Has Tryz.prog 200 53 c_slices_insertionSortCmpFunc_int r_slices_insertionSortCmpFunc_int:=⟨Tryz.f200,_,Tryz.func200,by decide,rfl,rfl,by kernel_rfl,by kernel_rfl⟩
theorem yh (W:World) (hW:WOK W):XE (JE Tryz.prog W) 200:=jB (Γ:=JE Tryz.prog W) jg
theorem w5:Has Tryz.prog 195 63 (Ve 200 201) r_slices_stableCmpFunc_int:=⟨Tryz.f195,_,Tryz.func195,by decide,rfl,rfl,by kernel_rfl,by kernel_rfl⟩
theorem aax (W:World) (hW:WOK W):W5 (JE Tryz.prog W) 195:=vJ (Γ:=JE Tryz.prog W) w5 (yh W hW)
theorem jh:Has Tryz.prog 177 9 (XS 195) r_slices_SortStableFunc___int_int:=⟨Tryz.f177,_,Tryz.func177,by decide,rfl,rfl,by kernel_rfl,by kernel_rfl⟩
theorem yi (W:World) (hW:WOK W):XF (JE Tryz.prog W) 177:=jC (Γ:=JE Tryz.prog W) jh (aax W hW)
theorem agr:Has Tryz.prog 60 20 (vU 98) r_catalog_Suite:=⟨Tryz.f60,_,Tryz.func60,by decide,rfl,rfl,by kernel_rfl,by kernel_rfl⟩
theorem aaf (W:World) (hW:WOK W):UL (JE Tryz.prog W) 60:=ahw (Γ:=JE Tryz.prog W) agr (wH W hW)
theorem ac4:Has Tryz.prog 179 15 (qp 60 100) r_suitespec_Strength:=⟨Tryz.f179,_,Tryz.func179,by decide,rfl,rfl,by kernel_rfl,by kernel_rfl⟩
theorem aed (W:World) (hW:WOK W):KF (JE Tryz.prog W) 179:=ado (Γ:=JE Tryz.prog W) ac4 (aaf W hW) (yj W hW)
theorem adX:Has Tryz.prog 178 10 (j3 179) r_suitespec_Sort_1:=⟨Tryz.f178,_,Tryz.func178,by decide,rfl,rfl,by kernel_rfl,by kernel_rfl⟩
theorem afU (W:World) (hW:WOK W):jq (JE Tryz.prog W) 178:=aeO (Γ:=JE Tryz.prog W) adX (aed W hW)
theorem afl:Has Tryz.prog 151 9 (wx 176 177 178) r_suitespec_Sort:=⟨Tryz.f151,_,Tryz.func151,by decide,rfl,rfl,by kernel_rfl,by kernel_rfl⟩
theorem ahy (W:World) (hW:WOK W):xr (JE Tryz.prog W) 151:=agv (Γ:=JE Tryz.prog W) afl (ab4 W hW) (yi W hW) (afU W hW)
theorem abc:Has Tryz.prog 152 7 (Uy 61) r_suitespec_row__word_1:=⟨Tryz.f152,_,Tryz.func152,by decide,rfl,rfl,by kernel_rfl,by kernel_rfl⟩
theorem acH (W:World) (hW:WOK W):Uc (JE Tryz.prog W) 152:=abX (Γ:=JE Tryz.prog W) abc (Yu W hW)
theorem aco:Has Tryz.prog 129 129 (c_suitespec_row__word 151 97 73 152 61) r_suitespec_row__word:=⟨Tryz.f129,_,Tryz.func129,by decide,rfl,rfl,by kernel_rfl,by kernel_rfl⟩
theorem adD (W:World) (hW:WOK W):UT (JE Tryz.prog W) 129:=ac7 (Γ:=JE Tryz.prog W) aco (ahy W hW) (aae W hW) (adE W hW) (acH W hW) (Yu W hW)
theorem aeB:Has Tryz.prog 109 39 (y8 128 106 129) r_suitespec_Parse:=⟨Tryz.f109,_,Tryz.func109,by decide,rfl,rfl,by kernel_rfl,by kernel_rfl⟩
theorem agO (W:World) (hW:WOK W):yn (JE Tryz.prog W) 109:=afB (Γ:=JE Tryz.prog W) aeB (aiQ W hW) (adF W hW) (adD W hW)
theorem abW:Has Tryz.prog 77 26 (US 109) r_endpoint_draft__list:=⟨Tryz.f77,_,Tryz.func77,by decide,rfl,rfl,by kernel_rfl,by kernel_rfl⟩
theorem ada (W:World) (hW:WOK W):WO (JE Tryz.prog W) 77:=acs (Γ:=JE Tryz.prog W) abW (agO W hW)
theorem aeJ:Has Tryz.prog 79 38 xf r_endpoint_choice:=⟨Tryz.f79,_,Tryz.func79,by decide,rfl,rfl,by kernel_rfl,by kernel_rfl⟩
theorem ab7 (W:World) (hW:WOK W):Kc (JE Tryz.prog W) 79:=afJ (Γ:=JE Tryz.prog W) aeJ
theorem vE:Has Tryz.prog 78 10 (VK 79) r_endpoint_draft__words_3:=⟨Tryz.f78,_,Tryz.func78,by decide,rfl,rfl,by kernel_rfl,by kernel_rfl⟩
theorem abs (W:World) (hW:WOK W):X3 (JE Tryz.prog W) 78:=aat (Γ:=JE Tryz.prog W) vE (ab7 W hW)
theorem vD:Has Tryz.prog 86 10 (VJ 79) r_endpoint_draft__words_6:=⟨Tryz.f86,_,Tryz.func86,by decide,rfl,rfl,by kernel_rfl,by kernel_rfl⟩
theorem abr (W:World) (hW:WOK W):X2 (JE Tryz.prog W) 86:=aas (Γ:=JE Tryz.prog W) vD (ab7 W hW)
theorem abd:Has Tryz.prog 39 15 (Uz 74 76 77 78 80 81 84 86) r_endpoint_draft__words:=⟨Tryz.f39,_,Tryz.func39,by decide,rfl,rfl,by kernel_rfl,by kernel_rfl⟩
theorem acI (W:World) (hW:WOK W):Ud (JE Tryz.prog W) 39:=abY (Γ:=JE Tryz.prog W) abd (abu W hW) (abt W hW) (ada W hW) (abs W hW) (abr W hW)
theorem vH:Has Tryz.prog 40 9 VN r_endpoint_FromSettings_1:=⟨Tryz.f40,_,Tryz.func40,by decide,rfl,rfl,by kernel_rfl,by kernel_rfl⟩
theorem abv (W:World) (hW:WOK W):Vg (JE Tryz.prog W) 40:=aaw (Γ:=JE Tryz.prog W) vH
theorem VW:Has Tryz.prog 87 19 Yy r_slices_IndexFunc___api_Setting_api_Setting:=⟨Tryz.f87,_,Tryz.func87,by decide,rfl,rfl,by kernel_rfl,by kernel_rfl⟩
theorem Ui (W:World) (hW:WOK W):Yv (JE Tryz.prog W) 87:=V6 (Γ:=JE Tryz.prog W) VW
theorem Vd:Has Tryz.prog 41 9 (Yj 87) r_slices_ContainsFunc___api_Setting_api_Setting:=⟨Tryz.f41,_,Tryz.func41,by decide,rfl,rfl,by kernel_rfl,by kernel_rfl⟩
theorem VR (W:World) (hW:WOK W):Yh (JE Tryz.prog W) 41:=Vv (Γ:=JE Tryz.prog W) Vd (Ui W hW)
theorem ad1:Has Tryz.prog 88 13 j6 r_endpoint_several:=⟨Tryz.f88,_,Tryz.func88,by decide,rfl,rfl,by kernel_rfl,by kernel_rfl⟩
theorem af0 (W:World) (hW:WOK W):jt (JE Tryz.prog W) 88:=aeS (Γ:=JE Tryz.prog W) ad1
theorem aeG:Has Tryz.prog 42 13 (xc 88 89 90) r_endpoint_values:=⟨Tryz.f42,_,Tryz.func42,by decide,rfl,rfl,by kernel_rfl,by kernel_rfl⟩
theorem agS (W:World) (hW:WOK W):yu (JE Tryz.prog W) 42:=afG (Γ:=JE Tryz.prog W) aeG (af0 W hW)
theorem aar:Has Tryz.prog 43 21 V9 r_endpoint_draft__finish:=⟨Tryz.f43,_,Tryz.func43,by decide,rfl,rfl,by kernel_rfl,by kernel_rfl⟩
theorem ab6 (W:World) (hW:WOK W):VU (JE Tryz.prog W) 43:=abi (Γ:=JE Tryz.prog W) aar
theorem abe:Has Tryz.prog 12 100 (c_endpoint_FromSettings 37 38 39 40 41 42 43) r_endpoint_FromSettings:=⟨Tryz.f12,_,Tryz.func12,by decide,rfl,rfl,by kernel_rfl,by kernel_rfl⟩
theorem acJ (W:World) (hW:WOK W):Ue (JE Tryz.prog W) 12:=abZ (Γ:=JE Tryz.prog W) abe (ahE W hW) (ahF W hW) (acI W hW) (abv W hW) (VR W hW) (agS W hW) (ab6 W hW)
theorem aeH:Has Tryz.prog 17 29 (xd 60 61) r_endpoint_suites:=⟨Tryz.f17,_,Tryz.func17,by decide,rfl,rfl,by kernel_rfl,by kernel_rfl⟩
theorem agT (W:World) (hW:WOK W):yv (JE Tryz.prog W) 17:=afH (Γ:=JE Tryz.prog W) aeH (aaf W hW) (Yu W hW)
theorem ad3:Has Tryz.prog 18 24 c_endpoint_ascends r_endpoint_ascends:=⟨Tryz.f18,_,Tryz.func18,by decide,rfl,rfl,by kernel_rfl,by kernel_rfl⟩
theorem af2 (W:World) (hW:WOK W):jv (JE Tryz.prog W) 18:=aeU (Γ:=JE Tryz.prog W) ad3
theorem agq:Has Tryz.prog 62 6 (vT 100) r_catalog_Valid:=⟨Tryz.f62,_,Tryz.func62,by decide,rfl,rfl,by kernel_rfl,by kernel_rfl⟩
theorem adK (W:World) (hW:WOK W):ja (JE Tryz.prog W) 62:=ahv (Γ:=JE Tryz.prog W) agq (yj W hW)
theorem ahk:Has Tryz.prog 63 12 (abn 94) r_catalog_Kind:=⟨Tryz.f63,_,Tryz.func63,by decide,rfl,rfl,by kernel_rfl,by kernel_rfl⟩
theorem abw (W:World) (hW:WOK W):KG (JE Tryz.prog W) 63:=aiA (Γ:=JE Tryz.prog W) ahk (adJ W hW)
theorem aeM:Has Tryz.prog 23 9 xj r_certificate_Key:=⟨Tryz.f23,_,Tryz.func23,by decide,rfl,rfl,by kernel_rfl,by kernel_rfl⟩
theorem xq (W:World) (hW:WOK W):Vy (JE Tryz.prog W) 23:=afM (Γ:=JE Tryz.prog W) aeM
theorem ags:Has Tryz.prog 46 27 vV r_catalog_Named:=⟨Tryz.f46,_,Tryz.func46,by decide,rfl,rfl,by kernel_rfl,by kernel_rfl⟩
theorem aag (W:World) (hW:WOK W):UM (JE Tryz.prog W) 46:=ahx (Γ:=JE Tryz.prog W) ags
theorem adl:Has Tryz.prog 119 32 (jl 46) r_certificate_named:=⟨Tryz.f119,_,Tryz.func119,by decide,rfl,rfl,by kernel_rfl,by kernel_rfl⟩
theorem ae6 (W:World) (hW:WOK W):qy (JE Tryz.prog W) 119:=aea (Γ:=JE Tryz.prog W) adl (aag W hW)
theorem afu:Has Tryz.prog 120 14 (wD 62 63) r_certificate_of:=⟨Tryz.f120,_,Tryz.func120,by decide,rfl,rfl,by kernel_rfl,by kernel_rfl⟩
theorem ahG (W:World) (hW:WOK W):xB (JE Tryz.prog W) 120:=agE (Γ:=JE Tryz.prog W) afu (adK W hW) (abw W hW)
theorem aeL:Has Tryz.prog 121 9 xi r_certificate_sum:=⟨Tryz.f121,_,Tryz.func121,by decide,rfl,rfl,by kernel_rfl,by kernel_rfl⟩
theorem agW (W:World) (hW:WOK W):yy (JE Tryz.prog W) 121:=afL (Γ:=JE Tryz.prog W) aeL
theorem adk:Has Tryz.prog 101 91 (jk 46 119 120 23 121) r_certificate_valid:=⟨Tryz.f101,_,Tryz.func101,by decide,rfl,rfl,by kernel_rfl,by kernel_rfl⟩
theorem ae5 (W:World) (hW:WOK W):qw (JE Tryz.prog W) 101:=ad9 (Γ:=JE Tryz.prog W) adk (aag W hW) (ae6 W hW) (ahG W hW) (xq W hW) (agW W hW)
theorem adm:Has Tryz.prog 64 6 (jm 101) r_certificate_Check:=⟨Tryz.f64,_,Tryz.func64,by decide,rfl,rfl,by kernel_rfl,by kernel_rfl⟩
theorem ae7 (W:World) (hW:WOK W):qz (JE Tryz.prog W) 64:=aeb (Γ:=JE Tryz.prog W) adm (ae5 W hW)
theorem afo:Has Tryz.prog 19 57 (c_keystore_Shows 62 63 23 64) r_keystore_Shows:=⟨Tryz.f19,_,Tryz.func19,by decide,rfl,rfl,by kernel_rfl,by kernel_rfl⟩
theorem ahB (W:World) (hW:WOK W):xw (JE Tryz.prog W) 19:=agy (Γ:=JE Tryz.prog W) afo (adK W hW) (abw W hW) (xq W hW) (ae7 W hW)
theorem ac5:Has Tryz.prog 21 8 qq r_endpoint_Check_1_1:=⟨Tryz.f21,_,Tryz.func21,by decide,rfl,rfl,by kernel_rfl,by kernel_rfl⟩
theorem aee (W:World) (hW:WOK W):Vx (JE Tryz.prog W) 21:=adp (Γ:=JE Tryz.prog W) ac5
theorem ad4:Has Tryz.prog 20 4 (j8 21) r_endpoint_Check_1:=⟨Tryz.f20,_,Tryz.func20,by decide,rfl,rfl,by kernel_rfl,by kernel_rfl⟩
theorem af3 (W:World) (hW:WOK W):jw (JE Tryz.prog W) 20:=aeV (Γ:=JE Tryz.prog W) ad4 (aee W hW)
theorem wk:Has Tryz.prog 65 19 WN r_slices_IndexFunc___int_int:=⟨Tryz.f65,_,Tryz.func65,by decide,rfl,rfl,by kernel_rfl,by kernel_rfl⟩
theorem vc (W:World) (hW:WOK W):Wx (JE Tryz.prog W) 65:=wv (Γ:=JE Tryz.prog W) wk
theorem jY:Has Tryz.prog 22 9 (X9 65) r_slices_ContainsFunc___int_int:=⟨Tryz.f22,_,Tryz.func22,by decide,rfl,rfl,by kernel_rfl,by kernel_rfl⟩
theorem xp (W:World) (hW:WOK W):X0 (JE Tryz.prog W) 22:=yF (Γ:=JE Tryz.prog W) jY (vc W hW)
theorem ago:Has Tryz.prog 24 6 (vR 63) r_endpoint_hash:=⟨Tryz.f24,_,Tryz.func24,by decide,rfl,rfl,by kernel_rfl,by kernel_rfl⟩
theorem aiU (W:World) (hW:WOK W):wL (JE Tryz.prog W) 24:=aht (Γ:=JE Tryz.prog W) ago (abw W hW)
theorem aft:Has Tryz.prog 7 83 (c_endpoint_Check 16 17 18 19 20 23 22 24) r_endpoint_Check:=⟨Tryz.f7,_,Tryz.func7,by decide,rfl,rfl,by kernel_rfl,by kernel_rfl⟩
theorem wG (W:World) (hW:WOK W):Uf (JE Tryz.prog W) 7:=agD (Γ:=JE Tryz.prog W) aft (adG W hW) (agT W hW) (af2 W hW) (ahB W hW) (af3 W hW) (xq W hW) (xp W hW) (aiU W hW)
theorem ais:Has Tryz.prog 4 44 (acB 12 7) r_law09_awake:=⟨Tryz.f4,_,Tryz.func4,by decide,rfl,rfl,by kernel_rfl,by kernel_rfl⟩
theorem akH (W:World) (hW:WOK W):abD (JE Tryz.prog W) 4:=ajk (Γ:=JE Tryz.prog W) ais (acJ W hW) (wG W hW)
theorem qR:Has Tryz.prog 91 19 XD r_slices_IndexFunc___string_string:=⟨Tryz.f91,_,Tryz.func91,by decide,rfl,rfl,by kernel_rfl,by kernel_rfl⟩
theorem jE (W:World) (hW:WOK W):Xz (JE Tryz.prog W) 91:=jj (Γ:=JE Tryz.prog W) qR
theorem KA:Has Tryz.prog 44 9 (Y9 91) r_slices_ContainsFunc___string_string:=⟨Tryz.f44,_,Tryz.func44,by decide,rfl,rfl,by kernel_rfl,by kernel_rfl⟩
theorem qu (W:World) (hW:WOK W):Y2 (JE Tryz.prog W) 44:=KW (Γ:=JE Tryz.prog W) KA (jE W hW)
theorem ad2:Has Tryz.prog 45 6 (j7 46) r_endpoint_lines_1:=⟨Tryz.f45,_,Tryz.func45,by decide,rfl,rfl,by kernel_rfl,by kernel_rfl⟩
theorem af1 (W:World) (hW:WOK W):ju (JE Tryz.prog W) 45:=aeT (Γ:=JE Tryz.prog W) ad2 (aag W hW)
theorem aeA:Has Tryz.prog 47 54 (y7 60 92 61 14) r_suitespec_Print:=⟨Tryz.f47,_,Tryz.func47,by decide,rfl,rfl,by kernel_rfl,by kernel_rfl⟩
theorem agN (W:World) (hW:WOK W):ym (JE Tryz.prog W) 47:=afA (Γ:=JE Tryz.prog W) aeA (aaf W hW) (aes W hW) (Yu W hW) (aep W hW)
theorem ahj:Has Tryz.prog 49 12 (abm 94) r_catalog_Name:=⟨Tryz.f49,_,Tryz.func49,by decide,rfl,rfl,by kernel_rfl,by kernel_rfl⟩
theorem ajr (W:World) (hW:WOK W):aal (JE Tryz.prog W) 49:=aiz (Γ:=JE Tryz.prog W) ahj (adJ W hW)
theorem aeI:Has Tryz.prog 50 10 xe r_endpoint_choose:=⟨Tryz.f50,_,Tryz.func50,by decide,rfl,rfl,by kernel_rfl,by kernel_rfl⟩
theorem agU (W:World) (hW:WOK W):yw (JE Tryz.prog W) 50:=afI (Γ:=JE Tryz.prog W) aeI
theorem yE:Has Tryz.prog 51 8 Wo r_slices_Clone___string_string:=⟨Tryz.f51,_,Tryz.func51,by decide,rfl,rfl,by kernel_rfl,by kernel_rfl⟩
theorem wo (W:World) (hW:WOK W):Wb (JE Tryz.prog W) 51:=y0 (Γ:=JE Tryz.prog W) yE
theorem afq:Has Tryz.prog 13 111 (c_endpoint_lines 7 44 45 47 48 49 50 51) r_endpoint_lines:=⟨Tryz.f13,_,Tryz.func13,by decide,rfl,rfl,by kernel_rfl,by kernel_rfl⟩
theorem ahD (W:World) (hW:WOK W):xy (JE Tryz.prog W) 13:=agA (Γ:=JE Tryz.prog W) afq (wG W hW) (qu W hW) (af1 W hW) (agN W hW) (aeq W hW) (ajr W hW) (agU W hW) (wo W hW)
theorem acp:Has Tryz.prog 5 47 (c_endpoint_ToSettings 13 14) r_endpoint_ToSettings:=⟨Tryz.f5,_,Tryz.func5,by decide,rfl,rfl,by kernel_rfl,by kernel_rfl⟩
theorem adI (W:World) (hW:WOK W):UU (JE Tryz.prog W) 5:=ac8 (Γ:=JE Tryz.prog W) acp (ahD W hW) (aep W hW)
theorem ai3:Has Tryz.prog 25 56 adw r_ref06_Word:=⟨Tryz.f25,_,Tryz.func25,by decide,rfl,rfl,by kernel_rfl,by kernel_rfl⟩
theorem alG (W:World) (hW:WOK W):acM (JE Tryz.prog W) 25:=akq (Γ:=JE Tryz.prog W) ai3
theorem akl:Has Tryz.prog 102 8 ae2 r_ref02_use:=⟨Tryz.f102,_,Tryz.func102,by decide,rfl,rfl,by kernel_rfl,by kernel_rfl⟩
theorem ams (W:World) (hW:WOK W):adM (JE Tryz.prog W) 102:=alk (Γ:=JE Tryz.prog W) akl
theorem aio:Has Tryz.prog 103 26 acx r_ref02_suite:=⟨Tryz.f103,_,Tryz.func103,by decide,rfl,rfl,by kernel_rfl,by kernel_rfl⟩
theorem akF (W:World) (hW:WOK W):abB (JE Tryz.prog W) 103:=ajg (Γ:=JE Tryz.prog W) aio
theorem ahh:Has Tryz.prog 66 110 (abk 102 103) r_ref02_Suites:=⟨Tryz.f66,_,Tryz.func66,by decide,rfl,rfl,by kernel_rfl,by kernel_rfl⟩
theorem ajq (W:World) (hW:WOK W):aak (JE Tryz.prog W) 66:=aix (Γ:=JE Tryz.prog W) ahh (ams W hW) (akF W hW)
theorem air:Has Tryz.prog 26 16 (acA 66) r_ref02_Suite:=⟨Tryz.f26,_,Tryz.func26,by decide,rfl,rfl,by kernel_rfl,by kernel_rfl⟩
theorem afZ (W:World) (hW:WOK W):xM (JE Tryz.prog W) 26:=ajj (Γ:=JE Tryz.prog W) air (ajq W hW)
theorem akm:Has Tryz.prog 27 18 ae3 r_ref02_Has:=⟨Tryz.f27,_,Tryz.func27,by decide,rfl,rfl,by kernel_rfl,by kernel_rfl⟩
theorem aiS (W:World) (hW:WOK W):aa6 (JE Tryz.prog W) 27:=alm (Γ:=JE Tryz.prog W) akm
theorem agm:Has Tryz.prog 140 25 vP r_ref02_modulus:=⟨Tryz.f140,_,Tryz.func140,by decide,rfl,rfl,by kernel_rfl,by kernel_rfl⟩
theorem aiR (W:World) (hW:WOK W):wJ (JE Tryz.prog W) 140:=ahr (Γ:=JE Tryz.prog W) agm
theorem aip:Has Tryz.prog 141 24 acy r_ref02_among:=⟨Tryz.f141,_,Tryz.func141,by decide,rfl,rfl,by kernel_rfl,by kernel_rfl⟩
theorem akG (W:World) (hW:WOK W):abC (JE Tryz.prog W) 141:=ajh (Γ:=JE Tryz.prog W) aip
theorem ahg:Has Tryz.prog 142 21 abj r_ref02_single:=⟨Tryz.f142,_,Tryz.func142,by decide,rfl,rfl,by kernel_rfl,by kernel_rfl⟩
theorem ajp (W:World) (hW:WOK W):aaj (JE Tryz.prog W) 142:=aiw (Γ:=JE Tryz.prog W) ahg
theorem afm:Has Tryz.prog 122 76 (wz 140 141 142) r_ref02_Strength:=⟨Tryz.f122,_,Tryz.func122,by decide,rfl,rfl,by kernel_rfl,by kernel_rfl⟩
theorem ahz (W:World) (hW:WOK W):xu (JE Tryz.prog W) 122:=agw (Γ:=JE Tryz.prog W) afm (aiR W hW) (akG W hW) (ajp W hW)
theorem aiq:Has Tryz.prog 104 6 (acz 122) r_ref02_Valid:=⟨Tryz.f104,_,Tryz.func104,by decide,rfl,rfl,by kernel_rfl,by kernel_rfl⟩
theorem afY (W:World) (hW:WOK W):xL (JE Tryz.prog W) 104:=aji (Γ:=JE Tryz.prog W) aiq (ahz W hW)
theorem ai7:Has Tryz.prog 69 25 adz r_ref02_rows:=⟨Tryz.f69,_,Tryz.func69,by decide,rfl,rfl,by kernel_rfl,by kernel_rfl⟩
theorem ag9 (W:World) (hW:WOK W):vf (JE Tryz.prog W) 69:=aku (Γ:=JE Tryz.prog W) ai7
theorem ai9:Has Tryz.prog 29 14 (adB 69) r_ref02_Kind:=⟨Tryz.f29,_,Tryz.func29,by decide,rfl,rfl,by kernel_rfl,by kernel_rfl⟩
theorem adH (W:World) (hW:WOK W):yr (JE Tryz.prog W) 29:=akw (Γ:=JE Tryz.prog W) ai9 (ag9 W hW)
theorem aeD:Has Tryz.prog 67 11 (xb 104 29) r_ref03_Signature:=⟨Tryz.f67,_,Tryz.func67,by decide,rfl,rfl,by kernel_rfl,by kernel_rfl⟩
theorem ab5 (W:World) (hW:WOK W):Kb (JE Tryz.prog W) 67:=afD (Γ:=JE Tryz.prog W) aeD (afY W hW) (adH W hW)
theorem ai6:Has Tryz.prog 55 28 ady r_ref03_Name:=⟨Tryz.f55,_,Tryz.func55,by decide,rfl,rfl,by kernel_rfl,by kernel_rfl⟩
theorem ag8 (W:World) (hW:WOK W):vd (JE Tryz.prog W) 55:=akt (Γ:=JE Tryz.prog W) ai6
theorem ain:Has Tryz.prog 68 146 (c_ref03_Check 55 67 104 29) r_ref03_Check:=⟨Tryz.f68,_,Tryz.func68,by decide,rfl,rfl,by kernel_rfl,by kernel_rfl⟩
theorem akE (W:World) (hW:WOK W):abA (JE Tryz.prog W) 68:=ajf (Γ:=JE Tryz.prog W) ain (ag8 W hW) (ab5 W hW) (afY W hW) (adH W hW)
theorem aim:Has Tryz.prog 28 55 (c_ref05_Right 67 68) r_ref05_Right:=⟨Tryz.f28,_,Tryz.func28,by decide,rfl,rfl,by kernel_rfl,by kernel_rfl⟩
theorem akD (W:World) (hW:WOK W):abz (JE Tryz.prog W) 28:=aje (Γ:=JE Tryz.prog W) aim (ab5 W hW) (akE W hW)
theorem aik:Has Tryz.prog 8 176 (c_ref09_Check 25 26 27 28 29) r_ref09_Check:=⟨Tryz.f8,_,Tryz.func8,by decide,rfl,rfl,by kernel_rfl,by kernel_rfl⟩
theorem afX (W:World) (hW:WOK W):xK (JE Tryz.prog W) 8:=ajc (Γ:=JE Tryz.prog W) aik (alG W hW) (afZ W hW) (aiS W hW) (akD W hW) (adH W hW)
theorem ail:Has Tryz.prog 56 63 (c_ref08_Print 27 26) r_ref08_Print:=⟨Tryz.f56,_,Tryz.func56,by decide,rfl,rfl,by kernel_rfl,by kernel_rfl⟩
theorem akC (W:World) (hW:WOK W):aby (JE Tryz.prog W) 56:=ajd (Γ:=JE Tryz.prog W) ail (aiS W hW) (afZ W hW)
theorem agn:Has Tryz.prog 57 20 (vQ 57) r_ref02_Decimal:=⟨Tryz.f57,_,Tryz.func57,by decide,rfl,rfl,by kernel_rfl,by kernel_rfl⟩
theorem aiT (W:World) (hW:WOK W):wK (JE Tryz.prog W) 57:=ahs (Γ:=JE Tryz.prog W) agn
theorem ai8:Has Tryz.prog 58 14 (adA 69) r_ref02_Name:=⟨Tryz.f58,_,Tryz.func58,by decide,rfl,rfl,by kernel_rfl,by kernel_rfl⟩
theorem alJ (W:World) (hW:WOK W):acP (JE Tryz.prog W) 58:=akv (Γ:=JE Tryz.prog W) ai8 (ag9 W hW)
theorem aij:Has Tryz.prog 15 140 (c_ref09_lines 8 55 56 57 58) r_ref09_lines:=⟨Tryz.f15,_,Tryz.func15,by decide,rfl,rfl,by kernel_rfl,by kernel_rfl⟩
theorem akB (W:World) (hW:WOK W):abx (JE Tryz.prog W) 15:=ajb (Γ:=JE Tryz.prog W) aij (afX W hW) (ag8 W hW) (akC W hW) (aiT W hW) (alJ W hW)
theorem adZ:Has Tryz.prog 6 64 (c_ref09_ToSettings 15) r_ref09_ToSettings:=⟨Tryz.f6,_,Tryz.func6,by decide,rfl,rfl,by kernel_rfl,by kernel_rfl⟩
theorem afW (W:World) (hW:WOK W):js (JE Tryz.prog W) 6:=aeQ (Γ:=JE Tryz.prog W) adZ (akB W hW)
theorem ai4:Has Tryz.prog 9 26 c_ref06_Same r_ref06_Same:=⟨Tryz.f9,_,Tryz.func9,by decide,rfl,rfl,by kernel_rfl,by kernel_rfl⟩
theorem alH (W:World) (hW:WOK W):acN (JE Tryz.prog W) 9:=akr (Γ:=JE Tryz.prog W) ai4
theorem Yq:Has Tryz.prog 31 32 QY r_slices_EqualFunc___api_Certificate___api_Certificate_api_Certificate_api_Certificate:=⟨Tryz.f31,_,Tryz.func31,by decide,rfl,rfl,by kernel_rfl,by kernel_rfl⟩
theorem Yw (W:World) (hW:WOK W):QW (JE Tryz.prog W) 31:=Yt (Γ:=JE Tryz.prog W) Yq
theorem yD:Has Tryz.prog 70 26 c_slices_Equal___string_string r_slices_Equal___string_string:=⟨Tryz.f70,_,Tryz.func70,by decide,rfl,rfl,by kernel_rfl,by kernel_rfl⟩
theorem wm (W:World) (hW:WOK W):Wa (JE Tryz.prog W) 70:=yZ (Γ:=JE Tryz.prog W) yD
theorem ad5:Has Tryz.prog 32 91 (j9 70) r_certificate_Same:=⟨Tryz.f32,_,Tryz.func32,by decide,rfl,rfl,by kernel_rfl,by kernel_rfl⟩
theorem af4 (W:World) (hW:WOK W):jx (JE Tryz.prog W) 32:=aeW (Γ:=JE Tryz.prog W) ad5 (wm W hW)
theorem aeK:Has Tryz.prog 30 24 (xh 31 32) r_endpoint_Same_1:=⟨Tryz.f30,_,Tryz.func30,by decide,rfl,rfl,by kernel_rfl,by kernel_rfl⟩
theorem agV (W:World) (hW:WOK W):yx (JE Tryz.prog W) 30:=afK (Γ:=JE Tryz.prog W) aeK (Yw W hW) (af4 W hW)
theorem aap:Has Tryz.prog 33 26 c_slices_Equal___int_int r_slices_Equal___int_int:=⟨Tryz.f33,_,Tryz.func33,by decide,rfl,rfl,by kernel_rfl,by kernel_rfl⟩
theorem ab3 (W:World) (hW:WOK W):VS (JE Tryz.prog W) 33:=abg (Γ:=JE Tryz.prog W) aap
theorem YO:Has Tryz.prog 34 32 Jk r_slices_EqualFunc___api_Identity___api_Identity_api_Identity_api_Identity:=⟨Tryz.f34,_,Tryz.func34,by decide,rfl,rfl,by kernel_rfl,by kernel_rfl⟩
theorem YU (W:World) (hW:WOK W):Jj (JE Tryz.prog W) 34:=YS (Γ:=JE Tryz.prog W) YO
theorem agp:Has Tryz.prog 10 70 (vS 30 33 34) r_endpoint_Same:=⟨Tryz.f10,_,Tryz.func10,by decide,rfl,rfl,by kernel_rfl,by kernel_rfl⟩
theorem aiV (W:World) (hW:WOK W):wM (JE Tryz.prog W) 10:=ahu (Γ:=JE Tryz.prog W) agp (agV W hW) (ab3 W hW) (YU W hW)
theorem afn:Has Tryz.prog 35 26 c_ref02_SameInts r_ref02_SameInts:=⟨Tryz.f35,_,Tryz.func35,by decide,rfl,rfl,by kernel_rfl,by kernel_rfl⟩
theorem ahA (W:World) (hW:WOK W):xv (JE Tryz.prog W) 35:=agx (Γ:=JE Tryz.prog W) afn
theorem aeF:Has Tryz.prog 123 26 c_ref02_SameTexts r_ref02_SameTexts:=⟨Tryz.f123,_,Tryz.func123,by decide,rfl,rfl,by kernel_rfl,by kernel_rfl⟩
theorem agR (W:World) (hW:WOK W):yq (JE Tryz.prog W) 123:=afF (Γ:=JE Tryz.prog W) aeF
theorem ai5:Has Tryz.prog 105 87 (adx 123) r_ref03_Same:=⟨Tryz.f105,_,Tryz.func105,by decide,rfl,rfl,by kernel_rfl,by kernel_rfl⟩
theorem alI (W:World) (hW:WOK W):acO (JE Tryz.prog W) 105:=aks (Γ:=JE Tryz.prog W) ai5 (agR W hW)
theorem aeE:Has Tryz.prog 71 27 (c_ref03_SameChain 105) r_ref03_SameChain:=⟨Tryz.f71,_,Tryz.func71,by decide,rfl,rfl,by kernel_rfl,by kernel_rfl⟩
theorem agQ (W:World) (hW:WOK W):yp (JE Tryz.prog W) 71:=afE (Γ:=JE Tryz.prog W) aeE (alI W hW)
theorem abV:Has Tryz.prog 36 55 (c_ref09_SameIdentities 71) r_ref09_SameIdentities:=⟨Tryz.f36,_,Tryz.func36,by decide,rfl,rfl,by kernel_rfl,by kernel_rfl⟩
theorem ac9 (W:World) (hW:WOK W):UE (JE Tryz.prog W) 36:=acr (Γ:=JE Tryz.prog W) abV (agQ W hW)
theorem ai2:Has Tryz.prog 11 66 (adv 35 36) r_ref09_Same:=⟨Tryz.f11,_,Tryz.func11,by decide,rfl,rfl,by kernel_rfl,by kernel_rfl⟩
theorem alF (W:World) (hW:WOK W):acL (JE Tryz.prog W) 11:=akp (Γ:=JE Tryz.prog W) ai2 (ahA W hW) (ac9 W hW)
theorem adj:Has Tryz.prog 3 84 (c_law09_EndpointRaw 4 5 6 7 8 9 10 11) r_law09_EndpointRaw:=⟨Tryz.f3,_,Tryz.func3,by decide,rfl,rfl,by kernel_rfl,by kernel_rfl⟩
theorem ae4 (W:World) (hW:WOK W):wY (JE Tryz.prog W) 3:=ad8 (Γ:=JE Tryz.prog W) adj (akH W hW) (adI W hW) (afW W hW) (wG W hW) (afX W hW) (alH W hW) (aiV W hW) (alF W hW)
end Go.Proofs.YtajbkpjbnooblaaGreatDoor
end

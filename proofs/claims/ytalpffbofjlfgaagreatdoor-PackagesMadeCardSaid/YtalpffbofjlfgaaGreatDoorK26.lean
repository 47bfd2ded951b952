/- The functions of the program that the law reaches: their contracts at this seat. -/
import Derived.Test.YtalpffbofjlfgaaGreatDoorK16
import Derived.Test.YtalpffbofjlfgaaGreatDoorK25
import Derived.KernelRfl
set_option linter.unusedVariables false
set_option linter.unusedSimpArgs false
section
namespace Go.Proofs.YtalpffbofjlfgaaGreatDoor
open Go Av Go.RowKit
set_option maxRecDepth 100000
set_option linter.unusedVariables false
theorem afk:Has Tryz.prog 5 6 vM r_make_Light:=⟨Tryz.f5,_,Tryz.func5,by decide,rfl,rfl,by kernel_rfl,by kernel_rfl⟩
theorem ah7 (W:World) (hW:WOK W):wW (Yh Tryz.prog W) 5:=agL (Γ:=Yh Tryz.prog W) afk
theorem aaf:Has Tryz.prog 40 26 qt r_packages_version:=⟨Tryz.f40,_,Tryz.func40,by decide,rfl,rfl,by kernel_rfl,by kernel_rfl⟩
theorem UE (W:World) (hW:WOK W):WE (Yh Tryz.prog W) 40:=aa0 (Γ:=Yh Tryz.prog W) aaf
theorem aag:Has Tryz.prog 23 38 (qu 65 66 67 40) r_packages_Version:=⟨Tryz.f23,_,Tryz.func23,by decide,rfl,rfl,by kernel_rfl,by kernel_rfl⟩
theorem ab7 (W:World) (hW:WOK W):KV (Yh Tryz.prog W) 23:=aa1 (Γ:=Yh Tryz.prog W) aag (ae3 W hW) (afB W hW) (aaD W hW) (UE W hW)
theorem acM:Has Tryz.prog 24 24 (yH 40 67 68) r_packages_Text:=⟨Tryz.f24,_,Tryz.func24,by decide,rfl,rfl,by kernel_rfl,by kernel_rfl⟩
theorem afa (W:World) (hW:WOK W):yb (Yh Tryz.prog W) 24:=adO (Γ:=Yh Tryz.prog W) acM (UE W hW) (aaD W hW) (afA W hW)
theorem acJ:Has Tryz.prog 70 13 yF r_packages_part:=⟨Tryz.f70,_,Tryz.func70,by decide,rfl,rfl,by kernel_rfl,by kernel_rfl⟩
theorem ae8 (W:World) (hW:WOK W):j8 (Yh Tryz.prog W) 70:=adL (Γ:=Yh Tryz.prog W) acJ
theorem acQ:Has Tryz.prog 94 6 yL r_cmp_isNaN_int:=⟨Tryz.f94,_,Tryz.func94,by decide,rfl,rfl,by kernel_rfl,by kernel_rfl⟩
theorem vR (W:World) (hW:WOK W):KC (Yh Tryz.prog W) 94:=adS (Γ:=Yh Tryz.prog W) acQ
theorem aaY:Has Tryz.prog 69 20 (jm 94) r_cmp_Compare_int:=⟨Tryz.f69,_,Tryz.func69,by decide,rfl,rfl,by kernel_rfl,by kernel_rfl⟩
theorem adg (W:World) (hW:WOK W):qQ (Yh Tryz.prog W) 69:=abX (Γ:=Yh Tryz.prog W) aaY (vR W hW)
theorem aai:Has Tryz.prog 25 26 (qw 70 69) r_packages_Compare:=⟨Tryz.f25,_,Tryz.func25,by decide,rfl,rfl,by kernel_rfl,by kernel_rfl⟩
theorem xl (W:World) (hW:WOK W):Uj (Yh Tryz.prog W) 25:=aa3 (Γ:=Yh Tryz.prog W) aai (ae8 W hW) (adg W hW)
theorem aeE:Has Tryz.prog 26 29 (wG 25) r_packages_In:=⟨Tryz.f26,_,Tryz.func26,by decide,rfl,rfl,by kernel_rfl,by kernel_rfl⟩
theorem wR (W:World) (hW:WOK W):Kw (Yh Tryz.prog W) 26:=afv (Γ:=Yh Tryz.prog W) aeE (xl W hW)
theorem aeG:Has Tryz.prog 6 45 (wI 23 24 25 26) r_law12_awake:=⟨Tryz.f6,_,Tryz.func6,by decide,rfl,rfl,by kernel_rfl,by kernel_rfl⟩
theorem agV (W:World) (hW:WOK W):xQ (Yh Tryz.prog W) 6:=afx (Γ:=Yh Tryz.prog W) aeG (ab7 W hW) (afa W hW) (xl W hW) (wR W hW)
theorem agC:Has Tryz.prog 7 6 abf r_make_Roll:=⟨Tryz.f7,_,Tryz.func7,by decide,rfl,rfl,by kernel_rfl,by kernel_rfl⟩
theorem ai1 (W:World) (hW:WOK W):vX (Yh Tryz.prog W) 7:=ahO (Γ:=Yh Tryz.prog W) agC
theorem ahu:Has Tryz.prog 71 14 ac7 r_make_Mod:=⟨Tryz.f71,_,Tryz.func71,by decide,rfl,rfl,by kernel_rfl,by kernel_rfl⟩
theorem akT (W:World) (hW:WOK W):abh (Yh Tryz.prog W) 71:=aiI (Γ:=Yh Tryz.prog W) ahu
theorem aaX:Has Tryz.prog 29 35 (c_make_Dice__Next 71) r_make_Dice__Next:=⟨Tryz.f29,_,Tryz.func29,by decide,rfl,rfl,by kernel_rfl,by kernel_rfl⟩
theorem WD (W:World) (hW:WOK W):Y3 (Yh Tryz.prog W) 29:=abW (Γ:=Yh Tryz.prog W) aaX (akT W hW)
theorem abI:Has Tryz.prog 27 11 (j0 29) r_make_Dice__One:=⟨Tryz.f27,_,Tryz.func27,by decide,rfl,rfl,by kernel_rfl,by kernel_rfl⟩
theorem j4 (W:World) (hW:WOK W):VX (Yh Tryz.prog W) 27:=ac2 (Γ:=Yh Tryz.prog W) abI (WD W hW)
theorem acO:Has Tryz.prog 31 12 (yJ 29) r_make_Dice__Of:=⟨Tryz.f31,_,Tryz.func31,by decide,rfl,rfl,by kernel_rfl,by kernel_rfl⟩
theorem yS (W:World) (hW:WOK W):Uv (Yh Tryz.prog W) 31:=adQ (Γ:=Yh Tryz.prog W) acO (WD W hW)
theorem acP:Has Tryz.prog 28 21 (yK 29 31) r_law12_version:=⟨Tryz.f28,_,Tryz.func28,by decide,rfl,rfl,by kernel_rfl,by kernel_rfl⟩
theorem vQ (W:World) (hW:WOK W):KB (Yh Tryz.prog W) 28:=adR (Γ:=Yh Tryz.prog W) acP (WD W hW) (yS W hW)
theorem aeF:Has Tryz.prog 30 15 (wH 27 28) r_law12_bound:=⟨Tryz.f30,_,Tryz.func30,by decide,rfl,rfl,by kernel_rfl,by kernel_rfl⟩
theorem acf (W:World) (hW:WOK W):jG (Yh Tryz.prog W) 30:=afw (Γ:=Yh Tryz.prog W) aeF (j4 W hW) (vQ W hW)
theorem aaW:Has Tryz.prog 15 12 (jl 29) r_make_Dice__Word:=⟨Tryz.f15,_,Tryz.func15,by decide,rfl,rfl,by kernel_rfl,by kernel_rfl⟩
theorem js (W:World) (hW:WOK W):VE (Yh Tryz.prog W) 15:=abV (Γ:=Yh Tryz.prog W) aaW (WD W hW)
theorem afl:Has Tryz.prog 8 110 (c_law12_list 27 28 29 30 15 31) r_law12_list:=⟨Tryz.f8,_,Tryz.func8,by decide,rfl,rfl,by kernel_rfl,by kernel_rfl⟩
theorem ah8 (W:World) (hW:WOK W):wX (Yh Tryz.prog W) 8:=agM (Γ:=Yh Tryz.prog W) afl (j4 W hW) (vQ W hW) (WD W hW) (acf W hW) (js W hW) (yS W hW)
theorem agB:Has Tryz.prog 72 46 (abe 31) r_make_size:=⟨Tryz.f72,_,Tryz.func72,by decide,rfl,rfl,by kernel_rfl,by kernel_rfl⟩
theorem ai0 (W:World) (hW:WOK W):vW (Yh Tryz.prog W) 72:=ahN (Γ:=Yh Tryz.prog W) agB (yS W hW)
theorem aht:Has Tryz.prog 32 12 (ac6 29 72) r_make_Use:=⟨Tryz.f32,_,Tryz.func32,by decide,rfl,rfl,by kernel_rfl,by kernel_rfl⟩
theorem akS (W:World) (hW:WOK W):abg (Yh Tryz.prog W) 32:=aiH (Γ:=Yh Tryz.prog W) aht (WD W hW) (ai0 W hW)
theorem adC:Has Tryz.prog 9 69 (c_law12_knowns 29 15 30 32 27) r_law12_knowns:=⟨Tryz.f9,_,Tryz.func9,by decide,rfl,rfl,by kernel_rfl,by kernel_rfl⟩
theorem afE (W:World) (hW:WOK W):yX (Yh Tryz.prog W) 9:=aeP (Γ:=Yh Tryz.prog W) adC (WD W hW) (js W hW) (acf W hW) (akS W hW) (j4 W hW)
theorem aan:Has Tryz.prog 33 7 qC r_packages_Check_1:=⟨Tryz.f33,_,Tryz.func33,by decide,rfl,rfl,by kernel_rfl,by kernel_rfl⟩
theorem ace (W:World) (hW:WOK W):K5 (Yh Tryz.prog W) 33:=aa8 (Γ:=Yh Tryz.prog W) aan
theorem VI:Has Tryz.prog 73 19 YN r_slices_IndexFunc___api_Package_api_Package:=⟨Tryz.f73,_,Tryz.func73,by decide,rfl,rfl,by kernel_rfl,by kernel_rfl⟩
theorem X6 (W:World) (hW:WOK W):J4 (Yh Tryz.prog W) 73:=VR (Γ:=Yh Tryz.prog W) VI
theorem Vr:Has Tryz.prog 34 9 (Yw 73) r_slices_ContainsFunc___api_Package_api_Package:=⟨Tryz.f34,_,Tryz.func34,by decide,rfl,rfl,by kernel_rfl,by kernel_rfl⟩
theorem XJ (W:World) (hW:WOK W):JT (Yh Tryz.prog W) 34:=VD (Γ:=Yh Tryz.prog W) Vr (X6 W hW)
theorem UI:Has Tryz.prog 84 19 Xp r_slices_IndexFunc___api_Need_api_Need:=⟨Tryz.f84,_,Tryz.func84,by decide,rfl,rfl,by kernel_rfl,by kernel_rfl⟩
theorem Ka (W:World) (hW:WOK W):Xi (Yh Tryz.prog W) 84:=UT (Γ:=Yh Tryz.prog W) UI
theorem Ua:Has Tryz.prog 54 9 (YX 84) r_slices_ContainsFunc___api_Need_api_Need:=⟨Tryz.f54,_,Tryz.func54,by decide,rfl,rfl,by kernel_rfl,by kernel_rfl⟩
theorem Wx (W:World) (hW:WOK W):Yf (Yh Tryz.prog W) 54:=Us (Γ:=Yh Tryz.prog W) Ua (Ka W hW)
theorem abF:Has Tryz.prog 74 14 (jY 54) r_packages_any_1:=⟨Tryz.f74,_,Tryz.func74,by decide,rfl,rfl,by kernel_rfl,by kernel_rfl⟩
theorem adZ (W:World) (hW:WOK W):jv (Yh Tryz.prog W) 74:=acZ (Γ:=Yh Tryz.prog W) abF (Wx W hW)
theorem adB:Has Tryz.prog 35 10 (xF 74 34) r_packages_any:=⟨Tryz.f35,_,Tryz.func35,by decide,rfl,rfl,by kernel_rfl,by kernel_rfl⟩
theorem afD (W:World) (hW:WOK W):yW (Yh Tryz.prog W) 35:=aeO (Γ:=Yh Tryz.prog W) adB (adZ W hW) (XJ W hW)
theorem acS:Has Tryz.prog 37 27 yN r_catalog_Named:=⟨Tryz.f37,_,Tryz.func37,by decide,rfl,rfl,by kernel_rfl,by kernel_rfl⟩
theorem vS (W:World) (hW:WOK W):KD (Yh Tryz.prog W) 37:=adU (Γ:=Yh Tryz.prog W) acS
theorem aam:Has Tryz.prog 36 7 (qB 37) r_packages_Check_2:=⟨Tryz.f36,_,Tryz.func36,by decide,rfl,rfl,by kernel_rfl,by kernel_rfl⟩
theorem acd (W:World) (hW:WOK W):K0 (Yh Tryz.prog W) 36:=aa7 (Γ:=Yh Tryz.prog W) aam (vS W hW)
theorem aal:Has Tryz.prog 38 7 (qA 37) r_packages_Check_3:=⟨Tryz.f38,_,Tryz.func38,by decide,rfl,rfl,by kernel_rfl,by kernel_rfl⟩
theorem acb (W:World) (hW:WOK W):KZ (Yh Tryz.prog W) 38:=aa6 (Γ:=Yh Tryz.prog W) aal (vS W hW)
theorem aak:Has Tryz.prog 39 7 (qz 40) r_packages_Check_4:=⟨Tryz.f39,_,Tryz.func39,by decide,rfl,rfl,by kernel_rfl,by kernel_rfl⟩
theorem aca (W:World) (hW:WOK W):KY (Yh Tryz.prog W) 39:=aa5 (Γ:=Yh Tryz.prog W) aak (UE W hW)
theorem aaQ:Has Tryz.prog 42 23 (jf 40) r_packages_ranged:=⟨Tryz.f42,_,Tryz.func42,by decide,rfl,rfl,by kernel_rfl,by kernel_rfl⟩
theorem xV (W:World) (hW:WOK W):UH (Yh Tryz.prog W) 42:=abP (Γ:=Yh Tryz.prog W) aaQ (UE W hW)
theorem aaj:Has Tryz.prog 41 7 (qy 42) r_packages_Check_5:=⟨Tryz.f41,_,Tryz.func41,by decide,rfl,rfl,by kernel_rfl,by kernel_rfl⟩
theorem ab9 (W:World) (hW:WOK W):KX (Yh Tryz.prog W) 41:=aa4 (Γ:=Yh Tryz.prog W) aaj (xV W hW)
theorem abH:Has Tryz.prog 10 42 (c_packages_Check 33 34 35 36 38 39 41) r_packages_Check:=⟨Tryz.f10,_,Tryz.func10,by decide,rfl,rfl,by kernel_rfl,by kernel_rfl⟩
theorem j3 (W:World) (hW:WOK W):VW (Yh Tryz.prog W) 10:=ac1 (Γ:=Yh Tryz.prog W) abH (ace W hW) (XJ W hW) (afD W hW) (acd W hW) (acb W hW) (aca W hW) (ab9 W hW)
theorem aaR:Has Tryz.prog 95 8 jg r_packages_find_1:=⟨Tryz.f95,_,Tryz.func95,by decide,rfl,rfl,by kernel_rfl,by kernel_rfl⟩
theorem ada (W:World) (hW:WOK W):qK (Yh Tryz.prog W) 95:=abQ (Γ:=Yh Tryz.prog W) aaR
theorem acK:Has Tryz.prog 75 8 (yG 95 73) r_packages_find:=⟨Tryz.f75,_,Tryz.func75,by decide,rfl,rfl,by kernel_rfl,by kernel_rfl⟩
theorem vO (W:World) (hW:WOK W):KA (Yh Tryz.prog W) 75:=adM (Γ:=Yh Tryz.prog W) acK (ada W hW) (X6 W hW)
theorem adA:Has Tryz.prog 56 23 (c_packages_met 75 26) r_packages_met:=⟨Tryz.f56,_,Tryz.func56,by decide,rfl,rfl,by kernel_rfl,by kernel_rfl⟩
theorem aaF (W:World) (hW:WOK W):qJ (Yh Tryz.prog W) 56:=aeN (Γ:=Yh Tryz.prog W) adA (vO W hW) (wR W hW)
theorem vi:Has Tryz.prog 55 8 (Kg 56) r_packages_Missing_1:=⟨Tryz.f55,_,Tryz.func55,by decide,rfl,rfl,by kernel_rfl,by kernel_rfl⟩
theorem aaq (W:World) (hW:WOK W):UZ (Yh Tryz.prog W) 55:=vD (Γ:=Yh Tryz.prog W) vi (aaF W hW)
theorem aah:Has Tryz.prog 16 30 (qv 10 55 54) r_packages_Missing:=⟨Tryz.f16,_,Tryz.func16,by decide,rfl,rfl,by kernel_rfl,by kernel_rfl⟩
theorem ab8 (W:World) (hW:WOK W):KW (Yh Tryz.prog W) 16:=aa2 (Γ:=Yh Tryz.prog W) aah (j3 W hW) (aaq W hW) (Wx W hW)
theorem afj:Has Tryz.prog 63 28 vL r_ref03_Name:=⟨Tryz.f63,_,Tryz.func63,by decide,rfl,rfl,by kernel_rfl,by kernel_rfl⟩
theorem ah6 (W:World) (hW:WOK W):wV (Yh Tryz.prog W) 63:=agK (Γ:=Yh Tryz.prog W) afj
theorem aey:Has Tryz.prog 64 30 wB r_ref12_right:=⟨Tryz.f64,_,Tryz.func64,by decide,rfl,rfl,by kernel_rfl,by kernel_rfl⟩
theorem ab5 (W:World) (hW:WOK W):jE (Yh Tryz.prog W) 64:=afp (Γ:=Yh Tryz.prog W) aey
theorem ady:Has Tryz.prog 59 23 (xD 64) r_ref12_Ranged:=⟨Tryz.f59,_,Tryz.func59,by decide,rfl,rfl,by kernel_rfl,by kernel_rfl⟩
theorem aaE (W:World) (hW:WOK W):qH (Yh Tryz.prog W) 59:=aeL (Γ:=Yh Tryz.prog W) ady (ab5 W hW)
theorem aeB:Has Tryz.prog 20 119 (c_ref12_Check 63 64 59) r_ref12_Check:=⟨Tryz.f20,_,Tryz.func20,by decide,rfl,rfl,by kernel_rfl,by kernel_rfl⟩
theorem yl (W:World) (hW:WOK W):Uy (Yh Tryz.prog W) 20:=afs (Γ:=Yh Tryz.prog W) aeB (ah6 W hW) (ab5 W hW) (aaE W hW)
theorem afh:Has Tryz.prog 113 13 vK r_ref12_part:=⟨Tryz.f113,_,Tryz.func113,by decide,rfl,rfl,by kernel_rfl,by kernel_rfl⟩
theorem ah4 (W:World) (hW:WOK W):wS (Yh Tryz.prog W) 113:=agI (Γ:=Yh Tryz.prog W) afh
theorem acH:Has Tryz.prog 86 32 (yD 113) r_ref12_Compare:=⟨Tryz.f86,_,Tryz.func86,by decide,rfl,rfl,by kernel_rfl,by kernel_rfl⟩
theorem ae6 (W:World) (hW:WOK W):j6 (Yh Tryz.prog W) 86:=adJ (Γ:=Yh Tryz.prog W) acH (ah4 W hW)
theorem ahs:Has Tryz.prog 61 29 (ac5 86) r_ref12_In:=⟨Tryz.f61,_,Tryz.func61,by decide,rfl,rfl,by kernel_rfl,by kernel_rfl⟩
theorem agh (W:World) (hW:WOK W):wU (Yh Tryz.prog W) 61:=aiG (Γ:=Yh Tryz.prog W) ahs (ae6 W hW)
theorem agz:Has Tryz.prog 57 31 (c_ref12_met 61) r_ref12_met:=⟨Tryz.f57,_,Tryz.func57,by decide,rfl,rfl,by kernel_rfl,by kernel_rfl⟩
theorem ae4 (W:World) (hW:WOK W):xm (Yh Tryz.prog W) 57:=ahL (Γ:=Yh Tryz.prog W) agz (agh W hW)
theorem acG:Has Tryz.prog 17 55 (yC 20 57) r_ref12_Missing:=⟨Tryz.f17,_,Tryz.func17,by decide,rfl,rfl,by kernel_rfl,by kernel_rfl⟩
theorem ae5 (W:World) (hW:WOK W):j5 (Yh Tryz.prog W) 17:=adI (Γ:=Yh Tryz.prog W) acG (yl W hW) (ae4 W hW)
theorem abD:Has Tryz.prog 43 19 (jW 10 75) r_packages_start:=⟨Tryz.f43,_,Tryz.func43,by decide,rfl,rfl,by kernel_rfl,by kernel_rfl⟩
theorem vc (W:World) (hW:WOK W):Kb (Yh Tryz.prog W) 43:=acX (Γ:=Yh Tryz.prog W) abD (j3 W hW) (vO W hW)
theorem y4:Has Tryz.prog 76 8 VT r_slices_Clone___int_int:=⟨Tryz.f76,_,Tryz.func76,by decide,rfl,rfl,by kernel_rfl,by kernel_rfl⟩
theorem xU (W:World) (hW:WOK W):VH (Yh Tryz.prog W) 76:=xC (Γ:=Yh Tryz.prog W) y4
theorem y3:Has Tryz.prog 96 19 VS r_slices_Index___int_int:=⟨Tryz.f96,_,Tryz.func96,by decide,rfl,rfl,by kernel_rfl,by kernel_rfl⟩
theorem K9 (W:World) (hW:WOK W):WM (Yh Tryz.prog W) 96:=xB (Γ:=Yh Tryz.prog W) y3
theorem jU:Has Tryz.prog 77 9 (Vo 96) r_slices_Contains___int_int:=⟨Tryz.f77,_,Tryz.func77,by decide,rfl,rfl,by kernel_rfl,by kernel_rfl⟩
theorem UX (W:World) (hW:WOK W):X3 (Yh Tryz.prog W) 77:=yk (Γ:=Yh Tryz.prog W) jU (K9 W hW)
theorem aaV:Has Tryz.prog 109 25 jk r_math_bits_Len64:=⟨Tryz.f109,_,Tryz.func109,by decide,rfl,rfl,by kernel_rfl,by kernel_rfl⟩
theorem adf (W:World) (hW:WOK W):qO (Yh Tryz.prog W) 109:=abU (Γ:=Yh Tryz.prog W) aaV
theorem acN:Has Tryz.prog 83 8 (yI 108 109) r_math_bits_Len:=⟨Tryz.f83,_,Tryz.func83,by decide,rfl,rfl,by kernel_rfl,by kernel_rfl⟩
theorem vP (W:World) (hW:WOK W):Uu (Yh Tryz.prog W) 83:=adP (Γ:=Yh Tryz.prog W) acN (adf W hW)
theorem adD:Has Tryz.prog 131 17 (xG 94) r_cmp_Less_int:=⟨Tryz.f131,_,Tryz.func131,by decide,rfl,rfl,by kernel_rfl,by kernel_rfl⟩
theorem aaG (W:World) (hW:WOK W):qP (Yh Tryz.prog W) 131:=aeQ (Γ:=Yh Tryz.prog W) adD (vR W hW)
theorem KO:Has Tryz.prog 125 49 (c_slices_insertionSortOrdered_int 131) r_slices_insertionSortOrdered_int:=⟨Tryz.f125,_,Tryz.func125,by decide,rfl,rfl,by kernel_rfl,by kernel_rfl⟩
theorem qG (W:World) (hW:WOK W):X5 (Yh Tryz.prog W) 125:=qa (Γ:=Yh Tryz.prog W) KO (aaG W hW)
theorem jT:Has Tryz.prog 97 134 (c_slices_pdqsortOrdered_int 125 126 127 128 129 130 131 132 133 97) r_slices_pdqsortOrdered_int:=⟨Tryz.f97,_,Tryz.func97,by decide,rfl,rfl,by kernel_rfl,by kernel_rfl⟩
theorem yR (W:World) (hW:WOK W):Va (Yh Tryz.prog W) 97:=yj (Γ:=Yh Tryz.prog W) jT (qG W hW) (aaG W hW)
theorem xz:Has Tryz.prog 78 11 (Ug 83 97) r_slices_Sort___int_int:=⟨Tryz.f78,_,Tryz.func78,by decide,rfl,rfl,by kernel_rfl,by kernel_rfl⟩
theorem wQ (W:World) (hW:WOK W):VV (Yh Tryz.prog W) 78:=xT (Γ:=Yh Tryz.prog W) xz (vP W hW) (yR W hW)
theorem abE:Has Tryz.prog 44 62 (jX 76 56 77 78) r_packages_reach:=⟨Tryz.f44,_,Tryz.func44,by decide,rfl,rfl,by kernel_rfl,by kernel_rfl⟩
theorem vd (W:World) (hW:WOK W):Kc (Yh Tryz.prog W) 44:=acY (Γ:=Yh Tryz.prog W) abE (xU W hW) (aaF W hW) (UX W hW) (wQ W hW)
theorem abG:Has Tryz.prog 11 38 (jZ 43 44) r_packages_Reach:=⟨Tryz.f11,_,Tryz.func11,by decide,rfl,rfl,by kernel_rfl,by kernel_rfl⟩
theorem ad0 (W:World) (hW:WOK W):jw (Yh Tryz.prog W) 11:=ac0 (Γ:=Yh Tryz.prog W) abG (vc W hW) (vd W hW)
theorem aez:Has Tryz.prog 58 87 (wC 57) r_ref12_reach:=⟨Tryz.f58,_,Tryz.func58,by decide,rfl,rfl,by kernel_rfl,by kernel_rfl⟩
theorem ab6 (W:World) (hW:WOK W):jF (Yh Tryz.prog W) 58:=afq (Γ:=Yh Tryz.prog W) aez (ae4 W hW)
theorem aeA:Has Tryz.prog 18 43 (wD 20 58) r_ref12_Reach:=⟨Tryz.f18,_,Tryz.func18,by decide,rfl,rfl,by kernel_rfl,by kernel_rfl⟩
theorem agS (W:World) (hW:WOK W):xN (Yh Tryz.prog W) 18:=afr (Γ:=Yh Tryz.prog W) aeA (yl W hW) (ab6 W hW)
theorem Un:Has Tryz.prog 79 19 Y5 r_slices_IndexFunc___api_Known_api_Known:=⟨Tryz.f79,_,Tryz.func79,by decide,rfl,rfl,by kernel_rfl,by kernel_rfl⟩
theorem UK (W:World) (hW:WOK W):YY (Yh Tryz.prog W) 79:=UA (Γ:=Yh Tryz.prog W) Un
theorem VJ:Has Tryz.prog 45 9 (YS 79) r_slices_ContainsFunc___api_Known_api_Known:=⟨Tryz.f45,_,Tryz.func45,by decide,rfl,rfl,by kernel_rfl,by kernel_rfl⟩
theorem Ui (W:World) (hW:WOK W):YO (Yh Tryz.prog W) 45:=VY (Γ:=Yh Tryz.prog W) VJ (UK W hW)
theorem aaU:Has Tryz.prog 46 7 (jj 42) r_packages_Uses_1:=⟨Tryz.f46,_,Tryz.func46,by decide,rfl,rfl,by kernel_rfl,by kernel_rfl⟩
theorem ade (W:World) (hW:WOK W):qN (Yh Tryz.prog W) 46:=abT (Γ:=Yh Tryz.prog W) aaU (xV W hW)
theorem adE:Has Tryz.prog 134 46 xH r_catalog_rows:=⟨Tryz.f134,_,Tryz.func134,by decide,rfl,rfl,by kernel_rfl,by kernel_rfl⟩
theorem afF (W:World) (hW:WOK W):yY (Yh Tryz.prog W) 134:=aeR (Γ:=Yh Tryz.prog W) adE
theorem afm:Has Tryz.prog 98 14 (vN 134) r_catalog_of:=⟨Tryz.f98,_,Tryz.func98,by decide,rfl,rfl,by kernel_rfl,by kernel_rfl⟩
theorem ah9 (W:World) (hW:WOK W):wY (Yh Tryz.prog W) 98:=agN (Γ:=Yh Tryz.prog W) afm (afF W hW)
theorem aaZ:Has Tryz.prog 99 21 jn r_catalog_modulus:=⟨Tryz.f99,_,Tryz.func99,by decide,rfl,rfl,by kernel_rfl,by kernel_rfl⟩
theorem adh (W:World) (hW:WOK W):qR (Yh Tryz.prog W) 99:=abY (Γ:=Yh Tryz.prog W) aaZ
theorem aao:Has Tryz.prog 80 61 (qD 98 99 77 96) r_catalog_Strength:=⟨Tryz.f80,_,Tryz.func80,by decide,rfl,rfl,by kernel_rfl,by kernel_rfl⟩
theorem acg (W:World) (hW:WOK W):K6 (Yh Tryz.prog W) 80:=aa9 (Γ:=Yh Tryz.prog W) aao (ah9 W hW) (adh W hW) (UX W hW) (K9 W hW)
theorem acR:Has Tryz.prog 48 6 (yM 80) r_catalog_Valid:=⟨Tryz.f48,_,Tryz.func48,by decide,rfl,rfl,by kernel_rfl,by kernel_rfl⟩
theorem afb (W:World) (hW:WOK W):yc (Yh Tryz.prog W) 48:=adT (Γ:=Yh Tryz.prog W) acR (acg W hW)
theorem aaT:Has Tryz.prog 47 6 (ji 48) r_packages_Uses_2:=⟨Tryz.f47,_,Tryz.func47,by decide,rfl,rfl,by kernel_rfl,by kernel_rfl⟩
theorem adc (W:World) (hW:WOK W):qM (Yh Tryz.prog W) 47:=abS (Γ:=Yh Tryz.prog W) aaT (afb W hW)
theorem U1:Has Tryz.prog 81 19 XG r_slices_IndexFunc___api_Use_api_Use:=⟨Tryz.f81,_,Tryz.func81,by decide,rfl,rfl,by kernel_rfl,by kernel_rfl⟩
theorem Kv (W:World) (hW:WOK W):Xv (Yh Tryz.prog W) 81:=Kf (Γ:=Yh Tryz.prog W) U1
theorem Uz:Has Tryz.prog 50 9 (Xe 81) r_slices_ContainsFunc___api_Use_api_Use:=⟨Tryz.f50,_,Tryz.func50,by decide,rfl,rfl,by kernel_rfl,by kernel_rfl⟩
theorem UY (W:World) (hW:WOK W):Y6 (Yh Tryz.prog W) 50:=UJ (Γ:=Yh Tryz.prog W) Uz (Kv W hW)
theorem aaS:Has Tryz.prog 49 8 (jh 50) r_packages_Uses_3:=⟨Tryz.f49,_,Tryz.func49,by decide,rfl,rfl,by kernel_rfl,by kernel_rfl⟩
theorem adb (W:World) (hW:WOK W):qL (Yh Tryz.prog W) 49:=abR (Γ:=Yh Tryz.prog W) aaS (UY W hW)
theorem UM:Has Tryz.prog 100 53 c_slices_insertionSortCmpFunc_api_Use r_slices_insertionSortCmpFunc_api_Use:=⟨Tryz.f100,_,Tryz.func100,by decide,rfl,rfl,by kernel_rfl,by kernel_rfl⟩
theorem Ki (W:World) (hW:WOK W):Xq (Yh Tryz.prog W) 100:=U7 (Γ:=Yh Tryz.prog W) UM
theorem qh:Has Tryz.prog 82 148 (c_slices_pdqsortCmpFunc_api_Use 100 101 102 103 104 105 106 107 82) r_slices_pdqsortCmpFunc_api_Use:=⟨Tryz.f82,_,Tryz.func82,by decide,rfl,rfl,by kernel_rfl,by kernel_rfl⟩
theorem jr (W:World) (hW:WOK W):Ws (Yh Tryz.prog W) 82:=qT (Γ:=Yh Tryz.prog W) qh (Ki W hW)
theorem Ke:Has Tryz.prog 51 14 (XW 83 82) r_slices_SortFunc___api_Use_api_Use:=⟨Tryz.f51,_,Tryz.func51,by decide,rfl,rfl,by kernel_rfl,by kernel_rfl⟩
theorem KU (W:World) (hW:WOK W):XK (Yh Tryz.prog W) 51:=Ks (Γ:=Yh Tryz.prog W) Ke (vP W hW) (jr W hW)
theorem adF:Has Tryz.prog 52 20 xI r_catalog_Less:=⟨Tryz.f52,_,Tryz.func52,by decide,rfl,rfl,by kernel_rfl,by kernel_rfl⟩
theorem afG (W:World) (hW:WOK W):yZ (Yh Tryz.prog W) 52:=aeS (Γ:=Yh Tryz.prog W) adF
theorem Kn:Has Tryz.prog 53 61 c_slices_Compact___api_Use_api_Use r_slices_Compact___api_Use_api_Use:=⟨Tryz.f53,_,Tryz.func53,by decide,rfl,rfl,by kernel_rfl,by kernel_rfl⟩
theorem qb (W:World) (hW:WOK W):XZ (Yh Tryz.prog W) 53:=KP (Γ:=Yh Tryz.prog W) Kn
theorem acL:Has Tryz.prog 13 72 (c_packages_Uses 43 45 46 47 49 44 26 51 52 53) r_packages_Uses:=⟨Tryz.f13,_,Tryz.func13,by decide,rfl,rfl,by kernel_rfl,by kernel_rfl⟩
theorem ae9 (W:World) (hW:WOK W):j9 (Yh Tryz.prog W) 13:=adN (Γ:=Yh Tryz.prog W) acL (vc W hW) (Ui W hW) (ade W hW) (adc W hW) (adb W hW) (vd W hW) (wR W hW) (KU W hW) (afG W hW) (qb W hW)
theorem acI:Has Tryz.prog 110 25 yE r_ref02_modulus:=⟨Tryz.f110,_,Tryz.func110,by decide,rfl,rfl,by kernel_rfl,by kernel_rfl⟩
theorem ae7 (W:World) (hW:WOK W):j7 (Yh Tryz.prog W) 110:=adK (Γ:=Yh Tryz.prog W) acI
theorem aeC:Has Tryz.prog 111 24 wE r_ref02_among:=⟨Tryz.f111,_,Tryz.func111,by decide,rfl,rfl,by kernel_rfl,by kernel_rfl⟩
theorem agT (W:World) (hW:WOK W):xO (Yh Tryz.prog W) 111:=aft (Γ:=Yh Tryz.prog W) aeC
theorem adz:Has Tryz.prog 112 21 xE r_ref02_single:=⟨Tryz.f112,_,Tryz.func112,by decide,rfl,rfl,by kernel_rfl,by kernel_rfl⟩
theorem afC (W:World) (hW:WOK W):yV (Yh Tryz.prog W) 112:=aeM (Γ:=Yh Tryz.prog W) adz
theorem abB:Has Tryz.prog 85 76 (jV 110 111 112) r_ref02_Strength:=⟨Tryz.f85,_,Tryz.func85,by decide,rfl,rfl,by kernel_rfl,by kernel_rfl⟩
theorem adX (W:World) (hW:WOK W):jt (Yh Tryz.prog W) 85:=acV (Γ:=Yh Tryz.prog W) abB (ae7 W hW) (agT W hW) (afC W hW)
theorem aeD:Has Tryz.prog 60 6 (wF 85) r_ref02_Valid:=⟨Tryz.f60,_,Tryz.func60,by decide,rfl,rfl,by kernel_rfl,by kernel_rfl⟩
theorem agU (W:World) (hW:WOK W):xP (Yh Tryz.prog W) 60:=afu (Γ:=Yh Tryz.prog W) aeD (adX W hW)
theorem agA:Has Tryz.prog 62 67 c_ref11_Put r_ref11_Put:=⟨Tryz.f62,_,Tryz.func62,by decide,rfl,rfl,by kernel_rfl,by kernel_rfl⟩
theorem aiZ (W:World) (hW:WOK W):vV (Yh Tryz.prog W) 62:=ahM (Γ:=Yh Tryz.prog W) agA
theorem afi:Has Tryz.prog 19 133 (c_ref12_Uses 20 58 59 60 61 62) r_ref12_Uses:=⟨Tryz.f19,_,Tryz.func19,by decide,rfl,rfl,by kernel_rfl,by kernel_rfl⟩
theorem ah5 (W:World) (hW:WOK W):wT (Yh Tryz.prog W) 19:=agJ (Γ:=Yh Tryz.prog W) afi (yl W hW) (ab6 W hW) (aaE W hW) (agU W hW) (agh W hW) (aiZ W hW)
theorem aaP:Has Tryz.prog 21 26 c_ref02_SameTexts r_ref02_SameTexts:=⟨Tryz.f21,_,Tryz.func21,by decide,rfl,rfl,by kernel_rfl,by kernel_rfl⟩
theorem ac9 (W:World) (hW:WOK W):qI (Yh Tryz.prog W) 21:=abO (Γ:=Yh Tryz.prog W) aaP
theorem abC:Has Tryz.prog 22 26 c_ref02_SameUses r_ref02_SameUses:=⟨Tryz.f22,_,Tryz.func22,by decide,rfl,rfl,by kernel_rfl,by kernel_rfl⟩
theorem adY (W:World) (hW:WOK W):ju (Yh Tryz.prog W) 22:=acW (Γ:=Yh Tryz.prog W) abC
theorem vj:Has Tryz.prog 4 114 (Kh 5 6 7 8 9 15 16 17 11 18 13 19 10 20 21 22) r_law12_PackagesMade:=⟨Tryz.f4,_,Tryz.func4,by decide,rfl,rfl,by kernel_rfl,by kernel_rfl⟩
theorem aar (W:World) (hW:WOK W):jO (Yh Tryz.prog W) 4:=vE (Γ:=Yh Tryz.prog W) vj (ah7 W hW) (agV W hW) (ai1 W hW) (ah8 W hW) (afE W hW) (js W hW) (ab8 W hW) (ae5 W hW) (ad0 W hW) (agS W hW) (ae9 W hW) (ah5 W hW) (j3 W hW) (yl W hW) (ac9 W hW) (adY W hW)
end Go.Proofs.YtalpffbofjlfgaaGreatDoor
end

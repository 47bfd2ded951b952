/- The functions of the program that the law reaches: their contracts at this seat. -/
import Derived.Test.YtmclfdgmbfdacaaGreatDoorLibB
import Derived.Test.YtmclfdgmbfdacaaGreatDoorWm
import Derived.KernelRfl
set_option linter.unusedVariables false
set_option linter.unusedSimpArgs false
section
namespace Go.Proofs.YtmclfdgmbfdacaaGreatDoor
open Go Av Go.RowKit
set_option maxRecDepth 100000
set_option linter.unusedVariables false
theorem aam : Has Tryz.prog 4 6 yf r_make_Light := ⟨Tryz.f4, _, Tryz.func4, by decide, rfl, rfl, by kernel_rfl, by kernel_rfl⟩
theorem acQ (W : World) (hW : WOK W) : jI (Xn Tryz.prog W) 4 := aby (Γ := Xn Tryz.prog W) aam
theorem xS : Has Tryz.prog 64 29 Kz r_rule_line__is := ⟨Tryz.f64, _, Tryz.func64, by decide, rfl, rfl, by kernel_rfl, by kernel_rfl⟩
theorem KH (W : World) (hW : WOK W) : Ww (Xn Tryz.prog W) 64 := wK (Γ := Xn Tryz.prog W) xS
theorem yT : Has Tryz.prog 65 25 Um r_rule_line__next := ⟨Tryz.f65, _, Tryz.func65, by decide, rfl, rfl, by kernel_rfl, by kernel_rfl⟩
theorem Uq (W : World) (hW : WOK W) : YX (Xn Tryz.prog W) 65 := xn (Γ := Xn Tryz.prog W) yT
theorem wG : Has Tryz.prog 70 46 qt r_catalog_rows := ⟨Tryz.f70, _, Tryz.func70, by decide, rfl, rfl, by kernel_rfl, by kernel_rfl⟩
theorem yM (W : World) (hW : WOK W) : Ud (Xn Tryz.prog W) 70 := vI (Γ := Xn Tryz.prog W) wG
theorem wI : Has Tryz.prog 66 20 (qv 70) r_catalog_Find := ⟨Tryz.f66, _, Tryz.func66, by decide, rfl, rfl, by kernel_rfl, by kernel_rfl⟩
theorem aaB (W : World) (hW : WOK W) : KQ (Xn Tryz.prog W) 66 := vK (Γ := Xn Tryz.prog W) wI (yM W hW)
theorem abj : Has Tryz.prog 67 26 (yX 64 65) r_rule_part := ⟨Tryz.f67, _, Tryz.func67, by decide, rfl, rfl, by kernel_rfl, by kernel_rfl⟩
theorem adA (W : World) (hW : WOK W) : yo (Xn Tryz.prog W) 67 := acr (Γ := Xn Tryz.prog W) abj (KH W hW) (Uq W hW)
theorem wC : Has Tryz.prog 81 47 (c_rule_decimal 91) r_rule_decimal := ⟨Tryz.f81, _, Tryz.func81, by decide, rfl, rfl, by kernel_rfl, by kernel_rfl⟩
theorem aax (W : World) (hW : WOK W) : KM (Xn Tryz.prog W) 81 := vE (Γ := Xn Tryz.prog W) wC (aav W hW)
theorem vu : Has Tryz.prog 68 9 (jr 81) r_rule_number := ⟨Tryz.f68, _, Tryz.func68, by decide, rfl, rfl, by kernel_rfl, by kernel_rfl⟩
theorem xv (W : World) (hW : WOK W) : UC (Xn Tryz.prog W) 68 := aao (Γ := Xn Tryz.prog W) vu (aax W hW)
theorem xR : Has Tryz.prog 24 2 Ky r_rule_purposes := ⟨Tryz.f24, _, Tryz.func24, by decide, rfl, rfl, by kernel_rfl, by kernel_rfl⟩
theorem KG (W : World) (hW : WOK W) : Wv (Xn Tryz.prog W) 24 := wJ (Γ := Xn Tryz.prog W) xR
theorem Uf : Has Tryz.prog 40 19 XD r_slices_Index___string_string := ⟨Tryz.f40, _, Tryz.func40, by decide, rfl, rfl, by kernel_rfl, by kernel_rfl⟩
theorem UJ (W : World) (hW : WOK W) : Xt (Xn Tryz.prog W) 40 := Uk (Γ := Xn Tryz.prog W) Uf
theorem wD : Has Tryz.prog 17 9 (qp 24 40) r_rule_Purpose := ⟨Tryz.f17, _, Tryz.func17, by decide, rfl, rfl, by kernel_rfl, by kernel_rfl⟩
theorem yL (W : World) (hW : WOK W) : Ua (Xn Tryz.prog W) 17 := vF (Γ := Xn Tryz.prog W) wD (KG W hW) (UJ W hW)
theorem wA : Has Tryz.prog 69 11 (qo 17) r_rule_purpose := ⟨Tryz.f69, _, Tryz.func69, by decide, rfl, rfl, by kernel_rfl, by kernel_rfl⟩
theorem yK (W : World) (hW : WOK W) : V9 (Xn Tryz.prog W) 69 := vC (Γ := Xn Tryz.prog W) wA (yL W hW)
theorem abh : Has Tryz.prog 56 58 (c_rule_rule 64 65 66 67 68 69) r_rule_rule := ⟨Tryz.f56, _, Tryz.func56, by decide, rfl, rfl, by kernel_rfl, by kernel_rfl⟩
theorem ady (W : World) (hW : WOK W) : ym (Xn Tryz.prog W) 56 := acp (Γ := Xn Tryz.prog W) abh (KH W hW) (Uq W hW) (aaB W hW) (adA W hW) (xv W hW) (yK W hW)
theorem abl : Has Tryz.prog 57 40 (c_rule_keep 64 65 69 68) r_rule_keep := ⟨Tryz.f57, _, Tryz.func57, by decide, rfl, rfl, by kernel_rfl, by kernel_rfl⟩
theorem adC (W : World) (hW : WOK W) : yr (Xn Tryz.prog W) 57 := acu (Γ := Xn Tryz.prog W) abl (KH W hW) (Uq W hW) (yK W hW) (xv W hW)
theorem abi : Has Tryz.prog 43 49 (c_rule_read 42 56 57) r_rule_read := ⟨Tryz.f43, _, Tryz.func43, by decide, rfl, rfl, by kernel_rfl, by kernel_rfl⟩
theorem adz (W : World) (hW : WOK W) : yn (Xn Tryz.prog W) 43 := acq (Γ := Xn Tryz.prog W) abi (yh W hW) (ady W hW) (adC W hW)
theorem WH : Has Tryz.prog 50 19 YP r_slices_IndexFunc___api_Rule_api_Rule := ⟨Tryz.f50, _, Tryz.func50, by decide, rfl, rfl, by kernel_rfl, by kernel_rfl⟩
theorem W5 (W : World) (hW : WOK W) : YD (Xn Tryz.prog W) 50 := WM (Γ := Xn Tryz.prog W) WH
theorem Wk : Has Tryz.prog 30 9 (Yz 50) r_slices_ContainsFunc___api_Rule_api_Rule := ⟨Tryz.f30, _, Tryz.func30, by decide, rfl, rfl, by kernel_rfl, by kernel_rfl⟩
theorem WC (W : World) (hW : WOK W) : Yu (Xn Tryz.prog W) 30 := Wr (Γ := Xn Tryz.prog W) Wk (W5 W hW)
theorem aae : Has Tryz.prog 32 48 j8 r_rule_ruled := ⟨Tryz.f32, _, Tryz.func32, by decide, rfl, rfl, by kernel_rfl, by kernel_rfl⟩
theorem acJ (W : World) (hW : WOK W) : jB (Xn Tryz.prog W) 32 := abq (Γ := Xn Tryz.prog W) aae
theorem wF : Has Tryz.prog 31 6 (qr 32) r_rule_Check_1 := ⟨Tryz.f31, _, Tryz.func31, by decide, rfl, rfl, by kernel_rfl, by kernel_rfl⟩
theorem aaz (W : World) (hW : WOK W) : KO (Xn Tryz.prog W) 31 := vH (Γ := Xn Tryz.prog W) wF (acJ W hW)
theorem WI : Has Tryz.prog 51 19 YQ r_slices_IndexFunc___api_Keep_api_Keep := ⟨Tryz.f51, _, Tryz.func51, by decide, rfl, rfl, by kernel_rfl, by kernel_rfl⟩
theorem W6 (W : World) (hW : WOK W) : YE (Xn Tryz.prog W) 51 := WN (Γ := Xn Tryz.prog W) WI
theorem Wl : Has Tryz.prog 33 9 (YA 51) r_slices_ContainsFunc___api_Keep_api_Keep := ⟨Tryz.f33, _, Tryz.func33, by decide, rfl, rfl, by kernel_rfl, by kernel_rfl⟩
theorem WD (W : World) (hW : WOK W) : Yv (Xn Tryz.prog W) 33 := Ws (Γ := Xn Tryz.prog W) Wl (W6 W hW)
theorem abk : Has Tryz.prog 35 21 yY r_rule_kept := ⟨Tryz.f35, _, Tryz.func35, by decide, rfl, rfl, by kernel_rfl, by kernel_rfl⟩
theorem adB (W : World) (hW : WOK W) : yq (Xn Tryz.prog W) 35 := acs (Γ := Xn Tryz.prog W) abk
theorem wE : Has Tryz.prog 34 6 (qq 35) r_rule_Check_2 := ⟨Tryz.f34, _, Tryz.func34, by decide, rfl, rfl, by kernel_rfl, by kernel_rfl⟩
theorem aay (W : World) (hW : WOK W) : KN (Xn Tryz.prog W) 34 := vG (Γ := Xn Tryz.prog W) wE (adB W hW)
theorem aah : Has Tryz.prog 12 25 (j9 30 31 33 34) r_rule_Check := ⟨Tryz.f12, _, Tryz.func12, by decide, rfl, rfl, by kernel_rfl, by kernel_rfl⟩
theorem yi (W : World) (hW : WOK W) : Ub (Xn Tryz.prog W) 12 := abt (Γ := Xn Tryz.prog W) aah (WC W hW) (aaz W hW) (WD W hW) (aay W hW)
theorem aag : Has Tryz.prog 19 83 (c_rule_Parse 41 42 43 12) r_rule_Parse := ⟨Tryz.f19, _, Tryz.func19, by decide, rfl, rfl, by kernel_rfl, by kernel_rfl⟩
theorem acL (W : World) (hW : WOK W) : jD (Xn Tryz.prog W) 19 := abs (Γ := Xn Tryz.prog W) aag (v6 W hW) (yh W hW) (adz W hW) (yi W hW)
theorem vz : Has Tryz.prog 5 35 (ju 19) r_law17_awake := ⟨Tryz.f5, _, Tryz.func5, by decide, rfl, rfl, by kernel_rfl, by kernel_rfl⟩
theorem abL (W : World) (hW : WOK W) : qG (Xn Tryz.prog W) 5 := aat (Γ := Xn Tryz.prog W) vz (acL W hW)
theorem abn : Has Tryz.prog 6 6 y6 r_make_Roll := ⟨Tryz.f6, _, Tryz.func6, by decide, rfl, rfl, by kernel_rfl, by kernel_rfl⟩
theorem adE (W : World) (hW : WOK W) : yv (Xn Tryz.prog W) 6 := acw (Γ := Xn Tryz.prog W) abn
theorem ach : Has Tryz.prog 21 14 wa r_make_Mod := ⟨Tryz.f21, _, Tryz.func21, by decide, rfl, rfl, by kernel_rfl, by kernel_rfl⟩
theorem aeZ (W : World) (hW : WOK W) : y8 (Xn Tryz.prog W) 21 := adj (Γ := Xn Tryz.prog W) ach
theorem yV : Has Tryz.prog 8 35 (c_make_Dice__Next 21) r_make_Dice__Next := ⟨Tryz.f8, _, Tryz.func8, by decide, rfl, rfl, by kernel_rfl, by kernel_rfl⟩
theorem Wb (W : World) (hW : WOK W) : Xl (Xn Tryz.prog W) 8 := xq (Γ := Xn Tryz.prog W) yV (aeZ W hW)
theorem xi : Has Tryz.prog 20 11 (UZ 8) r_make_Dice__One := ⟨Tryz.f20, _, Tryz.func20, by decide, rfl, rfl, by kernel_rfl, by kernel_rfl⟩
theorem wQ (W : World) (hW : WOK W) : Us (Xn Tryz.prog W) 20 := x7 (Γ := Xn Tryz.prog W) xi (Wb W hW)
theorem xV : Has Tryz.prog 9 12 (KB 8) r_make_Dice__Of := ⟨Tryz.f9, _, Tryz.func9, by decide, rfl, rfl, by kernel_rfl, by kernel_rfl⟩
theorem yj (W : World) (hW : WOK W) : Vm (Xn Tryz.prog W) 9 := wN (Γ := Xn Tryz.prog W) xV (Wb W hW)
theorem vy : Has Tryz.prog 7 71 (c_make_Policy 8 20 9) r_make_Policy := ⟨Tryz.f7, _, Tryz.func7, by decide, rfl, rfl, by kernel_rfl, by kernel_rfl⟩
theorem abK (W : World) (hW : WOK W) : qF (Xn Tryz.prog W) 7 := aas (Γ := Xn Tryz.prog W) vy (Wb W hW) (wQ W hW) (yj W hW)
theorem aan : Has Tryz.prog 59 14 (yg 70) r_catalog_of := ⟨Tryz.f59, _, Tryz.func59, by decide, rfl, rfl, by kernel_rfl, by kernel_rfl⟩
theorem acR (W : World) (hW : WOK W) : jJ (Xn Tryz.prog W) 59 := abz (Γ := Xn Tryz.prog W) aan (yM W hW)
theorem wH : Has Tryz.prog 45 12 (qu 59) r_catalog_Name := ⟨Tryz.f45, _, Tryz.func45, by decide, rfl, rfl, by kernel_rfl, by kernel_rfl⟩
theorem aaA (W : World) (hW : WOK W) : KP (Xn Tryz.prog W) 45 := vJ (Γ := Xn Tryz.prog W) wH (acR W hW)
theorem xf : Has Tryz.prog 46 13 UX r_rule_printed_1 := ⟨Tryz.f46, _, Tryz.func46, by decide, rfl, rfl, by kernel_rfl, by kernel_rfl⟩
theorem wP (W : World) (hW : WOK W) : Ur (Xn Tryz.prog W) 46 := xZ (Γ := Xn Tryz.prog W) xf
theorem wB : Has Tryz.prog 23 56 (c_rule_printed 45 46 25 24 47) r_rule_printed := ⟨Tryz.f23, _, Tryz.func23, by decide, rfl, rfl, by kernel_rfl, by kernel_rfl⟩
theorem aaw (W : World) (hW : WOK W) : KL (Xn Tryz.prog W) 23 := vD (Γ := Xn Tryz.prog W) wB (aaA W hW) (wP W hW) (yJ W hW) (KG W hW) (aau W hW)
theorem Ue : Has Tryz.prog 22 19 (XC 44 (aiJ Tryz.prog)) r_strings_Builder__WriteString := ⟨Tryz.f22, _, Tryz.func22, by decide, rfl, rfl, by kernel_rfl, by kernel_rfl⟩
theorem UI (W : World) (hW : WOK W) : Xs (Xn Tryz.prog W) 22 := Uj (Γ := Xn Tryz.prog W) Ue rfl (Kk W hW)
theorem aaf : Has Tryz.prog 10 48 (c_rule_Print 12 (ahp Tryz.prog) 23 22 24 25 26) r_rule_Print := ⟨Tryz.f10, _, Tryz.func10, by decide, rfl, rfl, by kernel_rfl, by kernel_rfl⟩
theorem acK (W : World) (hW : WOK W) : jC (Xn Tryz.prog W) 10 := abr (Γ := Xn Tryz.prog W) aaf rfl (yi W hW) (aaw W hW) (UI W hW) (KG W hW) (yJ W hW) (qC W hW)
theorem vv : Has Tryz.prog 36 48 js r_ref17_Ruled := ⟨Tryz.f36, _, Tryz.func36, by decide, rfl, rfl, by kernel_rfl, by kernel_rfl⟩
theorem abI (W : World) (hW : WOK W) : qD (Xn Tryz.prog W) 36 := aap (Γ := Xn Tryz.prog W) vv
theorem aai : Has Tryz.prog 37 21 yb r_ref17_kept := ⟨Tryz.f37, _, Tryz.func37, by decide, rfl, rfl, by kernel_rfl, by kernel_rfl⟩
theorem acM (W : World) (hW : WOK W) : jE (Xn Tryz.prog W) 37 := abu (Γ := Xn Tryz.prog W) aai
theorem vx : Has Tryz.prog 13 43 (jt 36 37) r_ref17_Check := ⟨Tryz.f13, _, Tryz.func13, by decide, rfl, rfl, by kernel_rfl, by kernel_rfl⟩
theorem xw (W : World) (hW : WOK W) : UD (Xn Tryz.prog W) 13 := aar (Γ := Xn Tryz.prog W) vx (abI W hW) (acM W hW)
theorem aak : Has Tryz.prog 49 25 yc r_ref02_rows := ⟨Tryz.f49, _, Tryz.func49, by decide, rfl, rfl, by kernel_rfl, by kernel_rfl⟩
theorem acO (W : World) (hW : WOK W) : jG (Xn Tryz.prog W) 49 := abw (Γ := Xn Tryz.prog W) aak
theorem aal : Has Tryz.prog 27 14 (ye 49) r_ref02_Name := ⟨Tryz.f27, _, Tryz.func27, by decide, rfl, rfl, by kernel_rfl, by kernel_rfl⟩
theorem acP (W : World) (hW : WOK W) : jH (Xn Tryz.prog W) 27 := abx (Γ := Xn Tryz.prog W) aal (acO W hW)
theorem xU : Has Tryz.prog 28 20 (c_ref02_Decimal 28) r_ref02_Decimal := ⟨Tryz.f28, _, Tryz.func28, by decide, rfl, rfl, by kernel_rfl, by kernel_rfl⟩
theorem v8 (W : World) (hW : WOK W) : Ke (Xn Tryz.prog W) 28 := wM (Γ := Xn Tryz.prog W) xU
theorem xh : Has Tryz.prog 29 2 UY r_ref17_purposes := ⟨Tryz.f29, _, Tryz.func29, by decide, rfl, rfl, by kernel_rfl, by kernel_rfl⟩
theorem jQ (W : World) (hW : WOK W) : W7 (Xn Tryz.prog W) 29 := x6 (Γ := Xn Tryz.prog W) xh
theorem vw : Has Tryz.prog 11 112 (c_ref17_Print 13 27 28 29) r_ref17_Print := ⟨Tryz.f11, _, Tryz.func11, by decide, rfl, rfl, by kernel_rfl, by kernel_rfl⟩
theorem abJ (W : World) (hW : WOK W) : qE (Xn Tryz.prog W) 11 := aaq (Γ := Xn Tryz.prog W) vw (xw W hW) (acP W hW) (v8 W hW) (jQ W hW)
theorem Vc : Has Tryz.prog 38 26 c_slices_Equal___api_Rule_api_Rule r_slices_Equal___api_Rule_api_Rule := ⟨Tryz.f38, _, Tryz.func38, by decide, rfl, rfl, by kernel_rfl, by kernel_rfl⟩
theorem VI (W : World) (hW : WOK W) : Y9 (Xn Tryz.prog W) 38 := Vy (Γ := Xn Tryz.prog W) Vc
theorem Vd : Has Tryz.prog 39 26 c_slices_Equal___api_Keep_api_Keep r_slices_Equal___api_Keep_api_Keep := ⟨Tryz.f39, _, Tryz.func39, by decide, rfl, rfl, by kernel_rfl, by kernel_rfl⟩
theorem VJ (W : World) (hW : WOK W) : Xa (Xn Tryz.prog W) 39 := Vz (Γ := Xn Tryz.prog W) Vd
theorem abm : Has Tryz.prog 14 17 (yZ 38 39) r_rule_Same := ⟨Tryz.f14, _, Tryz.func14, by decide, rfl, rfl, by kernel_rfl, by kernel_rfl⟩
theorem adD (W : World) (hW : WOK W) : yu (Xn Tryz.prog W) 14 := acv (Γ := Xn Tryz.prog W) abm (VI W hW) (VJ W hW)
theorem aaj : Has Tryz.prog 15 59 c_ref17_Same r_ref17_Same := ⟨Tryz.f15, _, Tryz.func15, by decide, rfl, rfl, by kernel_rfl, by kernel_rfl⟩
theorem acN (W : World) (hW : WOK W) : jF (Xn Tryz.prog W) 15 := abv (Γ := Xn Tryz.prog W) aaj
theorem yU : Has Tryz.prog 16 12 (Un 8) r_make_Dice__Word := ⟨Tryz.f16, _, Tryz.func16, by decide, rfl, rfl, by kernel_rfl, by kernel_rfl⟩
theorem wc (W : World) (hW : WOK W) : Uc (Xn Tryz.prog W) 16 := xp (Γ := Xn Tryz.prog W) yU (Wb W hW)
theorem xT : Has Tryz.prog 18 19 (KA 29) r_ref17_Purpose := ⟨Tryz.f18, _, Tryz.func18, by decide, rfl, rfl, by kernel_rfl, by kernel_rfl⟩
theorem v7 (W : World) (hW : WOK W) : Kd (Xn Tryz.prog W) 18 := wL (Γ := Xn Tryz.prog W) xT (jQ W hW)
theorem xj : Has Tryz.prog 3 178 (c_law17_RuleMade 4 5 6 7 8 9 10 11 12 13 14 15 16 17 18) r_law17_RuleMade := ⟨Tryz.f3, _, Tryz.func3, by decide, rfl, rfl, by kernel_rfl, by kernel_rfl⟩
theorem wR (W : World) (hW : WOK W) : qO (Xn Tryz.prog W) 3 := x8 (Γ := Xn Tryz.prog W) xj (acQ W hW) (abL W hW) (adE W hW) (abK W hW) (Wb W hW) (yj W hW) (acK W hW) (abJ W hW) (yi W hW) (xw W hW) (adD W hW) (acN W hW) (wc W hW) (yL W hW) (v7 W hW)
end Go.Proofs.YtmclfdgmbfdacaaGreatDoor
end

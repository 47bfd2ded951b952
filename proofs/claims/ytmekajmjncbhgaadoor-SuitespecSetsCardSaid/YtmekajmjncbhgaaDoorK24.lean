/- The functions of the program that the law reaches: their contracts at this seat. -/
import Derived.Test.YtmekajmjncbhgaaDoorK22
import Derived.Test.YtmekajmjncbhgaaDoorK23
import Derived.KernelRfl
set_option linter.unusedVariables false
set_option linter.unusedSimpArgs false
section
namespace Go.Proofs.YtmekajmjncbhgaaDoor
open Go Av Go.RowKit Go.Proofs.YtmekajmjncbhgaaDoor.S8
set_option maxRecDepth 100000
set_option linter.unusedVariables false
theorem aap : Has Tryd.prog 4 6 j0 r_make_Light := ⟨Tryd.f4, _, Tryd.func4, by decide, rfl, rfl, by kernel_rfl, by kernel_rfl⟩
theorem acV (W : World) (hW : WOK W) : jp (Ys Tryd.prog W) 4 := abI (Γ := Ys Tryd.prog W) aap
theorem KH : Has Tryd.prog 34 8 Wc r_slices_Clone___int_int := ⟨Tryd.f34, _, Tryd.func34, by decide, rfl, rfl, by kernel_rfl, by kernel_rfl⟩
theorem qA (W : World) (hW : WOK W) : X3 (Ys Tryd.prog W) 34 := qa (Γ := Ys Tryd.prog W) KH
theorem Vt : Has Tryd.prog 73 53 c_slices_insertionSortCmpFunc_int r_slices_insertionSortCmpFunc_int := ⟨Tryd.f73, _, Tryd.func73, by decide, rfl, rfl, by kernel_rfl, by kernel_rfl⟩
theorem VV (W : World) (hW : WOK W) : Yx (Ys Tryd.prog W) 73 := VD (Γ := Ys Tryd.prog W) Vt
theorem Uc : Has Tryd.prog 86 38 c_slices_swapRangeCmpFunc_int r_slices_swapRangeCmpFunc_int := ⟨Tryd.f86, _, Tryd.func86, by decide, rfl, rfl, by kernel_rfl, by kernel_rfl⟩
theorem UQ (W : World) (hW : WOK W) : Xh (Ys Tryd.prog W) 86 := UA (Γ := Ys Tryd.prog W) Uc
theorem U7 : Has Tryd.prog 80 58 (XJ 86) r_slices_rotateCmpFunc_int := ⟨Tryd.f80, _, Tryd.func80, by decide, rfl, rfl, by kernel_rfl, by kernel_rfl⟩
theorem KL (W : World) (hW : WOK W) : XE (Ys Tryd.prog W) 80 := Kt (Γ := Ys Tryd.prog W) U7 (UQ W hW)
theorem Uz : Has Tryd.prog 74 220 (c_slices_symMergeCmpFunc_int 80 74) r_slices_symMergeCmpFunc_int := ⟨Tryd.f74, _, Tryd.func74, by decide, rfl, rfl, by kernel_rfl, by kernel_rfl⟩
theorem Ke (W : World) (hW : WOK W) : Xn (Ys Tryd.prog W) 74 := UJ (Γ := Ys Tryd.prog W) Uz (KL W hW)
theorem U6 : Has Tryd.prog 55 63 (XI 73 74) r_slices_stableCmpFunc_int := ⟨Tryd.f55, _, Tryd.func55, by decide, rfl, rfl, by kernel_rfl, by kernel_rfl⟩
theorem KJ (W : World) (hW : WOK W) : XD (Ys Tryd.prog W) 55 := Ks (Γ := Ys Tryd.prog W) U6 (VV W hW) (Ke W hW)
theorem Vu : Has Tryd.prog 35 9 (YI 55) r_slices_SortStableFunc___int_int := ⟨Tryd.f35, _, Tryd.func35, by decide, rfl, rfl, by kernel_rfl, by kernel_rfl⟩
theorem VW (W : World) (hW : WOK W) : Yy (Ys Tryd.prog W) 35 := VE (Γ := Ys Tryd.prog W) Vu (KJ W hW)
theorem vL : Has Tryd.prog 42 8 jh r_catalog_use := ⟨Tryd.f42, _, Tryd.func42, by decide, rfl, rfl, by kernel_rfl, by kernel_rfl⟩
theorem abW (W : World) (hW : WOK W) : qt (Ys Tryd.prog W) 42 := aaD (Γ := Ys Tryd.prog W) vL
theorem xi : Has Tryd.prog 21 125 (c_catalog_Suites 42) r_catalog_Suites := ⟨Tryd.f21, _, Tryd.func21, by decide, rfl, rfl, by kernel_rfl, by kernel_rfl⟩
theorem US (W : World) (hW : WOK W) : Wg (Ys Tryd.prog W) 21 := wb (Γ := Ys Tryd.prog W) xi (abW W hW)
theorem xW : Has Tryd.prog 28 20 (Kz 21) r_catalog_Suite := ⟨Tryd.f28, _, Tryd.func28, by decide, rfl, rfl, by kernel_rfl, by kernel_rfl⟩
theorem j6 (W : World) (hW : WOK W) : Vm (Ys Tryd.prog W) 28 := wU (Γ := Ys Tryd.prog W) xW (US W hW)
theorem wO : Has Tryd.prog 50 46 qd r_catalog_rows := ⟨Tryd.f50, _, Tryd.func50, by decide, rfl, rfl, by kernel_rfl, by kernel_rfl⟩
theorem yy (W : World) (hW : WOK W) : V4 (Ys Tryd.prog W) 50 := vQ (Γ := Ys Tryd.prog W) wO
theorem aaq : Has Tryd.prog 57 14 (j1 50) r_catalog_of := ⟨Tryd.f57, _, Tryd.func57, by decide, rfl, rfl, by kernel_rfl, by kernel_rfl⟩
theorem acW (W : World) (hW : WOK W) : jq (Ys Tryd.prog W) 57 := abJ (Γ := Ys Tryd.prog W) aaq (yy W hW)
theorem yM : Has Tryd.prog 58 21 Uo r_catalog_modulus := ⟨Tryd.f58, _, Tryd.func58, by decide, rfl, rfl, by kernel_rfl, by kernel_rfl⟩
theorem wu (W : World) (hW : WOK W) : V5 (Ys Tryd.prog W) 58 := xv (Γ := Ys Tryd.prog W) yM
theorem KG : Has Tryd.prog 51 19 Wb r_slices_Index___int_int := ⟨Tryd.f51, _, Tryd.func51, by decide, rfl, rfl, by kernel_rfl, by kernel_rfl⟩
theorem VC (W : World) (hW : WOK W) : YW (Ys Tryd.prog W) 51 := K9 (Γ := Ys Tryd.prog W) KG
theorem UI : Has Tryd.prog 30 9 (XC 51) r_slices_Contains___int_int := ⟨Tryd.f30, _, Tryd.func30, by decide, rfl, rfl, by kernel_rfl, by kernel_rfl⟩
theorem J7 (W : World) (hW : WOK W) : Jv (Ys Tryd.prog W) 30 := Kd (Γ := Ys Tryd.prog W) UI (VC W hW)
theorem yp : Has Tryd.prog 38 61 (VR 57 58 30 51) r_catalog_Strength := ⟨Tryd.f38, _, Tryd.func38, by decide, rfl, rfl, by kernel_rfl, by kernel_rfl⟩
theorem KZ (W : World) (hW : WOK W) : WF (Ys Tryd.prog W) 38 := yO (Γ := Ys Tryd.prog W) yp (acW W hW) (wu W hW) (J7 W hW) (VC W hW)
theorem jF : Has Tryd.prog 16 15 (Vb 28 38) r_suitespec_Strength := ⟨Tryd.f16, _, Tryd.func16, by decide, rfl, rfl, by kernel_rfl, by kernel_rfl⟩
theorem UZ (W : World) (hW : WOK W) : X0 (Ys Tryd.prog W) 16 := jS (Γ := Ys Tryd.prog W) jF (j6 W hW) (KZ W hW)
theorem yo : Has Tryd.prog 36 10 (VQ 16) r_suitespec_Sort_1 := ⟨Tryd.f36, _, Tryd.func36, by decide, rfl, rfl, by kernel_rfl, by kernel_rfl⟩
theorem xB (W : World) (hW : WOK W) : Vz (Ys Tryd.prog W) 36 := yN (Γ := Ys Tryd.prog W) yo (UZ W hW)
theorem xc : Has Tryd.prog 13 9 (UK 34 35 36) r_suitespec_Sort := ⟨Tryd.f13, _, Tryd.func13, by decide, rfl, rfl, by kernel_rfl, by kernel_rfl⟩
theorem jA (W : World) (hW : WOK W) : W3 (Ys Tryd.prog W) 13 := x6 (Γ := Ys Tryd.prog W) xc (qA W hW) (VW W hW) (xB W hW)
theorem yH : Has Tryd.prog 44 49 (Uj 38) r_suitespec_group := ⟨Tryd.f44, _, Tryd.func44, by decide, rfl, rfl, by kernel_rfl, by kernel_rfl⟩
theorem wm (W : World) (hW : WOK W) : VY (Ys Tryd.prog W) 44 := xn (Γ := Ys Tryd.prog W) yH (KZ W hW)
theorem wP : Has Tryd.prog 29 20 (qe 50) r_catalog_Find := ⟨Tryd.f29, _, Tryd.func29, by decide, rfl, rfl, by kernel_rfl, by kernel_rfl⟩
theorem yz (W : World) (hW : WOK W) : V6 (Ys Tryd.prog W) 29 := vR (Γ := Ys Tryd.prog W) wP (yy W hW)
theorem xj : Has Tryd.prog 69 8 UO r_catalog_Code_1 := ⟨Tryd.f69, _, Tryd.func69, by decide, rfl, rfl, by kernel_rfl, by kernel_rfl⟩
theorem wW (W : World) (hW : WOK W) : Us (Ys Tryd.prog W) 69 := wc (Γ := Ys Tryd.prog W) xj
theorem WG : Has Tryd.prog 68 19 J4 r_slices_IndexFunc___api_Suite_api_Suite := ⟨Tryd.f68, _, Tryd.func68, by decide, rfl, rfl, by kernel_rfl, by kernel_rfl⟩
theorem WN (W : World) (hW : WOK W) : JZ (Ys Tryd.prog W) 68 := WJ (Γ := Ys Tryd.prog W) WG
theorem wQ : Has Tryd.prog 45 7 (qf 21 69 68) r_catalog_Code := ⟨Tryd.f45, _, Tryd.func45, by decide, rfl, rfl, by kernel_rfl, by kernel_rfl⟩
theorem aaI (W : World) (hW : WOK W) : KD (Ys Tryd.prog W) 45 := vS (Γ := Ys Tryd.prog W) wQ (US W hW) (wW W hW) (WN W hW)
theorem yG : Has Tryd.prog 23 59 (Ui 44 29 45 30) r_suitespec_named := ⟨Tryd.f23, _, Tryd.func23, by decide, rfl, rfl, by kernel_rfl, by kernel_rfl⟩
theorem wj (W : World) (hW : WOK W) : VX (Ys Tryd.prog W) 23 := xm (Γ := Ys Tryd.prog W) yG (wm W hW) (yz W hW) (aaI W hW) (J7 W hW)
theorem xU : Has Tryd.prog 8 46 (Kx 21 22 23) r_suitespec_Set := ⟨Tryd.f8, _, Tryd.func8, by decide, rfl, rfl, by kernel_rfl, by kernel_rfl⟩
theorem j3 (W : World) (hW : WOK W) : Vl (Ys Tryd.prog W) 8 := wS (Γ := Ys Tryd.prog W) xU (US W hW) (j4 W hW) (wj W hW)
theorem K8 : Has Tryd.prog 66 7 (WC 30) r_suitespec_row__word_1 := ⟨Tryd.f66, _, Tryd.func66, by decide, rfl, rfl, by kernel_rfl, by kernel_rfl⟩
theorem jm (W : World) (hW : WOK W) : We (Ys Tryd.prog W) 66 := qz (Γ := Ys Tryd.prog W) K8 (J7 W hW)
theorem qT : Has Tryd.prog 41 129 (c_suitespec_row__word 13 65 8 66 30) r_suitespec_row__word := ⟨Tryd.f41, _, Tryd.func41, by decide, rfl, rfl, by kernel_rfl, by kernel_rfl⟩
theorem j2 (W : World) (hW : WOK W) : WK (Ys Tryd.prog W) 41 := jG (Γ := Ys Tryd.prog W) qT (jA W hW) (yV W hW) (j3 W hW) (jm W hW) (J7 W hW)
theorem yJ : Has Tryd.prog 18 39 (Um 40 22 41) r_suitespec_Parse := ⟨Tryd.f18, _, Tryd.func18, by decide, rfl, rfl, by kernel_rfl, by kernel_rfl⟩
theorem wq (W : World) (hW : WOK W) : V0 (Ys Tryd.prog W) 18 := xq (Γ := Ys Tryd.prog W) yJ (aac W hW) (j4 W hW) (j2 W hW)
theorem xf : Has Tryd.prog 12 26 c_ref02_SameInts r_ref02_SameInts := ⟨Tryd.f12, _, Tryd.func12, by decide, rfl, rfl, by kernel_rfl, by kernel_rfl⟩
theorem jB (W : World) (hW : WOK W) : W4 (Ys Tryd.prog W) 12 := x9 (Γ := Ys Tryd.prog W) xf
theorem vK : Has Tryd.prog 5 41 (jg 18 12) r_law08_awake := ⟨Tryd.f5, _, Tryd.func5, by decide, rfl, rfl, by kernel_rfl, by kernel_rfl⟩
theorem abV (W : World) (hW : WOK W) : qr (Ys Tryd.prog W) 5 := aaC (Γ := Ys Tryd.prog W) vK (wq W hW) (jB W hW)
theorem abA : Has Tryd.prog 6 6 yU r_make_Roll := ⟨Tryd.f6, _, Tryd.func6, by decide, rfl, rfl, by kernel_rfl, by kernel_rfl⟩
theorem adG (W : World) (hW : WOK W) : yb (Ys Tryd.prog W) 6 := acG (Γ := Ys Tryd.prog W) abA
theorem acv : Has Tryd.prog 56 14 wg r_make_Mod := ⟨Tryd.f56, _, Tryd.func56, by decide, rfl, rfl, by kernel_rfl, by kernel_rfl⟩
theorem ae3 (W : World) (hW : WOK W) : yW (Ys Tryd.prog W) 56 := ads (Γ := Ys Tryd.prog W) acv
theorem yL : Has Tryd.prog 37 35 (c_make_Dice__Next 56) r_make_Dice__Next := ⟨Tryd.f37, _, Tryd.func37, by decide, rfl, rfl, by kernel_rfl, by kernel_rfl⟩
theorem Uq (W : World) (hW : WOK W) : X1 (Ys Tryd.prog W) 37 := xu (Γ := Ys Tryd.prog W) yL (ae3 W hW)
theorem yK : Has Tryd.prog 19 12 (Un 37) r_make_Dice__Word := ⟨Tryd.f19, _, Tryd.func19, by decide, rfl, rfl, by kernel_rfl, by kernel_rfl⟩
theorem wt (W : World) (hW : WOK W) : V3 (Ys Tryd.prog W) 19 := xr (Γ := Ys Tryd.prog W) yK (Uq W hW)
theorem xh : Has Tryd.prog 20 11 (UN 37) r_make_Dice__One := ⟨Tryd.f20, _, Tryd.func20, by decide, rfl, rfl, by kernel_rfl, by kernel_rfl⟩
theorem jC (W : World) (hW : WOK W) : W5 (Ys Tryd.prog W) 20 := wa (Γ := Ys Tryd.prog W) xh (Uq W hW)
theorem vJ : Has Tryd.prog 7 16 (jf 19 20) r_law08_names := ⟨Tryd.f7, _, Tryd.func7, by decide, rfl, rfl, by kernel_rfl, by kernel_rfl⟩
theorem abU (W : World) (hW : WOK W) : qq (Ys Tryd.prog W) 7 := aaB (Γ := Ys Tryd.prog W) vJ (wt W hW) (jC W hW)
theorem vB : Has Tryd.prog 24 35 q8 r_ref08_split := ⟨Tryd.f24, _, Tryd.func24, by decide, rfl, rfl, by kernel_rfl, by kernel_rfl⟩
theorem abN (W : World) (hW : WOK W) : qj (Ys Tryd.prog W) 24 := aat (Γ := Ys Tryd.prog W) vB
theorem aam : Has Tryd.prog 70 25 jX r_ref02_rows := ⟨Tryd.f70, _, Tryd.func70, by decide, rfl, rfl, by kernel_rfl, by kernel_rfl⟩
theorem acT (W : World) (hW : WOK W) : jn (Ys Tryd.prog W) 70 := abF (Γ := Ys Tryd.prog W) aam
theorem aan : Has Tryd.prog 46 16 (jY 70) r_ref02_Find := ⟨Tryd.f46, _, Tryd.func46, by decide, rfl, rfl, by kernel_rfl, by kernel_rfl⟩
theorem wI (W : World) (hW : WOK W) : Kg (Ys Tryd.prog W) 46 := abG (Γ := Ys Tryd.prog W) aan (acT W hW)
theorem aby : Has Tryd.prog 48 8 yS r_ref02_use := ⟨Tryd.f48, _, Tryd.func48, by decide, rfl, rfl, by kernel_rfl, by kernel_rfl⟩
theorem adF (W : World) (hW : WOK W) : j9 (Ys Tryd.prog W) 48 := acE (Γ := Ys Tryd.prog W) aby
theorem vF : Has Tryd.prog 49 26 jb r_ref02_suite := ⟨Tryd.f49, _, Tryd.func49, by decide, rfl, rfl, by kernel_rfl, by kernel_rfl⟩
theorem abR (W : World) (hW : WOK W) : qn (Ys Tryd.prog W) 49 := aax (Γ := Ys Tryd.prog W) vF
theorem wN : Has Tryd.prog 26 110 (c_ref02_Suites 48 49) r_ref02_Suites := ⟨Tryd.f26, _, Tryd.func26, by decide, rfl, rfl, by kernel_rfl, by kernel_rfl⟩
theorem qi (W : World) (hW : WOK W) : WU (Ys Tryd.prog W) 26 := vP (Γ := Ys Tryd.prog W) wN (adF W hW) (abR W hW)
theorem aao : Has Tryd.prog 47 24 (jZ 26) r_ref02_Code := ⟨Tryd.f47, _, Tryd.func47, by decide, rfl, rfl, by kernel_rfl, by kernel_rfl⟩
theorem acU (W : World) (hW : WOK W) : jo (Ys Tryd.prog W) 47 := abH (Γ := Ys Tryd.prog W) aao (qi W hW)
theorem vD : Has Tryd.prog 25 21 (ja 46 47) r_ref08_known := ⟨Tryd.f25, _, Tryd.func25, by decide, rfl, rfl, by kernel_rfl, by kernel_rfl⟩
theorem abP (W : World) (hW : WOK W) : ql (Ys Tryd.prog W) 25 := aav (Γ := Ys Tryd.prog W) vD (wI W hW) (acU W hW)
theorem vH : Has Tryd.prog 33 16 (jd 26) r_ref02_Suite := ⟨Tryd.f33, _, Tryd.func33, by decide, rfl, rfl, by kernel_rfl, by kernel_rfl⟩
theorem xC (W : World) (hW : WOK W) : Uw (Ys Tryd.prog W) 33 := aaz (Γ := Ys Tryd.prog W) vH (qi W hW)
theorem xV : Has Tryd.prog 59 25 Ky r_ref02_modulus := ⟨Tryd.f59, _, Tryd.func59, by decide, rfl, rfl, by kernel_rfl, by kernel_rfl⟩
theorem aad (W : World) (hW : WOK W) : UU (Ys Tryd.prog W) 59 := wT (Γ := Ys Tryd.prog W) xV
theorem vG : Has Tryd.prog 60 24 jc r_ref02_among := ⟨Tryd.f60, _, Tryd.func60, by decide, rfl, rfl, by kernel_rfl, by kernel_rfl⟩
theorem abS (W : World) (hW : WOK W) : qo (Ys Tryd.prog W) 60 := aay (Γ := Ys Tryd.prog W) vG
theorem wM : Has Tryd.prog 61 21 qc r_ref02_single := ⟨Tryd.f61, _, Tryd.func61, by decide, rfl, rfl, by kernel_rfl, by kernel_rfl⟩
theorem aaH (W : World) (hW : WOK W) : KC (Ys Tryd.prog W) 61 := vO (Γ := Ys Tryd.prog W) wM
theorem xe : Has Tryd.prog 39 76 (UM 59 60 61) r_ref02_Strength := ⟨Tryd.f39, _, Tryd.func39, by decide, rfl, rfl, by kernel_rfl, by kernel_rfl⟩
theorem wV (W : World) (hW : WOK W) : Ur (Ys Tryd.prog W) 39 := x8 (Γ := Ys Tryd.prog W) xe (aad W hW) (abS W hW) (aaH W hW)
theorem xd : Has Tryd.prog 17 15 (UL 33 39) r_ref08_Strength := ⟨Tryd.f17, _, Tryd.func17, by decide, rfl, rfl, by kernel_rfl, by kernel_rfl⟩
theorem UR (W : World) (hW : WOK W) : Wf (Ys Tryd.prog W) 17 := x7 (Γ := Ys Tryd.prog W) xd (xC W hW) (wV W hW)
theorem vC : Has Tryd.prog 27 85 (q9 17 46) r_ref08_named := ⟨Tryd.f27, _, Tryd.func27, by decide, rfl, rfl, by kernel_rfl, by kernel_rfl⟩
theorem abO (W : World) (hW : WOK W) : qk (Ys Tryd.prog W) 27 := aau (Γ := Ys Tryd.prog W) vC (UR W hW) (wI W hW)
theorem abx : Has Tryd.prog 9 60 (c_ref08_Set 24 25 26 27) r_ref08_Set := ⟨Tryd.f9, _, Tryd.func9, by decide, rfl, rfl, by kernel_rfl, by kernel_rfl⟩
theorem adE (W : World) (hW : WOK W) : j8 (Ys Tryd.prog W) 9 := acD (Γ := Ys Tryd.prog W) abx (abN W hW) (abP W hW) (qi W hW) (abO W hW)
theorem yI : Has Tryd.prog 10 54 (Uk 28 29 30 31) r_suitespec_Print := ⟨Tryd.f10, _, Tryd.func10, by decide, rfl, rfl, by kernel_rfl, by kernel_rfl⟩
theorem wo (W : World) (hW : WOK W) : VZ (Ys Tryd.prog W) 10 := xp (Γ := Ys Tryd.prog W) yI (j6 W hW) (yz W hW) (J7 W hW) (aaG W hW)
theorem abz : Has Tryd.prog 32 18 yT r_ref02_Has := ⟨Tryd.f32, _, Tryd.func32, by decide, rfl, rfl, by kernel_rfl, by kernel_rfl⟩
theorem aae (W : World) (hW : WOK W) : K0 (Ys Tryd.prog W) 32 := acF (Γ := Ys Tryd.prog W) abz
theorem vE : Has Tryd.prog 11 63 (c_ref08_Print 32 33) r_ref08_Print := ⟨Tryd.f11, _, Tryd.func11, by decide, rfl, rfl, by kernel_rfl, by kernel_rfl⟩
theorem abQ (W : World) (hW : WOK W) : qm (Ys Tryd.prog W) 11 := aaw (Γ := Ys Tryd.prog W) vE (aae W hW) (xC W hW)
theorem aal : Has Tryd.prog 14 48 (c_ref08_Sort 17) r_ref08_Sort := ⟨Tryd.f14, _, Tryd.func14, by decide, rfl, rfl, by kernel_rfl, by kernel_rfl⟩
theorem wH (W : World) (hW : WOK W) : Kf (Ys Tryd.prog W) 14 := abE (Γ := Ys Tryd.prog W) aal (UR W hW)
theorem vI : Has Tryd.prog 15 29 (je 37 32 20 14) r_make_Suites := ⟨Tryd.f15, _, Tryd.func15, by decide, rfl, rfl, by kernel_rfl, by kernel_rfl⟩
theorem abT (W : World) (hW : WOK W) : qp (Ys Tryd.prog W) 15 := aaA (Γ := Ys Tryd.prog W) vI (Uq W hW) (aae W hW) (jC W hW) (wH W hW)
theorem qU : Has Tryd.prog 3 101 (WT 4 5 6 7 8 9 10 11 12 13 14 15 16 17) r_law08_SuitespecSets := ⟨Tryd.f3, _, Tryd.func3, by decide, rfl, rfl, by kernel_rfl, by kernel_rfl⟩
theorem j5 (W : World) (hW : WOK W) : Ua (Ys Tryd.prog W) 3 := jH (Γ := Ys Tryd.prog W) qU (acV W hW) (abV W hW) (adG W hW) (abU W hW) (j3 W hW) (adE W hW) (wo W hW) (abQ W hW) (jB W hW) (jA W hW) (wH W hW) (abT W hW) (UZ W hW) (UR W hW)
end Go.Proofs.YtmekajmjncbhgaaDoor
end

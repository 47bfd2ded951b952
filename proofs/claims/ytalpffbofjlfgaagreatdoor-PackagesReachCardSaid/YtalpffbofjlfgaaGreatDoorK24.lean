/- The functions of the program that the law reaches: their contracts at this seat. -/
import Derived.Test.YtalpffbofjlfgaaGreatDoorK16
import Derived.Test.YtalpffbofjlfgaaGreatDoorK23
import Derived.KernelRfl
set_option linter.unusedVariables false
set_option linter.unusedSimpArgs false
section
namespace Go.Proofs.YtalpffbofjlfgaaGreatDoor
open Go Av Go.RowKit
set_option maxRecDepth 100000
set_option linter.unusedVariables false
theorem acs : Has Tryz.prog 5 6 y8 r_make_Light := ⟨Tryz.f5, _, Tryz.func5, by decide, rfl, rfl, by kernel_rfl, by kernel_rfl⟩
theorem aeS (W : World) (hW : WOK W) : yA (Yr Tryz.prog W) 5 := adH (Γ := Yr Tryz.prog W) acs
theorem xE : Has Tryz.prog 40 26 Kk r_packages_version := ⟨Tryz.f40, _, Tryz.func40, by decide, rfl, rfl, by kernel_rfl, by kernel_rfl⟩
theorem VG (W : World) (hW : WOK W) : X5 (Yr Tryz.prog W) 40 := wt (Γ := Yr Tryz.prog W) xE
theorem xF : Has Tryz.prog 23 38 (Kl 65 66 67 40) r_packages_Version := ⟨Tryz.f23, _, Tryz.func23, by decide, rfl, rfl, by kernel_rfl, by kernel_rfl⟩
theorem vN (W : World) (hW : WOK W) : UW (Yr Tryz.prog W) 23 := wu (Γ := Yr Tryz.prog W) xF (acg W hW) (acE W hW) (xX W hW) (VG W hW)
theorem aar : Has Tryz.prog 24 24 (qZ 40 67 68) r_packages_Text := ⟨Tryz.f24, _, Tryz.func24, by decide, rfl, rfl, by kernel_rfl, by kernel_rfl⟩
theorem acj (W : World) (hW : WOK W) : qI (Yr Tryz.prog W) 24 := abe (Γ := Yr Tryz.prog W) aar (VG W hW) (xX W hW) (acD W hW)
theorem aao : Has Tryz.prog 70 13 qX r_packages_part := ⟨Tryz.f70, _, Tryz.func70, by decide, rfl, rfl, by kernel_rfl, by kernel_rfl⟩
theorem ach (W : World) (hW : WOK W) : qG (Yr Tryz.prog W) 70 := abb (Γ := Yr Tryz.prog W) aao
theorem aav : Has Tryz.prog 94 6 jb r_cmp_isNaN_int := ⟨Tryz.f94, _, Tryz.func94, by decide, rfl, rfl, by kernel_rfl, by kernel_rfl⟩
theorem xh (W : World) (hW : WOK W) : UH (Yr Tryz.prog W) 94 := abi (Γ := Yr Tryz.prog W) aav
theorem wl : Has Tryz.prog 69 20 (K0 94) r_cmp_Compare_int := ⟨Tryz.f69, _, Tryz.func69, by decide, rfl, rfl, by kernel_rfl, by kernel_rfl⟩
theorem aaR (W : World) (hW : WOK W) : KB (Yr Tryz.prog W) 69 := vE (Γ := Yr Tryz.prog W) wl (xh W hW)
theorem xG : Has Tryz.prog 25 26 (Km 70 69) r_packages_Compare := ⟨Tryz.f25, _, Tryz.func25, by decide, rfl, rfl, by kernel_rfl, by kernel_rfl⟩
theorem jB (W : World) (hW : WOK W) : Vm (Yr Tryz.prog W) 25 := wv (Γ := Yr Tryz.prog W) xG (ach W hW) (aaR W hW)
theorem abT : Has Tryz.prog 26 29 (yp 25) r_packages_In := ⟨Tryz.f26, _, Tryz.func26, by decide, rfl, rfl, by kernel_rfl, by kernel_rfl⟩
theorem yz (W : World) (hW : WOK W) : UC (Yr Tryz.prog W) 26 := acy (Γ := Yr Tryz.prog W) abT (jB W hW)
theorem abV : Has Tryz.prog 6 45 (yr 23 24 25 26) r_law12_awake := ⟨Tryz.f6, _, Tryz.func6, by decide, rfl, rfl, by kernel_rfl, by kernel_rfl⟩
theorem adQ (W : World) (hW : WOK W) : jU (Yr Tryz.prog W) 6 := acA (Γ := Yr Tryz.prog W) abV (vN W hW) (acj W hW) (jB W hW) (yz W hW)
theorem adC : Has Tryz.prog 7 6 wI r_make_Roll := ⟨Tryz.f7, _, Tryz.func7, by decide, rfl, rfl, by kernel_rfl, by kernel_rfl⟩
theorem afE (W : World) (hW : WOK W) : xm (Yr Tryz.prog W) 7 := aeC (Γ := Yr Tryz.prog W) adC
theorem aen : Has Tryz.prog 71 14 aaK r_make_Mod := ⟨Tryz.f71, _, Tryz.func71, by decide, rfl, rfl, by kernel_rfl, by kernel_rfl⟩
theorem ahm (W : World) (hW : WOK W) : wK (Yr Tryz.prog W) 71 := afo (Γ := Yr Tryz.prog W) aen
theorem wk : Has Tryz.prog 29 35 (c_make_Dice__Next 71) r_make_Dice__Next := ⟨Tryz.f29, _, Tryz.func29, by decide, rfl, rfl, by kernel_rfl, by kernel_rfl⟩
theorem X4 (W : World) (hW : WOK W) : Yy (Yr Tryz.prog W) 29 := vD (Γ := Yr Tryz.prog W) wk (ahm W hW)
theorem vi : Has Tryz.prog 27 11 (qC 29) r_make_Dice__One := ⟨Tryz.f27, _, Tryz.func27, by decide, rfl, rfl, by kernel_rfl, by kernel_rfl⟩
theorem qF (W : World) (hW : WOK W) : W3 (Yr Tryz.prog W) 27 := aaF (Γ := Yr Tryz.prog W) vi (X4 W hW)
theorem aat : Has Tryz.prog 31 12 (q9 29) r_make_Dice__Of := ⟨Tryz.f31, _, Tryz.func31, by decide, rfl, rfl, by kernel_rfl, by kernel_rfl⟩
theorem jf (W : World) (hW : WOK W) : Vy (Yr Tryz.prog W) 31 := abg (Γ := Yr Tryz.prog W) aat (X4 W hW)
theorem aau : Has Tryz.prog 28 21 (ja 29 31) r_law12_version := ⟨Tryz.f28, _, Tryz.func28, by decide, rfl, rfl, by kernel_rfl, by kernel_rfl⟩
theorem xe (W : World) (hW : WOK W) : UG (Yr Tryz.prog W) 28 := abh (Γ := Yr Tryz.prog W) aau (X4 W hW) (jf W hW)
theorem abU : Has Tryz.prog 30 15 (yq 27 28) r_law12_bound := ⟨Tryz.f30, _, Tryz.func30, by decide, rfl, rfl, by kernel_rfl, by kernel_rfl⟩
theorem vT (W : World) (hW : WOK W) : qi (Yr Tryz.prog W) 30 := acz (Γ := Yr Tryz.prog W) abU (qF W hW) (xe W hW)
theorem wj : Has Tryz.prog 15 12 (KZ 29) r_make_Dice__Word := ⟨Tryz.f15, _, Tryz.func15, by decide, rfl, rfl, by kernel_rfl, by kernel_rfl⟩
theorem j2 (W : World) (hW : WOK W) : VK (Yr Tryz.prog W) 15 := vC (Γ := Yr Tryz.prog W) wj (X4 W hW)
theorem acv : Has Tryz.prog 8 110 (c_law12_list 27 28 29 30 15 31) r_law12_list := ⟨Tryz.f8, _, Tryz.func8, by decide, rfl, rfl, by kernel_rfl, by kernel_rfl⟩
theorem aeU (W : World) (hW : WOK W) : yC (Yr Tryz.prog W) 8 := adJ (Γ := Yr Tryz.prog W) acv (qF W hW) (xe W hW) (X4 W hW) (vT W hW) (j2 W hW) (jf W hW)
theorem adB : Has Tryz.prog 72 46 (wH 31) r_make_size := ⟨Tryz.f72, _, Tryz.func72, by decide, rfl, rfl, by kernel_rfl, by kernel_rfl⟩
theorem afD (W : World) (hW : WOK W) : xl (Yr Tryz.prog W) 72 := aeB (Γ := Yr Tryz.prog W) adB (jf W hW)
theorem aem : Has Tryz.prog 32 12 (aaJ 29 72) r_make_Use := ⟨Tryz.f32, _, Tryz.func32, by decide, rfl, rfl, by kernel_rfl, by kernel_rfl⟩
theorem ahl (W : World) (hW : WOK W) : wJ (Yr Tryz.prog W) 32 := afn (Γ := Yr Tryz.prog W) aem (X4 W hW) (afD W hW)
theorem aa6 : Has Tryz.prog 9 69 (c_law12_knowns 29 15 30 32 27) r_law12_knowns := ⟨Tryz.f9, _, Tryz.func9, by decide, rfl, rfl, by kernel_rfl, by kernel_rfl⟩
theorem acH (W : World) (hW : WOK W) : jk (Yr Tryz.prog W) 9 := ab1 (Γ := Yr Tryz.prog W) aa6 (X4 W hW) (j2 W hW) (vT W hW) (ahl W hW) (qF W hW)
theorem xL : Has Tryz.prog 33 7 Kr r_packages_Check_1 := ⟨Tryz.f33, _, Tryz.func33, by decide, rfl, rfl, by kernel_rfl, by kernel_rfl⟩
theorem vS (W : World) (hW : WOK W) : U1 (Yr Tryz.prog W) 33 := wB (Γ := Yr Tryz.prog W) xL
theorem WP : Has Tryz.prog 73 19 Yg r_slices_IndexFunc___api_Package_api_Package := ⟨Tryz.f73, _, Tryz.func73, by decide, rfl, rfl, by kernel_rfl, by kernel_rfl⟩
theorem XB (W : World) (hW : WOK W) : JH (Yr Tryz.prog W) 73 := WY (Γ := Yr Tryz.prog W) WP
theorem WA : Has Tryz.prog 34 9 (J0 73) r_slices_ContainsFunc___api_Package_api_Package := ⟨Tryz.f34, _, Tryz.func34, by decide, rfl, rfl, by kernel_rfl, by kernel_rfl⟩
theorem Xg (W : World) (hW : WOK W) : JA (Yr Tryz.prog W) 34 := WM (Γ := Yr Tryz.prog W) WA (XB W hW)
theorem VL : Has Tryz.prog 84 19 YX r_slices_IndexFunc___api_Need_api_Need := ⟨Tryz.f84, _, Tryz.func84, by decide, rfl, rfl, by kernel_rfl, by kernel_rfl⟩
theorem Uf (W : World) (hW : WOK W) : YN (Yr Tryz.prog W) 84 := VT (Γ := Yr Tryz.prog W) VL
theorem Vf : Has Tryz.prog 54 9 (Ys 84) r_slices_ContainsFunc___api_Need_api_Need := ⟨Tryz.f54, _, Tryz.func54, by decide, rfl, rfl, by kernel_rfl, by kernel_rfl⟩
theorem VD (W : World) (hW : WOK W) : Yn (Yr Tryz.prog W) 54 := Vu (Γ := Yr Tryz.prog W) Vf (Uf W hW)
theorem vd : Has Tryz.prog 74 14 (qA 54) r_packages_any_1 := ⟨Tryz.f74, _, Tryz.func74, by decide, rfl, rfl, by kernel_rfl, by kernel_rfl⟩
theorem abn (W : World) (hW : WOK W) : qa (Yr Tryz.prog W) 74 := aaC (Γ := Yr Tryz.prog W) vd (VD W hW)
theorem aa5 : Has Tryz.prog 35 10 (jN 74 34) r_packages_any := ⟨Tryz.f35, _, Tryz.func35, by decide, rfl, rfl, by kernel_rfl, by kernel_rfl⟩
theorem acG (W : World) (hW : WOK W) : jj (Yr Tryz.prog W) 35 := ab0 (Γ := Yr Tryz.prog W) aa5 (abn W hW) (Xg W hW)
theorem aax : Has Tryz.prog 37 27 jd r_catalog_Named := ⟨Tryz.f37, _, Tryz.func37, by decide, rfl, rfl, by kernel_rfl, by kernel_rfl⟩
theorem xi (W : World) (hW : WOK W) : UI (Yr Tryz.prog W) 37 := abk (Γ := Yr Tryz.prog W) aax
theorem xK : Has Tryz.prog 36 7 (Kq 37) r_packages_Check_2 := ⟨Tryz.f36, _, Tryz.func36, by decide, rfl, rfl, by kernel_rfl, by kernel_rfl⟩
theorem vR (W : World) (hW : WOK W) : U0 (Yr Tryz.prog W) 36 := wA (Γ := Yr Tryz.prog W) xK (xi W hW)
theorem xJ : Has Tryz.prog 38 7 (Kp 37) r_packages_Check_3 := ⟨Tryz.f38, _, Tryz.func38, by decide, rfl, rfl, by kernel_rfl, by kernel_rfl⟩
theorem vQ (W : World) (hW : WOK W) : UZ (Yr Tryz.prog W) 38 := wz (Γ := Yr Tryz.prog W) xJ (xi W hW)
theorem xI : Has Tryz.prog 39 7 (Ko 40) r_packages_Check_4 := ⟨Tryz.f39, _, Tryz.func39, by decide, rfl, rfl, by kernel_rfl, by kernel_rfl⟩
theorem vP (W : World) (hW : WOK W) : UY (Yr Tryz.prog W) 39 := wx (Γ := Yr Tryz.prog W) xI (VG W hW)
theorem wb : Has Tryz.prog 42 23 (KT 40) r_packages_ranged := ⟨Tryz.f42, _, Tryz.func42, by decide, rfl, rfl, by kernel_rfl, by kernel_rfl⟩
theorem j1 (W : World) (hW : WOK W) : VJ (Yr Tryz.prog W) 42 := vq (Γ := Yr Tryz.prog W) wb (VG W hW)
theorem xH : Has Tryz.prog 41 7 (Kn 42) r_packages_Check_5 := ⟨Tryz.f41, _, Tryz.func41, by decide, rfl, rfl, by kernel_rfl, by kernel_rfl⟩
theorem vO (W : World) (hW : WOK W) : UX (Yr Tryz.prog W) 41 := ww (Γ := Yr Tryz.prog W) xH (j1 W hW)
theorem vh : Has Tryz.prog 10 42 (c_packages_Check 33 34 35 36 38 39 41) r_packages_Check := ⟨Tryz.f10, _, Tryz.func10, by decide, rfl, rfl, by kernel_rfl, by kernel_rfl⟩
theorem yO (W : World) (hW : WOK W) : Ui (Yr Tryz.prog W) 10 := aaE (Γ := Yr Tryz.prog W) vh (vS W hW) (Xg W hW) (acG W hW) (vR W hW) (vQ W hW) (vP W hW) (vO W hW)
theorem wc : Has Tryz.prog 95 8 KU r_packages_find_1 := ⟨Tryz.f95, _, Tryz.func95, by decide, rfl, rfl, by kernel_rfl, by kernel_rfl⟩
theorem aaM (W : World) (hW : WOK W) : Kv (Yr Tryz.prog W) 95 := vr (Γ := Yr Tryz.prog W) wc
theorem aap : Has Tryz.prog 75 8 (qY 95 73) r_packages_find := ⟨Tryz.f75, _, Tryz.func75, by decide, rfl, rfl, by kernel_rfl, by kernel_rfl⟩
theorem xc (W : World) (hW : WOK W) : UF (Yr Tryz.prog W) 75 := abc (Γ := Yr Tryz.prog W) aap (aaM W hW) (XB W hW)
theorem vb : Has Tryz.prog 43 19 (qy 10 75) r_packages_start := ⟨Tryz.f43, _, Tryz.func43, by decide, rfl, rfl, by kernel_rfl, by kernel_rfl⟩
theorem yM (W : World) (hW : WOK W) : Ug (Yr Tryz.prog W) 43 := aaA (Γ := Yr Tryz.prog W) vb (yO W hW) (xc W hW)
theorem jp : Has Tryz.prog 76 8 W0 r_slices_Clone___int_int := ⟨Tryz.f76, _, Tryz.func76, by decide, rfl, rfl, by kernel_rfl, by kernel_rfl⟩
theorem j0 (W : World) (hW : WOK W) : WO (Yr Tryz.prog W) 76 := jM (Γ := Yr Tryz.prog W) jp
theorem aa4 : Has Tryz.prog 56 23 (c_packages_met 75 26) r_packages_met := ⟨Tryz.f56, _, Tryz.func56, by decide, rfl, rfl, by kernel_rfl, by kernel_rfl⟩
theorem acF (W : World) (hW : WOK W) : ji (Yr Tryz.prog W) 56 := abZ (Γ := Yr Tryz.prog W) aa4 (xc W hW) (yz W hW)
theorem jo : Has Tryz.prog 96 19 WZ r_slices_Index___int_int := ⟨Tryz.f96, _, Tryz.func96, by decide, rfl, rfl, by kernel_rfl, by kernel_rfl⟩
theorem U6 (W : World) (hW : WOK W) : X8 (Yr Tryz.prog W) 96 := jL (Γ := Yr Tryz.prog W) jo
theorem qw : Has Tryz.prog 77 9 (Wy 96) r_slices_Contains___int_int := ⟨Tryz.f77, _, Tryz.func77, by decide, rfl, rfl, by kernel_rfl, by kernel_rfl⟩
theorem VZ (W : World) (hW : WOK W) : Xy (Yr Tryz.prog W) 77 := qM (Γ := Yr Tryz.prog W) qw (U6 W hW)
theorem wi : Has Tryz.prog 109 25 KY r_math_bits_Len64 := ⟨Tryz.f109, _, Tryz.func109, by decide, rfl, rfl, by kernel_rfl, by kernel_rfl⟩
theorem aaQ (W : World) (hW : WOK W) : Kz (Yr Tryz.prog W) 109 := vB (Γ := Yr Tryz.prog W) wi
theorem aas : Has Tryz.prog 83 8 (q8 108 109) r_math_bits_Len := ⟨Tryz.f83, _, Tryz.func83, by decide, rfl, rfl, by kernel_rfl, by kernel_rfl⟩
theorem xd (W : World) (hW : WOK W) : Vx (Yr Tryz.prog W) 83 := abf (Γ := Yr Tryz.prog W) aas (aaQ W hW)
theorem aa7 : Has Tryz.prog 131 17 (jO 94) r_cmp_Less_int := ⟨Tryz.f131, _, Tryz.func131, by decide, rfl, rfl, by kernel_rfl, by kernel_rfl⟩
theorem xY (W : World) (hW : WOK W) : KA (Yr Tryz.prog W) 131 := ab2 (Γ := Yr Tryz.prog W) aa7 (xh W hW)
theorem UQ : Has Tryz.prog 125 49 (c_slices_insertionSortOrdered_int 131) r_slices_insertionSortOrdered_int := ⟨Tryz.f125, _, Tryz.func125, by decide, rfl, rfl, by kernel_rfl, by kernel_rfl⟩
theorem Ku (W : World) (hW : WOK W) : XA (Yr Tryz.prog W) 125 := U7 (Γ := Yr Tryz.prog W) UQ (xY W hW)
theorem qv : Has Tryz.prog 97 134 (c_slices_pdqsortOrdered_int 125 126 127 128 129 130 131 132 133 97) r_slices_pdqsortOrdered_int := ⟨Tryz.f97, _, Tryz.func97, by decide, rfl, rfl, by kernel_rfl, by kernel_rfl⟩
theorem je (W : World) (hW : WOK W) : Wq (Yr Tryz.prog W) 97 := qL (Γ := Yr Tryz.prog W) qv (Ku W hW) (xY W hW)
theorem jK : Has Tryz.prog 78 11 (Vk 83 97) r_slices_Sort___int_int := ⟨Tryz.f78, _, Tryz.func78, by decide, rfl, rfl, by kernel_rfl, by kernel_rfl⟩
theorem yy (W : World) (hW : WOK W) : W2 (Yr Tryz.prog W) 78 := jZ (Γ := Yr Tryz.prog W) jK (xd W hW) (je W hW)
theorem vc : Has Tryz.prog 44 62 (qz 76 56 77 78) r_packages_reach := ⟨Tryz.f44, _, Tryz.func44, by decide, rfl, rfl, by kernel_rfl, by kernel_rfl⟩
theorem yN (W : World) (hW : WOK W) : Uh (Yr Tryz.prog W) 44 := aaB (Γ := Yr Tryz.prog W) vc (j0 W hW) (acF W hW) (VZ W hW) (yy W hW)
theorem vg : Has Tryz.prog 11 38 (qB 43 44) r_packages_Reach := ⟨Tryz.f11, _, Tryz.func11, by decide, rfl, rfl, by kernel_rfl, by kernel_rfl⟩
theorem abo (W : World) (hW : WOK W) : qb (Yr Tryz.prog W) 11 := aaD (Γ := Yr Tryz.prog W) vg (yM W hW) (yN W hW)
theorem acu : Has Tryz.prog 12 18 y9 r_law12_text := ⟨Tryz.f12, _, Tryz.func12, by decide, rfl, rfl, by kernel_rfl, by kernel_rfl⟩
theorem aeT (W : World) (hW : WOK W) : yB (Yr Tryz.prog W) 12 := adI (Γ := Yr Tryz.prog W) acu
theorem Vq : Has Tryz.prog 79 19 YA r_slices_IndexFunc___api_Known_api_Known := ⟨Tryz.f79, _, Tryz.func79, by decide, rfl, rfl, by kernel_rfl, by kernel_rfl⟩
theorem VN (W : World) (hW : WOK W) : Yt (Yr Tryz.prog W) 79 := VC (Γ := Yr Tryz.prog W) Vq
theorem WR : Has Tryz.prog 45 9 (Ym 79) r_slices_ContainsFunc___api_Known_api_Known := ⟨Tryz.f45, _, Tryz.func45, by decide, rfl, rfl, by kernel_rfl, by kernel_rfl⟩
theorem Vl (W : World) (hW : WOK W) : Yh (Yr Tryz.prog W) 45 := W6 (Γ := Yr Tryz.prog W) WR (VN W hW)
theorem wh : Has Tryz.prog 46 7 (KX 42) r_packages_Uses_1 := ⟨Tryz.f46, _, Tryz.func46, by decide, rfl, rfl, by kernel_rfl, by kernel_rfl⟩
theorem aaP (W : World) (hW : WOK W) : Ky (Yr Tryz.prog W) 46 := vA (Γ := Yr Tryz.prog W) wh (j1 W hW)
theorem aa8 : Has Tryz.prog 134 46 jP r_catalog_rows := ⟨Tryz.f134, _, Tryz.func134, by decide, rfl, rfl, by kernel_rfl, by kernel_rfl⟩
theorem acI (W : World) (hW : WOK W) : jl (Yr Tryz.prog W) 134 := ab3 (Γ := Yr Tryz.prog W) aa8
theorem acw : Has Tryz.prog 98 14 (xb 134) r_catalog_of := ⟨Tryz.f98, _, Tryz.func98, by decide, rfl, rfl, by kernel_rfl, by kernel_rfl⟩
theorem aeV (W : World) (hW : WOK W) : yD (Yr Tryz.prog W) 98 := adK (Γ := Yr Tryz.prog W) acw (acI W hW)
theorem wm : Has Tryz.prog 99 21 K5 r_catalog_modulus := ⟨Tryz.f99, _, Tryz.func99, by decide, rfl, rfl, by kernel_rfl, by kernel_rfl⟩
theorem aaS (W : World) (hW : WOK W) : KC (Yr Tryz.prog W) 99 := vF (Γ := Yr Tryz.prog W) wm
theorem xM : Has Tryz.prog 80 61 (Ks 98 99 77 96) r_catalog_Strength := ⟨Tryz.f80, _, Tryz.func80, by decide, rfl, rfl, by kernel_rfl, by kernel_rfl⟩
theorem vU (W : World) (hW : WOK W) : U2 (Yr Tryz.prog W) 80 := wC (Γ := Yr Tryz.prog W) xM (aeV W hW) (aaS W hW) (VZ W hW) (U6 W hW)
theorem aaw : Has Tryz.prog 48 6 (jc 80) r_catalog_Valid := ⟨Tryz.f48, _, Tryz.func48, by decide, rfl, rfl, by kernel_rfl, by kernel_rfl⟩
theorem ack (W : World) (hW : WOK W) : qJ (Yr Tryz.prog W) 48 := abj (Γ := Yr Tryz.prog W) aaw (vU W hW)
theorem wg : Has Tryz.prog 47 6 (KW 48) r_packages_Uses_2 := ⟨Tryz.f47, _, Tryz.func47, by decide, rfl, rfl, by kernel_rfl, by kernel_rfl⟩
theorem aaO (W : World) (hW : WOK W) : Kx (Yr Tryz.prog W) 47 := vw (Γ := Yr Tryz.prog W) wg (ack W hW)
theorem V4 : Has Tryz.prog 81 19 Xd r_slices_IndexFunc___api_Use_api_Use := ⟨Tryz.f81, _, Tryz.func81, by decide, rfl, rfl, by kernel_rfl, by kernel_rfl⟩
theorem UB (W : World) (hW : WOK W) : Y3 (Yr Tryz.prog W) 81 := Un (Γ := Yr Tryz.prog W) V4
theorem VB : Has Tryz.prog 50 9 (YK 81) r_slices_ContainsFunc___api_Use_api_Use := ⟨Tryz.f50, _, Tryz.func50, by decide, rfl, rfl, by kernel_rfl, by kernel_rfl⟩
theorem V0 (W : World) (hW : WOK W) : YC (Yr Tryz.prog W) 50 := VM (Γ := Yr Tryz.prog W) VB (UB W hW)
theorem we : Has Tryz.prog 49 8 (KV 50) r_packages_Uses_3 := ⟨Tryz.f49, _, Tryz.func49, by decide, rfl, rfl, by kernel_rfl, by kernel_rfl⟩
theorem aaN (W : World) (hW : WOK W) : Kw (Yr Tryz.prog W) 49 := vv (Γ := Yr Tryz.prog W) we (V0 W hW)
theorem VO : Has Tryz.prog 100 53 c_slices_insertionSortCmpFunc_api_Use r_slices_insertionSortCmpFunc_api_Use := ⟨Tryz.f100, _, Tryz.func100, by decide, rfl, rfl, by kernel_rfl, by kernel_rfl⟩
theorem Uo (W : World) (hW : WOK W) : YZ (Yr Tryz.prog W) 100 := Ub (Γ := Yr Tryz.prog W) VO
theorem Kf : Has Tryz.prog 82 148 (c_slices_pdqsortCmpFunc_api_Use 100 101 102 103 104 105 106 107 82) r_slices_pdqsortCmpFunc_api_Use := ⟨Tryz.f82, _, Tryz.func82, by decide, rfl, rfl, by kernel_rfl, by kernel_rfl⟩
theorem K9 (W : World) (hW : WOK W) : XV (Yr Tryz.prog W) 82 := KE (Γ := Yr Tryz.prog W) Kf (Uo W hW)
theorem Um : Has Tryz.prog 51 14 (Xt 83 82) r_slices_SortFunc___api_Use_api_Use := ⟨Tryz.f51, _, Tryz.func51, by decide, rfl, rfl, by kernel_rfl, by kernel_rfl⟩
theorem UV (W : World) (hW : WOK W) : Xh (Yr Tryz.prog W) 51 := Uy (Γ := Yr Tryz.prog W) Um (xd W hW) (K9 W hW)
theorem aa9 : Has Tryz.prog 52 20 jQ r_catalog_Less := ⟨Tryz.f52, _, Tryz.func52, by decide, rfl, rfl, by kernel_rfl, by kernel_rfl⟩
theorem acJ (W : World) (hW : WOK W) : jm (Yr Tryz.prog W) 52 := ab4 (Γ := Yr Tryz.prog W) aa9
theorem Ut : Has Tryz.prog 53 61 c_slices_Compact___api_Use_api_Use r_slices_Compact___api_Use_api_Use := ⟨Tryz.f53, _, Tryz.func53, by decide, rfl, rfl, by kernel_rfl, by kernel_rfl⟩
theorem U8 (W : World) (hW : WOK W) : Xw (Yr Tryz.prog W) 53 := UR (Γ := Yr Tryz.prog W) Ut
theorem aaq : Has Tryz.prog 13 72 (c_packages_Uses 43 45 46 47 49 44 26 51 52 53) r_packages_Uses := ⟨Tryz.f13, _, Tryz.func13, by decide, rfl, rfl, by kernel_rfl, by kernel_rfl⟩
theorem aci (W : World) (hW : WOK W) : qH (Yr Tryz.prog W) 13 := abd (Γ := Yr Tryz.prog W) aaq (yM W hW) (Vl W hW) (aaP W hW) (aaO W hW) (aaN W hW) (yN W hW) (yz W hW) (UV W hW) (acJ W hW) (U8 W hW)
theorem adD : Has Tryz.prog 14 18 c_law12_use r_law12_use := ⟨Tryz.f14, _, Tryz.func14, by decide, rfl, rfl, by kernel_rfl, by kernel_rfl⟩
theorem afF (W : World) (hW : WOK W) : xn (Yr Tryz.prog W) 14 := aeD (Γ := Yr Tryz.prog W) adD
theorem yh : Has Tryz.prog 3 130 (VX 5 6 7 8 9 10 11 12 13 14) r_law12_PackagesReach := ⟨Tryz.f3, _, Tryz.func3, by decide, rfl, rfl, by kernel_rfl, by kernel_rfl⟩
theorem xf (W : World) (hW : WOK W) : KH (Yr Tryz.prog W) 3 := yR (Γ := Yr Tryz.prog W) yh (aeS W hW) (adQ W hW) (afE W hW) (aeU W hW) (acH W hW) (yO W hW) (abo W hW) (aeT W hW) (aci W hW) (afF W hW)
end Go.Proofs.YtalpffbofjlfgaaGreatDoor
end

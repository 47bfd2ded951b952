/- The functions of the program that the law reaches: their contracts at this seat. -/
import Derived.Test.YtalpffbofjlfgaaDoorK16
import Derived.Test.YtalpffbofjlfgaaDoorK22
import Derived.KernelRfl
set_option linter.unusedVariables false
set_option linter.unusedSimpArgs false
section
namespace Go.Proofs.YtalpffbofjlfgaaDoor
open Go Av Go.RowKit
set_option maxRecDepth 100000
set_option linter.unusedVariables false
theorem yi : Has Tryd.prog 4 6 UH r_make_Light := ⟨Tryd.f4, _, Tryd.func4, by decide, rfl, rfl, by kernel_rfl, by kernel_rfl⟩
theorem wm (W : World) (hW : WOK W) : Ud (Yu Tryd.prog W) 4 := xl (Γ := Yu Tryd.prog W) yi
theorem U0 : Has Tryd.prog 28 26 X6 r_packages_version := ⟨Tryd.f28, _, Tryd.func28, by decide, rfl, rfl, by kernel_rfl, by kernel_rfl⟩
theorem Y3 (W : World) (hW : WOK W) : JX (Yu Tryd.prog W) 28 := Kv (Γ := Yu Tryd.prog W) U0
theorem U1 : Has Tryd.prog 11 38 (X7 34 35 36 28) r_packages_Version := ⟨Tryd.f11, _, Tryd.func11, by decide, rfl, rfl, by kernel_rfl, by kernel_rfl⟩
theorem qg (W : World) (hW : WOK W) : XM (Yu Tryd.prog W) 11 := Kw (Γ := Yu Tryd.prog W) U1 (j8 W hW) (yq W hW) (Ki W hW) (Y3 W hW)
theorem qI : Has Tryd.prog 12 24 (Vb 28 36 37) r_packages_Text := ⟨Tryd.f12, _, Tryd.func12, by decide, rfl, rfl, by kernel_rfl, by kernel_rfl⟩
theorem yc (W : World) (hW : WOK W) : WU (Yu Tryd.prog W) 12 := jk (Γ := Yu Tryd.prog W) qI (Y3 W hW) (Ki W hW) (yp W hW)
theorem qG : Has Tryd.prog 39 13 W9 r_packages_part := ⟨Tryd.f39, _, Tryd.func39, by decide, rfl, rfl, by kernel_rfl, by kernel_rfl⟩
theorem j9 (W : World) (hW : WOK W) : WS (Yu Tryd.prog W) 39 := ji (Γ := Yu Tryd.prog W) qG
theorem qL : Has Tryd.prog 52 6 Ve r_cmp_isNaN_int := ⟨Tryd.f52, _, Tryd.func52, by decide, rfl, rfl, by kernel_rfl, by kernel_rfl⟩
theorem yd (W : World) (hW : WOK W) : WV (Yu Tryd.prog W) 52 := jn (Γ := Yu Tryd.prog W) qL
theorem Ku : Has Tryd.prog 38 20 (Wz 52) r_cmp_Compare_int := ⟨Tryd.f38, _, Tryd.func38, by decide, rfl, rfl, by kernel_rfl, by kernel_rfl⟩
theorem qY (W : World) (hW : WOK W) : Wl (Yu Tryd.prog W) 38 := K8 (Γ := Yu Tryd.prog W) Ku (yd W hW)
theorem U3 : Has Tryd.prog 13 26 (X9 39 38) r_packages_Compare := ⟨Tryd.f13, _, Tryd.func13, by decide, rfl, rfl, by kernel_rfl, by kernel_rfl⟩
theorem Vu (W : World) (hW : WOK W) : YS (Yu Tryd.prog W) 13 := Ky (Γ := Yu Tryd.prog W) U3 (j9 W hW) (qY W hW)
theorem jQ : Has Tryd.prog 14 29 (V6 13) r_packages_In := ⟨Tryd.f14, _, Tryd.func14, by decide, rfl, rfl, by kernel_rfl, by kernel_rfl⟩
theorem qi (W : World) (hW : WOK W) : WH (Yu Tryd.prog W) 14 := yl (Γ := Yu Tryd.prog W) jQ (Vu W hW)
theorem jS : Has Tryd.prog 5 45 (V8 11 12 13 14) r_law12_awake := ⟨Tryd.f5, _, Tryd.func5, by decide, rfl, rfl, by kernel_rfl, by kernel_rfl⟩
theorem xu (W : World) (hW : WOK W) : VJ (Yu Tryd.prog W) 5 := yn (Γ := Yu Tryd.prog W) jS (qg W hW) (yc W hW) (Vu W hW) (qi W hW)
theorem xh : Has Tryd.prog 6 6 KG r_make_Roll := ⟨Tryd.f6, _, Tryd.func6, by decide, rfl, rfl, by kernel_rfl, by kernel_rfl⟩
theorem wZ (W : World) (hW : WOK W) : UQ (Yu Tryd.prog W) 6 := x8 (Γ := Yu Tryd.prog W) xh
theorem xU : Has Tryd.prog 40 14 qT r_make_Mod := ⟨Tryd.f40, _, Tryd.func40, by decide, rfl, rfl, by kernel_rfl, by kernel_rfl⟩
theorem aaw (W : World) (hW : WOK W) : KJ (Yu Tryd.prog W) 40 := wP (Γ := Yu Tryd.prog W) xU
theorem Kt : Has Tryd.prog 17 35 (c_make_Dice__Next 40) r_make_Dice__Next := ⟨Tryd.f17, _, Tryd.func17, by decide, rfl, rfl, by kernel_rfl, by kernel_rfl⟩
theorem YE (W : World) (hW : WOK W) : JQ (Yu Tryd.prog W) 17 := K7 (Γ := Yu Tryd.prog W) Kt (aaw W hW)
theorem KX : Has Tryd.prog 15 11 (WQ 17) r_make_Dice__One := ⟨Tryd.f15, _, Tryd.func15, by decide, rfl, rfl, by kernel_rfl, by kernel_rfl⟩
theorem Un (W : World) (hW : WOK W) : Xn (Yu Tryd.prog W) 15 := qQ (Γ := Yu Tryd.prog W) KX (YE W hW)
theorem qJ : Has Tryd.prog 20 12 (Vc 17) r_make_Dice__Of := ⟨Tryd.f20, _, Tryd.func20, by decide, rfl, rfl, by kernel_rfl, by kernel_rfl⟩
theorem UL (W : World) (hW : WOK W) : Xy (Yu Tryd.prog W) 20 := jl (Γ := Yu Tryd.prog W) qJ (YE W hW)
theorem qK : Has Tryd.prog 16 21 (Vd 17 20) r_law12_version := ⟨Tryd.f16, _, Tryd.func16, by decide, rfl, rfl, by kernel_rfl, by kernel_rfl⟩
theorem UM (W : World) (hW : WOK W) : Xz (Yu Tryd.prog W) 16 := jm (Γ := Yu Tryd.prog W) qK (YE W hW) (UL W hW)
theorem jR : Has Tryd.prog 18 15 (V7 15 16) r_law12_bound := ⟨Tryd.f18, _, Tryd.func18, by decide, rfl, rfl, by kernel_rfl, by kernel_rfl⟩
theorem xr (W : World) (hW : WOK W) : VI (Yu Tryd.prog W) 18 := ym (Γ := Yu Tryd.prog W) jR (Un W hW) (UM W hW)
theorem Ks : Has Tryd.prog 19 12 (Wy 17) r_make_Dice__Word := ⟨Tryd.f19, _, Tryd.func19, by decide, rfl, rfl, by kernel_rfl, by kernel_rfl⟩
theorem qX (W : World) (hW : WOK W) : Wk (Yu Tryd.prog W) 19 := K6 (Γ := Yu Tryd.prog W) Ks (YE W hW)
theorem yk : Has Tryd.prog 7 110 (c_law12_list 15 16 17 18 19 20) r_law12_list := ⟨Tryd.f7, _, Tryd.func7, by decide, rfl, rfl, by kernel_rfl, by kernel_rfl⟩
theorem wq (W : World) (hW : WOK W) : Uf (Yu Tryd.prog W) 7 := xn (Γ := Yu Tryd.prog W) yk (Un W hW) (UM W hW) (YE W hW) (xr W hW) (qX W hW) (UL W hW)
theorem U8 : Has Tryd.prog 21 7 We r_packages_Check_1 := ⟨Tryd.f21, _, Tryd.func21, by decide, rfl, rfl, by kernel_rfl, by kernel_rfl⟩
theorem qn (W : World) (hW : WOK W) : XS (Yu Tryd.prog W) 21 := KD (Γ := Yu Tryd.prog W) U8
theorem Yw : Has Tryd.prog 41 19 Jr r_slices_IndexFunc___api_Package_api_Package := ⟨Tryd.f41, _, Tryd.func41, by decide, rfl, rfl, by kernel_rfl, by kernel_rfl⟩
theorem JM (W : World) (hW : WOK W) : Q9 (Yu Tryd.prog W) 41 := YC (Γ := Yu Tryd.prog W) Yw
theorem Yd : Has Tryd.prog 22 9 (Jh 41) r_slices_ContainsFunc___api_Package_api_Package := ⟨Tryd.f22, _, Tryd.func22, by decide, rfl, rfl, by kernel_rfl, by kernel_rfl⟩
theorem JI (W : World) (hW : WOK W) : Q6 (Yu Tryd.prog W) 22 := Yq (Γ := Yu Tryd.prog W) Yd (JM W hW)
theorem Y7 : Has Tryd.prog 43 19 JD r_slices_IndexFunc___api_Need_api_Need := ⟨Tryd.f43, _, Tryd.func43, by decide, rfl, rfl, by kernel_rfl, by kernel_rfl⟩
theorem Xl (W : World) (hW : WOK W) : Jz (Yu Tryd.prog W) 43 := Xb (Γ := Yu Tryd.prog W) Y7
theorem YO : Has Tryd.prog 31 9 (Jv 43) r_slices_ContainsFunc___api_Need_api_Need := ⟨Tryd.f31, _, Tryd.func31, by decide, rfl, rfl, by kernel_rfl, by kernel_rfl⟩
theorem JW (W : World) (hW : WOK W) : Je (Yu Tryd.prog W) 31 := YW (Γ := Yu Tryd.prog W) YO (Xl W hW)
theorem KV : Has Tryd.prog 42 14 (WP 31) r_packages_any_1 := ⟨Tryd.f42, _, Tryd.func42, by decide, rfl, rfl, by kernel_rfl, by kernel_rfl⟩
theorem jq (W : World) (hW : WOK W) : WC (Yu Tryd.prog W) 42 := qO (Γ := Yu Tryd.prog W) KV (JW W hW)
theorem jh : Has Tryd.prog 23 10 (VE 42 22) r_packages_any := ⟨Tryd.f23, _, Tryd.func23, by decide, rfl, rfl, by kernel_rfl, by kernel_rfl⟩
theorem yu (W : World) (hW : WOK W) : Vk (Yu Tryd.prog W) 23 := jV (Γ := Yu Tryd.prog W) jh (jq W hW) (JI W hW)
theorem qM : Has Tryd.prog 25 27 Vf r_catalog_Named := ⟨Tryd.f25, _, Tryd.func25, by decide, rfl, rfl, by kernel_rfl, by kernel_rfl⟩
theorem UN (W : World) (hW : WOK W) : XA (Yu Tryd.prog W) 25 := jo (Γ := Yu Tryd.prog W) qM
theorem U7 : Has Tryd.prog 24 7 (Wd 25) r_packages_Check_2 := ⟨Tryd.f24, _, Tryd.func24, by decide, rfl, rfl, by kernel_rfl, by kernel_rfl⟩
theorem qm (W : World) (hW : WOK W) : XR (Yu Tryd.prog W) 24 := KC (Γ := Yu Tryd.prog W) U7 (UN W hW)
theorem U6 : Has Tryd.prog 26 7 (Wc 25) r_packages_Check_3 := ⟨Tryd.f26, _, Tryd.func26, by decide, rfl, rfl, by kernel_rfl, by kernel_rfl⟩
theorem ql (W : World) (hW : WOK W) : XQ (Yu Tryd.prog W) 26 := KB (Γ := Yu Tryd.prog W) U6 (UN W hW)
theorem U5 : Has Tryd.prog 27 7 (Wb 28) r_packages_Check_4 := ⟨Tryd.f27, _, Tryd.func27, by decide, rfl, rfl, by kernel_rfl, by kernel_rfl⟩
theorem qk (W : World) (hW : WOK W) : XP (Yu Tryd.prog W) 27 := KA (Γ := Yu Tryd.prog W) U5 (Y3 W hW)
theorem Kq : Has Tryd.prog 30 23 (Ww 28) r_packages_ranged := ⟨Tryd.f30, _, Tryd.func30, by decide, rfl, rfl, by kernel_rfl, by kernel_rfl⟩
theorem qV (W : World) (hW : WOK W) : Wi (Yu Tryd.prog W) 30 := K1 (Γ := Yu Tryd.prog W) Kq (Y3 W hW)
theorem U4 : Has Tryd.prog 29 7 (Wa 30) r_packages_Check_5 := ⟨Tryd.f29, _, Tryd.func29, by decide, rfl, rfl, by kernel_rfl, by kernel_rfl⟩
theorem qj (W : World) (hW : WOK W) : XO (Yu Tryd.prog W) 29 := Kz (Γ := Yu Tryd.prog W) U4 (qV W hW)
theorem KW : Has Tryd.prog 8 42 (c_packages_Check 21 22 23 24 26 27 29) r_packages_Check := ⟨Tryd.f8, _, Tryd.func8, by decide, rfl, rfl, by kernel_rfl, by kernel_rfl⟩
theorem Um (W : World) (hW : WOK W) : Xm (Yu Tryd.prog W) 8 := qP (Γ := Yu Tryd.prog W) KW (qn W hW) (JI W hW) (yu W hW) (qm W hW) (ql W hW) (qk W hW) (qj W hW)
theorem Kr : Has Tryd.prog 53 8 Wx r_packages_find_1 := ⟨Tryd.f53, _, Tryd.func53, by decide, rfl, rfl, by kernel_rfl, by kernel_rfl⟩
theorem qW (W : World) (hW : WOK W) : Wj (Yu Tryd.prog W) 53 := K5 (Γ := Yu Tryd.prog W) Kr
theorem qH : Has Tryd.prog 44 8 (Va 53 41) r_packages_find := ⟨Tryd.f44, _, Tryd.func44, by decide, rfl, rfl, by kernel_rfl, by kernel_rfl⟩
theorem yb (W : World) (hW : WOK W) : WT (Yu Tryd.prog W) 44 := jj (Γ := Yu Tryd.prog W) qH (qW W hW) (JM W hW)
theorem jg : Has Tryd.prog 33 23 (c_packages_met 44 14) r_packages_met := ⟨Tryd.f33, _, Tryd.func33, by decide, rfl, rfl, by kernel_rfl, by kernel_rfl⟩
theorem yr (W : World) (hW : WOK W) : Vj (Yu Tryd.prog W) 33 := jU (Γ := Yu Tryd.prog W) jg (yb W hW) (qi W hW)
theorem Ur : Has Tryd.prog 32 8 (Xp 33) r_packages_Missing_1 := ⟨Tryd.f32, _, Tryd.func32, by decide, rfl, rfl, by kernel_rfl, by kernel_rfl⟩
theorem U9 (W : World) (hW : WOK W) : Xd (Yu Tryd.prog W) 32 := UB (Γ := Yu Tryd.prog W) Ur (yr W hW)
theorem U2 : Has Tryd.prog 9 30 (X8 8 32 31) r_packages_Missing := ⟨Tryd.f9, _, Tryd.func9, by decide, rfl, rfl, by kernel_rfl, by kernel_rfl⟩
theorem qh (W : World) (hW : WOK W) : XN (Yu Tryd.prog W) 9 := Kx (Γ := Yu Tryd.prog W) U2 (Um W hW) (U9 W hW) (JW W hW)
theorem yj : Has Tryd.prog 10 18 UI r_law12_text := ⟨Tryd.f10, _, Tryd.func10, by decide, rfl, rfl, by kernel_rfl, by kernel_rfl⟩
theorem wo (W : World) (hW : WOK W) : Ue (Yu Tryd.prog W) 10 := xm (Γ := Yu Tryd.prog W) yj
theorem VD : Has Tryd.prog 3 119 (c_law12_PackagesMissing 4 5 6 7 8 9 10) r_law12_PackagesMissing := ⟨Tryd.f3, _, Tryd.func3, by decide, rfl, rfl, by kernel_rfl, by kernel_rfl⟩
theorem Uc (W : World) (hW : WOK W) : XV (Yu Tryd.prog W) 3 := VN (Γ := Yu Tryd.prog W) VD (wm W hW) (xu W hW) (wZ W hW) (wq W hW) (Um W hW) (qh W hW) (wo W hW)
end Go.Proofs.YtalpffbofjlfgaaDoor
end

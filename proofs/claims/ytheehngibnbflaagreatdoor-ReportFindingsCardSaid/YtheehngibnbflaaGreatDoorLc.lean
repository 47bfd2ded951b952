/- The functions of the program that the law reaches: their contracts at this seat. -/
import Derived.Test.YtheehngibnbflaaGreatDoorLib
import Derived.Test.YtheehngibnbflaaGreatDoorFb
import Derived.KernelRfl
set_option linter.unusedVariables false
set_option linter.unusedSimpArgs false
section
namespace Go.Proofs.YtheehngibnbflaaGreatDoor
open Go Av Go.RowKit
set_option maxRecDepth 100000
set_option linter.unusedVariables false
theorem jl : Has Tryz.prog 4 6 V5 r_make_Light := ⟨Tryz.f4, _, Tryz.func4, by decide, rfl, rfl, by kernel_rfl, by kernel_rfl⟩
theorem y5 (W : World) (hW : WOK W) : VE (JO Tryz.prog W) 4 := yd (Γ := JO Tryz.prog W) jl
theorem xp : Has Tryz.prog 12 8 q8 r_move_At := ⟨Tryz.f12, _, Tryz.func12, by decide, rfl, rfl, by kernel_rfl, by kernel_rfl⟩
theorem aaB (W : World) (hW : WOK W) : KR (JO Tryz.prog W) 12 := wR (Γ := JO Tryz.prog W) xp
theorem KA : Has Tryz.prog 30 27 WE r_catalog_Named := ⟨Tryz.f30, _, Tryz.func30, by decide, rfl, rfl, by kernel_rfl, by kernel_rfl⟩
theorem Ub (W : World) (hW : WOK W) : Y0 (JO Tryz.prog W) 30 := qc (Γ := JO Tryz.prog W) KA
theorem K4 : Has Tryz.prog 75 46 W3 r_catalog_rows := ⟨Tryz.f75, _, Tryz.func75, by decide, rfl, rfl, by kernel_rfl, by kernel_rfl⟩
theorem jw (W : World) (hW : WOK W) : WK (JO Tryz.prog W) 75 := qS (Γ := JO Tryz.prog W) K4
theorem jm : Has Tryz.prog 51 14 (V6 75) r_catalog_of := ⟨Tryz.f51, _, Tryz.func51, by decide, rfl, rfl, by kernel_rfl, by kernel_rfl⟩
theorem V9 (W : World) (hW : WOK W) : XN (JO Tryz.prog W) 51 := ye (Γ := JO Tryz.prog W) jm (jw W hW)
theorem UJ : Has Tryz.prog 72 21 XV r_catalog_modulus := ⟨Tryz.f72, _, Tryz.func72, by decide, rfl, rfl, by kernel_rfl, by kernel_rfl⟩
theorem KQ (W : World) (hW : WOK W) : XO (JO Tryz.prog W) 72 := Ki (Γ := JO Tryz.prog W) UJ
theorem WP : Has Tryz.prog 74 19 JU r_slices_Index___int_int := ⟨Tryz.f74, _, Tryz.func74, by decide, rfl, rfl, by kernel_rfl, by kernel_rfl⟩
theorem Xj (W : World) (hW : WOK W) : Jo (JO Tryz.prog W) 74 := WZ (Γ := JO Tryz.prog W) WP
theorem We : Has Tryz.prog 73 9 (JG 74) r_slices_Contains___int_int := ⟨Tryz.f73, _, Tryz.func73, by decide, rfl, rfl, by kernel_rfl, by kernel_rfl⟩
theorem WH (W : World) (hW : WOK W) : JC (JO Tryz.prog W) 73 := Wn (Γ := JO Tryz.prog W) We (Xj W hW)
theorem Ur : Has Tryz.prog 50 61 (XC 51 72 73 74) r_catalog_Strength := ⟨Tryz.f50, _, Tryz.func50, by decide, rfl, rfl, by kernel_rfl, by kernel_rfl⟩
theorem Kk (W : World) (hW : WOK W) : Xg (JO Tryz.prog W) 50 := UL (Γ := JO Tryz.prog W) Ur (V9 W hW) (KQ W hW) (WH W hW) (Xj W hW)
theorem Ky : Has Tryz.prog 34 6 (WC 50) r_catalog_Valid := ⟨Tryz.f34, _, Tryz.func34, by decide, rfl, rfl, by kernel_rfl, by kernel_rfl⟩
theorem Ua (W : World) (hW : WOK W) : YZ (JO Tryz.prog W) 34 := qa (Γ := JO Tryz.prog W) Ky (Kk W hW)
theorem K7 : Has Tryz.prog 46 12 (W5 51) r_catalog_Kind := ⟨Tryz.f46, _, Tryz.func46, by decide, rfl, rfl, by kernel_rfl, by kernel_rfl⟩
theorem jz (W : World) (hW : WOK W) : WN (JO Tryz.prog W) 46 := qV (Γ := JO Tryz.prog W) K7 (V9 W hW)
theorem UH : Has Tryz.prog 31 114 (XU 34 46 30) r_finding_content := ⟨Tryz.f31, _, Tryz.func31, by decide, rfl, rfl, by kernel_rfl, by kernel_rfl⟩
theorem KO (W : World) (hW : WOK W) : XL (JO Tryz.prog W) 31 := Kg (Γ := JO Tryz.prog W) UH (Ua W hW) (jz W hW) (Ub W hW)
theorem Kx : Has Tryz.prog 17 62 (WB 30 31) r_finding_Check := ⟨Tryz.f17, _, Tryz.func17, by decide, rfl, rfl, by kernel_rfl, by kernel_rfl⟩
theorem jh (W : World) (hW : WOK W) : Wi (JO Tryz.prog W) 17 := K9 (Γ := JO Tryz.prog W) Kx (Ub W hW) (KO W hW)
theorem K1 : Has Tryz.prog 18 22 (W0 32) r_report_named := ⟨Tryz.f18, _, Tryz.func18, by decide, rfl, rfl, by kernel_rfl, by kernel_rfl⟩
theorem Uy (W : World) (hW : WOK W) : XH (JO Tryz.prog W) 18 := qP (Γ := JO Tryz.prog W) K1 (qd W hW)
theorem K2 : Has Tryz.prog 19 3 W1 r_report_begin := ⟨Tryz.f19, _, Tryz.func19, by decide, rfl, rfl, by kernel_rfl, by kernel_rfl⟩
theorem Uz (W : World) (hW : WOK W) : XI (JO Tryz.prog W) 19 := qQ (Γ := JO Tryz.prog W) K2
theorem V0 : Has Tryz.prog 21 16 Xa r_report_line__word := ⟨Tryz.f21, _, Tryz.func21, by decide, rfl, rfl, by kernel_rfl, by kernel_rfl⟩
theorem Xf (W : World) (hW : WOK W) : Jz (JO Tryz.prog W) 21 := Us (Γ := JO Tryz.prog W) V0
theorem Vr : Has Tryz.prog 20 9 (Yx 33 21) r_report_line__number := ⟨Tryz.f20, _, Tryz.func20, by decide, rfl, rfl, by kernel_rfl, by kernel_rfl⟩
theorem V8 (W : World) (hW : WOK W) : Yi (JO Tryz.prog W) 20 := VQ (Γ := JO Tryz.prog W) Vr (Ux W hW) (Xf W hW)
theorem K6 : Has Tryz.prog 35 12 (W4 51) r_catalog_Name := ⟨Tryz.f35, _, Tryz.func35, by decide, rfl, rfl, by kernel_rfl, by kernel_rfl⟩
theorem jy (W : World) (hW : WOK W) : WM (JO Tryz.prog W) 35 := qU (Γ := JO Tryz.prog W) K6 (V9 W hW)
theorem K5 : Has Tryz.prog 22 22 (c_catalog_Text 34 35 33) r_catalog_Text := ⟨Tryz.f22, _, Tryz.func22, by decide, rfl, rfl, by kernel_rfl, by kernel_rfl⟩
theorem jx (W : World) (hW : WOK W) : WL (JO Tryz.prog W) 22 := qT (Γ := JO Tryz.prog W) K5 (Ua W hW) (jy W hW) (Ux W hW)
theorem Uq : Has Tryz.prog 23 9 (XB 36) r_report_line__end := ⟨Tryz.f23, _, Tryz.func23, by decide, rfl, rfl, by kernel_rfl, by kernel_rfl⟩
theorem WX (W : World) (hW : WOK W) : Yb (JO Tryz.prog W) 23 := UK (Γ := JO Tryz.prog W) Uq (ju W hW)
theorem U6 : Has Tryz.prog 8 66 (c_report_Finding 17 18 19 20 21 22 23) r_report_Finding := ⟨Tryz.f8, _, Tryz.func8, by decide, rfl, rfl, by kernel_rfl, by kernel_rfl⟩
theorem VM (W : World) (hW : WOK W) : YI (JO Tryz.prog W) 8 := KE (Γ := JO Tryz.prog W) U6 (jh W hW) (Uy W hW) (Uz W hW) (V8 W hW) (Xf W hW) (jx W hW) (WX W hW)
theorem Yr : Has Tryz.prog 68 19 Q4 r_slices_IndexFunc___api_Item_api_Item := ⟨Tryz.f68, _, Tryz.func68, by decide, rfl, rfl, by kernel_rfl, by kernel_rfl⟩
theorem YH (W : World) (hW : WOK W) : Q3 (JO Tryz.prog W) 68 := Yv (Γ := JO Tryz.prog W) Yr
theorem J8 : Has Tryz.prog 41 9 (QT 68) r_slices_ContainsFunc___api_Item_api_Item := ⟨Tryz.f41, _, Tryz.func41, by decide, rfl, rfl, by kernel_rfl, by kernel_rfl⟩
theorem Yh (W : World) (hW : WOK W) : QS (JO Tryz.prog W) 41 := Yc (Γ := JO Tryz.prog W) J8 (YH W hW)
theorem UI : Has Tryz.prog 44 80 c_exposure_linked r_exposure_linked := ⟨Tryz.f44, _, Tryz.func44, by decide, rfl, rfl, by kernel_rfl, by kernel_rfl⟩
theorem KP (W : World) (hW : WOK W) : XM (JO Tryz.prog W) 44 := Kh (Γ := JO Tryz.prog W) UI
theorem U7 : Has Tryz.prog 27 59 (c_exposure_Check 40 41 42 44) r_exposure_Check := ⟨Tryz.f27, _, Tryz.func27, by decide, rfl, rfl, by kernel_rfl, by kernel_rfl⟩
theorem qe (W : World) (hW : WOK W) : XZ (JO Tryz.prog W) 27 := KF (Γ := JO Tryz.prog W) U7 (Yh W hW) (KP W hW)
theorem qL : Has Tryz.prog 86 8 VC r_catalog_use := ⟨Tryz.f86, _, Tryz.func86, by decide, rfl, rfl, by kernel_rfl, by kernel_rfl⟩
theorem yo (W : World) (hW : WOK W) : W9 (JO Tryz.prog W) 86 := js (Γ := JO Tryz.prog W) qL
theorem U8 : Has Tryz.prog 69 125 (c_catalog_Suites 86) r_catalog_Suites := ⟨Tryz.f69, _, Tryz.func69, by decide, rfl, rfl, by kernel_rfl, by kernel_rfl⟩
theorem qf (W : World) (hW : WOK W) : X0 (JO Tryz.prog W) 69 := KG (Γ := JO Tryz.prog W) U8 (yo W hW)
theorem Kz : Has Tryz.prog 45 20 (WD 69) r_catalog_Suite := ⟨Tryz.f45, _, Tryz.func45, by decide, rfl, rfl, by kernel_rfl, by kernel_rfl⟩
theorem ji (W : World) (hW : WOK W) : Wj (JO Tryz.prog W) 45 := qb (Γ := JO Tryz.prog W) Kz (qf W hW)
theorem qI : Has Tryz.prog 28 104 (c_report_risk 18 19 21 45 23) r_report_risk := ⟨Tryz.f28, _, Tryz.func28, by decide, rfl, rfl, by kernel_rfl, by kernel_rfl⟩
theorem yl (W : World) (hW : WOK W) : W6 (JO Tryz.prog W) 28 := jp (Γ := JO Tryz.prog W) qI (Uy W hW) (Uz W hW) (Xf W hW) (ji W hW) (WX W hW)
theorem qJ : Has Tryz.prog 13 14 (VA 27 28) r_report_Risk := ⟨Tryz.f13, _, Tryz.func13, by decide, rfl, rfl, by kernel_rfl, by kernel_rfl⟩
theorem ym (W : World) (hW : WOK W) : W7 (JO Tryz.prog W) 13 := jq (Γ := JO Tryz.prog W) qJ (qe W hW) (yl W hW)
theorem qK : Has Tryz.prog 5 26 (VB 12 8 13) r_law43_awake := ⟨Tryz.f5, _, Tryz.func5, by decide, rfl, rfl, by kernel_rfl, by kernel_rfl⟩
theorem yn (W : World) (hW : WOK W) : W8 (JO Tryz.prog W) 5 := jr (Γ := JO Tryz.prog W) qK (aaB W hW) (VM W hW) (ym W hW)
theorem j8 : Has Tryz.prog 7 6 UQ r_make_Roll := ⟨Tryz.f7, _, Tryz.func7, by decide, rfl, rfl, by kernel_rfl, by kernel_rfl⟩
theorem xH (W : World) (hW : WOK W) : Ud (JO Tryz.prog W) 7 := yP (Γ := JO Tryz.prog W) j8
theorem yK : Has Tryz.prog 29 14 KL r_make_Mod := ⟨Tryz.f29, _, Tryz.func29, by decide, rfl, rfl, by kernel_rfl, by kernel_rfl⟩
theorem vl (W : World) (hW : WOK W) : UV (JO Tryz.prog W) 29 := xw (Γ := JO Tryz.prog W) yK
theorem UG : Has Tryz.prog 14 35 (c_make_Dice__Next 29) r_make_Dice__Next := ⟨Tryz.f14, _, Tryz.func14, by decide, rfl, rfl, by kernel_rfl, by kernel_rfl⟩
theorem XY (W : World) (hW : WOK W) : JM (JO Tryz.prog W) 14 := Kf (Γ := JO Tryz.prog W) UG (vl W hW)
theorem UF : Has Tryz.prog 15 12 (XT 14) r_make_Dice__Word := ⟨Tryz.f15, _, Tryz.func15, by decide, rfl, rfl, by kernel_rfl, by kernel_rfl⟩
theorem KN (W : World) (hW : WOK W) : XJ (JO Tryz.prog W) 15 := Ke (Γ := JO Tryz.prog W) UF (XY W hW)
theorem Kw : Has Tryz.prog 16 12 (WA 14) r_make_Dice__Of := ⟨Tryz.f16, _, Tryz.func16, by decide, rfl, rfl, by kernel_rfl, by kernel_rfl⟩
theorem jg (W : World) (hW : WOK W) : Wh (JO Tryz.prog W) 16 := K8 (Γ := JO Tryz.prog W) Kw (XY W hW)
theorem K3 : Has Tryz.prog 6 76 (W2 14 15 16) r_make_Finding := ⟨Tryz.f6, _, Tryz.func6, by decide, rfl, rfl, by kernel_rfl, by kernel_rfl⟩
theorem jv (W : World) (hW : WOK W) : WJ (JO Tryz.prog W) 6 := qR (Γ := JO Tryz.prog W) K3 (XY W hW) (KN W hW) (jg W hW)
theorem Vc : Has Tryz.prog 3 71 (c_law43_ReportFindings 4 5 7 6 8 10 9 11) r_law43_ReportFindings := ⟨Tryz.f3, _, Tryz.func3, by decide, rfl, rfl, by kernel_rfl, by kernel_rfl⟩
theorem VR (W : World) (hW : WOK W) : XK (JO Tryz.prog W) 3 := Vv (Γ := JO Tryz.prog W) Vc (y5 W hW) (yn W hW) (xH W hW) (jv W hW) (VM W hW) (Ut W hW) (jf W hW) (UU W hW)
end Go.Proofs.YtheehngibnbflaaGreatDoor
end

/- The functions of the program that the law reaches: their contracts at this seat. -/
import Derived.Test.YtkaibdnlbdjhfaaDoorLib
import Derived.Test.YtkaibdnlbdjhfaaDoorWo
import Derived.Test.YtkaibdnlbdjhfaaDoorWv
import Derived.KernelRfl
set_option linter.unusedVariables false
set_option linter.unusedSimpArgs false
section
namespace Go.Proofs.YtkaibdnlbdjhfaaDoor
open Go Av Go.RowKit
set_option maxRecDepth 100000
set_option linter.unusedVariables false
theorem has_make_Light : Has Tryd.prog 5 6 c_make_Light r_make_Light := ⟨Tryd.f5, _, Tryd.func5, by decide, rfl, rfl, by kernel_rfl, by kernel_rfl⟩
theorem E_make_Light (W : World) (hW : WOK W) : CE_make_Light (envW Tryd.prog W) 5 := ev_make_Light (Γ := envW Tryd.prog W) has_make_Light
theorem has_packages_version : Has Tryd.prog 32 26 c_packages_version r_packages_version := ⟨Tryd.f32, _, Tryd.func32, by decide, rfl, rfl, by kernel_rfl, by kernel_rfl⟩
theorem E_packages_version (W : World) (hW : WOK W) : CE_packages_version (envW Tryd.prog W) 32 := ev_packages_version (Γ := envW Tryd.prog W) has_packages_version
theorem has_packages_Version : Has Tryd.prog 18 38 (c_packages_Version 29 30 31 32) r_packages_Version := ⟨Tryd.f18, _, Tryd.func18, by decide, rfl, rfl, by kernel_rfl, by kernel_rfl⟩
theorem E_packages_Version (W : World) (hW : WOK W) : CE_packages_Version (envW Tryd.prog W) 18 := ev_packages_Version (Γ := envW Tryd.prog W) has_packages_Version (E_strings_Split W hW) (E_strconv_Atoi W hW) (E_strconv_Itoa W hW) (E_packages_version W hW)
theorem has_packages_Text : Has Tryd.prog 21 24 (c_packages_Text 32 31 34) r_packages_Text := ⟨Tryd.f21, _, Tryd.func21, by decide, rfl, rfl, by kernel_rfl, by kernel_rfl⟩
theorem E_packages_Text (W : World) (hW : WOK W) : CE_packages_Text (envW Tryd.prog W) 21 := ev_packages_Text (Γ := envW Tryd.prog W) has_packages_Text (E_packages_version W hW) (E_strconv_Itoa W hW) (E_strings_Join W hW)
theorem has_packages_part : Has Tryd.prog 24 13 c_packages_part r_packages_part := ⟨Tryd.f24, _, Tryd.func24, by decide, rfl, rfl, by kernel_rfl, by kernel_rfl⟩
theorem E_packages_part (W : World) (hW : WOK W) : CE_packages_part (envW Tryd.prog W) 24 := ev_packages_part (Γ := envW Tryd.prog W) has_packages_part
theorem has_cmp_isNaN_int : Has Tryd.prog 35 6 c_cmp_isNaN_int r_cmp_isNaN_int := ⟨Tryd.f35, _, Tryd.func35, by decide, rfl, rfl, by kernel_rfl, by kernel_rfl⟩
theorem E_cmp_isNaN_int (W : World) (hW : WOK W) : CE_cmp_isNaN_int (envW Tryd.prog W) 35 := ev_cmp_isNaN_int (Γ := envW Tryd.prog W) has_cmp_isNaN_int
theorem has_cmp_Compare_int : Has Tryd.prog 23 20 (c_cmp_Compare_int 35) r_cmp_Compare_int := ⟨Tryd.f23, _, Tryd.func23, by decide, rfl, rfl, by kernel_rfl, by kernel_rfl⟩
theorem E_cmp_Compare_int (W : World) (hW : WOK W) : CE_cmp_Compare_int (envW Tryd.prog W) 23 := ev_cmp_Compare_int (Γ := envW Tryd.prog W) has_cmp_Compare_int (E_cmp_isNaN_int W hW)
theorem has_packages_Compare : Has Tryd.prog 10 26 (c_packages_Compare 24 23) r_packages_Compare := ⟨Tryd.f10, _, Tryd.func10, by decide, rfl, rfl, by kernel_rfl, by kernel_rfl⟩
theorem E_packages_Compare (W : World) (hW : WOK W) : CE_packages_Compare (envW Tryd.prog W) 10 := ev_packages_Compare (Γ := envW Tryd.prog W) has_packages_Compare (E_packages_part W hW) (E_cmp_Compare_int W hW)
theorem has_packages_In : Has Tryd.prog 12 29 (c_packages_In 10) r_packages_In := ⟨Tryd.f12, _, Tryd.func12, by decide, rfl, rfl, by kernel_rfl, by kernel_rfl⟩
theorem E_packages_In (W : World) (hW : WOK W) : CE_packages_In (envW Tryd.prog W) 12 := ev_packages_In (Γ := envW Tryd.prog W) has_packages_In (E_packages_Compare W hW)
theorem has_law12_awake : Has Tryd.prog 6 45 (c_law12_awake 18 21 10 12) r_law12_awake := ⟨Tryd.f6, _, Tryd.func6, by decide, rfl, rfl, by kernel_rfl, by kernel_rfl⟩
theorem E_law12_awake (W : World) (hW : WOK W) : CE_law12_awake (envW Tryd.prog W) 6 := ev_law12_awake (Γ := envW Tryd.prog W) has_law12_awake (E_packages_Version W hW) (E_packages_Text W hW) (E_packages_Compare W hW) (E_packages_In W hW)
theorem has_make_Roll : Has Tryd.prog 7 6 c_make_Roll r_make_Roll := ⟨Tryd.f7, _, Tryd.func7, by decide, rfl, rfl, by kernel_rfl, by kernel_rfl⟩
theorem E_make_Roll (W : World) (hW : WOK W) : CE_make_Roll (envW Tryd.prog W) 7 := ev_make_Roll (Γ := envW Tryd.prog W) has_make_Roll
theorem has_make_Mod : Has Tryd.prog 28 14 c_make_Mod r_make_Mod := ⟨Tryd.f28, _, Tryd.func28, by decide, rfl, rfl, by kernel_rfl, by kernel_rfl⟩
theorem E_make_Mod (W : World) (hW : WOK W) : CE_make_Mod (envW Tryd.prog W) 28 := ev_make_Mod (Γ := envW Tryd.prog W) has_make_Mod
theorem has_make_Dice__Next : Has Tryd.prog 16 35 (c_make_Dice__Next 28) r_make_Dice__Next := ⟨Tryd.f16, _, Tryd.func16, by decide, rfl, rfl, by kernel_rfl, by kernel_rfl⟩
theorem E_make_Dice__Next (W : World) (hW : WOK W) : CE_make_Dice__Next (envW Tryd.prog W) 16 := ev_make_Dice__Next (Γ := envW Tryd.prog W) has_make_Dice__Next (E_make_Mod W hW)
theorem has_make_Dice__Of : Has Tryd.prog 15 12 (c_make_Dice__Of 16) r_make_Dice__Of := ⟨Tryd.f15, _, Tryd.func15, by decide, rfl, rfl, by kernel_rfl, by kernel_rfl⟩
theorem E_make_Dice__Of (W : World) (hW : WOK W) : CE_make_Dice__Of (envW Tryd.prog W) 15 := ev_make_Dice__Of (Γ := envW Tryd.prog W) has_make_Dice__Of (E_make_Dice__Next W hW)
theorem has_law12_version : Has Tryd.prog 8 21 (c_law12_version 16 15) r_law12_version := ⟨Tryd.f8, _, Tryd.func8, by decide, rfl, rfl, by kernel_rfl, by kernel_rfl⟩
theorem E_law12_version (W : World) (hW : WOK W) : CE_law12_version (envW Tryd.prog W) 8 := ev_law12_version (Γ := envW Tryd.prog W) has_law12_version (E_make_Dice__Next W hW) (E_make_Dice__Of W hW)
theorem has_make_Dice__One : Has Tryd.prog 22 11 (c_make_Dice__One 16) r_make_Dice__One := ⟨Tryd.f22, _, Tryd.func22, by decide, rfl, rfl, by kernel_rfl, by kernel_rfl⟩
theorem E_make_Dice__One (W : World) (hW : WOK W) : CE_make_Dice__One (envW Tryd.prog W) 22 := ev_make_Dice__One (Γ := envW Tryd.prog W) has_make_Dice__One (E_make_Dice__Next W hW)
theorem has_law12_bound : Has Tryd.prog 9 15 (c_law12_bound 22 8) r_law12_bound := ⟨Tryd.f9, _, Tryd.func9, by decide, rfl, rfl, by kernel_rfl, by kernel_rfl⟩
theorem E_law12_bound (W : World) (hW : WOK W) : CE_law12_bound (envW Tryd.prog W) 9 := ev_law12_bound (Γ := envW Tryd.prog W) has_law12_bound (E_make_Dice__One W hW) (E_law12_version W hW)
theorem has_ref12_part : Has Tryd.prog 25 13 c_ref12_part r_ref12_part := ⟨Tryd.f25, _, Tryd.func25, by decide, rfl, rfl, by kernel_rfl, by kernel_rfl⟩
theorem E_ref12_part (W : World) (hW : WOK W) : CE_ref12_part (envW Tryd.prog W) 25 := ev_ref12_part (Γ := envW Tryd.prog W) has_ref12_part
theorem has_ref12_Compare : Has Tryd.prog 11 32 (c_ref12_Compare 25) r_ref12_Compare := ⟨Tryd.f11, _, Tryd.func11, by decide, rfl, rfl, by kernel_rfl, by kernel_rfl⟩
theorem E_ref12_Compare (W : World) (hW : WOK W) : CE_ref12_Compare (envW Tryd.prog W) 11 := ev_ref12_Compare (Γ := envW Tryd.prog W) has_ref12_Compare (E_ref12_part W hW)
theorem has_ref12_In : Has Tryd.prog 13 29 (c_ref12_In 11) r_ref12_In := ⟨Tryd.f13, _, Tryd.func13, by decide, rfl, rfl, by kernel_rfl, by kernel_rfl⟩
theorem E_ref12_In (W : World) (hW : WOK W) : CE_ref12_In (envW Tryd.prog W) 13 := ev_ref12_In (Γ := envW Tryd.prog W) has_ref12_In (E_ref12_Compare W hW)
theorem has_ref12_right : Has Tryd.prog 26 30 c_ref12_right r_ref12_right := ⟨Tryd.f26, _, Tryd.func26, by decide, rfl, rfl, by kernel_rfl, by kernel_rfl⟩
theorem E_ref12_right (W : World) (hW : WOK W) : CE_ref12_right (envW Tryd.prog W) 26 := ev_ref12_right (Γ := envW Tryd.prog W) has_ref12_right
theorem has_ref02_Decimal : Has Tryd.prog 27 20 (c_ref02_Decimal 27) r_ref02_Decimal := ⟨Tryd.f27, _, Tryd.func27, by decide, rfl, rfl, by kernel_rfl, by kernel_rfl⟩
theorem E_ref02_Decimal (W : World) (hW : WOK W) : CE_ref02_Decimal (envW Tryd.prog W) 27 := ev_ref02_Decimal (Γ := envW Tryd.prog W) has_ref02_Decimal
theorem has_ref12_Text : Has Tryd.prog 14 28 (c_ref12_Text 26 27) r_ref12_Text := ⟨Tryd.f14, _, Tryd.func14, by decide, rfl, rfl, by kernel_rfl, by kernel_rfl⟩
theorem E_ref12_Text (W : World) (hW : WOK W) : CE_ref12_Text (envW Tryd.prog W) 14 := ev_ref12_Text (Γ := envW Tryd.prog W) has_ref12_Text (E_ref12_right W hW) (E_ref02_Decimal W hW)
theorem has_make_Dice__Word : Has Tryd.prog 17 12 (c_make_Dice__Word 16) r_make_Dice__Word := ⟨Tryd.f17, _, Tryd.func17, by decide, rfl, rfl, by kernel_rfl, by kernel_rfl⟩
theorem E_make_Dice__Word (W : World) (hW : WOK W) : CE_make_Dice__Word (envW Tryd.prog W) 17 := ev_make_Dice__Word (Γ := envW Tryd.prog W) has_make_Dice__Word (E_make_Dice__Next W hW)
theorem has_ref02_Number : Has Tryd.prog 33 49 c_ref02_Number r_ref02_Number := ⟨Tryd.f33, _, Tryd.func33, by decide, rfl, rfl, by kernel_rfl, by kernel_rfl⟩
theorem E_ref02_Number (W : World) (hW : WOK W) : CE_ref02_Number (envW Tryd.prog W) 33 := ev_ref02_Number (Γ := envW Tryd.prog W) has_ref02_Number
theorem has_ref12_Version : Has Tryd.prog 19 50 (c_ref12_Version 33 26) r_ref12_Version := ⟨Tryd.f19, _, Tryd.func19, by decide, rfl, rfl, by kernel_rfl, by kernel_rfl⟩
theorem E_ref12_Version (W : World) (hW : WOK W) : CE_ref12_Version (envW Tryd.prog W) 19 := ev_ref12_Version (Γ := envW Tryd.prog W) has_ref12_Version (E_ref02_Number W hW) (E_ref12_right W hW)
theorem has_ref02_SameInts : Has Tryd.prog 20 26 c_ref02_SameInts r_ref02_SameInts := ⟨Tryd.f20, _, Tryd.func20, by decide, rfl, rfl, by kernel_rfl, by kernel_rfl⟩
theorem E_ref02_SameInts (W : World) (hW : WOK W) : CE_ref02_SameInts (envW Tryd.prog W) 20 := ev_ref02_SameInts (Γ := envW Tryd.prog W) has_ref02_SameInts
theorem has_law12_PackagesVersions : Has Tryd.prog 3 141 (c_law12_PackagesVersions 5 6 7 8 9 10 11 12 13 14 16 15 17 18 19 20 21) r_law12_PackagesVersions := ⟨Tryd.f3, _, Tryd.func3, by decide, rfl, rfl, by kernel_rfl, by kernel_rfl⟩
theorem E_law12_PackagesVersions (W : World) (hW : WOK W) : CE_law12_PackagesVersions (envW Tryd.prog W) 3 := ev_law12_PackagesVersions (Γ := envW Tryd.prog W) has_law12_PackagesVersions (E_make_Light W hW) (E_law12_awake W hW) (E_make_Roll W hW) (E_law12_version W hW) (E_law12_bound W hW) (E_packages_Compare W hW) (E_ref12_Compare W hW) (E_packages_In W hW) (E_ref12_In W hW) (E_ref12_Text W hW) (E_make_Dice__Next W hW) (E_make_Dice__Of W hW) (E_make_Dice__Word W hW) (E_packages_Version W hW) (E_ref12_Version W hW) (E_ref02_SameInts W hW) (E_packages_Text W hW)
theorem has_law12_PackagesOrder : Has Tryd.prog 4 114 (c_law12_PackagesOrder 5 6 7 8 21 18 10 20 12) r_law12_PackagesOrder := ⟨Tryd.f4, _, Tryd.func4, by decide, rfl, rfl, by kernel_rfl, by kernel_rfl⟩
theorem E_law12_PackagesOrder (W : World) (hW : WOK W) : CE_law12_PackagesOrder (envW Tryd.prog W) 4 := ev_law12_PackagesOrder (Γ := envW Tryd.prog W) has_law12_PackagesOrder (E_make_Light W hW) (E_law12_awake W hW) (E_make_Roll W hW) (E_law12_version W hW) (E_packages_Text W hW) (E_packages_Version W hW) (E_packages_Compare W hW) (E_ref02_SameInts W hW) (E_packages_In W hW)
end Go.Proofs.YtkaibdnlbdjhfaaDoor
end

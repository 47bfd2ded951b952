/- The functions of the program that the law reaches: their contracts at this seat. -/
import Derived.Test.YtdjmgokhpganaaaDoorLibJ
import Derived.Test.YtdjmgokhpganaaaDoorWc
import Derived.KernelRfl
set_option linter.unusedVariables false
set_option linter.unusedSimpArgs false
section
namespace Go.Proofs.YtdjmgokhpganaaaDoor
open Go Av Go.RowKit Go.Proofs.YtdjmgokhpganaaaDoor.S8
set_option maxRecDepth 100000
set_option linter.unusedVariables false
theorem has_make_Light : Has Tryd.prog 14 6 c_make_Light r_make_Light := ⟨Tryd.f14, _, Tryd.func14, by decide, rfl, rfl, by kernel_rfl, by kernel_rfl⟩
theorem E_make_Light (W : World) (hW : WOK W) : CE_make_Light (envW Tryd.prog W) 14 := ev_make_Light (Γ := envW Tryd.prog W) has_make_Light
theorem has_slices_Clone___int_int : Has Tryd.prog 65 8 c_slices_Clone___int_int r_slices_Clone___int_int := ⟨Tryd.f65, _, Tryd.func65, by decide, rfl, rfl, by kernel_rfl, by kernel_rfl⟩
theorem E_slices_Clone___int_int (W : World) (hW : WOK W) : CE_slices_Clone___int_int (envW Tryd.prog W) 65 := ev_slices_Clone___int_int (Γ := envW Tryd.prog W) has_slices_Clone___int_int
theorem has_slices_insertionSortCmpFunc_int : Has Tryd.prog 112 53 c_slices_insertionSortCmpFunc_int r_slices_insertionSortCmpFunc_int := ⟨Tryd.f112, _, Tryd.func112, by decide, rfl, rfl, by kernel_rfl, by kernel_rfl⟩
theorem E_slices_insertionSortCmpFunc_int (W : World) (hW : WOK W) : CE_slices_insertionSortCmpFunc_int (envW Tryd.prog W) 112 := ev_slices_insertionSortCmpFunc_int (Γ := envW Tryd.prog W) has_slices_insertionSortCmpFunc_int
theorem has_slices_stableCmpFunc_int : Has Tryd.prog 100 63 (c_slices_stableCmpFunc_int 112 113) r_slices_stableCmpFunc_int := ⟨Tryd.f100, _, Tryd.func100, by decide, rfl, rfl, by kernel_rfl, by kernel_rfl⟩
theorem E_slices_stableCmpFunc_int (W : World) (hW : WOK W) : CE_slices_stableCmpFunc_int (envW Tryd.prog W) 100 := ev_slices_stableCmpFunc_int (Γ := envW Tryd.prog W) has_slices_stableCmpFunc_int (E_slices_insertionSortCmpFunc_int W hW)
theorem has_slices_SortStableFunc___int_int : Has Tryd.prog 66 9 (c_slices_SortStableFunc___int_int 100) r_slices_SortStableFunc___int_int := ⟨Tryd.f66, _, Tryd.func66, by decide, rfl, rfl, by kernel_rfl, by kernel_rfl⟩
theorem E_slices_SortStableFunc___int_int (W : World) (hW : WOK W) : CE_slices_SortStableFunc___int_int (envW Tryd.prog W) 66 := ev_slices_SortStableFunc___int_int (Γ := envW Tryd.prog W) has_slices_SortStableFunc___int_int (E_slices_stableCmpFunc_int W hW)
theorem has_catalog_use : Has Tryd.prog 82 8 c_catalog_use r_catalog_use := ⟨Tryd.f82, _, Tryd.func82, by decide, rfl, rfl, by kernel_rfl, by kernel_rfl⟩
theorem E_catalog_use (W : World) (hW : WOK W) : CE_catalog_use (envW Tryd.prog W) 82 := ev_catalog_use (Γ := envW Tryd.prog W) has_catalog_use
theorem has_catalog_Suites : Has Tryd.prog 44 125 (c_catalog_Suites 82) r_catalog_Suites := ⟨Tryd.f44, _, Tryd.func44, by decide, rfl, rfl, by kernel_rfl, by kernel_rfl⟩
theorem E_catalog_Suites (W : World) (hW : WOK W) : CE_catalog_Suites (envW Tryd.prog W) 44 := ev_catalog_Suites (Γ := envW Tryd.prog W) has_catalog_Suites (E_catalog_use W hW)
theorem has_catalog_Suite : Has Tryd.prog 46 20 (c_catalog_Suite 44) r_catalog_Suite := ⟨Tryd.f46, _, Tryd.func46, by decide, rfl, rfl, by kernel_rfl, by kernel_rfl⟩
theorem E_catalog_Suite (W : World) (hW : WOK W) : CE_catalog_Suite (envW Tryd.prog W) 46 := ev_catalog_Suite (Γ := envW Tryd.prog W) has_catalog_Suite (E_catalog_Suites W hW)
theorem has_catalog_rows : Has Tryd.prog 89 46 c_catalog_rows r_catalog_rows := ⟨Tryd.f89, _, Tryd.func89, by decide, rfl, rfl, by kernel_rfl, by kernel_rfl⟩
theorem E_catalog_rows (W : World) (hW : WOK W) : CE_catalog_rows (envW Tryd.prog W) 89 := ev_catalog_rows (Γ := envW Tryd.prog W) has_catalog_rows
theorem has_catalog_of : Has Tryd.prog 78 14 (c_catalog_of 89) r_catalog_of := ⟨Tryd.f78, _, Tryd.func78, by decide, rfl, rfl, by kernel_rfl, by kernel_rfl⟩
theorem E_catalog_of (W : World) (hW : WOK W) : CE_catalog_of (envW Tryd.prog W) 78 := ev_catalog_of (Γ := envW Tryd.prog W) has_catalog_of (E_catalog_rows W hW)
theorem has_catalog_modulus : Has Tryd.prog 79 21 c_catalog_modulus r_catalog_modulus := ⟨Tryd.f79, _, Tryd.func79, by decide, rfl, rfl, by kernel_rfl, by kernel_rfl⟩
theorem E_catalog_modulus (W : World) (hW : WOK W) : CE_catalog_modulus (envW Tryd.prog W) 79 := ev_catalog_modulus (Γ := envW Tryd.prog W) has_catalog_modulus
theorem has_slices_Index___int_int : Has Tryd.prog 80 19 c_slices_Index___int_int r_slices_Index___int_int := ⟨Tryd.f80, _, Tryd.func80, by decide, rfl, rfl, by kernel_rfl, by kernel_rfl⟩
theorem E_slices_Index___int_int (W : World) (hW : WOK W) : CE_slices_Index___int_int (envW Tryd.prog W) 80 := ev_slices_Index___int_int (Γ := envW Tryd.prog W) has_slices_Index___int_int
theorem has_slices_Contains___int_int : Has Tryd.prog 71 9 (c_slices_Contains___int_int 80) r_slices_Contains___int_int := ⟨Tryd.f71, _, Tryd.func71, by decide, rfl, rfl, by kernel_rfl, by kernel_rfl⟩
theorem E_slices_Contains___int_int (W : World) (hW : WOK W) : CE_slices_Contains___int_int (envW Tryd.prog W) 71 := ev_slices_Contains___int_int (Γ := envW Tryd.prog W) has_slices_Contains___int_int (E_slices_Index___int_int W hW)
theorem has_catalog_Strength : Has Tryd.prog 41 61 (c_catalog_Strength 78 79 71 80) r_catalog_Strength := ⟨Tryd.f41, _, Tryd.func41, by decide, rfl, rfl, by kernel_rfl, by kernel_rfl⟩
theorem E_catalog_Strength (W : World) (hW : WOK W) : CE_catalog_Strength (envW Tryd.prog W) 41 := ev_catalog_Strength (Γ := envW Tryd.prog W) has_catalog_Strength (E_catalog_of W hW) (E_catalog_modulus W hW) (E_slices_Contains___int_int W hW) (E_slices_Index___int_int W hW)
theorem has_suitespec_Strength : Has Tryd.prog 29 15 (c_suitespec_Strength 46 41) r_suitespec_Strength := ⟨Tryd.f29, _, Tryd.func29, by decide, rfl, rfl, by kernel_rfl, by kernel_rfl⟩
theorem E_suitespec_Strength (W : World) (hW : WOK W) : CE_suitespec_Strength (envW Tryd.prog W) 29 := ev_suitespec_Strength (Γ := envW Tryd.prog W) has_suitespec_Strength (E_catalog_Suite W hW) (E_catalog_Strength W hW)
theorem has_suitespec_Sort_1 : Has Tryd.prog 67 10 (c_suitespec_Sort_1 29) r_suitespec_Sort_1 := ⟨Tryd.f67, _, Tryd.func67, by decide, rfl, rfl, by kernel_rfl, by kernel_rfl⟩
theorem E_suitespec_Sort_1 (W : World) (hW : WOK W) : CE_suitespec_Sort_1 (envW Tryd.prog W) 67 := ev_suitespec_Sort_1 (Γ := envW Tryd.prog W) has_suitespec_Sort_1 (E_suitespec_Strength W hW)
theorem has_suitespec_Sort : Has Tryd.prog 27 9 (c_suitespec_Sort 65 66 67) r_suitespec_Sort := ⟨Tryd.f27, _, Tryd.func27, by decide, rfl, rfl, by kernel_rfl, by kernel_rfl⟩
theorem E_suitespec_Sort (W : World) (hW : WOK W) : CE_suitespec_Sort (envW Tryd.prog W) 27 := ev_suitespec_Sort (Γ := envW Tryd.prog W) has_suitespec_Sort (E_slices_Clone___int_int W hW) (E_slices_SortStableFunc___int_int W hW) (E_suitespec_Sort_1 W hW)
theorem has_suitespec_group : Has Tryd.prog 94 49 (c_suitespec_group 41) r_suitespec_group := ⟨Tryd.f94, _, Tryd.func94, by decide, rfl, rfl, by kernel_rfl, by kernel_rfl⟩
theorem E_suitespec_group (W : World) (hW : WOK W) : CE_suitespec_group (envW Tryd.prog W) 94 := ev_suitespec_group (Γ := envW Tryd.prog W) has_suitespec_group (E_catalog_Strength W hW)
theorem has_catalog_Find : Has Tryd.prog 54 20 (c_catalog_Find 89) r_catalog_Find := ⟨Tryd.f54, _, Tryd.func54, by decide, rfl, rfl, by kernel_rfl, by kernel_rfl⟩
theorem E_catalog_Find (W : World) (hW : WOK W) : CE_catalog_Find (envW Tryd.prog W) 54 := ev_catalog_Find (Γ := envW Tryd.prog W) has_catalog_Find (E_catalog_rows W hW)
theorem has_catalog_Code_1 : Has Tryd.prog 91 8 c_catalog_Code_1 r_catalog_Code_1 := ⟨Tryd.f91, _, Tryd.func91, by decide, rfl, rfl, by kernel_rfl, by kernel_rfl⟩
theorem E_catalog_Code_1 (W : World) (hW : WOK W) : CE_catalog_Code_1 (envW Tryd.prog W) 91 := ev_catalog_Code_1 (Γ := envW Tryd.prog W) has_catalog_Code_1
theorem has_slices_IndexFunc___api_Suite_api_Suite : Has Tryd.prog 90 19 c_slices_IndexFunc___api_Suite_api_Suite r_slices_IndexFunc___api_Suite_api_Suite := ⟨Tryd.f90, _, Tryd.func90, by decide, rfl, rfl, by kernel_rfl, by kernel_rfl⟩
theorem E_slices_IndexFunc___api_Suite_api_Suite (W : World) (hW : WOK W) : CE_slices_IndexFunc___api_Suite_api_Suite (envW Tryd.prog W) 90 := ev_slices_IndexFunc___api_Suite_api_Suite (Γ := envW Tryd.prog W) has_slices_IndexFunc___api_Suite_api_Suite
theorem has_catalog_Code : Has Tryd.prog 56 7 (c_catalog_Code 44 91 90) r_catalog_Code := ⟨Tryd.f56, _, Tryd.func56, by decide, rfl, rfl, by kernel_rfl, by kernel_rfl⟩
theorem E_catalog_Code (W : World) (hW : WOK W) : CE_catalog_Code (envW Tryd.prog W) 56 := ev_catalog_Code (Γ := envW Tryd.prog W) has_catalog_Code (E_catalog_Suites W hW) (E_catalog_Code_1 W hW) (E_slices_IndexFunc___api_Suite_api_Suite W hW)
theorem has_suitespec_named : Has Tryd.prog 62 59 (c_suitespec_named 94 54 56 71) r_suitespec_named := ⟨Tryd.f62, _, Tryd.func62, by decide, rfl, rfl, by kernel_rfl, by kernel_rfl⟩
theorem E_suitespec_named (W : World) (hW : WOK W) : CE_suitespec_named (envW Tryd.prog W) 62 := ev_suitespec_named (Γ := envW Tryd.prog W) has_suitespec_named (E_suitespec_group W hW) (E_catalog_Find W hW) (E_catalog_Code W hW) (E_slices_Contains___int_int W hW)
theorem has_suitespec_Set : Has Tryd.prog 23 46 (c_suitespec_Set 44 61 62) r_suitespec_Set := ⟨Tryd.f23, _, Tryd.func23, by decide, rfl, rfl, by kernel_rfl, by kernel_rfl⟩
theorem E_suitespec_Set (W : World) (hW : WOK W) : CE_suitespec_Set (envW Tryd.prog W) 23 := ev_suitespec_Set (Γ := envW Tryd.prog W) has_suitespec_Set (E_catalog_Suites W hW) (E_strings_Split W hW) (E_suitespec_named W hW)
theorem has_suitespec_row__word_1 : Has Tryd.prog 99 7 (c_suitespec_row__word_1 71) r_suitespec_row__word_1 := ⟨Tryd.f99, _, Tryd.func99, by decide, rfl, rfl, by kernel_rfl, by kernel_rfl⟩
theorem E_suitespec_row__word_1 (W : World) (hW : WOK W) : CE_suitespec_row__word_1 (envW Tryd.prog W) 99 := ev_suitespec_row__word_1 (Γ := envW Tryd.prog W) has_suitespec_row__word_1 (E_slices_Contains___int_int W hW)
theorem has_suitespec_row__word : Has Tryd.prog 64 129 (c_suitespec_row__word 27 98 23 99 71) r_suitespec_row__word := ⟨Tryd.f64, _, Tryd.func64, by decide, rfl, rfl, by kernel_rfl, by kernel_rfl⟩
theorem E_suitespec_row__word (W : World) (hW : WOK W) : CE_suitespec_row__word (envW Tryd.prog W) 64 := ev_suitespec_row__word (Γ := envW Tryd.prog W) has_suitespec_row__word (E_suitespec_Sort W hW) (E_strings_IndexByte W hW) (E_suitespec_Set W hW) (E_suitespec_row__word_1 W hW) (E_slices_Contains___int_int W hW)
theorem has_suitespec_Parse : Has Tryd.prog 24 39 (c_suitespec_Parse 63 61 64) r_suitespec_Parse := ⟨Tryd.f24, _, Tryd.func24, by decide, rfl, rfl, by kernel_rfl, by kernel_rfl⟩
theorem E_suitespec_Parse (W : World) (hW : WOK W) : CE_suitespec_Parse (envW Tryd.prog W) 24 := ev_suitespec_Parse (Γ := envW Tryd.prog W) has_suitespec_Parse (E_strings_Count W hW) (E_strings_Split W hW) (E_suitespec_row__word W hW)
theorem has_ref02_SameInts : Has Tryd.prog 26 26 c_ref02_SameInts r_ref02_SameInts := ⟨Tryd.f26, _, Tryd.func26, by decide, rfl, rfl, by kernel_rfl, by kernel_rfl⟩
theorem E_ref02_SameInts (W : World) (hW : WOK W) : CE_ref02_SameInts (envW Tryd.prog W) 26 := ev_ref02_SameInts (Γ := envW Tryd.prog W) has_ref02_SameInts
theorem has_law08_awake : Has Tryd.prog 15 41 (c_law08_awake 24 26) r_law08_awake := ⟨Tryd.f15, _, Tryd.func15, by decide, rfl, rfl, by kernel_rfl, by kernel_rfl⟩
theorem E_law08_awake (W : World) (hW : WOK W) : CE_law08_awake (envW Tryd.prog W) 15 := ev_law08_awake (Γ := envW Tryd.prog W) has_law08_awake (E_suitespec_Parse W hW) (E_ref02_SameInts W hW)
theorem has_make_Roll : Has Tryd.prog 16 6 c_make_Roll r_make_Roll := ⟨Tryd.f16, _, Tryd.func16, by decide, rfl, rfl, by kernel_rfl, by kernel_rfl⟩
theorem E_make_Roll (W : World) (hW : WOK W) : CE_make_Roll (envW Tryd.prog W) 16 := ev_make_Roll (Γ := envW Tryd.prog W) has_make_Roll
theorem has_make_Mod : Has Tryd.prog 18 14 c_make_Mod r_make_Mod := ⟨Tryd.f18, _, Tryd.func18, by decide, rfl, rfl, by kernel_rfl, by kernel_rfl⟩
theorem E_make_Mod (W : World) (hW : WOK W) : CE_make_Mod (envW Tryd.prog W) 18 := ev_make_Mod (Γ := envW Tryd.prog W) has_make_Mod
theorem has_make_Dice__Next : Has Tryd.prog 19 35 (c_make_Dice__Next 18) r_make_Dice__Next := ⟨Tryd.f19, _, Tryd.func19, by decide, rfl, rfl, by kernel_rfl, by kernel_rfl⟩
theorem E_make_Dice__Next (W : World) (hW : WOK W) : CE_make_Dice__Next (envW Tryd.prog W) 19 := ev_make_Dice__Next (Γ := envW Tryd.prog W) has_make_Dice__Next (E_make_Mod W hW)
theorem has_ref02_Has : Has Tryd.prog 28 18 c_ref02_Has r_ref02_Has := ⟨Tryd.f28, _, Tryd.func28, by decide, rfl, rfl, by kernel_rfl, by kernel_rfl⟩
theorem E_ref02_Has (W : World) (hW : WOK W) : CE_ref02_Has (envW Tryd.prog W) 28 := ev_ref02_Has (Γ := envW Tryd.prog W) has_ref02_Has
theorem has_make_Dice__One : Has Tryd.prog 60 11 (c_make_Dice__One 19) r_make_Dice__One := ⟨Tryd.f60, _, Tryd.func60, by decide, rfl, rfl, by kernel_rfl, by kernel_rfl⟩
theorem E_make_Dice__One (W : World) (hW : WOK W) : CE_make_Dice__One (envW Tryd.prog W) 60 := ev_make_Dice__One (Γ := envW Tryd.prog W) has_make_Dice__One (E_make_Dice__Next W hW)
theorem has_ref02_use : Has Tryd.prog 83 8 c_ref02_use r_ref02_use := ⟨Tryd.f83, _, Tryd.func83, by decide, rfl, rfl, by kernel_rfl, by kernel_rfl⟩
theorem E_ref02_use (W : World) (hW : WOK W) : CE_ref02_use (envW Tryd.prog W) 83 := ev_ref02_use (Γ := envW Tryd.prog W) has_ref02_use
theorem has_ref02_suite : Has Tryd.prog 84 26 c_ref02_suite r_ref02_suite := ⟨Tryd.f84, _, Tryd.func84, by decide, rfl, rfl, by kernel_rfl, by kernel_rfl⟩
theorem E_ref02_suite (W : World) (hW : WOK W) : CE_ref02_suite (envW Tryd.prog W) 84 := ev_ref02_suite (Γ := envW Tryd.prog W) has_ref02_suite
theorem has_ref02_Suites : Has Tryd.prog 45 110 (c_ref02_Suites 83 84) r_ref02_Suites := ⟨Tryd.f45, _, Tryd.func45, by decide, rfl, rfl, by kernel_rfl, by kernel_rfl⟩
theorem E_ref02_Suites (W : World) (hW : WOK W) : CE_ref02_Suites (envW Tryd.prog W) 45 := ev_ref02_Suites (Γ := envW Tryd.prog W) has_ref02_Suites (E_ref02_use W hW) (E_ref02_suite W hW)
theorem has_ref02_Suite : Has Tryd.prog 47 16 (c_ref02_Suite 45) r_ref02_Suite := ⟨Tryd.f47, _, Tryd.func47, by decide, rfl, rfl, by kernel_rfl, by kernel_rfl⟩
theorem E_ref02_Suite (W : World) (hW : WOK W) : CE_ref02_Suite (envW Tryd.prog W) 47 := ev_ref02_Suite (Γ := envW Tryd.prog W) has_ref02_Suite (E_ref02_Suites W hW)
theorem has_ref02_modulus : Has Tryd.prog 86 25 c_ref02_modulus r_ref02_modulus := ⟨Tryd.f86, _, Tryd.func86, by decide, rfl, rfl, by kernel_rfl, by kernel_rfl⟩
theorem E_ref02_modulus (W : World) (hW : WOK W) : CE_ref02_modulus (envW Tryd.prog W) 86 := ev_ref02_modulus (Γ := envW Tryd.prog W) has_ref02_modulus
theorem has_ref02_among : Has Tryd.prog 87 24 c_ref02_among r_ref02_among := ⟨Tryd.f87, _, Tryd.func87, by decide, rfl, rfl, by kernel_rfl, by kernel_rfl⟩
theorem E_ref02_among (W : World) (hW : WOK W) : CE_ref02_among (envW Tryd.prog W) 87 := ev_ref02_among (Γ := envW Tryd.prog W) has_ref02_among
theorem has_ref02_single : Has Tryd.prog 88 21 c_ref02_single r_ref02_single := ⟨Tryd.f88, _, Tryd.func88, by decide, rfl, rfl, by kernel_rfl, by kernel_rfl⟩
theorem E_ref02_single (W : World) (hW : WOK W) : CE_ref02_single (envW Tryd.prog W) 88 := ev_ref02_single (Γ := envW Tryd.prog W) has_ref02_single
theorem has_ref02_Strength : Has Tryd.prog 53 76 (c_ref02_Strength 86 87 88) r_ref02_Strength := ⟨Tryd.f53, _, Tryd.func53, by decide, rfl, rfl, by kernel_rfl, by kernel_rfl⟩
theorem E_ref02_Strength (W : World) (hW : WOK W) : CE_ref02_Strength (envW Tryd.prog W) 53 := ev_ref02_Strength (Γ := envW Tryd.prog W) has_ref02_Strength (E_ref02_modulus W hW) (E_ref02_among W hW) (E_ref02_single W hW)
theorem has_ref08_Strength : Has Tryd.prog 35 15 (c_ref08_Strength 47 53) r_ref08_Strength := ⟨Tryd.f35, _, Tryd.func35, by decide, rfl, rfl, by kernel_rfl, by kernel_rfl⟩
theorem E_ref08_Strength (W : World) (hW : WOK W) : CE_ref08_Strength (envW Tryd.prog W) 35 := ev_ref08_Strength (Γ := envW Tryd.prog W) has_ref08_Strength (E_ref02_Suite W hW) (E_ref02_Strength W hW)
theorem has_ref08_Sort : Has Tryd.prog 33 48 (c_ref08_Sort 35) r_ref08_Sort := ⟨Tryd.f33, _, Tryd.func33, by decide, rfl, rfl, by kernel_rfl, by kernel_rfl⟩
theorem E_ref08_Sort (W : World) (hW : WOK W) : CE_ref08_Sort (envW Tryd.prog W) 33 := ev_ref08_Sort (Γ := envW Tryd.prog W) has_ref08_Sort (E_ref08_Strength W hW)
theorem has_make_Suites : Has Tryd.prog 34 29 (c_make_Suites 19 28 60 33) r_make_Suites := ⟨Tryd.f34, _, Tryd.func34, by decide, rfl, rfl, by kernel_rfl, by kernel_rfl⟩
theorem E_make_Suites (W : World) (hW : WOK W) : CE_make_Suites (envW Tryd.prog W) 34 := ev_make_Suites (Γ := envW Tryd.prog W) has_make_Suites (E_make_Dice__Next W hW) (E_ref02_Has W hW) (E_make_Dice__One W hW) (E_ref08_Sort W hW)
theorem has_suitespec_Print : Has Tryd.prog 31 54 (c_suitespec_Print 46 54 71 72) r_suitespec_Print := ⟨Tryd.f31, _, Tryd.func31, by decide, rfl, rfl, by kernel_rfl, by kernel_rfl⟩
theorem E_suitespec_Print (W : World) (hW : WOK W) : CE_suitespec_Print (envW Tryd.prog W) 31 := ev_suitespec_Print (Γ := envW Tryd.prog W) has_suitespec_Print (E_catalog_Suite W hW) (E_catalog_Find W hW) (E_slices_Contains___int_int W hW) (E_strings_Join W hW)
theorem has_make_Dice__Word : Has Tryd.prog 59 12 (c_make_Dice__Word 19) r_make_Dice__Word := ⟨Tryd.f59, _, Tryd.func59, by decide, rfl, rfl, by kernel_rfl, by kernel_rfl⟩
theorem E_make_Dice__Word (W : World) (hW : WOK W) : CE_make_Dice__Word (envW Tryd.prog W) 59 := ev_make_Dice__Word (Γ := envW Tryd.prog W) has_make_Dice__Word (E_make_Dice__Next W hW)
theorem has_law08_names : Has Tryd.prog 22 16 (c_law08_names 59 60) r_law08_names := ⟨Tryd.f22, _, Tryd.func22, by decide, rfl, rfl, by kernel_rfl, by kernel_rfl⟩
theorem E_law08_names (W : World) (hW : WOK W) : CE_law08_names (envW Tryd.prog W) 22 := ev_law08_names (Γ := envW Tryd.prog W) has_law08_names (E_make_Dice__Word W hW) (E_make_Dice__One W hW)
theorem has_law08_spec : Has Tryd.prog 17 47 (c_law08_spec 19 22) r_law08_spec := ⟨Tryd.f17, _, Tryd.func17, by decide, rfl, rfl, by kernel_rfl, by kernel_rfl⟩
theorem E_law08_spec (W : World) (hW : WOK W) : CE_law08_spec (envW Tryd.prog W) 17 := ev_law08_spec (Γ := envW Tryd.prog W) has_law08_spec (E_make_Dice__Next W hW) (E_law08_names W hW)
theorem has_law08_SuitespecBack : Has Tryd.prog 8 98 (c_law08_SuitespecBack 14 15 16 34 31 24 17 26) r_law08_SuitespecBack := ⟨Tryd.f8, _, Tryd.func8, by decide, rfl, rfl, by kernel_rfl, by kernel_rfl⟩
theorem E_law08_SuitespecBack (W : World) (hW : WOK W) : CE_law08_SuitespecBack (envW Tryd.prog W) 8 := ev_law08_SuitespecBack (Γ := envW Tryd.prog W) has_law08_SuitespecBack (E_make_Light W hW) (E_law08_awake W hW) (E_make_Roll W hW) (E_make_Suites W hW) (E_suitespec_Print W hW) (E_suitespec_Parse W hW) (E_law08_spec W hW) (E_ref02_SameInts W hW)
end Go.Proofs.YtdjmgokhpganaaaDoor
end

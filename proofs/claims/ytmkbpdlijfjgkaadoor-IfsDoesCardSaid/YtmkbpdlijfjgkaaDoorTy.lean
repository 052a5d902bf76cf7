/- Closed facts on the types and functions of the translation, reckoned by the kernel. Written by a program of this session. -/
import Derived.Test.YtmkbpdlijfjgkaaDoorAx17
import Derived.Test.YtmkbpdlijfjgkaaDoorProg
import Derived.KernelRfl
namespace Go.Proofs.YtmkbpdlijfjgkaaDoor.Ty
set_option linter.unusedSimpArgs false
set_option linter.unusedVariables false
open Go Go.AX Go.Proofs
@[go_sem ↓] theorem sz_1 : Tryd.prog.cellsOf 1 = 1 := by kernel_rfl
@[go_sem ↓] theorem ag_1 : isAggU (Tryd.prog.underlying 1) = some false := by kernel_rfl
@[go_sem ↓] theorem zr_1 : zrOf Tryd.prog 1 = some [.nilFunc] := by kernel_rfl
@[go_sem ↓] theorem sz_2 : Tryd.prog.cellsOf 2 = 1 := by kernel_rfl
@[go_sem ↓] theorem ag_2 : isAggU (Tryd.prog.underlying 2) = some false := by kernel_rfl
@[go_sem ↓] theorem zr_2 : zrOf Tryd.prog 2 = some [(.int .i64 0)] := by kernel_rfl
@[go_sem ↓] theorem sz_3 : Tryd.prog.cellsOf 3 = 1 := by kernel_rfl
@[go_sem ↓] theorem ag_3 : isAggU (Tryd.prog.underlying 3) = some false := by kernel_rfl
@[go_sem ↓] theorem zr_3 : zrOf Tryd.prog 3 = some [(.int .i64 0)] := by kernel_rfl
@[go_sem ↓] theorem sz_4 : Tryd.prog.cellsOf 4 = 1 := by kernel_rfl
@[go_sem ↓] theorem ag_4 : isAggU (Tryd.prog.underlying 4) = some false := by kernel_rfl
@[go_sem ↓] theorem zr_4 : zrOf Tryd.prog 4 = some [(.bool false)] := by kernel_rfl
@[go_sem ↓] theorem sz_5 : Tryd.prog.cellsOf 5 = 1 := by kernel_rfl
@[go_sem ↓] theorem ag_5 : isAggU (Tryd.prog.underlying 5) = some false := by kernel_rfl
@[go_sem ↓] theorem zr_5 : zrOf Tryd.prog 5 = some [(.int .u8 0)] := by kernel_rfl
@[go_sem ↓] theorem sz_6 : Tryd.prog.cellsOf 6 = 1 := by kernel_rfl
@[go_sem ↓] theorem ag_6 : isAggU (Tryd.prog.underlying 6) = some false := by kernel_rfl
@[go_sem ↓] theorem if_6 : isIfU (Tryd.prog.underlying 6) = false := by kernel_rfl
@[go_sem ↓] theorem zr_6 : zrOf Tryd.prog 6 = some [(.int .u8 0)] := by kernel_rfl
@[go_sem ↓] theorem sz_7 : Tryd.prog.cellsOf 7 = 4 := by kernel_rfl
@[go_sem ↓] theorem ag_7 : isAggU (Tryd.prog.underlying 7) = some true := by kernel_rfl
@[go_sem ↓] theorem zr_7 : zrOf Tryd.prog 7 = some [(.int .i64 0), (.int .i64 0), (.bool false), (.int .u8 0)] := by kernel_rfl
@[go_sem ↓] theorem fo_7_0 : foOf Tryd.prog 7 0 = some 0 := by kernel_rfl
@[go_sem ↓] theorem pl_7_0 : plOf Tryd.prog 7 0 = some (0, 1) := by kernel_rfl
@[go_sem ↓] theorem fo_7_1 : foOf Tryd.prog 7 1 = some 1 := by kernel_rfl
@[go_sem ↓] theorem pl_7_1 : plOf Tryd.prog 7 1 = some (1, 1) := by kernel_rfl
@[go_sem ↓] theorem fo_7_2 : foOf Tryd.prog 7 2 = some 2 := by kernel_rfl
@[go_sem ↓] theorem pl_7_2 : plOf Tryd.prog 7 2 = some (2, 1) := by kernel_rfl
@[go_sem ↓] theorem fo_7_3 : foOf Tryd.prog 7 3 = some 3 := by kernel_rfl
@[go_sem ↓] theorem pl_7_3 : plOf Tryd.prog 7 3 = some (3, 1) := by kernel_rfl
@[go_sem ↓] theorem fl_7 : plOf1 Tryd.prog 7 = true := by kernel_rfl
@[go_sem ↓] theorem sz_8 : Tryd.prog.cellsOf 8 = 4 := by kernel_rfl
@[go_sem ↓] theorem ag_8 : isAggU (Tryd.prog.underlying 8) = some true := by kernel_rfl
@[go_sem ↓] theorem if_8 : isIfU (Tryd.prog.underlying 8) = false := by kernel_rfl
@[go_sem ↓] theorem zr_8 : zrOf Tryd.prog 8 = some [(.int .i64 0), (.int .i64 0), (.bool false), (.int .u8 0)] := by kernel_rfl
@[go_sem ↓] theorem fo_8_0 : foOf Tryd.prog 8 0 = some 0 := by kernel_rfl
@[go_sem ↓] theorem pl_8_0 : plOf Tryd.prog 8 0 = some (0, 1) := by kernel_rfl
@[go_sem ↓] theorem fo_8_1 : foOf Tryd.prog 8 1 = some 1 := by kernel_rfl
@[go_sem ↓] theorem pl_8_1 : plOf Tryd.prog 8 1 = some (1, 1) := by kernel_rfl
@[go_sem ↓] theorem fo_8_2 : foOf Tryd.prog 8 2 = some 2 := by kernel_rfl
@[go_sem ↓] theorem pl_8_2 : plOf Tryd.prog 8 2 = some (2, 1) := by kernel_rfl
@[go_sem ↓] theorem fo_8_3 : foOf Tryd.prog 8 3 = some 3 := by kernel_rfl
@[go_sem ↓] theorem pl_8_3 : plOf Tryd.prog 8 3 = some (3, 1) := by kernel_rfl
@[go_sem ↓] theorem fl_8 : plOf1 Tryd.prog 8 = true := by kernel_rfl
@[go_sem ↓] theorem sz_9 : Tryd.prog.cellsOf 9 = 1 := by kernel_rfl
@[go_sem ↓] theorem ag_9 : isAggU (Tryd.prog.underlying 9) = some false := by kernel_rfl
@[go_sem ↓] theorem if_9 : isIfU (Tryd.prog.underlying 9) = false := by kernel_rfl
@[go_sem ↓] theorem zr_9 : zrOf Tryd.prog 9 = some [(.string ⟨#[]⟩)] := by kernel_rfl
@[go_sem ↓] theorem sz_10 : Tryd.prog.cellsOf 10 = 1 := by kernel_rfl
@[go_sem ↓] theorem ag_10 : isAggU (Tryd.prog.underlying 10) = some false := by kernel_rfl
@[go_sem ↓] theorem if_10 : isIfU (Tryd.prog.underlying 10) = false := by kernel_rfl
@[go_sem ↓] theorem zr_10 : zrOf Tryd.prog 10 = some [(.string ⟨#[]⟩)] := by kernel_rfl
@[go_sem ↓] theorem sz_11 : Tryd.prog.cellsOf 11 = 1 := by kernel_rfl
@[go_sem ↓] theorem ag_11 : isAggU (Tryd.prog.underlying 11) = some false := by kernel_rfl
@[go_sem ↓] theorem if_11 : isIfU (Tryd.prog.underlying 11) = false := by kernel_rfl
@[go_sem ↓] theorem zr_11 : zrOf Tryd.prog 11 = some [(.string ⟨#[]⟩)] := by kernel_rfl
@[go_sem ↓] theorem sz_12 : Tryd.prog.cellsOf 12 = 1 := by kernel_rfl
@[go_sem ↓] theorem ag_12 : isAggU (Tryd.prog.underlying 12) = some false := by kernel_rfl
@[go_sem ↓] theorem zr_12 : zrOf Tryd.prog 12 = some [(.int .u64 0)] := by kernel_rfl
@[go_sem ↓] theorem sz_13 : Tryd.prog.cellsOf 13 = 2 := by kernel_rfl
@[go_sem ↓] theorem ag_13 : isAggU (Tryd.prog.underlying 13) = some true := by kernel_rfl
@[go_sem ↓] theorem zr_13 : zrOf Tryd.prog 13 = some [(.string ⟨#[]⟩), (.int .u64 0)] := by kernel_rfl
@[go_sem ↓] theorem fo_13_0 : foOf Tryd.prog 13 0 = some 0 := by kernel_rfl
@[go_sem ↓] theorem pl_13_0 : plOf Tryd.prog 13 0 = some (0, 1) := by kernel_rfl
@[go_sem ↓] theorem fo_13_1 : foOf Tryd.prog 13 1 = some 1 := by kernel_rfl
@[go_sem ↓] theorem pl_13_1 : plOf Tryd.prog 13 1 = some (1, 1) := by kernel_rfl
@[go_sem ↓] theorem fl_13 : plOf1 Tryd.prog 13 = true := by kernel_rfl
@[go_sem ↓] theorem sz_14 : Tryd.prog.cellsOf 14 = 2 := by kernel_rfl
@[go_sem ↓] theorem ag_14 : isAggU (Tryd.prog.underlying 14) = some true := by kernel_rfl
@[go_sem ↓] theorem if_14 : isIfU (Tryd.prog.underlying 14) = false := by kernel_rfl
@[go_sem ↓] theorem zr_14 : zrOf Tryd.prog 14 = some [(.string ⟨#[]⟩), (.int .u64 0)] := by kernel_rfl
@[go_sem ↓] theorem fo_14_0 : foOf Tryd.prog 14 0 = some 0 := by kernel_rfl
@[go_sem ↓] theorem pl_14_0 : plOf Tryd.prog 14 0 = some (0, 1) := by kernel_rfl
@[go_sem ↓] theorem fo_14_1 : foOf Tryd.prog 14 1 = some 1 := by kernel_rfl
@[go_sem ↓] theorem pl_14_1 : plOf Tryd.prog 14 1 = some (1, 1) := by kernel_rfl
@[go_sem ↓] theorem fl_14 : plOf1 Tryd.prog 14 = true := by kernel_rfl
@[go_sem ↓] theorem sz_15 : Tryd.prog.cellsOf 15 = 1 := by kernel_rfl
@[go_sem ↓] theorem ag_15 : isAggU (Tryd.prog.underlying 15) = some false := by kernel_rfl
@[go_sem ↓] theorem if_15 : isIfU (Tryd.prog.underlying 15) = false := by kernel_rfl
@[go_sem ↓] theorem zr_15 : zrOf Tryd.prog 15 = some [(.pointer none)] := by kernel_rfl
@[go_sem ↓] theorem sz_16 : Tryd.prog.cellsOf 16 = 1 := by kernel_rfl
@[go_sem ↓] theorem ag_16 : isAggU (Tryd.prog.underlying 16) = some false := by kernel_rfl
@[go_sem ↓] theorem if_16 : isIfU (Tryd.prog.underlying 16) = false := by kernel_rfl
@[go_sem ↓] theorem zr_16 : zrOf Tryd.prog 16 = some [(.pointer none)] := by kernel_rfl
@[go_sem ↓] theorem sz_17 : Tryd.prog.cellsOf 17 = 1 := by kernel_rfl
@[go_sem ↓] theorem ag_17 : isAggU (Tryd.prog.underlying 17) = some false := by kernel_rfl
@[go_sem ↓] theorem if_17 : isIfU (Tryd.prog.underlying 17) = false := by kernel_rfl
@[go_sem ↓] theorem zr_17 : zrOf Tryd.prog 17 = some [(.pointer none)] := by kernel_rfl
@[go_sem ↓] theorem sz_18 : Tryd.prog.cellsOf 18 = 1 := by kernel_rfl
@[go_sem ↓] theorem ag_18 : isAggU (Tryd.prog.underlying 18) = some true := by kernel_rfl
@[go_sem ↓] theorem zr_18 : zrOf Tryd.prog 18 = some [(.pointer none)] := by kernel_rfl
@[go_sem ↓] theorem fo_18_0 : foOf Tryd.prog 18 0 = some 0 := by kernel_rfl
@[go_sem ↓] theorem pl_18_0 : plOf Tryd.prog 18 0 = some (0, 1) := by kernel_rfl
@[go_sem ↓] theorem fl_18 : plOf1 Tryd.prog 18 = true := by kernel_rfl
@[go_sem ↓] theorem sz_19 : Tryd.prog.cellsOf 19 = 1 := by kernel_rfl
@[go_sem ↓] theorem ag_19 : isAggU (Tryd.prog.underlying 19) = some true := by kernel_rfl
@[go_sem ↓] theorem if_19 : isIfU (Tryd.prog.underlying 19) = false := by kernel_rfl
@[go_sem ↓] theorem zr_19 : zrOf Tryd.prog 19 = some [(.pointer none)] := by kernel_rfl
@[go_sem ↓] theorem fo_19_0 : foOf Tryd.prog 19 0 = some 0 := by kernel_rfl
@[go_sem ↓] theorem pl_19_0 : plOf Tryd.prog 19 0 = some (0, 1) := by kernel_rfl
@[go_sem ↓] theorem fl_19 : plOf1 Tryd.prog 19 = true := by kernel_rfl
@[go_sem ↓] theorem sz_20 : Tryd.prog.cellsOf 20 = 1 := by kernel_rfl
@[go_sem ↓] theorem ag_20 : isAggU (Tryd.prog.underlying 20) = some false := by kernel_rfl
@[go_sem ↓] theorem zr_20 : zrOf Tryd.prog 20 = some [.nilIface] := by kernel_rfl
@[go_sem ↓] theorem sz_21 : Tryd.prog.cellsOf 21 = 1 := by kernel_rfl
@[go_sem ↓] theorem ag_21 : isAggU (Tryd.prog.underlying 21) = some false := by kernel_rfl
@[go_sem ↓] theorem zr_21 : zrOf Tryd.prog 21 = some [(.int .i32 0)] := by kernel_rfl
@[go_sem ↓] theorem sz_22 : Tryd.prog.cellsOf 22 = 1 := by kernel_rfl
@[go_sem ↓] theorem ag_22 : isAggU (Tryd.prog.underlying 22) = some false := by kernel_rfl
@[go_sem ↓] theorem es_22 : elSz Tryd.prog 22 = 10 := by kernel_rfl
@[go_sem ↓] theorem zr_22 : zrOf Tryd.prog 22 = some [(.slice none 0 0)] := by kernel_rfl
@[go_sem ↓] theorem sz_23 : Tryd.prog.cellsOf 23 = 1 := by kernel_rfl
@[go_sem ↓] theorem ag_23 : isAggU (Tryd.prog.underlying 23) = some false := by kernel_rfl
@[go_sem ↓] theorem if_23 : isIfU (Tryd.prog.underlying 23) = false := by kernel_rfl
@[go_sem ↓] theorem zr_23 : zrOf Tryd.prog 23 = some [(.pointer none)] := by kernel_rfl
@[go_sem ↓] theorem sz_24 : Tryd.prog.cellsOf 24 = 1 := by kernel_rfl
@[go_sem ↓] theorem ag_24 : isAggU (Tryd.prog.underlying 24) = some false := by kernel_rfl
@[go_sem ↓] theorem zr_24 : zrOf Tryd.prog 24 = some [.nilFunc] := by kernel_rfl
@[go_sem ↓] theorem sz_25 : Tryd.prog.cellsOf 25 = 1 := by kernel_rfl
@[go_sem ↓] theorem ag_25 : isAggU (Tryd.prog.underlying 25) = some false := by kernel_rfl
@[go_sem ↓] theorem if_25 : isIfU (Tryd.prog.underlying 25) = false := by kernel_rfl
@[go_sem ↓] theorem zr_25 : zrOf Tryd.prog 25 = some [(.pointer none)] := by kernel_rfl
@[go_sem ↓] theorem sz_26 : Tryd.prog.cellsOf 26 = 1 := by kernel_rfl
@[go_sem ↓] theorem ag_26 : isAggU (Tryd.prog.underlying 26) = some false := by kernel_rfl
@[go_sem ↓] theorem es_26 : elSz Tryd.prog 26 = 3 := by kernel_rfl
@[go_sem ↓] theorem zr_26 : zrOf Tryd.prog 26 = some [(.slice none 0 0)] := by kernel_rfl
@[go_sem ↓] theorem sz_27 : Tryd.prog.cellsOf 27 = 2 := by kernel_rfl
@[go_sem ↓] theorem ag_27 : isAggU (Tryd.prog.underlying 27) = some true := by kernel_rfl
@[go_sem ↓] theorem zr_27 : zrOf Tryd.prog 27 = some [(.slice none 0 0), (.int .i64 0)] := by kernel_rfl
@[go_sem ↓] theorem fo_27_0 : foOf Tryd.prog 27 0 = some 0 := by kernel_rfl
@[go_sem ↓] theorem pl_27_0 : plOf Tryd.prog 27 0 = some (0, 1) := by kernel_rfl
@[go_sem ↓] theorem fo_27_1 : foOf Tryd.prog 27 1 = some 1 := by kernel_rfl
@[go_sem ↓] theorem pl_27_1 : plOf Tryd.prog 27 1 = some (1, 1) := by kernel_rfl
@[go_sem ↓] theorem fl_27 : plOf1 Tryd.prog 27 = true := by kernel_rfl
@[go_sem ↓] theorem sz_28 : Tryd.prog.cellsOf 28 = 2 := by kernel_rfl
@[go_sem ↓] theorem ag_28 : isAggU (Tryd.prog.underlying 28) = some true := by kernel_rfl
@[go_sem ↓] theorem if_28 : isIfU (Tryd.prog.underlying 28) = false := by kernel_rfl
@[go_sem ↓] theorem zr_28 : zrOf Tryd.prog 28 = some [(.slice none 0 0), (.int .i64 0)] := by kernel_rfl
@[go_sem ↓] theorem fo_28_0 : foOf Tryd.prog 28 0 = some 0 := by kernel_rfl
@[go_sem ↓] theorem pl_28_0 : plOf Tryd.prog 28 0 = some (0, 1) := by kernel_rfl
@[go_sem ↓] theorem fo_28_1 : foOf Tryd.prog 28 1 = some 1 := by kernel_rfl
@[go_sem ↓] theorem pl_28_1 : plOf Tryd.prog 28 1 = some (1, 1) := by kernel_rfl
@[go_sem ↓] theorem fl_28 : plOf1 Tryd.prog 28 = true := by kernel_rfl
@[go_sem ↓] theorem sz_29 : Tryd.prog.cellsOf 29 = 3 := by kernel_rfl
@[go_sem ↓] theorem ag_29 : isAggU (Tryd.prog.underlying 29) = some true := by kernel_rfl
@[go_sem ↓] theorem zr_29 : zrOf Tryd.prog 29 = some [(.int .i64 0), (.int .i64 0), (.int .i64 0)] := by kernel_rfl
@[go_sem ↓] theorem fo_29_0 : foOf Tryd.prog 29 0 = some 0 := by kernel_rfl
@[go_sem ↓] theorem pl_29_0 : plOf Tryd.prog 29 0 = some (0, 1) := by kernel_rfl
@[go_sem ↓] theorem fo_29_1 : foOf Tryd.prog 29 1 = some 1 := by kernel_rfl
@[go_sem ↓] theorem pl_29_1 : plOf Tryd.prog 29 1 = some (1, 1) := by kernel_rfl
@[go_sem ↓] theorem fo_29_2 : foOf Tryd.prog 29 2 = some 2 := by kernel_rfl
@[go_sem ↓] theorem pl_29_2 : plOf Tryd.prog 29 2 = some (2, 1) := by kernel_rfl
@[go_sem ↓] theorem fl_29 : plOf1 Tryd.prog 29 = true := by kernel_rfl
@[go_sem ↓] theorem sz_30 : Tryd.prog.cellsOf 30 = 3 := by kernel_rfl
@[go_sem ↓] theorem ag_30 : isAggU (Tryd.prog.underlying 30) = some true := by kernel_rfl
@[go_sem ↓] theorem if_30 : isIfU (Tryd.prog.underlying 30) = false := by kernel_rfl
@[go_sem ↓] theorem zr_30 : zrOf Tryd.prog 30 = some [(.int .i64 0), (.int .i64 0), (.int .i64 0)] := by kernel_rfl
@[go_sem ↓] theorem fo_30_0 : foOf Tryd.prog 30 0 = some 0 := by kernel_rfl
@[go_sem ↓] theorem pl_30_0 : plOf Tryd.prog 30 0 = some (0, 1) := by kernel_rfl
@[go_sem ↓] theorem fo_30_1 : foOf Tryd.prog 30 1 = some 1 := by kernel_rfl
@[go_sem ↓] theorem pl_30_1 : plOf Tryd.prog 30 1 = some (1, 1) := by kernel_rfl
@[go_sem ↓] theorem fo_30_2 : foOf Tryd.prog 30 2 = some 2 := by kernel_rfl
@[go_sem ↓] theorem pl_30_2 : plOf Tryd.prog 30 2 = some (2, 1) := by kernel_rfl
@[go_sem ↓] theorem fl_30 : plOf1 Tryd.prog 30 = true := by kernel_rfl
@[go_sem ↓] theorem sz_31 : Tryd.prog.cellsOf 31 = 4 := by kernel_rfl
@[go_sem ↓] theorem ag_31 : isAggU (Tryd.prog.underlying 31) = some true := by kernel_rfl
@[go_sem ↓] theorem es_31 : elSz Tryd.prog 31 = 1 := by kernel_rfl
@[go_sem ↓] theorem zr_31 : zrOf Tryd.prog 31 = some [(.int .u8 0), (.int .u8 0), (.int .u8 0), (.int .u8 0)] := by kernel_rfl
@[go_sem ↓] theorem fl_31 : plOf1 Tryd.prog 31 = true := by kernel_rfl
@[go_sem ↓] theorem pl_31_0 : plOf Tryd.prog 31 0 = some (0, 1) := by kernel_rfl
@[go_sem ↓] theorem pl_31_1 : plOf Tryd.prog 31 1 = some (1, 1) := by kernel_rfl
@[go_sem ↓] theorem pl_31_2 : plOf Tryd.prog 31 2 = some (2, 1) := by kernel_rfl
@[go_sem ↓] theorem pl_31_3 : plOf Tryd.prog 31 3 = some (3, 1) := by kernel_rfl
@[go_sem ↓] theorem sz_32 : Tryd.prog.cellsOf 32 = 4 := by kernel_rfl
@[go_sem ↓] theorem ag_32 : isAggU (Tryd.prog.underlying 32) = some true := by kernel_rfl
@[go_sem ↓] theorem if_32 : isIfU (Tryd.prog.underlying 32) = false := by kernel_rfl
@[go_sem ↓] theorem es_32 : elSz Tryd.prog 32 = 1 := by kernel_rfl
@[go_sem ↓] theorem zr_32 : zrOf Tryd.prog 32 = some [(.int .u8 0), (.int .u8 0), (.int .u8 0), (.int .u8 0)] := by kernel_rfl
@[go_sem ↓] theorem fl_32 : plOf1 Tryd.prog 32 = true := by kernel_rfl
@[go_sem ↓] theorem pl_32_0 : plOf Tryd.prog 32 0 = some (0, 1) := by kernel_rfl
@[go_sem ↓] theorem pl_32_1 : plOf Tryd.prog 32 1 = some (1, 1) := by kernel_rfl
@[go_sem ↓] theorem pl_32_2 : plOf Tryd.prog 32 2 = some (2, 1) := by kernel_rfl
@[go_sem ↓] theorem pl_32_3 : plOf Tryd.prog 32 3 = some (3, 1) := by kernel_rfl
@[go_sem ↓] theorem sz_33 : Tryd.prog.cellsOf 33 = 1 := by kernel_rfl
@[go_sem ↓] theorem ag_33 : isAggU (Tryd.prog.underlying 33) = some false := by kernel_rfl
@[go_sem ↓] theorem es_33 : elSz Tryd.prog 33 = 4 := by kernel_rfl
@[go_sem ↓] theorem zr_33 : zrOf Tryd.prog 33 = some [(.slice none 0 0)] := by kernel_rfl
@[go_sem ↓] theorem sz_34 : Tryd.prog.cellsOf 34 = 2 := by kernel_rfl
@[go_sem ↓] theorem ag_34 : isAggU (Tryd.prog.underlying 34) = some true := by kernel_rfl
@[go_sem ↓] theorem zr_34 : zrOf Tryd.prog 34 = some [(.int .i64 0), (.slice none 0 0)] := by kernel_rfl
@[go_sem ↓] theorem fo_34_0 : foOf Tryd.prog 34 0 = some 0 := by kernel_rfl
@[go_sem ↓] theorem pl_34_0 : plOf Tryd.prog 34 0 = some (0, 1) := by kernel_rfl
@[go_sem ↓] theorem fo_34_1 : foOf Tryd.prog 34 1 = some 1 := by kernel_rfl
@[go_sem ↓] theorem pl_34_1 : plOf Tryd.prog 34 1 = some (1, 1) := by kernel_rfl
@[go_sem ↓] theorem fl_34 : plOf1 Tryd.prog 34 = true := by kernel_rfl
@[go_sem ↓] theorem sz_35 : Tryd.prog.cellsOf 35 = 2 := by kernel_rfl
@[go_sem ↓] theorem ag_35 : isAggU (Tryd.prog.underlying 35) = some true := by kernel_rfl
@[go_sem ↓] theorem if_35 : isIfU (Tryd.prog.underlying 35) = false := by kernel_rfl
@[go_sem ↓] theorem zr_35 : zrOf Tryd.prog 35 = some [(.int .i64 0), (.slice none 0 0)] := by kernel_rfl
@[go_sem ↓] theorem fo_35_0 : foOf Tryd.prog 35 0 = some 0 := by kernel_rfl
@[go_sem ↓] theorem pl_35_0 : plOf Tryd.prog 35 0 = some (0, 1) := by kernel_rfl
@[go_sem ↓] theorem fo_35_1 : foOf Tryd.prog 35 1 = some 1 := by kernel_rfl
@[go_sem ↓] theorem pl_35_1 : plOf Tryd.prog 35 1 = some (1, 1) := by kernel_rfl
@[go_sem ↓] theorem fl_35 : plOf1 Tryd.prog 35 = true := by kernel_rfl
@[go_sem ↓] theorem sz_36 : Tryd.prog.cellsOf 36 = 10 := by kernel_rfl
@[go_sem ↓] theorem ag_36 : isAggU (Tryd.prog.underlying 36) = some true := by kernel_rfl
@[go_sem ↓] theorem zr_36 : zrOf Tryd.prog 36 = some [(.int .u8 0), (.int .i64 0), (.int .i64 0), (.int .i64 0), (.int .u8 0), (.int .u8 0), (.int .u8 0), (.int .u8 0), (.int .i64 0), (.slice none 0 0)] := by kernel_rfl
@[go_sem ↓] theorem fo_36_0 : foOf Tryd.prog 36 0 = some 0 := by kernel_rfl
@[go_sem ↓] theorem pl_36_0 : plOf Tryd.prog 36 0 = some (0, 1) := by kernel_rfl
@[go_sem ↓] theorem fo_36_1 : foOf Tryd.prog 36 1 = some 1 := by kernel_rfl
@[go_sem ↓] theorem pl_36_1 : plOf Tryd.prog 36 1 = some (1, 3) := by kernel_rfl
@[go_sem ↓] theorem fo_36_2 : foOf Tryd.prog 36 2 = some 4 := by kernel_rfl
@[go_sem ↓] theorem pl_36_2 : plOf Tryd.prog 36 2 = some (4, 4) := by kernel_rfl
@[go_sem ↓] theorem fo_36_3 : foOf Tryd.prog 36 3 = some 8 := by kernel_rfl
@[go_sem ↓] theorem pl_36_3 : plOf Tryd.prog 36 3 = some (8, 2) := by kernel_rfl
@[go_sem ↓] theorem fl_36 : plOf1 Tryd.prog 36 = true := by kernel_rfl
@[go_sem ↓] theorem sz_37 : Tryd.prog.cellsOf 37 = 10 := by kernel_rfl
@[go_sem ↓] theorem ag_37 : isAggU (Tryd.prog.underlying 37) = some true := by kernel_rfl
@[go_sem ↓] theorem if_37 : isIfU (Tryd.prog.underlying 37) = false := by kernel_rfl
@[go_sem ↓] theorem zr_37 : zrOf Tryd.prog 37 = some [(.int .u8 0), (.int .i64 0), (.int .i64 0), (.int .i64 0), (.int .u8 0), (.int .u8 0), (.int .u8 0), (.int .u8 0), (.int .i64 0), (.slice none 0 0)] := by kernel_rfl
@[go_sem ↓] theorem fo_37_0 : foOf Tryd.prog 37 0 = some 0 := by kernel_rfl
@[go_sem ↓] theorem pl_37_0 : plOf Tryd.prog 37 0 = some (0, 1) := by kernel_rfl
@[go_sem ↓] theorem fo_37_1 : foOf Tryd.prog 37 1 = some 1 := by kernel_rfl
@[go_sem ↓] theorem pl_37_1 : plOf Tryd.prog 37 1 = some (1, 3) := by kernel_rfl
@[go_sem ↓] theorem fo_37_2 : foOf Tryd.prog 37 2 = some 4 := by kernel_rfl
@[go_sem ↓] theorem pl_37_2 : plOf Tryd.prog 37 2 = some (4, 4) := by kernel_rfl
@[go_sem ↓] theorem fo_37_3 : foOf Tryd.prog 37 3 = some 8 := by kernel_rfl
@[go_sem ↓] theorem pl_37_3 : plOf Tryd.prog 37 3 = some (8, 2) := by kernel_rfl
@[go_sem ↓] theorem fl_37 : plOf1 Tryd.prog 37 = true := by kernel_rfl
@[go_sem ↓] theorem sz_38 : Tryd.prog.cellsOf 38 = 1 := by kernel_rfl
@[go_sem ↓] theorem ag_38 : isAggU (Tryd.prog.underlying 38) = some false := by kernel_rfl
@[go_sem ↓] theorem if_38 : isIfU (Tryd.prog.underlying 38) = false := by kernel_rfl
@[go_sem ↓] theorem zr_38 : zrOf Tryd.prog 38 = some [(.int .i64 0)] := by kernel_rfl
@[go_sem ↓] theorem sz_39 : Tryd.prog.cellsOf 39 = 1 := by kernel_rfl
@[go_sem ↓] theorem ag_39 : isAggU (Tryd.prog.underlying 39) = some false := by kernel_rfl
@[go_sem ↓] theorem zr_39 : zrOf Tryd.prog 39 = some [.nilFunc] := by kernel_rfl
@[go_sem ↓] theorem sz_40 : Tryd.prog.cellsOf 40 = 1 := by kernel_rfl
@[go_sem ↓] theorem ag_40 : isAggU (Tryd.prog.underlying 40) = some false := by kernel_rfl
@[go_sem ↓] theorem zr_40 : zrOf Tryd.prog 40 = some [.nilFunc] := by kernel_rfl
@[go_sem ↓] theorem sz_41 : Tryd.prog.cellsOf 41 = 1 := by kernel_rfl
@[go_sem ↓] theorem ag_41 : isAggU (Tryd.prog.underlying 41) = some false := by kernel_rfl
@[go_sem ↓] theorem zr_41 : zrOf Tryd.prog 41 = some [.nilFunc] := by kernel_rfl
@[go_sem ↓] theorem sz_42 : Tryd.prog.cellsOf 42 = 1 := by kernel_rfl
@[go_sem ↓] theorem ag_42 : isAggU (Tryd.prog.underlying 42) = some false := by kernel_rfl
@[go_sem ↓] theorem zr_42 : zrOf Tryd.prog 42 = some [.nilFunc] := by kernel_rfl
@[go_sem ↓] theorem sz_44 : Tryd.prog.cellsOf 44 = 1 := by kernel_rfl
@[go_sem ↓] theorem ag_44 : isAggU (Tryd.prog.underlying 44) = some false := by kernel_rfl
@[go_sem ↓] theorem zr_44 : zrOf Tryd.prog 44 = some [.nilFunc] := by kernel_rfl
@[go_sem ↓] theorem sz_46 : Tryd.prog.cellsOf 46 = 1 := by kernel_rfl
@[go_sem ↓] theorem ag_46 : isAggU (Tryd.prog.underlying 46) = some false := by kernel_rfl
@[go_sem ↓] theorem zr_46 : zrOf Tryd.prog 46 = some [.nilFunc] := by kernel_rfl
@[go_sem ↓] theorem sz_48 : Tryd.prog.cellsOf 48 = 1 := by kernel_rfl
@[go_sem ↓] theorem ag_48 : isAggU (Tryd.prog.underlying 48) = some false := by kernel_rfl
@[go_sem ↓] theorem zr_48 : zrOf Tryd.prog 48 = some [.nilFunc] := by kernel_rfl
@[go_sem ↓] theorem sz_49 : Tryd.prog.cellsOf 49 = 1 := by kernel_rfl
@[go_sem ↓] theorem ag_49 : isAggU (Tryd.prog.underlying 49) = some false := by kernel_rfl
@[go_sem ↓] theorem zr_49 : zrOf Tryd.prog 49 = some [.nilFunc] := by kernel_rfl
@[go_sem ↓] theorem sz_50 : Tryd.prog.cellsOf 50 = 1 := by kernel_rfl
@[go_sem ↓] theorem ag_50 : isAggU (Tryd.prog.underlying 50) = some false := by kernel_rfl
@[go_sem ↓] theorem zr_50 : zrOf Tryd.prog 50 = some [.nilFunc] := by kernel_rfl
@[go_sem ↓] theorem sz_51 : Tryd.prog.cellsOf 51 = 1 := by kernel_rfl
@[go_sem ↓] theorem ag_51 : isAggU (Tryd.prog.underlying 51) = some false := by kernel_rfl
@[go_sem ↓] theorem zr_51 : zrOf Tryd.prog 51 = some [.nilFunc] := by kernel_rfl
@[go_sem ↓] theorem sz_52 : Tryd.prog.cellsOf 52 = 1 := by kernel_rfl
@[go_sem ↓] theorem ag_52 : isAggU (Tryd.prog.underlying 52) = some false := by kernel_rfl
@[go_sem ↓] theorem zr_52 : zrOf Tryd.prog 52 = some [.nilFunc] := by kernel_rfl
@[go_sem ↓] theorem sz_53 : Tryd.prog.cellsOf 53 = 1 := by kernel_rfl
@[go_sem ↓] theorem ag_53 : isAggU (Tryd.prog.underlying 53) = some false := by kernel_rfl
@[go_sem ↓] theorem zr_53 : zrOf Tryd.prog 53 = some [.nilFunc] := by kernel_rfl
@[go_sem ↓] theorem sz_54 : Tryd.prog.cellsOf 54 = 1 := by kernel_rfl
@[go_sem ↓] theorem ag_54 : isAggU (Tryd.prog.underlying 54) = some false := by kernel_rfl
@[go_sem ↓] theorem zr_54 : zrOf Tryd.prog 54 = some [.nilFunc] := by kernel_rfl
@[go_sem ↓] theorem sz_55 : Tryd.prog.cellsOf 55 = 3 := by kernel_rfl
@[go_sem ↓] theorem ag_55 : isAggU (Tryd.prog.underlying 55) = some true := by kernel_rfl
@[go_sem ↓] theorem zr_55 : zrOf Tryd.prog 55 = some [(.int .i64 0), (.int .i64 0), (.slice none 0 0)] := by kernel_rfl
@[go_sem ↓] theorem fo_55_0 : foOf Tryd.prog 55 0 = some 0 := by kernel_rfl
@[go_sem ↓] theorem pl_55_0 : plOf Tryd.prog 55 0 = some (0, 1) := by kernel_rfl
@[go_sem ↓] theorem fo_55_1 : foOf Tryd.prog 55 1 = some 1 := by kernel_rfl
@[go_sem ↓] theorem pl_55_1 : plOf Tryd.prog 55 1 = some (1, 2) := by kernel_rfl
@[go_sem ↓] theorem fl_55 : plOf1 Tryd.prog 55 = true := by kernel_rfl
@[go_sem ↓] theorem sz_56 : Tryd.prog.cellsOf 56 = 3 := by kernel_rfl
@[go_sem ↓] theorem ag_56 : isAggU (Tryd.prog.underlying 56) = some true := by kernel_rfl
@[go_sem ↓] theorem if_56 : isIfU (Tryd.prog.underlying 56) = false := by kernel_rfl
@[go_sem ↓] theorem zr_56 : zrOf Tryd.prog 56 = some [(.int .i64 0), (.int .i64 0), (.slice none 0 0)] := by kernel_rfl
@[go_sem ↓] theorem fo_56_0 : foOf Tryd.prog 56 0 = some 0 := by kernel_rfl
@[go_sem ↓] theorem pl_56_0 : plOf Tryd.prog 56 0 = some (0, 1) := by kernel_rfl
@[go_sem ↓] theorem fo_56_1 : foOf Tryd.prog 56 1 = some 1 := by kernel_rfl
@[go_sem ↓] theorem pl_56_1 : plOf Tryd.prog 56 1 = some (1, 2) := by kernel_rfl
@[go_sem ↓] theorem fl_56 : plOf1 Tryd.prog 56 = true := by kernel_rfl
@[go_sem ↓] theorem sz_57 : Tryd.prog.cellsOf 57 = 1 := by kernel_rfl
@[go_sem ↓] theorem ag_57 : isAggU (Tryd.prog.underlying 57) = some false := by kernel_rfl
@[go_sem ↓] theorem zr_57 : zrOf Tryd.prog 57 = some [.nilFunc] := by kernel_rfl
@[go_sem ↓] theorem sz_58 : Tryd.prog.cellsOf 58 = 1 := by kernel_rfl
@[go_sem ↓] theorem ag_58 : isAggU (Tryd.prog.underlying 58) = some false := by kernel_rfl
@[go_sem ↓] theorem zr_58 : zrOf Tryd.prog 58 = some [.nilFunc] := by kernel_rfl
@[go_sem ↓] theorem sz_60 : Tryd.prog.cellsOf 60 = 1 := by kernel_rfl
@[go_sem ↓] theorem ag_60 : isAggU (Tryd.prog.underlying 60) = some false := by kernel_rfl
@[go_sem ↓] theorem zr_60 : zrOf Tryd.prog 60 = some [.nilFunc] := by kernel_rfl
@[go_sem ↓] theorem sz_61 : Tryd.prog.cellsOf 61 = 1 := by kernel_rfl
@[go_sem ↓] theorem ag_61 : isAggU (Tryd.prog.underlying 61) = some false := by kernel_rfl
@[go_sem ↓] theorem zr_61 : zrOf Tryd.prog 61 = some [.nilFunc] := by kernel_rfl
@[go_sem ↓] theorem sz_62 : Tryd.prog.cellsOf 62 = 1 := by kernel_rfl
@[go_sem ↓] theorem ag_62 : isAggU (Tryd.prog.underlying 62) = some false := by kernel_rfl
@[go_sem ↓] theorem zr_62 : zrOf Tryd.prog 62 = some [(.map none)] := by kernel_rfl
@[go_sem ↓] theorem sz_63 : Tryd.prog.cellsOf 63 = 1 := by kernel_rfl
@[go_sem ↓] theorem ag_63 : isAggU (Tryd.prog.underlying 63) = some false := by kernel_rfl
@[go_sem ↓] theorem zr_63 : zrOf Tryd.prog 63 = some [.nilFunc] := by kernel_rfl
@[go_sem ↓] theorem sz_64 : Tryd.prog.cellsOf 64 = 1 := by kernel_rfl
@[go_sem ↓] theorem ag_64 : isAggU (Tryd.prog.underlying 64) = some false := by kernel_rfl
@[go_sem ↓] theorem zr_64 : zrOf Tryd.prog 64 = some [(.map none)] := by kernel_rfl
@[go_sem ↓] theorem sz_65 : Tryd.prog.cellsOf 65 = 2 := by kernel_rfl
@[go_sem ↓] theorem ag_65 : isAggU (Tryd.prog.underlying 65) = some true := by kernel_rfl
@[go_sem ↓] theorem zr_65 : zrOf Tryd.prog 65 = some [(.map none), (.int .i64 0)] := by kernel_rfl
@[go_sem ↓] theorem fo_65_0 : foOf Tryd.prog 65 0 = some 0 := by kernel_rfl
@[go_sem ↓] theorem pl_65_0 : plOf Tryd.prog 65 0 = some (0, 1) := by kernel_rfl
@[go_sem ↓] theorem fo_65_1 : foOf Tryd.prog 65 1 = some 1 := by kernel_rfl
@[go_sem ↓] theorem pl_65_1 : plOf Tryd.prog 65 1 = some (1, 1) := by kernel_rfl
@[go_sem ↓] theorem fl_65 : plOf1 Tryd.prog 65 = true := by kernel_rfl
@[go_sem ↓] theorem sz_66 : Tryd.prog.cellsOf 66 = 2 := by kernel_rfl
@[go_sem ↓] theorem ag_66 : isAggU (Tryd.prog.underlying 66) = some true := by kernel_rfl
@[go_sem ↓] theorem if_66 : isIfU (Tryd.prog.underlying 66) = false := by kernel_rfl
@[go_sem ↓] theorem zr_66 : zrOf Tryd.prog 66 = some [(.map none), (.int .i64 0)] := by kernel_rfl
@[go_sem ↓] theorem fo_66_0 : foOf Tryd.prog 66 0 = some 0 := by kernel_rfl
@[go_sem ↓] theorem pl_66_0 : plOf Tryd.prog 66 0 = some (0, 1) := by kernel_rfl
@[go_sem ↓] theorem fo_66_1 : foOf Tryd.prog 66 1 = some 1 := by kernel_rfl
@[go_sem ↓] theorem pl_66_1 : plOf Tryd.prog 66 1 = some (1, 1) := by kernel_rfl
@[go_sem ↓] theorem fl_66 : plOf1 Tryd.prog 66 = true := by kernel_rfl
@[go_sem ↓] theorem sz_68 : Tryd.prog.cellsOf 68 = 1 := by kernel_rfl
@[go_sem ↓] theorem ag_68 : isAggU (Tryd.prog.underlying 68) = some false := by kernel_rfl
@[go_sem ↓] theorem zr_68 : zrOf Tryd.prog 68 = some [.nilFunc] := by kernel_rfl
@[go_sem ↓] theorem sz_69 : Tryd.prog.cellsOf 69 = 1 := by kernel_rfl
@[go_sem ↓] theorem ag_69 : isAggU (Tryd.prog.underlying 69) = some false := by kernel_rfl
@[go_sem ↓] theorem zr_69 : zrOf Tryd.prog 69 = some [.nilIface] := by kernel_rfl
@[go_sem ↓] theorem sz_70 : Tryd.prog.cellsOf 70 = 1 := by kernel_rfl
@[go_sem ↓] theorem ag_70 : isAggU (Tryd.prog.underlying 70) = some false := by kernel_rfl
@[go_sem ↓] theorem zr_70 : zrOf Tryd.prog 70 = some [.nilIface] := by kernel_rfl
@[go_sem ↓] theorem sz_72 : Tryd.prog.cellsOf 72 = 1 := by kernel_rfl
@[go_sem ↓] theorem ag_72 : isAggU (Tryd.prog.underlying 72) = some false := by kernel_rfl
@[go_sem ↓] theorem zr_72 : zrOf Tryd.prog 72 = some [.nilFunc] := by kernel_rfl
@[go_sem ↓] theorem sz_73 : Tryd.prog.cellsOf 73 = 1 := by kernel_rfl
@[go_sem ↓] theorem ag_73 : isAggU (Tryd.prog.underlying 73) = some false := by kernel_rfl
@[go_sem ↓] theorem zr_73 : zrOf Tryd.prog 73 = some [.nilFunc] := by kernel_rfl
@[go_sem ↓] theorem sz_74 : Tryd.prog.cellsOf 74 = 1 := by kernel_rfl
@[go_sem ↓] theorem ag_74 : isAggU (Tryd.prog.underlying 74) = some false := by kernel_rfl
@[go_sem ↓] theorem zr_74 : zrOf Tryd.prog 74 = some [.nilFunc] := by kernel_rfl
@[go_sem ↓] theorem sz_75 : Tryd.prog.cellsOf 75 = 1 := by kernel_rfl
@[go_sem ↓] theorem ag_75 : isAggU (Tryd.prog.underlying 75) = some false := by kernel_rfl
@[go_sem ↓] theorem zr_75 : zrOf Tryd.prog 75 = some [.nilFunc] := by kernel_rfl
@[go_sem ↓] theorem sz_77 : Tryd.prog.cellsOf 77 = 1 := by kernel_rfl
@[go_sem ↓] theorem ag_77 : isAggU (Tryd.prog.underlying 77) = some false := by kernel_rfl
@[go_sem ↓] theorem zr_77 : zrOf Tryd.prog 77 = some [.nilFunc] := by kernel_rfl
@[go_sem ↓] theorem sz_79 : Tryd.prog.cellsOf 79 = 1 := by kernel_rfl
@[go_sem ↓] theorem ag_79 : isAggU (Tryd.prog.underlying 79) = some false := by kernel_rfl
@[go_sem ↓] theorem zr_79 : zrOf Tryd.prog 79 = some [.nilFunc] := by kernel_rfl
@[go_sem ↓] theorem sz_80 : Tryd.prog.cellsOf 80 = 1 := by kernel_rfl
@[go_sem ↓] theorem ag_80 : isAggU (Tryd.prog.underlying 80) = some false := by kernel_rfl
@[go_sem ↓] theorem zr_80 : zrOf Tryd.prog 80 = some [.nilFunc] := by kernel_rfl
@[go_sem ↓] theorem sz_81 : Tryd.prog.cellsOf 81 = 1 := by kernel_rfl
@[go_sem ↓] theorem ag_81 : isAggU (Tryd.prog.underlying 81) = some false := by kernel_rfl
@[go_sem ↓] theorem es_81 : elSz Tryd.prog 81 = 1 := by kernel_rfl
@[go_sem ↓] theorem zr_81 : zrOf Tryd.prog 81 = some [(.slice none 0 0)] := by kernel_rfl
@[go_sem ↓] theorem sz_82 : Tryd.prog.cellsOf 82 = 1 := by kernel_rfl
@[go_sem ↓] theorem ag_82 : isAggU (Tryd.prog.underlying 82) = some false := by kernel_rfl
@[go_sem ↓] theorem zr_82 : zrOf Tryd.prog 82 = some [.nilFunc] := by kernel_rfl
@[go_sem ↓] theorem sz_83 : Tryd.prog.cellsOf 83 = 1 := by kernel_rfl
@[go_sem ↓] theorem ag_83 : isAggU (Tryd.prog.underlying 83) = some false := by kernel_rfl
@[go_sem ↓] theorem zr_83 : zrOf Tryd.prog 83 = some [.nilFunc] := by kernel_rfl
@[go_sem ↓] theorem sz_84 : Tryd.prog.cellsOf 84 = 1 := by kernel_rfl
@[go_sem ↓] theorem ag_84 : isAggU (Tryd.prog.underlying 84) = some false := by kernel_rfl
@[go_sem ↓] theorem if_84 : isIfU (Tryd.prog.underlying 84) = false := by kernel_rfl
@[go_sem ↓] theorem zr_84 : zrOf Tryd.prog 84 = some [.nilFunc] := by kernel_rfl
@[go_sem ↓] theorem sz_85 : Tryd.prog.cellsOf 85 = 1 := by kernel_rfl
@[go_sem ↓] theorem ag_85 : isAggU (Tryd.prog.underlying 85) = some false := by kernel_rfl
@[go_sem ↓] theorem zr_85 : zrOf Tryd.prog 85 = some [.nilFunc] := by kernel_rfl
@[go_sem ↓] theorem sz_86 : Tryd.prog.cellsOf 86 = 1 := by kernel_rfl
@[go_sem ↓] theorem ag_86 : isAggU (Tryd.prog.underlying 86) = some false := by kernel_rfl
@[go_sem ↓] theorem zr_86 : zrOf Tryd.prog 86 = some [.nilFunc] := by kernel_rfl
@[go_sem ↓] theorem sz_87 : Tryd.prog.cellsOf 87 = 1 := by kernel_rfl
@[go_sem ↓] theorem ag_87 : isAggU (Tryd.prog.underlying 87) = some false := by kernel_rfl
@[go_sem ↓] theorem zr_87 : zrOf Tryd.prog 87 = some [.nilFunc] := by kernel_rfl
@[go_sem ↓] theorem sz_88 : Tryd.prog.cellsOf 88 = 1 := by kernel_rfl
@[go_sem ↓] theorem ag_88 : isAggU (Tryd.prog.underlying 88) = some false := by kernel_rfl
@[go_sem ↓] theorem zr_88 : zrOf Tryd.prog 88 = some [.nilFunc] := by kernel_rfl
@[go_sem ↓] theorem sz_90 : Tryd.prog.cellsOf 90 = 1 := by kernel_rfl
@[go_sem ↓] theorem ag_90 : isAggU (Tryd.prog.underlying 90) = some false := by kernel_rfl
@[go_sem ↓] theorem zr_90 : zrOf Tryd.prog 90 = some [.nilFunc] := by kernel_rfl
@[go_sem ↓] theorem sz_91 : Tryd.prog.cellsOf 91 = 5 := by kernel_rfl
@[go_sem ↓] theorem ag_91 : isAggU (Tryd.prog.underlying 91) = some true := by kernel_rfl
@[go_sem ↓] theorem es_91 : elSz Tryd.prog 91 = 1 := by kernel_rfl
@[go_sem ↓] theorem zr_91 : zrOf Tryd.prog 91 = some [(.int .u8 0), (.int .u8 0), (.int .u8 0), (.int .u8 0), (.int .u8 0)] := by kernel_rfl
@[go_sem ↓] theorem fl_91 : plOf1 Tryd.prog 91 = true := by kernel_rfl
@[go_sem ↓] theorem pl_91_0 : plOf Tryd.prog 91 0 = some (0, 1) := by kernel_rfl
@[go_sem ↓] theorem pl_91_1 : plOf Tryd.prog 91 1 = some (1, 1) := by kernel_rfl
@[go_sem ↓] theorem pl_91_2 : plOf Tryd.prog 91 2 = some (2, 1) := by kernel_rfl
@[go_sem ↓] theorem pl_91_3 : plOf Tryd.prog 91 3 = some (3, 1) := by kernel_rfl
@[go_sem ↓] theorem pl_91_4 : plOf Tryd.prog 91 4 = some (4, 1) := by kernel_rfl
@[go_sem ↓] theorem sz_92 : Tryd.prog.cellsOf 92 = 1 := by kernel_rfl
@[go_sem ↓] theorem ag_92 : isAggU (Tryd.prog.underlying 92) = some false := by kernel_rfl
@[go_sem ↓] theorem zr_92 : zrOf Tryd.prog 92 = some [.nilFunc] := by kernel_rfl
@[go_sem ↓] theorem sz_94 : Tryd.prog.cellsOf 94 = 1 := by kernel_rfl
@[go_sem ↓] theorem ag_94 : isAggU (Tryd.prog.underlying 94) = some false := by kernel_rfl
@[go_sem ↓] theorem zr_94 : zrOf Tryd.prog 94 = some [.nilFunc] := by kernel_rfl
@[go_sem ↓] theorem sz_95 : Tryd.prog.cellsOf 95 = 1 := by kernel_rfl
@[go_sem ↓] theorem ag_95 : isAggU (Tryd.prog.underlying 95) = some false := by kernel_rfl
@[go_sem ↓] theorem zr_95 : zrOf Tryd.prog 95 = some [.nilFunc] := by kernel_rfl
@[go_sem ↓] theorem sz_96 : Tryd.prog.cellsOf 96 = 1 := by kernel_rfl
@[go_sem ↓] theorem ag_96 : isAggU (Tryd.prog.underlying 96) = some false := by kernel_rfl
@[go_sem ↓] theorem zr_96 : zrOf Tryd.prog 96 = some [.nilFunc] := by kernel_rfl
@[go_sem ↓] theorem sz_97 : Tryd.prog.cellsOf 97 = 1 := by kernel_rfl
@[go_sem ↓] theorem ag_97 : isAggU (Tryd.prog.underlying 97) = some false := by kernel_rfl
@[go_sem ↓] theorem if_97 : isIfU (Tryd.prog.underlying 97) = false := by kernel_rfl
@[go_sem ↓] theorem zr_97 : zrOf Tryd.prog 97 = some [(.pointer none)] := by kernel_rfl
@[go_sem ↓] theorem sz_98 : Tryd.prog.cellsOf 98 = 2 := by kernel_rfl
@[go_sem ↓] theorem ag_98 : isAggU (Tryd.prog.underlying 98) = some true := by kernel_rfl
@[go_sem ↓] theorem zr_98 : zrOf Tryd.prog 98 = some [(.int .i64 0), .nilIface] := by kernel_rfl
@[go_sem ↓] theorem fo_98_0 : foOf Tryd.prog 98 0 = some 0 := by kernel_rfl
@[go_sem ↓] theorem pl_98_0 : plOf Tryd.prog 98 0 = some (0, 1) := by kernel_rfl
@[go_sem ↓] theorem fo_98_1 : foOf Tryd.prog 98 1 = some 1 := by kernel_rfl
@[go_sem ↓] theorem pl_98_1 : plOf Tryd.prog 98 1 = some (1, 1) := by kernel_rfl
@[go_sem ↓] theorem fl_98 : plOf1 Tryd.prog 98 = true := by kernel_rfl
@[go_sem ↓] theorem sz_99 : Tryd.prog.cellsOf 99 = 2 := by kernel_rfl
@[go_sem ↓] theorem ag_99 : isAggU (Tryd.prog.underlying 99) = some true := by kernel_rfl
@[go_sem ↓] theorem if_99 : isIfU (Tryd.prog.underlying 99) = false := by kernel_rfl
@[go_sem ↓] theorem zr_99 : zrOf Tryd.prog 99 = some [(.int .i64 0), .nilIface] := by kernel_rfl
@[go_sem ↓] theorem fo_99_0 : foOf Tryd.prog 99 0 = some 0 := by kernel_rfl
@[go_sem ↓] theorem pl_99_0 : plOf Tryd.prog 99 0 = some (0, 1) := by kernel_rfl
@[go_sem ↓] theorem fo_99_1 : foOf Tryd.prog 99 1 = some 1 := by kernel_rfl
@[go_sem ↓] theorem pl_99_1 : plOf Tryd.prog 99 1 = some (1, 1) := by kernel_rfl
@[go_sem ↓] theorem fl_99 : plOf1 Tryd.prog 99 = true := by kernel_rfl
@[go_sem ↓] theorem sz_101 : Tryd.prog.cellsOf 101 = 1 := by kernel_rfl
@[go_sem ↓] theorem ag_101 : isAggU (Tryd.prog.underlying 101) = some false := by kernel_rfl
@[go_sem ↓] theorem zr_101 : zrOf Tryd.prog 101 = some [.nilFunc] := by kernel_rfl
@[go_sem ↓] theorem sz_102 : Tryd.prog.cellsOf 102 = 1 := by kernel_rfl
@[go_sem ↓] theorem ag_102 : isAggU (Tryd.prog.underlying 102) = some false := by kernel_rfl
@[go_sem ↓] theorem zr_102 : zrOf Tryd.prog 102 = some [.nilIface] := by kernel_rfl
@[go_sem ↓] theorem sz_103 : Tryd.prog.cellsOf 103 = 1 := by kernel_rfl
@[go_sem ↓] theorem ag_103 : isAggU (Tryd.prog.underlying 103) = some false := by kernel_rfl
@[go_sem ↓] theorem zr_103 : zrOf Tryd.prog 103 = some [.nilIface] := by kernel_rfl
@[go_sem ↓] theorem sz_104 : Tryd.prog.cellsOf 104 = 1 := by kernel_rfl
@[go_sem ↓] theorem ag_104 : isAggU (Tryd.prog.underlying 104) = some false := by kernel_rfl
@[go_sem ↓] theorem zr_104 : zrOf Tryd.prog 104 = some [.nilFunc] := by kernel_rfl
@[go_sem ↓] theorem sz_105 : Tryd.prog.cellsOf 105 = 1 := by kernel_rfl
@[go_sem ↓] theorem ag_105 : isAggU (Tryd.prog.underlying 105) = some false := by kernel_rfl
@[go_sem ↓] theorem zr_105 : zrOf Tryd.prog 105 = some [.nilFunc] := by kernel_rfl
@[go_sem ↓] theorem sz_106 : Tryd.prog.cellsOf 106 = 1 := by kernel_rfl
@[go_sem ↓] theorem ag_106 : isAggU (Tryd.prog.underlying 106) = some false := by kernel_rfl
@[go_sem ↓] theorem zr_106 : zrOf Tryd.prog 106 = some [.nilFunc] := by kernel_rfl
@[go_sem ↓] theorem sz_107 : Tryd.prog.cellsOf 107 = 1 := by kernel_rfl
@[go_sem ↓] theorem ag_107 : isAggU (Tryd.prog.underlying 107) = some false := by kernel_rfl
@[go_sem ↓] theorem if_107 : isIfU (Tryd.prog.underlying 107) = false := by kernel_rfl
@[go_sem ↓] theorem zr_107 : zrOf Tryd.prog 107 = some [(.pointer none)] := by kernel_rfl
@[go_sem ↓] theorem sz_108 : Tryd.prog.cellsOf 108 = 1 := by kernel_rfl
@[go_sem ↓] theorem ag_108 : isAggU (Tryd.prog.underlying 108) = some false := by kernel_rfl
@[go_sem ↓] theorem zr_108 : zrOf Tryd.prog 108 = some [(.int .u32 0)] := by kernel_rfl
@[go_sem ↓] theorem sz_109 : Tryd.prog.cellsOf 109 = 1 := by kernel_rfl
@[go_sem ↓] theorem ag_109 : isAggU (Tryd.prog.underlying 109) = some false := by kernel_rfl
@[go_sem ↓] theorem zr_109 : zrOf Tryd.prog 109 = some [.nilFunc] := by kernel_rfl
@[go_sem ↓] theorem sz_110 : Tryd.prog.cellsOf 110 = 1 := by kernel_rfl
@[go_sem ↓] theorem ag_110 : isAggU (Tryd.prog.underlying 110) = some false := by kernel_rfl
@[go_sem ↓] theorem zr_110 : zrOf Tryd.prog 110 = some [.nilFunc] := by kernel_rfl
@[go_sem ↓] theorem sz_111 : Tryd.prog.cellsOf 111 = 2 := by kernel_rfl
@[go_sem ↓] theorem ag_111 : isAggU (Tryd.prog.underlying 111) = some true := by kernel_rfl
@[go_sem ↓] theorem es_111 : elSz Tryd.prog 111 = 1 := by kernel_rfl
@[go_sem ↓] theorem zr_111 : zrOf Tryd.prog 111 = some [(.int .u8 0), (.int .u8 0)] := by kernel_rfl
@[go_sem ↓] theorem fl_111 : plOf1 Tryd.prog 111 = true := by kernel_rfl
@[go_sem ↓] theorem pl_111_0 : plOf Tryd.prog 111 0 = some (0, 1) := by kernel_rfl
@[go_sem ↓] theorem pl_111_1 : plOf Tryd.prog 111 1 = some (1, 1) := by kernel_rfl
@[go_sem ↓] theorem sz_113 : Tryd.prog.cellsOf 113 = 1 := by kernel_rfl
@[go_sem ↓] theorem ag_113 : isAggU (Tryd.prog.underlying 113) = some false := by kernel_rfl
@[go_sem ↓] theorem zr_113 : zrOf Tryd.prog 113 = some [.nilFunc] := by kernel_rfl
@[go_sem ↓] theorem sz_114 : Tryd.prog.cellsOf 114 = 1 := by kernel_rfl
@[go_sem ↓] theorem ag_114 : isAggU (Tryd.prog.underlying 114) = some false := by kernel_rfl
@[go_sem ↓] theorem zr_114 : zrOf Tryd.prog 114 = some [.nilFunc] := by kernel_rfl
@[go_sem ↓] theorem sz_115 : Tryd.prog.cellsOf 115 = 1 := by kernel_rfl
@[go_sem ↓] theorem ag_115 : isAggU (Tryd.prog.underlying 115) = some false := by kernel_rfl
@[go_sem ↓] theorem es_115 : elSz Tryd.prog 115 = 1 := by kernel_rfl
@[go_sem ↓] theorem zr_115 : zrOf Tryd.prog 115 = some [(.slice none 0 0)] := by kernel_rfl
@[go_sem ↓] theorem sz_116 : Tryd.prog.cellsOf 116 = 1 := by kernel_rfl
@[go_sem ↓] theorem ag_116 : isAggU (Tryd.prog.underlying 116) = some false := by kernel_rfl
@[go_sem ↓] theorem zr_116 : zrOf Tryd.prog 116 = some [.nilFunc] := by kernel_rfl
@[go_sem ↓] theorem sz_117 : Tryd.prog.cellsOf 117 = 1 := by kernel_rfl
@[go_sem ↓] theorem ag_117 : isAggU (Tryd.prog.underlying 117) = some true := by kernel_rfl
@[go_sem ↓] theorem zr_117 : zrOf Tryd.prog 117 = some [.nilIface] := by kernel_rfl
@[go_sem ↓] theorem fo_117_0 : foOf Tryd.prog 117 0 = some 0 := by kernel_rfl
@[go_sem ↓] theorem pl_117_0 : plOf Tryd.prog 117 0 = some (0, 1) := by kernel_rfl
@[go_sem ↓] theorem fl_117 : plOf1 Tryd.prog 117 = true := by kernel_rfl
@[go_sem ↓] theorem sz_118 : Tryd.prog.cellsOf 118 = 1 := by kernel_rfl
@[go_sem ↓] theorem ag_118 : isAggU (Tryd.prog.underlying 118) = some true := by kernel_rfl
@[go_sem ↓] theorem if_118 : isIfU (Tryd.prog.underlying 118) = false := by kernel_rfl
@[go_sem ↓] theorem zr_118 : zrOf Tryd.prog 118 = some [.nilIface] := by kernel_rfl
@[go_sem ↓] theorem fo_118_0 : foOf Tryd.prog 118 0 = some 0 := by kernel_rfl
@[go_sem ↓] theorem pl_118_0 : plOf Tryd.prog 118 0 = some (0, 1) := by kernel_rfl
@[go_sem ↓] theorem fl_118 : plOf1 Tryd.prog 118 = true := by kernel_rfl
@[go_sem ↓] theorem sz_119 : Tryd.prog.cellsOf 119 = 1 := by kernel_rfl
@[go_sem ↓] theorem ag_119 : isAggU (Tryd.prog.underlying 119) = some false := by kernel_rfl
@[go_sem ↓] theorem if_119 : isIfU (Tryd.prog.underlying 119) = false := by kernel_rfl
@[go_sem ↓] theorem zr_119 : zrOf Tryd.prog 119 = some [(.pointer none)] := by kernel_rfl
@[go_sem ↓] theorem sz_120 : Tryd.prog.cellsOf 120 = 1 := by kernel_rfl
@[go_sem ↓] theorem ag_120 : isAggU (Tryd.prog.underlying 120) = some false := by kernel_rfl
@[go_sem ↓] theorem zr_120 : zrOf Tryd.prog 120 = some [.nilFunc] := by kernel_rfl
@[go_sem ↓] theorem sz_121 : Tryd.prog.cellsOf 121 = 1 := by kernel_rfl
@[go_sem ↓] theorem ag_121 : isAggU (Tryd.prog.underlying 121) = some false := by kernel_rfl
@[go_sem ↓] theorem zr_121 : zrOf Tryd.prog 121 = some [.nilFunc] := by kernel_rfl
@[go_sem ↓] theorem sz_122 : Tryd.prog.cellsOf 122 = 1 := by kernel_rfl
@[go_sem ↓] theorem ag_122 : isAggU (Tryd.prog.underlying 122) = some true := by kernel_rfl
@[go_sem ↓] theorem zr_122 : zrOf Tryd.prog 122 = some [(.pointer none)] := by kernel_rfl
@[go_sem ↓] theorem fo_122_0 : foOf Tryd.prog 122 0 = some 0 := by kernel_rfl
@[go_sem ↓] theorem pl_122_0 : plOf Tryd.prog 122 0 = some (0, 1) := by kernel_rfl
@[go_sem ↓] theorem fl_122 : plOf1 Tryd.prog 122 = true := by kernel_rfl
@[go_sem ↓] theorem sz_123 : Tryd.prog.cellsOf 123 = 1 := by kernel_rfl
@[go_sem ↓] theorem ag_123 : isAggU (Tryd.prog.underlying 123) = some true := by kernel_rfl
@[go_sem ↓] theorem if_123 : isIfU (Tryd.prog.underlying 123) = false := by kernel_rfl
@[go_sem ↓] theorem zr_123 : zrOf Tryd.prog 123 = some [(.pointer none)] := by kernel_rfl
@[go_sem ↓] theorem fo_123_0 : foOf Tryd.prog 123 0 = some 0 := by kernel_rfl
@[go_sem ↓] theorem pl_123_0 : plOf Tryd.prog 123 0 = some (0, 1) := by kernel_rfl
@[go_sem ↓] theorem fl_123 : plOf1 Tryd.prog 123 = true := by kernel_rfl
@[go_sem ↓] theorem sz_124 : Tryd.prog.cellsOf 124 = 1 := by kernel_rfl
@[go_sem ↓] theorem ag_124 : isAggU (Tryd.prog.underlying 124) = some false := by kernel_rfl
@[go_sem ↓] theorem if_124 : isIfU (Tryd.prog.underlying 124) = false := by kernel_rfl
@[go_sem ↓] theorem zr_124 : zrOf Tryd.prog 124 = some [(.pointer none)] := by kernel_rfl
@[go_sem ↓] theorem sz_125 : Tryd.prog.cellsOf 125 = 1 := by kernel_rfl
@[go_sem ↓] theorem ag_125 : isAggU (Tryd.prog.underlying 125) = some false := by kernel_rfl
@[go_sem ↓] theorem zr_125 : zrOf Tryd.prog 125 = some [.nilIface] := by kernel_rfl
@[go_sem ↓] theorem sz_127 : Tryd.prog.cellsOf 127 = 1 := by kernel_rfl
@[go_sem ↓] theorem ag_127 : isAggU (Tryd.prog.underlying 127) = some false := by kernel_rfl
@[go_sem ↓] theorem zr_127 : zrOf Tryd.prog 127 = some [.nilFunc] := by kernel_rfl
@[go_sem ↓] theorem sz_128 : Tryd.prog.cellsOf 128 = 1 := by kernel_rfl
@[go_sem ↓] theorem ag_128 : isAggU (Tryd.prog.underlying 128) = some false := by kernel_rfl
@[go_sem ↓] theorem zr_128 : zrOf Tryd.prog 128 = some [.nilIface] := by kernel_rfl
@[go_sem ↓] theorem sz_129 : Tryd.prog.cellsOf 129 = 1 := by kernel_rfl
@[go_sem ↓] theorem ag_129 : isAggU (Tryd.prog.underlying 129) = some false := by kernel_rfl
@[go_sem ↓] theorem zr_129 : zrOf Tryd.prog 129 = some [.nilFunc] := by kernel_rfl
@[go_sem ↓] theorem sz_130 : Tryd.prog.cellsOf 130 = 1 := by kernel_rfl
@[go_sem ↓] theorem ag_130 : isAggU (Tryd.prog.underlying 130) = some false := by kernel_rfl
@[go_sem ↓] theorem zr_130 : zrOf Tryd.prog 130 = some [.nilIface] := by kernel_rfl
@[go_sem ↓] theorem sz_131 : Tryd.prog.cellsOf 131 = 1 := by kernel_rfl
@[go_sem ↓] theorem ag_131 : isAggU (Tryd.prog.underlying 131) = some false := by kernel_rfl
@[go_sem ↓] theorem es_131 : elSz Tryd.prog 131 = 1 := by kernel_rfl
@[go_sem ↓] theorem zr_131 : zrOf Tryd.prog 131 = some [(.slice none 0 0)] := by kernel_rfl
@[go_sem ↓] theorem sz_132 : Tryd.prog.cellsOf 132 = 1 := by kernel_rfl
@[go_sem ↓] theorem ag_132 : isAggU (Tryd.prog.underlying 132) = some false := by kernel_rfl
@[go_sem ↓] theorem zr_132 : zrOf Tryd.prog 132 = some [.nilFunc] := by kernel_rfl
@[go_sem ↓] theorem sz_133 : Tryd.prog.cellsOf 133 = 1 := by kernel_rfl
@[go_sem ↓] theorem ag_133 : isAggU (Tryd.prog.underlying 133) = some false := by kernel_rfl
@[go_sem ↓] theorem zr_133 : zrOf Tryd.prog 133 = some [(.pointer none)] := by kernel_rfl
@[go_sem ↓] theorem sz_134 : Tryd.prog.cellsOf 134 = 1 := by kernel_rfl
@[go_sem ↓] theorem ag_134 : isAggU (Tryd.prog.underlying 134) = some false := by kernel_rfl
@[go_sem ↓] theorem if_134 : isIfU (Tryd.prog.underlying 134) = false := by kernel_rfl
@[go_sem ↓] theorem zr_134 : zrOf Tryd.prog 134 = some [(.int .u64 0)] := by kernel_rfl
@[go_sem ↓] theorem sz_135 : Tryd.prog.cellsOf 135 = 3 := by kernel_rfl
@[go_sem ↓] theorem ag_135 : isAggU (Tryd.prog.underlying 135) = some true := by kernel_rfl
@[go_sem ↓] theorem zr_135 : zrOf Tryd.prog 135 = some [(.pointer none), (.pointer none), (.int .u64 0)] := by kernel_rfl
@[go_sem ↓] theorem fo_135_0 : foOf Tryd.prog 135 0 = some 0 := by kernel_rfl
@[go_sem ↓] theorem pl_135_0 : plOf Tryd.prog 135 0 = some (0, 1) := by kernel_rfl
@[go_sem ↓] theorem fo_135_1 : foOf Tryd.prog 135 1 = some 1 := by kernel_rfl
@[go_sem ↓] theorem pl_135_1 : plOf Tryd.prog 135 1 = some (1, 1) := by kernel_rfl
@[go_sem ↓] theorem fo_135_2 : foOf Tryd.prog 135 2 = some 2 := by kernel_rfl
@[go_sem ↓] theorem pl_135_2 : plOf Tryd.prog 135 2 = some (2, 1) := by kernel_rfl
@[go_sem ↓] theorem fl_135 : plOf1 Tryd.prog 135 = true := by kernel_rfl
@[go_sem ↓] theorem sz_136 : Tryd.prog.cellsOf 136 = 3 := by kernel_rfl
@[go_sem ↓] theorem ag_136 : isAggU (Tryd.prog.underlying 136) = some true := by kernel_rfl
@[go_sem ↓] theorem if_136 : isIfU (Tryd.prog.underlying 136) = false := by kernel_rfl
@[go_sem ↓] theorem zr_136 : zrOf Tryd.prog 136 = some [(.pointer none), (.pointer none), (.int .u64 0)] := by kernel_rfl
@[go_sem ↓] theorem fo_136_0 : foOf Tryd.prog 136 0 = some 0 := by kernel_rfl
@[go_sem ↓] theorem pl_136_0 : plOf Tryd.prog 136 0 = some (0, 1) := by kernel_rfl
@[go_sem ↓] theorem fo_136_1 : foOf Tryd.prog 136 1 = some 1 := by kernel_rfl
@[go_sem ↓] theorem pl_136_1 : plOf Tryd.prog 136 1 = some (1, 1) := by kernel_rfl
@[go_sem ↓] theorem fo_136_2 : foOf Tryd.prog 136 2 = some 2 := by kernel_rfl
@[go_sem ↓] theorem pl_136_2 : plOf Tryd.prog 136 2 = some (2, 1) := by kernel_rfl
@[go_sem ↓] theorem fl_136 : plOf1 Tryd.prog 136 = true := by kernel_rfl
@[go_sem ↓] theorem sz_137 : Tryd.prog.cellsOf 137 = 1 := by kernel_rfl
@[go_sem ↓] theorem ag_137 : isAggU (Tryd.prog.underlying 137) = some false := by kernel_rfl
@[go_sem ↓] theorem zr_137 : zrOf Tryd.prog 137 = some [.nilFunc] := by kernel_rfl
@[go_sem ↓] theorem sz_138 : Tryd.prog.cellsOf 138 = 1 := by kernel_rfl
@[go_sem ↓] theorem ag_138 : isAggU (Tryd.prog.underlying 138) = some false := by kernel_rfl
@[go_sem ↓] theorem zr_138 : zrOf Tryd.prog 138 = some [.nilFunc] := by kernel_rfl
@[go_sem ↓] theorem sz_139 : Tryd.prog.cellsOf 139 = 1 := by kernel_rfl
@[go_sem ↓] theorem ag_139 : isAggU (Tryd.prog.underlying 139) = some false := by kernel_rfl
@[go_sem ↓] theorem if_139 : isIfU (Tryd.prog.underlying 139) = false := by kernel_rfl
@[go_sem ↓] theorem zr_139 : zrOf Tryd.prog 139 = some [(.int .u8 0)] := by kernel_rfl
@[go_sem ↓] theorem sz_140 : Tryd.prog.cellsOf 140 = 1 := by kernel_rfl
@[go_sem ↓] theorem ag_140 : isAggU (Tryd.prog.underlying 140) = some false := by kernel_rfl
@[go_sem ↓] theorem zr_140 : zrOf Tryd.prog 140 = some [.nilFunc] := by kernel_rfl
@[go_sem ↓] theorem sz_141 : Tryd.prog.cellsOf 141 = 1 := by kernel_rfl
@[go_sem ↓] theorem ag_141 : isAggU (Tryd.prog.underlying 141) = some false := by kernel_rfl
@[go_sem ↓] theorem zr_141 : zrOf Tryd.prog 141 = some [.nilFunc] := by kernel_rfl
@[go_sem ↓] theorem sz_142 : Tryd.prog.cellsOf 142 = 1 := by kernel_rfl
@[go_sem ↓] theorem ag_142 : isAggU (Tryd.prog.underlying 142) = some false := by kernel_rfl
@[go_sem ↓] theorem zr_142 : zrOf Tryd.prog 142 = some [.nilFunc] := by kernel_rfl
@[go_sem ↓] theorem sz_143 : Tryd.prog.cellsOf 143 = 1 := by kernel_rfl
@[go_sem ↓] theorem ag_143 : isAggU (Tryd.prog.underlying 143) = some false := by kernel_rfl
@[go_sem ↓] theorem zr_143 : zrOf Tryd.prog 143 = some [.nilFunc] := by kernel_rfl
@[go_sem ↓] theorem sz_144 : Tryd.prog.cellsOf 144 = 1 := by kernel_rfl
@[go_sem ↓] theorem ag_144 : isAggU (Tryd.prog.underlying 144) = some false := by kernel_rfl
@[go_sem ↓] theorem zr_144 : zrOf Tryd.prog 144 = some [.nilFunc] := by kernel_rfl
@[go_sem ↓] theorem sz_145 : Tryd.prog.cellsOf 145 = 1 := by kernel_rfl
@[go_sem ↓] theorem ag_145 : isAggU (Tryd.prog.underlying 145) = some false := by kernel_rfl
@[go_sem ↓] theorem zr_145 : zrOf Tryd.prog 145 = some [.nilFunc] := by kernel_rfl
@[go_sem ↓] theorem sz_146 : Tryd.prog.cellsOf 146 = 1 := by kernel_rfl
@[go_sem ↓] theorem ag_146 : isAggU (Tryd.prog.underlying 146) = some false := by kernel_rfl
@[go_sem ↓] theorem zr_146 : zrOf Tryd.prog 146 = some [(.int .u64 0)] := by kernel_rfl
@[go_sem ↓] theorem sz_148 : Tryd.prog.cellsOf 148 = 1 := by kernel_rfl
@[go_sem ↓] theorem ag_148 : isAggU (Tryd.prog.underlying 148) = some false := by kernel_rfl
@[go_sem ↓] theorem zr_148 : zrOf Tryd.prog 148 = some [.nilFunc] := by kernel_rfl
@[go_sem ↓] theorem sz_149 : Tryd.prog.cellsOf 149 = 1 := by kernel_rfl
@[go_sem ↓] theorem ag_149 : isAggU (Tryd.prog.underlying 149) = some false := by kernel_rfl
@[go_sem ↓] theorem zr_149 : zrOf Tryd.prog 149 = some [.nilFunc] := by kernel_rfl
@[go_sem ↓] theorem sz_150 : Tryd.prog.cellsOf 150 = 1 := by kernel_rfl
@[go_sem ↓] theorem ag_150 : isAggU (Tryd.prog.underlying 150) = some false := by kernel_rfl
@[go_sem ↓] theorem zr_150 : zrOf Tryd.prog 150 = some [.nilFunc] := by kernel_rfl
@[go_sem ↓] theorem sz_151 : Tryd.prog.cellsOf 151 = 1 := by kernel_rfl
@[go_sem ↓] theorem ag_151 : isAggU (Tryd.prog.underlying 151) = some false := by kernel_rfl
@[go_sem ↓] theorem if_151 : isIfU (Tryd.prog.underlying 151) = false := by kernel_rfl
@[go_sem ↓] theorem zr_151 : zrOf Tryd.prog 151 = some [.nilFunc] := by kernel_rfl
@[go_sem ↓] theorem sz_152 : Tryd.prog.cellsOf 152 = 1 := by kernel_rfl
@[go_sem ↓] theorem ag_152 : isAggU (Tryd.prog.underlying 152) = some false := by kernel_rfl
@[go_sem ↓] theorem zr_152 : zrOf Tryd.prog 152 = some [.nilFunc] := by kernel_rfl
@[go_sem ↓] theorem sz_153 : Tryd.prog.cellsOf 153 = 1 := by kernel_rfl
@[go_sem ↓] theorem ag_153 : isAggU (Tryd.prog.underlying 153) = some false := by kernel_rfl
@[go_sem ↓] theorem zr_153 : zrOf Tryd.prog 153 = some [.nilFunc] := by kernel_rfl
@[go_sem ↓] theorem sz_154 : Tryd.prog.cellsOf 154 = 1 := by kernel_rfl
@[go_sem ↓] theorem ag_154 : isAggU (Tryd.prog.underlying 154) = some false := by kernel_rfl
@[go_sem ↓] theorem zr_154 : zrOf Tryd.prog 154 = some [.nilFunc] := by kernel_rfl
@[go_sem ↓] theorem sz_155 : Tryd.prog.cellsOf 155 = 1 := by kernel_rfl
@[go_sem ↓] theorem ag_155 : isAggU (Tryd.prog.underlying 155) = some false := by kernel_rfl
@[go_sem ↓] theorem zr_155 : zrOf Tryd.prog 155 = some [.nilIface] := by kernel_rfl
@[go_sem ↓] theorem sz_157 : Tryd.prog.cellsOf 157 = 1 := by kernel_rfl
@[go_sem ↓] theorem ag_157 : isAggU (Tryd.prog.underlying 157) = some false := by kernel_rfl
@[go_sem ↓] theorem zr_157 : zrOf Tryd.prog 157 = some [.nilFunc] := by kernel_rfl
@[go_sem ↓] theorem sz_158 : Tryd.prog.cellsOf 158 = 1 := by kernel_rfl
@[go_sem ↓] theorem ag_158 : isAggU (Tryd.prog.underlying 158) = some false := by kernel_rfl
@[go_sem ↓] theorem zr_158 : zrOf Tryd.prog 158 = some [.nilFunc] := by kernel_rfl
@[go_sem ↓] theorem sz_159 : Tryd.prog.cellsOf 159 = 1 := by kernel_rfl
@[go_sem ↓] theorem ag_159 : isAggU (Tryd.prog.underlying 159) = some false := by kernel_rfl
@[go_sem ↓] theorem if_159 : isIfU (Tryd.prog.underlying 159) = false := by kernel_rfl
@[go_sem ↓] theorem zr_159 : zrOf Tryd.prog 159 = some [(.int .i64 0)] := by kernel_rfl
@[go_sem ↓] theorem sz_161 : Tryd.prog.cellsOf 161 = 1 := by kernel_rfl
@[go_sem ↓] theorem ag_161 : isAggU (Tryd.prog.underlying 161) = some false := by kernel_rfl
@[go_sem ↓] theorem zr_161 : zrOf Tryd.prog 161 = some [.nilFunc] := by kernel_rfl
@[go_sem ↓] theorem sz_162 : Tryd.prog.cellsOf 162 = 1 := by kernel_rfl
@[go_sem ↓] theorem ag_162 : isAggU (Tryd.prog.underlying 162) = some false := by kernel_rfl
@[go_sem ↓] theorem zr_162 : zrOf Tryd.prog 162 = some [.nilFunc] := by kernel_rfl
@[go_sem ↓] theorem sz_163 : Tryd.prog.cellsOf 163 = 1 := by kernel_rfl
@[go_sem ↓] theorem ag_163 : isAggU (Tryd.prog.underlying 163) = some false := by kernel_rfl
@[go_sem ↓] theorem zr_163 : zrOf Tryd.prog 163 = some [.nilFunc] := by kernel_rfl
@[go_sem ↓] theorem sz_164 : Tryd.prog.cellsOf 164 = 1 := by kernel_rfl
@[go_sem ↓] theorem ag_164 : isAggU (Tryd.prog.underlying 164) = some false := by kernel_rfl
@[go_sem ↓] theorem zr_164 : zrOf Tryd.prog 164 = some [.nilFunc] := by kernel_rfl
@[go_sem ↓] theorem sz_166 : Tryd.prog.cellsOf 166 = 1 := by kernel_rfl
@[go_sem ↓] theorem ag_166 : isAggU (Tryd.prog.underlying 166) = some false := by kernel_rfl
@[go_sem ↓] theorem zr_166 : zrOf Tryd.prog 166 = some [.nilFunc] := by kernel_rfl
@[go_sem ↓] theorem sz_167 : Tryd.prog.cellsOf 167 = 1 := by kernel_rfl
@[go_sem ↓] theorem ag_167 : isAggU (Tryd.prog.underlying 167) = some false := by kernel_rfl
@[go_sem ↓] theorem zr_167 : zrOf Tryd.prog 167 = some [.nilFunc] := by kernel_rfl
@[go_sem ↓] theorem sz_168 : Tryd.prog.cellsOf 168 = 1 := by kernel_rfl
@[go_sem ↓] theorem ag_168 : isAggU (Tryd.prog.underlying 168) = some false := by kernel_rfl
@[go_sem ↓] theorem zr_168 : zrOf Tryd.prog 168 = some [.nilFunc] := by kernel_rfl
@[go_sem ↓] theorem sz_169 : Tryd.prog.cellsOf 169 = 1 := by kernel_rfl
@[go_sem ↓] theorem ag_169 : isAggU (Tryd.prog.underlying 169) = some false := by kernel_rfl
@[go_sem ↓] theorem zr_169 : zrOf Tryd.prog 169 = some [(.int .u64 0)] := by kernel_rfl
@[go_sem ↓] theorem sz_170 : Tryd.prog.cellsOf 170 = 1 := by kernel_rfl
@[go_sem ↓] theorem ag_170 : isAggU (Tryd.prog.underlying 170) = some false := by kernel_rfl
@[go_sem ↓] theorem zr_170 : zrOf Tryd.prog 170 = some [.nilFunc] := by kernel_rfl
@[go_sem ↓] theorem sz_171 : Tryd.prog.cellsOf 171 = 1 := by kernel_rfl
@[go_sem ↓] theorem ag_171 : isAggU (Tryd.prog.underlying 171) = some false := by kernel_rfl
@[go_sem ↓] theorem if_171 : isIfU (Tryd.prog.underlying 171) = false := by kernel_rfl
@[go_sem ↓] theorem zr_171 : zrOf Tryd.prog 171 = some [(.int .u64 0)] := by kernel_rfl
@[go_sem ↓] theorem sz_172 : Tryd.prog.cellsOf 172 = 1 := by kernel_rfl
@[go_sem ↓] theorem ag_172 : isAggU (Tryd.prog.underlying 172) = some false := by kernel_rfl
@[go_sem ↓] theorem zr_172 : zrOf Tryd.prog 172 = some [.nilFunc] := by kernel_rfl
@[go_sem ↓] theorem sz_173 : Tryd.prog.cellsOf 173 = 1 := by kernel_rfl
@[go_sem ↓] theorem ag_173 : isAggU (Tryd.prog.underlying 173) = some false := by kernel_rfl
@[go_sem ↓] theorem zr_173 : zrOf Tryd.prog 173 = some [.nilFunc] := by kernel_rfl
@[go_sem ↓] theorem sz_174 : Tryd.prog.cellsOf 174 = 1 := by kernel_rfl
@[go_sem ↓] theorem ag_174 : isAggU (Tryd.prog.underlying 174) = some false := by kernel_rfl
@[go_sem ↓] theorem zr_174 : zrOf Tryd.prog 174 = some [.nilFunc] := by kernel_rfl
@[go_sem ↓] theorem sz_175 : Tryd.prog.cellsOf 175 = 1 := by kernel_rfl
@[go_sem ↓] theorem ag_175 : isAggU (Tryd.prog.underlying 175) = some false := by kernel_rfl
@[go_sem ↓] theorem if_175 : isIfU (Tryd.prog.underlying 175) = false := by kernel_rfl
@[go_sem ↓] theorem zr_175 : zrOf Tryd.prog 175 = some [(.pointer none)] := by kernel_rfl
@[go_sem ↓] theorem sz_176 : Tryd.prog.cellsOf 176 = 1 := by kernel_rfl
@[go_sem ↓] theorem ag_176 : isAggU (Tryd.prog.underlying 176) = some false := by kernel_rfl
@[go_sem ↓] theorem zr_176 : zrOf Tryd.prog 176 = some [.nilFunc] := by kernel_rfl
@[go_sem ↓] theorem sz_177 : Tryd.prog.cellsOf 177 = 1 := by kernel_rfl
@[go_sem ↓] theorem ag_177 : isAggU (Tryd.prog.underlying 177) = some false := by kernel_rfl
@[go_sem ↓] theorem if_177 : isIfU (Tryd.prog.underlying 177) = false := by kernel_rfl
@[go_sem ↓] theorem zr_177 : zrOf Tryd.prog 177 = some [(.pointer none)] := by kernel_rfl
@[go_sem ↓] theorem sz_179 : Tryd.prog.cellsOf 179 = 1 := by kernel_rfl
@[go_sem ↓] theorem ag_179 : isAggU (Tryd.prog.underlying 179) = some false := by kernel_rfl
@[go_sem ↓] theorem zr_179 : zrOf Tryd.prog 179 = some [.nilFunc] := by kernel_rfl
@[go_sem ↓] theorem sz_180 : Tryd.prog.cellsOf 180 = 1 := by kernel_rfl
@[go_sem ↓] theorem ag_180 : isAggU (Tryd.prog.underlying 180) = some false := by kernel_rfl
@[go_sem ↓] theorem zr_180 : zrOf Tryd.prog 180 = some [.nilFunc] := by kernel_rfl
@[go_sem ↓] theorem sz_181 : Tryd.prog.cellsOf 181 = 4 := by kernel_rfl
@[go_sem ↓] theorem ag_181 : isAggU (Tryd.prog.underlying 181) = some true := by kernel_rfl
@[go_sem ↓] theorem zr_181 : zrOf Tryd.prog 181 = some [(.pointer none), (.pointer none), (.pointer none), (.string ⟨#[]⟩)] := by kernel_rfl
@[go_sem ↓] theorem fo_181_0 : foOf Tryd.prog 181 0 = some 0 := by kernel_rfl
@[go_sem ↓] theorem pl_181_0 : plOf Tryd.prog 181 0 = some (0, 1) := by kernel_rfl
@[go_sem ↓] theorem fo_181_1 : foOf Tryd.prog 181 1 = some 1 := by kernel_rfl
@[go_sem ↓] theorem pl_181_1 : plOf Tryd.prog 181 1 = some (1, 1) := by kernel_rfl
@[go_sem ↓] theorem fo_181_2 : foOf Tryd.prog 181 2 = some 2 := by kernel_rfl
@[go_sem ↓] theorem pl_181_2 : plOf Tryd.prog 181 2 = some (2, 1) := by kernel_rfl
@[go_sem ↓] theorem fo_181_3 : foOf Tryd.prog 181 3 = some 3 := by kernel_rfl
@[go_sem ↓] theorem pl_181_3 : plOf Tryd.prog 181 3 = some (3, 1) := by kernel_rfl
@[go_sem ↓] theorem fl_181 : plOf1 Tryd.prog 181 = true := by kernel_rfl
@[go_sem ↓] theorem sz_182 : Tryd.prog.cellsOf 182 = 4 := by kernel_rfl
@[go_sem ↓] theorem ag_182 : isAggU (Tryd.prog.underlying 182) = some true := by kernel_rfl
@[go_sem ↓] theorem if_182 : isIfU (Tryd.prog.underlying 182) = false := by kernel_rfl
@[go_sem ↓] theorem zr_182 : zrOf Tryd.prog 182 = some [(.pointer none), (.pointer none), (.pointer none), (.string ⟨#[]⟩)] := by kernel_rfl
@[go_sem ↓] theorem fo_182_0 : foOf Tryd.prog 182 0 = some 0 := by kernel_rfl
@[go_sem ↓] theorem pl_182_0 : plOf Tryd.prog 182 0 = some (0, 1) := by kernel_rfl
@[go_sem ↓] theorem fo_182_1 : foOf Tryd.prog 182 1 = some 1 := by kernel_rfl
@[go_sem ↓] theorem pl_182_1 : plOf Tryd.prog 182 1 = some (1, 1) := by kernel_rfl
@[go_sem ↓] theorem fo_182_2 : foOf Tryd.prog 182 2 = some 2 := by kernel_rfl
@[go_sem ↓] theorem pl_182_2 : plOf Tryd.prog 182 2 = some (2, 1) := by kernel_rfl
@[go_sem ↓] theorem fo_182_3 : foOf Tryd.prog 182 3 = some 3 := by kernel_rfl
@[go_sem ↓] theorem pl_182_3 : plOf Tryd.prog 182 3 = some (3, 1) := by kernel_rfl
@[go_sem ↓] theorem fl_182 : plOf1 Tryd.prog 182 = true := by kernel_rfl
@[go_sem ↓] theorem sz_183 : Tryd.prog.cellsOf 183 = 0 := by kernel_rfl
@[go_sem ↓] theorem ag_183 : isAggU (Tryd.prog.underlying 183) = some true := by kernel_rfl
@[go_sem ↓] theorem es_183 : elSz Tryd.prog 183 = 1 := by kernel_rfl
@[go_sem ↓] theorem zr_183 : zrOf Tryd.prog 183 = some [] := by kernel_rfl
@[go_sem ↓] theorem fl_183 : plOf1 Tryd.prog 183 = true := by kernel_rfl
@[go_sem ↓] theorem sz_184 : Tryd.prog.cellsOf 184 = 0 := by kernel_rfl
@[go_sem ↓] theorem ag_184 : isAggU (Tryd.prog.underlying 184) = some true := by kernel_rfl
@[go_sem ↓] theorem zr_184 : zrOf Tryd.prog 184 = some [] := by kernel_rfl
@[go_sem ↓] theorem pl_184_0 : plOf Tryd.prog 184 0 = some (0, 0) := by kernel_rfl
@[go_sem ↓] theorem fl_184 : plOf1 Tryd.prog 184 = true := by kernel_rfl
@[go_sem ↓] theorem sz_185 : Tryd.prog.cellsOf 185 = 0 := by kernel_rfl
@[go_sem ↓] theorem ag_185 : isAggU (Tryd.prog.underlying 185) = some true := by kernel_rfl
@[go_sem ↓] theorem if_185 : isIfU (Tryd.prog.underlying 185) = false := by kernel_rfl
@[go_sem ↓] theorem zr_185 : zrOf Tryd.prog 185 = some [] := by kernel_rfl
@[go_sem ↓] theorem pl_185_0 : plOf Tryd.prog 185 0 = some (0, 0) := by kernel_rfl
@[go_sem ↓] theorem fl_185 : plOf1 Tryd.prog 185 = true := by kernel_rfl
@[go_sem ↓] theorem sz_186 : Tryd.prog.cellsOf 186 = 1 := by kernel_rfl
@[go_sem ↓] theorem ag_186 : isAggU (Tryd.prog.underlying 186) = some false := by kernel_rfl
@[go_sem ↓] theorem zr_186 : zrOf Tryd.prog 186 = some [.nilFunc] := by kernel_rfl
@[go_sem ↓] theorem sz_187 : Tryd.prog.cellsOf 187 = 1 := by kernel_rfl
@[go_sem ↓] theorem ag_187 : isAggU (Tryd.prog.underlying 187) = some false := by kernel_rfl
@[go_sem ↓] theorem if_187 : isIfU (Tryd.prog.underlying 187) = false := by kernel_rfl
@[go_sem ↓] theorem zr_187 : zrOf Tryd.prog 187 = some [(.int .u8 0)] := by kernel_rfl
@[go_sem ↓] theorem sz_188 : Tryd.prog.cellsOf 188 = 1 := by kernel_rfl
@[go_sem ↓] theorem ag_188 : isAggU (Tryd.prog.underlying 188) = some false := by kernel_rfl
@[go_sem ↓] theorem zr_188 : zrOf Tryd.prog 188 = some [.nilFunc] := by kernel_rfl
@[go_sem ↓] theorem sz_189 : Tryd.prog.cellsOf 189 = 1 := by kernel_rfl
@[go_sem ↓] theorem ag_189 : isAggU (Tryd.prog.underlying 189) = some false := by kernel_rfl
@[go_sem ↓] theorem if_189 : isIfU (Tryd.prog.underlying 189) = false := by kernel_rfl
@[go_sem ↓] theorem zr_189 : zrOf Tryd.prog 189 = some [(.pointer none)] := by kernel_rfl
@[go_sem ↓] theorem sz_190 : Tryd.prog.cellsOf 190 = 1 := by kernel_rfl
@[go_sem ↓] theorem ag_190 : isAggU (Tryd.prog.underlying 190) = some false := by kernel_rfl
@[go_sem ↓] theorem if_190 : isIfU (Tryd.prog.underlying 190) = false := by kernel_rfl
@[go_sem ↓] theorem zr_190 : zrOf Tryd.prog 190 = some [(.int .i32 0)] := by kernel_rfl
@[go_sem ↓] theorem sz_191 : Tryd.prog.cellsOf 191 = 1 := by kernel_rfl
@[go_sem ↓] theorem ag_191 : isAggU (Tryd.prog.underlying 191) = some false := by kernel_rfl
@[go_sem ↓] theorem if_191 : isIfU (Tryd.prog.underlying 191) = false := by kernel_rfl
@[go_sem ↓] theorem zr_191 : zrOf Tryd.prog 191 = some [(.int .i32 0)] := by kernel_rfl
@[go_sem ↓] theorem sz_192 : Tryd.prog.cellsOf 192 = 11 := by kernel_rfl
@[go_sem ↓] theorem ag_192 : isAggU (Tryd.prog.underlying 192) = some true := by kernel_rfl
@[go_sem ↓] theorem zr_192 : zrOf Tryd.prog 192 = some [(.int .u64 0), (.int .u64 0), (.int .u32 0), (.int .u8 0), (.int .u8 0), (.int .u8 0), (.int .u8 0), .nilFunc, (.pointer none), (.int .i32 0), (.int .i32 0)] := by kernel_rfl
@[go_sem ↓] theorem fo_192_0 : foOf Tryd.prog 192 0 = some 0 := by kernel_rfl
@[go_sem ↓] theorem pl_192_0 : plOf Tryd.prog 192 0 = some (0, 1) := by kernel_rfl
@[go_sem ↓] theorem fo_192_1 : foOf Tryd.prog 192 1 = some 1 := by kernel_rfl
@[go_sem ↓] theorem pl_192_1 : plOf Tryd.prog 192 1 = some (1, 1) := by kernel_rfl
@[go_sem ↓] theorem fo_192_2 : foOf Tryd.prog 192 2 = some 2 := by kernel_rfl
@[go_sem ↓] theorem pl_192_2 : plOf Tryd.prog 192 2 = some (2, 1) := by kernel_rfl
@[go_sem ↓] theorem fo_192_3 : foOf Tryd.prog 192 3 = some 3 := by kernel_rfl
@[go_sem ↓] theorem pl_192_3 : plOf Tryd.prog 192 3 = some (3, 1) := by kernel_rfl
@[go_sem ↓] theorem fo_192_4 : foOf Tryd.prog 192 4 = some 4 := by kernel_rfl
@[go_sem ↓] theorem pl_192_4 : plOf Tryd.prog 192 4 = some (4, 1) := by kernel_rfl
@[go_sem ↓] theorem fo_192_5 : foOf Tryd.prog 192 5 = some 5 := by kernel_rfl
@[go_sem ↓] theorem pl_192_5 : plOf Tryd.prog 192 5 = some (5, 1) := by kernel_rfl
@[go_sem ↓] theorem fo_192_6 : foOf Tryd.prog 192 6 = some 6 := by kernel_rfl
@[go_sem ↓] theorem pl_192_6 : plOf Tryd.prog 192 6 = some (6, 1) := by kernel_rfl
@[go_sem ↓] theorem fo_192_7 : foOf Tryd.prog 192 7 = some 7 := by kernel_rfl
@[go_sem ↓] theorem pl_192_7 : plOf Tryd.prog 192 7 = some (7, 1) := by kernel_rfl
@[go_sem ↓] theorem fo_192_8 : foOf Tryd.prog 192 8 = some 8 := by kernel_rfl
@[go_sem ↓] theorem pl_192_8 : plOf Tryd.prog 192 8 = some (8, 1) := by kernel_rfl
@[go_sem ↓] theorem fo_192_9 : foOf Tryd.prog 192 9 = some 9 := by kernel_rfl
@[go_sem ↓] theorem pl_192_9 : plOf Tryd.prog 192 9 = some (9, 1) := by kernel_rfl
@[go_sem ↓] theorem fo_192_10 : foOf Tryd.prog 192 10 = some 10 := by kernel_rfl
@[go_sem ↓] theorem pl_192_10 : plOf Tryd.prog 192 10 = some (10, 1) := by kernel_rfl
@[go_sem ↓] theorem fl_192 : plOf1 Tryd.prog 192 = true := by kernel_rfl
@[go_sem ↓] theorem sz_193 : Tryd.prog.cellsOf 193 = 11 := by kernel_rfl
@[go_sem ↓] theorem ag_193 : isAggU (Tryd.prog.underlying 193) = some true := by kernel_rfl
@[go_sem ↓] theorem if_193 : isIfU (Tryd.prog.underlying 193) = false := by kernel_rfl
@[go_sem ↓] theorem zr_193 : zrOf Tryd.prog 193 = some [(.int .u64 0), (.int .u64 0), (.int .u32 0), (.int .u8 0), (.int .u8 0), (.int .u8 0), (.int .u8 0), .nilFunc, (.pointer none), (.int .i32 0), (.int .i32 0)] := by kernel_rfl
@[go_sem ↓] theorem fo_193_0 : foOf Tryd.prog 193 0 = some 0 := by kernel_rfl
@[go_sem ↓] theorem pl_193_0 : plOf Tryd.prog 193 0 = some (0, 1) := by kernel_rfl
@[go_sem ↓] theorem fo_193_1 : foOf Tryd.prog 193 1 = some 1 := by kernel_rfl
@[go_sem ↓] theorem pl_193_1 : plOf Tryd.prog 193 1 = some (1, 1) := by kernel_rfl
@[go_sem ↓] theorem fo_193_2 : foOf Tryd.prog 193 2 = some 2 := by kernel_rfl
@[go_sem ↓] theorem pl_193_2 : plOf Tryd.prog 193 2 = some (2, 1) := by kernel_rfl
@[go_sem ↓] theorem fo_193_3 : foOf Tryd.prog 193 3 = some 3 := by kernel_rfl
@[go_sem ↓] theorem pl_193_3 : plOf Tryd.prog 193 3 = some (3, 1) := by kernel_rfl
@[go_sem ↓] theorem fo_193_4 : foOf Tryd.prog 193 4 = some 4 := by kernel_rfl
@[go_sem ↓] theorem pl_193_4 : plOf Tryd.prog 193 4 = some (4, 1) := by kernel_rfl
@[go_sem ↓] theorem fo_193_5 : foOf Tryd.prog 193 5 = some 5 := by kernel_rfl
@[go_sem ↓] theorem pl_193_5 : plOf Tryd.prog 193 5 = some (5, 1) := by kernel_rfl
@[go_sem ↓] theorem fo_193_6 : foOf Tryd.prog 193 6 = some 6 := by kernel_rfl
@[go_sem ↓] theorem pl_193_6 : plOf Tryd.prog 193 6 = some (6, 1) := by kernel_rfl
@[go_sem ↓] theorem fo_193_7 : foOf Tryd.prog 193 7 = some 7 := by kernel_rfl
@[go_sem ↓] theorem pl_193_7 : plOf Tryd.prog 193 7 = some (7, 1) := by kernel_rfl
@[go_sem ↓] theorem fo_193_8 : foOf Tryd.prog 193 8 = some 8 := by kernel_rfl
@[go_sem ↓] theorem pl_193_8 : plOf Tryd.prog 193 8 = some (8, 1) := by kernel_rfl
@[go_sem ↓] theorem fo_193_9 : foOf Tryd.prog 193 9 = some 9 := by kernel_rfl
@[go_sem ↓] theorem pl_193_9 : plOf Tryd.prog 193 9 = some (9, 1) := by kernel_rfl
@[go_sem ↓] theorem fo_193_10 : foOf Tryd.prog 193 10 = some 10 := by kernel_rfl
@[go_sem ↓] theorem pl_193_10 : plOf Tryd.prog 193 10 = some (10, 1) := by kernel_rfl
@[go_sem ↓] theorem fl_193 : plOf1 Tryd.prog 193 = true := by kernel_rfl
@[go_sem ↓] theorem sz_194 : Tryd.prog.cellsOf 194 = 1 := by kernel_rfl
@[go_sem ↓] theorem ag_194 : isAggU (Tryd.prog.underlying 194) = some false := by kernel_rfl
@[go_sem ↓] theorem zr_194 : zrOf Tryd.prog 194 = some [.nilFunc] := by kernel_rfl
@[go_sem ↓] theorem sz_195 : Tryd.prog.cellsOf 195 = 1 := by kernel_rfl
@[go_sem ↓] theorem ag_195 : isAggU (Tryd.prog.underlying 195) = some false := by kernel_rfl
@[go_sem ↓] theorem zr_195 : zrOf Tryd.prog 195 = some [.nilFunc] := by kernel_rfl
@[go_sem ↓] theorem sz_196 : Tryd.prog.cellsOf 196 = 2 := by kernel_rfl
@[go_sem ↓] theorem ag_196 : isAggU (Tryd.prog.underlying 196) = some true := by kernel_rfl
@[go_sem ↓] theorem zr_196 : zrOf Tryd.prog 196 = some [(.string ⟨#[]⟩), (.int .u8 0)] := by kernel_rfl
@[go_sem ↓] theorem fo_196_0 : foOf Tryd.prog 196 0 = some 0 := by kernel_rfl
@[go_sem ↓] theorem pl_196_0 : plOf Tryd.prog 196 0 = some (0, 1) := by kernel_rfl
@[go_sem ↓] theorem fo_196_1 : foOf Tryd.prog 196 1 = some 1 := by kernel_rfl
@[go_sem ↓] theorem pl_196_1 : plOf Tryd.prog 196 1 = some (1, 1) := by kernel_rfl
@[go_sem ↓] theorem fl_196 : plOf1 Tryd.prog 196 = true := by kernel_rfl
@[go_sem ↓] theorem sz_197 : Tryd.prog.cellsOf 197 = 2 := by kernel_rfl
@[go_sem ↓] theorem ag_197 : isAggU (Tryd.prog.underlying 197) = some true := by kernel_rfl
@[go_sem ↓] theorem if_197 : isIfU (Tryd.prog.underlying 197) = false := by kernel_rfl
@[go_sem ↓] theorem zr_197 : zrOf Tryd.prog 197 = some [(.string ⟨#[]⟩), (.int .u8 0)] := by kernel_rfl
@[go_sem ↓] theorem fo_197_0 : foOf Tryd.prog 197 0 = some 0 := by kernel_rfl
@[go_sem ↓] theorem pl_197_0 : plOf Tryd.prog 197 0 = some (0, 1) := by kernel_rfl
@[go_sem ↓] theorem fo_197_1 : foOf Tryd.prog 197 1 = some 1 := by kernel_rfl
@[go_sem ↓] theorem pl_197_1 : plOf Tryd.prog 197 1 = some (1, 1) := by kernel_rfl
@[go_sem ↓] theorem fl_197 : plOf1 Tryd.prog 197 = true := by kernel_rfl
@[go_sem ↓] theorem sz_198 : Tryd.prog.cellsOf 198 = 1 := by kernel_rfl
@[go_sem ↓] theorem ag_198 : isAggU (Tryd.prog.underlying 198) = some false := by kernel_rfl
@[go_sem ↓] theorem if_198 : isIfU (Tryd.prog.underlying 198) = false := by kernel_rfl
@[go_sem ↓] theorem zr_198 : zrOf Tryd.prog 198 = some [(.pointer none)] := by kernel_rfl
@[go_sem ↓] theorem sz_199 : Tryd.prog.cellsOf 199 = 1 := by kernel_rfl
@[go_sem ↓] theorem ag_199 : isAggU (Tryd.prog.underlying 199) = some false := by kernel_rfl
@[go_sem ↓] theorem zr_199 : zrOf Tryd.prog 199 = some [.nilFunc] := by kernel_rfl
@[go_sem ↓] theorem sz_200 : Tryd.prog.cellsOf 200 = 1 := by kernel_rfl
@[go_sem ↓] theorem ag_200 : isAggU (Tryd.prog.underlying 200) = some false := by kernel_rfl
@[go_sem ↓] theorem zr_200 : zrOf Tryd.prog 200 = some [(.int .u16 0)] := by kernel_rfl
@[go_sem ↓] theorem sz_201 : Tryd.prog.cellsOf 201 = 5 := by kernel_rfl
@[go_sem ↓] theorem ag_201 : isAggU (Tryd.prog.underlying 201) = some true := by kernel_rfl
@[go_sem ↓] theorem zr_201 : zrOf Tryd.prog 201 = some [(.int .i32 0), (.int .u16 0), (.int .u16 0), (.int .u32 0), (.int .u32 0)] := by kernel_rfl
@[go_sem ↓] theorem fo_201_0 : foOf Tryd.prog 201 0 = some 0 := by kernel_rfl
@[go_sem ↓] theorem pl_201_0 : plOf Tryd.prog 201 0 = some (0, 1) := by kernel_rfl
@[go_sem ↓] theorem fo_201_1 : foOf Tryd.prog 201 1 = some 1 := by kernel_rfl
@[go_sem ↓] theorem pl_201_1 : plOf Tryd.prog 201 1 = some (1, 1) := by kernel_rfl
@[go_sem ↓] theorem fo_201_2 : foOf Tryd.prog 201 2 = some 2 := by kernel_rfl
@[go_sem ↓] theorem pl_201_2 : plOf Tryd.prog 201 2 = some (2, 1) := by kernel_rfl
@[go_sem ↓] theorem fo_201_3 : foOf Tryd.prog 201 3 = some 3 := by kernel_rfl
@[go_sem ↓] theorem pl_201_3 : plOf Tryd.prog 201 3 = some (3, 1) := by kernel_rfl
@[go_sem ↓] theorem fo_201_4 : foOf Tryd.prog 201 4 = some 4 := by kernel_rfl
@[go_sem ↓] theorem pl_201_4 : plOf Tryd.prog 201 4 = some (4, 1) := by kernel_rfl
@[go_sem ↓] theorem fl_201 : plOf1 Tryd.prog 201 = true := by kernel_rfl
@[go_sem ↓] theorem sz_202 : Tryd.prog.cellsOf 202 = 5 := by kernel_rfl
@[go_sem ↓] theorem ag_202 : isAggU (Tryd.prog.underlying 202) = some true := by kernel_rfl
@[go_sem ↓] theorem if_202 : isIfU (Tryd.prog.underlying 202) = false := by kernel_rfl
@[go_sem ↓] theorem zr_202 : zrOf Tryd.prog 202 = some [(.int .i32 0), (.int .u16 0), (.int .u16 0), (.int .u32 0), (.int .u32 0)] := by kernel_rfl
@[go_sem ↓] theorem fo_202_0 : foOf Tryd.prog 202 0 = some 0 := by kernel_rfl
@[go_sem ↓] theorem pl_202_0 : plOf Tryd.prog 202 0 = some (0, 1) := by kernel_rfl
@[go_sem ↓] theorem fo_202_1 : foOf Tryd.prog 202 1 = some 1 := by kernel_rfl
@[go_sem ↓] theorem pl_202_1 : plOf Tryd.prog 202 1 = some (1, 1) := by kernel_rfl
@[go_sem ↓] theorem fo_202_2 : foOf Tryd.prog 202 2 = some 2 := by kernel_rfl
@[go_sem ↓] theorem pl_202_2 : plOf Tryd.prog 202 2 = some (2, 1) := by kernel_rfl
@[go_sem ↓] theorem fo_202_3 : foOf Tryd.prog 202 3 = some 3 := by kernel_rfl
@[go_sem ↓] theorem pl_202_3 : plOf Tryd.prog 202 3 = some (3, 1) := by kernel_rfl
@[go_sem ↓] theorem fo_202_4 : foOf Tryd.prog 202 4 = some 4 := by kernel_rfl
@[go_sem ↓] theorem pl_202_4 : plOf Tryd.prog 202 4 = some (4, 1) := by kernel_rfl
@[go_sem ↓] theorem fl_202 : plOf1 Tryd.prog 202 = true := by kernel_rfl
@[go_sem ↓] theorem sz_203 : Tryd.prog.cellsOf 203 = 1 := by kernel_rfl
@[go_sem ↓] theorem ag_203 : isAggU (Tryd.prog.underlying 203) = some false := by kernel_rfl
@[go_sem ↓] theorem es_203 : elSz Tryd.prog 203 = 4 := by kernel_rfl
@[go_sem ↓] theorem zr_203 : zrOf Tryd.prog 203 = some [(.slice none 0 0)] := by kernel_rfl
@[go_sem ↓] theorem sz_204 : Tryd.prog.cellsOf 204 = 1 := by kernel_rfl
@[go_sem ↓] theorem ag_204 : isAggU (Tryd.prog.underlying 204) = some false := by kernel_rfl
@[go_sem ↓] theorem if_204 : isIfU (Tryd.prog.underlying 204) = false := by kernel_rfl
@[go_sem ↓] theorem zr_204 : zrOf Tryd.prog 204 = some [(.int .i32 0)] := by kernel_rfl
@[go_sem ↓] theorem sz_205 : Tryd.prog.cellsOf 205 = 4 := by kernel_rfl
@[go_sem ↓] theorem ag_205 : isAggU (Tryd.prog.underlying 205) = some true := by kernel_rfl
@[go_sem ↓] theorem zr_205 : zrOf Tryd.prog 205 = some [(.int .i32 0), (.int .i32 0), (.int .i32 0), (.int .i32 0)] := by kernel_rfl
@[go_sem ↓] theorem fo_205_0 : foOf Tryd.prog 205 0 = some 0 := by kernel_rfl
@[go_sem ↓] theorem pl_205_0 : plOf Tryd.prog 205 0 = some (0, 1) := by kernel_rfl
@[go_sem ↓] theorem fo_205_1 : foOf Tryd.prog 205 1 = some 1 := by kernel_rfl
@[go_sem ↓] theorem pl_205_1 : plOf Tryd.prog 205 1 = some (1, 1) := by kernel_rfl
@[go_sem ↓] theorem fo_205_2 : foOf Tryd.prog 205 2 = some 2 := by kernel_rfl
@[go_sem ↓] theorem pl_205_2 : plOf Tryd.prog 205 2 = some (2, 1) := by kernel_rfl
@[go_sem ↓] theorem fo_205_3 : foOf Tryd.prog 205 3 = some 3 := by kernel_rfl
@[go_sem ↓] theorem pl_205_3 : plOf Tryd.prog 205 3 = some (3, 1) := by kernel_rfl
@[go_sem ↓] theorem fl_205 : plOf1 Tryd.prog 205 = true := by kernel_rfl
@[go_sem ↓] theorem sz_206 : Tryd.prog.cellsOf 206 = 4 := by kernel_rfl
@[go_sem ↓] theorem ag_206 : isAggU (Tryd.prog.underlying 206) = some true := by kernel_rfl
@[go_sem ↓] theorem if_206 : isIfU (Tryd.prog.underlying 206) = false := by kernel_rfl
@[go_sem ↓] theorem zr_206 : zrOf Tryd.prog 206 = some [(.int .i32 0), (.int .i32 0), (.int .i32 0), (.int .i32 0)] := by kernel_rfl
@[go_sem ↓] theorem fo_206_0 : foOf Tryd.prog 206 0 = some 0 := by kernel_rfl
@[go_sem ↓] theorem pl_206_0 : plOf Tryd.prog 206 0 = some (0, 1) := by kernel_rfl
@[go_sem ↓] theorem fo_206_1 : foOf Tryd.prog 206 1 = some 1 := by kernel_rfl
@[go_sem ↓] theorem pl_206_1 : plOf Tryd.prog 206 1 = some (1, 1) := by kernel_rfl
@[go_sem ↓] theorem fo_206_2 : foOf Tryd.prog 206 2 = some 2 := by kernel_rfl
@[go_sem ↓] theorem pl_206_2 : plOf Tryd.prog 206 2 = some (2, 1) := by kernel_rfl
@[go_sem ↓] theorem fo_206_3 : foOf Tryd.prog 206 3 = some 3 := by kernel_rfl
@[go_sem ↓] theorem pl_206_3 : plOf Tryd.prog 206 3 = some (3, 1) := by kernel_rfl
@[go_sem ↓] theorem fl_206 : plOf1 Tryd.prog 206 = true := by kernel_rfl
@[go_sem ↓] theorem sz_207 : Tryd.prog.cellsOf 207 = 1 := by kernel_rfl
@[go_sem ↓] theorem ag_207 : isAggU (Tryd.prog.underlying 207) = some false := by kernel_rfl
@[go_sem ↓] theorem if_207 : isIfU (Tryd.prog.underlying 207) = false := by kernel_rfl
@[go_sem ↓] theorem zr_207 : zrOf Tryd.prog 207 = some [(.pointer none)] := by kernel_rfl
@[go_sem] theorem sl_22 {H : AH} {b o len cap : Nat} {lo hi : Option Value} {K : Value → Prop} : rdop Tryd.prog H (Instr.sliceAt 22 (.slice (some ⟨b, o, none⟩) len cap) lo hi none) K = bnd len hi cap fun h => bnd 0 lo h fun l => nv (.slice (some ⟨b, if cap = l then o else o + l * Tryd.prog.cellsOf 37, none⟩) (h - l) (cap - l)) K := rdop_slice_sl Tryd.underlying22 (by rw [sz_37]; simp)
@[go_sem] theorem sc_22 {H : AH} {a : Option Addr} {len cap : Nat} {hi mx : Value} {K : Value → Prop} : rdop Tryd.prog H (Instr.sliceAt 22 (.slice a len cap) none (some hi) (some mx)) K = bnd cap (some mx) cap fun m => bnd len (some hi) m fun h => nv (.slice a h m) K := rdop_clip Tryd.underlying22 (by rw [sz_37]; simp)
@[go_sem] theorem sn_22 {H : AH} {len cap : Nat} {lo hi : Option Value} {K : Value → Prop} : rdop Tryd.prog H (Instr.sliceAt 22 (.slice none len cap) lo hi none) K = bnd len hi cap fun h => bnd 0 lo h fun l => nv (.slice none (h - l) (cap - l)) K := rdop_slice_nil Tryd.underlying22 (by rw [sz_37]; simp)
@[go_sem] theorem sl_26 {H : AH} {b o len cap : Nat} {lo hi : Option Value} {K : Value → Prop} : rdop Tryd.prog H (Instr.sliceAt 26 (.slice (some ⟨b, o, none⟩) len cap) lo hi none) K = bnd len hi cap fun h => bnd 0 lo h fun l => nv (.slice (some ⟨b, if cap = l then o else o + l * Tryd.prog.cellsOf 56, none⟩) (h - l) (cap - l)) K := rdop_slice_sl Tryd.underlying26 (by rw [sz_56]; simp)
@[go_sem] theorem sc_26 {H : AH} {a : Option Addr} {len cap : Nat} {hi mx : Value} {K : Value → Prop} : rdop Tryd.prog H (Instr.sliceAt 26 (.slice a len cap) none (some hi) (some mx)) K = bnd cap (some mx) cap fun m => bnd len (some hi) m fun h => nv (.slice a h m) K := rdop_clip Tryd.underlying26 (by rw [sz_56]; simp)
@[go_sem] theorem sn_26 {H : AH} {len cap : Nat} {lo hi : Option Value} {K : Value → Prop} : rdop Tryd.prog H (Instr.sliceAt 26 (.slice none len cap) lo hi none) K = bnd len hi cap fun h => bnd 0 lo h fun l => nv (.slice none (h - l) (cap - l)) K := rdop_slice_nil Tryd.underlying26 (by rw [sz_56]; simp)
@[go_sem] theorem sl_31 {H : AH} {b o : Nat} {lo hi : Option Value} {K : Value → Prop} : rdop Tryd.prog H (Instr.sliceAt 31 (.pointer (some ⟨b, o, none⟩)) lo hi none) K = bnd 4 hi 4 fun h => bnd 0 lo h fun l => nv (.slice (some ⟨b, if 4 = l then o else o + l * Tryd.prog.cellsOf 5, none⟩) (h - l) (4 - l)) K := rdop_slice_arr Tryd.underlying31 (by rw [sz_5]; simp)
@[go_sem] theorem ix_31 {H : AH} {cs : Array Value} {k : IntKind} {i : Int} {K : Value → Prop} : rdop Tryd.prog H (Instr.index 31 (.agg cs) (.int k i)) K = (0 ≤ i ∧ i < (4 : Nat) ∧ wo cs[i.toNat * Tryd.prog.cellsOf 5]? fun v => nv v K) := rdop_index_arr Tryd.underlying31 (by rw [sz_5]; simp) ag_5
@[go_sem] theorem sl_32 {H : AH} {b o : Nat} {lo hi : Option Value} {K : Value → Prop} : rdop Tryd.prog H (Instr.sliceAt 32 (.pointer (some ⟨b, o, none⟩)) lo hi none) K = bnd 4 hi 4 fun h => bnd 0 lo h fun l => nv (.slice (some ⟨b, if 4 = l then o else o + l * Tryd.prog.cellsOf 5, none⟩) (h - l) (4 - l)) K := rdop_slice_arr Tryd.underlying32 (by rw [sz_5]; simp)
@[go_sem] theorem ix_32 {H : AH} {cs : Array Value} {k : IntKind} {i : Int} {K : Value → Prop} : rdop Tryd.prog H (Instr.index 32 (.agg cs) (.int k i)) K = (0 ≤ i ∧ i < (4 : Nat) ∧ wo cs[i.toNat * Tryd.prog.cellsOf 5]? fun v => nv v K) := rdop_index_arr Tryd.underlying32 (by rw [sz_5]; simp) ag_5
@[go_sem] theorem sl_33 {H : AH} {b o len cap : Nat} {lo hi : Option Value} {K : Value → Prop} : rdop Tryd.prog H (Instr.sliceAt 33 (.slice (some ⟨b, o, none⟩) len cap) lo hi none) K = bnd len hi cap fun h => bnd 0 lo h fun l => nv (.slice (some ⟨b, if cap = l then o else o + l * Tryd.prog.cellsOf 32, none⟩) (h - l) (cap - l)) K := rdop_slice_sl Tryd.underlying33 (by rw [sz_32]; simp)
@[go_sem] theorem sc_33 {H : AH} {a : Option Addr} {len cap : Nat} {hi mx : Value} {K : Value → Prop} : rdop Tryd.prog H (Instr.sliceAt 33 (.slice a len cap) none (some hi) (some mx)) K = bnd cap (some mx) cap fun m => bnd len (some hi) m fun h => nv (.slice a h m) K := rdop_clip Tryd.underlying33 (by rw [sz_32]; simp)
@[go_sem] theorem sn_33 {H : AH} {len cap : Nat} {lo hi : Option Value} {K : Value → Prop} : rdop Tryd.prog H (Instr.sliceAt 33 (.slice none len cap) lo hi none) K = bnd len hi cap fun h => bnd 0 lo h fun l => nv (.slice none (h - l) (cap - l)) K := rdop_slice_nil Tryd.underlying33 (by rw [sz_32]; simp)
@[go_sem] theorem sl_81 {H : AH} {b o len cap : Nat} {lo hi : Option Value} {K : Value → Prop} : rdop Tryd.prog H (Instr.sliceAt 81 (.slice (some ⟨b, o, none⟩) len cap) lo hi none) K = bnd len hi cap fun h => bnd 0 lo h fun l => nv (.slice (some ⟨b, if cap = l then o else o + l * Tryd.prog.cellsOf 3, none⟩) (h - l) (cap - l)) K := rdop_slice_sl Tryd.underlying81 (by rw [sz_3]; simp)
@[go_sem] theorem sc_81 {H : AH} {a : Option Addr} {len cap : Nat} {hi mx : Value} {K : Value → Prop} : rdop Tryd.prog H (Instr.sliceAt 81 (.slice a len cap) none (some hi) (some mx)) K = bnd cap (some mx) cap fun m => bnd len (some hi) m fun h => nv (.slice a h m) K := rdop_clip Tryd.underlying81 (by rw [sz_3]; simp)
@[go_sem] theorem sn_81 {H : AH} {len cap : Nat} {lo hi : Option Value} {K : Value → Prop} : rdop Tryd.prog H (Instr.sliceAt 81 (.slice none len cap) lo hi none) K = bnd len hi cap fun h => bnd 0 lo h fun l => nv (.slice none (h - l) (cap - l)) K := rdop_slice_nil Tryd.underlying81 (by rw [sz_3]; simp)
@[go_sem] theorem sl_91 {H : AH} {b o : Nat} {lo hi : Option Value} {K : Value → Prop} : rdop Tryd.prog H (Instr.sliceAt 91 (.pointer (some ⟨b, o, none⟩)) lo hi none) K = bnd 5 hi 5 fun h => bnd 0 lo h fun l => nv (.slice (some ⟨b, if 5 = l then o else o + l * Tryd.prog.cellsOf 5, none⟩) (h - l) (5 - l)) K := rdop_slice_arr Tryd.underlying91 (by rw [sz_5]; simp)
@[go_sem] theorem ix_91 {H : AH} {cs : Array Value} {k : IntKind} {i : Int} {K : Value → Prop} : rdop Tryd.prog H (Instr.index 91 (.agg cs) (.int k i)) K = (0 ≤ i ∧ i < (5 : Nat) ∧ wo cs[i.toNat * Tryd.prog.cellsOf 5]? fun v => nv v K) := rdop_index_arr Tryd.underlying91 (by rw [sz_5]; simp) ag_5
@[go_sem] theorem sl_111 {H : AH} {b o : Nat} {lo hi : Option Value} {K : Value → Prop} : rdop Tryd.prog H (Instr.sliceAt 111 (.pointer (some ⟨b, o, none⟩)) lo hi none) K = bnd 2 hi 2 fun h => bnd 0 lo h fun l => nv (.slice (some ⟨b, if 2 = l then o else o + l * Tryd.prog.cellsOf 5, none⟩) (h - l) (2 - l)) K := rdop_slice_arr Tryd.underlying111 (by rw [sz_5]; simp)
@[go_sem] theorem ix_111 {H : AH} {cs : Array Value} {k : IntKind} {i : Int} {K : Value → Prop} : rdop Tryd.prog H (Instr.index 111 (.agg cs) (.int k i)) K = (0 ≤ i ∧ i < (2 : Nat) ∧ wo cs[i.toNat * Tryd.prog.cellsOf 5]? fun v => nv v K) := rdop_index_arr Tryd.underlying111 (by rw [sz_5]; simp) ag_5
@[go_sem] theorem sl_115 {H : AH} {b o len cap : Nat} {lo hi : Option Value} {K : Value → Prop} : rdop Tryd.prog H (Instr.sliceAt 115 (.slice (some ⟨b, o, none⟩) len cap) lo hi none) K = bnd len hi cap fun h => bnd 0 lo h fun l => nv (.slice (some ⟨b, if cap = l then o else o + l * Tryd.prog.cellsOf 5, none⟩) (h - l) (cap - l)) K := rdop_slice_sl Tryd.underlying115 (by rw [sz_5]; simp)
@[go_sem] theorem sc_115 {H : AH} {a : Option Addr} {len cap : Nat} {hi mx : Value} {K : Value → Prop} : rdop Tryd.prog H (Instr.sliceAt 115 (.slice a len cap) none (some hi) (some mx)) K = bnd cap (some mx) cap fun m => bnd len (some hi) m fun h => nv (.slice a h m) K := rdop_clip Tryd.underlying115 (by rw [sz_5]; simp)
@[go_sem] theorem sn_115 {H : AH} {len cap : Nat} {lo hi : Option Value} {K : Value → Prop} : rdop Tryd.prog H (Instr.sliceAt 115 (.slice none len cap) lo hi none) K = bnd len hi cap fun h => bnd 0 lo h fun l => nv (.slice none (h - l) (cap - l)) K := rdop_slice_nil Tryd.underlying115 (by rw [sz_5]; simp)
@[go_sem] theorem sl_131 {H : AH} {b o len cap : Nat} {lo hi : Option Value} {K : Value → Prop} : rdop Tryd.prog H (Instr.sliceAt 131 (.slice (some ⟨b, o, none⟩) len cap) lo hi none) K = bnd len hi cap fun h => bnd 0 lo h fun l => nv (.slice (some ⟨b, if cap = l then o else o + l * Tryd.prog.cellsOf 70, none⟩) (h - l) (cap - l)) K := rdop_slice_sl Tryd.underlying131 (by rw [sz_70]; simp)
@[go_sem] theorem sc_131 {H : AH} {a : Option Addr} {len cap : Nat} {hi mx : Value} {K : Value → Prop} : rdop Tryd.prog H (Instr.sliceAt 131 (.slice a len cap) none (some hi) (some mx)) K = bnd cap (some mx) cap fun m => bnd len (some hi) m fun h => nv (.slice a h m) K := rdop_clip Tryd.underlying131 (by rw [sz_70]; simp)
@[go_sem] theorem sn_131 {H : AH} {len cap : Nat} {lo hi : Option Value} {K : Value → Prop} : rdop Tryd.prog H (Instr.sliceAt 131 (.slice none len cap) lo hi none) K = bnd len hi cap fun h => bnd 0 lo h fun l => nv (.slice none (h - l) (cap - l)) K := rdop_slice_nil Tryd.underlying131 (by rw [sz_70]; simp)
@[go_sem] theorem sl_203 {H : AH} {b o len cap : Nat} {lo hi : Option Value} {K : Value → Prop} : rdop Tryd.prog H (Instr.sliceAt 203 (.slice (some ⟨b, o, none⟩) len cap) lo hi none) K = bnd len hi cap fun h => bnd 0 lo h fun l => nv (.slice (some ⟨b, if cap = l then o else o + l * Tryd.prog.cellsOf 206, none⟩) (h - l) (cap - l)) K := rdop_slice_sl Tryd.underlying203 (by rw [sz_206]; simp)
@[go_sem] theorem sc_203 {H : AH} {a : Option Addr} {len cap : Nat} {hi mx : Value} {K : Value → Prop} : rdop Tryd.prog H (Instr.sliceAt 203 (.slice a len cap) none (some hi) (some mx)) K = bnd cap (some mx) cap fun m => bnd len (some hi) m fun h => nv (.slice a h m) K := rdop_clip Tryd.underlying203 (by rw [sz_206]; simp)
@[go_sem] theorem sn_203 {H : AH} {len cap : Nat} {lo hi : Option Value} {K : Value → Prop} : rdop Tryd.prog H (Instr.sliceAt 203 (.slice none len cap) lo hi none) K = bnd len hi cap fun h => bnd 0 lo h fun l => nv (.slice none (h - l) (cap - l)) K := rdop_slice_nil Tryd.underlying203 (by rw [sz_206]; simp)
@[go_sem] theorem fd_7_0 {H : AH} {cs : Array Value} {K : Value → Prop} : rdop Tryd.prog H (Instr.field 7 (.agg cs) 0) K = wo cs[0]? fun v => nv v K := rdop_fieldF (show fdOf Tryd.prog 7 0 = some (0, 1, false) by kernel_rfl)
@[go_sem] theorem fd_7_1 {H : AH} {cs : Array Value} {K : Value → Prop} : rdop Tryd.prog H (Instr.field 7 (.agg cs) 1) K = wo cs[1]? fun v => nv v K := rdop_fieldF (show fdOf Tryd.prog 7 1 = some (1, 1, false) by kernel_rfl)
@[go_sem] theorem fd_7_2 {H : AH} {cs : Array Value} {K : Value → Prop} : rdop Tryd.prog H (Instr.field 7 (.agg cs) 2) K = wo cs[2]? fun v => nv v K := rdop_fieldF (show fdOf Tryd.prog 7 2 = some (2, 1, false) by kernel_rfl)
@[go_sem] theorem fd_7_3 {H : AH} {cs : Array Value} {K : Value → Prop} : rdop Tryd.prog H (Instr.field 7 (.agg cs) 3) K = wo cs[3]? fun v => nv v K := rdop_fieldF (show fdOf Tryd.prog 7 3 = some (3, 1, false) by kernel_rfl)
@[go_sem] theorem fd_8_0 {H : AH} {cs : Array Value} {K : Value → Prop} : rdop Tryd.prog H (Instr.field 8 (.agg cs) 0) K = wo cs[0]? fun v => nv v K := rdop_fieldF (show fdOf Tryd.prog 8 0 = some (0, 1, false) by kernel_rfl)
@[go_sem] theorem fd_8_1 {H : AH} {cs : Array Value} {K : Value → Prop} : rdop Tryd.prog H (Instr.field 8 (.agg cs) 1) K = wo cs[1]? fun v => nv v K := rdop_fieldF (show fdOf Tryd.prog 8 1 = some (1, 1, false) by kernel_rfl)
@[go_sem] theorem fd_8_2 {H : AH} {cs : Array Value} {K : Value → Prop} : rdop Tryd.prog H (Instr.field 8 (.agg cs) 2) K = wo cs[2]? fun v => nv v K := rdop_fieldF (show fdOf Tryd.prog 8 2 = some (2, 1, false) by kernel_rfl)
@[go_sem] theorem fd_8_3 {H : AH} {cs : Array Value} {K : Value → Prop} : rdop Tryd.prog H (Instr.field 8 (.agg cs) 3) K = wo cs[3]? fun v => nv v K := rdop_fieldF (show fdOf Tryd.prog 8 3 = some (3, 1, false) by kernel_rfl)
@[go_sem] theorem fd_13_0 {H : AH} {cs : Array Value} {K : Value → Prop} : rdop Tryd.prog H (Instr.field 13 (.agg cs) 0) K = wo cs[0]? fun v => nv v K := rdop_fieldF (show fdOf Tryd.prog 13 0 = some (0, 1, false) by kernel_rfl)
@[go_sem] theorem fd_13_1 {H : AH} {cs : Array Value} {K : Value → Prop} : rdop Tryd.prog H (Instr.field 13 (.agg cs) 1) K = wo cs[1]? fun v => nv v K := rdop_fieldF (show fdOf Tryd.prog 13 1 = some (1, 1, false) by kernel_rfl)
@[go_sem] theorem fd_14_0 {H : AH} {cs : Array Value} {K : Value → Prop} : rdop Tryd.prog H (Instr.field 14 (.agg cs) 0) K = wo cs[0]? fun v => nv v K := rdop_fieldF (show fdOf Tryd.prog 14 0 = some (0, 1, false) by kernel_rfl)
@[go_sem] theorem fd_14_1 {H : AH} {cs : Array Value} {K : Value → Prop} : rdop Tryd.prog H (Instr.field 14 (.agg cs) 1) K = wo cs[1]? fun v => nv v K := rdop_fieldF (show fdOf Tryd.prog 14 1 = some (1, 1, false) by kernel_rfl)
@[go_sem] theorem fd_18_0 {H : AH} {cs : Array Value} {K : Value → Prop} : rdop Tryd.prog H (Instr.field 18 (.agg cs) 0) K = wo cs[0]? fun v => nv v K := rdop_fieldF (show fdOf Tryd.prog 18 0 = some (0, 1, false) by kernel_rfl)
@[go_sem] theorem fd_19_0 {H : AH} {cs : Array Value} {K : Value → Prop} : rdop Tryd.prog H (Instr.field 19 (.agg cs) 0) K = wo cs[0]? fun v => nv v K := rdop_fieldF (show fdOf Tryd.prog 19 0 = some (0, 1, false) by kernel_rfl)
@[go_sem ↓] theorem se_22 : slE Tryd.prog 22 = some (37, 10, [(.int .u8 0), (.int .i64 0), (.int .i64 0), (.int .i64 0), (.int .u8 0), (.int .u8 0), (.int .u8 0), (.int .u8 0), (.int .i64 0), (.slice none 0 0)], 72) := by kernel_rfl
@[go_sem ↓] theorem se_26 : slE Tryd.prog 26 = some (56, 3, [(.int .i64 0), (.int .i64 0), (.slice none 0 0)], 40) := by kernel_rfl
@[go_sem] theorem fd_27_0 {H : AH} {cs : Array Value} {K : Value → Prop} : rdop Tryd.prog H (Instr.field 27 (.agg cs) 0) K = wo cs[0]? fun v => nv v K := rdop_fieldF (show fdOf Tryd.prog 27 0 = some (0, 1, false) by kernel_rfl)
@[go_sem] theorem fd_27_1 {H : AH} {cs : Array Value} {K : Value → Prop} : rdop Tryd.prog H (Instr.field 27 (.agg cs) 1) K = wo cs[1]? fun v => nv v K := rdop_fieldF (show fdOf Tryd.prog 27 1 = some (1, 1, false) by kernel_rfl)
@[go_sem] theorem fd_28_0 {H : AH} {cs : Array Value} {K : Value → Prop} : rdop Tryd.prog H (Instr.field 28 (.agg cs) 0) K = wo cs[0]? fun v => nv v K := rdop_fieldF (show fdOf Tryd.prog 28 0 = some (0, 1, false) by kernel_rfl)
@[go_sem] theorem fd_28_1 {H : AH} {cs : Array Value} {K : Value → Prop} : rdop Tryd.prog H (Instr.field 28 (.agg cs) 1) K = wo cs[1]? fun v => nv v K := rdop_fieldF (show fdOf Tryd.prog 28 1 = some (1, 1, false) by kernel_rfl)
@[go_sem] theorem fd_29_0 {H : AH} {cs : Array Value} {K : Value → Prop} : rdop Tryd.prog H (Instr.field 29 (.agg cs) 0) K = wo cs[0]? fun v => nv v K := rdop_fieldF (show fdOf Tryd.prog 29 0 = some (0, 1, false) by kernel_rfl)
@[go_sem] theorem fd_29_1 {H : AH} {cs : Array Value} {K : Value → Prop} : rdop Tryd.prog H (Instr.field 29 (.agg cs) 1) K = wo cs[1]? fun v => nv v K := rdop_fieldF (show fdOf Tryd.prog 29 1 = some (1, 1, false) by kernel_rfl)
@[go_sem] theorem fd_29_2 {H : AH} {cs : Array Value} {K : Value → Prop} : rdop Tryd.prog H (Instr.field 29 (.agg cs) 2) K = wo cs[2]? fun v => nv v K := rdop_fieldF (show fdOf Tryd.prog 29 2 = some (2, 1, false) by kernel_rfl)
@[go_sem] theorem fd_30_0 {H : AH} {cs : Array Value} {K : Value → Prop} : rdop Tryd.prog H (Instr.field 30 (.agg cs) 0) K = wo cs[0]? fun v => nv v K := rdop_fieldF (show fdOf Tryd.prog 30 0 = some (0, 1, false) by kernel_rfl)
@[go_sem] theorem fd_30_1 {H : AH} {cs : Array Value} {K : Value → Prop} : rdop Tryd.prog H (Instr.field 30 (.agg cs) 1) K = wo cs[1]? fun v => nv v K := rdop_fieldF (show fdOf Tryd.prog 30 1 = some (1, 1, false) by kernel_rfl)
@[go_sem] theorem fd_30_2 {H : AH} {cs : Array Value} {K : Value → Prop} : rdop Tryd.prog H (Instr.field 30 (.agg cs) 2) K = wo cs[2]? fun v => nv v K := rdop_fieldF (show fdOf Tryd.prog 30 2 = some (2, 1, false) by kernel_rfl)
@[go_sem ↓] theorem se_33 : slE Tryd.prog 33 = some (32, 4, [(.int .u8 0), (.int .u8 0), (.int .u8 0), (.int .u8 0)], 4) := by kernel_rfl
@[go_sem] theorem fd_34_0 {H : AH} {cs : Array Value} {K : Value → Prop} : rdop Tryd.prog H (Instr.field 34 (.agg cs) 0) K = wo cs[0]? fun v => nv v K := rdop_fieldF (show fdOf Tryd.prog 34 0 = some (0, 1, false) by kernel_rfl)
@[go_sem] theorem fd_34_1 {H : AH} {cs : Array Value} {K : Value → Prop} : rdop Tryd.prog H (Instr.field 34 (.agg cs) 1) K = wo cs[1]? fun v => nv v K := rdop_fieldF (show fdOf Tryd.prog 34 1 = some (1, 1, false) by kernel_rfl)
@[go_sem] theorem fd_35_0 {H : AH} {cs : Array Value} {K : Value → Prop} : rdop Tryd.prog H (Instr.field 35 (.agg cs) 0) K = wo cs[0]? fun v => nv v K := rdop_fieldF (show fdOf Tryd.prog 35 0 = some (0, 1, false) by kernel_rfl)
@[go_sem] theorem fd_35_1 {H : AH} {cs : Array Value} {K : Value → Prop} : rdop Tryd.prog H (Instr.field 35 (.agg cs) 1) K = wo cs[1]? fun v => nv v K := rdop_fieldF (show fdOf Tryd.prog 35 1 = some (1, 1, false) by kernel_rfl)
@[go_sem] theorem fd_36_0 {H : AH} {cs : Array Value} {K : Value → Prop} : rdop Tryd.prog H (Instr.field 36 (.agg cs) 0) K = wo cs[0]? fun v => nv v K := rdop_fieldF (show fdOf Tryd.prog 36 0 = some (0, 1, false) by kernel_rfl)
@[go_sem] theorem fd_36_1 {H : AH} {cs : Array Value} {K : Value → Prop} : rdop Tryd.prog H (Instr.field 36 (.agg cs) 1) K = nv (.agg (cs.extract 1 4)) K := rdop_fieldT (show fdOf Tryd.prog 36 1 = some (1, 3, true) by kernel_rfl) (by simp)
@[go_sem] theorem fd_36_2 {H : AH} {cs : Array Value} {K : Value → Prop} : rdop Tryd.prog H (Instr.field 36 (.agg cs) 2) K = nv (.agg (cs.extract 4 8)) K := rdop_fieldT (show fdOf Tryd.prog 36 2 = some (4, 4, true) by kernel_rfl) (by simp)
@[go_sem] theorem fd_36_3 {H : AH} {cs : Array Value} {K : Value → Prop} : rdop Tryd.prog H (Instr.field 36 (.agg cs) 3) K = nv (.agg (cs.extract 8 10)) K := rdop_fieldT (show fdOf Tryd.prog 36 3 = some (8, 2, true) by kernel_rfl) (by simp)
@[go_sem] theorem fd_37_0 {H : AH} {cs : Array Value} {K : Value → Prop} : rdop Tryd.prog H (Instr.field 37 (.agg cs) 0) K = wo cs[0]? fun v => nv v K := rdop_fieldF (show fdOf Tryd.prog 37 0 = some (0, 1, false) by kernel_rfl)
@[go_sem] theorem fd_37_1 {H : AH} {cs : Array Value} {K : Value → Prop} : rdop Tryd.prog H (Instr.field 37 (.agg cs) 1) K = nv (.agg (cs.extract 1 4)) K := rdop_fieldT (show fdOf Tryd.prog 37 1 = some (1, 3, true) by kernel_rfl) (by simp)
@[go_sem] theorem fd_37_2 {H : AH} {cs : Array Value} {K : Value → Prop} : rdop Tryd.prog H (Instr.field 37 (.agg cs) 2) K = nv (.agg (cs.extract 4 8)) K := rdop_fieldT (show fdOf Tryd.prog 37 2 = some (4, 4, true) by kernel_rfl) (by simp)
@[go_sem] theorem fd_37_3 {H : AH} {cs : Array Value} {K : Value → Prop} : rdop Tryd.prog H (Instr.field 37 (.agg cs) 3) K = nv (.agg (cs.extract 8 10)) K := rdop_fieldT (show fdOf Tryd.prog 37 3 = some (8, 2, true) by kernel_rfl) (by simp)
@[go_sem] theorem fd_55_0 {H : AH} {cs : Array Value} {K : Value → Prop} : rdop Tryd.prog H (Instr.field 55 (.agg cs) 0) K = wo cs[0]? fun v => nv v K := rdop_fieldF (show fdOf Tryd.prog 55 0 = some (0, 1, false) by kernel_rfl)
@[go_sem] theorem fd_55_1 {H : AH} {cs : Array Value} {K : Value → Prop} : rdop Tryd.prog H (Instr.field 55 (.agg cs) 1) K = nv (.agg (cs.extract 1 3)) K := rdop_fieldT (show fdOf Tryd.prog 55 1 = some (1, 2, true) by kernel_rfl) (by simp)
@[go_sem] theorem fd_56_0 {H : AH} {cs : Array Value} {K : Value → Prop} : rdop Tryd.prog H (Instr.field 56 (.agg cs) 0) K = wo cs[0]? fun v => nv v K := rdop_fieldF (show fdOf Tryd.prog 56 0 = some (0, 1, false) by kernel_rfl)
@[go_sem] theorem fd_56_1 {H : AH} {cs : Array Value} {K : Value → Prop} : rdop Tryd.prog H (Instr.field 56 (.agg cs) 1) K = nv (.agg (cs.extract 1 3)) K := rdop_fieldT (show fdOf Tryd.prog 56 1 = some (1, 2, true) by kernel_rfl) (by simp)
@[go_sem ↓] theorem me_62 : mpE Tryd.prog 62 = some (.int .i64, (.int .u8 0)) := by kernel_rfl
@[go_sem ↓] theorem me_64 : mpE Tryd.prog 64 = some (.int .i64, .agg #[(.int .i64 0), (.slice none 0 0)]) := by kernel_rfl
@[go_sem] theorem fd_65_0 {H : AH} {cs : Array Value} {K : Value → Prop} : rdop Tryd.prog H (Instr.field 65 (.agg cs) 0) K = wo cs[0]? fun v => nv v K := rdop_fieldF (show fdOf Tryd.prog 65 0 = some (0, 1, false) by kernel_rfl)
@[go_sem] theorem fd_65_1 {H : AH} {cs : Array Value} {K : Value → Prop} : rdop Tryd.prog H (Instr.field 65 (.agg cs) 1) K = wo cs[1]? fun v => nv v K := rdop_fieldF (show fdOf Tryd.prog 65 1 = some (1, 1, false) by kernel_rfl)
@[go_sem] theorem fd_66_0 {H : AH} {cs : Array Value} {K : Value → Prop} : rdop Tryd.prog H (Instr.field 66 (.agg cs) 0) K = wo cs[0]? fun v => nv v K := rdop_fieldF (show fdOf Tryd.prog 66 0 = some (0, 1, false) by kernel_rfl)
@[go_sem] theorem fd_66_1 {H : AH} {cs : Array Value} {K : Value → Prop} : rdop Tryd.prog H (Instr.field 66 (.agg cs) 1) K = wo cs[1]? fun v => nv v K := rdop_fieldF (show fdOf Tryd.prog 66 1 = some (1, 1, false) by kernel_rfl)
@[go_sem ↓] theorem se_81 : slE Tryd.prog 81 = some (3, 1, [(.int .i64 0)], 8) := by kernel_rfl
@[go_sem] theorem fd_98_0 {H : AH} {cs : Array Value} {K : Value → Prop} : rdop Tryd.prog H (Instr.field 98 (.agg cs) 0) K = wo cs[0]? fun v => nv v K := rdop_fieldF (show fdOf Tryd.prog 98 0 = some (0, 1, false) by kernel_rfl)
@[go_sem] theorem fd_98_1 {H : AH} {cs : Array Value} {K : Value → Prop} : rdop Tryd.prog H (Instr.field 98 (.agg cs) 1) K = wo cs[1]? fun v => nv v K := rdop_fieldF (show fdOf Tryd.prog 98 1 = some (1, 1, false) by kernel_rfl)
@[go_sem] theorem fd_99_0 {H : AH} {cs : Array Value} {K : Value → Prop} : rdop Tryd.prog H (Instr.field 99 (.agg cs) 0) K = wo cs[0]? fun v => nv v K := rdop_fieldF (show fdOf Tryd.prog 99 0 = some (0, 1, false) by kernel_rfl)
@[go_sem] theorem fd_99_1 {H : AH} {cs : Array Value} {K : Value → Prop} : rdop Tryd.prog H (Instr.field 99 (.agg cs) 1) K = wo cs[1]? fun v => nv v K := rdop_fieldF (show fdOf Tryd.prog 99 1 = some (1, 1, false) by kernel_rfl)
@[go_sem ↓] theorem se_115 : slE Tryd.prog 115 = some (5, 1, [(.int .u8 0)], 1) := by kernel_rfl
@[go_sem] theorem fd_117_0 {H : AH} {cs : Array Value} {K : Value → Prop} : rdop Tryd.prog H (Instr.field 117 (.agg cs) 0) K = wo cs[0]? fun v => nv v K := rdop_fieldF (show fdOf Tryd.prog 117 0 = some (0, 1, false) by kernel_rfl)
@[go_sem] theorem fd_118_0 {H : AH} {cs : Array Value} {K : Value → Prop} : rdop Tryd.prog H (Instr.field 118 (.agg cs) 0) K = wo cs[0]? fun v => nv v K := rdop_fieldF (show fdOf Tryd.prog 118 0 = some (0, 1, false) by kernel_rfl)
@[go_sem] theorem fd_122_0 {H : AH} {cs : Array Value} {K : Value → Prop} : rdop Tryd.prog H (Instr.field 122 (.agg cs) 0) K = wo cs[0]? fun v => nv v K := rdop_fieldF (show fdOf Tryd.prog 122 0 = some (0, 1, false) by kernel_rfl)
@[go_sem] theorem fd_123_0 {H : AH} {cs : Array Value} {K : Value → Prop} : rdop Tryd.prog H (Instr.field 123 (.agg cs) 0) K = wo cs[0]? fun v => nv v K := rdop_fieldF (show fdOf Tryd.prog 123 0 = some (0, 1, false) by kernel_rfl)
@[go_sem ↓] theorem se_131 : slE Tryd.prog 131 = some (70, 1, [.nilIface], 16) := by kernel_rfl
@[go_sem] theorem fd_135_0 {H : AH} {cs : Array Value} {K : Value → Prop} : rdop Tryd.prog H (Instr.field 135 (.agg cs) 0) K = wo cs[0]? fun v => nv v K := rdop_fieldF (show fdOf Tryd.prog 135 0 = some (0, 1, false) by kernel_rfl)
@[go_sem] theorem fd_135_1 {H : AH} {cs : Array Value} {K : Value → Prop} : rdop Tryd.prog H (Instr.field 135 (.agg cs) 1) K = wo cs[1]? fun v => nv v K := rdop_fieldF (show fdOf Tryd.prog 135 1 = some (1, 1, false) by kernel_rfl)
@[go_sem] theorem fd_135_2 {H : AH} {cs : Array Value} {K : Value → Prop} : rdop Tryd.prog H (Instr.field 135 (.agg cs) 2) K = wo cs[2]? fun v => nv v K := rdop_fieldF (show fdOf Tryd.prog 135 2 = some (2, 1, false) by kernel_rfl)
@[go_sem] theorem fd_136_0 {H : AH} {cs : Array Value} {K : Value → Prop} : rdop Tryd.prog H (Instr.field 136 (.agg cs) 0) K = wo cs[0]? fun v => nv v K := rdop_fieldF (show fdOf Tryd.prog 136 0 = some (0, 1, false) by kernel_rfl)
@[go_sem] theorem fd_136_1 {H : AH} {cs : Array Value} {K : Value → Prop} : rdop Tryd.prog H (Instr.field 136 (.agg cs) 1) K = wo cs[1]? fun v => nv v K := rdop_fieldF (show fdOf Tryd.prog 136 1 = some (1, 1, false) by kernel_rfl)
@[go_sem] theorem fd_136_2 {H : AH} {cs : Array Value} {K : Value → Prop} : rdop Tryd.prog H (Instr.field 136 (.agg cs) 2) K = wo cs[2]? fun v => nv v K := rdop_fieldF (show fdOf Tryd.prog 136 2 = some (2, 1, false) by kernel_rfl)
@[go_sem] theorem fd_181_0 {H : AH} {cs : Array Value} {K : Value → Prop} : rdop Tryd.prog H (Instr.field 181 (.agg cs) 0) K = wo cs[0]? fun v => nv v K := rdop_fieldF (show fdOf Tryd.prog 181 0 = some (0, 1, false) by kernel_rfl)
@[go_sem] theorem fd_181_1 {H : AH} {cs : Array Value} {K : Value → Prop} : rdop Tryd.prog H (Instr.field 181 (.agg cs) 1) K = wo cs[1]? fun v => nv v K := rdop_fieldF (show fdOf Tryd.prog 181 1 = some (1, 1, false) by kernel_rfl)
@[go_sem] theorem fd_181_2 {H : AH} {cs : Array Value} {K : Value → Prop} : rdop Tryd.prog H (Instr.field 181 (.agg cs) 2) K = wo cs[2]? fun v => nv v K := rdop_fieldF (show fdOf Tryd.prog 181 2 = some (2, 1, false) by kernel_rfl)
@[go_sem] theorem fd_181_3 {H : AH} {cs : Array Value} {K : Value → Prop} : rdop Tryd.prog H (Instr.field 181 (.agg cs) 3) K = wo cs[3]? fun v => nv v K := rdop_fieldF (show fdOf Tryd.prog 181 3 = some (3, 1, false) by kernel_rfl)
@[go_sem] theorem fd_182_0 {H : AH} {cs : Array Value} {K : Value → Prop} : rdop Tryd.prog H (Instr.field 182 (.agg cs) 0) K = wo cs[0]? fun v => nv v K := rdop_fieldF (show fdOf Tryd.prog 182 0 = some (0, 1, false) by kernel_rfl)
@[go_sem] theorem fd_182_1 {H : AH} {cs : Array Value} {K : Value → Prop} : rdop Tryd.prog H (Instr.field 182 (.agg cs) 1) K = wo cs[1]? fun v => nv v K := rdop_fieldF (show fdOf Tryd.prog 182 1 = some (1, 1, false) by kernel_rfl)
@[go_sem] theorem fd_182_2 {H : AH} {cs : Array Value} {K : Value → Prop} : rdop Tryd.prog H (Instr.field 182 (.agg cs) 2) K = wo cs[2]? fun v => nv v K := rdop_fieldF (show fdOf Tryd.prog 182 2 = some (2, 1, false) by kernel_rfl)
@[go_sem] theorem fd_182_3 {H : AH} {cs : Array Value} {K : Value → Prop} : rdop Tryd.prog H (Instr.field 182 (.agg cs) 3) K = wo cs[3]? fun v => nv v K := rdop_fieldF (show fdOf Tryd.prog 182 3 = some (3, 1, false) by kernel_rfl)
@[go_sem] theorem fd_192_0 {H : AH} {cs : Array Value} {K : Value → Prop} : rdop Tryd.prog H (Instr.field 192 (.agg cs) 0) K = wo cs[0]? fun v => nv v K := rdop_fieldF (show fdOf Tryd.prog 192 0 = some (0, 1, false) by kernel_rfl)
@[go_sem] theorem fd_192_1 {H : AH} {cs : Array Value} {K : Value → Prop} : rdop Tryd.prog H (Instr.field 192 (.agg cs) 1) K = wo cs[1]? fun v => nv v K := rdop_fieldF (show fdOf Tryd.prog 192 1 = some (1, 1, false) by kernel_rfl)
@[go_sem] theorem fd_192_2 {H : AH} {cs : Array Value} {K : Value → Prop} : rdop Tryd.prog H (Instr.field 192 (.agg cs) 2) K = wo cs[2]? fun v => nv v K := rdop_fieldF (show fdOf Tryd.prog 192 2 = some (2, 1, false) by kernel_rfl)
@[go_sem] theorem fd_192_3 {H : AH} {cs : Array Value} {K : Value → Prop} : rdop Tryd.prog H (Instr.field 192 (.agg cs) 3) K = wo cs[3]? fun v => nv v K := rdop_fieldF (show fdOf Tryd.prog 192 3 = some (3, 1, false) by kernel_rfl)
@[go_sem] theorem fd_192_4 {H : AH} {cs : Array Value} {K : Value → Prop} : rdop Tryd.prog H (Instr.field 192 (.agg cs) 4) K = wo cs[4]? fun v => nv v K := rdop_fieldF (show fdOf Tryd.prog 192 4 = some (4, 1, false) by kernel_rfl)
@[go_sem] theorem fd_192_5 {H : AH} {cs : Array Value} {K : Value → Prop} : rdop Tryd.prog H (Instr.field 192 (.agg cs) 5) K = wo cs[5]? fun v => nv v K := rdop_fieldF (show fdOf Tryd.prog 192 5 = some (5, 1, false) by kernel_rfl)
@[go_sem] theorem fd_192_6 {H : AH} {cs : Array Value} {K : Value → Prop} : rdop Tryd.prog H (Instr.field 192 (.agg cs) 6) K = wo cs[6]? fun v => nv v K := rdop_fieldF (show fdOf Tryd.prog 192 6 = some (6, 1, false) by kernel_rfl)
@[go_sem] theorem fd_192_7 {H : AH} {cs : Array Value} {K : Value → Prop} : rdop Tryd.prog H (Instr.field 192 (.agg cs) 7) K = wo cs[7]? fun v => nv v K := rdop_fieldF (show fdOf Tryd.prog 192 7 = some (7, 1, false) by kernel_rfl)
@[go_sem] theorem fd_192_8 {H : AH} {cs : Array Value} {K : Value → Prop} : rdop Tryd.prog H (Instr.field 192 (.agg cs) 8) K = wo cs[8]? fun v => nv v K := rdop_fieldF (show fdOf Tryd.prog 192 8 = some (8, 1, false) by kernel_rfl)
@[go_sem] theorem fd_192_9 {H : AH} {cs : Array Value} {K : Value → Prop} : rdop Tryd.prog H (Instr.field 192 (.agg cs) 9) K = wo cs[9]? fun v => nv v K := rdop_fieldF (show fdOf Tryd.prog 192 9 = some (9, 1, false) by kernel_rfl)
@[go_sem] theorem fd_192_10 {H : AH} {cs : Array Value} {K : Value → Prop} : rdop Tryd.prog H (Instr.field 192 (.agg cs) 10) K = wo cs[10]? fun v => nv v K := rdop_fieldF (show fdOf Tryd.prog 192 10 = some (10, 1, false) by kernel_rfl)
@[go_sem] theorem fd_193_0 {H : AH} {cs : Array Value} {K : Value → Prop} : rdop Tryd.prog H (Instr.field 193 (.agg cs) 0) K = wo cs[0]? fun v => nv v K := rdop_fieldF (show fdOf Tryd.prog 193 0 = some (0, 1, false) by kernel_rfl)
@[go_sem] theorem fd_193_1 {H : AH} {cs : Array Value} {K : Value → Prop} : rdop Tryd.prog H (Instr.field 193 (.agg cs) 1) K = wo cs[1]? fun v => nv v K := rdop_fieldF (show fdOf Tryd.prog 193 1 = some (1, 1, false) by kernel_rfl)
@[go_sem] theorem fd_193_2 {H : AH} {cs : Array Value} {K : Value → Prop} : rdop Tryd.prog H (Instr.field 193 (.agg cs) 2) K = wo cs[2]? fun v => nv v K := rdop_fieldF (show fdOf Tryd.prog 193 2 = some (2, 1, false) by kernel_rfl)
@[go_sem] theorem fd_193_3 {H : AH} {cs : Array Value} {K : Value → Prop} : rdop Tryd.prog H (Instr.field 193 (.agg cs) 3) K = wo cs[3]? fun v => nv v K := rdop_fieldF (show fdOf Tryd.prog 193 3 = some (3, 1, false) by kernel_rfl)
@[go_sem] theorem fd_193_4 {H : AH} {cs : Array Value} {K : Value → Prop} : rdop Tryd.prog H (Instr.field 193 (.agg cs) 4) K = wo cs[4]? fun v => nv v K := rdop_fieldF (show fdOf Tryd.prog 193 4 = some (4, 1, false) by kernel_rfl)
@[go_sem] theorem fd_193_5 {H : AH} {cs : Array Value} {K : Value → Prop} : rdop Tryd.prog H (Instr.field 193 (.agg cs) 5) K = wo cs[5]? fun v => nv v K := rdop_fieldF (show fdOf Tryd.prog 193 5 = some (5, 1, false) by kernel_rfl)
@[go_sem] theorem fd_193_6 {H : AH} {cs : Array Value} {K : Value → Prop} : rdop Tryd.prog H (Instr.field 193 (.agg cs) 6) K = wo cs[6]? fun v => nv v K := rdop_fieldF (show fdOf Tryd.prog 193 6 = some (6, 1, false) by kernel_rfl)
@[go_sem] theorem fd_193_7 {H : AH} {cs : Array Value} {K : Value → Prop} : rdop Tryd.prog H (Instr.field 193 (.agg cs) 7) K = wo cs[7]? fun v => nv v K := rdop_fieldF (show fdOf Tryd.prog 193 7 = some (7, 1, false) by kernel_rfl)
@[go_sem] theorem fd_193_8 {H : AH} {cs : Array Value} {K : Value → Prop} : rdop Tryd.prog H (Instr.field 193 (.agg cs) 8) K = wo cs[8]? fun v => nv v K := rdop_fieldF (show fdOf Tryd.prog 193 8 = some (8, 1, false) by kernel_rfl)
@[go_sem] theorem fd_193_9 {H : AH} {cs : Array Value} {K : Value → Prop} : rdop Tryd.prog H (Instr.field 193 (.agg cs) 9) K = wo cs[9]? fun v => nv v K := rdop_fieldF (show fdOf Tryd.prog 193 9 = some (9, 1, false) by kernel_rfl)
@[go_sem] theorem fd_193_10 {H : AH} {cs : Array Value} {K : Value → Prop} : rdop Tryd.prog H (Instr.field 193 (.agg cs) 10) K = wo cs[10]? fun v => nv v K := rdop_fieldF (show fdOf Tryd.prog 193 10 = some (10, 1, false) by kernel_rfl)
@[go_sem] theorem fd_196_0 {H : AH} {cs : Array Value} {K : Value → Prop} : rdop Tryd.prog H (Instr.field 196 (.agg cs) 0) K = wo cs[0]? fun v => nv v K := rdop_fieldF (show fdOf Tryd.prog 196 0 = some (0, 1, false) by kernel_rfl)
@[go_sem] theorem fd_196_1 {H : AH} {cs : Array Value} {K : Value → Prop} : rdop Tryd.prog H (Instr.field 196 (.agg cs) 1) K = wo cs[1]? fun v => nv v K := rdop_fieldF (show fdOf Tryd.prog 196 1 = some (1, 1, false) by kernel_rfl)
@[go_sem] theorem fd_197_0 {H : AH} {cs : Array Value} {K : Value → Prop} : rdop Tryd.prog H (Instr.field 197 (.agg cs) 0) K = wo cs[0]? fun v => nv v K := rdop_fieldF (show fdOf Tryd.prog 197 0 = some (0, 1, false) by kernel_rfl)
@[go_sem] theorem fd_197_1 {H : AH} {cs : Array Value} {K : Value → Prop} : rdop Tryd.prog H (Instr.field 197 (.agg cs) 1) K = wo cs[1]? fun v => nv v K := rdop_fieldF (show fdOf Tryd.prog 197 1 = some (1, 1, false) by kernel_rfl)
@[go_sem] theorem fd_201_0 {H : AH} {cs : Array Value} {K : Value → Prop} : rdop Tryd.prog H (Instr.field 201 (.agg cs) 0) K = wo cs[0]? fun v => nv v K := rdop_fieldF (show fdOf Tryd.prog 201 0 = some (0, 1, false) by kernel_rfl)
@[go_sem] theorem fd_201_1 {H : AH} {cs : Array Value} {K : Value → Prop} : rdop Tryd.prog H (Instr.field 201 (.agg cs) 1) K = wo cs[1]? fun v => nv v K := rdop_fieldF (show fdOf Tryd.prog 201 1 = some (1, 1, false) by kernel_rfl)
@[go_sem] theorem fd_201_2 {H : AH} {cs : Array Value} {K : Value → Prop} : rdop Tryd.prog H (Instr.field 201 (.agg cs) 2) K = wo cs[2]? fun v => nv v K := rdop_fieldF (show fdOf Tryd.prog 201 2 = some (2, 1, false) by kernel_rfl)
@[go_sem] theorem fd_201_3 {H : AH} {cs : Array Value} {K : Value → Prop} : rdop Tryd.prog H (Instr.field 201 (.agg cs) 3) K = wo cs[3]? fun v => nv v K := rdop_fieldF (show fdOf Tryd.prog 201 3 = some (3, 1, false) by kernel_rfl)
@[go_sem] theorem fd_201_4 {H : AH} {cs : Array Value} {K : Value → Prop} : rdop Tryd.prog H (Instr.field 201 (.agg cs) 4) K = wo cs[4]? fun v => nv v K := rdop_fieldF (show fdOf Tryd.prog 201 4 = some (4, 1, false) by kernel_rfl)
@[go_sem] theorem fd_202_0 {H : AH} {cs : Array Value} {K : Value → Prop} : rdop Tryd.prog H (Instr.field 202 (.agg cs) 0) K = wo cs[0]? fun v => nv v K := rdop_fieldF (show fdOf Tryd.prog 202 0 = some (0, 1, false) by kernel_rfl)
@[go_sem] theorem fd_202_1 {H : AH} {cs : Array Value} {K : Value → Prop} : rdop Tryd.prog H (Instr.field 202 (.agg cs) 1) K = wo cs[1]? fun v => nv v K := rdop_fieldF (show fdOf Tryd.prog 202 1 = some (1, 1, false) by kernel_rfl)
@[go_sem] theorem fd_202_2 {H : AH} {cs : Array Value} {K : Value → Prop} : rdop Tryd.prog H (Instr.field 202 (.agg cs) 2) K = wo cs[2]? fun v => nv v K := rdop_fieldF (show fdOf Tryd.prog 202 2 = some (2, 1, false) by kernel_rfl)
@[go_sem] theorem fd_202_3 {H : AH} {cs : Array Value} {K : Value → Prop} : rdop Tryd.prog H (Instr.field 202 (.agg cs) 3) K = wo cs[3]? fun v => nv v K := rdop_fieldF (show fdOf Tryd.prog 202 3 = some (3, 1, false) by kernel_rfl)
@[go_sem] theorem fd_202_4 {H : AH} {cs : Array Value} {K : Value → Prop} : rdop Tryd.prog H (Instr.field 202 (.agg cs) 4) K = wo cs[4]? fun v => nv v K := rdop_fieldF (show fdOf Tryd.prog 202 4 = some (4, 1, false) by kernel_rfl)
@[go_sem ↓] theorem se_203 : slE Tryd.prog 203 = some (206, 4, [(.int .i32 0), (.int .i32 0), (.int .i32 0), (.int .i32 0)], 16) := by kernel_rfl
@[go_sem] theorem fd_205_0 {H : AH} {cs : Array Value} {K : Value → Prop} : rdop Tryd.prog H (Instr.field 205 (.agg cs) 0) K = wo cs[0]? fun v => nv v K := rdop_fieldF (show fdOf Tryd.prog 205 0 = some (0, 1, false) by kernel_rfl)
@[go_sem] theorem fd_205_1 {H : AH} {cs : Array Value} {K : Value → Prop} : rdop Tryd.prog H (Instr.field 205 (.agg cs) 1) K = wo cs[1]? fun v => nv v K := rdop_fieldF (show fdOf Tryd.prog 205 1 = some (1, 1, false) by kernel_rfl)
@[go_sem] theorem fd_205_2 {H : AH} {cs : Array Value} {K : Value → Prop} : rdop Tryd.prog H (Instr.field 205 (.agg cs) 2) K = wo cs[2]? fun v => nv v K := rdop_fieldF (show fdOf Tryd.prog 205 2 = some (2, 1, false) by kernel_rfl)
@[go_sem] theorem fd_205_3 {H : AH} {cs : Array Value} {K : Value → Prop} : rdop Tryd.prog H (Instr.field 205 (.agg cs) 3) K = wo cs[3]? fun v => nv v K := rdop_fieldF (show fdOf Tryd.prog 205 3 = some (3, 1, false) by kernel_rfl)
@[go_sem] theorem fd_206_0 {H : AH} {cs : Array Value} {K : Value → Prop} : rdop Tryd.prog H (Instr.field 206 (.agg cs) 0) K = wo cs[0]? fun v => nv v K := rdop_fieldF (show fdOf Tryd.prog 206 0 = some (0, 1, false) by kernel_rfl)
@[go_sem] theorem fd_206_1 {H : AH} {cs : Array Value} {K : Value → Prop} : rdop Tryd.prog H (Instr.field 206 (.agg cs) 1) K = wo cs[1]? fun v => nv v K := rdop_fieldF (show fdOf Tryd.prog 206 1 = some (1, 1, false) by kernel_rfl)
@[go_sem] theorem fd_206_2 {H : AH} {cs : Array Value} {K : Value → Prop} : rdop Tryd.prog H (Instr.field 206 (.agg cs) 2) K = wo cs[2]? fun v => nv v K := rdop_fieldF (show fdOf Tryd.prog 206 2 = some (2, 1, false) by kernel_rfl)
@[go_sem] theorem fd_206_3 {H : AH} {cs : Array Value} {K : Value → Prop} : rdop Tryd.prog H (Instr.field 206 (.agg cs) 3) K = wo cs[3]? fun v => nv v K := rdop_fieldF (show fdOf Tryd.prog 206 3 = some (3, 1, false) by kernel_rfl)
theorem eg_7 : Tryd.prog.eqGuardType Tryd.prog.depth 7 = false := by kernel_rfl
theorem st_7 : Tryd.prog.stoodInHeld 7 = false := by kernel_rfl
theorem eqi_7 {H : AH} {m : Nat} (a0 b0 : Int) (a1 b1 : Int) (a2 b2 : Bool) (a3 b3 : Int) : qrun Tryd.prog (Op.equalIn (m + 2) 7 (.agg #[.int .i64 a0, .int .i64 a1, .bool a2, .int .u8 a3]) (.agg #[.int .i64 b0, .int .i64 b1, .bool b2, .int .u8 b3])) H = some ((a0 == b0) && ((a1 == b1) && ((a2 == b2) && (a3 == b3)))) := by
  have h := eqIn_struct (P := Tryd.prog) (H := H) (m := m + 1) (xs := #[.int .i64 a0, .int .i64 a1, .bool a2, .int .u8 a3]) (ys := #[.int .i64 b0, .int .i64 b1, .bool b2, .int .u8 b3]) (T := fun f => if f.offset = 0 then (a0 == b0) else if f.offset = 1 then (a1 == b1) else if f.offset = 2 then (a2 == b2) else if f.offset = 3 then (a3 == b3) else true) Tryd.underlying7 st_7 (by
    simp only [List.mem_cons, List.not_mem_nil, or_false]
    rintro f (rfl | rfl | rfl | rfl)
    · exact ⟨by decide, (.int .i64 a0), (.int .i64 b0), part_scal ag_2 rfl, part_scal ag_2 rfl, eqIn_int Tryd.underlying2⟩
    · exact ⟨by decide, (.int .i64 a1), (.int .i64 b1), part_scal ag_3 rfl, part_scal ag_3 rfl, eqIn_int Tryd.underlying3⟩
    · exact ⟨by decide, (.bool a2), (.bool b2), part_scal ag_4 rfl, part_scal ag_4 rfl, eqIn_bool Tryd.underlying4⟩
    · exact ⟨by decide, (.int .u8 a3), (.int .u8 b3), part_scal ag_6 rfl, part_scal ag_6 rfl, eqIn_int Tryd.underlying6⟩)
  rw [h]; simp [Bool.and_assoc]
@[go_sem] theorem eql_7 {H : AH} {u : Option TypeDesc} {x y : Operand} {kk : Value → Prop} {a0 b0 : Int} {a1 b1 : Int} {a2 b2 : Bool} {a3 b3 : Int} : bin u Tryd.prog H .eql 7 x y (.agg #[.int .i64 a0, .int .i64 a1, .bool a2, .int .u8 a3]) (.agg #[.int .i64 b0, .int .i64 b1, .bool b2, .int .u8 b3]) kk = (u = Tryd.prog.underlying 7 ∧ nv (.bool ((a0 == b0) && ((a1 == b1) && ((a2 == b2) && (a3 == b3))))) kk) := bin_eql_of (eqg_agg eg_7) rfl fun _ => eqi_7 (m := 9998) a0 b0 a1 b1 a2 b2 a3 b3
@[go_sem] theorem neq_7 {H : AH} {u : Option TypeDesc} {x y : Operand} {kk : Value → Prop} {a0 b0 : Int} {a1 b1 : Int} {a2 b2 : Bool} {a3 b3 : Int} : bin u Tryd.prog H .neq 7 x y (.agg #[.int .i64 a0, .int .i64 a1, .bool a2, .int .u8 a3]) (.agg #[.int .i64 b0, .int .i64 b1, .bool b2, .int .u8 b3]) kk = (u = Tryd.prog.underlying 7 ∧ nv (.bool (!((a0 == b0) && ((a1 == b1) && ((a2 == b2) && (a3 == b3)))))) kk) := bin_neq_of (eqg_agg eg_7) rfl fun _ => eqi_7 (m := 9998) a0 b0 a1 b1 a2 b2 a3 b3
theorem eg_8 : Tryd.prog.eqGuardType Tryd.prog.depth 8 = false := by kernel_rfl
theorem st_8 : Tryd.prog.stoodInHeld 8 = false := by kernel_rfl
theorem eqi_8 {H : AH} {m : Nat} (a0 b0 : Int) (a1 b1 : Int) (a2 b2 : Bool) (a3 b3 : Int) : qrun Tryd.prog (Op.equalIn (m + 2) 8 (.agg #[.int .i64 a0, .int .i64 a1, .bool a2, .int .u8 a3]) (.agg #[.int .i64 b0, .int .i64 b1, .bool b2, .int .u8 b3])) H = some ((a0 == b0) && ((a1 == b1) && ((a2 == b2) && (a3 == b3)))) := by
  have h := eqIn_struct (P := Tryd.prog) (H := H) (m := m + 1) (xs := #[.int .i64 a0, .int .i64 a1, .bool a2, .int .u8 a3]) (ys := #[.int .i64 b0, .int .i64 b1, .bool b2, .int .u8 b3]) (T := fun f => if f.offset = 0 then (a0 == b0) else if f.offset = 1 then (a1 == b1) else if f.offset = 2 then (a2 == b2) else if f.offset = 3 then (a3 == b3) else true) Tryd.underlying8 st_8 (by
    simp only [List.mem_cons, List.not_mem_nil, or_false]
    rintro f (rfl | rfl | rfl | rfl)
    · exact ⟨by decide, (.int .i64 a0), (.int .i64 b0), part_scal ag_2 rfl, part_scal ag_2 rfl, eqIn_int Tryd.underlying2⟩
    · exact ⟨by decide, (.int .i64 a1), (.int .i64 b1), part_scal ag_3 rfl, part_scal ag_3 rfl, eqIn_int Tryd.underlying3⟩
    · exact ⟨by decide, (.bool a2), (.bool b2), part_scal ag_4 rfl, part_scal ag_4 rfl, eqIn_bool Tryd.underlying4⟩
    · exact ⟨by decide, (.int .u8 a3), (.int .u8 b3), part_scal ag_6 rfl, part_scal ag_6 rfl, eqIn_int Tryd.underlying6⟩)
  rw [h]; simp [Bool.and_assoc]
@[go_sem] theorem eql_8 {H : AH} {u : Option TypeDesc} {x y : Operand} {kk : Value → Prop} {a0 b0 : Int} {a1 b1 : Int} {a2 b2 : Bool} {a3 b3 : Int} : bin u Tryd.prog H .eql 8 x y (.agg #[.int .i64 a0, .int .i64 a1, .bool a2, .int .u8 a3]) (.agg #[.int .i64 b0, .int .i64 b1, .bool b2, .int .u8 b3]) kk = (u = Tryd.prog.underlying 8 ∧ nv (.bool ((a0 == b0) && ((a1 == b1) && ((a2 == b2) && (a3 == b3))))) kk) := bin_eql_of (eqg_agg eg_8) rfl fun _ => eqi_8 (m := 9998) a0 b0 a1 b1 a2 b2 a3 b3
@[go_sem] theorem neq_8 {H : AH} {u : Option TypeDesc} {x y : Operand} {kk : Value → Prop} {a0 b0 : Int} {a1 b1 : Int} {a2 b2 : Bool} {a3 b3 : Int} : bin u Tryd.prog H .neq 8 x y (.agg #[.int .i64 a0, .int .i64 a1, .bool a2, .int .u8 a3]) (.agg #[.int .i64 b0, .int .i64 b1, .bool b2, .int .u8 b3]) kk = (u = Tryd.prog.underlying 8 ∧ nv (.bool (!((a0 == b0) && ((a1 == b1) && ((a2 == b2) && (a3 == b3)))))) kk) := bin_neq_of (eqg_agg eg_8) rfl fun _ => eqi_8 (m := 9998) a0 b0 a1 b1 a2 b2 a3 b3
theorem eg_29 : Tryd.prog.eqGuardType Tryd.prog.depth 29 = false := by kernel_rfl
theorem st_29 : Tryd.prog.stoodInHeld 29 = false := by kernel_rfl
theorem eqi_29 {H : AH} {m : Nat} (a0 b0 : Int) (a1 b1 : Int) (a2 b2 : Int) : qrun Tryd.prog (Op.equalIn (m + 2) 29 (.agg #[.int .i64 a0, .int .i64 a1, .int .i64 a2]) (.agg #[.int .i64 b0, .int .i64 b1, .int .i64 b2])) H = some ((a0 == b0) && ((a1 == b1) && (a2 == b2))) := by
  have h := eqIn_struct (P := Tryd.prog) (H := H) (m := m + 1) (xs := #[.int .i64 a0, .int .i64 a1, .int .i64 a2]) (ys := #[.int .i64 b0, .int .i64 b1, .int .i64 b2]) (T := fun f => if f.offset = 0 then (a0 == b0) else if f.offset = 1 then (a1 == b1) else if f.offset = 2 then (a2 == b2) else true) Tryd.underlying29 st_29 (by
    simp only [List.mem_cons, List.not_mem_nil, or_false]
    rintro f (rfl | rfl | rfl)
    · exact ⟨by decide, (.int .i64 a0), (.int .i64 b0), part_scal ag_3 rfl, part_scal ag_3 rfl, eqIn_int Tryd.underlying3⟩
    · exact ⟨by decide, (.int .i64 a1), (.int .i64 b1), part_scal ag_3 rfl, part_scal ag_3 rfl, eqIn_int Tryd.underlying3⟩
    · exact ⟨by decide, (.int .i64 a2), (.int .i64 b2), part_scal ag_3 rfl, part_scal ag_3 rfl, eqIn_int Tryd.underlying3⟩)
  rw [h]; simp [Bool.and_assoc]
@[go_sem] theorem eql_29 {H : AH} {u : Option TypeDesc} {x y : Operand} {kk : Value → Prop} {a0 b0 : Int} {a1 b1 : Int} {a2 b2 : Int} : bin u Tryd.prog H .eql 29 x y (.agg #[.int .i64 a0, .int .i64 a1, .int .i64 a2]) (.agg #[.int .i64 b0, .int .i64 b1, .int .i64 b2]) kk = (u = Tryd.prog.underlying 29 ∧ nv (.bool ((a0 == b0) && ((a1 == b1) && (a2 == b2)))) kk) := bin_eql_of (eqg_agg eg_29) rfl fun _ => eqi_29 (m := 9998) a0 b0 a1 b1 a2 b2
@[go_sem] theorem neq_29 {H : AH} {u : Option TypeDesc} {x y : Operand} {kk : Value → Prop} {a0 b0 : Int} {a1 b1 : Int} {a2 b2 : Int} : bin u Tryd.prog H .neq 29 x y (.agg #[.int .i64 a0, .int .i64 a1, .int .i64 a2]) (.agg #[.int .i64 b0, .int .i64 b1, .int .i64 b2]) kk = (u = Tryd.prog.underlying 29 ∧ nv (.bool (!((a0 == b0) && ((a1 == b1) && (a2 == b2))))) kk) := bin_neq_of (eqg_agg eg_29) rfl fun _ => eqi_29 (m := 9998) a0 b0 a1 b1 a2 b2
theorem eg_30 : Tryd.prog.eqGuardType Tryd.prog.depth 30 = false := by kernel_rfl
theorem st_30 : Tryd.prog.stoodInHeld 30 = false := by kernel_rfl
theorem eqi_30 {H : AH} {m : Nat} (a0 b0 : Int) (a1 b1 : Int) (a2 b2 : Int) : qrun Tryd.prog (Op.equalIn (m + 2) 30 (.agg #[.int .i64 a0, .int .i64 a1, .int .i64 a2]) (.agg #[.int .i64 b0, .int .i64 b1, .int .i64 b2])) H = some ((a0 == b0) && ((a1 == b1) && (a2 == b2))) := by
  have h := eqIn_struct (P := Tryd.prog) (H := H) (m := m + 1) (xs := #[.int .i64 a0, .int .i64 a1, .int .i64 a2]) (ys := #[.int .i64 b0, .int .i64 b1, .int .i64 b2]) (T := fun f => if f.offset = 0 then (a0 == b0) else if f.offset = 1 then (a1 == b1) else if f.offset = 2 then (a2 == b2) else true) Tryd.underlying30 st_30 (by
    simp only [List.mem_cons, List.not_mem_nil, or_false]
    rintro f (rfl | rfl | rfl)
    · exact ⟨by decide, (.int .i64 a0), (.int .i64 b0), part_scal ag_3 rfl, part_scal ag_3 rfl, eqIn_int Tryd.underlying3⟩
    · exact ⟨by decide, (.int .i64 a1), (.int .i64 b1), part_scal ag_3 rfl, part_scal ag_3 rfl, eqIn_int Tryd.underlying3⟩
    · exact ⟨by decide, (.int .i64 a2), (.int .i64 b2), part_scal ag_3 rfl, part_scal ag_3 rfl, eqIn_int Tryd.underlying3⟩)
  rw [h]; simp [Bool.and_assoc]
@[go_sem] theorem eql_30 {H : AH} {u : Option TypeDesc} {x y : Operand} {kk : Value → Prop} {a0 b0 : Int} {a1 b1 : Int} {a2 b2 : Int} : bin u Tryd.prog H .eql 30 x y (.agg #[.int .i64 a0, .int .i64 a1, .int .i64 a2]) (.agg #[.int .i64 b0, .int .i64 b1, .int .i64 b2]) kk = (u = Tryd.prog.underlying 30 ∧ nv (.bool ((a0 == b0) && ((a1 == b1) && (a2 == b2)))) kk) := bin_eql_of (eqg_agg eg_30) rfl fun _ => eqi_30 (m := 9998) a0 b0 a1 b1 a2 b2
@[go_sem] theorem neq_30 {H : AH} {u : Option TypeDesc} {x y : Operand} {kk : Value → Prop} {a0 b0 : Int} {a1 b1 : Int} {a2 b2 : Int} : bin u Tryd.prog H .neq 30 x y (.agg #[.int .i64 a0, .int .i64 a1, .int .i64 a2]) (.agg #[.int .i64 b0, .int .i64 b1, .int .i64 b2]) kk = (u = Tryd.prog.underlying 30 ∧ nv (.bool (!((a0 == b0) && ((a1 == b1) && (a2 == b2))))) kk) := bin_neq_of (eqg_agg eg_30) rfl fun _ => eqi_30 (m := 9998) a0 b0 a1 b1 a2 b2
theorem eg_31 : Tryd.prog.eqGuardType Tryd.prog.depth 31 = false := by kernel_rfl
theorem eqi_31 {H : AH} {m : Nat} (a0 b0 : Int) (a1 b1 : Int) (a2 b2 : Int) (a3 b3 : Int) : qrun Tryd.prog (Op.equalIn (m + 2) 31 (.agg #[.int .u8 a0, .int .u8 a1, .int .u8 a2, .int .u8 a3]) (.agg #[.int .u8 b0, .int .u8 b1, .int .u8 b2, .int .u8 b3])) H = some ((a0 == b0) && ((a1 == b1) && ((a2 == b2) && (a3 == b3)))) := by
  have h := eqIn_array (P := Tryd.prog) (H := H) (m := m + 1) (xs := #[.int .u8 a0, .int .u8 a1, .int .u8 a2, .int .u8 a3]) (ys := #[.int .u8 b0, .int .u8 b1, .int .u8 b2, .int .u8 b3]) (T := fun i => ([(a0 == b0), (a1 == b1), (a2 == b2), (a3 == b3)] : List Bool).getD i false) Tryd.underlying31 (info_sz sz_5 (by simp)) (fun i hi => by
    match i, hi with
    | 0, _ => exact ⟨(.int .u8 a0), (.int .u8 b0), part_scal ag_5 rfl, part_scal ag_5 rfl, eqIn_int Tryd.underlying5⟩
    | 1, _ => exact ⟨(.int .u8 a1), (.int .u8 b1), part_scal ag_5 rfl, part_scal ag_5 rfl, eqIn_int Tryd.underlying5⟩
    | 2, _ => exact ⟨(.int .u8 a2), (.int .u8 b2), part_scal ag_5 rfl, part_scal ag_5 rfl, eqIn_int Tryd.underlying5⟩
    | 3, _ => exact ⟨(.int .u8 a3), (.int .u8 b3), part_scal ag_5 rfl, part_scal ag_5 rfl, eqIn_int Tryd.underlying5⟩
    | _ + 4, hi => omega)
  rw [h]; simp [List.range_succ, Bool.and_assoc]
@[go_sem] theorem eql_31 {H : AH} {u : Option TypeDesc} {x y : Operand} {kk : Value → Prop} {a0 b0 : Int} {a1 b1 : Int} {a2 b2 : Int} {a3 b3 : Int} : bin u Tryd.prog H .eql 31 x y (.agg #[.int .u8 a0, .int .u8 a1, .int .u8 a2, .int .u8 a3]) (.agg #[.int .u8 b0, .int .u8 b1, .int .u8 b2, .int .u8 b3]) kk = (u = Tryd.prog.underlying 31 ∧ nv (.bool ((a0 == b0) && ((a1 == b1) && ((a2 == b2) && (a3 == b3))))) kk) := bin_eql_of (eqg_agg eg_31) rfl fun _ => eqi_31 (m := 9998) a0 b0 a1 b1 a2 b2 a3 b3
@[go_sem] theorem neq_31 {H : AH} {u : Option TypeDesc} {x y : Operand} {kk : Value → Prop} {a0 b0 : Int} {a1 b1 : Int} {a2 b2 : Int} {a3 b3 : Int} : bin u Tryd.prog H .neq 31 x y (.agg #[.int .u8 a0, .int .u8 a1, .int .u8 a2, .int .u8 a3]) (.agg #[.int .u8 b0, .int .u8 b1, .int .u8 b2, .int .u8 b3]) kk = (u = Tryd.prog.underlying 31 ∧ nv (.bool (!((a0 == b0) && ((a1 == b1) && ((a2 == b2) && (a3 == b3)))))) kk) := bin_neq_of (eqg_agg eg_31) rfl fun _ => eqi_31 (m := 9998) a0 b0 a1 b1 a2 b2 a3 b3
theorem eg_32 : Tryd.prog.eqGuardType Tryd.prog.depth 32 = false := by kernel_rfl
theorem eqi_32 {H : AH} {m : Nat} (a0 b0 : Int) (a1 b1 : Int) (a2 b2 : Int) (a3 b3 : Int) : qrun Tryd.prog (Op.equalIn (m + 2) 32 (.agg #[.int .u8 a0, .int .u8 a1, .int .u8 a2, .int .u8 a3]) (.agg #[.int .u8 b0, .int .u8 b1, .int .u8 b2, .int .u8 b3])) H = some ((a0 == b0) && ((a1 == b1) && ((a2 == b2) && (a3 == b3)))) := by
  have h := eqIn_array (P := Tryd.prog) (H := H) (m := m + 1) (xs := #[.int .u8 a0, .int .u8 a1, .int .u8 a2, .int .u8 a3]) (ys := #[.int .u8 b0, .int .u8 b1, .int .u8 b2, .int .u8 b3]) (T := fun i => ([(a0 == b0), (a1 == b1), (a2 == b2), (a3 == b3)] : List Bool).getD i false) Tryd.underlying32 (info_sz sz_5 (by simp)) (fun i hi => by
    match i, hi with
    | 0, _ => exact ⟨(.int .u8 a0), (.int .u8 b0), part_scal ag_5 rfl, part_scal ag_5 rfl, eqIn_int Tryd.underlying5⟩
    | 1, _ => exact ⟨(.int .u8 a1), (.int .u8 b1), part_scal ag_5 rfl, part_scal ag_5 rfl, eqIn_int Tryd.underlying5⟩
    | 2, _ => exact ⟨(.int .u8 a2), (.int .u8 b2), part_scal ag_5 rfl, part_scal ag_5 rfl, eqIn_int Tryd.underlying5⟩
    | 3, _ => exact ⟨(.int .u8 a3), (.int .u8 b3), part_scal ag_5 rfl, part_scal ag_5 rfl, eqIn_int Tryd.underlying5⟩
    | _ + 4, hi => omega)
  rw [h]; simp [List.range_succ, Bool.and_assoc]
@[go_sem] theorem eql_32 {H : AH} {u : Option TypeDesc} {x y : Operand} {kk : Value → Prop} {a0 b0 : Int} {a1 b1 : Int} {a2 b2 : Int} {a3 b3 : Int} : bin u Tryd.prog H .eql 32 x y (.agg #[.int .u8 a0, .int .u8 a1, .int .u8 a2, .int .u8 a3]) (.agg #[.int .u8 b0, .int .u8 b1, .int .u8 b2, .int .u8 b3]) kk = (u = Tryd.prog.underlying 32 ∧ nv (.bool ((a0 == b0) && ((a1 == b1) && ((a2 == b2) && (a3 == b3))))) kk) := bin_eql_of (eqg_agg eg_32) rfl fun _ => eqi_32 (m := 9998) a0 b0 a1 b1 a2 b2 a3 b3
@[go_sem] theorem neq_32 {H : AH} {u : Option TypeDesc} {x y : Operand} {kk : Value → Prop} {a0 b0 : Int} {a1 b1 : Int} {a2 b2 : Int} {a3 b3 : Int} : bin u Tryd.prog H .neq 32 x y (.agg #[.int .u8 a0, .int .u8 a1, .int .u8 a2, .int .u8 a3]) (.agg #[.int .u8 b0, .int .u8 b1, .int .u8 b2, .int .u8 b3]) kk = (u = Tryd.prog.underlying 32 ∧ nv (.bool (!((a0 == b0) && ((a1 == b1) && ((a2 == b2) && (a3 == b3)))))) kk) := bin_neq_of (eqg_agg eg_32) rfl fun _ => eqi_32 (m := 9998) a0 b0 a1 b1 a2 b2 a3 b3
theorem eg_91 : Tryd.prog.eqGuardType Tryd.prog.depth 91 = false := by kernel_rfl
theorem eqi_91 {H : AH} {m : Nat} (a0 b0 : Int) (a1 b1 : Int) (a2 b2 : Int) (a3 b3 : Int) (a4 b4 : Int) : qrun Tryd.prog (Op.equalIn (m + 2) 91 (.agg #[.int .u8 a0, .int .u8 a1, .int .u8 a2, .int .u8 a3, .int .u8 a4]) (.agg #[.int .u8 b0, .int .u8 b1, .int .u8 b2, .int .u8 b3, .int .u8 b4])) H = some ((a0 == b0) && ((a1 == b1) && ((a2 == b2) && ((a3 == b3) && (a4 == b4))))) := by
  have h := eqIn_array (P := Tryd.prog) (H := H) (m := m + 1) (xs := #[.int .u8 a0, .int .u8 a1, .int .u8 a2, .int .u8 a3, .int .u8 a4]) (ys := #[.int .u8 b0, .int .u8 b1, .int .u8 b2, .int .u8 b3, .int .u8 b4]) (T := fun i => ([(a0 == b0), (a1 == b1), (a2 == b2), (a3 == b3), (a4 == b4)] : List Bool).getD i false) Tryd.underlying91 (info_sz sz_5 (by simp)) (fun i hi => by
    match i, hi with
    | 0, _ => exact ⟨(.int .u8 a0), (.int .u8 b0), part_scal ag_5 rfl, part_scal ag_5 rfl, eqIn_int Tryd.underlying5⟩
    | 1, _ => exact ⟨(.int .u8 a1), (.int .u8 b1), part_scal ag_5 rfl, part_scal ag_5 rfl, eqIn_int Tryd.underlying5⟩
    | 2, _ => exact ⟨(.int .u8 a2), (.int .u8 b2), part_scal ag_5 rfl, part_scal ag_5 rfl, eqIn_int Tryd.underlying5⟩
    | 3, _ => exact ⟨(.int .u8 a3), (.int .u8 b3), part_scal ag_5 rfl, part_scal ag_5 rfl, eqIn_int Tryd.underlying5⟩
    | 4, _ => exact ⟨(.int .u8 a4), (.int .u8 b4), part_scal ag_5 rfl, part_scal ag_5 rfl, eqIn_int Tryd.underlying5⟩
    | _ + 5, hi => omega)
  rw [h]; simp [List.range_succ, Bool.and_assoc]
@[go_sem] theorem eql_91 {H : AH} {u : Option TypeDesc} {x y : Operand} {kk : Value → Prop} {a0 b0 : Int} {a1 b1 : Int} {a2 b2 : Int} {a3 b3 : Int} {a4 b4 : Int} : bin u Tryd.prog H .eql 91 x y (.agg #[.int .u8 a0, .int .u8 a1, .int .u8 a2, .int .u8 a3, .int .u8 a4]) (.agg #[.int .u8 b0, .int .u8 b1, .int .u8 b2, .int .u8 b3, .int .u8 b4]) kk = (u = Tryd.prog.underlying 91 ∧ nv (.bool ((a0 == b0) && ((a1 == b1) && ((a2 == b2) && ((a3 == b3) && (a4 == b4)))))) kk) := bin_eql_of (eqg_agg eg_91) rfl fun _ => eqi_91 (m := 9998) a0 b0 a1 b1 a2 b2 a3 b3 a4 b4
@[go_sem] theorem neq_91 {H : AH} {u : Option TypeDesc} {x y : Operand} {kk : Value → Prop} {a0 b0 : Int} {a1 b1 : Int} {a2 b2 : Int} {a3 b3 : Int} {a4 b4 : Int} : bin u Tryd.prog H .neq 91 x y (.agg #[.int .u8 a0, .int .u8 a1, .int .u8 a2, .int .u8 a3, .int .u8 a4]) (.agg #[.int .u8 b0, .int .u8 b1, .int .u8 b2, .int .u8 b3, .int .u8 b4]) kk = (u = Tryd.prog.underlying 91 ∧ nv (.bool (!((a0 == b0) && ((a1 == b1) && ((a2 == b2) && ((a3 == b3) && (a4 == b4))))))) kk) := bin_neq_of (eqg_agg eg_91) rfl fun _ => eqi_91 (m := 9998) a0 b0 a1 b1 a2 b2 a3 b3 a4 b4
theorem eg_111 : Tryd.prog.eqGuardType Tryd.prog.depth 111 = false := by kernel_rfl
theorem eqi_111 {H : AH} {m : Nat} (a0 b0 : Int) (a1 b1 : Int) : qrun Tryd.prog (Op.equalIn (m + 2) 111 (.agg #[.int .u8 a0, .int .u8 a1]) (.agg #[.int .u8 b0, .int .u8 b1])) H = some ((a0 == b0) && (a1 == b1)) := by
  have h := eqIn_array (P := Tryd.prog) (H := H) (m := m + 1) (xs := #[.int .u8 a0, .int .u8 a1]) (ys := #[.int .u8 b0, .int .u8 b1]) (T := fun i => ([(a0 == b0), (a1 == b1)] : List Bool).getD i false) Tryd.underlying111 (info_sz sz_5 (by simp)) (fun i hi => by
    match i, hi with
    | 0, _ => exact ⟨(.int .u8 a0), (.int .u8 b0), part_scal ag_5 rfl, part_scal ag_5 rfl, eqIn_int Tryd.underlying5⟩
    | 1, _ => exact ⟨(.int .u8 a1), (.int .u8 b1), part_scal ag_5 rfl, part_scal ag_5 rfl, eqIn_int Tryd.underlying5⟩
    | _ + 2, hi => omega)
  rw [h]; simp [List.range_succ, Bool.and_assoc]
@[go_sem] theorem eql_111 {H : AH} {u : Option TypeDesc} {x y : Operand} {kk : Value → Prop} {a0 b0 : Int} {a1 b1 : Int} : bin u Tryd.prog H .eql 111 x y (.agg #[.int .u8 a0, .int .u8 a1]) (.agg #[.int .u8 b0, .int .u8 b1]) kk = (u = Tryd.prog.underlying 111 ∧ nv (.bool ((a0 == b0) && (a1 == b1))) kk) := bin_eql_of (eqg_agg eg_111) rfl fun _ => eqi_111 (m := 9998) a0 b0 a1 b1
@[go_sem] theorem neq_111 {H : AH} {u : Option TypeDesc} {x y : Operand} {kk : Value → Prop} {a0 b0 : Int} {a1 b1 : Int} : bin u Tryd.prog H .neq 111 x y (.agg #[.int .u8 a0, .int .u8 a1]) (.agg #[.int .u8 b0, .int .u8 b1]) kk = (u = Tryd.prog.underlying 111 ∧ nv (.bool (!((a0 == b0) && (a1 == b1)))) kk) := bin_neq_of (eqg_agg eg_111) rfl fun _ => eqi_111 (m := 9998) a0 b0 a1 b1
@[go_sem] theorem ok_2 : fnOk Tryd.prog 2 = true := by kernel_rfl
@[go_sem] theorem ok_3 : fnOk Tryd.prog 3 = true := by kernel_rfl
@[go_sem] theorem ok_4 : fnOk Tryd.prog 4 = true := by kernel_rfl
@[go_sem] theorem ok_5 : fnOk Tryd.prog 5 = true := by kernel_rfl
@[go_sem] theorem ok_6 : fnOk Tryd.prog 6 = true := by kernel_rfl
@[go_sem] theorem ok_7 : fnOk Tryd.prog 7 = true := by kernel_rfl
@[go_sem] theorem ok_8 : fnOk Tryd.prog 8 = true := by kernel_rfl
@[go_sem] theorem ok_9 : fnOk Tryd.prog 9 = true := by kernel_rfl
@[go_sem] theorem ok_10 : fnOk Tryd.prog 10 = true := by kernel_rfl
@[go_sem] theorem ok_11 : fnOk Tryd.prog 11 = true := by kernel_rfl
@[go_sem] theorem ok_12 : fnOk Tryd.prog 12 = true := by kernel_rfl
@[go_sem] theorem ok_13 : fnOk Tryd.prog 13 = true := by kernel_rfl
@[go_sem] theorem ok_14 : fnOk Tryd.prog 14 = true := by kernel_rfl
@[go_sem] theorem ok_15 : fnOk Tryd.prog 15 = true := by kernel_rfl
@[go_sem] theorem ok_16 : fnOk Tryd.prog 16 = true := by kernel_rfl
@[go_sem] theorem ok_17 : fnOk Tryd.prog 17 = true := by kernel_rfl
@[go_sem] theorem ok_18 : fnOk Tryd.prog 18 = true := by kernel_rfl
@[go_sem] theorem ok_19 : fnOk Tryd.prog 19 = true := by kernel_rfl
@[go_sem] theorem ok_20 : fnOk Tryd.prog 20 = true := by kernel_rfl
@[go_sem] theorem ok_21 : fnOk Tryd.prog 21 = true := by kernel_rfl
@[go_sem] theorem ok_22 : fnOk Tryd.prog 22 = true := by kernel_rfl
@[go_sem] theorem ok_23 : fnOk Tryd.prog 23 = true := by kernel_rfl
@[go_sem] theorem ok_24 : fnOk Tryd.prog 24 = true := by kernel_rfl
@[go_sem] theorem ok_25 : fnOk Tryd.prog 25 = true := by kernel_rfl
@[go_sem] theorem ok_26 : fnOk Tryd.prog 26 = true := by kernel_rfl
@[go_sem] theorem ok_27 : fnOk Tryd.prog 27 = true := by kernel_rfl
@[go_sem] theorem ok_28 : fnOk Tryd.prog 28 = true := by kernel_rfl
@[go_sem] theorem ok_29 : fnOk Tryd.prog 29 = true := by kernel_rfl
@[go_sem] theorem ok_30 : fnOk Tryd.prog 30 = true := by kernel_rfl
@[go_sem] theorem ok_31 : fnOk Tryd.prog 31 = true := by kernel_rfl
@[go_sem] theorem ok_32 : fnOk Tryd.prog 32 = true := by kernel_rfl
@[go_sem] theorem ok_33 : fnOk Tryd.prog 33 = true := by kernel_rfl
@[go_sem] theorem ok_34 : fnOk Tryd.prog 34 = true := by kernel_rfl
@[go_sem] theorem ok_35 : fnOk Tryd.prog 35 = true := by kernel_rfl
@[go_sem] theorem ok_36 : fnOk Tryd.prog 36 = true := by kernel_rfl
@[go_sem] theorem ok_37 : fnOk Tryd.prog 37 = true := by kernel_rfl
@[go_sem] theorem ok_38 : fnOk Tryd.prog 38 = true := by kernel_rfl
@[go_sem] theorem ok_39 : fnOk Tryd.prog 39 = true := by kernel_rfl
@[go_sem] theorem ok_40 : fnOk Tryd.prog 40 = true := by kernel_rfl
@[go_sem] theorem ok_41 : fnOk Tryd.prog 41 = true := by kernel_rfl
@[go_sem] theorem ok_42 : fnOk Tryd.prog 42 = true := by kernel_rfl
@[go_sem] theorem ok_43 : fnOk Tryd.prog 43 = true := by kernel_rfl
@[go_sem] theorem ok_44 : fnOk Tryd.prog 44 = true := by kernel_rfl
@[go_sem] theorem ok_45 : fnOk Tryd.prog 45 = true := by kernel_rfl
@[go_sem] theorem ok_46 : fnOk Tryd.prog 46 = true := by kernel_rfl
@[go_sem] theorem ok_47 : fnOk Tryd.prog 47 = true := by kernel_rfl
@[go_sem] theorem ok_48 : fnOk Tryd.prog 48 = true := by kernel_rfl
@[go_sem] theorem ok_49 : fnOk Tryd.prog 49 = true := by kernel_rfl
@[go_sem] theorem ok_51 : fnOk Tryd.prog 51 = true := by kernel_rfl
@[go_sem] theorem ok_52 : fnOk Tryd.prog 52 = true := by kernel_rfl
@[go_sem] theorem ok_53 : fnOk Tryd.prog 53 = true := by kernel_rfl
@[go_sem] theorem ok_54 : fnOk Tryd.prog 54 = true := by kernel_rfl
@[go_sem] theorem ok_55 : fnOk Tryd.prog 55 = true := by kernel_rfl
@[go_sem] theorem ok_56 : fnOk Tryd.prog 56 = true := by kernel_rfl
@[go_sem] theorem ok_57 : fnOk Tryd.prog 57 = true := by kernel_rfl
@[go_sem] theorem ok_58 : fnOk Tryd.prog 58 = true := by kernel_rfl
@[go_sem] theorem ok_59 : fnOk Tryd.prog 59 = true := by kernel_rfl
@[go_sem] theorem ok_60 : fnOk Tryd.prog 60 = true := by kernel_rfl
@[go_sem] theorem ok_64 : fnOk Tryd.prog 64 = true := by kernel_rfl
@[go_sem] theorem ok_65 : fnOk Tryd.prog 65 = true := by kernel_rfl
@[go_sem] theorem ok_66 : fnOk Tryd.prog 66 = true := by kernel_rfl
@[go_sem] theorem ok_67 : fnOk Tryd.prog 67 = true := by kernel_rfl
@[go_sem] theorem ok_68 : fnOk Tryd.prog 68 = true := by kernel_rfl
@[go_sem] theorem ok_69 : fnOk Tryd.prog 69 = true := by kernel_rfl
@[go_sem] theorem ok_70 : fnOk Tryd.prog 70 = true := by kernel_rfl
@[go_sem] theorem ok_71 : fnOk Tryd.prog 71 = true := by kernel_rfl
@[go_sem] theorem ok_74 : fnOk Tryd.prog 74 = true := by kernel_rfl
@[go_sem] theorem ok_75 : fnOk Tryd.prog 75 = true := by kernel_rfl
@[go_sem] theorem ok_76 : fnOk Tryd.prog 76 = true := by kernel_rfl
@[go_sem] theorem ok_77 : fnOk Tryd.prog 77 = true := by kernel_rfl
@[go_sem] theorem ok_78 : fnOk Tryd.prog 78 = true := by kernel_rfl
@[go_sem] theorem ok_79 : fnOk Tryd.prog 79 = true := by kernel_rfl
@[go_sem] theorem ok_80 : fnOk Tryd.prog 80 = true := by kernel_rfl
@[go_sem] theorem ok_81 : fnOk Tryd.prog 81 = true := by kernel_rfl
@[go_sem] theorem ok_82 : fnOk Tryd.prog 82 = true := by kernel_rfl
@[go_sem] theorem ok_83 : fnOk Tryd.prog 83 = true := by kernel_rfl
@[go_sem] theorem ok_84 : fnOk Tryd.prog 84 = true := by kernel_rfl
@[go_sem] theorem ok_85 : fnOk Tryd.prog 85 = true := by kernel_rfl
@[go_sem] theorem ok_86 : fnOk Tryd.prog 86 = true := by kernel_rfl
@[go_sem] theorem ok_87 : fnOk Tryd.prog 87 = true := by kernel_rfl
@[go_sem] theorem ok_88 : fnOk Tryd.prog 88 = true := by kernel_rfl
@[go_sem] theorem ok_89 : fnOk Tryd.prog 89 = true := by kernel_rfl
@[go_sem] theorem ok_90 : fnOk Tryd.prog 90 = true := by kernel_rfl
@[go_sem] theorem ok_91 : fnOk Tryd.prog 91 = true := by kernel_rfl
@[go_sem] theorem ok_92 : fnOk Tryd.prog 92 = true := by kernel_rfl
@[go_sem] theorem ok_112 : fnOk Tryd.prog 112 = true := by kernel_rfl
@[go_sem] theorem ok_114 : fnOk Tryd.prog 114 = true := by kernel_rfl
@[go_sem] theorem ok_133 : fnOk Tryd.prog 133 = true := by kernel_rfl
theorem mixed : Tryd.prog.follows .mixedOrders = true := by kernel_rfl
attribute [go_sem] Tryd.underlying0 Tryd.underlying1 Tryd.underlying2 Tryd.underlying3 Tryd.underlying4 Tryd.underlying5 Tryd.underlying6 Tryd.underlying7 Tryd.underlying8 Tryd.underlying9 Tryd.underlying10 Tryd.underlying11 Tryd.underlying12 Tryd.underlying13 Tryd.underlying14 Tryd.underlying15
attribute [go_sem] Tryd.underlying16 Tryd.underlying17 Tryd.underlying18 Tryd.underlying19 Tryd.underlying20 Tryd.underlying21 Tryd.underlying22 Tryd.underlying23 Tryd.underlying24 Tryd.underlying25 Tryd.underlying26 Tryd.underlying27 Tryd.underlying28 Tryd.underlying29 Tryd.underlying30 Tryd.underlying31
attribute [go_sem] Tryd.underlying32 Tryd.underlying33 Tryd.underlying34 Tryd.underlying35 Tryd.underlying36 Tryd.underlying37 Tryd.underlying38 Tryd.underlying39 Tryd.underlying40 Tryd.underlying41 Tryd.underlying42 Tryd.underlying43 Tryd.underlying44 Tryd.underlying45 Tryd.underlying46 Tryd.underlying47
attribute [go_sem] Tryd.underlying48 Tryd.underlying49 Tryd.underlying50 Tryd.underlying51 Tryd.underlying52 Tryd.underlying53 Tryd.underlying54 Tryd.underlying55 Tryd.underlying56 Tryd.underlying57 Tryd.underlying58 Tryd.underlying59 Tryd.underlying60 Tryd.underlying61 Tryd.underlying62 Tryd.underlying63
attribute [go_sem] Tryd.underlying64 Tryd.underlying65 Tryd.underlying66 Tryd.underlying67 Tryd.underlying68 Tryd.underlying69 Tryd.underlying70 Tryd.underlying71 Tryd.underlying72 Tryd.underlying73 Tryd.underlying74 Tryd.underlying75 Tryd.underlying76 Tryd.underlying77 Tryd.underlying78 Tryd.underlying79
attribute [go_sem] Tryd.underlying80 Tryd.underlying81 Tryd.underlying82 Tryd.underlying83 Tryd.underlying84 Tryd.underlying85 Tryd.underlying86 Tryd.underlying87 Tryd.underlying88 Tryd.underlying89 Tryd.underlying90 Tryd.underlying91 Tryd.underlying92 Tryd.underlying93 Tryd.underlying94 Tryd.underlying95
attribute [go_sem] Tryd.underlying96 Tryd.underlying97 Tryd.underlying98 Tryd.underlying99 Tryd.underlying100 Tryd.underlying101 Tryd.underlying102 Tryd.underlying103 Tryd.underlying104 Tryd.underlying105 Tryd.underlying106 Tryd.underlying107 Tryd.underlying108 Tryd.underlying109 Tryd.underlying110 Tryd.underlying111
attribute [go_sem] Tryd.underlying112 Tryd.underlying113 Tryd.underlying114 Tryd.underlying115 Tryd.underlying116 Tryd.underlying117 Tryd.underlying118 Tryd.underlying119 Tryd.underlying120 Tryd.underlying121 Tryd.underlying122 Tryd.underlying123 Tryd.underlying124 Tryd.underlying125 Tryd.underlying126 Tryd.underlying127
attribute [go_sem] Tryd.underlying128 Tryd.underlying129 Tryd.underlying130 Tryd.underlying131 Tryd.underlying132 Tryd.underlying133 Tryd.underlying134 Tryd.underlying135 Tryd.underlying136 Tryd.underlying137 Tryd.underlying138 Tryd.underlying139 Tryd.underlying140 Tryd.underlying141 Tryd.underlying142 Tryd.underlying143
attribute [go_sem] Tryd.underlying144 Tryd.underlying145 Tryd.underlying146 Tryd.underlying147 Tryd.underlying148 Tryd.underlying149 Tryd.underlying150 Tryd.underlying151 Tryd.underlying152 Tryd.underlying153 Tryd.underlying154 Tryd.underlying155 Tryd.underlying156 Tryd.underlying157 Tryd.underlying158 Tryd.underlying159
attribute [go_sem] Tryd.underlying160 Tryd.underlying161 Tryd.underlying162 Tryd.underlying163 Tryd.underlying164 Tryd.underlying165 Tryd.underlying166 Tryd.underlying167 Tryd.underlying168 Tryd.underlying169 Tryd.underlying170 Tryd.underlying171 Tryd.underlying172 Tryd.underlying173 Tryd.underlying174 Tryd.underlying175
attribute [go_sem] Tryd.underlying176 Tryd.underlying177 Tryd.underlying178 Tryd.underlying179 Tryd.underlying180 Tryd.underlying181 Tryd.underlying182 Tryd.underlying183 Tryd.underlying184 Tryd.underlying185 Tryd.underlying186 Tryd.underlying187 Tryd.underlying188 Tryd.underlying189 Tryd.underlying190 Tryd.underlying191
attribute [go_sem] Tryd.underlying192 Tryd.underlying193 Tryd.underlying194 Tryd.underlying195 Tryd.underlying196 Tryd.underlying197 Tryd.underlying198 Tryd.underlying199 Tryd.underlying200 Tryd.underlying201 Tryd.underlying202 Tryd.underlying203 Tryd.underlying204 Tryd.underlying205 Tryd.underlying206 Tryd.underlying207
attribute [go_sem] Tryd.ntmps0 Tryd.results0 Tryd.ntmps1 Tryd.results1 Tryd.ntmps2 Tryd.results2 Tryd.ntmps3 Tryd.results3 Tryd.ntmps4 Tryd.results4 Tryd.ntmps5 Tryd.results5 Tryd.ntmps6 Tryd.results6 Tryd.ntmps7 Tryd.results7
attribute [go_sem] Tryd.ntmps8 Tryd.results8 Tryd.ntmps9 Tryd.results9 Tryd.ntmps10 Tryd.results10 Tryd.ntmps11 Tryd.results11 Tryd.ntmps12 Tryd.results12 Tryd.ntmps13 Tryd.results13 Tryd.ntmps14 Tryd.results14 Tryd.ntmps15 Tryd.results15
attribute [go_sem] Tryd.ntmps16 Tryd.results16 Tryd.ntmps17 Tryd.results17 Tryd.ntmps18 Tryd.results18 Tryd.ntmps19 Tryd.results19 Tryd.ntmps20 Tryd.results20 Tryd.ntmps21 Tryd.results21 Tryd.ntmps22 Tryd.results22 Tryd.ntmps23 Tryd.results23
attribute [go_sem] Tryd.ntmps24 Tryd.results24 Tryd.ntmps25 Tryd.results25 Tryd.ntmps26 Tryd.results26 Tryd.ntmps27 Tryd.results27 Tryd.ntmps28 Tryd.results28 Tryd.ntmps29 Tryd.results29 Tryd.ntmps30 Tryd.results30 Tryd.ntmps31 Tryd.results31
attribute [go_sem] Tryd.ntmps32 Tryd.results32 Tryd.ntmps33 Tryd.results33 Tryd.ntmps34 Tryd.results34 Tryd.ntmps35 Tryd.results35 Tryd.ntmps36 Tryd.results36 Tryd.ntmps37 Tryd.results37 Tryd.ntmps38 Tryd.results38 Tryd.ntmps39 Tryd.results39
attribute [go_sem] Tryd.ntmps40 Tryd.results40 Tryd.ntmps41 Tryd.results41 Tryd.ntmps42 Tryd.results42 Tryd.ntmps43 Tryd.results43 Tryd.ntmps44 Tryd.results44 Tryd.ntmps45 Tryd.results45 Tryd.ntmps46 Tryd.results46 Tryd.ntmps47 Tryd.results47
attribute [go_sem] Tryd.ntmps48 Tryd.results48 Tryd.ntmps49 Tryd.results49 Tryd.ntmps50 Tryd.results50 Tryd.ntmps51 Tryd.results51 Tryd.ntmps52 Tryd.results52 Tryd.ntmps53 Tryd.results53 Tryd.ntmps54 Tryd.results54 Tryd.ntmps55 Tryd.results55
attribute [go_sem] Tryd.ntmps56 Tryd.results56 Tryd.ntmps57 Tryd.results57 Tryd.ntmps58 Tryd.results58 Tryd.ntmps59 Tryd.results59 Tryd.ntmps60 Tryd.results60 Tryd.ntmps61 Tryd.results61 Tryd.ntmps62 Tryd.results62 Tryd.ntmps63 Tryd.results63
attribute [go_sem] Tryd.ntmps64 Tryd.results64 Tryd.ntmps65 Tryd.results65 Tryd.ntmps66 Tryd.results66 Tryd.ntmps67 Tryd.results67 Tryd.ntmps68 Tryd.results68 Tryd.ntmps69 Tryd.results69 Tryd.ntmps70 Tryd.results70 Tryd.ntmps71 Tryd.results71
attribute [go_sem] Tryd.ntmps72 Tryd.results72 Tryd.ntmps73 Tryd.results73 Tryd.ntmps74 Tryd.results74 Tryd.ntmps75 Tryd.results75 Tryd.ntmps76 Tryd.results76 Tryd.ntmps77 Tryd.results77 Tryd.ntmps78 Tryd.results78 Tryd.ntmps79 Tryd.results79
attribute [go_sem] Tryd.ntmps80 Tryd.results80 Tryd.ntmps81 Tryd.results81 Tryd.ntmps82 Tryd.results82 Tryd.ntmps83 Tryd.results83 Tryd.ntmps84 Tryd.results84 Tryd.ntmps85 Tryd.results85 Tryd.ntmps86 Tryd.results86 Tryd.ntmps87 Tryd.results87
attribute [go_sem] Tryd.ntmps88 Tryd.results88 Tryd.ntmps89 Tryd.results89 Tryd.ntmps90 Tryd.results90 Tryd.ntmps91 Tryd.results91 Tryd.ntmps92 Tryd.results92 Tryd.ntmps93 Tryd.results93 Tryd.ntmps94 Tryd.results94 Tryd.ntmps95 Tryd.results95
attribute [go_sem] Tryd.ntmps96 Tryd.results96 Tryd.ntmps97 Tryd.results97 Tryd.ntmps98 Tryd.results98 Tryd.ntmps99 Tryd.results99 Tryd.ntmps100 Tryd.results100 Tryd.ntmps101 Tryd.results101 Tryd.ntmps102 Tryd.results102 Tryd.ntmps103 Tryd.results103
attribute [go_sem] Tryd.ntmps104 Tryd.results104 Tryd.ntmps105 Tryd.results105 Tryd.ntmps106 Tryd.results106 Tryd.ntmps107 Tryd.results107 Tryd.ntmps108 Tryd.results108 Tryd.ntmps109 Tryd.results109 Tryd.ntmps110 Tryd.results110 Tryd.ntmps111 Tryd.results111
attribute [go_sem] Tryd.ntmps112 Tryd.results112 Tryd.ntmps113 Tryd.results113 Tryd.ntmps114 Tryd.results114 Tryd.ntmps115 Tryd.results115 Tryd.ntmps116 Tryd.results116 Tryd.ntmps117 Tryd.results117 Tryd.ntmps118 Tryd.results118 Tryd.ntmps119 Tryd.results119
attribute [go_sem] Tryd.ntmps120 Tryd.results120 Tryd.ntmps121 Tryd.results121 Tryd.ntmps122 Tryd.results122 Tryd.ntmps123 Tryd.results123 Tryd.ntmps124 Tryd.results124 Tryd.ntmps125 Tryd.results125 Tryd.ntmps126 Tryd.results126 Tryd.ntmps127 Tryd.results127
attribute [go_sem] Tryd.ntmps128 Tryd.results128 Tryd.ntmps129 Tryd.results129 Tryd.ntmps130 Tryd.results130 Tryd.ntmps131 Tryd.results131 Tryd.ntmps132 Tryd.results132 Tryd.ntmps133 Tryd.results133
end Go.Proofs.YtmkbpdlijfjgkaaDoor.Ty

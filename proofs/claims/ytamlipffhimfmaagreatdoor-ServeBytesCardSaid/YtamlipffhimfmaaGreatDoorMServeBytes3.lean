/- Texts of mine, one behind another. -/
import Derived.Test.YtamlipffhimfmaaGreatDoorMServeBytes2
import Derived.Test.YtamlipffhimfmaaGreatDoorProg
import Derived.KernelRfl
/- Closed facts on the types and functions of the translation, reckoned by the kernel. Written by a program of this session. -/
namespace Go.Proofs.YtamlipffhimfmaaGreatDoor.Ty
set_option linter.unusedSimpArgs false
set_option linter.unusedVariables false
open Go Go.AX Go.Proofs
@[go_sem ↓] theorem sz_1 : Tryz.prog.cellsOf 1 = 1 := by kernel_rfl
@[go_sem ↓] theorem ag_1 : isAggU (Tryz.prog.underlying 1) = some false := by kernel_rfl
@[go_sem ↓] theorem zr_1 : zrOf Tryz.prog 1 = some [.nilFunc] := by kernel_rfl
@[go_sem ↓] theorem sz_2 : Tryz.prog.cellsOf 2 = 1 := by kernel_rfl
@[go_sem ↓] theorem ag_2 : isAggU (Tryz.prog.underlying 2) = some false := by kernel_rfl
@[go_sem ↓] theorem zr_2 : zrOf Tryz.prog 2 = some [(.int .i64 0)] := by kernel_rfl
@[go_sem ↓] theorem sz_3 : Tryz.prog.cellsOf 3 = 1 := by kernel_rfl
@[go_sem ↓] theorem ag_3 : isAggU (Tryz.prog.underlying 3) = some false := by kernel_rfl
@[go_sem ↓] theorem zr_3 : zrOf Tryz.prog 3 = some [(.int .i64 0)] := by kernel_rfl
@[go_sem ↓] theorem sz_4 : Tryz.prog.cellsOf 4 = 1 := by kernel_rfl
@[go_sem ↓] theorem ag_4 : isAggU (Tryz.prog.underlying 4) = some false := by kernel_rfl
@[go_sem ↓] theorem zr_4 : zrOf Tryz.prog 4 = some [(.bool false)] := by kernel_rfl
@[go_sem ↓] theorem sz_5 : Tryz.prog.cellsOf 5 = 1 := by kernel_rfl
@[go_sem ↓] theorem ag_5 : isAggU (Tryz.prog.underlying 5) = some false := by kernel_rfl
@[go_sem ↓] theorem zr_5 : zrOf Tryz.prog 5 = some [(.int .u8 0)] := by kernel_rfl
@[go_sem ↓] theorem sz_6 : Tryz.prog.cellsOf 6 = 1 := by kernel_rfl
@[go_sem ↓] theorem ag_6 : isAggU (Tryz.prog.underlying 6) = some false := by kernel_rfl
@[go_sem ↓] theorem if_6 : isIfU (Tryz.prog.underlying 6) = false := by kernel_rfl
@[go_sem ↓] theorem zr_6 : zrOf Tryz.prog 6 = some [(.int .u8 0)] := by kernel_rfl
@[go_sem ↓] theorem sz_7 : Tryz.prog.cellsOf 7 = 4 := by kernel_rfl
@[go_sem ↓] theorem ag_7 : isAggU (Tryz.prog.underlying 7) = some true := by kernel_rfl
@[go_sem ↓] theorem zr_7 : zrOf Tryz.prog 7 = some [(.int .i64 0), (.int .i64 0), (.bool false), (.int .u8 0)] := by kernel_rfl
@[go_sem ↓] theorem fo_7_0 : foOf Tryz.prog 7 0 = some 0 := by kernel_rfl
@[go_sem ↓] theorem pl_7_0 : plOf Tryz.prog 7 0 = some (0, 1) := by kernel_rfl
@[go_sem ↓] theorem fo_7_1 : foOf Tryz.prog 7 1 = some 1 := by kernel_rfl
@[go_sem ↓] theorem pl_7_1 : plOf Tryz.prog 7 1 = some (1, 1) := by kernel_rfl
@[go_sem ↓] theorem fo_7_2 : foOf Tryz.prog 7 2 = some 2 := by kernel_rfl
@[go_sem ↓] theorem pl_7_2 : plOf Tryz.prog 7 2 = some (2, 1) := by kernel_rfl
@[go_sem ↓] theorem fo_7_3 : foOf Tryz.prog 7 3 = some 3 := by kernel_rfl
@[go_sem ↓] theorem pl_7_3 : plOf Tryz.prog 7 3 = some (3, 1) := by kernel_rfl
@[go_sem ↓] theorem fl_7 : plOf1 Tryz.prog 7 = true := by kernel_rfl
@[go_sem ↓] theorem sz_8 : Tryz.prog.cellsOf 8 = 4 := by kernel_rfl
@[go_sem ↓] theorem ag_8 : isAggU (Tryz.prog.underlying 8) = some true := by kernel_rfl
@[go_sem ↓] theorem if_8 : isIfU (Tryz.prog.underlying 8) = false := by kernel_rfl
@[go_sem ↓] theorem zr_8 : zrOf Tryz.prog 8 = some [(.int .i64 0), (.int .i64 0), (.bool false), (.int .u8 0)] := by kernel_rfl
@[go_sem ↓] theorem fo_8_0 : foOf Tryz.prog 8 0 = some 0 := by kernel_rfl
@[go_sem ↓] theorem pl_8_0 : plOf Tryz.prog 8 0 = some (0, 1) := by kernel_rfl
@[go_sem ↓] theorem fo_8_1 : foOf Tryz.prog 8 1 = some 1 := by kernel_rfl
@[go_sem ↓] theorem pl_8_1 : plOf Tryz.prog 8 1 = some (1, 1) := by kernel_rfl
@[go_sem ↓] theorem fo_8_2 : foOf Tryz.prog 8 2 = some 2 := by kernel_rfl
@[go_sem ↓] theorem pl_8_2 : plOf Tryz.prog 8 2 = some (2, 1) := by kernel_rfl
@[go_sem ↓] theorem fo_8_3 : foOf Tryz.prog 8 3 = some 3 := by kernel_rfl
@[go_sem ↓] theorem pl_8_3 : plOf Tryz.prog 8 3 = some (3, 1) := by kernel_rfl
@[go_sem ↓] theorem fl_8 : plOf1 Tryz.prog 8 = true := by kernel_rfl
@[go_sem ↓] theorem sz_9 : Tryz.prog.cellsOf 9 = 1 := by kernel_rfl
@[go_sem ↓] theorem ag_9 : isAggU (Tryz.prog.underlying 9) = some false := by kernel_rfl
@[go_sem ↓] theorem if_9 : isIfU (Tryz.prog.underlying 9) = false := by kernel_rfl
@[go_sem ↓] theorem zr_9 : zrOf Tryz.prog 9 = some [(.string ⟨#[]⟩)] := by kernel_rfl
@[go_sem ↓] theorem sz_10 : Tryz.prog.cellsOf 10 = 1 := by kernel_rfl
@[go_sem ↓] theorem ag_10 : isAggU (Tryz.prog.underlying 10) = some false := by kernel_rfl
@[go_sem ↓] theorem if_10 : isIfU (Tryz.prog.underlying 10) = false := by kernel_rfl
@[go_sem ↓] theorem zr_10 : zrOf Tryz.prog 10 = some [(.string ⟨#[]⟩)] := by kernel_rfl
@[go_sem ↓] theorem sz_11 : Tryz.prog.cellsOf 11 = 1 := by kernel_rfl
@[go_sem ↓] theorem ag_11 : isAggU (Tryz.prog.underlying 11) = some false := by kernel_rfl
@[go_sem ↓] theorem if_11 : isIfU (Tryz.prog.underlying 11) = false := by kernel_rfl
@[go_sem ↓] theorem zr_11 : zrOf Tryz.prog 11 = some [(.string ⟨#[]⟩)] := by kernel_rfl
@[go_sem ↓] theorem sz_12 : Tryz.prog.cellsOf 12 = 1 := by kernel_rfl
@[go_sem ↓] theorem ag_12 : isAggU (Tryz.prog.underlying 12) = some false := by kernel_rfl
@[go_sem ↓] theorem zr_12 : zrOf Tryz.prog 12 = some [(.int .u64 0)] := by kernel_rfl
@[go_sem ↓] theorem sz_13 : Tryz.prog.cellsOf 13 = 2 := by kernel_rfl
@[go_sem ↓] theorem ag_13 : isAggU (Tryz.prog.underlying 13) = some true := by kernel_rfl
@[go_sem ↓] theorem zr_13 : zrOf Tryz.prog 13 = some [(.string ⟨#[]⟩), (.int .u64 0)] := by kernel_rfl
@[go_sem ↓] theorem fo_13_0 : foOf Tryz.prog 13 0 = some 0 := by kernel_rfl
@[go_sem ↓] theorem pl_13_0 : plOf Tryz.prog 13 0 = some (0, 1) := by kernel_rfl
@[go_sem ↓] theorem fo_13_1 : foOf Tryz.prog 13 1 = some 1 := by kernel_rfl
@[go_sem ↓] theorem pl_13_1 : plOf Tryz.prog 13 1 = some (1, 1) := by kernel_rfl
@[go_sem ↓] theorem fl_13 : plOf1 Tryz.prog 13 = true := by kernel_rfl
@[go_sem ↓] theorem sz_14 : Tryz.prog.cellsOf 14 = 2 := by kernel_rfl
@[go_sem ↓] theorem ag_14 : isAggU (Tryz.prog.underlying 14) = some true := by kernel_rfl
@[go_sem ↓] theorem if_14 : isIfU (Tryz.prog.underlying 14) = false := by kernel_rfl
@[go_sem ↓] theorem zr_14 : zrOf Tryz.prog 14 = some [(.string ⟨#[]⟩), (.int .u64 0)] := by kernel_rfl
@[go_sem ↓] theorem fo_14_0 : foOf Tryz.prog 14 0 = some 0 := by kernel_rfl
@[go_sem ↓] theorem pl_14_0 : plOf Tryz.prog 14 0 = some (0, 1) := by kernel_rfl
@[go_sem ↓] theorem fo_14_1 : foOf Tryz.prog 14 1 = some 1 := by kernel_rfl
@[go_sem ↓] theorem pl_14_1 : plOf Tryz.prog 14 1 = some (1, 1) := by kernel_rfl
@[go_sem ↓] theorem fl_14 : plOf1 Tryz.prog 14 = true := by kernel_rfl
@[go_sem ↓] theorem sz_15 : Tryz.prog.cellsOf 15 = 1 := by kernel_rfl
@[go_sem ↓] theorem ag_15 : isAggU (Tryz.prog.underlying 15) = some false := by kernel_rfl
@[go_sem ↓] theorem if_15 : isIfU (Tryz.prog.underlying 15) = false := by kernel_rfl
@[go_sem ↓] theorem zr_15 : zrOf Tryz.prog 15 = some [(.pointer none)] := by kernel_rfl
@[go_sem ↓] theorem sz_16 : Tryz.prog.cellsOf 16 = 1 := by kernel_rfl
@[go_sem ↓] theorem ag_16 : isAggU (Tryz.prog.underlying 16) = some false := by kernel_rfl
@[go_sem ↓] theorem if_16 : isIfU (Tryz.prog.underlying 16) = false := by kernel_rfl
@[go_sem ↓] theorem zr_16 : zrOf Tryz.prog 16 = some [(.pointer none)] := by kernel_rfl
@[go_sem ↓] theorem sz_17 : Tryz.prog.cellsOf 17 = 1 := by kernel_rfl
@[go_sem ↓] theorem ag_17 : isAggU (Tryz.prog.underlying 17) = some false := by kernel_rfl
@[go_sem ↓] theorem if_17 : isIfU (Tryz.prog.underlying 17) = false := by kernel_rfl
@[go_sem ↓] theorem zr_17 : zrOf Tryz.prog 17 = some [(.pointer none)] := by kernel_rfl
@[go_sem ↓] theorem sz_18 : Tryz.prog.cellsOf 18 = 1 := by kernel_rfl
@[go_sem ↓] theorem ag_18 : isAggU (Tryz.prog.underlying 18) = some true := by kernel_rfl
@[go_sem ↓] theorem zr_18 : zrOf Tryz.prog 18 = some [(.pointer none)] := by kernel_rfl
@[go_sem ↓] theorem fo_18_0 : foOf Tryz.prog 18 0 = some 0 := by kernel_rfl
@[go_sem ↓] theorem pl_18_0 : plOf Tryz.prog 18 0 = some (0, 1) := by kernel_rfl
@[go_sem ↓] theorem fl_18 : plOf1 Tryz.prog 18 = true := by kernel_rfl
@[go_sem ↓] theorem sz_19 : Tryz.prog.cellsOf 19 = 1 := by kernel_rfl
@[go_sem ↓] theorem ag_19 : isAggU (Tryz.prog.underlying 19) = some true := by kernel_rfl
@[go_sem ↓] theorem if_19 : isIfU (Tryz.prog.underlying 19) = false := by kernel_rfl
@[go_sem ↓] theorem zr_19 : zrOf Tryz.prog 19 = some [(.pointer none)] := by kernel_rfl
@[go_sem ↓] theorem fo_19_0 : foOf Tryz.prog 19 0 = some 0 := by kernel_rfl
@[go_sem ↓] theorem pl_19_0 : plOf Tryz.prog 19 0 = some (0, 1) := by kernel_rfl
@[go_sem ↓] theorem fl_19 : plOf1 Tryz.prog 19 = true := by kernel_rfl
@[go_sem ↓] theorem sz_20 : Tryz.prog.cellsOf 20 = 1 := by kernel_rfl
@[go_sem ↓] theorem ag_20 : isAggU (Tryz.prog.underlying 20) = some false := by kernel_rfl
@[go_sem ↓] theorem zr_20 : zrOf Tryz.prog 20 = some [.nilIface] := by kernel_rfl
@[go_sem ↓] theorem sz_21 : Tryz.prog.cellsOf 21 = 1 := by kernel_rfl
@[go_sem ↓] theorem ag_21 : isAggU (Tryz.prog.underlying 21) = some false := by kernel_rfl
@[go_sem ↓] theorem zr_21 : zrOf Tryz.prog 21 = some [(.int .i32 0)] := by kernel_rfl
@[go_sem ↓] theorem sz_22 : Tryz.prog.cellsOf 22 = 1 := by kernel_rfl
@[go_sem ↓] theorem ag_22 : isAggU (Tryz.prog.underlying 22) = some false := by kernel_rfl
@[go_sem ↓] theorem es_22 : elSz Tryz.prog 22 = 3 := by kernel_rfl
@[go_sem ↓] theorem zr_22 : zrOf Tryz.prog 22 = some [(.slice none 0 0)] := by kernel_rfl
@[go_sem ↓] theorem sz_23 : Tryz.prog.cellsOf 23 = 3 := by kernel_rfl
@[go_sem ↓] theorem ag_23 : isAggU (Tryz.prog.underlying 23) = some true := by kernel_rfl
@[go_sem ↓] theorem zr_23 : zrOf Tryz.prog 23 = some [(.int .i64 0), (.int .i64 0), (.int .i64 0)] := by kernel_rfl
@[go_sem ↓] theorem fo_23_0 : foOf Tryz.prog 23 0 = some 0 := by kernel_rfl
@[go_sem ↓] theorem pl_23_0 : plOf Tryz.prog 23 0 = some (0, 1) := by kernel_rfl
@[go_sem ↓] theorem fo_23_1 : foOf Tryz.prog 23 1 = some 1 := by kernel_rfl
@[go_sem ↓] theorem pl_23_1 : plOf Tryz.prog 23 1 = some (1, 1) := by kernel_rfl
@[go_sem ↓] theorem fo_23_2 : foOf Tryz.prog 23 2 = some 2 := by kernel_rfl
@[go_sem ↓] theorem pl_23_2 : plOf Tryz.prog 23 2 = some (2, 1) := by kernel_rfl
@[go_sem ↓] theorem fl_23 : plOf1 Tryz.prog 23 = true := by kernel_rfl
@[go_sem ↓] theorem sz_24 : Tryz.prog.cellsOf 24 = 3 := by kernel_rfl
@[go_sem ↓] theorem ag_24 : isAggU (Tryz.prog.underlying 24) = some true := by kernel_rfl
@[go_sem ↓] theorem if_24 : isIfU (Tryz.prog.underlying 24) = false := by kernel_rfl
@[go_sem ↓] theorem zr_24 : zrOf Tryz.prog 24 = some [(.int .i64 0), (.int .i64 0), (.int .i64 0)] := by kernel_rfl
@[go_sem ↓] theorem fo_24_0 : foOf Tryz.prog 24 0 = some 0 := by kernel_rfl
@[go_sem ↓] theorem pl_24_0 : plOf Tryz.prog 24 0 = some (0, 1) := by kernel_rfl
@[go_sem ↓] theorem fo_24_1 : foOf Tryz.prog 24 1 = some 1 := by kernel_rfl
@[go_sem ↓] theorem pl_24_1 : plOf Tryz.prog 24 1 = some (1, 1) := by kernel_rfl
@[go_sem ↓] theorem fo_24_2 : foOf Tryz.prog 24 2 = some 2 := by kernel_rfl
@[go_sem ↓] theorem pl_24_2 : plOf Tryz.prog 24 2 = some (2, 1) := by kernel_rfl
@[go_sem ↓] theorem fl_24 : plOf1 Tryz.prog 24 = true := by kernel_rfl
@[go_sem ↓] theorem sz_25 : Tryz.prog.cellsOf 25 = 4 := by kernel_rfl
@[go_sem ↓] theorem ag_25 : isAggU (Tryz.prog.underlying 25) = some true := by kernel_rfl
@[go_sem ↓] theorem es_25 : elSz Tryz.prog 25 = 1 := by kernel_rfl
@[go_sem ↓] theorem zr_25 : zrOf Tryz.prog 25 = some [(.int .u8 0), (.int .u8 0), (.int .u8 0), (.int .u8 0)] := by kernel_rfl
@[go_sem ↓] theorem fl_25 : plOf1 Tryz.prog 25 = true := by kernel_rfl
@[go_sem ↓] theorem pl_25_0 : plOf Tryz.prog 25 0 = some (0, 1) := by kernel_rfl
@[go_sem ↓] theorem pl_25_1 : plOf Tryz.prog 25 1 = some (1, 1) := by kernel_rfl
@[go_sem ↓] theorem pl_25_2 : plOf Tryz.prog 25 2 = some (2, 1) := by kernel_rfl
@[go_sem ↓] theorem pl_25_3 : plOf Tryz.prog 25 3 = some (3, 1) := by kernel_rfl
@[go_sem ↓] theorem sz_26 : Tryz.prog.cellsOf 26 = 4 := by kernel_rfl
@[go_sem ↓] theorem ag_26 : isAggU (Tryz.prog.underlying 26) = some true := by kernel_rfl
@[go_sem ↓] theorem if_26 : isIfU (Tryz.prog.underlying 26) = false := by kernel_rfl
@[go_sem ↓] theorem es_26 : elSz Tryz.prog 26 = 1 := by kernel_rfl
@[go_sem ↓] theorem zr_26 : zrOf Tryz.prog 26 = some [(.int .u8 0), (.int .u8 0), (.int .u8 0), (.int .u8 0)] := by kernel_rfl
@[go_sem ↓] theorem fl_26 : plOf1 Tryz.prog 26 = true := by kernel_rfl
@[go_sem ↓] theorem pl_26_0 : plOf Tryz.prog 26 0 = some (0, 1) := by kernel_rfl
@[go_sem ↓] theorem pl_26_1 : plOf Tryz.prog 26 1 = some (1, 1) := by kernel_rfl
@[go_sem ↓] theorem pl_26_2 : plOf Tryz.prog 26 2 = some (2, 1) := by kernel_rfl
@[go_sem ↓] theorem pl_26_3 : plOf Tryz.prog 26 3 = some (3, 1) := by kernel_rfl
@[go_sem ↓] theorem sz_27 : Tryz.prog.cellsOf 27 = 5 := by kernel_rfl
@[go_sem ↓] theorem ag_27 : isAggU (Tryz.prog.underlying 27) = some true := by kernel_rfl
@[go_sem ↓] theorem es_27 : elSz Tryz.prog 27 = 1 := by kernel_rfl
@[go_sem ↓] theorem zr_27 : zrOf Tryz.prog 27 = some [(.int .u8 0), (.int .u8 0), (.int .u8 0), (.int .u8 0), (.int .u8 0)] := by kernel_rfl
@[go_sem ↓] theorem fl_27 : plOf1 Tryz.prog 27 = true := by kernel_rfl
@[go_sem ↓] theorem pl_27_0 : plOf Tryz.prog 27 0 = some (0, 1) := by kernel_rfl
@[go_sem ↓] theorem pl_27_1 : plOf Tryz.prog 27 1 = some (1, 1) := by kernel_rfl
@[go_sem ↓] theorem pl_27_2 : plOf Tryz.prog 27 2 = some (2, 1) := by kernel_rfl
@[go_sem ↓] theorem pl_27_3 : plOf Tryz.prog 27 3 = some (3, 1) := by kernel_rfl
@[go_sem ↓] theorem pl_27_4 : plOf Tryz.prog 27 4 = some (4, 1) := by kernel_rfl
@[go_sem ↓] theorem sz_28 : Tryz.prog.cellsOf 28 = 1 := by kernel_rfl
@[go_sem ↓] theorem ag_28 : isAggU (Tryz.prog.underlying 28) = some false := by kernel_rfl
@[go_sem ↓] theorem if_28 : isIfU (Tryz.prog.underlying 28) = false := by kernel_rfl
@[go_sem ↓] theorem zr_28 : zrOf Tryz.prog 28 = some [(.int .i64 0)] := by kernel_rfl
@[go_sem ↓] theorem sz_30 : Tryz.prog.cellsOf 30 = 1 := by kernel_rfl
@[go_sem ↓] theorem ag_30 : isAggU (Tryz.prog.underlying 30) = some false := by kernel_rfl
@[go_sem ↓] theorem zr_30 : zrOf Tryz.prog 30 = some [.nilFunc] := by kernel_rfl
@[go_sem ↓] theorem sz_32 : Tryz.prog.cellsOf 32 = 1 := by kernel_rfl
@[go_sem ↓] theorem ag_32 : isAggU (Tryz.prog.underlying 32) = some false := by kernel_rfl
@[go_sem ↓] theorem zr_32 : zrOf Tryz.prog 32 = some [.nilFunc] := by kernel_rfl
@[go_sem ↓] theorem sz_34 : Tryz.prog.cellsOf 34 = 1 := by kernel_rfl
@[go_sem ↓] theorem ag_34 : isAggU (Tryz.prog.underlying 34) = some false := by kernel_rfl
@[go_sem ↓] theorem zr_34 : zrOf Tryz.prog 34 = some [.nilFunc] := by kernel_rfl
@[go_sem ↓] theorem sz_36 : Tryz.prog.cellsOf 36 = 1 := by kernel_rfl
@[go_sem ↓] theorem ag_36 : isAggU (Tryz.prog.underlying 36) = some false := by kernel_rfl
@[go_sem ↓] theorem zr_36 : zrOf Tryz.prog 36 = some [.nilFunc] := by kernel_rfl
@[go_sem ↓] theorem sz_37 : Tryz.prog.cellsOf 37 = 1 := by kernel_rfl
@[go_sem ↓] theorem ag_37 : isAggU (Tryz.prog.underlying 37) = some false := by kernel_rfl
@[go_sem ↓] theorem if_37 : isIfU (Tryz.prog.underlying 37) = false := by kernel_rfl
@[go_sem ↓] theorem zr_37 : zrOf Tryz.prog 37 = some [(.pointer none)] := by kernel_rfl
@[go_sem ↓] theorem sz_38 : Tryz.prog.cellsOf 38 = 1 := by kernel_rfl
@[go_sem ↓] theorem ag_38 : isAggU (Tryz.prog.underlying 38) = some false := by kernel_rfl
@[go_sem ↓] theorem if_38 : isIfU (Tryz.prog.underlying 38) = false := by kernel_rfl
@[go_sem ↓] theorem zr_38 : zrOf Tryz.prog 38 = some [(.pointer none)] := by kernel_rfl
@[go_sem ↓] theorem sz_40 : Tryz.prog.cellsOf 40 = 1 := by kernel_rfl
@[go_sem ↓] theorem ag_40 : isAggU (Tryz.prog.underlying 40) = some false := by kernel_rfl
@[go_sem ↓] theorem zr_40 : zrOf Tryz.prog 40 = some [.nilFunc] := by kernel_rfl
@[go_sem ↓] theorem sz_42 : Tryz.prog.cellsOf 42 = 1 := by kernel_rfl
@[go_sem ↓] theorem ag_42 : isAggU (Tryz.prog.underlying 42) = some false := by kernel_rfl
@[go_sem ↓] theorem zr_42 : zrOf Tryz.prog 42 = some [.nilFunc] := by kernel_rfl
@[go_sem ↓] theorem sz_43 : Tryz.prog.cellsOf 43 = 1 := by kernel_rfl
@[go_sem ↓] theorem ag_43 : isAggU (Tryz.prog.underlying 43) = some false := by kernel_rfl
@[go_sem ↓] theorem zr_43 : zrOf Tryz.prog 43 = some [.nilFunc] := by kernel_rfl
@[go_sem ↓] theorem sz_44 : Tryz.prog.cellsOf 44 = 1 := by kernel_rfl
@[go_sem ↓] theorem ag_44 : isAggU (Tryz.prog.underlying 44) = some false := by kernel_rfl
@[go_sem ↓] theorem zr_44 : zrOf Tryz.prog 44 = some [.nilFunc] := by kernel_rfl
@[go_sem ↓] theorem sz_45 : Tryz.prog.cellsOf 45 = 1 := by kernel_rfl
@[go_sem ↓] theorem ag_45 : isAggU (Tryz.prog.underlying 45) = some false := by kernel_rfl
@[go_sem ↓] theorem zr_45 : zrOf Tryz.prog 45 = some [.nilFunc] := by kernel_rfl
@[go_sem ↓] theorem sz_46 : Tryz.prog.cellsOf 46 = 1 := by kernel_rfl
@[go_sem ↓] theorem ag_46 : isAggU (Tryz.prog.underlying 46) = some false := by kernel_rfl
@[go_sem ↓] theorem zr_46 : zrOf Tryz.prog 46 = some [.nilFunc] := by kernel_rfl
@[go_sem ↓] theorem sz_47 : Tryz.prog.cellsOf 47 = 1 := by kernel_rfl
@[go_sem ↓] theorem ag_47 : isAggU (Tryz.prog.underlying 47) = some false := by kernel_rfl
@[go_sem ↓] theorem zr_47 : zrOf Tryz.prog 47 = some [.nilFunc] := by kernel_rfl
@[go_sem ↓] theorem sz_48 : Tryz.prog.cellsOf 48 = 2 := by kernel_rfl
@[go_sem ↓] theorem ag_48 : isAggU (Tryz.prog.underlying 48) = some true := by kernel_rfl
@[go_sem ↓] theorem zr_48 : zrOf Tryz.prog 48 = some [(.slice none 0 0), (.int .i64 0)] := by kernel_rfl
@[go_sem ↓] theorem fo_48_0 : foOf Tryz.prog 48 0 = some 0 := by kernel_rfl
@[go_sem ↓] theorem pl_48_0 : plOf Tryz.prog 48 0 = some (0, 1) := by kernel_rfl
@[go_sem ↓] theorem fo_48_1 : foOf Tryz.prog 48 1 = some 1 := by kernel_rfl
@[go_sem ↓] theorem pl_48_1 : plOf Tryz.prog 48 1 = some (1, 1) := by kernel_rfl
@[go_sem ↓] theorem fl_48 : plOf1 Tryz.prog 48 = true := by kernel_rfl
@[go_sem ↓] theorem sz_49 : Tryz.prog.cellsOf 49 = 2 := by kernel_rfl
@[go_sem ↓] theorem ag_49 : isAggU (Tryz.prog.underlying 49) = some true := by kernel_rfl
@[go_sem ↓] theorem if_49 : isIfU (Tryz.prog.underlying 49) = false := by kernel_rfl
@[go_sem ↓] theorem zr_49 : zrOf Tryz.prog 49 = some [(.slice none 0 0), (.int .i64 0)] := by kernel_rfl
@[go_sem ↓] theorem fo_49_0 : foOf Tryz.prog 49 0 = some 0 := by kernel_rfl
@[go_sem ↓] theorem pl_49_0 : plOf Tryz.prog 49 0 = some (0, 1) := by kernel_rfl
@[go_sem ↓] theorem fo_49_1 : foOf Tryz.prog 49 1 = some 1 := by kernel_rfl
@[go_sem ↓] theorem pl_49_1 : plOf Tryz.prog 49 1 = some (1, 1) := by kernel_rfl
@[go_sem ↓] theorem fl_49 : plOf1 Tryz.prog 49 = true := by kernel_rfl
@[go_sem ↓] theorem sz_50 : Tryz.prog.cellsOf 50 = 1 := by kernel_rfl
@[go_sem ↓] theorem ag_50 : isAggU (Tryz.prog.underlying 50) = some false := by kernel_rfl
@[go_sem ↓] theorem zr_50 : zrOf Tryz.prog 50 = some [.nilFunc] := by kernel_rfl
@[go_sem ↓] theorem sz_51 : Tryz.prog.cellsOf 51 = 1 := by kernel_rfl
@[go_sem ↓] theorem ag_51 : isAggU (Tryz.prog.underlying 51) = some false := by kernel_rfl
@[go_sem ↓] theorem zr_51 : zrOf Tryz.prog 51 = some [.nilFunc] := by kernel_rfl
@[go_sem ↓] theorem sz_52 : Tryz.prog.cellsOf 52 = 14 := by kernel_rfl
@[go_sem ↓] theorem ag_52 : isAggU (Tryz.prog.underlying 52) = some true := by kernel_rfl
@[go_sem ↓] theorem es_52 : elSz Tryz.prog 52 = 1 := by kernel_rfl
@[go_sem ↓] theorem zr_52 : zrOf Tryz.prog 52 = some [(.int .u8 0), (.int .u8 0), (.int .u8 0), (.int .u8 0), (.int .u8 0), (.int .u8 0), (.int .u8 0), (.int .u8 0), (.int .u8 0), (.int .u8 0), (.int .u8 0), (.int .u8 0), (.int .u8 0), (.int .u8 0)] := by kernel_rfl
@[go_sem ↓] theorem fl_52 : plOf1 Tryz.prog 52 = true := by kernel_rfl
@[go_sem ↓] theorem pl_52_0 : plOf Tryz.prog 52 0 = some (0, 1) := by kernel_rfl
@[go_sem ↓] theorem pl_52_1 : plOf Tryz.prog 52 1 = some (1, 1) := by kernel_rfl
@[go_sem ↓] theorem pl_52_2 : plOf Tryz.prog 52 2 = some (2, 1) := by kernel_rfl
@[go_sem ↓] theorem pl_52_3 : plOf Tryz.prog 52 3 = some (3, 1) := by kernel_rfl
@[go_sem ↓] theorem pl_52_4 : plOf Tryz.prog 52 4 = some (4, 1) := by kernel_rfl
@[go_sem ↓] theorem pl_52_5 : plOf Tryz.prog 52 5 = some (5, 1) := by kernel_rfl
@[go_sem ↓] theorem pl_52_6 : plOf Tryz.prog 52 6 = some (6, 1) := by kernel_rfl
@[go_sem ↓] theorem pl_52_7 : plOf Tryz.prog 52 7 = some (7, 1) := by kernel_rfl
@[go_sem ↓] theorem pl_52_8 : plOf Tryz.prog 52 8 = some (8, 1) := by kernel_rfl
@[go_sem ↓] theorem pl_52_9 : plOf Tryz.prog 52 9 = some (9, 1) := by kernel_rfl
@[go_sem ↓] theorem pl_52_10 : plOf Tryz.prog 52 10 = some (10, 1) := by kernel_rfl
@[go_sem ↓] theorem pl_52_11 : plOf Tryz.prog 52 11 = some (11, 1) := by kernel_rfl
@[go_sem ↓] theorem pl_52_12 : plOf Tryz.prog 52 12 = some (12, 1) := by kernel_rfl
@[go_sem ↓] theorem pl_52_13 : plOf Tryz.prog 52 13 = some (13, 1) := by kernel_rfl
@[go_sem ↓] theorem sz_53 : Tryz.prog.cellsOf 53 = 1 := by kernel_rfl
@[go_sem ↓] theorem ag_53 : isAggU (Tryz.prog.underlying 53) = some false := by kernel_rfl
@[go_sem ↓] theorem zr_53 : zrOf Tryz.prog 53 = some [(.map none)] := by kernel_rfl
@[go_sem ↓] theorem sz_54 : Tryz.prog.cellsOf 54 = 1 := by kernel_rfl
@[go_sem ↓] theorem ag_54 : isAggU (Tryz.prog.underlying 54) = some false := by kernel_rfl
@[go_sem ↓] theorem zr_54 : zrOf Tryz.prog 54 = some [.nilFunc] := by kernel_rfl
@[go_sem ↓] theorem sz_55 : Tryz.prog.cellsOf 55 = 1 := by kernel_rfl
@[go_sem ↓] theorem ag_55 : isAggU (Tryz.prog.underlying 55) = some false := by kernel_rfl
@[go_sem ↓] theorem zr_55 : zrOf Tryz.prog 55 = some [.nilFunc] := by kernel_rfl
@[go_sem ↓] theorem sz_56 : Tryz.prog.cellsOf 56 = 1 := by kernel_rfl
@[go_sem ↓] theorem ag_56 : isAggU (Tryz.prog.underlying 56) = some false := by kernel_rfl
@[go_sem ↓] theorem zr_56 : zrOf Tryz.prog 56 = some [.nilFunc] := by kernel_rfl
@[go_sem ↓] theorem sz_57 : Tryz.prog.cellsOf 57 = 1 := by kernel_rfl
@[go_sem ↓] theorem ag_57 : isAggU (Tryz.prog.underlying 57) = some false := by kernel_rfl
@[go_sem ↓] theorem es_57 : elSz Tryz.prog 57 = 4 := by kernel_rfl
@[go_sem ↓] theorem zr_57 : zrOf Tryz.prog 57 = some [(.slice none 0 0)] := by kernel_rfl
@[go_sem ↓] theorem sz_58 : Tryz.prog.cellsOf 58 = 1 := by kernel_rfl
@[go_sem ↓] theorem ag_58 : isAggU (Tryz.prog.underlying 58) = some false := by kernel_rfl
@[go_sem ↓] theorem es_58 : elSz Tryz.prog 58 = 1 := by kernel_rfl
@[go_sem ↓] theorem zr_58 : zrOf Tryz.prog 58 = some [(.slice none 0 0)] := by kernel_rfl
@[go_sem ↓] theorem sz_59 : Tryz.prog.cellsOf 59 = 1 := by kernel_rfl
@[go_sem ↓] theorem ag_59 : isAggU (Tryz.prog.underlying 59) = some false := by kernel_rfl
@[go_sem ↓] theorem es_59 : elSz Tryz.prog 59 = 1 := by kernel_rfl
@[go_sem ↓] theorem zr_59 : zrOf Tryz.prog 59 = some [(.slice none 0 0)] := by kernel_rfl
@[go_sem ↓] theorem sz_60 : Tryz.prog.cellsOf 60 = 1 := by kernel_rfl
@[go_sem ↓] theorem ag_60 : isAggU (Tryz.prog.underlying 60) = some false := by kernel_rfl
@[go_sem ↓] theorem es_60 : elSz Tryz.prog 60 = 1 := by kernel_rfl
@[go_sem ↓] theorem zr_60 : zrOf Tryz.prog 60 = some [(.slice none 0 0)] := by kernel_rfl
@[go_sem ↓] theorem sz_61 : Tryz.prog.cellsOf 61 = 1 := by kernel_rfl
@[go_sem ↓] theorem ag_61 : isAggU (Tryz.prog.underlying 61) = some false := by kernel_rfl
@[go_sem ↓] theorem es_61 : elSz Tryz.prog 61 = 1 := by kernel_rfl
@[go_sem ↓] theorem zr_61 : zrOf Tryz.prog 61 = some [(.slice none 0 0)] := by kernel_rfl
@[go_sem ↓] theorem sz_63 : Tryz.prog.cellsOf 63 = 1 := by kernel_rfl
@[go_sem ↓] theorem ag_63 : isAggU (Tryz.prog.underlying 63) = some false := by kernel_rfl
@[go_sem ↓] theorem zr_63 : zrOf Tryz.prog 63 = some [.nilFunc] := by kernel_rfl
@[go_sem ↓] theorem sz_65 : Tryz.prog.cellsOf 65 = 1 := by kernel_rfl
@[go_sem ↓] theorem ag_65 : isAggU (Tryz.prog.underlying 65) = some false := by kernel_rfl
@[go_sem ↓] theorem zr_65 : zrOf Tryz.prog 65 = some [.nilFunc] := by kernel_rfl
@[go_sem ↓] theorem sz_66 : Tryz.prog.cellsOf 66 = 1 := by kernel_rfl
@[go_sem ↓] theorem ag_66 : isAggU (Tryz.prog.underlying 66) = some false := by kernel_rfl
@[go_sem ↓] theorem zr_66 : zrOf Tryz.prog 66 = some [(.int .u64 0)] := by kernel_rfl
@[go_sem ↓] theorem sz_67 : Tryz.prog.cellsOf 67 = 2 := by kernel_rfl
@[go_sem ↓] theorem ag_67 : isAggU (Tryz.prog.underlying 67) = some true := by kernel_rfl
@[go_sem ↓] theorem zr_67 : zrOf Tryz.prog 67 = some [(.int .i64 0), (.int .i64 0)] := by kernel_rfl
@[go_sem ↓] theorem fo_67_0 : foOf Tryz.prog 67 0 = some 0 := by kernel_rfl
@[go_sem ↓] theorem pl_67_0 : plOf Tryz.prog 67 0 = some (0, 1) := by kernel_rfl
@[go_sem ↓] theorem fo_67_1 : foOf Tryz.prog 67 1 = some 1 := by kernel_rfl
@[go_sem ↓] theorem pl_67_1 : plOf Tryz.prog 67 1 = some (1, 1) := by kernel_rfl
@[go_sem ↓] theorem fl_67 : plOf1 Tryz.prog 67 = true := by kernel_rfl
@[go_sem ↓] theorem sz_68 : Tryz.prog.cellsOf 68 = 2 := by kernel_rfl
@[go_sem ↓] theorem ag_68 : isAggU (Tryz.prog.underlying 68) = some true := by kernel_rfl
@[go_sem ↓] theorem if_68 : isIfU (Tryz.prog.underlying 68) = false := by kernel_rfl
@[go_sem ↓] theorem zr_68 : zrOf Tryz.prog 68 = some [(.int .i64 0), (.int .i64 0)] := by kernel_rfl
@[go_sem ↓] theorem fo_68_0 : foOf Tryz.prog 68 0 = some 0 := by kernel_rfl
@[go_sem ↓] theorem pl_68_0 : plOf Tryz.prog 68 0 = some (0, 1) := by kernel_rfl
@[go_sem ↓] theorem fo_68_1 : foOf Tryz.prog 68 1 = some 1 := by kernel_rfl
@[go_sem ↓] theorem pl_68_1 : plOf Tryz.prog 68 1 = some (1, 1) := by kernel_rfl
@[go_sem ↓] theorem fl_68 : plOf1 Tryz.prog 68 = true := by kernel_rfl
@[go_sem ↓] theorem sz_69 : Tryz.prog.cellsOf 69 = 1 := by kernel_rfl
@[go_sem ↓] theorem ag_69 : isAggU (Tryz.prog.underlying 69) = some false := by kernel_rfl
@[go_sem ↓] theorem es_69 : elSz Tryz.prog 69 = 2 := by kernel_rfl
@[go_sem ↓] theorem zr_69 : zrOf Tryz.prog 69 = some [(.slice none 0 0)] := by kernel_rfl
@[go_sem ↓] theorem sz_70 : Tryz.prog.cellsOf 70 = 1 := by kernel_rfl
@[go_sem ↓] theorem ag_70 : isAggU (Tryz.prog.underlying 70) = some false := by kernel_rfl
@[go_sem ↓] theorem es_70 : elSz Tryz.prog 70 = 4 := by kernel_rfl
@[go_sem ↓] theorem zr_70 : zrOf Tryz.prog 70 = some [(.slice none 0 0)] := by kernel_rfl
@[go_sem ↓] theorem sz_71 : Tryz.prog.cellsOf 71 = 2 := by kernel_rfl
@[go_sem ↓] theorem ag_71 : isAggU (Tryz.prog.underlying 71) = some true := by kernel_rfl
@[go_sem ↓] theorem zr_71 : zrOf Tryz.prog 71 = some [(.int .i64 0), (.slice none 0 0)] := by kernel_rfl
@[go_sem ↓] theorem fo_71_0 : foOf Tryz.prog 71 0 = some 0 := by kernel_rfl
@[go_sem ↓] theorem pl_71_0 : plOf Tryz.prog 71 0 = some (0, 1) := by kernel_rfl
@[go_sem ↓] theorem fo_71_1 : foOf Tryz.prog 71 1 = some 1 := by kernel_rfl
@[go_sem ↓] theorem pl_71_1 : plOf Tryz.prog 71 1 = some (1, 1) := by kernel_rfl
@[go_sem ↓] theorem fl_71 : plOf1 Tryz.prog 71 = true := by kernel_rfl
@[go_sem ↓] theorem sz_72 : Tryz.prog.cellsOf 72 = 2 := by kernel_rfl
@[go_sem ↓] theorem ag_72 : isAggU (Tryz.prog.underlying 72) = some true := by kernel_rfl
@[go_sem ↓] theorem if_72 : isIfU (Tryz.prog.underlying 72) = false := by kernel_rfl
@[go_sem ↓] theorem zr_72 : zrOf Tryz.prog 72 = some [(.int .i64 0), (.slice none 0 0)] := by kernel_rfl
@[go_sem ↓] theorem fo_72_0 : foOf Tryz.prog 72 0 = some 0 := by kernel_rfl
@[go_sem ↓] theorem pl_72_0 : plOf Tryz.prog 72 0 = some (0, 1) := by kernel_rfl
@[go_sem ↓] theorem fo_72_1 : foOf Tryz.prog 72 1 = some 1 := by kernel_rfl
@[go_sem ↓] theorem pl_72_1 : plOf Tryz.prog 72 1 = some (1, 1) := by kernel_rfl
@[go_sem ↓] theorem fl_72 : plOf1 Tryz.prog 72 = true := by kernel_rfl
@[go_sem ↓] theorem sz_73 : Tryz.prog.cellsOf 73 = 3 := by kernel_rfl
@[go_sem ↓] theorem ag_73 : isAggU (Tryz.prog.underlying 73) = some true := by kernel_rfl
@[go_sem ↓] theorem zr_73 : zrOf Tryz.prog 73 = some [(.int .i64 0), (.int .i64 0), (.slice none 0 0)] := by kernel_rfl
@[go_sem ↓] theorem fo_73_0 : foOf Tryz.prog 73 0 = some 0 := by kernel_rfl
@[go_sem ↓] theorem pl_73_0 : plOf Tryz.prog 73 0 = some (0, 1) := by kernel_rfl
@[go_sem ↓] theorem fo_73_1 : foOf Tryz.prog 73 1 = some 1 := by kernel_rfl
@[go_sem ↓] theorem pl_73_1 : plOf Tryz.prog 73 1 = some (1, 2) := by kernel_rfl
@[go_sem ↓] theorem fl_73 : plOf1 Tryz.prog 73 = true := by kernel_rfl
@[go_sem ↓] theorem sz_74 : Tryz.prog.cellsOf 74 = 3 := by kernel_rfl
@[go_sem ↓] theorem ag_74 : isAggU (Tryz.prog.underlying 74) = some true := by kernel_rfl
@[go_sem ↓] theorem if_74 : isIfU (Tryz.prog.underlying 74) = false := by kernel_rfl
@[go_sem ↓] theorem zr_74 : zrOf Tryz.prog 74 = some [(.int .i64 0), (.int .i64 0), (.slice none 0 0)] := by kernel_rfl
@[go_sem ↓] theorem fo_74_0 : foOf Tryz.prog 74 0 = some 0 := by kernel_rfl
@[go_sem ↓] theorem pl_74_0 : plOf Tryz.prog 74 0 = some (0, 1) := by kernel_rfl
@[go_sem ↓] theorem fo_74_1 : foOf Tryz.prog 74 1 = some 1 := by kernel_rfl
@[go_sem ↓] theorem pl_74_1 : plOf Tryz.prog 74 1 = some (1, 2) := by kernel_rfl
@[go_sem ↓] theorem fl_74 : plOf1 Tryz.prog 74 = true := by kernel_rfl
@[go_sem ↓] theorem sz_76 : Tryz.prog.cellsOf 76 = 1 := by kernel_rfl
@[go_sem ↓] theorem ag_76 : isAggU (Tryz.prog.underlying 76) = some false := by kernel_rfl
@[go_sem ↓] theorem zr_76 : zrOf Tryz.prog 76 = some [.nilFunc] := by kernel_rfl
@[go_sem ↓] theorem sz_77 : Tryz.prog.cellsOf 77 = 1 := by kernel_rfl
@[go_sem ↓] theorem ag_77 : isAggU (Tryz.prog.underlying 77) = some false := by kernel_rfl
@[go_sem ↓] theorem es_77 : elSz Tryz.prog 77 = 5 := by kernel_rfl
@[go_sem ↓] theorem zr_77 : zrOf Tryz.prog 77 = some [(.slice none 0 0)] := by kernel_rfl
@[go_sem ↓] theorem sz_78 : Tryz.prog.cellsOf 78 = 5 := by kernel_rfl
@[go_sem ↓] theorem ag_78 : isAggU (Tryz.prog.underlying 78) = some true := by kernel_rfl
@[go_sem ↓] theorem zr_78 : zrOf Tryz.prog 78 = some [(.int .i64 0), (.int .i64 0), (.int .i64 0), (.int .i64 0), (.int .i64 0)] := by kernel_rfl
@[go_sem ↓] theorem fo_78_0 : foOf Tryz.prog 78 0 = some 0 := by kernel_rfl
@[go_sem ↓] theorem pl_78_0 : plOf Tryz.prog 78 0 = some (0, 1) := by kernel_rfl
@[go_sem ↓] theorem fo_78_1 : foOf Tryz.prog 78 1 = some 1 := by kernel_rfl
@[go_sem ↓] theorem pl_78_1 : plOf Tryz.prog 78 1 = some (1, 1) := by kernel_rfl
@[go_sem ↓] theorem fo_78_2 : foOf Tryz.prog 78 2 = some 2 := by kernel_rfl
@[go_sem ↓] theorem pl_78_2 : plOf Tryz.prog 78 2 = some (2, 1) := by kernel_rfl
@[go_sem ↓] theorem fo_78_3 : foOf Tryz.prog 78 3 = some 3 := by kernel_rfl
@[go_sem ↓] theorem pl_78_3 : plOf Tryz.prog 78 3 = some (3, 1) := by kernel_rfl
@[go_sem ↓] theorem fo_78_4 : foOf Tryz.prog 78 4 = some 4 := by kernel_rfl
@[go_sem ↓] theorem pl_78_4 : plOf Tryz.prog 78 4 = some (4, 1) := by kernel_rfl
@[go_sem ↓] theorem fl_78 : plOf1 Tryz.prog 78 = true := by kernel_rfl
@[go_sem ↓] theorem sz_79 : Tryz.prog.cellsOf 79 = 5 := by kernel_rfl
@[go_sem ↓] theorem ag_79 : isAggU (Tryz.prog.underlying 79) = some true := by kernel_rfl
@[go_sem ↓] theorem if_79 : isIfU (Tryz.prog.underlying 79) = false := by kernel_rfl
@[go_sem ↓] theorem zr_79 : zrOf Tryz.prog 79 = some [(.int .i64 0), (.int .i64 0), (.int .i64 0), (.int .i64 0), (.int .i64 0)] := by kernel_rfl
@[go_sem ↓] theorem fo_79_0 : foOf Tryz.prog 79 0 = some 0 := by kernel_rfl
@[go_sem ↓] theorem pl_79_0 : plOf Tryz.prog 79 0 = some (0, 1) := by kernel_rfl
@[go_sem ↓] theorem fo_79_1 : foOf Tryz.prog 79 1 = some 1 := by kernel_rfl
@[go_sem ↓] theorem pl_79_1 : plOf Tryz.prog 79 1 = some (1, 1) := by kernel_rfl
@[go_sem ↓] theorem fo_79_2 : foOf Tryz.prog 79 2 = some 2 := by kernel_rfl
@[go_sem ↓] theorem pl_79_2 : plOf Tryz.prog 79 2 = some (2, 1) := by kernel_rfl
@[go_sem ↓] theorem fo_79_3 : foOf Tryz.prog 79 3 = some 3 := by kernel_rfl
@[go_sem ↓] theorem pl_79_3 : plOf Tryz.prog 79 3 = some (3, 1) := by kernel_rfl
@[go_sem ↓] theorem fo_79_4 : foOf Tryz.prog 79 4 = some 4 := by kernel_rfl
@[go_sem ↓] theorem pl_79_4 : plOf Tryz.prog 79 4 = some (4, 1) := by kernel_rfl
@[go_sem ↓] theorem fl_79 : plOf1 Tryz.prog 79 = true := by kernel_rfl
@[go_sem ↓] theorem sz_81 : Tryz.prog.cellsOf 81 = 1 := by kernel_rfl
@[go_sem ↓] theorem ag_81 : isAggU (Tryz.prog.underlying 81) = some false := by kernel_rfl
@[go_sem ↓] theorem zr_81 : zrOf Tryz.prog 81 = some [.nilFunc] := by kernel_rfl
@[go_sem ↓] theorem sz_82 : Tryz.prog.cellsOf 82 = 1 := by kernel_rfl
@[go_sem ↓] theorem ag_82 : isAggU (Tryz.prog.underlying 82) = some false := by kernel_rfl
@[go_sem ↓] theorem zr_82 : zrOf Tryz.prog 82 = some [.nilFunc] := by kernel_rfl
@[go_sem ↓] theorem sz_83 : Tryz.prog.cellsOf 83 = 1 := by kernel_rfl
@[go_sem ↓] theorem ag_83 : isAggU (Tryz.prog.underlying 83) = some false := by kernel_rfl
@[go_sem ↓] theorem zr_83 : zrOf Tryz.prog 83 = some [.nilFunc] := by kernel_rfl
@[go_sem ↓] theorem sz_85 : Tryz.prog.cellsOf 85 = 1 := by kernel_rfl
@[go_sem ↓] theorem ag_85 : isAggU (Tryz.prog.underlying 85) = some false := by kernel_rfl
@[go_sem ↓] theorem zr_85 : zrOf Tryz.prog 85 = some [.nilFunc] := by kernel_rfl
@[go_sem ↓] theorem sz_86 : Tryz.prog.cellsOf 86 = 11 := by kernel_rfl
@[go_sem ↓] theorem ag_86 : isAggU (Tryz.prog.underlying 86) = some true := by kernel_rfl
@[go_sem ↓] theorem es_86 : elSz Tryz.prog 86 = 1 := by kernel_rfl
@[go_sem ↓] theorem zr_86 : zrOf Tryz.prog 86 = some [(.bool false), (.bool false), (.bool false), (.bool false), (.bool false), (.bool false), (.bool false), (.bool false), (.bool false), (.bool false), (.bool false)] := by kernel_rfl
@[go_sem ↓] theorem fl_86 : plOf1 Tryz.prog 86 = true := by kernel_rfl
@[go_sem ↓] theorem pl_86_0 : plOf Tryz.prog 86 0 = some (0, 1) := by kernel_rfl
@[go_sem ↓] theorem pl_86_1 : plOf Tryz.prog 86 1 = some (1, 1) := by kernel_rfl
@[go_sem ↓] theorem pl_86_2 : plOf Tryz.prog 86 2 = some (2, 1) := by kernel_rfl
@[go_sem ↓] theorem pl_86_3 : plOf Tryz.prog 86 3 = some (3, 1) := by kernel_rfl
@[go_sem ↓] theorem pl_86_4 : plOf Tryz.prog 86 4 = some (4, 1) := by kernel_rfl
@[go_sem ↓] theorem pl_86_5 : plOf Tryz.prog 86 5 = some (5, 1) := by kernel_rfl
@[go_sem ↓] theorem pl_86_6 : plOf Tryz.prog 86 6 = some (6, 1) := by kernel_rfl
@[go_sem ↓] theorem pl_86_7 : plOf Tryz.prog 86 7 = some (7, 1) := by kernel_rfl
@[go_sem ↓] theorem pl_86_8 : plOf Tryz.prog 86 8 = some (8, 1) := by kernel_rfl
@[go_sem ↓] theorem pl_86_9 : plOf Tryz.prog 86 9 = some (9, 1) := by kernel_rfl
@[go_sem ↓] theorem pl_86_10 : plOf Tryz.prog 86 10 = some (10, 1) := by kernel_rfl
@[go_sem ↓] theorem sz_87 : Tryz.prog.cellsOf 87 = 11 := by kernel_rfl
@[go_sem ↓] theorem ag_87 : isAggU (Tryz.prog.underlying 87) = some true := by kernel_rfl
@[go_sem ↓] theorem if_87 : isIfU (Tryz.prog.underlying 87) = false := by kernel_rfl
@[go_sem ↓] theorem es_87 : elSz Tryz.prog 87 = 1 := by kernel_rfl
@[go_sem ↓] theorem zr_87 : zrOf Tryz.prog 87 = some [(.bool false), (.bool false), (.bool false), (.bool false), (.bool false), (.bool false), (.bool false), (.bool false), (.bool false), (.bool false), (.bool false)] := by kernel_rfl
@[go_sem ↓] theorem fl_87 : plOf1 Tryz.prog 87 = true := by kernel_rfl
@[go_sem ↓] theorem pl_87_0 : plOf Tryz.prog 87 0 = some (0, 1) := by kernel_rfl
@[go_sem ↓] theorem pl_87_1 : plOf Tryz.prog 87 1 = some (1, 1) := by kernel_rfl
@[go_sem ↓] theorem pl_87_2 : plOf Tryz.prog 87 2 = some (2, 1) := by kernel_rfl
@[go_sem ↓] theorem pl_87_3 : plOf Tryz.prog 87 3 = some (3, 1) := by kernel_rfl
@[go_sem ↓] theorem pl_87_4 : plOf Tryz.prog 87 4 = some (4, 1) := by kernel_rfl
@[go_sem ↓] theorem pl_87_5 : plOf Tryz.prog 87 5 = some (5, 1) := by kernel_rfl
@[go_sem ↓] theorem pl_87_6 : plOf Tryz.prog 87 6 = some (6, 1) := by kernel_rfl
@[go_sem ↓] theorem pl_87_7 : plOf Tryz.prog 87 7 = some (7, 1) := by kernel_rfl
@[go_sem ↓] theorem pl_87_8 : plOf Tryz.prog 87 8 = some (8, 1) := by kernel_rfl
@[go_sem ↓] theorem pl_87_9 : plOf Tryz.prog 87 9 = some (9, 1) := by kernel_rfl
@[go_sem ↓] theorem pl_87_10 : plOf Tryz.prog 87 10 = some (10, 1) := by kernel_rfl
@[go_sem ↓] theorem sz_89 : Tryz.prog.cellsOf 89 = 1 := by kernel_rfl
@[go_sem ↓] theorem ag_89 : isAggU (Tryz.prog.underlying 89) = some false := by kernel_rfl
@[go_sem ↓] theorem zr_89 : zrOf Tryz.prog 89 = some [.nilFunc] := by kernel_rfl
@[go_sem ↓] theorem sz_90 : Tryz.prog.cellsOf 90 = 1 := by kernel_rfl
@[go_sem ↓] theorem ag_90 : isAggU (Tryz.prog.underlying 90) = some false := by kernel_rfl
@[go_sem ↓] theorem zr_90 : zrOf Tryz.prog 90 = some [.nilFunc] := by kernel_rfl
@[go_sem ↓] theorem sz_92 : Tryz.prog.cellsOf 92 = 1 := by kernel_rfl
@[go_sem ↓] theorem ag_92 : isAggU (Tryz.prog.underlying 92) = some false := by kernel_rfl
@[go_sem ↓] theorem zr_92 : zrOf Tryz.prog 92 = some [.nilFunc] := by kernel_rfl
@[go_sem ↓] theorem sz_93 : Tryz.prog.cellsOf 93 = 17 := by kernel_rfl
@[go_sem ↓] theorem ag_93 : isAggU (Tryz.prog.underlying 93) = some true := by kernel_rfl
@[go_sem ↓] theorem es_93 : elSz Tryz.prog 93 = 1 := by kernel_rfl
@[go_sem ↓] theorem zr_93 : zrOf Tryz.prog 93 = some [(.int .u8 0), (.int .u8 0), (.int .u8 0), (.int .u8 0), (.int .u8 0), (.int .u8 0), (.int .u8 0), (.int .u8 0), (.int .u8 0), (.int .u8 0), (.int .u8 0), (.int .u8 0), (.int .u8 0), (.int .u8 0), (.int .u8 0), (.int .u8 0), (.int .u8 0)] := by kernel_rfl
@[go_sem ↓] theorem fl_93 : plOf1 Tryz.prog 93 = true := by kernel_rfl
@[go_sem ↓] theorem sz_94 : Tryz.prog.cellsOf 94 = 17 := by kernel_rfl
@[go_sem ↓] theorem ag_94 : isAggU (Tryz.prog.underlying 94) = some true := by kernel_rfl
@[go_sem ↓] theorem es_94 : elSz Tryz.prog 94 = 1 := by kernel_rfl
@[go_sem ↓] theorem zr_94 : zrOf Tryz.prog 94 = some [(.bool false), (.bool false), (.bool false), (.bool false), (.bool false), (.bool false), (.bool false), (.bool false), (.bool false), (.bool false), (.bool false), (.bool false), (.bool false), (.bool false), (.bool false), (.bool false), (.bool false)] := by kernel_rfl
@[go_sem ↓] theorem fl_94 : plOf1 Tryz.prog 94 = true := by kernel_rfl
@[go_sem ↓] theorem sz_95 : Tryz.prog.cellsOf 95 = 34 := by kernel_rfl
@[go_sem ↓] theorem ag_95 : isAggU (Tryz.prog.underlying 95) = some true := by kernel_rfl
@[go_sem ↓] theorem zr_95 : zrOf Tryz.prog 95 = some [(.int .u8 0), (.int .u8 0), (.int .u8 0), (.int .u8 0), (.int .u8 0), (.int .u8 0), (.int .u8 0), (.int .u8 0), (.int .u8 0), (.int .u8 0), (.int .u8 0), (.int .u8 0), (.int .u8 0), (.int .u8 0), (.int .u8 0), (.int .u8 0), (.int .u8 0), (.bool false), (.bool false), (.bool false), (.bool false), (.bool false), (.bool false), (.bool false), (.bool false), (.bool false), (.bool false), (.bool false), (.bool false), (.bool false), (.bool false), (.bool false), (.bool false), (.bool false)] := by kernel_rfl
@[go_sem ↓] theorem fo_95_0 : foOf Tryz.prog 95 0 = some 0 := by kernel_rfl
@[go_sem ↓] theorem pl_95_0 : plOf Tryz.prog 95 0 = some (0, 17) := by kernel_rfl
@[go_sem ↓] theorem fo_95_1 : foOf Tryz.prog 95 1 = some 17 := by kernel_rfl
@[go_sem ↓] theorem pl_95_1 : plOf Tryz.prog 95 1 = some (17, 17) := by kernel_rfl
@[go_sem ↓] theorem fl_95 : plOf1 Tryz.prog 95 = true := by kernel_rfl
@[go_sem ↓] theorem sz_96 : Tryz.prog.cellsOf 96 = 34 := by kernel_rfl
@[go_sem ↓] theorem ag_96 : isAggU (Tryz.prog.underlying 96) = some true := by kernel_rfl
@[go_sem ↓] theorem if_96 : isIfU (Tryz.prog.underlying 96) = false := by kernel_rfl
@[go_sem ↓] theorem zr_96 : zrOf Tryz.prog 96 = some [(.int .u8 0), (.int .u8 0), (.int .u8 0), (.int .u8 0), (.int .u8 0), (.int .u8 0), (.int .u8 0), (.int .u8 0), (.int .u8 0), (.int .u8 0), (.int .u8 0), (.int .u8 0), (.int .u8 0), (.int .u8 0), (.int .u8 0), (.int .u8 0), (.int .u8 0), (.bool false), (.bool false), (.bool false), (.bool false), (.bool false), (.bool false), (.bool false), (.bool false), (.bool false), (.bool false), (.bool false), (.bool false), (.bool false), (.bool false), (.bool false), (.bool false), (.bool false)] := by kernel_rfl
@[go_sem ↓] theorem fo_96_0 : foOf Tryz.prog 96 0 = some 0 := by kernel_rfl
@[go_sem ↓] theorem pl_96_0 : plOf Tryz.prog 96 0 = some (0, 17) := by kernel_rfl
@[go_sem ↓] theorem fo_96_1 : foOf Tryz.prog 96 1 = some 17 := by kernel_rfl
@[go_sem ↓] theorem pl_96_1 : plOf Tryz.prog 96 1 = some (17, 17) := by kernel_rfl
@[go_sem ↓] theorem fl_96 : plOf1 Tryz.prog 96 = true := by kernel_rfl
@[go_sem ↓] theorem sz_97 : Tryz.prog.cellsOf 97 = 1 := by kernel_rfl
@[go_sem ↓] theorem ag_97 : isAggU (Tryz.prog.underlying 97) = some false := by kernel_rfl
@[go_sem ↓] theorem zr_97 : zrOf Tryz.prog 97 = some [.nilFunc] := by kernel_rfl
@[go_sem ↓] theorem sz_98 : Tryz.prog.cellsOf 98 = 1 := by kernel_rfl
@[go_sem ↓] theorem ag_98 : isAggU (Tryz.prog.underlying 98) = some false := by kernel_rfl
@[go_sem ↓] theorem zr_98 : zrOf Tryz.prog 98 = some [.nilFunc] := by kernel_rfl
@[go_sem ↓] theorem sz_99 : Tryz.prog.cellsOf 99 = 1 := by kernel_rfl
@[go_sem ↓] theorem ag_99 : isAggU (Tryz.prog.underlying 99) = some false := by kernel_rfl
@[go_sem ↓] theorem zr_99 : zrOf Tryz.prog 99 = some [.nilFunc] := by kernel_rfl
@[go_sem ↓] theorem sz_100 : Tryz.prog.cellsOf 100 = 1 := by kernel_rfl
@[go_sem ↓] theorem ag_100 : isAggU (Tryz.prog.underlying 100) = some false := by kernel_rfl
@[go_sem ↓] theorem zr_100 : zrOf Tryz.prog 100 = some [.nilFunc] := by kernel_rfl
@[go_sem ↓] theorem sz_101 : Tryz.prog.cellsOf 101 = 2 := by kernel_rfl
@[go_sem ↓] theorem ag_101 : isAggU (Tryz.prog.underlying 101) = some true := by kernel_rfl
@[go_sem ↓] theorem es_101 : elSz Tryz.prog 101 = 1 := by kernel_rfl
@[go_sem ↓] theorem zr_101 : zrOf Tryz.prog 101 = some [(.int .u8 0), (.int .u8 0)] := by kernel_rfl
@[go_sem ↓] theorem fl_101 : plOf1 Tryz.prog 101 = true := by kernel_rfl
@[go_sem ↓] theorem pl_101_0 : plOf Tryz.prog 101 0 = some (0, 1) := by kernel_rfl
@[go_sem ↓] theorem pl_101_1 : plOf Tryz.prog 101 1 = some (1, 1) := by kernel_rfl
@[go_sem ↓] theorem sz_103 : Tryz.prog.cellsOf 103 = 1 := by kernel_rfl
@[go_sem ↓] theorem ag_103 : isAggU (Tryz.prog.underlying 103) = some false := by kernel_rfl
@[go_sem ↓] theorem zr_103 : zrOf Tryz.prog 103 = some [.nilFunc] := by kernel_rfl
@[go_sem ↓] theorem sz_104 : Tryz.prog.cellsOf 104 = 1 := by kernel_rfl
@[go_sem ↓] theorem ag_104 : isAggU (Tryz.prog.underlying 104) = some false := by kernel_rfl
@[go_sem ↓] theorem zr_104 : zrOf Tryz.prog 104 = some [.nilFunc] := by kernel_rfl
@[go_sem ↓] theorem sz_105 : Tryz.prog.cellsOf 105 = 1 := by kernel_rfl
@[go_sem ↓] theorem ag_105 : isAggU (Tryz.prog.underlying 105) = some false := by kernel_rfl
@[go_sem ↓] theorem es_105 : elSz Tryz.prog 105 = 1 := by kernel_rfl
@[go_sem ↓] theorem zr_105 : zrOf Tryz.prog 105 = some [(.slice none 0 0)] := by kernel_rfl
@[go_sem ↓] theorem sz_106 : Tryz.prog.cellsOf 106 = 1 := by kernel_rfl
@[go_sem ↓] theorem ag_106 : isAggU (Tryz.prog.underlying 106) = some false := by kernel_rfl
@[go_sem ↓] theorem zr_106 : zrOf Tryz.prog 106 = some [.nilFunc] := by kernel_rfl
@[go_sem ↓] theorem sz_108 : Tryz.prog.cellsOf 108 = 1 := by kernel_rfl
@[go_sem ↓] theorem ag_108 : isAggU (Tryz.prog.underlying 108) = some false := by kernel_rfl
@[go_sem ↓] theorem zr_108 : zrOf Tryz.prog 108 = some [.nilFunc] := by kernel_rfl
@[go_sem ↓] theorem sz_109 : Tryz.prog.cellsOf 109 = 1 := by kernel_rfl
@[go_sem ↓] theorem ag_109 : isAggU (Tryz.prog.underlying 109) = some false := by kernel_rfl
@[go_sem ↓] theorem zr_109 : zrOf Tryz.prog 109 = some [.nilFunc] := by kernel_rfl
@[go_sem ↓] theorem sz_110 : Tryz.prog.cellsOf 110 = 1 := by kernel_rfl
@[go_sem ↓] theorem ag_110 : isAggU (Tryz.prog.underlying 110) = some false := by kernel_rfl
@[go_sem ↓] theorem zr_110 : zrOf Tryz.prog 110 = some [.nilFunc] := by kernel_rfl
@[go_sem ↓] theorem sz_111 : Tryz.prog.cellsOf 111 = 1 := by kernel_rfl
@[go_sem ↓] theorem ag_111 : isAggU (Tryz.prog.underlying 111) = some false := by kernel_rfl
@[go_sem ↓] theorem zr_111 : zrOf Tryz.prog 111 = some [.nilFunc] := by kernel_rfl
@[go_sem ↓] theorem sz_112 : Tryz.prog.cellsOf 112 = 1 := by kernel_rfl
@[go_sem ↓] theorem ag_112 : isAggU (Tryz.prog.underlying 112) = some false := by kernel_rfl
@[go_sem ↓] theorem zr_112 : zrOf Tryz.prog 112 = some [.nilIface] := by kernel_rfl
@[go_sem ↓] theorem sz_113 : Tryz.prog.cellsOf 113 = 1 := by kernel_rfl
@[go_sem ↓] theorem ag_113 : isAggU (Tryz.prog.underlying 113) = some false := by kernel_rfl
@[go_sem ↓] theorem zr_113 : zrOf Tryz.prog 113 = some [.nilIface] := by kernel_rfl
@[go_sem ↓] theorem sz_115 : Tryz.prog.cellsOf 115 = 1 := by kernel_rfl
@[go_sem ↓] theorem ag_115 : isAggU (Tryz.prog.underlying 115) = some false := by kernel_rfl
@[go_sem ↓] theorem zr_115 : zrOf Tryz.prog 115 = some [.nilFunc] := by kernel_rfl
@[go_sem ↓] theorem sz_116 : Tryz.prog.cellsOf 116 = 1 := by kernel_rfl
@[go_sem ↓] theorem ag_116 : isAggU (Tryz.prog.underlying 116) = some true := by kernel_rfl
@[go_sem ↓] theorem zr_116 : zrOf Tryz.prog 116 = some [.nilIface] := by kernel_rfl
@[go_sem ↓] theorem fo_116_0 : foOf Tryz.prog 116 0 = some 0 := by kernel_rfl
@[go_sem ↓] theorem pl_116_0 : plOf Tryz.prog 116 0 = some (0, 1) := by kernel_rfl
@[go_sem ↓] theorem fl_116 : plOf1 Tryz.prog 116 = true := by kernel_rfl
@[go_sem ↓] theorem sz_117 : Tryz.prog.cellsOf 117 = 1 := by kernel_rfl
@[go_sem ↓] theorem ag_117 : isAggU (Tryz.prog.underlying 117) = some true := by kernel_rfl
@[go_sem ↓] theorem if_117 : isIfU (Tryz.prog.underlying 117) = false := by kernel_rfl
@[go_sem ↓] theorem zr_117 : zrOf Tryz.prog 117 = some [.nilIface] := by kernel_rfl
@[go_sem ↓] theorem fo_117_0 : foOf Tryz.prog 117 0 = some 0 := by kernel_rfl
@[go_sem ↓] theorem pl_117_0 : plOf Tryz.prog 117 0 = some (0, 1) := by kernel_rfl
@[go_sem ↓] theorem fl_117 : plOf1 Tryz.prog 117 = true := by kernel_rfl
@[go_sem ↓] theorem sz_118 : Tryz.prog.cellsOf 118 = 1 := by kernel_rfl
@[go_sem ↓] theorem ag_118 : isAggU (Tryz.prog.underlying 118) = some false := by kernel_rfl
@[go_sem ↓] theorem zr_118 : zrOf Tryz.prog 118 = some [.nilFunc] := by kernel_rfl
@[go_sem ↓] theorem sz_119 : Tryz.prog.cellsOf 119 = 1 := by kernel_rfl
@[go_sem ↓] theorem ag_119 : isAggU (Tryz.prog.underlying 119) = some false := by kernel_rfl
@[go_sem ↓] theorem if_119 : isIfU (Tryz.prog.underlying 119) = false := by kernel_rfl
@[go_sem ↓] theorem zr_119 : zrOf Tryz.prog 119 = some [(.pointer none)] := by kernel_rfl
@[go_sem ↓] theorem sz_121 : Tryz.prog.cellsOf 121 = 1 := by kernel_rfl
@[go_sem ↓] theorem ag_121 : isAggU (Tryz.prog.underlying 121) = some false := by kernel_rfl
@[go_sem ↓] theorem zr_121 : zrOf Tryz.prog 121 = some [.nilFunc] := by kernel_rfl
@[go_sem ↓] theorem sz_122 : Tryz.prog.cellsOf 122 = 1 := by kernel_rfl
@[go_sem ↓] theorem ag_122 : isAggU (Tryz.prog.underlying 122) = some false := by kernel_rfl
@[go_sem ↓] theorem zr_122 : zrOf Tryz.prog 122 = some [.nilFunc] := by kernel_rfl
@[go_sem ↓] theorem sz_124 : Tryz.prog.cellsOf 124 = 1 := by kernel_rfl
@[go_sem ↓] theorem ag_124 : isAggU (Tryz.prog.underlying 124) = some false := by kernel_rfl
@[go_sem ↓] theorem zr_124 : zrOf Tryz.prog 124 = some [.nilFunc] := by kernel_rfl
@[go_sem ↓] theorem sz_125 : Tryz.prog.cellsOf 125 = 1 := by kernel_rfl
@[go_sem ↓] theorem ag_125 : isAggU (Tryz.prog.underlying 125) = some false := by kernel_rfl
@[go_sem ↓] theorem zr_125 : zrOf Tryz.prog 125 = some [.nilFunc] := by kernel_rfl
@[go_sem ↓] theorem sz_126 : Tryz.prog.cellsOf 126 = 1 := by kernel_rfl
@[go_sem ↓] theorem ag_126 : isAggU (Tryz.prog.underlying 126) = some false := by kernel_rfl
@[go_sem ↓] theorem es_126 : elSz Tryz.prog 126 = 1 := by kernel_rfl
@[go_sem ↓] theorem zr_126 : zrOf Tryz.prog 126 = some [(.slice none 0 0)] := by kernel_rfl
@[go_sem ↓] theorem sz_127 : Tryz.prog.cellsOf 127 = 1 := by kernel_rfl
@[go_sem ↓] theorem ag_127 : isAggU (Tryz.prog.underlying 127) = some false := by kernel_rfl
@[go_sem ↓] theorem zr_127 : zrOf Tryz.prog 127 = some [.nilFunc] := by kernel_rfl
@[go_sem ↓] theorem sz_128 : Tryz.prog.cellsOf 128 = 1 := by kernel_rfl
@[go_sem ↓] theorem ag_128 : isAggU (Tryz.prog.underlying 128) = some false := by kernel_rfl
@[go_sem ↓] theorem zr_128 : zrOf Tryz.prog 128 = some [.nilFunc] := by kernel_rfl
@[go_sem ↓] theorem sz_129 : Tryz.prog.cellsOf 129 = 1 := by kernel_rfl
@[go_sem ↓] theorem ag_129 : isAggU (Tryz.prog.underlying 129) = some false := by kernel_rfl
@[go_sem ↓] theorem if_129 : isIfU (Tryz.prog.underlying 129) = false := by kernel_rfl
@[go_sem ↓] theorem zr_129 : zrOf Tryz.prog 129 = some [.nilFunc] := by kernel_rfl
@[go_sem ↓] theorem sz_130 : Tryz.prog.cellsOf 130 = 1 := by kernel_rfl
@[go_sem ↓] theorem ag_130 : isAggU (Tryz.prog.underlying 130) = some false := by kernel_rfl
@[go_sem ↓] theorem zr_130 : zrOf Tryz.prog 130 = some [.nilFunc] := by kernel_rfl
@[go_sem ↓] theorem sz_131 : Tryz.prog.cellsOf 131 = 1 := by kernel_rfl
@[go_sem ↓] theorem ag_131 : isAggU (Tryz.prog.underlying 131) = some false := by kernel_rfl
@[go_sem ↓] theorem zr_131 : zrOf Tryz.prog 131 = some [(.map none)] := by kernel_rfl
@[go_sem ↓] theorem sz_132 : Tryz.prog.cellsOf 132 = 2 := by kernel_rfl
@[go_sem ↓] theorem ag_132 : isAggU (Tryz.prog.underlying 132) = some true := by kernel_rfl
@[go_sem ↓] theorem zr_132 : zrOf Tryz.prog 132 = some [(.map none), (.int .i64 0)] := by kernel_rfl
@[go_sem ↓] theorem fo_132_0 : foOf Tryz.prog 132 0 = some 0 := by kernel_rfl
@[go_sem ↓] theorem pl_132_0 : plOf Tryz.prog 132 0 = some (0, 1) := by kernel_rfl
@[go_sem ↓] theorem fo_132_1 : foOf Tryz.prog 132 1 = some 1 := by kernel_rfl
@[go_sem ↓] theorem pl_132_1 : plOf Tryz.prog 132 1 = some (1, 1) := by kernel_rfl
@[go_sem ↓] theorem fl_132 : plOf1 Tryz.prog 132 = true := by kernel_rfl
@[go_sem ↓] theorem sz_133 : Tryz.prog.cellsOf 133 = 2 := by kernel_rfl
@[go_sem ↓] theorem ag_133 : isAggU (Tryz.prog.underlying 133) = some true := by kernel_rfl
@[go_sem ↓] theorem if_133 : isIfU (Tryz.prog.underlying 133) = false := by kernel_rfl
@[go_sem ↓] theorem zr_133 : zrOf Tryz.prog 133 = some [(.map none), (.int .i64 0)] := by kernel_rfl
@[go_sem ↓] theorem fo_133_0 : foOf Tryz.prog 133 0 = some 0 := by kernel_rfl
@[go_sem ↓] theorem pl_133_0 : plOf Tryz.prog 133 0 = some (0, 1) := by kernel_rfl
@[go_sem ↓] theorem fo_133_1 : foOf Tryz.prog 133 1 = some 1 := by kernel_rfl
@[go_sem ↓] theorem pl_133_1 : plOf Tryz.prog 133 1 = some (1, 1) := by kernel_rfl
@[go_sem ↓] theorem fl_133 : plOf1 Tryz.prog 133 = true := by kernel_rfl
@[go_sem ↓] theorem sz_134 : Tryz.prog.cellsOf 134 = 1 := by kernel_rfl
@[go_sem ↓] theorem ag_134 : isAggU (Tryz.prog.underlying 134) = some false := by kernel_rfl
@[go_sem ↓] theorem zr_134 : zrOf Tryz.prog 134 = some [.nilFunc] := by kernel_rfl
@[go_sem ↓] theorem sz_135 : Tryz.prog.cellsOf 135 = 1 := by kernel_rfl
@[go_sem ↓] theorem ag_135 : isAggU (Tryz.prog.underlying 135) = some false := by kernel_rfl
@[go_sem ↓] theorem zr_135 : zrOf Tryz.prog 135 = some [.nilFunc] := by kernel_rfl
@[go_sem ↓] theorem sz_136 : Tryz.prog.cellsOf 136 = 1 := by kernel_rfl
@[go_sem ↓] theorem ag_136 : isAggU (Tryz.prog.underlying 136) = some false := by kernel_rfl
@[go_sem ↓] theorem es_136 : elSz Tryz.prog 136 = 2 := by kernel_rfl
@[go_sem ↓] theorem zr_136 : zrOf Tryz.prog 136 = some [(.slice none 0 0)] := by kernel_rfl
@[go_sem ↓] theorem sz_137 : Tryz.prog.cellsOf 137 = 4 := by kernel_rfl
@[go_sem ↓] theorem ag_137 : isAggU (Tryz.prog.underlying 137) = some true := by kernel_rfl
@[go_sem ↓] theorem zr_137 : zrOf Tryz.prog 137 = some [(.slice none 0 0), (.slice none 0 0), (.bool false), (.slice none 0 0)] := by kernel_rfl
@[go_sem ↓] theorem fo_137_0 : foOf Tryz.prog 137 0 = some 0 := by kernel_rfl
@[go_sem ↓] theorem pl_137_0 : plOf Tryz.prog 137 0 = some (0, 1) := by kernel_rfl
@[go_sem ↓] theorem fo_137_1 : foOf Tryz.prog 137 1 = some 1 := by kernel_rfl
@[go_sem ↓] theorem pl_137_1 : plOf Tryz.prog 137 1 = some (1, 1) := by kernel_rfl
@[go_sem ↓] theorem fo_137_2 : foOf Tryz.prog 137 2 = some 2 := by kernel_rfl
@[go_sem ↓] theorem pl_137_2 : plOf Tryz.prog 137 2 = some (2, 1) := by kernel_rfl
@[go_sem ↓] theorem fo_137_3 : foOf Tryz.prog 137 3 = some 3 := by kernel_rfl
@[go_sem ↓] theorem pl_137_3 : plOf Tryz.prog 137 3 = some (3, 1) := by kernel_rfl
@[go_sem ↓] theorem fl_137 : plOf1 Tryz.prog 137 = true := by kernel_rfl
@[go_sem ↓] theorem sz_138 : Tryz.prog.cellsOf 138 = 4 := by kernel_rfl
@[go_sem ↓] theorem ag_138 : isAggU (Tryz.prog.underlying 138) = some true := by kernel_rfl
@[go_sem ↓] theorem if_138 : isIfU (Tryz.prog.underlying 138) = false := by kernel_rfl
@[go_sem ↓] theorem zr_138 : zrOf Tryz.prog 138 = some [(.slice none 0 0), (.slice none 0 0), (.bool false), (.slice none 0 0)] := by kernel_rfl
@[go_sem ↓] theorem fo_138_0 : foOf Tryz.prog 138 0 = some 0 := by kernel_rfl
@[go_sem ↓] theorem pl_138_0 : plOf Tryz.prog 138 0 = some (0, 1) := by kernel_rfl
@[go_sem ↓] theorem fo_138_1 : foOf Tryz.prog 138 1 = some 1 := by kernel_rfl
@[go_sem ↓] theorem pl_138_1 : plOf Tryz.prog 138 1 = some (1, 1) := by kernel_rfl
@[go_sem ↓] theorem fo_138_2 : foOf Tryz.prog 138 2 = some 2 := by kernel_rfl
@[go_sem ↓] theorem pl_138_2 : plOf Tryz.prog 138 2 = some (2, 1) := by kernel_rfl
@[go_sem ↓] theorem fo_138_3 : foOf Tryz.prog 138 3 = some 3 := by kernel_rfl
@[go_sem ↓] theorem pl_138_3 : plOf Tryz.prog 138 3 = some (3, 1) := by kernel_rfl
@[go_sem ↓] theorem fl_138 : plOf1 Tryz.prog 138 = true := by kernel_rfl
@[go_sem ↓] theorem sz_139 : Tryz.prog.cellsOf 139 = 1 := by kernel_rfl
@[go_sem ↓] theorem ag_139 : isAggU (Tryz.prog.underlying 139) = some false := by kernel_rfl
@[go_sem ↓] theorem zr_139 : zrOf Tryz.prog 139 = some [.nilFunc] := by kernel_rfl
@[go_sem ↓] theorem sz_141 : Tryz.prog.cellsOf 141 = 1 := by kernel_rfl
@[go_sem ↓] theorem ag_141 : isAggU (Tryz.prog.underlying 141) = some false := by kernel_rfl
@[go_sem ↓] theorem zr_141 : zrOf Tryz.prog 141 = some [.nilFunc] := by kernel_rfl
@[go_sem ↓] theorem sz_142 : Tryz.prog.cellsOf 142 = 1 := by kernel_rfl
@[go_sem ↓] theorem ag_142 : isAggU (Tryz.prog.underlying 142) = some false := by kernel_rfl
@[go_sem ↓] theorem zr_142 : zrOf Tryz.prog 142 = some [.nilFunc] := by kernel_rfl
@[go_sem ↓] theorem sz_143 : Tryz.prog.cellsOf 143 = 1 := by kernel_rfl
@[go_sem ↓] theorem ag_143 : isAggU (Tryz.prog.underlying 143) = some false := by kernel_rfl
@[go_sem ↓] theorem zr_143 : zrOf Tryz.prog 143 = some [.nilFunc] := by kernel_rfl
@[go_sem ↓] theorem sz_145 : Tryz.prog.cellsOf 145 = 1 := by kernel_rfl
@[go_sem ↓] theorem ag_145 : isAggU (Tryz.prog.underlying 145) = some false := by kernel_rfl
@[go_sem ↓] theorem zr_145 : zrOf Tryz.prog 145 = some [.nilFunc] := by kernel_rfl
@[go_sem ↓] theorem sz_146 : Tryz.prog.cellsOf 146 = 1 := by kernel_rfl
@[go_sem ↓] theorem ag_146 : isAggU (Tryz.prog.underlying 146) = some false := by kernel_rfl
@[go_sem ↓] theorem zr_146 : zrOf Tryz.prog 146 = some [.nilFunc] := by kernel_rfl
@[go_sem ↓] theorem sz_147 : Tryz.prog.cellsOf 147 = 1 := by kernel_rfl
@[go_sem ↓] theorem ag_147 : isAggU (Tryz.prog.underlying 147) = some false := by kernel_rfl
@[go_sem ↓] theorem zr_147 : zrOf Tryz.prog 147 = some [.nilFunc] := by kernel_rfl
@[go_sem ↓] theorem sz_148 : Tryz.prog.cellsOf 148 = 1 := by kernel_rfl
@[go_sem ↓] theorem ag_148 : isAggU (Tryz.prog.underlying 148) = some false := by kernel_rfl
@[go_sem ↓] theorem zr_148 : zrOf Tryz.prog 148 = some [.nilFunc] := by kernel_rfl
@[go_sem ↓] theorem sz_150 : Tryz.prog.cellsOf 150 = 1 := by kernel_rfl
@[go_sem ↓] theorem ag_150 : isAggU (Tryz.prog.underlying 150) = some false := by kernel_rfl
@[go_sem ↓] theorem zr_150 : zrOf Tryz.prog 150 = some [.nilFunc] := by kernel_rfl
@[go_sem ↓] theorem sz_152 : Tryz.prog.cellsOf 152 = 1 := by kernel_rfl
@[go_sem ↓] theorem ag_152 : isAggU (Tryz.prog.underlying 152) = some false := by kernel_rfl
@[go_sem ↓] theorem zr_152 : zrOf Tryz.prog 152 = some [.nilFunc] := by kernel_rfl
@[go_sem ↓] theorem sz_153 : Tryz.prog.cellsOf 153 = 1 := by kernel_rfl
@[go_sem ↓] theorem ag_153 : isAggU (Tryz.prog.underlying 153) = some false := by kernel_rfl
@[go_sem ↓] theorem zr_153 : zrOf Tryz.prog 153 = some [(.map none)] := by kernel_rfl
@[go_sem ↓] theorem sz_154 : Tryz.prog.cellsOf 154 = 1 := by kernel_rfl
@[go_sem ↓] theorem ag_154 : isAggU (Tryz.prog.underlying 154) = some false := by kernel_rfl
@[go_sem ↓] theorem zr_154 : zrOf Tryz.prog 154 = some [(.map none)] := by kernel_rfl
@[go_sem ↓] theorem sz_155 : Tryz.prog.cellsOf 155 = 2 := by kernel_rfl
@[go_sem ↓] theorem ag_155 : isAggU (Tryz.prog.underlying 155) = some true := by kernel_rfl
@[go_sem ↓] theorem zr_155 : zrOf Tryz.prog 155 = some [(.int .i64 0), (.int .i64 0)] := by kernel_rfl
@[go_sem ↓] theorem fo_155_0 : foOf Tryz.prog 155 0 = some 0 := by kernel_rfl
@[go_sem ↓] theorem pl_155_0 : plOf Tryz.prog 155 0 = some (0, 1) := by kernel_rfl
@[go_sem ↓] theorem fo_155_1 : foOf Tryz.prog 155 1 = some 1 := by kernel_rfl
@[go_sem ↓] theorem pl_155_1 : plOf Tryz.prog 155 1 = some (1, 1) := by kernel_rfl
@[go_sem ↓] theorem fl_155 : plOf1 Tryz.prog 155 = true := by kernel_rfl
@[go_sem ↓] theorem sz_156 : Tryz.prog.cellsOf 156 = 2 := by kernel_rfl
@[go_sem ↓] theorem ag_156 : isAggU (Tryz.prog.underlying 156) = some true := by kernel_rfl
@[go_sem ↓] theorem if_156 : isIfU (Tryz.prog.underlying 156) = false := by kernel_rfl
@[go_sem ↓] theorem zr_156 : zrOf Tryz.prog 156 = some [(.int .i64 0), (.int .i64 0)] := by kernel_rfl
@[go_sem ↓] theorem fo_156_0 : foOf Tryz.prog 156 0 = some 0 := by kernel_rfl
@[go_sem ↓] theorem pl_156_0 : plOf Tryz.prog 156 0 = some (0, 1) := by kernel_rfl
@[go_sem ↓] theorem fo_156_1 : foOf Tryz.prog 156 1 = some 1 := by kernel_rfl
@[go_sem ↓] theorem pl_156_1 : plOf Tryz.prog 156 1 = some (1, 1) := by kernel_rfl
@[go_sem ↓] theorem fl_156 : plOf1 Tryz.prog 156 = true := by kernel_rfl
@[go_sem ↓] theorem sz_157 : Tryz.prog.cellsOf 157 = 1 := by kernel_rfl
@[go_sem ↓] theorem ag_157 : isAggU (Tryz.prog.underlying 157) = some false := by kernel_rfl
@[go_sem ↓] theorem zr_157 : zrOf Tryz.prog 157 = some [.nilFunc] := by kernel_rfl
@[go_sem ↓] theorem sz_158 : Tryz.prog.cellsOf 158 = 1 := by kernel_rfl
@[go_sem ↓] theorem ag_158 : isAggU (Tryz.prog.underlying 158) = some false := by kernel_rfl
@[go_sem ↓] theorem zr_158 : zrOf Tryz.prog 158 = some [.nilFunc] := by kernel_rfl
@[go_sem ↓] theorem sz_159 : Tryz.prog.cellsOf 159 = 1 := by kernel_rfl
@[go_sem ↓] theorem ag_159 : isAggU (Tryz.prog.underlying 159) = some false := by kernel_rfl
@[go_sem ↓] theorem zr_159 : zrOf Tryz.prog 159 = some [.nilFunc] := by kernel_rfl
@[go_sem ↓] theorem sz_160 : Tryz.prog.cellsOf 160 = 1 := by kernel_rfl
@[go_sem ↓] theorem ag_160 : isAggU (Tryz.prog.underlying 160) = some false := by kernel_rfl
@[go_sem ↓] theorem zr_160 : zrOf Tryz.prog 160 = some [.nilFunc] := by kernel_rfl
@[go_sem ↓] theorem sz_163 : Tryz.prog.cellsOf 163 = 1 := by kernel_rfl
@[go_sem ↓] theorem ag_163 : isAggU (Tryz.prog.underlying 163) = some false := by kernel_rfl
@[go_sem ↓] theorem zr_163 : zrOf Tryz.prog 163 = some [.nilFunc] := by kernel_rfl
@[go_sem ↓] theorem sz_164 : Tryz.prog.cellsOf 164 = 1 := by kernel_rfl
@[go_sem ↓] theorem ag_164 : isAggU (Tryz.prog.underlying 164) = some false := by kernel_rfl
@[go_sem ↓] theorem zr_164 : zrOf Tryz.prog 164 = some [.nilFunc] := by kernel_rfl
@[go_sem ↓] theorem sz_165 : Tryz.prog.cellsOf 165 = 1 := by kernel_rfl
@[go_sem ↓] theorem ag_165 : isAggU (Tryz.prog.underlying 165) = some false := by kernel_rfl
@[go_sem ↓] theorem zr_165 : zrOf Tryz.prog 165 = some [(.pointer none)] := by kernel_rfl
@[go_sem ↓] theorem sz_166 : Tryz.prog.cellsOf 166 = 1 := by kernel_rfl
@[go_sem ↓] theorem ag_166 : isAggU (Tryz.prog.underlying 166) = some false := by kernel_rfl
@[go_sem ↓] theorem if_166 : isIfU (Tryz.prog.underlying 166) = false := by kernel_rfl
@[go_sem ↓] theorem zr_166 : zrOf Tryz.prog 166 = some [(.int .u64 0)] := by kernel_rfl
@[go_sem ↓] theorem sz_167 : Tryz.prog.cellsOf 167 = 3 := by kernel_rfl
@[go_sem ↓] theorem ag_167 : isAggU (Tryz.prog.underlying 167) = some true := by kernel_rfl
@[go_sem ↓] theorem zr_167 : zrOf Tryz.prog 167 = some [(.pointer none), (.pointer none), (.int .u64 0)] := by kernel_rfl
@[go_sem ↓] theorem fo_167_0 : foOf Tryz.prog 167 0 = some 0 := by kernel_rfl
@[go_sem ↓] theorem pl_167_0 : plOf Tryz.prog 167 0 = some (0, 1) := by kernel_rfl
@[go_sem ↓] theorem fo_167_1 : foOf Tryz.prog 167 1 = some 1 := by kernel_rfl
@[go_sem ↓] theorem pl_167_1 : plOf Tryz.prog 167 1 = some (1, 1) := by kernel_rfl
@[go_sem ↓] theorem fo_167_2 : foOf Tryz.prog 167 2 = some 2 := by kernel_rfl
@[go_sem ↓] theorem pl_167_2 : plOf Tryz.prog 167 2 = some (2, 1) := by kernel_rfl
@[go_sem ↓] theorem fl_167 : plOf1 Tryz.prog 167 = true := by kernel_rfl
@[go_sem ↓] theorem sz_168 : Tryz.prog.cellsOf 168 = 3 := by kernel_rfl
@[go_sem ↓] theorem ag_168 : isAggU (Tryz.prog.underlying 168) = some true := by kernel_rfl
@[go_sem ↓] theorem if_168 : isIfU (Tryz.prog.underlying 168) = false := by kernel_rfl
@[go_sem ↓] theorem zr_168 : zrOf Tryz.prog 168 = some [(.pointer none), (.pointer none), (.int .u64 0)] := by kernel_rfl
@[go_sem ↓] theorem fo_168_0 : foOf Tryz.prog 168 0 = some 0 := by kernel_rfl
@[go_sem ↓] theorem pl_168_0 : plOf Tryz.prog 168 0 = some (0, 1) := by kernel_rfl
@[go_sem ↓] theorem fo_168_1 : foOf Tryz.prog 168 1 = some 1 := by kernel_rfl
@[go_sem ↓] theorem pl_168_1 : plOf Tryz.prog 168 1 = some (1, 1) := by kernel_rfl
@[go_sem ↓] theorem fo_168_2 : foOf Tryz.prog 168 2 = some 2 := by kernel_rfl
@[go_sem ↓] theorem pl_168_2 : plOf Tryz.prog 168 2 = some (2, 1) := by kernel_rfl
@[go_sem ↓] theorem fl_168 : plOf1 Tryz.prog 168 = true := by kernel_rfl
@[go_sem ↓] theorem sz_169 : Tryz.prog.cellsOf 169 = 1 := by kernel_rfl
@[go_sem ↓] theorem ag_169 : isAggU (Tryz.prog.underlying 169) = some false := by kernel_rfl
@[go_sem ↓] theorem zr_169 : zrOf Tryz.prog 169 = some [.nilFunc] := by kernel_rfl
@[go_sem ↓] theorem sz_170 : Tryz.prog.cellsOf 170 = 1 := by kernel_rfl
@[go_sem ↓] theorem ag_170 : isAggU (Tryz.prog.underlying 170) = some false := by kernel_rfl
@[go_sem ↓] theorem zr_170 : zrOf Tryz.prog 170 = some [.nilIface] := by kernel_rfl
@[go_sem ↓] theorem sz_171 : Tryz.prog.cellsOf 171 = 1 := by kernel_rfl
@[go_sem ↓] theorem ag_171 : isAggU (Tryz.prog.underlying 171) = some false := by kernel_rfl
@[go_sem ↓] theorem zr_171 : zrOf Tryz.prog 171 = some [.nilIface] := by kernel_rfl
@[go_sem ↓] theorem sz_172 : Tryz.prog.cellsOf 172 = 1 := by kernel_rfl
@[go_sem ↓] theorem ag_172 : isAggU (Tryz.prog.underlying 172) = some false := by kernel_rfl
@[go_sem ↓] theorem zr_172 : zrOf Tryz.prog 172 = some [.nilFunc] := by kernel_rfl
@[go_sem ↓] theorem sz_173 : Tryz.prog.cellsOf 173 = 1 := by kernel_rfl
@[go_sem ↓] theorem ag_173 : isAggU (Tryz.prog.underlying 173) = some false := by kernel_rfl
@[go_sem ↓] theorem if_173 : isIfU (Tryz.prog.underlying 173) = false := by kernel_rfl
@[go_sem ↓] theorem zr_173 : zrOf Tryz.prog 173 = some [(.int .u8 0)] := by kernel_rfl
@[go_sem ↓] theorem sz_174 : Tryz.prog.cellsOf 174 = 1 := by kernel_rfl
@[go_sem ↓] theorem ag_174 : isAggU (Tryz.prog.underlying 174) = some false := by kernel_rfl
@[go_sem ↓] theorem zr_174 : zrOf Tryz.prog 174 = some [.nilFunc] := by kernel_rfl
@[go_sem ↓] theorem sz_175 : Tryz.prog.cellsOf 175 = 1 := by kernel_rfl
@[go_sem ↓] theorem ag_175 : isAggU (Tryz.prog.underlying 175) = some false := by kernel_rfl
@[go_sem ↓] theorem zr_175 : zrOf Tryz.prog 175 = some [.nilFunc] := by kernel_rfl
@[go_sem ↓] theorem sz_176 : Tryz.prog.cellsOf 176 = 1 := by kernel_rfl
@[go_sem ↓] theorem ag_176 : isAggU (Tryz.prog.underlying 176) = some false := by kernel_rfl
@[go_sem ↓] theorem zr_176 : zrOf Tryz.prog 176 = some [.nilFunc] := by kernel_rfl
@[go_sem ↓] theorem sz_177 : Tryz.prog.cellsOf 177 = 1 := by kernel_rfl
@[go_sem ↓] theorem ag_177 : isAggU (Tryz.prog.underlying 177) = some false := by kernel_rfl
@[go_sem ↓] theorem zr_177 : zrOf Tryz.prog 177 = some [.nilFunc] := by kernel_rfl
@[go_sem ↓] theorem sz_179 : Tryz.prog.cellsOf 179 = 1 := by kernel_rfl
@[go_sem ↓] theorem ag_179 : isAggU (Tryz.prog.underlying 179) = some false := by kernel_rfl
@[go_sem ↓] theorem zr_179 : zrOf Tryz.prog 179 = some [.nilFunc] := by kernel_rfl
@[go_sem ↓] theorem sz_180 : Tryz.prog.cellsOf 180 = 1 := by kernel_rfl
@[go_sem ↓] theorem ag_180 : isAggU (Tryz.prog.underlying 180) = some false := by kernel_rfl
@[go_sem ↓] theorem zr_180 : zrOf Tryz.prog 180 = some [.nilFunc] := by kernel_rfl
@[go_sem ↓] theorem sz_181 : Tryz.prog.cellsOf 181 = 1 := by kernel_rfl
@[go_sem ↓] theorem ag_181 : isAggU (Tryz.prog.underlying 181) = some false := by kernel_rfl
@[go_sem ↓] theorem zr_181 : zrOf Tryz.prog 181 = some [.nilFunc] := by kernel_rfl
@[go_sem ↓] theorem sz_182 : Tryz.prog.cellsOf 182 = 1 := by kernel_rfl
@[go_sem ↓] theorem ag_182 : isAggU (Tryz.prog.underlying 182) = some false := by kernel_rfl
@[go_sem ↓] theorem zr_182 : zrOf Tryz.prog 182 = some [.nilFunc] := by kernel_rfl
@[go_sem ↓] theorem sz_183 : Tryz.prog.cellsOf 183 = 1 := by kernel_rfl
@[go_sem ↓] theorem ag_183 : isAggU (Tryz.prog.underlying 183) = some false := by kernel_rfl
@[go_sem ↓] theorem zr_183 : zrOf Tryz.prog 183 = some [.nilFunc] := by kernel_rfl
@[go_sem ↓] theorem sz_184 : Tryz.prog.cellsOf 184 = 1 := by kernel_rfl
@[go_sem ↓] theorem ag_184 : isAggU (Tryz.prog.underlying 184) = some false := by kernel_rfl
@[go_sem ↓] theorem zr_184 : zrOf Tryz.prog 184 = some [.nilFunc] := by kernel_rfl
@[go_sem ↓] theorem sz_185 : Tryz.prog.cellsOf 185 = 1 := by kernel_rfl
@[go_sem ↓] theorem ag_185 : isAggU (Tryz.prog.underlying 185) = some false := by kernel_rfl
@[go_sem ↓] theorem es_185 : elSz Tryz.prog 185 = 1 := by kernel_rfl
@[go_sem ↓] theorem zr_185 : zrOf Tryz.prog 185 = some [(.slice none 0 0)] := by kernel_rfl
@[go_sem ↓] theorem sz_186 : Tryz.prog.cellsOf 186 = 1 := by kernel_rfl
@[go_sem ↓] theorem ag_186 : isAggU (Tryz.prog.underlying 186) = some false := by kernel_rfl
@[go_sem ↓] theorem zr_186 : zrOf Tryz.prog 186 = some [.nilFunc] := by kernel_rfl
@[go_sem ↓] theorem sz_187 : Tryz.prog.cellsOf 187 = 1 := by kernel_rfl
@[go_sem ↓] theorem ag_187 : isAggU (Tryz.prog.underlying 187) = some false := by kernel_rfl
@[go_sem ↓] theorem zr_187 : zrOf Tryz.prog 187 = some [.nilFunc] := by kernel_rfl
@[go_sem ↓] theorem sz_188 : Tryz.prog.cellsOf 188 = 1 := by kernel_rfl
@[go_sem ↓] theorem ag_188 : isAggU (Tryz.prog.underlying 188) = some false := by kernel_rfl
@[go_sem ↓] theorem zr_188 : zrOf Tryz.prog 188 = some [.nilFunc] := by kernel_rfl
@[go_sem ↓] theorem sz_189 : Tryz.prog.cellsOf 189 = 1 := by kernel_rfl
@[go_sem ↓] theorem ag_189 : isAggU (Tryz.prog.underlying 189) = some false := by kernel_rfl
@[go_sem ↓] theorem zr_189 : zrOf Tryz.prog 189 = some [.nilFunc] := by kernel_rfl
@[go_sem ↓] theorem sz_190 : Tryz.prog.cellsOf 190 = 1 := by kernel_rfl
@[go_sem ↓] theorem ag_190 : isAggU (Tryz.prog.underlying 190) = some false := by kernel_rfl
@[go_sem ↓] theorem zr_190 : zrOf Tryz.prog 190 = some [.nilFunc] := by kernel_rfl
@[go_sem ↓] theorem sz_191 : Tryz.prog.cellsOf 191 = 1 := by kernel_rfl
@[go_sem ↓] theorem ag_191 : isAggU (Tryz.prog.underlying 191) = some false := by kernel_rfl
@[go_sem ↓] theorem zr_191 : zrOf Tryz.prog 191 = some [.nilFunc] := by kernel_rfl
@[go_sem ↓] theorem sz_192 : Tryz.prog.cellsOf 192 = 1 := by kernel_rfl
@[go_sem ↓] theorem ag_192 : isAggU (Tryz.prog.underlying 192) = some false := by kernel_rfl
@[go_sem ↓] theorem zr_192 : zrOf Tryz.prog 192 = some [(.int .u64 0)] := by kernel_rfl
@[go_sem ↓] theorem sz_193 : Tryz.prog.cellsOf 193 = 1 := by kernel_rfl
@[go_sem ↓] theorem ag_193 : isAggU (Tryz.prog.underlying 193) = some false := by kernel_rfl
@[go_sem ↓] theorem zr_193 : zrOf Tryz.prog 193 = some [.nilFunc] := by kernel_rfl
@[go_sem ↓] theorem sz_194 : Tryz.prog.cellsOf 194 = 1 := by kernel_rfl
@[go_sem ↓] theorem ag_194 : isAggU (Tryz.prog.underlying 194) = some false := by kernel_rfl
@[go_sem ↓] theorem zr_194 : zrOf Tryz.prog 194 = some [.nilFunc] := by kernel_rfl
@[go_sem ↓] theorem sz_195 : Tryz.prog.cellsOf 195 = 1 := by kernel_rfl
@[go_sem ↓] theorem ag_195 : isAggU (Tryz.prog.underlying 195) = some false := by kernel_rfl
@[go_sem ↓] theorem zr_195 : zrOf Tryz.prog 195 = some [.nilFunc] := by kernel_rfl
@[go_sem ↓] theorem sz_196 : Tryz.prog.cellsOf 196 = 1 := by kernel_rfl
@[go_sem ↓] theorem ag_196 : isAggU (Tryz.prog.underlying 196) = some true := by kernel_rfl
@[go_sem ↓] theorem zr_196 : zrOf Tryz.prog 196 = some [(.pointer none)] := by kernel_rfl
@[go_sem ↓] theorem fo_196_0 : foOf Tryz.prog 196 0 = some 0 := by kernel_rfl
@[go_sem ↓] theorem pl_196_0 : plOf Tryz.prog 196 0 = some (0, 1) := by kernel_rfl
@[go_sem ↓] theorem fl_196 : plOf1 Tryz.prog 196 = true := by kernel_rfl
@[go_sem ↓] theorem sz_197 : Tryz.prog.cellsOf 197 = 1 := by kernel_rfl
@[go_sem ↓] theorem ag_197 : isAggU (Tryz.prog.underlying 197) = some true := by kernel_rfl
@[go_sem ↓] theorem if_197 : isIfU (Tryz.prog.underlying 197) = false := by kernel_rfl
@[go_sem ↓] theorem zr_197 : zrOf Tryz.prog 197 = some [(.pointer none)] := by kernel_rfl
@[go_sem ↓] theorem fo_197_0 : foOf Tryz.prog 197 0 = some 0 := by kernel_rfl
@[go_sem ↓] theorem pl_197_0 : plOf Tryz.prog 197 0 = some (0, 1) := by kernel_rfl
@[go_sem ↓] theorem fl_197 : plOf1 Tryz.prog 197 = true := by kernel_rfl
@[go_sem ↓] theorem sz_198 : Tryz.prog.cellsOf 198 = 1 := by kernel_rfl
@[go_sem ↓] theorem ag_198 : isAggU (Tryz.prog.underlying 198) = some false := by kernel_rfl
@[go_sem ↓] theorem if_198 : isIfU (Tryz.prog.underlying 198) = false := by kernel_rfl
@[go_sem ↓] theorem zr_198 : zrOf Tryz.prog 198 = some [(.pointer none)] := by kernel_rfl
@[go_sem ↓] theorem sz_199 : Tryz.prog.cellsOf 199 = 1 := by kernel_rfl
@[go_sem ↓] theorem ag_199 : isAggU (Tryz.prog.underlying 199) = some false := by kernel_rfl
@[go_sem ↓] theorem zr_199 : zrOf Tryz.prog 199 = some [.nilFunc] := by kernel_rfl
@[go_sem ↓] theorem sz_200 : Tryz.prog.cellsOf 200 = 1 := by kernel_rfl
@[go_sem ↓] theorem ag_200 : isAggU (Tryz.prog.underlying 200) = some false := by kernel_rfl
@[go_sem ↓] theorem zr_200 : zrOf Tryz.prog 200 = some [.nilFunc] := by kernel_rfl
@[go_sem ↓] theorem sz_201 : Tryz.prog.cellsOf 201 = 1 := by kernel_rfl
@[go_sem ↓] theorem ag_201 : isAggU (Tryz.prog.underlying 201) = some false := by kernel_rfl
@[go_sem ↓] theorem zr_201 : zrOf Tryz.prog 201 = some [.nilFunc] := by kernel_rfl
@[go_sem ↓] theorem sz_202 : Tryz.prog.cellsOf 202 = 1 := by kernel_rfl
@[go_sem ↓] theorem ag_202 : isAggU (Tryz.prog.underlying 202) = some false := by kernel_rfl
@[go_sem ↓] theorem zr_202 : zrOf Tryz.prog 202 = some [.nilIface] := by kernel_rfl
@[go_sem ↓] theorem sz_204 : Tryz.prog.cellsOf 204 = 1 := by kernel_rfl
@[go_sem ↓] theorem ag_204 : isAggU (Tryz.prog.underlying 204) = some false := by kernel_rfl
@[go_sem ↓] theorem zr_204 : zrOf Tryz.prog 204 = some [.nilFunc] := by kernel_rfl
@[go_sem ↓] theorem sz_205 : Tryz.prog.cellsOf 205 = 1 := by kernel_rfl
@[go_sem ↓] theorem ag_205 : isAggU (Tryz.prog.underlying 205) = some false := by kernel_rfl
@[go_sem ↓] theorem zr_205 : zrOf Tryz.prog 205 = some [.nilIface] := by kernel_rfl
@[go_sem ↓] theorem sz_206 : Tryz.prog.cellsOf 206 = 1 := by kernel_rfl
@[go_sem ↓] theorem ag_206 : isAggU (Tryz.prog.underlying 206) = some false := by kernel_rfl
@[go_sem ↓] theorem zr_206 : zrOf Tryz.prog 206 = some [.nilFunc] := by kernel_rfl
@[go_sem ↓] theorem sz_207 : Tryz.prog.cellsOf 207 = 1 := by kernel_rfl
@[go_sem ↓] theorem ag_207 : isAggU (Tryz.prog.underlying 207) = some false := by kernel_rfl
@[go_sem ↓] theorem zr_207 : zrOf Tryz.prog 207 = some [.nilIface] := by kernel_rfl
@[go_sem ↓] theorem sz_208 : Tryz.prog.cellsOf 208 = 1 := by kernel_rfl
@[go_sem ↓] theorem ag_208 : isAggU (Tryz.prog.underlying 208) = some false := by kernel_rfl
@[go_sem ↓] theorem es_208 : elSz Tryz.prog 208 = 1 := by kernel_rfl
@[go_sem ↓] theorem zr_208 : zrOf Tryz.prog 208 = some [(.slice none 0 0)] := by kernel_rfl
@[go_sem ↓] theorem sz_209 : Tryz.prog.cellsOf 209 = 1 := by kernel_rfl
@[go_sem ↓] theorem ag_209 : isAggU (Tryz.prog.underlying 209) = some false := by kernel_rfl
@[go_sem ↓] theorem zr_209 : zrOf Tryz.prog 209 = some [.nilFunc] := by kernel_rfl
@[go_sem ↓] theorem sz_210 : Tryz.prog.cellsOf 210 = 1 := by kernel_rfl
@[go_sem ↓] theorem ag_210 : isAggU (Tryz.prog.underlying 210) = some false := by kernel_rfl
@[go_sem ↓] theorem zr_210 : zrOf Tryz.prog 210 = some [(.int .u32 0)] := by kernel_rfl
@[go_sem ↓] theorem sz_211 : Tryz.prog.cellsOf 211 = 1 := by kernel_rfl
@[go_sem ↓] theorem ag_211 : isAggU (Tryz.prog.underlying 211) = some false := by kernel_rfl
@[go_sem ↓] theorem zr_211 : zrOf Tryz.prog 211 = some [.nilFunc] := by kernel_rfl
@[go_sem ↓] theorem sz_212 : Tryz.prog.cellsOf 212 = 1 := by kernel_rfl
@[go_sem ↓] theorem ag_212 : isAggU (Tryz.prog.underlying 212) = some false := by kernel_rfl
@[go_sem ↓] theorem zr_212 : zrOf Tryz.prog 212 = some [.nilFunc] := by kernel_rfl
@[go_sem ↓] theorem sz_213 : Tryz.prog.cellsOf 213 = 1 := by kernel_rfl
@[go_sem ↓] theorem ag_213 : isAggU (Tryz.prog.underlying 213) = some false := by kernel_rfl
@[go_sem ↓] theorem zr_213 : zrOf Tryz.prog 213 = some [.nilFunc] := by kernel_rfl
@[go_sem ↓] theorem sz_215 : Tryz.prog.cellsOf 215 = 1 := by kernel_rfl
@[go_sem ↓] theorem ag_215 : isAggU (Tryz.prog.underlying 215) = some false := by kernel_rfl
@[go_sem ↓] theorem zr_215 : zrOf Tryz.prog 215 = some [.nilFunc] := by kernel_rfl
@[go_sem ↓] theorem sz_216 : Tryz.prog.cellsOf 216 = 1 := by kernel_rfl
@[go_sem ↓] theorem ag_216 : isAggU (Tryz.prog.underlying 216) = some false := by kernel_rfl
@[go_sem ↓] theorem zr_216 : zrOf Tryz.prog 216 = some [.nilFunc] := by kernel_rfl
@[go_sem ↓] theorem sz_217 : Tryz.prog.cellsOf 217 = 1 := by kernel_rfl
@[go_sem ↓] theorem ag_217 : isAggU (Tryz.prog.underlying 217) = some false := by kernel_rfl
@[go_sem ↓] theorem if_217 : isIfU (Tryz.prog.underlying 217) = false := by kernel_rfl
@[go_sem ↓] theorem zr_217 : zrOf Tryz.prog 217 = some [(.pointer none)] := by kernel_rfl
@[go_sem ↓] theorem sz_218 : Tryz.prog.cellsOf 218 = 2 := by kernel_rfl
@[go_sem ↓] theorem ag_218 : isAggU (Tryz.prog.underlying 218) = some true := by kernel_rfl
@[go_sem ↓] theorem zr_218 : zrOf Tryz.prog 218 = some [(.int .i64 0), .nilIface] := by kernel_rfl
@[go_sem ↓] theorem fo_218_0 : foOf Tryz.prog 218 0 = some 0 := by kernel_rfl
@[go_sem ↓] theorem pl_218_0 : plOf Tryz.prog 218 0 = some (0, 1) := by kernel_rfl
@[go_sem ↓] theorem fo_218_1 : foOf Tryz.prog 218 1 = some 1 := by kernel_rfl
@[go_sem ↓] theorem pl_218_1 : plOf Tryz.prog 218 1 = some (1, 1) := by kernel_rfl
@[go_sem ↓] theorem fl_218 : plOf1 Tryz.prog 218 = true := by kernel_rfl
@[go_sem ↓] theorem sz_219 : Tryz.prog.cellsOf 219 = 2 := by kernel_rfl
@[go_sem ↓] theorem ag_219 : isAggU (Tryz.prog.underlying 219) = some true := by kernel_rfl
@[go_sem ↓] theorem if_219 : isIfU (Tryz.prog.underlying 219) = false := by kernel_rfl
@[go_sem ↓] theorem zr_219 : zrOf Tryz.prog 219 = some [(.int .i64 0), .nilIface] := by kernel_rfl
@[go_sem ↓] theorem fo_219_0 : foOf Tryz.prog 219 0 = some 0 := by kernel_rfl
@[go_sem ↓] theorem pl_219_0 : plOf Tryz.prog 219 0 = some (0, 1) := by kernel_rfl
@[go_sem ↓] theorem fo_219_1 : foOf Tryz.prog 219 1 = some 1 := by kernel_rfl
@[go_sem ↓] theorem pl_219_1 : plOf Tryz.prog 219 1 = some (1, 1) := by kernel_rfl
@[go_sem ↓] theorem fl_219 : plOf1 Tryz.prog 219 = true := by kernel_rfl
@[go_sem ↓] theorem sz_221 : Tryz.prog.cellsOf 221 = 1 := by kernel_rfl
@[go_sem ↓] theorem ag_221 : isAggU (Tryz.prog.underlying 221) = some false := by kernel_rfl
@[go_sem ↓] theorem zr_221 : zrOf Tryz.prog 221 = some [.nilFunc] := by kernel_rfl
@[go_sem ↓] theorem sz_222 : Tryz.prog.cellsOf 222 = 1 := by kernel_rfl
@[go_sem ↓] theorem ag_222 : isAggU (Tryz.prog.underlying 222) = some false := by kernel_rfl
@[go_sem ↓] theorem zr_222 : zrOf Tryz.prog 222 = some [.nilFunc] := by kernel_rfl
@[go_sem ↓] theorem sz_223 : Tryz.prog.cellsOf 223 = 1 := by kernel_rfl
@[go_sem ↓] theorem ag_223 : isAggU (Tryz.prog.underlying 223) = some false := by kernel_rfl
@[go_sem ↓] theorem if_223 : isIfU (Tryz.prog.underlying 223) = false := by kernel_rfl
@[go_sem ↓] theorem zr_223 : zrOf Tryz.prog 223 = some [(.pointer none)] := by kernel_rfl
@[go_sem ↓] theorem sz_224 : Tryz.prog.cellsOf 224 = 1 := by kernel_rfl
@[go_sem ↓] theorem ag_224 : isAggU (Tryz.prog.underlying 224) = some false := by kernel_rfl
@[go_sem ↓] theorem zr_224 : zrOf Tryz.prog 224 = some [.nilFunc] := by kernel_rfl
@[go_sem ↓] theorem sz_225 : Tryz.prog.cellsOf 225 = 1 := by kernel_rfl
@[go_sem ↓] theorem ag_225 : isAggU (Tryz.prog.underlying 225) = some false := by kernel_rfl
@[go_sem ↓] theorem if_225 : isIfU (Tryz.prog.underlying 225) = false := by kernel_rfl
@[go_sem ↓] theorem zr_225 : zrOf Tryz.prog 225 = some [(.int .i64 0)] := by kernel_rfl
@[go_sem ↓] theorem sz_227 : Tryz.prog.cellsOf 227 = 1 := by kernel_rfl
@[go_sem ↓] theorem ag_227 : isAggU (Tryz.prog.underlying 227) = some false := by kernel_rfl
@[go_sem ↓] theorem zr_227 : zrOf Tryz.prog 227 = some [.nilFunc] := by kernel_rfl
@[go_sem ↓] theorem sz_228 : Tryz.prog.cellsOf 228 = 1 := by kernel_rfl
@[go_sem ↓] theorem ag_228 : isAggU (Tryz.prog.underlying 228) = some false := by kernel_rfl
@[go_sem ↓] theorem zr_228 : zrOf Tryz.prog 228 = some [.nilFunc] := by kernel_rfl
@[go_sem ↓] theorem sz_229 : Tryz.prog.cellsOf 229 = 1 := by kernel_rfl
@[go_sem ↓] theorem ag_229 : isAggU (Tryz.prog.underlying 229) = some false := by kernel_rfl
@[go_sem ↓] theorem zr_229 : zrOf Tryz.prog 229 = some [.nilFunc] := by kernel_rfl
@[go_sem ↓] theorem sz_230 : Tryz.prog.cellsOf 230 = 1 := by kernel_rfl
@[go_sem ↓] theorem ag_230 : isAggU (Tryz.prog.underlying 230) = some false := by kernel_rfl
@[go_sem ↓] theorem zr_230 : zrOf Tryz.prog 230 = some [.nilFunc] := by kernel_rfl
@[go_sem ↓] theorem sz_232 : Tryz.prog.cellsOf 232 = 1 := by kernel_rfl
@[go_sem ↓] theorem ag_232 : isAggU (Tryz.prog.underlying 232) = some false := by kernel_rfl
@[go_sem ↓] theorem zr_232 : zrOf Tryz.prog 232 = some [.nilFunc] := by kernel_rfl
@[go_sem ↓] theorem sz_233 : Tryz.prog.cellsOf 233 = 1 := by kernel_rfl
@[go_sem ↓] theorem ag_233 : isAggU (Tryz.prog.underlying 233) = some false := by kernel_rfl
@[go_sem ↓] theorem zr_233 : zrOf Tryz.prog 233 = some [.nilFunc] := by kernel_rfl
@[go_sem ↓] theorem sz_234 : Tryz.prog.cellsOf 234 = 1 := by kernel_rfl
@[go_sem ↓] theorem ag_234 : isAggU (Tryz.prog.underlying 234) = some false := by kernel_rfl
@[go_sem ↓] theorem zr_234 : zrOf Tryz.prog 234 = some [.nilFunc] := by kernel_rfl
@[go_sem ↓] theorem sz_235 : Tryz.prog.cellsOf 235 = 1 := by kernel_rfl
@[go_sem ↓] theorem ag_235 : isAggU (Tryz.prog.underlying 235) = some false := by kernel_rfl
@[go_sem ↓] theorem zr_235 : zrOf Tryz.prog 235 = some [.nilFunc] := by kernel_rfl
@[go_sem ↓] theorem sz_236 : Tryz.prog.cellsOf 236 = 1 := by kernel_rfl
@[go_sem ↓] theorem ag_236 : isAggU (Tryz.prog.underlying 236) = some false := by kernel_rfl
@[go_sem ↓] theorem zr_236 : zrOf Tryz.prog 236 = some [.nilFunc] := by kernel_rfl
@[go_sem ↓] theorem sz_237 : Tryz.prog.cellsOf 237 = 1 := by kernel_rfl
@[go_sem ↓] theorem ag_237 : isAggU (Tryz.prog.underlying 237) = some false := by kernel_rfl
@[go_sem ↓] theorem zr_237 : zrOf Tryz.prog 237 = some [.nilFunc] := by kernel_rfl
@[go_sem ↓] theorem sz_238 : Tryz.prog.cellsOf 238 = 1 := by kernel_rfl
@[go_sem ↓] theorem ag_238 : isAggU (Tryz.prog.underlying 238) = some false := by kernel_rfl
@[go_sem ↓] theorem zr_238 : zrOf Tryz.prog 238 = some [.nilFunc] := by kernel_rfl
@[go_sem ↓] theorem sz_239 : Tryz.prog.cellsOf 239 = 1 := by kernel_rfl
@[go_sem ↓] theorem ag_239 : isAggU (Tryz.prog.underlying 239) = some false := by kernel_rfl
@[go_sem ↓] theorem zr_239 : zrOf Tryz.prog 239 = some [.nilIface] := by kernel_rfl
@[go_sem ↓] theorem sz_241 : Tryz.prog.cellsOf 241 = 1 := by kernel_rfl
@[go_sem ↓] theorem ag_241 : isAggU (Tryz.prog.underlying 241) = some false := by kernel_rfl
@[go_sem ↓] theorem zr_241 : zrOf Tryz.prog 241 = some [.nilFunc] := by kernel_rfl
@[go_sem ↓] theorem sz_242 : Tryz.prog.cellsOf 242 = 1 := by kernel_rfl
@[go_sem ↓] theorem ag_242 : isAggU (Tryz.prog.underlying 242) = some false := by kernel_rfl
@[go_sem ↓] theorem if_242 : isIfU (Tryz.prog.underlying 242) = false := by kernel_rfl
@[go_sem ↓] theorem zr_242 : zrOf Tryz.prog 242 = some [(.int .u64 0)] := by kernel_rfl
@[go_sem ↓] theorem sz_243 : Tryz.prog.cellsOf 243 = 1 := by kernel_rfl
@[go_sem ↓] theorem ag_243 : isAggU (Tryz.prog.underlying 243) = some false := by kernel_rfl
@[go_sem ↓] theorem zr_243 : zrOf Tryz.prog 243 = some [.nilFunc] := by kernel_rfl
@[go_sem ↓] theorem sz_244 : Tryz.prog.cellsOf 244 = 1 := by kernel_rfl
@[go_sem ↓] theorem ag_244 : isAggU (Tryz.prog.underlying 244) = some false := by kernel_rfl
@[go_sem ↓] theorem zr_244 : zrOf Tryz.prog 244 = some [.nilFunc] := by kernel_rfl
@[go_sem ↓] theorem sz_245 : Tryz.prog.cellsOf 245 = 1 := by kernel_rfl
@[go_sem ↓] theorem ag_245 : isAggU (Tryz.prog.underlying 245) = some false := by kernel_rfl
@[go_sem ↓] theorem zr_245 : zrOf Tryz.prog 245 = some [.nilFunc] := by kernel_rfl
@[go_sem ↓] theorem sz_246 : Tryz.prog.cellsOf 246 = 1 := by kernel_rfl
@[go_sem ↓] theorem ag_246 : isAggU (Tryz.prog.underlying 246) = some false := by kernel_rfl
@[go_sem ↓] theorem if_246 : isIfU (Tryz.prog.underlying 246) = false := by kernel_rfl
@[go_sem ↓] theorem zr_246 : zrOf Tryz.prog 246 = some [(.pointer none)] := by kernel_rfl
@[go_sem ↓] theorem sz_247 : Tryz.prog.cellsOf 247 = 1 := by kernel_rfl
@[go_sem ↓] theorem ag_247 : isAggU (Tryz.prog.underlying 247) = some false := by kernel_rfl
@[go_sem ↓] theorem zr_247 : zrOf Tryz.prog 247 = some [.nilFunc] := by kernel_rfl
@[go_sem ↓] theorem sz_248 : Tryz.prog.cellsOf 248 = 1 := by kernel_rfl
@[go_sem ↓] theorem ag_248 : isAggU (Tryz.prog.underlying 248) = some false := by kernel_rfl
@[go_sem ↓] theorem zr_248 : zrOf Tryz.prog 248 = some [.nilFunc] := by kernel_rfl
@[go_sem ↓] theorem sz_249 : Tryz.prog.cellsOf 249 = 1 := by kernel_rfl
@[go_sem ↓] theorem ag_249 : isAggU (Tryz.prog.underlying 249) = some false := by kernel_rfl
@[go_sem ↓] theorem if_249 : isIfU (Tryz.prog.underlying 249) = false := by kernel_rfl
@[go_sem ↓] theorem zr_249 : zrOf Tryz.prog 249 = some [.nilFunc] := by kernel_rfl
@[go_sem ↓] theorem sz_250 : Tryz.prog.cellsOf 250 = 1 := by kernel_rfl
@[go_sem ↓] theorem ag_250 : isAggU (Tryz.prog.underlying 250) = some false := by kernel_rfl
@[go_sem ↓] theorem zr_250 : zrOf Tryz.prog 250 = some [.nilFunc] := by kernel_rfl
@[go_sem ↓] theorem sz_251 : Tryz.prog.cellsOf 251 = 1 := by kernel_rfl
@[go_sem ↓] theorem ag_251 : isAggU (Tryz.prog.underlying 251) = some false := by kernel_rfl
@[go_sem ↓] theorem if_251 : isIfU (Tryz.prog.underlying 251) = false := by kernel_rfl
@[go_sem ↓] theorem zr_251 : zrOf Tryz.prog 251 = some [(.pointer none)] := by kernel_rfl
@[go_sem ↓] theorem sz_252 : Tryz.prog.cellsOf 252 = 1 := by kernel_rfl
@[go_sem ↓] theorem ag_252 : isAggU (Tryz.prog.underlying 252) = some false := by kernel_rfl
@[go_sem ↓] theorem zr_252 : zrOf Tryz.prog 252 = some [.nilFunc] := by kernel_rfl
@[go_sem ↓] theorem sz_253 : Tryz.prog.cellsOf 253 = 1 := by kernel_rfl
@[go_sem ↓] theorem ag_253 : isAggU (Tryz.prog.underlying 253) = some false := by kernel_rfl
@[go_sem ↓] theorem zr_253 : zrOf Tryz.prog 253 = some [.nilFunc] := by kernel_rfl
@[go_sem ↓] theorem sz_254 : Tryz.prog.cellsOf 254 = 1 := by kernel_rfl
@[go_sem ↓] theorem ag_254 : isAggU (Tryz.prog.underlying 254) = some false := by kernel_rfl
@[go_sem ↓] theorem zr_254 : zrOf Tryz.prog 254 = some [.nilFunc] := by kernel_rfl
@[go_sem ↓] theorem sz_255 : Tryz.prog.cellsOf 255 = 4 := by kernel_rfl
@[go_sem ↓] theorem ag_255 : isAggU (Tryz.prog.underlying 255) = some true := by kernel_rfl
@[go_sem ↓] theorem zr_255 : zrOf Tryz.prog 255 = some [(.pointer none), (.pointer none), (.pointer none), (.string ⟨#[]⟩)] := by kernel_rfl
@[go_sem ↓] theorem fo_255_0 : foOf Tryz.prog 255 0 = some 0 := by kernel_rfl
@[go_sem ↓] theorem pl_255_0 : plOf Tryz.prog 255 0 = some (0, 1) := by kernel_rfl
@[go_sem ↓] theorem fo_255_1 : foOf Tryz.prog 255 1 = some 1 := by kernel_rfl
@[go_sem ↓] theorem pl_255_1 : plOf Tryz.prog 255 1 = some (1, 1) := by kernel_rfl
@[go_sem ↓] theorem fo_255_2 : foOf Tryz.prog 255 2 = some 2 := by kernel_rfl
@[go_sem ↓] theorem pl_255_2 : plOf Tryz.prog 255 2 = some (2, 1) := by kernel_rfl
@[go_sem ↓] theorem fo_255_3 : foOf Tryz.prog 255 3 = some 3 := by kernel_rfl
@[go_sem ↓] theorem pl_255_3 : plOf Tryz.prog 255 3 = some (3, 1) := by kernel_rfl
@[go_sem ↓] theorem fl_255 : plOf1 Tryz.prog 255 = true := by kernel_rfl
@[go_sem ↓] theorem sz_256 : Tryz.prog.cellsOf 256 = 4 := by kernel_rfl
@[go_sem ↓] theorem ag_256 : isAggU (Tryz.prog.underlying 256) = some true := by kernel_rfl
@[go_sem ↓] theorem if_256 : isIfU (Tryz.prog.underlying 256) = false := by kernel_rfl
@[go_sem ↓] theorem zr_256 : zrOf Tryz.prog 256 = some [(.pointer none), (.pointer none), (.pointer none), (.string ⟨#[]⟩)] := by kernel_rfl
@[go_sem ↓] theorem fo_256_0 : foOf Tryz.prog 256 0 = some 0 := by kernel_rfl
@[go_sem ↓] theorem pl_256_0 : plOf Tryz.prog 256 0 = some (0, 1) := by kernel_rfl
@[go_sem ↓] theorem fo_256_1 : foOf Tryz.prog 256 1 = some 1 := by kernel_rfl
@[go_sem ↓] theorem pl_256_1 : plOf Tryz.prog 256 1 = some (1, 1) := by kernel_rfl
@[go_sem ↓] theorem fo_256_2 : foOf Tryz.prog 256 2 = some 2 := by kernel_rfl
@[go_sem ↓] theorem pl_256_2 : plOf Tryz.prog 256 2 = some (2, 1) := by kernel_rfl
@[go_sem ↓] theorem fo_256_3 : foOf Tryz.prog 256 3 = some 3 := by kernel_rfl
@[go_sem ↓] theorem pl_256_3 : plOf Tryz.prog 256 3 = some (3, 1) := by kernel_rfl
@[go_sem ↓] theorem fl_256 : plOf1 Tryz.prog 256 = true := by kernel_rfl
@[go_sem ↓] theorem sz_257 : Tryz.prog.cellsOf 257 = 0 := by kernel_rfl
@[go_sem ↓] theorem ag_257 : isAggU (Tryz.prog.underlying 257) = some true := by kernel_rfl
@[go_sem ↓] theorem es_257 : elSz Tryz.prog 257 = 1 := by kernel_rfl
@[go_sem ↓] theorem zr_257 : zrOf Tryz.prog 257 = some [] := by kernel_rfl
@[go_sem ↓] theorem fl_257 : plOf1 Tryz.prog 257 = true := by kernel_rfl
@[go_sem ↓] theorem sz_258 : Tryz.prog.cellsOf 258 = 0 := by kernel_rfl
@[go_sem ↓] theorem ag_258 : isAggU (Tryz.prog.underlying 258) = some true := by kernel_rfl
@[go_sem ↓] theorem zr_258 : zrOf Tryz.prog 258 = some [] := by kernel_rfl
@[go_sem ↓] theorem pl_258_0 : plOf Tryz.prog 258 0 = some (0, 0) := by kernel_rfl
@[go_sem ↓] theorem fl_258 : plOf1 Tryz.prog 258 = true := by kernel_rfl
@[go_sem ↓] theorem sz_259 : Tryz.prog.cellsOf 259 = 0 := by kernel_rfl
@[go_sem ↓] theorem ag_259 : isAggU (Tryz.prog.underlying 259) = some true := by kernel_rfl
@[go_sem ↓] theorem if_259 : isIfU (Tryz.prog.underlying 259) = false := by kernel_rfl
@[go_sem ↓] theorem zr_259 : zrOf Tryz.prog 259 = some [] := by kernel_rfl
@[go_sem ↓] theorem pl_259_0 : plOf Tryz.prog 259 0 = some (0, 0) := by kernel_rfl
@[go_sem ↓] theorem fl_259 : plOf1 Tryz.prog 259 = true := by kernel_rfl
@[go_sem ↓] theorem sz_260 : Tryz.prog.cellsOf 260 = 1 := by kernel_rfl
@[go_sem ↓] theorem ag_260 : isAggU (Tryz.prog.underlying 260) = some false := by kernel_rfl
@[go_sem ↓] theorem zr_260 : zrOf Tryz.prog 260 = some [.nilFunc] := by kernel_rfl
@[go_sem ↓] theorem sz_261 : Tryz.prog.cellsOf 261 = 1 := by kernel_rfl
@[go_sem ↓] theorem ag_261 : isAggU (Tryz.prog.underlying 261) = some false := by kernel_rfl
@[go_sem ↓] theorem if_261 : isIfU (Tryz.prog.underlying 261) = false := by kernel_rfl
@[go_sem ↓] theorem zr_261 : zrOf Tryz.prog 261 = some [(.int .u8 0)] := by kernel_rfl
@[go_sem ↓] theorem sz_262 : Tryz.prog.cellsOf 262 = 1 := by kernel_rfl
@[go_sem ↓] theorem ag_262 : isAggU (Tryz.prog.underlying 262) = some false := by kernel_rfl
@[go_sem ↓] theorem zr_262 : zrOf Tryz.prog 262 = some [.nilFunc] := by kernel_rfl
@[go_sem ↓] theorem sz_263 : Tryz.prog.cellsOf 263 = 1 := by kernel_rfl
@[go_sem ↓] theorem ag_263 : isAggU (Tryz.prog.underlying 263) = some false := by kernel_rfl
@[go_sem ↓] theorem if_263 : isIfU (Tryz.prog.underlying 263) = false := by kernel_rfl
@[go_sem ↓] theorem zr_263 : zrOf Tryz.prog 263 = some [(.pointer none)] := by kernel_rfl
@[go_sem ↓] theorem sz_264 : Tryz.prog.cellsOf 264 = 1 := by kernel_rfl
@[go_sem ↓] theorem ag_264 : isAggU (Tryz.prog.underlying 264) = some false := by kernel_rfl
@[go_sem ↓] theorem if_264 : isIfU (Tryz.prog.underlying 264) = false := by kernel_rfl
@[go_sem ↓] theorem zr_264 : zrOf Tryz.prog 264 = some [(.int .i32 0)] := by kernel_rfl
@[go_sem ↓] theorem sz_265 : Tryz.prog.cellsOf 265 = 1 := by kernel_rfl
@[go_sem ↓] theorem ag_265 : isAggU (Tryz.prog.underlying 265) = some false := by kernel_rfl
@[go_sem ↓] theorem if_265 : isIfU (Tryz.prog.underlying 265) = false := by kernel_rfl
@[go_sem ↓] theorem zr_265 : zrOf Tryz.prog 265 = some [(.int .i32 0)] := by kernel_rfl
@[go_sem ↓] theorem sz_266 : Tryz.prog.cellsOf 266 = 11 := by kernel_rfl
@[go_sem ↓] theorem ag_266 : isAggU (Tryz.prog.underlying 266) = some true := by kernel_rfl
@[go_sem ↓] theorem zr_266 : zrOf Tryz.prog 266 = some [(.int .u64 0), (.int .u64 0), (.int .u32 0), (.int .u8 0), (.int .u8 0), (.int .u8 0), (.int .u8 0), .nilFunc, (.pointer none), (.int .i32 0), (.int .i32 0)] := by kernel_rfl
@[go_sem ↓] theorem fo_266_0 : foOf Tryz.prog 266 0 = some 0 := by kernel_rfl
@[go_sem ↓] theorem pl_266_0 : plOf Tryz.prog 266 0 = some (0, 1) := by kernel_rfl
@[go_sem ↓] theorem fo_266_1 : foOf Tryz.prog 266 1 = some 1 := by kernel_rfl
@[go_sem ↓] theorem pl_266_1 : plOf Tryz.prog 266 1 = some (1, 1) := by kernel_rfl
@[go_sem ↓] theorem fo_266_2 : foOf Tryz.prog 266 2 = some 2 := by kernel_rfl
@[go_sem ↓] theorem pl_266_2 : plOf Tryz.prog 266 2 = some (2, 1) := by kernel_rfl
@[go_sem ↓] theorem fo_266_3 : foOf Tryz.prog 266 3 = some 3 := by kernel_rfl
@[go_sem ↓] theorem pl_266_3 : plOf Tryz.prog 266 3 = some (3, 1) := by kernel_rfl
@[go_sem ↓] theorem fo_266_4 : foOf Tryz.prog 266 4 = some 4 := by kernel_rfl
@[go_sem ↓] theorem pl_266_4 : plOf Tryz.prog 266 4 = some (4, 1) := by kernel_rfl
@[go_sem ↓] theorem fo_266_5 : foOf Tryz.prog 266 5 = some 5 := by kernel_rfl
@[go_sem ↓] theorem pl_266_5 : plOf Tryz.prog 266 5 = some (5, 1) := by kernel_rfl
@[go_sem ↓] theorem fo_266_6 : foOf Tryz.prog 266 6 = some 6 := by kernel_rfl
@[go_sem ↓] theorem pl_266_6 : plOf Tryz.prog 266 6 = some (6, 1) := by kernel_rfl
@[go_sem ↓] theorem fo_266_7 : foOf Tryz.prog 266 7 = some 7 := by kernel_rfl
@[go_sem ↓] theorem pl_266_7 : plOf Tryz.prog 266 7 = some (7, 1) := by kernel_rfl
@[go_sem ↓] theorem fo_266_8 : foOf Tryz.prog 266 8 = some 8 := by kernel_rfl
@[go_sem ↓] theorem pl_266_8 : plOf Tryz.prog 266 8 = some (8, 1) := by kernel_rfl
@[go_sem ↓] theorem fo_266_9 : foOf Tryz.prog 266 9 = some 9 := by kernel_rfl
@[go_sem ↓] theorem pl_266_9 : plOf Tryz.prog 266 9 = some (9, 1) := by kernel_rfl
@[go_sem ↓] theorem fo_266_10 : foOf Tryz.prog 266 10 = some 10 := by kernel_rfl
@[go_sem ↓] theorem pl_266_10 : plOf Tryz.prog 266 10 = some (10, 1) := by kernel_rfl
@[go_sem ↓] theorem fl_266 : plOf1 Tryz.prog 266 = true := by kernel_rfl
@[go_sem ↓] theorem sz_267 : Tryz.prog.cellsOf 267 = 11 := by kernel_rfl
@[go_sem ↓] theorem ag_267 : isAggU (Tryz.prog.underlying 267) = some true := by kernel_rfl
@[go_sem ↓] theorem if_267 : isIfU (Tryz.prog.underlying 267) = false := by kernel_rfl
@[go_sem ↓] theorem zr_267 : zrOf Tryz.prog 267 = some [(.int .u64 0), (.int .u64 0), (.int .u32 0), (.int .u8 0), (.int .u8 0), (.int .u8 0), (.int .u8 0), .nilFunc, (.pointer none), (.int .i32 0), (.int .i32 0)] := by kernel_rfl
@[go_sem ↓] theorem fo_267_0 : foOf Tryz.prog 267 0 = some 0 := by kernel_rfl
@[go_sem ↓] theorem pl_267_0 : plOf Tryz.prog 267 0 = some (0, 1) := by kernel_rfl
@[go_sem ↓] theorem fo_267_1 : foOf Tryz.prog 267 1 = some 1 := by kernel_rfl
@[go_sem ↓] theorem pl_267_1 : plOf Tryz.prog 267 1 = some (1, 1) := by kernel_rfl
@[go_sem ↓] theorem fo_267_2 : foOf Tryz.prog 267 2 = some 2 := by kernel_rfl
@[go_sem ↓] theorem pl_267_2 : plOf Tryz.prog 267 2 = some (2, 1) := by kernel_rfl
@[go_sem ↓] theorem fo_267_3 : foOf Tryz.prog 267 3 = some 3 := by kernel_rfl
@[go_sem ↓] theorem pl_267_3 : plOf Tryz.prog 267 3 = some (3, 1) := by kernel_rfl
@[go_sem ↓] theorem fo_267_4 : foOf Tryz.prog 267 4 = some 4 := by kernel_rfl
@[go_sem ↓] theorem pl_267_4 : plOf Tryz.prog 267 4 = some (4, 1) := by kernel_rfl
@[go_sem ↓] theorem fo_267_5 : foOf Tryz.prog 267 5 = some 5 := by kernel_rfl
@[go_sem ↓] theorem pl_267_5 : plOf Tryz.prog 267 5 = some (5, 1) := by kernel_rfl
@[go_sem ↓] theorem fo_267_6 : foOf Tryz.prog 267 6 = some 6 := by kernel_rfl
@[go_sem ↓] theorem pl_267_6 : plOf Tryz.prog 267 6 = some (6, 1) := by kernel_rfl
@[go_sem ↓] theorem fo_267_7 : foOf Tryz.prog 267 7 = some 7 := by kernel_rfl
@[go_sem ↓] theorem pl_267_7 : plOf Tryz.prog 267 7 = some (7, 1) := by kernel_rfl
@[go_sem ↓] theorem fo_267_8 : foOf Tryz.prog 267 8 = some 8 := by kernel_rfl
@[go_sem ↓] theorem pl_267_8 : plOf Tryz.prog 267 8 = some (8, 1) := by kernel_rfl
@[go_sem ↓] theorem fo_267_9 : foOf Tryz.prog 267 9 = some 9 := by kernel_rfl
@[go_sem ↓] theorem pl_267_9 : plOf Tryz.prog 267 9 = some (9, 1) := by kernel_rfl
@[go_sem ↓] theorem fo_267_10 : foOf Tryz.prog 267 10 = some 10 := by kernel_rfl
@[go_sem ↓] theorem pl_267_10 : plOf Tryz.prog 267 10 = some (10, 1) := by kernel_rfl
@[go_sem ↓] theorem fl_267 : plOf1 Tryz.prog 267 = true := by kernel_rfl
@[go_sem ↓] theorem sz_268 : Tryz.prog.cellsOf 268 = 2 := by kernel_rfl
@[go_sem ↓] theorem ag_268 : isAggU (Tryz.prog.underlying 268) = some true := by kernel_rfl
@[go_sem ↓] theorem zr_268 : zrOf Tryz.prog 268 = some [(.int .i64 0), (.int .i64 0)] := by kernel_rfl
@[go_sem ↓] theorem fo_268_0 : foOf Tryz.prog 268 0 = some 0 := by kernel_rfl
@[go_sem ↓] theorem pl_268_0 : plOf Tryz.prog 268 0 = some (0, 1) := by kernel_rfl
@[go_sem ↓] theorem fo_268_1 : foOf Tryz.prog 268 1 = some 1 := by kernel_rfl
@[go_sem ↓] theorem pl_268_1 : plOf Tryz.prog 268 1 = some (1, 1) := by kernel_rfl
@[go_sem ↓] theorem fl_268 : plOf1 Tryz.prog 268 = true := by kernel_rfl
@[go_sem ↓] theorem sz_269 : Tryz.prog.cellsOf 269 = 2 := by kernel_rfl
@[go_sem ↓] theorem ag_269 : isAggU (Tryz.prog.underlying 269) = some true := by kernel_rfl
@[go_sem ↓] theorem if_269 : isIfU (Tryz.prog.underlying 269) = false := by kernel_rfl
@[go_sem ↓] theorem zr_269 : zrOf Tryz.prog 269 = some [(.int .i64 0), (.int .i64 0)] := by kernel_rfl
@[go_sem ↓] theorem fo_269_0 : foOf Tryz.prog 269 0 = some 0 := by kernel_rfl
@[go_sem ↓] theorem pl_269_0 : plOf Tryz.prog 269 0 = some (0, 1) := by kernel_rfl
@[go_sem ↓] theorem fo_269_1 : foOf Tryz.prog 269 1 = some 1 := by kernel_rfl
@[go_sem ↓] theorem pl_269_1 : plOf Tryz.prog 269 1 = some (1, 1) := by kernel_rfl
@[go_sem ↓] theorem fl_269 : plOf1 Tryz.prog 269 = true := by kernel_rfl
@[go_sem ↓] theorem sz_270 : Tryz.prog.cellsOf 270 = 1 := by kernel_rfl
@[go_sem ↓] theorem ag_270 : isAggU (Tryz.prog.underlying 270) = some false := by kernel_rfl
@[go_sem ↓] theorem zr_270 : zrOf Tryz.prog 270 = some [.nilFunc] := by kernel_rfl
@[go_sem ↓] theorem sz_271 : Tryz.prog.cellsOf 271 = 1 := by kernel_rfl
@[go_sem ↓] theorem ag_271 : isAggU (Tryz.prog.underlying 271) = some false := by kernel_rfl
@[go_sem ↓] theorem zr_271 : zrOf Tryz.prog 271 = some [.nilFunc] := by kernel_rfl
@[go_sem ↓] theorem sz_272 : Tryz.prog.cellsOf 272 = 2 := by kernel_rfl
@[go_sem ↓] theorem ag_272 : isAggU (Tryz.prog.underlying 272) = some true := by kernel_rfl
@[go_sem ↓] theorem zr_272 : zrOf Tryz.prog 272 = some [(.string ⟨#[]⟩), (.int .u8 0)] := by kernel_rfl
@[go_sem ↓] theorem fo_272_0 : foOf Tryz.prog 272 0 = some 0 := by kernel_rfl
@[go_sem ↓] theorem pl_272_0 : plOf Tryz.prog 272 0 = some (0, 1) := by kernel_rfl
@[go_sem ↓] theorem fo_272_1 : foOf Tryz.prog 272 1 = some 1 := by kernel_rfl
@[go_sem ↓] theorem pl_272_1 : plOf Tryz.prog 272 1 = some (1, 1) := by kernel_rfl
@[go_sem ↓] theorem fl_272 : plOf1 Tryz.prog 272 = true := by kernel_rfl
@[go_sem ↓] theorem sz_273 : Tryz.prog.cellsOf 273 = 2 := by kernel_rfl
@[go_sem ↓] theorem ag_273 : isAggU (Tryz.prog.underlying 273) = some true := by kernel_rfl
@[go_sem ↓] theorem if_273 : isIfU (Tryz.prog.underlying 273) = false := by kernel_rfl
@[go_sem ↓] theorem zr_273 : zrOf Tryz.prog 273 = some [(.string ⟨#[]⟩), (.int .u8 0)] := by kernel_rfl
@[go_sem ↓] theorem fo_273_0 : foOf Tryz.prog 273 0 = some 0 := by kernel_rfl
@[go_sem ↓] theorem pl_273_0 : plOf Tryz.prog 273 0 = some (0, 1) := by kernel_rfl
@[go_sem ↓] theorem fo_273_1 : foOf Tryz.prog 273 1 = some 1 := by kernel_rfl
@[go_sem ↓] theorem pl_273_1 : plOf Tryz.prog 273 1 = some (1, 1) := by kernel_rfl
@[go_sem ↓] theorem fl_273 : plOf1 Tryz.prog 273 = true := by kernel_rfl
@[go_sem ↓] theorem sz_274 : Tryz.prog.cellsOf 274 = 1 := by kernel_rfl
@[go_sem ↓] theorem ag_274 : isAggU (Tryz.prog.underlying 274) = some false := by kernel_rfl
@[go_sem ↓] theorem if_274 : isIfU (Tryz.prog.underlying 274) = false := by kernel_rfl
@[go_sem ↓] theorem zr_274 : zrOf Tryz.prog 274 = some [(.pointer none)] := by kernel_rfl
@[go_sem ↓] theorem sz_275 : Tryz.prog.cellsOf 275 = 1 := by kernel_rfl
@[go_sem ↓] theorem ag_275 : isAggU (Tryz.prog.underlying 275) = some false := by kernel_rfl
@[go_sem ↓] theorem zr_275 : zrOf Tryz.prog 275 = some [.nilFunc] := by kernel_rfl
@[go_sem ↓] theorem sz_276 : Tryz.prog.cellsOf 276 = 1 := by kernel_rfl
@[go_sem ↓] theorem ag_276 : isAggU (Tryz.prog.underlying 276) = some false := by kernel_rfl
@[go_sem ↓] theorem zr_276 : zrOf Tryz.prog 276 = some [(.int .u16 0)] := by kernel_rfl
@[go_sem ↓] theorem sz_277 : Tryz.prog.cellsOf 277 = 5 := by kernel_rfl
@[go_sem ↓] theorem ag_277 : isAggU (Tryz.prog.underlying 277) = some true := by kernel_rfl
@[go_sem ↓] theorem zr_277 : zrOf Tryz.prog 277 = some [(.int .i32 0), (.int .u16 0), (.int .u16 0), (.int .u32 0), (.int .u32 0)] := by kernel_rfl
@[go_sem ↓] theorem fo_277_0 : foOf Tryz.prog 277 0 = some 0 := by kernel_rfl
@[go_sem ↓] theorem pl_277_0 : plOf Tryz.prog 277 0 = some (0, 1) := by kernel_rfl
@[go_sem ↓] theorem fo_277_1 : foOf Tryz.prog 277 1 = some 1 := by kernel_rfl
@[go_sem ↓] theorem pl_277_1 : plOf Tryz.prog 277 1 = some (1, 1) := by kernel_rfl
@[go_sem ↓] theorem fo_277_2 : foOf Tryz.prog 277 2 = some 2 := by kernel_rfl
@[go_sem ↓] theorem pl_277_2 : plOf Tryz.prog 277 2 = some (2, 1) := by kernel_rfl
@[go_sem ↓] theorem fo_277_3 : foOf Tryz.prog 277 3 = some 3 := by kernel_rfl
@[go_sem ↓] theorem pl_277_3 : plOf Tryz.prog 277 3 = some (3, 1) := by kernel_rfl
@[go_sem ↓] theorem fo_277_4 : foOf Tryz.prog 277 4 = some 4 := by kernel_rfl
@[go_sem ↓] theorem pl_277_4 : plOf Tryz.prog 277 4 = some (4, 1) := by kernel_rfl
@[go_sem ↓] theorem fl_277 : plOf1 Tryz.prog 277 = true := by kernel_rfl
@[go_sem ↓] theorem sz_278 : Tryz.prog.cellsOf 278 = 5 := by kernel_rfl
@[go_sem ↓] theorem ag_278 : isAggU (Tryz.prog.underlying 278) = some true := by kernel_rfl
@[go_sem ↓] theorem if_278 : isIfU (Tryz.prog.underlying 278) = false := by kernel_rfl
@[go_sem ↓] theorem zr_278 : zrOf Tryz.prog 278 = some [(.int .i32 0), (.int .u16 0), (.int .u16 0), (.int .u32 0), (.int .u32 0)] := by kernel_rfl
@[go_sem ↓] theorem fo_278_0 : foOf Tryz.prog 278 0 = some 0 := by kernel_rfl
@[go_sem ↓] theorem pl_278_0 : plOf Tryz.prog 278 0 = some (0, 1) := by kernel_rfl
@[go_sem ↓] theorem fo_278_1 : foOf Tryz.prog 278 1 = some 1 := by kernel_rfl
@[go_sem ↓] theorem pl_278_1 : plOf Tryz.prog 278 1 = some (1, 1) := by kernel_rfl
@[go_sem ↓] theorem fo_278_2 : foOf Tryz.prog 278 2 = some 2 := by kernel_rfl
@[go_sem ↓] theorem pl_278_2 : plOf Tryz.prog 278 2 = some (2, 1) := by kernel_rfl
@[go_sem ↓] theorem fo_278_3 : foOf Tryz.prog 278 3 = some 3 := by kernel_rfl
@[go_sem ↓] theorem pl_278_3 : plOf Tryz.prog 278 3 = some (3, 1) := by kernel_rfl
@[go_sem ↓] theorem fo_278_4 : foOf Tryz.prog 278 4 = some 4 := by kernel_rfl
@[go_sem ↓] theorem pl_278_4 : plOf Tryz.prog 278 4 = some (4, 1) := by kernel_rfl
@[go_sem ↓] theorem fl_278 : plOf1 Tryz.prog 278 = true := by kernel_rfl
@[go_sem ↓] theorem sz_279 : Tryz.prog.cellsOf 279 = 1 := by kernel_rfl
@[go_sem ↓] theorem ag_279 : isAggU (Tryz.prog.underlying 279) = some false := by kernel_rfl
@[go_sem ↓] theorem es_279 : elSz Tryz.prog 279 = 4 := by kernel_rfl
@[go_sem ↓] theorem zr_279 : zrOf Tryz.prog 279 = some [(.slice none 0 0)] := by kernel_rfl
@[go_sem ↓] theorem sz_280 : Tryz.prog.cellsOf 280 = 1 := by kernel_rfl
@[go_sem ↓] theorem ag_280 : isAggU (Tryz.prog.underlying 280) = some false := by kernel_rfl
@[go_sem ↓] theorem if_280 : isIfU (Tryz.prog.underlying 280) = false := by kernel_rfl
@[go_sem ↓] theorem zr_280 : zrOf Tryz.prog 280 = some [(.int .i32 0)] := by kernel_rfl
@[go_sem ↓] theorem sz_281 : Tryz.prog.cellsOf 281 = 4 := by kernel_rfl
@[go_sem ↓] theorem ag_281 : isAggU (Tryz.prog.underlying 281) = some true := by kernel_rfl
@[go_sem ↓] theorem zr_281 : zrOf Tryz.prog 281 = some [(.int .i32 0), (.int .i32 0), (.int .i32 0), (.int .i32 0)] := by kernel_rfl
@[go_sem ↓] theorem fo_281_0 : foOf Tryz.prog 281 0 = some 0 := by kernel_rfl
@[go_sem ↓] theorem pl_281_0 : plOf Tryz.prog 281 0 = some (0, 1) := by kernel_rfl
@[go_sem ↓] theorem fo_281_1 : foOf Tryz.prog 281 1 = some 1 := by kernel_rfl
@[go_sem ↓] theorem pl_281_1 : plOf Tryz.prog 281 1 = some (1, 1) := by kernel_rfl
@[go_sem ↓] theorem fo_281_2 : foOf Tryz.prog 281 2 = some 2 := by kernel_rfl
@[go_sem ↓] theorem pl_281_2 : plOf Tryz.prog 281 2 = some (2, 1) := by kernel_rfl
@[go_sem ↓] theorem fo_281_3 : foOf Tryz.prog 281 3 = some 3 := by kernel_rfl
@[go_sem ↓] theorem pl_281_3 : plOf Tryz.prog 281 3 = some (3, 1) := by kernel_rfl
@[go_sem ↓] theorem fl_281 : plOf1 Tryz.prog 281 = true := by kernel_rfl
@[go_sem ↓] theorem sz_282 : Tryz.prog.cellsOf 282 = 4 := by kernel_rfl
@[go_sem ↓] theorem ag_282 : isAggU (Tryz.prog.underlying 282) = some true := by kernel_rfl
@[go_sem ↓] theorem if_282 : isIfU (Tryz.prog.underlying 282) = false := by kernel_rfl
@[go_sem ↓] theorem zr_282 : zrOf Tryz.prog 282 = some [(.int .i32 0), (.int .i32 0), (.int .i32 0), (.int .i32 0)] := by kernel_rfl
@[go_sem ↓] theorem fo_282_0 : foOf Tryz.prog 282 0 = some 0 := by kernel_rfl
@[go_sem ↓] theorem pl_282_0 : plOf Tryz.prog 282 0 = some (0, 1) := by kernel_rfl
@[go_sem ↓] theorem fo_282_1 : foOf Tryz.prog 282 1 = some 1 := by kernel_rfl
@[go_sem ↓] theorem pl_282_1 : plOf Tryz.prog 282 1 = some (1, 1) := by kernel_rfl
@[go_sem ↓] theorem fo_282_2 : foOf Tryz.prog 282 2 = some 2 := by kernel_rfl
@[go_sem ↓] theorem pl_282_2 : plOf Tryz.prog 282 2 = some (2, 1) := by kernel_rfl
@[go_sem ↓] theorem fo_282_3 : foOf Tryz.prog 282 3 = some 3 := by kernel_rfl
@[go_sem ↓] theorem pl_282_3 : plOf Tryz.prog 282 3 = some (3, 1) := by kernel_rfl
@[go_sem ↓] theorem fl_282 : plOf1 Tryz.prog 282 = true := by kernel_rfl
@[go_sem ↓] theorem sz_283 : Tryz.prog.cellsOf 283 = 1 := by kernel_rfl
@[go_sem ↓] theorem ag_283 : isAggU (Tryz.prog.underlying 283) = some false := by kernel_rfl
@[go_sem ↓] theorem if_283 : isIfU (Tryz.prog.underlying 283) = false := by kernel_rfl
@[go_sem ↓] theorem zr_283 : zrOf Tryz.prog 283 = some [(.pointer none)] := by kernel_rfl
@[go_sem] theorem sl_22 {H : AH} {b o len cap : Nat} {lo hi : Option Value} {K : Value → Prop} : rdop Tryz.prog H (Instr.sliceAt 22 (.slice (some ⟨b, o, none⟩) len cap) lo hi none) K = bnd len hi cap fun h => bnd 0 lo h fun l => nv (.slice (some ⟨b, if cap = l then o else o + l * Tryz.prog.cellsOf 74, none⟩) (h - l) (cap - l)) K := rdop_slice_sl Tryz.underlying22 (by rw [sz_74]; simp)
@[go_sem] theorem sc_22 {H : AH} {a : Option Addr} {len cap : Nat} {hi mx : Value} {K : Value → Prop} : rdop Tryz.prog H (Instr.sliceAt 22 (.slice a len cap) none (some hi) (some mx)) K = bnd cap (some mx) cap fun m => bnd len (some hi) m fun h => nv (.slice a h m) K := rdop_clip Tryz.underlying22 (by rw [sz_74]; simp)
@[go_sem] theorem sn_22 {H : AH} {len cap : Nat} {lo hi : Option Value} {K : Value → Prop} : rdop Tryz.prog H (Instr.sliceAt 22 (.slice none len cap) lo hi none) K = bnd len hi cap fun h => bnd 0 lo h fun l => nv (.slice none (h - l) (cap - l)) K := rdop_slice_nil Tryz.underlying22 (by rw [sz_74]; simp)
@[go_sem] theorem sl_25 {H : AH} {b o : Nat} {lo hi : Option Value} {K : Value → Prop} : rdop Tryz.prog H (Instr.sliceAt 25 (.pointer (some ⟨b, o, none⟩)) lo hi none) K = bnd 4 hi 4 fun h => bnd 0 lo h fun l => nv (.slice (some ⟨b, if 4 = l then o else o + l * Tryz.prog.cellsOf 5, none⟩) (h - l) (4 - l)) K := rdop_slice_arr Tryz.underlying25 (by rw [sz_5]; simp)
@[go_sem] theorem ix_25 {H : AH} {cs : Array Value} {k : IntKind} {i : Int} {K : Value → Prop} : rdop Tryz.prog H (Instr.index 25 (.agg cs) (.int k i)) K = (0 ≤ i ∧ i < (4 : Nat) ∧ wo cs[i.toNat * Tryz.prog.cellsOf 5]? fun v => nv v K) := rdop_index_arr Tryz.underlying25 (by rw [sz_5]; simp) ag_5
@[go_sem] theorem sl_26 {H : AH} {b o : Nat} {lo hi : Option Value} {K : Value → Prop} : rdop Tryz.prog H (Instr.sliceAt 26 (.pointer (some ⟨b, o, none⟩)) lo hi none) K = bnd 4 hi 4 fun h => bnd 0 lo h fun l => nv (.slice (some ⟨b, if 4 = l then o else o + l * Tryz.prog.cellsOf 5, none⟩) (h - l) (4 - l)) K := rdop_slice_arr Tryz.underlying26 (by rw [sz_5]; simp)
@[go_sem] theorem ix_26 {H : AH} {cs : Array Value} {k : IntKind} {i : Int} {K : Value → Prop} : rdop Tryz.prog H (Instr.index 26 (.agg cs) (.int k i)) K = (0 ≤ i ∧ i < (4 : Nat) ∧ wo cs[i.toNat * Tryz.prog.cellsOf 5]? fun v => nv v K) := rdop_index_arr Tryz.underlying26 (by rw [sz_5]; simp) ag_5
@[go_sem] theorem sl_27 {H : AH} {b o : Nat} {lo hi : Option Value} {K : Value → Prop} : rdop Tryz.prog H (Instr.sliceAt 27 (.pointer (some ⟨b, o, none⟩)) lo hi none) K = bnd 5 hi 5 fun h => bnd 0 lo h fun l => nv (.slice (some ⟨b, if 5 = l then o else o + l * Tryz.prog.cellsOf 5, none⟩) (h - l) (5 - l)) K := rdop_slice_arr Tryz.underlying27 (by rw [sz_5]; simp)
@[go_sem] theorem ix_27 {H : AH} {cs : Array Value} {k : IntKind} {i : Int} {K : Value → Prop} : rdop Tryz.prog H (Instr.index 27 (.agg cs) (.int k i)) K = (0 ≤ i ∧ i < (5 : Nat) ∧ wo cs[i.toNat * Tryz.prog.cellsOf 5]? fun v => nv v K) := rdop_index_arr Tryz.underlying27 (by rw [sz_5]; simp) ag_5
@[go_sem] theorem sl_52 {H : AH} {b o : Nat} {lo hi : Option Value} {K : Value → Prop} : rdop Tryz.prog H (Instr.sliceAt 52 (.pointer (some ⟨b, o, none⟩)) lo hi none) K = bnd 14 hi 14 fun h => bnd 0 lo h fun l => nv (.slice (some ⟨b, if 14 = l then o else o + l * Tryz.prog.cellsOf 5, none⟩) (h - l) (14 - l)) K := rdop_slice_arr Tryz.underlying52 (by rw [sz_5]; simp)
@[go_sem] theorem ix_52 {H : AH} {cs : Array Value} {k : IntKind} {i : Int} {K : Value → Prop} : rdop Tryz.prog H (Instr.index 52 (.agg cs) (.int k i)) K = (0 ≤ i ∧ i < (14 : Nat) ∧ wo cs[i.toNat * Tryz.prog.cellsOf 5]? fun v => nv v K) := rdop_index_arr Tryz.underlying52 (by rw [sz_5]; simp) ag_5
@[go_sem] theorem sl_57 {H : AH} {b o len cap : Nat} {lo hi : Option Value} {K : Value → Prop} : rdop Tryz.prog H (Instr.sliceAt 57 (.slice (some ⟨b, o, none⟩) len cap) lo hi none) K = bnd len hi cap fun h => bnd 0 lo h fun l => nv (.slice (some ⟨b, if cap = l then o else o + l * Tryz.prog.cellsOf 138, none⟩) (h - l) (cap - l)) K := rdop_slice_sl Tryz.underlying57 (by rw [sz_138]; simp)
@[go_sem] theorem sc_57 {H : AH} {a : Option Addr} {len cap : Nat} {hi mx : Value} {K : Value → Prop} : rdop Tryz.prog H (Instr.sliceAt 57 (.slice a len cap) none (some hi) (some mx)) K = bnd cap (some mx) cap fun m => bnd len (some hi) m fun h => nv (.slice a h m) K := rdop_clip Tryz.underlying57 (by rw [sz_138]; simp)
@[go_sem] theorem sn_57 {H : AH} {len cap : Nat} {lo hi : Option Value} {K : Value → Prop} : rdop Tryz.prog H (Instr.sliceAt 57 (.slice none len cap) lo hi none) K = bnd len hi cap fun h => bnd 0 lo h fun l => nv (.slice none (h - l) (cap - l)) K := rdop_slice_nil Tryz.underlying57 (by rw [sz_138]; simp)
@[go_sem] theorem sl_58 {H : AH} {b o len cap : Nat} {lo hi : Option Value} {K : Value → Prop} : rdop Tryz.prog H (Instr.sliceAt 58 (.slice (some ⟨b, o, none⟩) len cap) lo hi none) K = bnd len hi cap fun h => bnd 0 lo h fun l => nv (.slice (some ⟨b, if cap = l then o else o + l * Tryz.prog.cellsOf 37, none⟩) (h - l) (cap - l)) K := rdop_slice_sl Tryz.underlying58 (by rw [sz_37]; simp)
@[go_sem] theorem sc_58 {H : AH} {a : Option Addr} {len cap : Nat} {hi mx : Value} {K : Value → Prop} : rdop Tryz.prog H (Instr.sliceAt 58 (.slice a len cap) none (some hi) (some mx)) K = bnd cap (some mx) cap fun m => bnd len (some hi) m fun h => nv (.slice a h m) K := rdop_clip Tryz.underlying58 (by rw [sz_37]; simp)
@[go_sem] theorem sn_58 {H : AH} {len cap : Nat} {lo hi : Option Value} {K : Value → Prop} : rdop Tryz.prog H (Instr.sliceAt 58 (.slice none len cap) lo hi none) K = bnd len hi cap fun h => bnd 0 lo h fun l => nv (.slice none (h - l) (cap - l)) K := rdop_slice_nil Tryz.underlying58 (by rw [sz_37]; simp)
@[go_sem] theorem sl_59 {H : AH} {b o len cap : Nat} {lo hi : Option Value} {K : Value → Prop} : rdop Tryz.prog H (Instr.sliceAt 59 (.slice (some ⟨b, o, none⟩) len cap) lo hi none) K = bnd len hi cap fun h => bnd 0 lo h fun l => nv (.slice (some ⟨b, if cap = l then o else o + l * Tryz.prog.cellsOf 38, none⟩) (h - l) (cap - l)) K := rdop_slice_sl Tryz.underlying59 (by rw [sz_38]; simp)
@[go_sem] theorem sc_59 {H : AH} {a : Option Addr} {len cap : Nat} {hi mx : Value} {K : Value → Prop} : rdop Tryz.prog H (Instr.sliceAt 59 (.slice a len cap) none (some hi) (some mx)) K = bnd cap (some mx) cap fun m => bnd len (some hi) m fun h => nv (.slice a h m) K := rdop_clip Tryz.underlying59 (by rw [sz_38]; simp)
@[go_sem] theorem sn_59 {H : AH} {len cap : Nat} {lo hi : Option Value} {K : Value → Prop} : rdop Tryz.prog H (Instr.sliceAt 59 (.slice none len cap) lo hi none) K = bnd len hi cap fun h => bnd 0 lo h fun l => nv (.slice none (h - l) (cap - l)) K := rdop_slice_nil Tryz.underlying59 (by rw [sz_38]; simp)
@[go_sem] theorem sl_60 {H : AH} {b o len cap : Nat} {lo hi : Option Value} {K : Value → Prop} : rdop Tryz.prog H (Instr.sliceAt 60 (.slice (some ⟨b, o, none⟩) len cap) lo hi none) K = bnd len hi cap fun h => bnd 0 lo h fun l => nv (.slice (some ⟨b, if cap = l then o else o + l * Tryz.prog.cellsOf 77, none⟩) (h - l) (cap - l)) K := rdop_slice_sl Tryz.underlying60 (by rw [sz_77]; simp)
@[go_sem] theorem sc_60 {H : AH} {a : Option Addr} {len cap : Nat} {hi mx : Value} {K : Value → Prop} : rdop Tryz.prog H (Instr.sliceAt 60 (.slice a len cap) none (some hi) (some mx)) K = bnd cap (some mx) cap fun m => bnd len (some hi) m fun h => nv (.slice a h m) K := rdop_clip Tryz.underlying60 (by rw [sz_77]; simp)
@[go_sem] theorem sn_60 {H : AH} {len cap : Nat} {lo hi : Option Value} {K : Value → Prop} : rdop Tryz.prog H (Instr.sliceAt 60 (.slice none len cap) lo hi none) K = bnd len hi cap fun h => bnd 0 lo h fun l => nv (.slice none (h - l) (cap - l)) K := rdop_slice_nil Tryz.underlying60 (by rw [sz_77]; simp)
@[go_sem] theorem sl_61 {H : AH} {b o len cap : Nat} {lo hi : Option Value} {K : Value → Prop} : rdop Tryz.prog H (Instr.sliceAt 61 (.slice (some ⟨b, o, none⟩) len cap) lo hi none) K = bnd len hi cap fun h => bnd 0 lo h fun l => nv (.slice (some ⟨b, if cap = l then o else o + l * Tryz.prog.cellsOf 4, none⟩) (h - l) (cap - l)) K := rdop_slice_sl Tryz.underlying61 (by rw [sz_4]; simp)
@[go_sem] theorem sc_61 {H : AH} {a : Option Addr} {len cap : Nat} {hi mx : Value} {K : Value → Prop} : rdop Tryz.prog H (Instr.sliceAt 61 (.slice a len cap) none (some hi) (some mx)) K = bnd cap (some mx) cap fun m => bnd len (some hi) m fun h => nv (.slice a h m) K := rdop_clip Tryz.underlying61 (by rw [sz_4]; simp)
@[go_sem] theorem sn_61 {H : AH} {len cap : Nat} {lo hi : Option Value} {K : Value → Prop} : rdop Tryz.prog H (Instr.sliceAt 61 (.slice none len cap) lo hi none) K = bnd len hi cap fun h => bnd 0 lo h fun l => nv (.slice none (h - l) (cap - l)) K := rdop_slice_nil Tryz.underlying61 (by rw [sz_4]; simp)
@[go_sem] theorem sl_69 {H : AH} {b o len cap : Nat} {lo hi : Option Value} {K : Value → Prop} : rdop Tryz.prog H (Instr.sliceAt 69 (.slice (some ⟨b, o, none⟩) len cap) lo hi none) K = bnd len hi cap fun h => bnd 0 lo h fun l => nv (.slice (some ⟨b, if cap = l then o else o + l * Tryz.prog.cellsOf 68, none⟩) (h - l) (cap - l)) K := rdop_slice_sl Tryz.underlying69 (by rw [sz_68]; simp)
@[go_sem] theorem sc_69 {H : AH} {a : Option Addr} {len cap : Nat} {hi mx : Value} {K : Value → Prop} : rdop Tryz.prog H (Instr.sliceAt 69 (.slice a len cap) none (some hi) (some mx)) K = bnd cap (some mx) cap fun m => bnd len (some hi) m fun h => nv (.slice a h m) K := rdop_clip Tryz.underlying69 (by rw [sz_68]; simp)
@[go_sem] theorem sn_69 {H : AH} {len cap : Nat} {lo hi : Option Value} {K : Value → Prop} : rdop Tryz.prog H (Instr.sliceAt 69 (.slice none len cap) lo hi none) K = bnd len hi cap fun h => bnd 0 lo h fun l => nv (.slice none (h - l) (cap - l)) K := rdop_slice_nil Tryz.underlying69 (by rw [sz_68]; simp)
@[go_sem] theorem sl_70 {H : AH} {b o len cap : Nat} {lo hi : Option Value} {K : Value → Prop} : rdop Tryz.prog H (Instr.sliceAt 70 (.slice (some ⟨b, o, none⟩) len cap) lo hi none) K = bnd len hi cap fun h => bnd 0 lo h fun l => nv (.slice (some ⟨b, if cap = l then o else o + l * Tryz.prog.cellsOf 26, none⟩) (h - l) (cap - l)) K := rdop_slice_sl Tryz.underlying70 (by rw [sz_26]; simp)
@[go_sem] theorem sc_70 {H : AH} {a : Option Addr} {len cap : Nat} {hi mx : Value} {K : Value → Prop} : rdop Tryz.prog H (Instr.sliceAt 70 (.slice a len cap) none (some hi) (some mx)) K = bnd cap (some mx) cap fun m => bnd len (some hi) m fun h => nv (.slice a h m) K := rdop_clip Tryz.underlying70 (by rw [sz_26]; simp)
@[go_sem] theorem sn_70 {H : AH} {len cap : Nat} {lo hi : Option Value} {K : Value → Prop} : rdop Tryz.prog H (Instr.sliceAt 70 (.slice none len cap) lo hi none) K = bnd len hi cap fun h => bnd 0 lo h fun l => nv (.slice none (h - l) (cap - l)) K := rdop_slice_nil Tryz.underlying70 (by rw [sz_26]; simp)
@[go_sem] theorem sl_77 {H : AH} {b o len cap : Nat} {lo hi : Option Value} {K : Value → Prop} : rdop Tryz.prog H (Instr.sliceAt 77 (.slice (some ⟨b, o, none⟩) len cap) lo hi none) K = bnd len hi cap fun h => bnd 0 lo h fun l => nv (.slice (some ⟨b, if cap = l then o else o + l * Tryz.prog.cellsOf 79, none⟩) (h - l) (cap - l)) K := rdop_slice_sl Tryz.underlying77 (by rw [sz_79]; simp)
@[go_sem] theorem sc_77 {H : AH} {a : Option Addr} {len cap : Nat} {hi mx : Value} {K : Value → Prop} : rdop Tryz.prog H (Instr.sliceAt 77 (.slice a len cap) none (some hi) (some mx)) K = bnd cap (some mx) cap fun m => bnd len (some hi) m fun h => nv (.slice a h m) K := rdop_clip Tryz.underlying77 (by rw [sz_79]; simp)
@[go_sem] theorem sn_77 {H : AH} {len cap : Nat} {lo hi : Option Value} {K : Value → Prop} : rdop Tryz.prog H (Instr.sliceAt 77 (.slice none len cap) lo hi none) K = bnd len hi cap fun h => bnd 0 lo h fun l => nv (.slice none (h - l) (cap - l)) K := rdop_slice_nil Tryz.underlying77 (by rw [sz_79]; simp)
@[go_sem] theorem sl_86 {H : AH} {b o : Nat} {lo hi : Option Value} {K : Value → Prop} : rdop Tryz.prog H (Instr.sliceAt 86 (.pointer (some ⟨b, o, none⟩)) lo hi none) K = bnd 11 hi 11 fun h => bnd 0 lo h fun l => nv (.slice (some ⟨b, if 11 = l then o else o + l * Tryz.prog.cellsOf 4, none⟩) (h - l) (11 - l)) K := rdop_slice_arr Tryz.underlying86 (by rw [sz_4]; simp)
@[go_sem] theorem ix_86 {H : AH} {cs : Array Value} {k : IntKind} {i : Int} {K : Value → Prop} : rdop Tryz.prog H (Instr.index 86 (.agg cs) (.int k i)) K = (0 ≤ i ∧ i < (11 : Nat) ∧ wo cs[i.toNat * Tryz.prog.cellsOf 4]? fun v => nv v K) := rdop_index_arr Tryz.underlying86 (by rw [sz_4]; simp) ag_4
@[go_sem] theorem sl_87 {H : AH} {b o : Nat} {lo hi : Option Value} {K : Value → Prop} : rdop Tryz.prog H (Instr.sliceAt 87 (.pointer (some ⟨b, o, none⟩)) lo hi none) K = bnd 11 hi 11 fun h => bnd 0 lo h fun l => nv (.slice (some ⟨b, if 11 = l then o else o + l * Tryz.prog.cellsOf 4, none⟩) (h - l) (11 - l)) K := rdop_slice_arr Tryz.underlying87 (by rw [sz_4]; simp)
@[go_sem] theorem ix_87 {H : AH} {cs : Array Value} {k : IntKind} {i : Int} {K : Value → Prop} : rdop Tryz.prog H (Instr.index 87 (.agg cs) (.int k i)) K = (0 ≤ i ∧ i < (11 : Nat) ∧ wo cs[i.toNat * Tryz.prog.cellsOf 4]? fun v => nv v K) := rdop_index_arr Tryz.underlying87 (by rw [sz_4]; simp) ag_4
@[go_sem] theorem sl_93 {H : AH} {b o : Nat} {lo hi : Option Value} {K : Value → Prop} : rdop Tryz.prog H (Instr.sliceAt 93 (.pointer (some ⟨b, o, none⟩)) lo hi none) K = bnd 17 hi 17 fun h => bnd 0 lo h fun l => nv (.slice (some ⟨b, if 17 = l then o else o + l * Tryz.prog.cellsOf 5, none⟩) (h - l) (17 - l)) K := rdop_slice_arr Tryz.underlying93 (by rw [sz_5]; simp)
@[go_sem] theorem ix_93 {H : AH} {cs : Array Value} {k : IntKind} {i : Int} {K : Value → Prop} : rdop Tryz.prog H (Instr.index 93 (.agg cs) (.int k i)) K = (0 ≤ i ∧ i < (17 : Nat) ∧ wo cs[i.toNat * Tryz.prog.cellsOf 5]? fun v => nv v K) := rdop_index_arr Tryz.underlying93 (by rw [sz_5]; simp) ag_5
@[go_sem] theorem sl_94 {H : AH} {b o : Nat} {lo hi : Option Value} {K : Value → Prop} : rdop Tryz.prog H (Instr.sliceAt 94 (.pointer (some ⟨b, o, none⟩)) lo hi none) K = bnd 17 hi 17 fun h => bnd 0 lo h fun l => nv (.slice (some ⟨b, if 17 = l then o else o + l * Tryz.prog.cellsOf 4, none⟩) (h - l) (17 - l)) K := rdop_slice_arr Tryz.underlying94 (by rw [sz_4]; simp)
@[go_sem] theorem ix_94 {H : AH} {cs : Array Value} {k : IntKind} {i : Int} {K : Value → Prop} : rdop Tryz.prog H (Instr.index 94 (.agg cs) (.int k i)) K = (0 ≤ i ∧ i < (17 : Nat) ∧ wo cs[i.toNat * Tryz.prog.cellsOf 4]? fun v => nv v K) := rdop_index_arr Tryz.underlying94 (by rw [sz_4]; simp) ag_4
@[go_sem] theorem sl_101 {H : AH} {b o : Nat} {lo hi : Option Value} {K : Value → Prop} : rdop Tryz.prog H (Instr.sliceAt 101 (.pointer (some ⟨b, o, none⟩)) lo hi none) K = bnd 2 hi 2 fun h => bnd 0 lo h fun l => nv (.slice (some ⟨b, if 2 = l then o else o + l * Tryz.prog.cellsOf 5, none⟩) (h - l) (2 - l)) K := rdop_slice_arr Tryz.underlying101 (by rw [sz_5]; simp)
@[go_sem] theorem ix_101 {H : AH} {cs : Array Value} {k : IntKind} {i : Int} {K : Value → Prop} : rdop Tryz.prog H (Instr.index 101 (.agg cs) (.int k i)) K = (0 ≤ i ∧ i < (2 : Nat) ∧ wo cs[i.toNat * Tryz.prog.cellsOf 5]? fun v => nv v K) := rdop_index_arr Tryz.underlying101 (by rw [sz_5]; simp) ag_5
@[go_sem] theorem sl_105 {H : AH} {b o len cap : Nat} {lo hi : Option Value} {K : Value → Prop} : rdop Tryz.prog H (Instr.sliceAt 105 (.slice (some ⟨b, o, none⟩) len cap) lo hi none) K = bnd len hi cap fun h => bnd 0 lo h fun l => nv (.slice (some ⟨b, if cap = l then o else o + l * Tryz.prog.cellsOf 5, none⟩) (h - l) (cap - l)) K := rdop_slice_sl Tryz.underlying105 (by rw [sz_5]; simp)
@[go_sem] theorem sc_105 {H : AH} {a : Option Addr} {len cap : Nat} {hi mx : Value} {K : Value → Prop} : rdop Tryz.prog H (Instr.sliceAt 105 (.slice a len cap) none (some hi) (some mx)) K = bnd cap (some mx) cap fun m => bnd len (some hi) m fun h => nv (.slice a h m) K := rdop_clip Tryz.underlying105 (by rw [sz_5]; simp)
@[go_sem] theorem sn_105 {H : AH} {len cap : Nat} {lo hi : Option Value} {K : Value → Prop} : rdop Tryz.prog H (Instr.sliceAt 105 (.slice none len cap) lo hi none) K = bnd len hi cap fun h => bnd 0 lo h fun l => nv (.slice none (h - l) (cap - l)) K := rdop_slice_nil Tryz.underlying105 (by rw [sz_5]; simp)
@[go_sem] theorem sl_126 {H : AH} {b o len cap : Nat} {lo hi : Option Value} {K : Value → Prop} : rdop Tryz.prog H (Instr.sliceAt 126 (.slice (some ⟨b, o, none⟩) len cap) lo hi none) K = bnd len hi cap fun h => bnd 0 lo h fun l => nv (.slice (some ⟨b, if cap = l then o else o + l * Tryz.prog.cellsOf 3, none⟩) (h - l) (cap - l)) K := rdop_slice_sl Tryz.underlying126 (by rw [sz_3]; simp)
@[go_sem] theorem sc_126 {H : AH} {a : Option Addr} {len cap : Nat} {hi mx : Value} {K : Value → Prop} : rdop Tryz.prog H (Instr.sliceAt 126 (.slice a len cap) none (some hi) (some mx)) K = bnd cap (some mx) cap fun m => bnd len (some hi) m fun h => nv (.slice a h m) K := rdop_clip Tryz.underlying126 (by rw [sz_3]; simp)
@[go_sem] theorem sn_126 {H : AH} {len cap : Nat} {lo hi : Option Value} {K : Value → Prop} : rdop Tryz.prog H (Instr.sliceAt 126 (.slice none len cap) lo hi none) K = bnd len hi cap fun h => bnd 0 lo h fun l => nv (.slice none (h - l) (cap - l)) K := rdop_slice_nil Tryz.underlying126 (by rw [sz_3]; simp)
@[go_sem] theorem sl_136 {H : AH} {b o len cap : Nat} {lo hi : Option Value} {K : Value → Prop} : rdop Tryz.prog H (Instr.sliceAt 136 (.slice (some ⟨b, o, none⟩) len cap) lo hi none) K = bnd len hi cap fun h => bnd 0 lo h fun l => nv (.slice (some ⟨b, if cap = l then o else o + l * Tryz.prog.cellsOf 269, none⟩) (h - l) (cap - l)) K := rdop_slice_sl Tryz.underlying136 (by rw [sz_269]; simp)
@[go_sem] theorem sc_136 {H : AH} {a : Option Addr} {len cap : Nat} {hi mx : Value} {K : Value → Prop} : rdop Tryz.prog H (Instr.sliceAt 136 (.slice a len cap) none (some hi) (some mx)) K = bnd cap (some mx) cap fun m => bnd len (some hi) m fun h => nv (.slice a h m) K := rdop_clip Tryz.underlying136 (by rw [sz_269]; simp)
@[go_sem] theorem sn_136 {H : AH} {len cap : Nat} {lo hi : Option Value} {K : Value → Prop} : rdop Tryz.prog H (Instr.sliceAt 136 (.slice none len cap) lo hi none) K = bnd len hi cap fun h => bnd 0 lo h fun l => nv (.slice none (h - l) (cap - l)) K := rdop_slice_nil Tryz.underlying136 (by rw [sz_269]; simp)
@[go_sem] theorem sl_185 {H : AH} {b o len cap : Nat} {lo hi : Option Value} {K : Value → Prop} : rdop Tryz.prog H (Instr.sliceAt 185 (.slice (some ⟨b, o, none⟩) len cap) lo hi none) K = bnd len hi cap fun h => bnd 0 lo h fun l => nv (.slice (some ⟨b, if cap = l then o else o + l * Tryz.prog.cellsOf 28, none⟩) (h - l) (cap - l)) K := rdop_slice_sl Tryz.underlying185 (by rw [sz_28]; simp)
@[go_sem] theorem sc_185 {H : AH} {a : Option Addr} {len cap : Nat} {hi mx : Value} {K : Value → Prop} : rdop Tryz.prog H (Instr.sliceAt 185 (.slice a len cap) none (some hi) (some mx)) K = bnd cap (some mx) cap fun m => bnd len (some hi) m fun h => nv (.slice a h m) K := rdop_clip Tryz.underlying185 (by rw [sz_28]; simp)
@[go_sem] theorem sn_185 {H : AH} {len cap : Nat} {lo hi : Option Value} {K : Value → Prop} : rdop Tryz.prog H (Instr.sliceAt 185 (.slice none len cap) lo hi none) K = bnd len hi cap fun h => bnd 0 lo h fun l => nv (.slice none (h - l) (cap - l)) K := rdop_slice_nil Tryz.underlying185 (by rw [sz_28]; simp)
@[go_sem] theorem sl_208 {H : AH} {b o len cap : Nat} {lo hi : Option Value} {K : Value → Prop} : rdop Tryz.prog H (Instr.sliceAt 208 (.slice (some ⟨b, o, none⟩) len cap) lo hi none) K = bnd len hi cap fun h => bnd 0 lo h fun l => nv (.slice (some ⟨b, if cap = l then o else o + l * Tryz.prog.cellsOf 113, none⟩) (h - l) (cap - l)) K := rdop_slice_sl Tryz.underlying208 (by rw [sz_113]; simp)
@[go_sem] theorem sc_208 {H : AH} {a : Option Addr} {len cap : Nat} {hi mx : Value} {K : Value → Prop} : rdop Tryz.prog H (Instr.sliceAt 208 (.slice a len cap) none (some hi) (some mx)) K = bnd cap (some mx) cap fun m => bnd len (some hi) m fun h => nv (.slice a h m) K := rdop_clip Tryz.underlying208 (by rw [sz_113]; simp)
@[go_sem] theorem sn_208 {H : AH} {len cap : Nat} {lo hi : Option Value} {K : Value → Prop} : rdop Tryz.prog H (Instr.sliceAt 208 (.slice none len cap) lo hi none) K = bnd len hi cap fun h => bnd 0 lo h fun l => nv (.slice none (h - l) (cap - l)) K := rdop_slice_nil Tryz.underlying208 (by rw [sz_113]; simp)
@[go_sem] theorem sl_279 {H : AH} {b o len cap : Nat} {lo hi : Option Value} {K : Value → Prop} : rdop Tryz.prog H (Instr.sliceAt 279 (.slice (some ⟨b, o, none⟩) len cap) lo hi none) K = bnd len hi cap fun h => bnd 0 lo h fun l => nv (.slice (some ⟨b, if cap = l then o else o + l * Tryz.prog.cellsOf 282, none⟩) (h - l) (cap - l)) K := rdop_slice_sl Tryz.underlying279 (by rw [sz_282]; simp)
@[go_sem] theorem sc_279 {H : AH} {a : Option Addr} {len cap : Nat} {hi mx : Value} {K : Value → Prop} : rdop Tryz.prog H (Instr.sliceAt 279 (.slice a len cap) none (some hi) (some mx)) K = bnd cap (some mx) cap fun m => bnd len (some hi) m fun h => nv (.slice a h m) K := rdop_clip Tryz.underlying279 (by rw [sz_282]; simp)
@[go_sem] theorem sn_279 {H : AH} {len cap : Nat} {lo hi : Option Value} {K : Value → Prop} : rdop Tryz.prog H (Instr.sliceAt 279 (.slice none len cap) lo hi none) K = bnd len hi cap fun h => bnd 0 lo h fun l => nv (.slice none (h - l) (cap - l)) K := rdop_slice_nil Tryz.underlying279 (by rw [sz_282]; simp)
@[go_sem] theorem fd_7_0 {H : AH} {cs : Array Value} {K : Value → Prop} : rdop Tryz.prog H (Instr.field 7 (.agg cs) 0) K = wo cs[0]? fun v => nv v K := rdop_fieldF (show fdOf Tryz.prog 7 0 = some (0, 1, false) by kernel_rfl)
@[go_sem] theorem fd_7_1 {H : AH} {cs : Array Value} {K : Value → Prop} : rdop Tryz.prog H (Instr.field 7 (.agg cs) 1) K = wo cs[1]? fun v => nv v K := rdop_fieldF (show fdOf Tryz.prog 7 1 = some (1, 1, false) by kernel_rfl)
@[go_sem] theorem fd_7_2 {H : AH} {cs : Array Value} {K : Value → Prop} : rdop Tryz.prog H (Instr.field 7 (.agg cs) 2) K = wo cs[2]? fun v => nv v K := rdop_fieldF (show fdOf Tryz.prog 7 2 = some (2, 1, false) by kernel_rfl)
@[go_sem] theorem fd_7_3 {H : AH} {cs : Array Value} {K : Value → Prop} : rdop Tryz.prog H (Instr.field 7 (.agg cs) 3) K = wo cs[3]? fun v => nv v K := rdop_fieldF (show fdOf Tryz.prog 7 3 = some (3, 1, false) by kernel_rfl)
@[go_sem] theorem fd_8_0 {H : AH} {cs : Array Value} {K : Value → Prop} : rdop Tryz.prog H (Instr.field 8 (.agg cs) 0) K = wo cs[0]? fun v => nv v K := rdop_fieldF (show fdOf Tryz.prog 8 0 = some (0, 1, false) by kernel_rfl)
@[go_sem] theorem fd_8_1 {H : AH} {cs : Array Value} {K : Value → Prop} : rdop Tryz.prog H (Instr.field 8 (.agg cs) 1) K = wo cs[1]? fun v => nv v K := rdop_fieldF (show fdOf Tryz.prog 8 1 = some (1, 1, false) by kernel_rfl)
@[go_sem] theorem fd_8_2 {H : AH} {cs : Array Value} {K : Value → Prop} : rdop Tryz.prog H (Instr.field 8 (.agg cs) 2) K = wo cs[2]? fun v => nv v K := rdop_fieldF (show fdOf Tryz.prog 8 2 = some (2, 1, false) by kernel_rfl)
@[go_sem] theorem fd_8_3 {H : AH} {cs : Array Value} {K : Value → Prop} : rdop Tryz.prog H (Instr.field 8 (.agg cs) 3) K = wo cs[3]? fun v => nv v K := rdop_fieldF (show fdOf Tryz.prog 8 3 = some (3, 1, false) by kernel_rfl)
@[go_sem] theorem fd_13_0 {H : AH} {cs : Array Value} {K : Value → Prop} : rdop Tryz.prog H (Instr.field 13 (.agg cs) 0) K = wo cs[0]? fun v => nv v K := rdop_fieldF (show fdOf Tryz.prog 13 0 = some (0, 1, false) by kernel_rfl)
@[go_sem] theorem fd_13_1 {H : AH} {cs : Array Value} {K : Value → Prop} : rdop Tryz.prog H (Instr.field 13 (.agg cs) 1) K = wo cs[1]? fun v => nv v K := rdop_fieldF (show fdOf Tryz.prog 13 1 = some (1, 1, false) by kernel_rfl)
@[go_sem] theorem fd_14_0 {H : AH} {cs : Array Value} {K : Value → Prop} : rdop Tryz.prog H (Instr.field 14 (.agg cs) 0) K = wo cs[0]? fun v => nv v K := rdop_fieldF (show fdOf Tryz.prog 14 0 = some (0, 1, false) by kernel_rfl)
@[go_sem] theorem fd_14_1 {H : AH} {cs : Array Value} {K : Value → Prop} : rdop Tryz.prog H (Instr.field 14 (.agg cs) 1) K = wo cs[1]? fun v => nv v K := rdop_fieldF (show fdOf Tryz.prog 14 1 = some (1, 1, false) by kernel_rfl)
@[go_sem] theorem fd_18_0 {H : AH} {cs : Array Value} {K : Value → Prop} : rdop Tryz.prog H (Instr.field 18 (.agg cs) 0) K = wo cs[0]? fun v => nv v K := rdop_fieldF (show fdOf Tryz.prog 18 0 = some (0, 1, false) by kernel_rfl)
@[go_sem] theorem fd_19_0 {H : AH} {cs : Array Value} {K : Value → Prop} : rdop Tryz.prog H (Instr.field 19 (.agg cs) 0) K = wo cs[0]? fun v => nv v K := rdop_fieldF (show fdOf Tryz.prog 19 0 = some (0, 1, false) by kernel_rfl)
@[go_sem ↓] theorem se_22 : slE Tryz.prog 22 = some (74, 3, [(.int .i64 0), (.int .i64 0), (.slice none 0 0)], 40) := by kernel_rfl
@[go_sem] theorem fd_23_0 {H : AH} {cs : Array Value} {K : Value → Prop} : rdop Tryz.prog H (Instr.field 23 (.agg cs) 0) K = wo cs[0]? fun v => nv v K := rdop_fieldF (show fdOf Tryz.prog 23 0 = some (0, 1, false) by kernel_rfl)
@[go_sem] theorem fd_23_1 {H : AH} {cs : Array Value} {K : Value → Prop} : rdop Tryz.prog H (Instr.field 23 (.agg cs) 1) K = wo cs[1]? fun v => nv v K := rdop_fieldF (show fdOf Tryz.prog 23 1 = some (1, 1, false) by kernel_rfl)
@[go_sem] theorem fd_23_2 {H : AH} {cs : Array Value} {K : Value → Prop} : rdop Tryz.prog H (Instr.field 23 (.agg cs) 2) K = wo cs[2]? fun v => nv v K := rdop_fieldF (show fdOf Tryz.prog 23 2 = some (2, 1, false) by kernel_rfl)
@[go_sem] theorem fd_24_0 {H : AH} {cs : Array Value} {K : Value → Prop} : rdop Tryz.prog H (Instr.field 24 (.agg cs) 0) K = wo cs[0]? fun v => nv v K := rdop_fieldF (show fdOf Tryz.prog 24 0 = some (0, 1, false) by kernel_rfl)
@[go_sem] theorem fd_24_1 {H : AH} {cs : Array Value} {K : Value → Prop} : rdop Tryz.prog H (Instr.field 24 (.agg cs) 1) K = wo cs[1]? fun v => nv v K := rdop_fieldF (show fdOf Tryz.prog 24 1 = some (1, 1, false) by kernel_rfl)
@[go_sem] theorem fd_24_2 {H : AH} {cs : Array Value} {K : Value → Prop} : rdop Tryz.prog H (Instr.field 24 (.agg cs) 2) K = wo cs[2]? fun v => nv v K := rdop_fieldF (show fdOf Tryz.prog 24 2 = some (2, 1, false) by kernel_rfl)
@[go_sem] theorem fd_48_0 {H : AH} {cs : Array Value} {K : Value → Prop} : rdop Tryz.prog H (Instr.field 48 (.agg cs) 0) K = wo cs[0]? fun v => nv v K := rdop_fieldF (show fdOf Tryz.prog 48 0 = some (0, 1, false) by kernel_rfl)
@[go_sem] theorem fd_48_1 {H : AH} {cs : Array Value} {K : Value → Prop} : rdop Tryz.prog H (Instr.field 48 (.agg cs) 1) K = wo cs[1]? fun v => nv v K := rdop_fieldF (show fdOf Tryz.prog 48 1 = some (1, 1, false) by kernel_rfl)
@[go_sem] theorem fd_49_0 {H : AH} {cs : Array Value} {K : Value → Prop} : rdop Tryz.prog H (Instr.field 49 (.agg cs) 0) K = wo cs[0]? fun v => nv v K := rdop_fieldF (show fdOf Tryz.prog 49 0 = some (0, 1, false) by kernel_rfl)
@[go_sem] theorem fd_49_1 {H : AH} {cs : Array Value} {K : Value → Prop} : rdop Tryz.prog H (Instr.field 49 (.agg cs) 1) K = wo cs[1]? fun v => nv v K := rdop_fieldF (show fdOf Tryz.prog 49 1 = some (1, 1, false) by kernel_rfl)
@[go_sem ↓] theorem me_53 : mpE Tryz.prog 53 = some (.int .i64, (.int .u8 0)) := by kernel_rfl
@[go_sem ↓] theorem se_57 : slE Tryz.prog 57 = some (138, 4, [(.slice none 0 0), (.slice none 0 0), (.bool false), (.slice none 0 0)], 80) := by kernel_rfl
@[go_sem ↓] theorem se_58 : slE Tryz.prog 58 = some (37, 1, [(.pointer none)], 8) := by kernel_rfl
@[go_sem ↓] theorem se_59 : slE Tryz.prog 59 = some (38, 1, [(.pointer none)], 8) := by kernel_rfl
@[go_sem ↓] theorem se_60 : slE Tryz.prog 60 = some (77, 1, [(.slice none 0 0)], 24) := by kernel_rfl
@[go_sem ↓] theorem se_61 : slE Tryz.prog 61 = some (4, 1, [(.bool false)], 1) := by kernel_rfl
@[go_sem] theorem fd_67_0 {H : AH} {cs : Array Value} {K : Value → Prop} : rdop Tryz.prog H (Instr.field 67 (.agg cs) 0) K = wo cs[0]? fun v => nv v K := rdop_fieldF (show fdOf Tryz.prog 67 0 = some (0, 1, false) by kernel_rfl)
@[go_sem] theorem fd_67_1 {H : AH} {cs : Array Value} {K : Value → Prop} : rdop Tryz.prog H (Instr.field 67 (.agg cs) 1) K = wo cs[1]? fun v => nv v K := rdop_fieldF (show fdOf Tryz.prog 67 1 = some (1, 1, false) by kernel_rfl)
@[go_sem] theorem fd_68_0 {H : AH} {cs : Array Value} {K : Value → Prop} : rdop Tryz.prog H (Instr.field 68 (.agg cs) 0) K = wo cs[0]? fun v => nv v K := rdop_fieldF (show fdOf Tryz.prog 68 0 = some (0, 1, false) by kernel_rfl)
@[go_sem] theorem fd_68_1 {H : AH} {cs : Array Value} {K : Value → Prop} : rdop Tryz.prog H (Instr.field 68 (.agg cs) 1) K = wo cs[1]? fun v => nv v K := rdop_fieldF (show fdOf Tryz.prog 68 1 = some (1, 1, false) by kernel_rfl)
@[go_sem ↓] theorem se_69 : slE Tryz.prog 69 = some (68, 2, [(.int .i64 0), (.int .i64 0)], 16) := by kernel_rfl
@[go_sem ↓] theorem se_70 : slE Tryz.prog 70 = some (26, 4, [(.int .u8 0), (.int .u8 0), (.int .u8 0), (.int .u8 0)], 4) := by kernel_rfl
@[go_sem] theorem fd_71_0 {H : AH} {cs : Array Value} {K : Value → Prop} : rdop Tryz.prog H (Instr.field 71 (.agg cs) 0) K = wo cs[0]? fun v => nv v K := rdop_fieldF (show fdOf Tryz.prog 71 0 = some (0, 1, false) by kernel_rfl)
@[go_sem] theorem fd_71_1 {H : AH} {cs : Array Value} {K : Value → Prop} : rdop Tryz.prog H (Instr.field 71 (.agg cs) 1) K = wo cs[1]? fun v => nv v K := rdop_fieldF (show fdOf Tryz.prog 71 1 = some (1, 1, false) by kernel_rfl)
@[go_sem] theorem fd_72_0 {H : AH} {cs : Array Value} {K : Value → Prop} : rdop Tryz.prog H (Instr.field 72 (.agg cs) 0) K = wo cs[0]? fun v => nv v K := rdop_fieldF (show fdOf Tryz.prog 72 0 = some (0, 1, false) by kernel_rfl)
@[go_sem] theorem fd_72_1 {H : AH} {cs : Array Value} {K : Value → Prop} : rdop Tryz.prog H (Instr.field 72 (.agg cs) 1) K = wo cs[1]? fun v => nv v K := rdop_fieldF (show fdOf Tryz.prog 72 1 = some (1, 1, false) by kernel_rfl)
@[go_sem] theorem fd_73_0 {H : AH} {cs : Array Value} {K : Value → Prop} : rdop Tryz.prog H (Instr.field 73 (.agg cs) 0) K = wo cs[0]? fun v => nv v K := rdop_fieldF (show fdOf Tryz.prog 73 0 = some (0, 1, false) by kernel_rfl)
@[go_sem] theorem fd_73_1 {H : AH} {cs : Array Value} {K : Value → Prop} : rdop Tryz.prog H (Instr.field 73 (.agg cs) 1) K = nv (.agg (cs.extract 1 3)) K := rdop_fieldT (show fdOf Tryz.prog 73 1 = some (1, 2, true) by kernel_rfl) (by simp)
@[go_sem] theorem fd_74_0 {H : AH} {cs : Array Value} {K : Value → Prop} : rdop Tryz.prog H (Instr.field 74 (.agg cs) 0) K = wo cs[0]? fun v => nv v K := rdop_fieldF (show fdOf Tryz.prog 74 0 = some (0, 1, false) by kernel_rfl)
@[go_sem] theorem fd_74_1 {H : AH} {cs : Array Value} {K : Value → Prop} : rdop Tryz.prog H (Instr.field 74 (.agg cs) 1) K = nv (.agg (cs.extract 1 3)) K := rdop_fieldT (show fdOf Tryz.prog 74 1 = some (1, 2, true) by kernel_rfl) (by simp)
@[go_sem ↓] theorem se_77 : slE Tryz.prog 77 = some (79, 5, [(.int .i64 0), (.int .i64 0), (.int .i64 0), (.int .i64 0), (.int .i64 0)], 40) := by kernel_rfl
@[go_sem] theorem fd_78_0 {H : AH} {cs : Array Value} {K : Value → Prop} : rdop Tryz.prog H (Instr.field 78 (.agg cs) 0) K = wo cs[0]? fun v => nv v K := rdop_fieldF (show fdOf Tryz.prog 78 0 = some (0, 1, false) by kernel_rfl)
@[go_sem] theorem fd_78_1 {H : AH} {cs : Array Value} {K : Value → Prop} : rdop Tryz.prog H (Instr.field 78 (.agg cs) 1) K = wo cs[1]? fun v => nv v K := rdop_fieldF (show fdOf Tryz.prog 78 1 = some (1, 1, false) by kernel_rfl)
@[go_sem] theorem fd_78_2 {H : AH} {cs : Array Value} {K : Value → Prop} : rdop Tryz.prog H (Instr.field 78 (.agg cs) 2) K = wo cs[2]? fun v => nv v K := rdop_fieldF (show fdOf Tryz.prog 78 2 = some (2, 1, false) by kernel_rfl)
@[go_sem] theorem fd_78_3 {H : AH} {cs : Array Value} {K : Value → Prop} : rdop Tryz.prog H (Instr.field 78 (.agg cs) 3) K = wo cs[3]? fun v => nv v K := rdop_fieldF (show fdOf Tryz.prog 78 3 = some (3, 1, false) by kernel_rfl)
@[go_sem] theorem fd_78_4 {H : AH} {cs : Array Value} {K : Value → Prop} : rdop Tryz.prog H (Instr.field 78 (.agg cs) 4) K = wo cs[4]? fun v => nv v K := rdop_fieldF (show fdOf Tryz.prog 78 4 = some (4, 1, false) by kernel_rfl)
@[go_sem] theorem fd_79_0 {H : AH} {cs : Array Value} {K : Value → Prop} : rdop Tryz.prog H (Instr.field 79 (.agg cs) 0) K = wo cs[0]? fun v => nv v K := rdop_fieldF (show fdOf Tryz.prog 79 0 = some (0, 1, false) by kernel_rfl)
@[go_sem] theorem fd_79_1 {H : AH} {cs : Array Value} {K : Value → Prop} : rdop Tryz.prog H (Instr.field 79 (.agg cs) 1) K = wo cs[1]? fun v => nv v K := rdop_fieldF (show fdOf Tryz.prog 79 1 = some (1, 1, false) by kernel_rfl)
@[go_sem] theorem fd_79_2 {H : AH} {cs : Array Value} {K : Value → Prop} : rdop Tryz.prog H (Instr.field 79 (.agg cs) 2) K = wo cs[2]? fun v => nv v K := rdop_fieldF (show fdOf Tryz.prog 79 2 = some (2, 1, false) by kernel_rfl)
@[go_sem] theorem fd_79_3 {H : AH} {cs : Array Value} {K : Value → Prop} : rdop Tryz.prog H (Instr.field 79 (.agg cs) 3) K = wo cs[3]? fun v => nv v K := rdop_fieldF (show fdOf Tryz.prog 79 3 = some (3, 1, false) by kernel_rfl)
@[go_sem] theorem fd_79_4 {H : AH} {cs : Array Value} {K : Value → Prop} : rdop Tryz.prog H (Instr.field 79 (.agg cs) 4) K = wo cs[4]? fun v => nv v K := rdop_fieldF (show fdOf Tryz.prog 79 4 = some (4, 1, false) by kernel_rfl)
@[go_sem] theorem fd_95_0 {H : AH} {cs : Array Value} {K : Value → Prop} : rdop Tryz.prog H (Instr.field 95 (.agg cs) 0) K = nv (.agg (cs.extract 0 17)) K := rdop_fieldT (show fdOf Tryz.prog 95 0 = some (0, 17, true) by kernel_rfl) (by simp)
@[go_sem] theorem fd_95_1 {H : AH} {cs : Array Value} {K : Value → Prop} : rdop Tryz.prog H (Instr.field 95 (.agg cs) 1) K = nv (.agg (cs.extract 17 34)) K := rdop_fieldT (show fdOf Tryz.prog 95 1 = some (17, 17, true) by kernel_rfl) (by simp)
@[go_sem] theorem fd_96_0 {H : AH} {cs : Array Value} {K : Value → Prop} : rdop Tryz.prog H (Instr.field 96 (.agg cs) 0) K = nv (.agg (cs.extract 0 17)) K := rdop_fieldT (show fdOf Tryz.prog 96 0 = some (0, 17, true) by kernel_rfl) (by simp)
@[go_sem] theorem fd_96_1 {H : AH} {cs : Array Value} {K : Value → Prop} : rdop Tryz.prog H (Instr.field 96 (.agg cs) 1) K = nv (.agg (cs.extract 17 34)) K := rdop_fieldT (show fdOf Tryz.prog 96 1 = some (17, 17, true) by kernel_rfl) (by simp)
@[go_sem ↓] theorem se_105 : slE Tryz.prog 105 = some (5, 1, [(.int .u8 0)], 1) := by kernel_rfl
@[go_sem] theorem fd_116_0 {H : AH} {cs : Array Value} {K : Value → Prop} : rdop Tryz.prog H (Instr.field 116 (.agg cs) 0) K = wo cs[0]? fun v => nv v K := rdop_fieldF (show fdOf Tryz.prog 116 0 = some (0, 1, false) by kernel_rfl)
@[go_sem] theorem fd_117_0 {H : AH} {cs : Array Value} {K : Value → Prop} : rdop Tryz.prog H (Instr.field 117 (.agg cs) 0) K = wo cs[0]? fun v => nv v K := rdop_fieldF (show fdOf Tryz.prog 117 0 = some (0, 1, false) by kernel_rfl)
@[go_sem ↓] theorem se_126 : slE Tryz.prog 126 = some (3, 1, [(.int .i64 0)], 8) := by kernel_rfl
@[go_sem ↓] theorem me_131 : mpE Tryz.prog 131 = some (.int .i64, .agg #[(.int .i64 0), (.slice none 0 0)]) := by kernel_rfl
@[go_sem] theorem fd_132_0 {H : AH} {cs : Array Value} {K : Value → Prop} : rdop Tryz.prog H (Instr.field 132 (.agg cs) 0) K = wo cs[0]? fun v => nv v K := rdop_fieldF (show fdOf Tryz.prog 132 0 = some (0, 1, false) by kernel_rfl)
@[go_sem] theorem fd_132_1 {H : AH} {cs : Array Value} {K : Value → Prop} : rdop Tryz.prog H (Instr.field 132 (.agg cs) 1) K = wo cs[1]? fun v => nv v K := rdop_fieldF (show fdOf Tryz.prog 132 1 = some (1, 1, false) by kernel_rfl)
@[go_sem] theorem fd_133_0 {H : AH} {cs : Array Value} {K : Value → Prop} : rdop Tryz.prog H (Instr.field 133 (.agg cs) 0) K = wo cs[0]? fun v => nv v K := rdop_fieldF (show fdOf Tryz.prog 133 0 = some (0, 1, false) by kernel_rfl)
@[go_sem] theorem fd_133_1 {H : AH} {cs : Array Value} {K : Value → Prop} : rdop Tryz.prog H (Instr.field 133 (.agg cs) 1) K = wo cs[1]? fun v => nv v K := rdop_fieldF (show fdOf Tryz.prog 133 1 = some (1, 1, false) by kernel_rfl)
@[go_sem ↓] theorem se_136 : slE Tryz.prog 136 = some (269, 2, [(.int .i64 0), (.int .i64 0)], 16) := by kernel_rfl
@[go_sem] theorem fd_137_0 {H : AH} {cs : Array Value} {K : Value → Prop} : rdop Tryz.prog H (Instr.field 137 (.agg cs) 0) K = wo cs[0]? fun v => nv v K := rdop_fieldF (show fdOf Tryz.prog 137 0 = some (0, 1, false) by kernel_rfl)
@[go_sem] theorem fd_137_1 {H : AH} {cs : Array Value} {K : Value → Prop} : rdop Tryz.prog H (Instr.field 137 (.agg cs) 1) K = wo cs[1]? fun v => nv v K := rdop_fieldF (show fdOf Tryz.prog 137 1 = some (1, 1, false) by kernel_rfl)
@[go_sem] theorem fd_137_2 {H : AH} {cs : Array Value} {K : Value → Prop} : rdop Tryz.prog H (Instr.field 137 (.agg cs) 2) K = wo cs[2]? fun v => nv v K := rdop_fieldF (show fdOf Tryz.prog 137 2 = some (2, 1, false) by kernel_rfl)
@[go_sem] theorem fd_137_3 {H : AH} {cs : Array Value} {K : Value → Prop} : rdop Tryz.prog H (Instr.field 137 (.agg cs) 3) K = wo cs[3]? fun v => nv v K := rdop_fieldF (show fdOf Tryz.prog 137 3 = some (3, 1, false) by kernel_rfl)
@[go_sem] theorem fd_138_0 {H : AH} {cs : Array Value} {K : Value → Prop} : rdop Tryz.prog H (Instr.field 138 (.agg cs) 0) K = wo cs[0]? fun v => nv v K := rdop_fieldF (show fdOf Tryz.prog 138 0 = some (0, 1, false) by kernel_rfl)
@[go_sem] theorem fd_138_1 {H : AH} {cs : Array Value} {K : Value → Prop} : rdop Tryz.prog H (Instr.field 138 (.agg cs) 1) K = wo cs[1]? fun v => nv v K := rdop_fieldF (show fdOf Tryz.prog 138 1 = some (1, 1, false) by kernel_rfl)
@[go_sem] theorem fd_138_2 {H : AH} {cs : Array Value} {K : Value → Prop} : rdop Tryz.prog H (Instr.field 138 (.agg cs) 2) K = wo cs[2]? fun v => nv v K := rdop_fieldF (show fdOf Tryz.prog 138 2 = some (2, 1, false) by kernel_rfl)
@[go_sem] theorem fd_138_3 {H : AH} {cs : Array Value} {K : Value → Prop} : rdop Tryz.prog H (Instr.field 138 (.agg cs) 3) K = wo cs[3]? fun v => nv v K := rdop_fieldF (show fdOf Tryz.prog 138 3 = some (3, 1, false) by kernel_rfl)
@[go_sem] theorem fd_155_0 {H : AH} {cs : Array Value} {K : Value → Prop} : rdop Tryz.prog H (Instr.field 155 (.agg cs) 0) K = wo cs[0]? fun v => nv v K := rdop_fieldF (show fdOf Tryz.prog 155 0 = some (0, 1, false) by kernel_rfl)
@[go_sem] theorem fd_155_1 {H : AH} {cs : Array Value} {K : Value → Prop} : rdop Tryz.prog H (Instr.field 155 (.agg cs) 1) K = wo cs[1]? fun v => nv v K := rdop_fieldF (show fdOf Tryz.prog 155 1 = some (1, 1, false) by kernel_rfl)
@[go_sem] theorem fd_156_0 {H : AH} {cs : Array Value} {K : Value → Prop} : rdop Tryz.prog H (Instr.field 156 (.agg cs) 0) K = wo cs[0]? fun v => nv v K := rdop_fieldF (show fdOf Tryz.prog 156 0 = some (0, 1, false) by kernel_rfl)
@[go_sem] theorem fd_156_1 {H : AH} {cs : Array Value} {K : Value → Prop} : rdop Tryz.prog H (Instr.field 156 (.agg cs) 1) K = wo cs[1]? fun v => nv v K := rdop_fieldF (show fdOf Tryz.prog 156 1 = some (1, 1, false) by kernel_rfl)
@[go_sem] theorem fd_167_0 {H : AH} {cs : Array Value} {K : Value → Prop} : rdop Tryz.prog H (Instr.field 167 (.agg cs) 0) K = wo cs[0]? fun v => nv v K := rdop_fieldF (show fdOf Tryz.prog 167 0 = some (0, 1, false) by kernel_rfl)
@[go_sem] theorem fd_167_1 {H : AH} {cs : Array Value} {K : Value → Prop} : rdop Tryz.prog H (Instr.field 167 (.agg cs) 1) K = wo cs[1]? fun v => nv v K := rdop_fieldF (show fdOf Tryz.prog 167 1 = some (1, 1, false) by kernel_rfl)
@[go_sem] theorem fd_167_2 {H : AH} {cs : Array Value} {K : Value → Prop} : rdop Tryz.prog H (Instr.field 167 (.agg cs) 2) K = wo cs[2]? fun v => nv v K := rdop_fieldF (show fdOf Tryz.prog 167 2 = some (2, 1, false) by kernel_rfl)
@[go_sem] theorem fd_168_0 {H : AH} {cs : Array Value} {K : Value → Prop} : rdop Tryz.prog H (Instr.field 168 (.agg cs) 0) K = wo cs[0]? fun v => nv v K := rdop_fieldF (show fdOf Tryz.prog 168 0 = some (0, 1, false) by kernel_rfl)
@[go_sem] theorem fd_168_1 {H : AH} {cs : Array Value} {K : Value → Prop} : rdop Tryz.prog H (Instr.field 168 (.agg cs) 1) K = wo cs[1]? fun v => nv v K := rdop_fieldF (show fdOf Tryz.prog 168 1 = some (1, 1, false) by kernel_rfl)
@[go_sem] theorem fd_168_2 {H : AH} {cs : Array Value} {K : Value → Prop} : rdop Tryz.prog H (Instr.field 168 (.agg cs) 2) K = wo cs[2]? fun v => nv v K := rdop_fieldF (show fdOf Tryz.prog 168 2 = some (2, 1, false) by kernel_rfl)
@[go_sem ↓] theorem se_185 : slE Tryz.prog 185 = some (28, 1, [(.int .i64 0)], 8) := by kernel_rfl
@[go_sem] theorem fd_196_0 {H : AH} {cs : Array Value} {K : Value → Prop} : rdop Tryz.prog H (Instr.field 196 (.agg cs) 0) K = wo cs[0]? fun v => nv v K := rdop_fieldF (show fdOf Tryz.prog 196 0 = some (0, 1, false) by kernel_rfl)
@[go_sem] theorem fd_197_0 {H : AH} {cs : Array Value} {K : Value → Prop} : rdop Tryz.prog H (Instr.field 197 (.agg cs) 0) K = wo cs[0]? fun v => nv v K := rdop_fieldF (show fdOf Tryz.prog 197 0 = some (0, 1, false) by kernel_rfl)
@[go_sem ↓] theorem se_208 : slE Tryz.prog 208 = some (113, 1, [.nilIface], 16) := by kernel_rfl
@[go_sem] theorem fd_218_0 {H : AH} {cs : Array Value} {K : Value → Prop} : rdop Tryz.prog H (Instr.field 218 (.agg cs) 0) K = wo cs[0]? fun v => nv v K := rdop_fieldF (show fdOf Tryz.prog 218 0 = some (0, 1, false) by kernel_rfl)
@[go_sem] theorem fd_218_1 {H : AH} {cs : Array Value} {K : Value → Prop} : rdop Tryz.prog H (Instr.field 218 (.agg cs) 1) K = wo cs[1]? fun v => nv v K := rdop_fieldF (show fdOf Tryz.prog 218 1 = some (1, 1, false) by kernel_rfl)
@[go_sem] theorem fd_219_0 {H : AH} {cs : Array Value} {K : Value → Prop} : rdop Tryz.prog H (Instr.field 219 (.agg cs) 0) K = wo cs[0]? fun v => nv v K := rdop_fieldF (show fdOf Tryz.prog 219 0 = some (0, 1, false) by kernel_rfl)
@[go_sem] theorem fd_219_1 {H : AH} {cs : Array Value} {K : Value → Prop} : rdop Tryz.prog H (Instr.field 219 (.agg cs) 1) K = wo cs[1]? fun v => nv v K := rdop_fieldF (show fdOf Tryz.prog 219 1 = some (1, 1, false) by kernel_rfl)
@[go_sem] theorem fd_255_0 {H : AH} {cs : Array Value} {K : Value → Prop} : rdop Tryz.prog H (Instr.field 255 (.agg cs) 0) K = wo cs[0]? fun v => nv v K := rdop_fieldF (show fdOf Tryz.prog 255 0 = some (0, 1, false) by kernel_rfl)
@[go_sem] theorem fd_255_1 {H : AH} {cs : Array Value} {K : Value → Prop} : rdop Tryz.prog H (Instr.field 255 (.agg cs) 1) K = wo cs[1]? fun v => nv v K := rdop_fieldF (show fdOf Tryz.prog 255 1 = some (1, 1, false) by kernel_rfl)
@[go_sem] theorem fd_255_2 {H : AH} {cs : Array Value} {K : Value → Prop} : rdop Tryz.prog H (Instr.field 255 (.agg cs) 2) K = wo cs[2]? fun v => nv v K := rdop_fieldF (show fdOf Tryz.prog 255 2 = some (2, 1, false) by kernel_rfl)
@[go_sem] theorem fd_255_3 {H : AH} {cs : Array Value} {K : Value → Prop} : rdop Tryz.prog H (Instr.field 255 (.agg cs) 3) K = wo cs[3]? fun v => nv v K := rdop_fieldF (show fdOf Tryz.prog 255 3 = some (3, 1, false) by kernel_rfl)
@[go_sem] theorem fd_256_0 {H : AH} {cs : Array Value} {K : Value → Prop} : rdop Tryz.prog H (Instr.field 256 (.agg cs) 0) K = wo cs[0]? fun v => nv v K := rdop_fieldF (show fdOf Tryz.prog 256 0 = some (0, 1, false) by kernel_rfl)
@[go_sem] theorem fd_256_1 {H : AH} {cs : Array Value} {K : Value → Prop} : rdop Tryz.prog H (Instr.field 256 (.agg cs) 1) K = wo cs[1]? fun v => nv v K := rdop_fieldF (show fdOf Tryz.prog 256 1 = some (1, 1, false) by kernel_rfl)
@[go_sem] theorem fd_256_2 {H : AH} {cs : Array Value} {K : Value → Prop} : rdop Tryz.prog H (Instr.field 256 (.agg cs) 2) K = wo cs[2]? fun v => nv v K := rdop_fieldF (show fdOf Tryz.prog 256 2 = some (2, 1, false) by kernel_rfl)
@[go_sem] theorem fd_256_3 {H : AH} {cs : Array Value} {K : Value → Prop} : rdop Tryz.prog H (Instr.field 256 (.agg cs) 3) K = wo cs[3]? fun v => nv v K := rdop_fieldF (show fdOf Tryz.prog 256 3 = some (3, 1, false) by kernel_rfl)
@[go_sem] theorem fd_266_0 {H : AH} {cs : Array Value} {K : Value → Prop} : rdop Tryz.prog H (Instr.field 266 (.agg cs) 0) K = wo cs[0]? fun v => nv v K := rdop_fieldF (show fdOf Tryz.prog 266 0 = some (0, 1, false) by kernel_rfl)
@[go_sem] theorem fd_266_1 {H : AH} {cs : Array Value} {K : Value → Prop} : rdop Tryz.prog H (Instr.field 266 (.agg cs) 1) K = wo cs[1]? fun v => nv v K := rdop_fieldF (show fdOf Tryz.prog 266 1 = some (1, 1, false) by kernel_rfl)
@[go_sem] theorem fd_266_2 {H : AH} {cs : Array Value} {K : Value → Prop} : rdop Tryz.prog H (Instr.field 266 (.agg cs) 2) K = wo cs[2]? fun v => nv v K := rdop_fieldF (show fdOf Tryz.prog 266 2 = some (2, 1, false) by kernel_rfl)
@[go_sem] theorem fd_266_3 {H : AH} {cs : Array Value} {K : Value → Prop} : rdop Tryz.prog H (Instr.field 266 (.agg cs) 3) K = wo cs[3]? fun v => nv v K := rdop_fieldF (show fdOf Tryz.prog 266 3 = some (3, 1, false) by kernel_rfl)
@[go_sem] theorem fd_266_4 {H : AH} {cs : Array Value} {K : Value → Prop} : rdop Tryz.prog H (Instr.field 266 (.agg cs) 4) K = wo cs[4]? fun v => nv v K := rdop_fieldF (show fdOf Tryz.prog 266 4 = some (4, 1, false) by kernel_rfl)
@[go_sem] theorem fd_266_5 {H : AH} {cs : Array Value} {K : Value → Prop} : rdop Tryz.prog H (Instr.field 266 (.agg cs) 5) K = wo cs[5]? fun v => nv v K := rdop_fieldF (show fdOf Tryz.prog 266 5 = some (5, 1, false) by kernel_rfl)
@[go_sem] theorem fd_266_6 {H : AH} {cs : Array Value} {K : Value → Prop} : rdop Tryz.prog H (Instr.field 266 (.agg cs) 6) K = wo cs[6]? fun v => nv v K := rdop_fieldF (show fdOf Tryz.prog 266 6 = some (6, 1, false) by kernel_rfl)
@[go_sem] theorem fd_266_7 {H : AH} {cs : Array Value} {K : Value → Prop} : rdop Tryz.prog H (Instr.field 266 (.agg cs) 7) K = wo cs[7]? fun v => nv v K := rdop_fieldF (show fdOf Tryz.prog 266 7 = some (7, 1, false) by kernel_rfl)
@[go_sem] theorem fd_266_8 {H : AH} {cs : Array Value} {K : Value → Prop} : rdop Tryz.prog H (Instr.field 266 (.agg cs) 8) K = wo cs[8]? fun v => nv v K := rdop_fieldF (show fdOf Tryz.prog 266 8 = some (8, 1, false) by kernel_rfl)
@[go_sem] theorem fd_266_9 {H : AH} {cs : Array Value} {K : Value → Prop} : rdop Tryz.prog H (Instr.field 266 (.agg cs) 9) K = wo cs[9]? fun v => nv v K := rdop_fieldF (show fdOf Tryz.prog 266 9 = some (9, 1, false) by kernel_rfl)
@[go_sem] theorem fd_266_10 {H : AH} {cs : Array Value} {K : Value → Prop} : rdop Tryz.prog H (Instr.field 266 (.agg cs) 10) K = wo cs[10]? fun v => nv v K := rdop_fieldF (show fdOf Tryz.prog 266 10 = some (10, 1, false) by kernel_rfl)
@[go_sem] theorem fd_267_0 {H : AH} {cs : Array Value} {K : Value → Prop} : rdop Tryz.prog H (Instr.field 267 (.agg cs) 0) K = wo cs[0]? fun v => nv v K := rdop_fieldF (show fdOf Tryz.prog 267 0 = some (0, 1, false) by kernel_rfl)
@[go_sem] theorem fd_267_1 {H : AH} {cs : Array Value} {K : Value → Prop} : rdop Tryz.prog H (Instr.field 267 (.agg cs) 1) K = wo cs[1]? fun v => nv v K := rdop_fieldF (show fdOf Tryz.prog 267 1 = some (1, 1, false) by kernel_rfl)
@[go_sem] theorem fd_267_2 {H : AH} {cs : Array Value} {K : Value → Prop} : rdop Tryz.prog H (Instr.field 267 (.agg cs) 2) K = wo cs[2]? fun v => nv v K := rdop_fieldF (show fdOf Tryz.prog 267 2 = some (2, 1, false) by kernel_rfl)
@[go_sem] theorem fd_267_3 {H : AH} {cs : Array Value} {K : Value → Prop} : rdop Tryz.prog H (Instr.field 267 (.agg cs) 3) K = wo cs[3]? fun v => nv v K := rdop_fieldF (show fdOf Tryz.prog 267 3 = some (3, 1, false) by kernel_rfl)
@[go_sem] theorem fd_267_4 {H : AH} {cs : Array Value} {K : Value → Prop} : rdop Tryz.prog H (Instr.field 267 (.agg cs) 4) K = wo cs[4]? fun v => nv v K := rdop_fieldF (show fdOf Tryz.prog 267 4 = some (4, 1, false) by kernel_rfl)
@[go_sem] theorem fd_267_5 {H : AH} {cs : Array Value} {K : Value → Prop} : rdop Tryz.prog H (Instr.field 267 (.agg cs) 5) K = wo cs[5]? fun v => nv v K := rdop_fieldF (show fdOf Tryz.prog 267 5 = some (5, 1, false) by kernel_rfl)
@[go_sem] theorem fd_267_6 {H : AH} {cs : Array Value} {K : Value → Prop} : rdop Tryz.prog H (Instr.field 267 (.agg cs) 6) K = wo cs[6]? fun v => nv v K := rdop_fieldF (show fdOf Tryz.prog 267 6 = some (6, 1, false) by kernel_rfl)
@[go_sem] theorem fd_267_7 {H : AH} {cs : Array Value} {K : Value → Prop} : rdop Tryz.prog H (Instr.field 267 (.agg cs) 7) K = wo cs[7]? fun v => nv v K := rdop_fieldF (show fdOf Tryz.prog 267 7 = some (7, 1, false) by kernel_rfl)
@[go_sem] theorem fd_267_8 {H : AH} {cs : Array Value} {K : Value → Prop} : rdop Tryz.prog H (Instr.field 267 (.agg cs) 8) K = wo cs[8]? fun v => nv v K := rdop_fieldF (show fdOf Tryz.prog 267 8 = some (8, 1, false) by kernel_rfl)
@[go_sem] theorem fd_267_9 {H : AH} {cs : Array Value} {K : Value → Prop} : rdop Tryz.prog H (Instr.field 267 (.agg cs) 9) K = wo cs[9]? fun v => nv v K := rdop_fieldF (show fdOf Tryz.prog 267 9 = some (9, 1, false) by kernel_rfl)
@[go_sem] theorem fd_267_10 {H : AH} {cs : Array Value} {K : Value → Prop} : rdop Tryz.prog H (Instr.field 267 (.agg cs) 10) K = wo cs[10]? fun v => nv v K := rdop_fieldF (show fdOf Tryz.prog 267 10 = some (10, 1, false) by kernel_rfl)
@[go_sem] theorem fd_268_0 {H : AH} {cs : Array Value} {K : Value → Prop} : rdop Tryz.prog H (Instr.field 268 (.agg cs) 0) K = wo cs[0]? fun v => nv v K := rdop_fieldF (show fdOf Tryz.prog 268 0 = some (0, 1, false) by kernel_rfl)
@[go_sem] theorem fd_268_1 {H : AH} {cs : Array Value} {K : Value → Prop} : rdop Tryz.prog H (Instr.field 268 (.agg cs) 1) K = wo cs[1]? fun v => nv v K := rdop_fieldF (show fdOf Tryz.prog 268 1 = some (1, 1, false) by kernel_rfl)
@[go_sem] theorem fd_269_0 {H : AH} {cs : Array Value} {K : Value → Prop} : rdop Tryz.prog H (Instr.field 269 (.agg cs) 0) K = wo cs[0]? fun v => nv v K := rdop_fieldF (show fdOf Tryz.prog 269 0 = some (0, 1, false) by kernel_rfl)
@[go_sem] theorem fd_269_1 {H : AH} {cs : Array Value} {K : Value → Prop} : rdop Tryz.prog H (Instr.field 269 (.agg cs) 1) K = wo cs[1]? fun v => nv v K := rdop_fieldF (show fdOf Tryz.prog 269 1 = some (1, 1, false) by kernel_rfl)
@[go_sem] theorem fd_272_0 {H : AH} {cs : Array Value} {K : Value → Prop} : rdop Tryz.prog H (Instr.field 272 (.agg cs) 0) K = wo cs[0]? fun v => nv v K := rdop_fieldF (show fdOf Tryz.prog 272 0 = some (0, 1, false) by kernel_rfl)
@[go_sem] theorem fd_272_1 {H : AH} {cs : Array Value} {K : Value → Prop} : rdop Tryz.prog H (Instr.field 272 (.agg cs) 1) K = wo cs[1]? fun v => nv v K := rdop_fieldF (show fdOf Tryz.prog 272 1 = some (1, 1, false) by kernel_rfl)
@[go_sem] theorem fd_273_0 {H : AH} {cs : Array Value} {K : Value → Prop} : rdop Tryz.prog H (Instr.field 273 (.agg cs) 0) K = wo cs[0]? fun v => nv v K := rdop_fieldF (show fdOf Tryz.prog 273 0 = some (0, 1, false) by kernel_rfl)
@[go_sem] theorem fd_273_1 {H : AH} {cs : Array Value} {K : Value → Prop} : rdop Tryz.prog H (Instr.field 273 (.agg cs) 1) K = wo cs[1]? fun v => nv v K := rdop_fieldF (show fdOf Tryz.prog 273 1 = some (1, 1, false) by kernel_rfl)
@[go_sem] theorem fd_277_0 {H : AH} {cs : Array Value} {K : Value → Prop} : rdop Tryz.prog H (Instr.field 277 (.agg cs) 0) K = wo cs[0]? fun v => nv v K := rdop_fieldF (show fdOf Tryz.prog 277 0 = some (0, 1, false) by kernel_rfl)
@[go_sem] theorem fd_277_1 {H : AH} {cs : Array Value} {K : Value → Prop} : rdop Tryz.prog H (Instr.field 277 (.agg cs) 1) K = wo cs[1]? fun v => nv v K := rdop_fieldF (show fdOf Tryz.prog 277 1 = some (1, 1, false) by kernel_rfl)
@[go_sem] theorem fd_277_2 {H : AH} {cs : Array Value} {K : Value → Prop} : rdop Tryz.prog H (Instr.field 277 (.agg cs) 2) K = wo cs[2]? fun v => nv v K := rdop_fieldF (show fdOf Tryz.prog 277 2 = some (2, 1, false) by kernel_rfl)
@[go_sem] theorem fd_277_3 {H : AH} {cs : Array Value} {K : Value → Prop} : rdop Tryz.prog H (Instr.field 277 (.agg cs) 3) K = wo cs[3]? fun v => nv v K := rdop_fieldF (show fdOf Tryz.prog 277 3 = some (3, 1, false) by kernel_rfl)
@[go_sem] theorem fd_277_4 {H : AH} {cs : Array Value} {K : Value → Prop} : rdop Tryz.prog H (Instr.field 277 (.agg cs) 4) K = wo cs[4]? fun v => nv v K := rdop_fieldF (show fdOf Tryz.prog 277 4 = some (4, 1, false) by kernel_rfl)
@[go_sem] theorem fd_278_0 {H : AH} {cs : Array Value} {K : Value → Prop} : rdop Tryz.prog H (Instr.field 278 (.agg cs) 0) K = wo cs[0]? fun v => nv v K := rdop_fieldF (show fdOf Tryz.prog 278 0 = some (0, 1, false) by kernel_rfl)
@[go_sem] theorem fd_278_1 {H : AH} {cs : Array Value} {K : Value → Prop} : rdop Tryz.prog H (Instr.field 278 (.agg cs) 1) K = wo cs[1]? fun v => nv v K := rdop_fieldF (show fdOf Tryz.prog 278 1 = some (1, 1, false) by kernel_rfl)
@[go_sem] theorem fd_278_2 {H : AH} {cs : Array Value} {K : Value → Prop} : rdop Tryz.prog H (Instr.field 278 (.agg cs) 2) K = wo cs[2]? fun v => nv v K := rdop_fieldF (show fdOf Tryz.prog 278 2 = some (2, 1, false) by kernel_rfl)
@[go_sem] theorem fd_278_3 {H : AH} {cs : Array Value} {K : Value → Prop} : rdop Tryz.prog H (Instr.field 278 (.agg cs) 3) K = wo cs[3]? fun v => nv v K := rdop_fieldF (show fdOf Tryz.prog 278 3 = some (3, 1, false) by kernel_rfl)
@[go_sem] theorem fd_278_4 {H : AH} {cs : Array Value} {K : Value → Prop} : rdop Tryz.prog H (Instr.field 278 (.agg cs) 4) K = wo cs[4]? fun v => nv v K := rdop_fieldF (show fdOf Tryz.prog 278 4 = some (4, 1, false) by kernel_rfl)
@[go_sem ↓] theorem se_279 : slE Tryz.prog 279 = some (282, 4, [(.int .i32 0), (.int .i32 0), (.int .i32 0), (.int .i32 0)], 16) := by kernel_rfl
@[go_sem] theorem fd_281_0 {H : AH} {cs : Array Value} {K : Value → Prop} : rdop Tryz.prog H (Instr.field 281 (.agg cs) 0) K = wo cs[0]? fun v => nv v K := rdop_fieldF (show fdOf Tryz.prog 281 0 = some (0, 1, false) by kernel_rfl)
@[go_sem] theorem fd_281_1 {H : AH} {cs : Array Value} {K : Value → Prop} : rdop Tryz.prog H (Instr.field 281 (.agg cs) 1) K = wo cs[1]? fun v => nv v K := rdop_fieldF (show fdOf Tryz.prog 281 1 = some (1, 1, false) by kernel_rfl)
@[go_sem] theorem fd_281_2 {H : AH} {cs : Array Value} {K : Value → Prop} : rdop Tryz.prog H (Instr.field 281 (.agg cs) 2) K = wo cs[2]? fun v => nv v K := rdop_fieldF (show fdOf Tryz.prog 281 2 = some (2, 1, false) by kernel_rfl)
@[go_sem] theorem fd_281_3 {H : AH} {cs : Array Value} {K : Value → Prop} : rdop Tryz.prog H (Instr.field 281 (.agg cs) 3) K = wo cs[3]? fun v => nv v K := rdop_fieldF (show fdOf Tryz.prog 281 3 = some (3, 1, false) by kernel_rfl)
@[go_sem] theorem fd_282_0 {H : AH} {cs : Array Value} {K : Value → Prop} : rdop Tryz.prog H (Instr.field 282 (.agg cs) 0) K = wo cs[0]? fun v => nv v K := rdop_fieldF (show fdOf Tryz.prog 282 0 = some (0, 1, false) by kernel_rfl)
@[go_sem] theorem fd_282_1 {H : AH} {cs : Array Value} {K : Value → Prop} : rdop Tryz.prog H (Instr.field 282 (.agg cs) 1) K = wo cs[1]? fun v => nv v K := rdop_fieldF (show fdOf Tryz.prog 282 1 = some (1, 1, false) by kernel_rfl)
@[go_sem] theorem fd_282_2 {H : AH} {cs : Array Value} {K : Value → Prop} : rdop Tryz.prog H (Instr.field 282 (.agg cs) 2) K = wo cs[2]? fun v => nv v K := rdop_fieldF (show fdOf Tryz.prog 282 2 = some (2, 1, false) by kernel_rfl)
@[go_sem] theorem fd_282_3 {H : AH} {cs : Array Value} {K : Value → Prop} : rdop Tryz.prog H (Instr.field 282 (.agg cs) 3) K = wo cs[3]? fun v => nv v K := rdop_fieldF (show fdOf Tryz.prog 282 3 = some (3, 1, false) by kernel_rfl)
theorem eg_7 : Tryz.prog.eqGuardType Tryz.prog.depth 7 = false := by kernel_rfl
theorem st_7 : Tryz.prog.stoodInHeld 7 = false := by kernel_rfl
theorem eqi_7 {H : AH} {m : Nat} (a0 b0 : Int) (a1 b1 : Int) (a2 b2 : Bool) (a3 b3 : Int) : qrun Tryz.prog (Op.equalIn (m + 2) 7 (.agg #[.int .i64 a0, .int .i64 a1, .bool a2, .int .u8 a3]) (.agg #[.int .i64 b0, .int .i64 b1, .bool b2, .int .u8 b3])) H = some ((a0 == b0) && ((a1 == b1) && ((a2 == b2) && (a3 == b3)))) := by
  have h := eqIn_struct (P := Tryz.prog) (H := H) (m := m + 1) (xs := #[.int .i64 a0, .int .i64 a1, .bool a2, .int .u8 a3]) (ys := #[.int .i64 b0, .int .i64 b1, .bool b2, .int .u8 b3]) (T := fun f => if f.offset = 0 then (a0 == b0) else if f.offset = 1 then (a1 == b1) else if f.offset = 2 then (a2 == b2) else if f.offset = 3 then (a3 == b3) else true) Tryz.underlying7 st_7 (by
    simp only [List.mem_cons, List.not_mem_nil, or_false]
    rintro f (rfl | rfl | rfl | rfl)
    · exact ⟨by decide, (.int .i64 a0), (.int .i64 b0), part_scal ag_2 rfl, part_scal ag_2 rfl, eqIn_int Tryz.underlying2⟩
    · exact ⟨by decide, (.int .i64 a1), (.int .i64 b1), part_scal ag_3 rfl, part_scal ag_3 rfl, eqIn_int Tryz.underlying3⟩
    · exact ⟨by decide, (.bool a2), (.bool b2), part_scal ag_4 rfl, part_scal ag_4 rfl, eqIn_bool Tryz.underlying4⟩
    · exact ⟨by decide, (.int .u8 a3), (.int .u8 b3), part_scal ag_6 rfl, part_scal ag_6 rfl, eqIn_int Tryz.underlying6⟩)
  rw [h]; simp [Bool.and_assoc]
@[go_sem] theorem eql_7 {H : AH} {u : Option TypeDesc} {x y : Operand} {kk : Value → Prop} {a0 b0 : Int} {a1 b1 : Int} {a2 b2 : Bool} {a3 b3 : Int} : bin u Tryz.prog H .eql 7 x y (.agg #[.int .i64 a0, .int .i64 a1, .bool a2, .int .u8 a3]) (.agg #[.int .i64 b0, .int .i64 b1, .bool b2, .int .u8 b3]) kk = (u = Tryz.prog.underlying 7 ∧ nv (.bool ((a0 == b0) && ((a1 == b1) && ((a2 == b2) && (a3 == b3))))) kk) := bin_eql_of (eqg_agg eg_7) rfl fun _ => eqi_7 (m := 9998) a0 b0 a1 b1 a2 b2 a3 b3
@[go_sem] theorem neq_7 {H : AH} {u : Option TypeDesc} {x y : Operand} {kk : Value → Prop} {a0 b0 : Int} {a1 b1 : Int} {a2 b2 : Bool} {a3 b3 : Int} : bin u Tryz.prog H .neq 7 x y (.agg #[.int .i64 a0, .int .i64 a1, .bool a2, .int .u8 a3]) (.agg #[.int .i64 b0, .int .i64 b1, .bool b2, .int .u8 b3]) kk = (u = Tryz.prog.underlying 7 ∧ nv (.bool (!((a0 == b0) && ((a1 == b1) && ((a2 == b2) && (a3 == b3)))))) kk) := bin_neq_of (eqg_agg eg_7) rfl fun _ => eqi_7 (m := 9998) a0 b0 a1 b1 a2 b2 a3 b3
theorem eg_8 : Tryz.prog.eqGuardType Tryz.prog.depth 8 = false := by kernel_rfl
theorem st_8 : Tryz.prog.stoodInHeld 8 = false := by kernel_rfl
theorem eqi_8 {H : AH} {m : Nat} (a0 b0 : Int) (a1 b1 : Int) (a2 b2 : Bool) (a3 b3 : Int) : qrun Tryz.prog (Op.equalIn (m + 2) 8 (.agg #[.int .i64 a0, .int .i64 a1, .bool a2, .int .u8 a3]) (.agg #[.int .i64 b0, .int .i64 b1, .bool b2, .int .u8 b3])) H = some ((a0 == b0) && ((a1 == b1) && ((a2 == b2) && (a3 == b3)))) := by
  have h := eqIn_struct (P := Tryz.prog) (H := H) (m := m + 1) (xs := #[.int .i64 a0, .int .i64 a1, .bool a2, .int .u8 a3]) (ys := #[.int .i64 b0, .int .i64 b1, .bool b2, .int .u8 b3]) (T := fun f => if f.offset = 0 then (a0 == b0) else if f.offset = 1 then (a1 == b1) else if f.offset = 2 then (a2 == b2) else if f.offset = 3 then (a3 == b3) else true) Tryz.underlying8 st_8 (by
    simp only [List.mem_cons, List.not_mem_nil, or_false]
    rintro f (rfl | rfl | rfl | rfl)
    · exact ⟨by decide, (.int .i64 a0), (.int .i64 b0), part_scal ag_2 rfl, part_scal ag_2 rfl, eqIn_int Tryz.underlying2⟩
    · exact ⟨by decide, (.int .i64 a1), (.int .i64 b1), part_scal ag_3 rfl, part_scal ag_3 rfl, eqIn_int Tryz.underlying3⟩
    · exact ⟨by decide, (.bool a2), (.bool b2), part_scal ag_4 rfl, part_scal ag_4 rfl, eqIn_bool Tryz.underlying4⟩
    · exact ⟨by decide, (.int .u8 a3), (.int .u8 b3), part_scal ag_6 rfl, part_scal ag_6 rfl, eqIn_int Tryz.underlying6⟩)
  rw [h]; simp [Bool.and_assoc]
@[go_sem] theorem eql_8 {H : AH} {u : Option TypeDesc} {x y : Operand} {kk : Value → Prop} {a0 b0 : Int} {a1 b1 : Int} {a2 b2 : Bool} {a3 b3 : Int} : bin u Tryz.prog H .eql 8 x y (.agg #[.int .i64 a0, .int .i64 a1, .bool a2, .int .u8 a3]) (.agg #[.int .i64 b0, .int .i64 b1, .bool b2, .int .u8 b3]) kk = (u = Tryz.prog.underlying 8 ∧ nv (.bool ((a0 == b0) && ((a1 == b1) && ((a2 == b2) && (a3 == b3))))) kk) := bin_eql_of (eqg_agg eg_8) rfl fun _ => eqi_8 (m := 9998) a0 b0 a1 b1 a2 b2 a3 b3
@[go_sem] theorem neq_8 {H : AH} {u : Option TypeDesc} {x y : Operand} {kk : Value → Prop} {a0 b0 : Int} {a1 b1 : Int} {a2 b2 : Bool} {a3 b3 : Int} : bin u Tryz.prog H .neq 8 x y (.agg #[.int .i64 a0, .int .i64 a1, .bool a2, .int .u8 a3]) (.agg #[.int .i64 b0, .int .i64 b1, .bool b2, .int .u8 b3]) kk = (u = Tryz.prog.underlying 8 ∧ nv (.bool (!((a0 == b0) && ((a1 == b1) && ((a2 == b2) && (a3 == b3)))))) kk) := bin_neq_of (eqg_agg eg_8) rfl fun _ => eqi_8 (m := 9998) a0 b0 a1 b1 a2 b2 a3 b3
theorem eg_23 : Tryz.prog.eqGuardType Tryz.prog.depth 23 = false := by kernel_rfl
theorem st_23 : Tryz.prog.stoodInHeld 23 = false := by kernel_rfl
theorem eqi_23 {H : AH} {m : Nat} (a0 b0 : Int) (a1 b1 : Int) (a2 b2 : Int) : qrun Tryz.prog (Op.equalIn (m + 2) 23 (.agg #[.int .i64 a0, .int .i64 a1, .int .i64 a2]) (.agg #[.int .i64 b0, .int .i64 b1, .int .i64 b2])) H = some ((a0 == b0) && ((a1 == b1) && (a2 == b2))) := by
  have h := eqIn_struct (P := Tryz.prog) (H := H) (m := m + 1) (xs := #[.int .i64 a0, .int .i64 a1, .int .i64 a2]) (ys := #[.int .i64 b0, .int .i64 b1, .int .i64 b2]) (T := fun f => if f.offset = 0 then (a0 == b0) else if f.offset = 1 then (a1 == b1) else if f.offset = 2 then (a2 == b2) else true) Tryz.underlying23 st_23 (by
    simp only [List.mem_cons, List.not_mem_nil, or_false]
    rintro f (rfl | rfl | rfl)
    · exact ⟨by decide, (.int .i64 a0), (.int .i64 b0), part_scal ag_3 rfl, part_scal ag_3 rfl, eqIn_int Tryz.underlying3⟩
    · exact ⟨by decide, (.int .i64 a1), (.int .i64 b1), part_scal ag_3 rfl, part_scal ag_3 rfl, eqIn_int Tryz.underlying3⟩
    · exact ⟨by decide, (.int .i64 a2), (.int .i64 b2), part_scal ag_3 rfl, part_scal ag_3 rfl, eqIn_int Tryz.underlying3⟩)
  rw [h]; simp [Bool.and_assoc]
@[go_sem] theorem eql_23 {H : AH} {u : Option TypeDesc} {x y : Operand} {kk : Value → Prop} {a0 b0 : Int} {a1 b1 : Int} {a2 b2 : Int} : bin u Tryz.prog H .eql 23 x y (.agg #[.int .i64 a0, .int .i64 a1, .int .i64 a2]) (.agg #[.int .i64 b0, .int .i64 b1, .int .i64 b2]) kk = (u = Tryz.prog.underlying 23 ∧ nv (.bool ((a0 == b0) && ((a1 == b1) && (a2 == b2)))) kk) := bin_eql_of (eqg_agg eg_23) rfl fun _ => eqi_23 (m := 9998) a0 b0 a1 b1 a2 b2
@[go_sem] theorem neq_23 {H : AH} {u : Option TypeDesc} {x y : Operand} {kk : Value → Prop} {a0 b0 : Int} {a1 b1 : Int} {a2 b2 : Int} : bin u Tryz.prog H .neq 23 x y (.agg #[.int .i64 a0, .int .i64 a1, .int .i64 a2]) (.agg #[.int .i64 b0, .int .i64 b1, .int .i64 b2]) kk = (u = Tryz.prog.underlying 23 ∧ nv (.bool (!((a0 == b0) && ((a1 == b1) && (a2 == b2))))) kk) := bin_neq_of (eqg_agg eg_23) rfl fun _ => eqi_23 (m := 9998) a0 b0 a1 b1 a2 b2
theorem eg_24 : Tryz.prog.eqGuardType Tryz.prog.depth 24 = false := by kernel_rfl
theorem st_24 : Tryz.prog.stoodInHeld 24 = false := by kernel_rfl
theorem eqi_24 {H : AH} {m : Nat} (a0 b0 : Int) (a1 b1 : Int) (a2 b2 : Int) : qrun Tryz.prog (Op.equalIn (m + 2) 24 (.agg #[.int .i64 a0, .int .i64 a1, .int .i64 a2]) (.agg #[.int .i64 b0, .int .i64 b1, .int .i64 b2])) H = some ((a0 == b0) && ((a1 == b1) && (a2 == b2))) := by
  have h := eqIn_struct (P := Tryz.prog) (H := H) (m := m + 1) (xs := #[.int .i64 a0, .int .i64 a1, .int .i64 a2]) (ys := #[.int .i64 b0, .int .i64 b1, .int .i64 b2]) (T := fun f => if f.offset = 0 then (a0 == b0) else if f.offset = 1 then (a1 == b1) else if f.offset = 2 then (a2 == b2) else true) Tryz.underlying24 st_24 (by
    simp only [List.mem_cons, List.not_mem_nil, or_false]
    rintro f (rfl | rfl | rfl)
    · exact ⟨by decide, (.int .i64 a0), (.int .i64 b0), part_scal ag_3 rfl, part_scal ag_3 rfl, eqIn_int Tryz.underlying3⟩
    · exact ⟨by decide, (.int .i64 a1), (.int .i64 b1), part_scal ag_3 rfl, part_scal ag_3 rfl, eqIn_int Tryz.underlying3⟩
    · exact ⟨by decide, (.int .i64 a2), (.int .i64 b2), part_scal ag_3 rfl, part_scal ag_3 rfl, eqIn_int Tryz.underlying3⟩)
  rw [h]; simp [Bool.and_assoc]
@[go_sem] theorem eql_24 {H : AH} {u : Option TypeDesc} {x y : Operand} {kk : Value → Prop} {a0 b0 : Int} {a1 b1 : Int} {a2 b2 : Int} : bin u Tryz.prog H .eql 24 x y (.agg #[.int .i64 a0, .int .i64 a1, .int .i64 a2]) (.agg #[.int .i64 b0, .int .i64 b1, .int .i64 b2]) kk = (u = Tryz.prog.underlying 24 ∧ nv (.bool ((a0 == b0) && ((a1 == b1) && (a2 == b2)))) kk) := bin_eql_of (eqg_agg eg_24) rfl fun _ => eqi_24 (m := 9998) a0 b0 a1 b1 a2 b2
@[go_sem] theorem neq_24 {H : AH} {u : Option TypeDesc} {x y : Operand} {kk : Value → Prop} {a0 b0 : Int} {a1 b1 : Int} {a2 b2 : Int} : bin u Tryz.prog H .neq 24 x y (.agg #[.int .i64 a0, .int .i64 a1, .int .i64 a2]) (.agg #[.int .i64 b0, .int .i64 b1, .int .i64 b2]) kk = (u = Tryz.prog.underlying 24 ∧ nv (.bool (!((a0 == b0) && ((a1 == b1) && (a2 == b2))))) kk) := bin_neq_of (eqg_agg eg_24) rfl fun _ => eqi_24 (m := 9998) a0 b0 a1 b1 a2 b2
theorem eg_25 : Tryz.prog.eqGuardType Tryz.prog.depth 25 = false := by kernel_rfl
theorem eqi_25 {H : AH} {m : Nat} (a0 b0 : Int) (a1 b1 : Int) (a2 b2 : Int) (a3 b3 : Int) : qrun Tryz.prog (Op.equalIn (m + 2) 25 (.agg #[.int .u8 a0, .int .u8 a1, .int .u8 a2, .int .u8 a3]) (.agg #[.int .u8 b0, .int .u8 b1, .int .u8 b2, .int .u8 b3])) H = some ((a0 == b0) && ((a1 == b1) && ((a2 == b2) && (a3 == b3)))) := by
  have h := eqIn_array (P := Tryz.prog) (H := H) (m := m + 1) (xs := #[.int .u8 a0, .int .u8 a1, .int .u8 a2, .int .u8 a3]) (ys := #[.int .u8 b0, .int .u8 b1, .int .u8 b2, .int .u8 b3]) (T := fun i => ([(a0 == b0), (a1 == b1), (a2 == b2), (a3 == b3)] : List Bool).getD i false) Tryz.underlying25 (info_sz sz_5 (by simp)) (fun i hi => by
    match i, hi with
    | 0, _ => exact ⟨(.int .u8 a0), (.int .u8 b0), part_scal ag_5 rfl, part_scal ag_5 rfl, eqIn_int Tryz.underlying5⟩
    | 1, _ => exact ⟨(.int .u8 a1), (.int .u8 b1), part_scal ag_5 rfl, part_scal ag_5 rfl, eqIn_int Tryz.underlying5⟩
    | 2, _ => exact ⟨(.int .u8 a2), (.int .u8 b2), part_scal ag_5 rfl, part_scal ag_5 rfl, eqIn_int Tryz.underlying5⟩
    | 3, _ => exact ⟨(.int .u8 a3), (.int .u8 b3), part_scal ag_5 rfl, part_scal ag_5 rfl, eqIn_int Tryz.underlying5⟩
    | _ + 4, hi => omega)
  rw [h]; simp [List.range_succ, Bool.and_assoc]
@[go_sem] theorem eql_25 {H : AH} {u : Option TypeDesc} {x y : Operand} {kk : Value → Prop} {a0 b0 : Int} {a1 b1 : Int} {a2 b2 : Int} {a3 b3 : Int} : bin u Tryz.prog H .eql 25 x y (.agg #[.int .u8 a0, .int .u8 a1, .int .u8 a2, .int .u8 a3]) (.agg #[.int .u8 b0, .int .u8 b1, .int .u8 b2, .int .u8 b3]) kk = (u = Tryz.prog.underlying 25 ∧ nv (.bool ((a0 == b0) && ((a1 == b1) && ((a2 == b2) && (a3 == b3))))) kk) := bin_eql_of (eqg_agg eg_25) rfl fun _ => eqi_25 (m := 9998) a0 b0 a1 b1 a2 b2 a3 b3
@[go_sem] theorem neq_25 {H : AH} {u : Option TypeDesc} {x y : Operand} {kk : Value → Prop} {a0 b0 : Int} {a1 b1 : Int} {a2 b2 : Int} {a3 b3 : Int} : bin u Tryz.prog H .neq 25 x y (.agg #[.int .u8 a0, .int .u8 a1, .int .u8 a2, .int .u8 a3]) (.agg #[.int .u8 b0, .int .u8 b1, .int .u8 b2, .int .u8 b3]) kk = (u = Tryz.prog.underlying 25 ∧ nv (.bool (!((a0 == b0) && ((a1 == b1) && ((a2 == b2) && (a3 == b3)))))) kk) := bin_neq_of (eqg_agg eg_25) rfl fun _ => eqi_25 (m := 9998) a0 b0 a1 b1 a2 b2 a3 b3
theorem eg_26 : Tryz.prog.eqGuardType Tryz.prog.depth 26 = false := by kernel_rfl
theorem eqi_26 {H : AH} {m : Nat} (a0 b0 : Int) (a1 b1 : Int) (a2 b2 : Int) (a3 b3 : Int) : qrun Tryz.prog (Op.equalIn (m + 2) 26 (.agg #[.int .u8 a0, .int .u8 a1, .int .u8 a2, .int .u8 a3]) (.agg #[.int .u8 b0, .int .u8 b1, .int .u8 b2, .int .u8 b3])) H = some ((a0 == b0) && ((a1 == b1) && ((a2 == b2) && (a3 == b3)))) := by
  have h := eqIn_array (P := Tryz.prog) (H := H) (m := m + 1) (xs := #[.int .u8 a0, .int .u8 a1, .int .u8 a2, .int .u8 a3]) (ys := #[.int .u8 b0, .int .u8 b1, .int .u8 b2, .int .u8 b3]) (T := fun i => ([(a0 == b0), (a1 == b1), (a2 == b2), (a3 == b3)] : List Bool).getD i false) Tryz.underlying26 (info_sz sz_5 (by simp)) (fun i hi => by
    match i, hi with
    | 0, _ => exact ⟨(.int .u8 a0), (.int .u8 b0), part_scal ag_5 rfl, part_scal ag_5 rfl, eqIn_int Tryz.underlying5⟩
    | 1, _ => exact ⟨(.int .u8 a1), (.int .u8 b1), part_scal ag_5 rfl, part_scal ag_5 rfl, eqIn_int Tryz.underlying5⟩
    | 2, _ => exact ⟨(.int .u8 a2), (.int .u8 b2), part_scal ag_5 rfl, part_scal ag_5 rfl, eqIn_int Tryz.underlying5⟩
    | 3, _ => exact ⟨(.int .u8 a3), (.int .u8 b3), part_scal ag_5 rfl, part_scal ag_5 rfl, eqIn_int Tryz.underlying5⟩
    | _ + 4, hi => omega)
  rw [h]; simp [List.range_succ, Bool.and_assoc]
@[go_sem] theorem eql_26 {H : AH} {u : Option TypeDesc} {x y : Operand} {kk : Value → Prop} {a0 b0 : Int} {a1 b1 : Int} {a2 b2 : Int} {a3 b3 : Int} : bin u Tryz.prog H .eql 26 x y (.agg #[.int .u8 a0, .int .u8 a1, .int .u8 a2, .int .u8 a3]) (.agg #[.int .u8 b0, .int .u8 b1, .int .u8 b2, .int .u8 b3]) kk = (u = Tryz.prog.underlying 26 ∧ nv (.bool ((a0 == b0) && ((a1 == b1) && ((a2 == b2) && (a3 == b3))))) kk) := bin_eql_of (eqg_agg eg_26) rfl fun _ => eqi_26 (m := 9998) a0 b0 a1 b1 a2 b2 a3 b3
@[go_sem] theorem neq_26 {H : AH} {u : Option TypeDesc} {x y : Operand} {kk : Value → Prop} {a0 b0 : Int} {a1 b1 : Int} {a2 b2 : Int} {a3 b3 : Int} : bin u Tryz.prog H .neq 26 x y (.agg #[.int .u8 a0, .int .u8 a1, .int .u8 a2, .int .u8 a3]) (.agg #[.int .u8 b0, .int .u8 b1, .int .u8 b2, .int .u8 b3]) kk = (u = Tryz.prog.underlying 26 ∧ nv (.bool (!((a0 == b0) && ((a1 == b1) && ((a2 == b2) && (a3 == b3)))))) kk) := bin_neq_of (eqg_agg eg_26) rfl fun _ => eqi_26 (m := 9998) a0 b0 a1 b1 a2 b2 a3 b3
theorem eg_27 : Tryz.prog.eqGuardType Tryz.prog.depth 27 = false := by kernel_rfl
theorem eqi_27 {H : AH} {m : Nat} (a0 b0 : Int) (a1 b1 : Int) (a2 b2 : Int) (a3 b3 : Int) (a4 b4 : Int) : qrun Tryz.prog (Op.equalIn (m + 2) 27 (.agg #[.int .u8 a0, .int .u8 a1, .int .u8 a2, .int .u8 a3, .int .u8 a4]) (.agg #[.int .u8 b0, .int .u8 b1, .int .u8 b2, .int .u8 b3, .int .u8 b4])) H = some ((a0 == b0) && ((a1 == b1) && ((a2 == b2) && ((a3 == b3) && (a4 == b4))))) := by
  have h := eqIn_array (P := Tryz.prog) (H := H) (m := m + 1) (xs := #[.int .u8 a0, .int .u8 a1, .int .u8 a2, .int .u8 a3, .int .u8 a4]) (ys := #[.int .u8 b0, .int .u8 b1, .int .u8 b2, .int .u8 b3, .int .u8 b4]) (T := fun i => ([(a0 == b0), (a1 == b1), (a2 == b2), (a3 == b3), (a4 == b4)] : List Bool).getD i false) Tryz.underlying27 (info_sz sz_5 (by simp)) (fun i hi => by
    match i, hi with
    | 0, _ => exact ⟨(.int .u8 a0), (.int .u8 b0), part_scal ag_5 rfl, part_scal ag_5 rfl, eqIn_int Tryz.underlying5⟩
    | 1, _ => exact ⟨(.int .u8 a1), (.int .u8 b1), part_scal ag_5 rfl, part_scal ag_5 rfl, eqIn_int Tryz.underlying5⟩
    | 2, _ => exact ⟨(.int .u8 a2), (.int .u8 b2), part_scal ag_5 rfl, part_scal ag_5 rfl, eqIn_int Tryz.underlying5⟩
    | 3, _ => exact ⟨(.int .u8 a3), (.int .u8 b3), part_scal ag_5 rfl, part_scal ag_5 rfl, eqIn_int Tryz.underlying5⟩
    | 4, _ => exact ⟨(.int .u8 a4), (.int .u8 b4), part_scal ag_5 rfl, part_scal ag_5 rfl, eqIn_int Tryz.underlying5⟩
    | _ + 5, hi => omega)
  rw [h]; simp [List.range_succ, Bool.and_assoc]
@[go_sem] theorem eql_27 {H : AH} {u : Option TypeDesc} {x y : Operand} {kk : Value → Prop} {a0 b0 : Int} {a1 b1 : Int} {a2 b2 : Int} {a3 b3 : Int} {a4 b4 : Int} : bin u Tryz.prog H .eql 27 x y (.agg #[.int .u8 a0, .int .u8 a1, .int .u8 a2, .int .u8 a3, .int .u8 a4]) (.agg #[.int .u8 b0, .int .u8 b1, .int .u8 b2, .int .u8 b3, .int .u8 b4]) kk = (u = Tryz.prog.underlying 27 ∧ nv (.bool ((a0 == b0) && ((a1 == b1) && ((a2 == b2) && ((a3 == b3) && (a4 == b4)))))) kk) := bin_eql_of (eqg_agg eg_27) rfl fun _ => eqi_27 (m := 9998) a0 b0 a1 b1 a2 b2 a3 b3 a4 b4
@[go_sem] theorem neq_27 {H : AH} {u : Option TypeDesc} {x y : Operand} {kk : Value → Prop} {a0 b0 : Int} {a1 b1 : Int} {a2 b2 : Int} {a3 b3 : Int} {a4 b4 : Int} : bin u Tryz.prog H .neq 27 x y (.agg #[.int .u8 a0, .int .u8 a1, .int .u8 a2, .int .u8 a3, .int .u8 a4]) (.agg #[.int .u8 b0, .int .u8 b1, .int .u8 b2, .int .u8 b3, .int .u8 b4]) kk = (u = Tryz.prog.underlying 27 ∧ nv (.bool (!((a0 == b0) && ((a1 == b1) && ((a2 == b2) && ((a3 == b3) && (a4 == b4))))))) kk) := bin_neq_of (eqg_agg eg_27) rfl fun _ => eqi_27 (m := 9998) a0 b0 a1 b1 a2 b2 a3 b3 a4 b4
theorem eg_52 : Tryz.prog.eqGuardType Tryz.prog.depth 52 = false := by kernel_rfl
theorem eqi_52 {H : AH} {m : Nat} (a0 b0 : Int) (a1 b1 : Int) (a2 b2 : Int) (a3 b3 : Int) (a4 b4 : Int) (a5 b5 : Int) (a6 b6 : Int) (a7 b7 : Int) (a8 b8 : Int) (a9 b9 : Int) (a10 b10 : Int) (a11 b11 : Int) (a12 b12 : Int) (a13 b13 : Int) : qrun Tryz.prog (Op.equalIn (m + 2) 52 (.agg #[.int .u8 a0, .int .u8 a1, .int .u8 a2, .int .u8 a3, .int .u8 a4, .int .u8 a5, .int .u8 a6, .int .u8 a7, .int .u8 a8, .int .u8 a9, .int .u8 a10, .int .u8 a11, .int .u8 a12, .int .u8 a13]) (.agg #[.int .u8 b0, .int .u8 b1, .int .u8 b2, .int .u8 b3, .int .u8 b4, .int .u8 b5, .int .u8 b6, .int .u8 b7, .int .u8 b8, .int .u8 b9, .int .u8 b10, .int .u8 b11, .int .u8 b12, .int .u8 b13])) H = some ((a0 == b0) && ((a1 == b1) && ((a2 == b2) && ((a3 == b3) && ((a4 == b4) && ((a5 == b5) && ((a6 == b6) && ((a7 == b7) && ((a8 == b8) && ((a9 == b9) && ((a10 == b10) && ((a11 == b11) && ((a12 == b12) && (a13 == b13)))))))))))))) := by
  have h := eqIn_array (P := Tryz.prog) (H := H) (m := m + 1) (xs := #[.int .u8 a0, .int .u8 a1, .int .u8 a2, .int .u8 a3, .int .u8 a4, .int .u8 a5, .int .u8 a6, .int .u8 a7, .int .u8 a8, .int .u8 a9, .int .u8 a10, .int .u8 a11, .int .u8 a12, .int .u8 a13]) (ys := #[.int .u8 b0, .int .u8 b1, .int .u8 b2, .int .u8 b3, .int .u8 b4, .int .u8 b5, .int .u8 b6, .int .u8 b7, .int .u8 b8, .int .u8 b9, .int .u8 b10, .int .u8 b11, .int .u8 b12, .int .u8 b13]) (T := fun i => ([(a0 == b0), (a1 == b1), (a2 == b2), (a3 == b3), (a4 == b4), (a5 == b5), (a6 == b6), (a7 == b7), (a8 == b8), (a9 == b9), (a10 == b10), (a11 == b11), (a12 == b12), (a13 == b13)] : List Bool).getD i false) Tryz.underlying52 (info_sz sz_5 (by simp)) (fun i hi => by
    match i, hi with
    | 0, _ => exact ⟨(.int .u8 a0), (.int .u8 b0), part_scal ag_5 rfl, part_scal ag_5 rfl, eqIn_int Tryz.underlying5⟩
    | 1, _ => exact ⟨(.int .u8 a1), (.int .u8 b1), part_scal ag_5 rfl, part_scal ag_5 rfl, eqIn_int Tryz.underlying5⟩
    | 2, _ => exact ⟨(.int .u8 a2), (.int .u8 b2), part_scal ag_5 rfl, part_scal ag_5 rfl, eqIn_int Tryz.underlying5⟩
    | 3, _ => exact ⟨(.int .u8 a3), (.int .u8 b3), part_scal ag_5 rfl, part_scal ag_5 rfl, eqIn_int Tryz.underlying5⟩
    | 4, _ => exact ⟨(.int .u8 a4), (.int .u8 b4), part_scal ag_5 rfl, part_scal ag_5 rfl, eqIn_int Tryz.underlying5⟩
    | 5, _ => exact ⟨(.int .u8 a5), (.int .u8 b5), part_scal ag_5 rfl, part_scal ag_5 rfl, eqIn_int Tryz.underlying5⟩
    | 6, _ => exact ⟨(.int .u8 a6), (.int .u8 b6), part_scal ag_5 rfl, part_scal ag_5 rfl, eqIn_int Tryz.underlying5⟩
    | 7, _ => exact ⟨(.int .u8 a7), (.int .u8 b7), part_scal ag_5 rfl, part_scal ag_5 rfl, eqIn_int Tryz.underlying5⟩
    | 8, _ => exact ⟨(.int .u8 a8), (.int .u8 b8), part_scal ag_5 rfl, part_scal ag_5 rfl, eqIn_int Tryz.underlying5⟩
    | 9, _ => exact ⟨(.int .u8 a9), (.int .u8 b9), part_scal ag_5 rfl, part_scal ag_5 rfl, eqIn_int Tryz.underlying5⟩
    | 10, _ => exact ⟨(.int .u8 a10), (.int .u8 b10), part_scal ag_5 rfl, part_scal ag_5 rfl, eqIn_int Tryz.underlying5⟩
    | 11, _ => exact ⟨(.int .u8 a11), (.int .u8 b11), part_scal ag_5 rfl, part_scal ag_5 rfl, eqIn_int Tryz.underlying5⟩
    | 12, _ => exact ⟨(.int .u8 a12), (.int .u8 b12), part_scal ag_5 rfl, part_scal ag_5 rfl, eqIn_int Tryz.underlying5⟩
    | 13, _ => exact ⟨(.int .u8 a13), (.int .u8 b13), part_scal ag_5 rfl, part_scal ag_5 rfl, eqIn_int Tryz.underlying5⟩
    | _ + 14, hi => omega)
  rw [h]; simp [List.range_succ, Bool.and_assoc]
@[go_sem] theorem eql_52 {H : AH} {u : Option TypeDesc} {x y : Operand} {kk : Value → Prop} {a0 b0 : Int} {a1 b1 : Int} {a2 b2 : Int} {a3 b3 : Int} {a4 b4 : Int} {a5 b5 : Int} {a6 b6 : Int} {a7 b7 : Int} {a8 b8 : Int} {a9 b9 : Int} {a10 b10 : Int} {a11 b11 : Int} {a12 b12 : Int} {a13 b13 : Int} : bin u Tryz.prog H .eql 52 x y (.agg #[.int .u8 a0, .int .u8 a1, .int .u8 a2, .int .u8 a3, .int .u8 a4, .int .u8 a5, .int .u8 a6, .int .u8 a7, .int .u8 a8, .int .u8 a9, .int .u8 a10, .int .u8 a11, .int .u8 a12, .int .u8 a13]) (.agg #[.int .u8 b0, .int .u8 b1, .int .u8 b2, .int .u8 b3, .int .u8 b4, .int .u8 b5, .int .u8 b6, .int .u8 b7, .int .u8 b8, .int .u8 b9, .int .u8 b10, .int .u8 b11, .int .u8 b12, .int .u8 b13]) kk = (u = Tryz.prog.underlying 52 ∧ nv (.bool ((a0 == b0) && ((a1 == b1) && ((a2 == b2) && ((a3 == b3) && ((a4 == b4) && ((a5 == b5) && ((a6 == b6) && ((a7 == b7) && ((a8 == b8) && ((a9 == b9) && ((a10 == b10) && ((a11 == b11) && ((a12 == b12) && (a13 == b13))))))))))))))) kk) := bin_eql_of (eqg_agg eg_52) rfl fun _ => eqi_52 (m := 9998) a0 b0 a1 b1 a2 b2 a3 b3 a4 b4 a5 b5 a6 b6 a7 b7 a8 b8 a9 b9 a10 b10 a11 b11 a12 b12 a13 b13
@[go_sem] theorem neq_52 {H : AH} {u : Option TypeDesc} {x y : Operand} {kk : Value → Prop} {a0 b0 : Int} {a1 b1 : Int} {a2 b2 : Int} {a3 b3 : Int} {a4 b4 : Int} {a5 b5 : Int} {a6 b6 : Int} {a7 b7 : Int} {a8 b8 : Int} {a9 b9 : Int} {a10 b10 : Int} {a11 b11 : Int} {a12 b12 : Int} {a13 b13 : Int} : bin u Tryz.prog H .neq 52 x y (.agg #[.int .u8 a0, .int .u8 a1, .int .u8 a2, .int .u8 a3, .int .u8 a4, .int .u8 a5, .int .u8 a6, .int .u8 a7, .int .u8 a8, .int .u8 a9, .int .u8 a10, .int .u8 a11, .int .u8 a12, .int .u8 a13]) (.agg #[.int .u8 b0, .int .u8 b1, .int .u8 b2, .int .u8 b3, .int .u8 b4, .int .u8 b5, .int .u8 b6, .int .u8 b7, .int .u8 b8, .int .u8 b9, .int .u8 b10, .int .u8 b11, .int .u8 b12, .int .u8 b13]) kk = (u = Tryz.prog.underlying 52 ∧ nv (.bool (!((a0 == b0) && ((a1 == b1) && ((a2 == b2) && ((a3 == b3) && ((a4 == b4) && ((a5 == b5) && ((a6 == b6) && ((a7 == b7) && ((a8 == b8) && ((a9 == b9) && ((a10 == b10) && ((a11 == b11) && ((a12 == b12) && (a13 == b13)))))))))))))))) kk) := bin_neq_of (eqg_agg eg_52) rfl fun _ => eqi_52 (m := 9998) a0 b0 a1 b1 a2 b2 a3 b3 a4 b4 a5 b5 a6 b6 a7 b7 a8 b8 a9 b9 a10 b10 a11 b11 a12 b12 a13 b13
theorem eg_67 : Tryz.prog.eqGuardType Tryz.prog.depth 67 = false := by kernel_rfl
theorem st_67 : Tryz.prog.stoodInHeld 67 = false := by kernel_rfl
theorem eqi_67 {H : AH} {m : Nat} (a0 b0 : Int) (a1 b1 : Int) : qrun Tryz.prog (Op.equalIn (m + 2) 67 (.agg #[.int .i64 a0, .int .i64 a1]) (.agg #[.int .i64 b0, .int .i64 b1])) H = some ((a0 == b0) && (a1 == b1)) := by
  have h := eqIn_struct (P := Tryz.prog) (H := H) (m := m + 1) (xs := #[.int .i64 a0, .int .i64 a1]) (ys := #[.int .i64 b0, .int .i64 b1]) (T := fun f => if f.offset = 0 then (a0 == b0) else if f.offset = 1 then (a1 == b1) else true) Tryz.underlying67 st_67 (by
    simp only [List.mem_cons, List.not_mem_nil, or_false]
    rintro f (rfl | rfl)
    · exact ⟨by decide, (.int .i64 a0), (.int .i64 b0), part_scal ag_3 rfl, part_scal ag_3 rfl, eqIn_int Tryz.underlying3⟩
    · exact ⟨by decide, (.int .i64 a1), (.int .i64 b1), part_scal ag_3 rfl, part_scal ag_3 rfl, eqIn_int Tryz.underlying3⟩)
  rw [h]; simp [Bool.and_assoc]
@[go_sem] theorem eql_67 {H : AH} {u : Option TypeDesc} {x y : Operand} {kk : Value → Prop} {a0 b0 : Int} {a1 b1 : Int} : bin u Tryz.prog H .eql 67 x y (.agg #[.int .i64 a0, .int .i64 a1]) (.agg #[.int .i64 b0, .int .i64 b1]) kk = (u = Tryz.prog.underlying 67 ∧ nv (.bool ((a0 == b0) && (a1 == b1))) kk) := bin_eql_of (eqg_agg eg_67) rfl fun _ => eqi_67 (m := 9998) a0 b0 a1 b1
@[go_sem] theorem neq_67 {H : AH} {u : Option TypeDesc} {x y : Operand} {kk : Value → Prop} {a0 b0 : Int} {a1 b1 : Int} : bin u Tryz.prog H .neq 67 x y (.agg #[.int .i64 a0, .int .i64 a1]) (.agg #[.int .i64 b0, .int .i64 b1]) kk = (u = Tryz.prog.underlying 67 ∧ nv (.bool (!((a0 == b0) && (a1 == b1)))) kk) := bin_neq_of (eqg_agg eg_67) rfl fun _ => eqi_67 (m := 9998) a0 b0 a1 b1
theorem eg_68 : Tryz.prog.eqGuardType Tryz.prog.depth 68 = false := by kernel_rfl
theorem st_68 : Tryz.prog.stoodInHeld 68 = false := by kernel_rfl
theorem eqi_68 {H : AH} {m : Nat} (a0 b0 : Int) (a1 b1 : Int) : qrun Tryz.prog (Op.equalIn (m + 2) 68 (.agg #[.int .i64 a0, .int .i64 a1]) (.agg #[.int .i64 b0, .int .i64 b1])) H = some ((a0 == b0) && (a1 == b1)) := by
  have h := eqIn_struct (P := Tryz.prog) (H := H) (m := m + 1) (xs := #[.int .i64 a0, .int .i64 a1]) (ys := #[.int .i64 b0, .int .i64 b1]) (T := fun f => if f.offset = 0 then (a0 == b0) else if f.offset = 1 then (a1 == b1) else true) Tryz.underlying68 st_68 (by
    simp only [List.mem_cons, List.not_mem_nil, or_false]
    rintro f (rfl | rfl)
    · exact ⟨by decide, (.int .i64 a0), (.int .i64 b0), part_scal ag_3 rfl, part_scal ag_3 rfl, eqIn_int Tryz.underlying3⟩
    · exact ⟨by decide, (.int .i64 a1), (.int .i64 b1), part_scal ag_3 rfl, part_scal ag_3 rfl, eqIn_int Tryz.underlying3⟩)
  rw [h]; simp [Bool.and_assoc]
@[go_sem] theorem eql_68 {H : AH} {u : Option TypeDesc} {x y : Operand} {kk : Value → Prop} {a0 b0 : Int} {a1 b1 : Int} : bin u Tryz.prog H .eql 68 x y (.agg #[.int .i64 a0, .int .i64 a1]) (.agg #[.int .i64 b0, .int .i64 b1]) kk = (u = Tryz.prog.underlying 68 ∧ nv (.bool ((a0 == b0) && (a1 == b1))) kk) := bin_eql_of (eqg_agg eg_68) rfl fun _ => eqi_68 (m := 9998) a0 b0 a1 b1
@[go_sem] theorem neq_68 {H : AH} {u : Option TypeDesc} {x y : Operand} {kk : Value → Prop} {a0 b0 : Int} {a1 b1 : Int} : bin u Tryz.prog H .neq 68 x y (.agg #[.int .i64 a0, .int .i64 a1]) (.agg #[.int .i64 b0, .int .i64 b1]) kk = (u = Tryz.prog.underlying 68 ∧ nv (.bool (!((a0 == b0) && (a1 == b1)))) kk) := bin_neq_of (eqg_agg eg_68) rfl fun _ => eqi_68 (m := 9998) a0 b0 a1 b1
theorem eg_78 : Tryz.prog.eqGuardType Tryz.prog.depth 78 = false := by kernel_rfl
theorem st_78 : Tryz.prog.stoodInHeld 78 = false := by kernel_rfl
theorem eqi_78 {H : AH} {m : Nat} (a0 b0 : Int) (a1 b1 : Int) (a2 b2 : Int) (a3 b3 : Int) (a4 b4 : Int) : qrun Tryz.prog (Op.equalIn (m + 2) 78 (.agg #[.int .i64 a0, .int .i64 a1, .int .i64 a2, .int .i64 a3, .int .i64 a4]) (.agg #[.int .i64 b0, .int .i64 b1, .int .i64 b2, .int .i64 b3, .int .i64 b4])) H = some ((a0 == b0) && ((a1 == b1) && ((a2 == b2) && ((a3 == b3) && (a4 == b4))))) := by
  have h := eqIn_struct (P := Tryz.prog) (H := H) (m := m + 1) (xs := #[.int .i64 a0, .int .i64 a1, .int .i64 a2, .int .i64 a3, .int .i64 a4]) (ys := #[.int .i64 b0, .int .i64 b1, .int .i64 b2, .int .i64 b3, .int .i64 b4]) (T := fun f => if f.offset = 0 then (a0 == b0) else if f.offset = 1 then (a1 == b1) else if f.offset = 2 then (a2 == b2) else if f.offset = 3 then (a3 == b3) else if f.offset = 4 then (a4 == b4) else true) Tryz.underlying78 st_78 (by
    simp only [List.mem_cons, List.not_mem_nil, or_false]
    rintro f (rfl | rfl | rfl | rfl | rfl)
    · exact ⟨by decide, (.int .i64 a0), (.int .i64 b0), part_scal ag_3 rfl, part_scal ag_3 rfl, eqIn_int Tryz.underlying3⟩
    · exact ⟨by decide, (.int .i64 a1), (.int .i64 b1), part_scal ag_3 rfl, part_scal ag_3 rfl, eqIn_int Tryz.underlying3⟩
    · exact ⟨by decide, (.int .i64 a2), (.int .i64 b2), part_scal ag_3 rfl, part_scal ag_3 rfl, eqIn_int Tryz.underlying3⟩
    · exact ⟨by decide, (.int .i64 a3), (.int .i64 b3), part_scal ag_3 rfl, part_scal ag_3 rfl, eqIn_int Tryz.underlying3⟩
    · exact ⟨by decide, (.int .i64 a4), (.int .i64 b4), part_scal ag_3 rfl, part_scal ag_3 rfl, eqIn_int Tryz.underlying3⟩)
  rw [h]; simp [Bool.and_assoc]
@[go_sem] theorem eql_78 {H : AH} {u : Option TypeDesc} {x y : Operand} {kk : Value → Prop} {a0 b0 : Int} {a1 b1 : Int} {a2 b2 : Int} {a3 b3 : Int} {a4 b4 : Int} : bin u Tryz.prog H .eql 78 x y (.agg #[.int .i64 a0, .int .i64 a1, .int .i64 a2, .int .i64 a3, .int .i64 a4]) (.agg #[.int .i64 b0, .int .i64 b1, .int .i64 b2, .int .i64 b3, .int .i64 b4]) kk = (u = Tryz.prog.underlying 78 ∧ nv (.bool ((a0 == b0) && ((a1 == b1) && ((a2 == b2) && ((a3 == b3) && (a4 == b4)))))) kk) := bin_eql_of (eqg_agg eg_78) rfl fun _ => eqi_78 (m := 9998) a0 b0 a1 b1 a2 b2 a3 b3 a4 b4
@[go_sem] theorem neq_78 {H : AH} {u : Option TypeDesc} {x y : Operand} {kk : Value → Prop} {a0 b0 : Int} {a1 b1 : Int} {a2 b2 : Int} {a3 b3 : Int} {a4 b4 : Int} : bin u Tryz.prog H .neq 78 x y (.agg #[.int .i64 a0, .int .i64 a1, .int .i64 a2, .int .i64 a3, .int .i64 a4]) (.agg #[.int .i64 b0, .int .i64 b1, .int .i64 b2, .int .i64 b3, .int .i64 b4]) kk = (u = Tryz.prog.underlying 78 ∧ nv (.bool (!((a0 == b0) && ((a1 == b1) && ((a2 == b2) && ((a3 == b3) && (a4 == b4))))))) kk) := bin_neq_of (eqg_agg eg_78) rfl fun _ => eqi_78 (m := 9998) a0 b0 a1 b1 a2 b2 a3 b3 a4 b4
theorem eg_79 : Tryz.prog.eqGuardType Tryz.prog.depth 79 = false := by kernel_rfl
theorem st_79 : Tryz.prog.stoodInHeld 79 = false := by kernel_rfl
theorem eqi_79 {H : AH} {m : Nat} (a0 b0 : Int) (a1 b1 : Int) (a2 b2 : Int) (a3 b3 : Int) (a4 b4 : Int) : qrun Tryz.prog (Op.equalIn (m + 2) 79 (.agg #[.int .i64 a0, .int .i64 a1, .int .i64 a2, .int .i64 a3, .int .i64 a4]) (.agg #[.int .i64 b0, .int .i64 b1, .int .i64 b2, .int .i64 b3, .int .i64 b4])) H = some ((a0 == b0) && ((a1 == b1) && ((a2 == b2) && ((a3 == b3) && (a4 == b4))))) := by
  have h := eqIn_struct (P := Tryz.prog) (H := H) (m := m + 1) (xs := #[.int .i64 a0, .int .i64 a1, .int .i64 a2, .int .i64 a3, .int .i64 a4]) (ys := #[.int .i64 b0, .int .i64 b1, .int .i64 b2, .int .i64 b3, .int .i64 b4]) (T := fun f => if f.offset = 0 then (a0 == b0) else if f.offset = 1 then (a1 == b1) else if f.offset = 2 then (a2 == b2) else if f.offset = 3 then (a3 == b3) else if f.offset = 4 then (a4 == b4) else true) Tryz.underlying79 st_79 (by
    simp only [List.mem_cons, List.not_mem_nil, or_false]
    rintro f (rfl | rfl | rfl | rfl | rfl)
    · exact ⟨by decide, (.int .i64 a0), (.int .i64 b0), part_scal ag_3 rfl, part_scal ag_3 rfl, eqIn_int Tryz.underlying3⟩
    · exact ⟨by decide, (.int .i64 a1), (.int .i64 b1), part_scal ag_3 rfl, part_scal ag_3 rfl, eqIn_int Tryz.underlying3⟩
    · exact ⟨by decide, (.int .i64 a2), (.int .i64 b2), part_scal ag_3 rfl, part_scal ag_3 rfl, eqIn_int Tryz.underlying3⟩
    · exact ⟨by decide, (.int .i64 a3), (.int .i64 b3), part_scal ag_3 rfl, part_scal ag_3 rfl, eqIn_int Tryz.underlying3⟩
    · exact ⟨by decide, (.int .i64 a4), (.int .i64 b4), part_scal ag_3 rfl, part_scal ag_3 rfl, eqIn_int Tryz.underlying3⟩)
  rw [h]; simp [Bool.and_assoc]
@[go_sem] theorem eql_79 {H : AH} {u : Option TypeDesc} {x y : Operand} {kk : Value → Prop} {a0 b0 : Int} {a1 b1 : Int} {a2 b2 : Int} {a3 b3 : Int} {a4 b4 : Int} : bin u Tryz.prog H .eql 79 x y (.agg #[.int .i64 a0, .int .i64 a1, .int .i64 a2, .int .i64 a3, .int .i64 a4]) (.agg #[.int .i64 b0, .int .i64 b1, .int .i64 b2, .int .i64 b3, .int .i64 b4]) kk = (u = Tryz.prog.underlying 79 ∧ nv (.bool ((a0 == b0) && ((a1 == b1) && ((a2 == b2) && ((a3 == b3) && (a4 == b4)))))) kk) := bin_eql_of (eqg_agg eg_79) rfl fun _ => eqi_79 (m := 9998) a0 b0 a1 b1 a2 b2 a3 b3 a4 b4
@[go_sem] theorem neq_79 {H : AH} {u : Option TypeDesc} {x y : Operand} {kk : Value → Prop} {a0 b0 : Int} {a1 b1 : Int} {a2 b2 : Int} {a3 b3 : Int} {a4 b4 : Int} : bin u Tryz.prog H .neq 79 x y (.agg #[.int .i64 a0, .int .i64 a1, .int .i64 a2, .int .i64 a3, .int .i64 a4]) (.agg #[.int .i64 b0, .int .i64 b1, .int .i64 b2, .int .i64 b3, .int .i64 b4]) kk = (u = Tryz.prog.underlying 79 ∧ nv (.bool (!((a0 == b0) && ((a1 == b1) && ((a2 == b2) && ((a3 == b3) && (a4 == b4))))))) kk) := bin_neq_of (eqg_agg eg_79) rfl fun _ => eqi_79 (m := 9998) a0 b0 a1 b1 a2 b2 a3 b3 a4 b4
theorem eg_86 : Tryz.prog.eqGuardType Tryz.prog.depth 86 = false := by kernel_rfl
theorem eqi_86 {H : AH} {m : Nat} (a0 b0 : Bool) (a1 b1 : Bool) (a2 b2 : Bool) (a3 b3 : Bool) (a4 b4 : Bool) (a5 b5 : Bool) (a6 b6 : Bool) (a7 b7 : Bool) (a8 b8 : Bool) (a9 b9 : Bool) (a10 b10 : Bool) : qrun Tryz.prog (Op.equalIn (m + 2) 86 (.agg #[.bool a0, .bool a1, .bool a2, .bool a3, .bool a4, .bool a5, .bool a6, .bool a7, .bool a8, .bool a9, .bool a10]) (.agg #[.bool b0, .bool b1, .bool b2, .bool b3, .bool b4, .bool b5, .bool b6, .bool b7, .bool b8, .bool b9, .bool b10])) H = some ((a0 == b0) && ((a1 == b1) && ((a2 == b2) && ((a3 == b3) && ((a4 == b4) && ((a5 == b5) && ((a6 == b6) && ((a7 == b7) && ((a8 == b8) && ((a9 == b9) && (a10 == b10))))))))))) := by
  have h := eqIn_array (P := Tryz.prog) (H := H) (m := m + 1) (xs := #[.bool a0, .bool a1, .bool a2, .bool a3, .bool a4, .bool a5, .bool a6, .bool a7, .bool a8, .bool a9, .bool a10]) (ys := #[.bool b0, .bool b1, .bool b2, .bool b3, .bool b4, .bool b5, .bool b6, .bool b7, .bool b8, .bool b9, .bool b10]) (T := fun i => ([(a0 == b0), (a1 == b1), (a2 == b2), (a3 == b3), (a4 == b4), (a5 == b5), (a6 == b6), (a7 == b7), (a8 == b8), (a9 == b9), (a10 == b10)] : List Bool).getD i false) Tryz.underlying86 (info_sz sz_4 (by simp)) (fun i hi => by
    match i, hi with
    | 0, _ => exact ⟨(.bool a0), (.bool b0), part_scal ag_4 rfl, part_scal ag_4 rfl, eqIn_bool Tryz.underlying4⟩
    | 1, _ => exact ⟨(.bool a1), (.bool b1), part_scal ag_4 rfl, part_scal ag_4 rfl, eqIn_bool Tryz.underlying4⟩
    | 2, _ => exact ⟨(.bool a2), (.bool b2), part_scal ag_4 rfl, part_scal ag_4 rfl, eqIn_bool Tryz.underlying4⟩
    | 3, _ => exact ⟨(.bool a3), (.bool b3), part_scal ag_4 rfl, part_scal ag_4 rfl, eqIn_bool Tryz.underlying4⟩
    | 4, _ => exact ⟨(.bool a4), (.bool b4), part_scal ag_4 rfl, part_scal ag_4 rfl, eqIn_bool Tryz.underlying4⟩
    | 5, _ => exact ⟨(.bool a5), (.bool b5), part_scal ag_4 rfl, part_scal ag_4 rfl, eqIn_bool Tryz.underlying4⟩
    | 6, _ => exact ⟨(.bool a6), (.bool b6), part_scal ag_4 rfl, part_scal ag_4 rfl, eqIn_bool Tryz.underlying4⟩
    | 7, _ => exact ⟨(.bool a7), (.bool b7), part_scal ag_4 rfl, part_scal ag_4 rfl, eqIn_bool Tryz.underlying4⟩
    | 8, _ => exact ⟨(.bool a8), (.bool b8), part_scal ag_4 rfl, part_scal ag_4 rfl, eqIn_bool Tryz.underlying4⟩
    | 9, _ => exact ⟨(.bool a9), (.bool b9), part_scal ag_4 rfl, part_scal ag_4 rfl, eqIn_bool Tryz.underlying4⟩
    | 10, _ => exact ⟨(.bool a10), (.bool b10), part_scal ag_4 rfl, part_scal ag_4 rfl, eqIn_bool Tryz.underlying4⟩
    | _ + 11, hi => omega)
  rw [h]; simp [List.range_succ, Bool.and_assoc]
@[go_sem] theorem eql_86 {H : AH} {u : Option TypeDesc} {x y : Operand} {kk : Value → Prop} {a0 b0 : Bool} {a1 b1 : Bool} {a2 b2 : Bool} {a3 b3 : Bool} {a4 b4 : Bool} {a5 b5 : Bool} {a6 b6 : Bool} {a7 b7 : Bool} {a8 b8 : Bool} {a9 b9 : Bool} {a10 b10 : Bool} : bin u Tryz.prog H .eql 86 x y (.agg #[.bool a0, .bool a1, .bool a2, .bool a3, .bool a4, .bool a5, .bool a6, .bool a7, .bool a8, .bool a9, .bool a10]) (.agg #[.bool b0, .bool b1, .bool b2, .bool b3, .bool b4, .bool b5, .bool b6, .bool b7, .bool b8, .bool b9, .bool b10]) kk = (u = Tryz.prog.underlying 86 ∧ nv (.bool ((a0 == b0) && ((a1 == b1) && ((a2 == b2) && ((a3 == b3) && ((a4 == b4) && ((a5 == b5) && ((a6 == b6) && ((a7 == b7) && ((a8 == b8) && ((a9 == b9) && (a10 == b10)))))))))))) kk) := bin_eql_of (eqg_agg eg_86) rfl fun _ => eqi_86 (m := 9998) a0 b0 a1 b1 a2 b2 a3 b3 a4 b4 a5 b5 a6 b6 a7 b7 a8 b8 a9 b9 a10 b10
@[go_sem] theorem neq_86 {H : AH} {u : Option TypeDesc} {x y : Operand} {kk : Value → Prop} {a0 b0 : Bool} {a1 b1 : Bool} {a2 b2 : Bool} {a3 b3 : Bool} {a4 b4 : Bool} {a5 b5 : Bool} {a6 b6 : Bool} {a7 b7 : Bool} {a8 b8 : Bool} {a9 b9 : Bool} {a10 b10 : Bool} : bin u Tryz.prog H .neq 86 x y (.agg #[.bool a0, .bool a1, .bool a2, .bool a3, .bool a4, .bool a5, .bool a6, .bool a7, .bool a8, .bool a9, .bool a10]) (.agg #[.bool b0, .bool b1, .bool b2, .bool b3, .bool b4, .bool b5, .bool b6, .bool b7, .bool b8, .bool b9, .bool b10]) kk = (u = Tryz.prog.underlying 86 ∧ nv (.bool (!((a0 == b0) && ((a1 == b1) && ((a2 == b2) && ((a3 == b3) && ((a4 == b4) && ((a5 == b5) && ((a6 == b6) && ((a7 == b7) && ((a8 == b8) && ((a9 == b9) && (a10 == b10))))))))))))) kk) := bin_neq_of (eqg_agg eg_86) rfl fun _ => eqi_86 (m := 9998) a0 b0 a1 b1 a2 b2 a3 b3 a4 b4 a5 b5 a6 b6 a7 b7 a8 b8 a9 b9 a10 b10
theorem eg_87 : Tryz.prog.eqGuardType Tryz.prog.depth 87 = false := by kernel_rfl
theorem eqi_87 {H : AH} {m : Nat} (a0 b0 : Bool) (a1 b1 : Bool) (a2 b2 : Bool) (a3 b3 : Bool) (a4 b4 : Bool) (a5 b5 : Bool) (a6 b6 : Bool) (a7 b7 : Bool) (a8 b8 : Bool) (a9 b9 : Bool) (a10 b10 : Bool) : qrun Tryz.prog (Op.equalIn (m + 2) 87 (.agg #[.bool a0, .bool a1, .bool a2, .bool a3, .bool a4, .bool a5, .bool a6, .bool a7, .bool a8, .bool a9, .bool a10]) (.agg #[.bool b0, .bool b1, .bool b2, .bool b3, .bool b4, .bool b5, .bool b6, .bool b7, .bool b8, .bool b9, .bool b10])) H = some ((a0 == b0) && ((a1 == b1) && ((a2 == b2) && ((a3 == b3) && ((a4 == b4) && ((a5 == b5) && ((a6 == b6) && ((a7 == b7) && ((a8 == b8) && ((a9 == b9) && (a10 == b10))))))))))) := by
  have h := eqIn_array (P := Tryz.prog) (H := H) (m := m + 1) (xs := #[.bool a0, .bool a1, .bool a2, .bool a3, .bool a4, .bool a5, .bool a6, .bool a7, .bool a8, .bool a9, .bool a10]) (ys := #[.bool b0, .bool b1, .bool b2, .bool b3, .bool b4, .bool b5, .bool b6, .bool b7, .bool b8, .bool b9, .bool b10]) (T := fun i => ([(a0 == b0), (a1 == b1), (a2 == b2), (a3 == b3), (a4 == b4), (a5 == b5), (a6 == b6), (a7 == b7), (a8 == b8), (a9 == b9), (a10 == b10)] : List Bool).getD i false) Tryz.underlying87 (info_sz sz_4 (by simp)) (fun i hi => by
    match i, hi with
    | 0, _ => exact ⟨(.bool a0), (.bool b0), part_scal ag_4 rfl, part_scal ag_4 rfl, eqIn_bool Tryz.underlying4⟩
    | 1, _ => exact ⟨(.bool a1), (.bool b1), part_scal ag_4 rfl, part_scal ag_4 rfl, eqIn_bool Tryz.underlying4⟩
    | 2, _ => exact ⟨(.bool a2), (.bool b2), part_scal ag_4 rfl, part_scal ag_4 rfl, eqIn_bool Tryz.underlying4⟩
    | 3, _ => exact ⟨(.bool a3), (.bool b3), part_scal ag_4 rfl, part_scal ag_4 rfl, eqIn_bool Tryz.underlying4⟩
    | 4, _ => exact ⟨(.bool a4), (.bool b4), part_scal ag_4 rfl, part_scal ag_4 rfl, eqIn_bool Tryz.underlying4⟩
    | 5, _ => exact ⟨(.bool a5), (.bool b5), part_scal ag_4 rfl, part_scal ag_4 rfl, eqIn_bool Tryz.underlying4⟩
    | 6, _ => exact ⟨(.bool a6), (.bool b6), part_scal ag_4 rfl, part_scal ag_4 rfl, eqIn_bool Tryz.underlying4⟩
    | 7, _ => exact ⟨(.bool a7), (.bool b7), part_scal ag_4 rfl, part_scal ag_4 rfl, eqIn_bool Tryz.underlying4⟩
    | 8, _ => exact ⟨(.bool a8), (.bool b8), part_scal ag_4 rfl, part_scal ag_4 rfl, eqIn_bool Tryz.underlying4⟩
    | 9, _ => exact ⟨(.bool a9), (.bool b9), part_scal ag_4 rfl, part_scal ag_4 rfl, eqIn_bool Tryz.underlying4⟩
    | 10, _ => exact ⟨(.bool a10), (.bool b10), part_scal ag_4 rfl, part_scal ag_4 rfl, eqIn_bool Tryz.underlying4⟩
    | _ + 11, hi => omega)
  rw [h]; simp [List.range_succ, Bool.and_assoc]
@[go_sem] theorem eql_87 {H : AH} {u : Option TypeDesc} {x y : Operand} {kk : Value → Prop} {a0 b0 : Bool} {a1 b1 : Bool} {a2 b2 : Bool} {a3 b3 : Bool} {a4 b4 : Bool} {a5 b5 : Bool} {a6 b6 : Bool} {a7 b7 : Bool} {a8 b8 : Bool} {a9 b9 : Bool} {a10 b10 : Bool} : bin u Tryz.prog H .eql 87 x y (.agg #[.bool a0, .bool a1, .bool a2, .bool a3, .bool a4, .bool a5, .bool a6, .bool a7, .bool a8, .bool a9, .bool a10]) (.agg #[.bool b0, .bool b1, .bool b2, .bool b3, .bool b4, .bool b5, .bool b6, .bool b7, .bool b8, .bool b9, .bool b10]) kk = (u = Tryz.prog.underlying 87 ∧ nv (.bool ((a0 == b0) && ((a1 == b1) && ((a2 == b2) && ((a3 == b3) && ((a4 == b4) && ((a5 == b5) && ((a6 == b6) && ((a7 == b7) && ((a8 == b8) && ((a9 == b9) && (a10 == b10)))))))))))) kk) := bin_eql_of (eqg_agg eg_87) rfl fun _ => eqi_87 (m := 9998) a0 b0 a1 b1 a2 b2 a3 b3 a4 b4 a5 b5 a6 b6 a7 b7 a8 b8 a9 b9 a10 b10
@[go_sem] theorem neq_87 {H : AH} {u : Option TypeDesc} {x y : Operand} {kk : Value → Prop} {a0 b0 : Bool} {a1 b1 : Bool} {a2 b2 : Bool} {a3 b3 : Bool} {a4 b4 : Bool} {a5 b5 : Bool} {a6 b6 : Bool} {a7 b7 : Bool} {a8 b8 : Bool} {a9 b9 : Bool} {a10 b10 : Bool} : bin u Tryz.prog H .neq 87 x y (.agg #[.bool a0, .bool a1, .bool a2, .bool a3, .bool a4, .bool a5, .bool a6, .bool a7, .bool a8, .bool a9, .bool a10]) (.agg #[.bool b0, .bool b1, .bool b2, .bool b3, .bool b4, .bool b5, .bool b6, .bool b7, .bool b8, .bool b9, .bool b10]) kk = (u = Tryz.prog.underlying 87 ∧ nv (.bool (!((a0 == b0) && ((a1 == b1) && ((a2 == b2) && ((a3 == b3) && ((a4 == b4) && ((a5 == b5) && ((a6 == b6) && ((a7 == b7) && ((a8 == b8) && ((a9 == b9) && (a10 == b10))))))))))))) kk) := bin_neq_of (eqg_agg eg_87) rfl fun _ => eqi_87 (m := 9998) a0 b0 a1 b1 a2 b2 a3 b3 a4 b4 a5 b5 a6 b6 a7 b7 a8 b8 a9 b9 a10 b10
theorem eg_101 : Tryz.prog.eqGuardType Tryz.prog.depth 101 = false := by kernel_rfl
theorem eqi_101 {H : AH} {m : Nat} (a0 b0 : Int) (a1 b1 : Int) : qrun Tryz.prog (Op.equalIn (m + 2) 101 (.agg #[.int .u8 a0, .int .u8 a1]) (.agg #[.int .u8 b0, .int .u8 b1])) H = some ((a0 == b0) && (a1 == b1)) := by
  have h := eqIn_array (P := Tryz.prog) (H := H) (m := m + 1) (xs := #[.int .u8 a0, .int .u8 a1]) (ys := #[.int .u8 b0, .int .u8 b1]) (T := fun i => ([(a0 == b0), (a1 == b1)] : List Bool).getD i false) Tryz.underlying101 (info_sz sz_5 (by simp)) (fun i hi => by
    match i, hi with
    | 0, _ => exact ⟨(.int .u8 a0), (.int .u8 b0), part_scal ag_5 rfl, part_scal ag_5 rfl, eqIn_int Tryz.underlying5⟩
    | 1, _ => exact ⟨(.int .u8 a1), (.int .u8 b1), part_scal ag_5 rfl, part_scal ag_5 rfl, eqIn_int Tryz.underlying5⟩
    | _ + 2, hi => omega)
  rw [h]; simp [List.range_succ, Bool.and_assoc]
@[go_sem] theorem eql_101 {H : AH} {u : Option TypeDesc} {x y : Operand} {kk : Value → Prop} {a0 b0 : Int} {a1 b1 : Int} : bin u Tryz.prog H .eql 101 x y (.agg #[.int .u8 a0, .int .u8 a1]) (.agg #[.int .u8 b0, .int .u8 b1]) kk = (u = Tryz.prog.underlying 101 ∧ nv (.bool ((a0 == b0) && (a1 == b1))) kk) := bin_eql_of (eqg_agg eg_101) rfl fun _ => eqi_101 (m := 9998) a0 b0 a1 b1
@[go_sem] theorem neq_101 {H : AH} {u : Option TypeDesc} {x y : Operand} {kk : Value → Prop} {a0 b0 : Int} {a1 b1 : Int} : bin u Tryz.prog H .neq 101 x y (.agg #[.int .u8 a0, .int .u8 a1]) (.agg #[.int .u8 b0, .int .u8 b1]) kk = (u = Tryz.prog.underlying 101 ∧ nv (.bool (!((a0 == b0) && (a1 == b1)))) kk) := bin_neq_of (eqg_agg eg_101) rfl fun _ => eqi_101 (m := 9998) a0 b0 a1 b1
theorem eg_155 : Tryz.prog.eqGuardType Tryz.prog.depth 155 = false := by kernel_rfl
theorem st_155 : Tryz.prog.stoodInHeld 155 = false := by kernel_rfl
theorem eqi_155 {H : AH} {m : Nat} (a0 b0 : Int) (a1 b1 : Int) : qrun Tryz.prog (Op.equalIn (m + 2) 155 (.agg #[.int .i64 a0, .int .i64 a1]) (.agg #[.int .i64 b0, .int .i64 b1])) H = some ((a0 == b0) && (a1 == b1)) := by
  have h := eqIn_struct (P := Tryz.prog) (H := H) (m := m + 1) (xs := #[.int .i64 a0, .int .i64 a1]) (ys := #[.int .i64 b0, .int .i64 b1]) (T := fun f => if f.offset = 0 then (a0 == b0) else if f.offset = 1 then (a1 == b1) else true) Tryz.underlying155 st_155 (by
    simp only [List.mem_cons, List.not_mem_nil, or_false]
    rintro f (rfl | rfl)
    · exact ⟨by decide, (.int .i64 a0), (.int .i64 b0), part_scal ag_3 rfl, part_scal ag_3 rfl, eqIn_int Tryz.underlying3⟩
    · exact ⟨by decide, (.int .i64 a1), (.int .i64 b1), part_scal ag_3 rfl, part_scal ag_3 rfl, eqIn_int Tryz.underlying3⟩)
  rw [h]; simp [Bool.and_assoc]
@[go_sem] theorem eql_155 {H : AH} {u : Option TypeDesc} {x y : Operand} {kk : Value → Prop} {a0 b0 : Int} {a1 b1 : Int} : bin u Tryz.prog H .eql 155 x y (.agg #[.int .i64 a0, .int .i64 a1]) (.agg #[.int .i64 b0, .int .i64 b1]) kk = (u = Tryz.prog.underlying 155 ∧ nv (.bool ((a0 == b0) && (a1 == b1))) kk) := bin_eql_of (eqg_agg eg_155) rfl fun _ => eqi_155 (m := 9998) a0 b0 a1 b1
@[go_sem] theorem neq_155 {H : AH} {u : Option TypeDesc} {x y : Operand} {kk : Value → Prop} {a0 b0 : Int} {a1 b1 : Int} : bin u Tryz.prog H .neq 155 x y (.agg #[.int .i64 a0, .int .i64 a1]) (.agg #[.int .i64 b0, .int .i64 b1]) kk = (u = Tryz.prog.underlying 155 ∧ nv (.bool (!((a0 == b0) && (a1 == b1)))) kk) := bin_neq_of (eqg_agg eg_155) rfl fun _ => eqi_155 (m := 9998) a0 b0 a1 b1
theorem eg_156 : Tryz.prog.eqGuardType Tryz.prog.depth 156 = false := by kernel_rfl
theorem st_156 : Tryz.prog.stoodInHeld 156 = false := by kernel_rfl
theorem eqi_156 {H : AH} {m : Nat} (a0 b0 : Int) (a1 b1 : Int) : qrun Tryz.prog (Op.equalIn (m + 2) 156 (.agg #[.int .i64 a0, .int .i64 a1]) (.agg #[.int .i64 b0, .int .i64 b1])) H = some ((a0 == b0) && (a1 == b1)) := by
  have h := eqIn_struct (P := Tryz.prog) (H := H) (m := m + 1) (xs := #[.int .i64 a0, .int .i64 a1]) (ys := #[.int .i64 b0, .int .i64 b1]) (T := fun f => if f.offset = 0 then (a0 == b0) else if f.offset = 1 then (a1 == b1) else true) Tryz.underlying156 st_156 (by
    simp only [List.mem_cons, List.not_mem_nil, or_false]
    rintro f (rfl | rfl)
    · exact ⟨by decide, (.int .i64 a0), (.int .i64 b0), part_scal ag_3 rfl, part_scal ag_3 rfl, eqIn_int Tryz.underlying3⟩
    · exact ⟨by decide, (.int .i64 a1), (.int .i64 b1), part_scal ag_3 rfl, part_scal ag_3 rfl, eqIn_int Tryz.underlying3⟩)
  rw [h]; simp [Bool.and_assoc]
@[go_sem] theorem eql_156 {H : AH} {u : Option TypeDesc} {x y : Operand} {kk : Value → Prop} {a0 b0 : Int} {a1 b1 : Int} : bin u Tryz.prog H .eql 156 x y (.agg #[.int .i64 a0, .int .i64 a1]) (.agg #[.int .i64 b0, .int .i64 b1]) kk = (u = Tryz.prog.underlying 156 ∧ nv (.bool ((a0 == b0) && (a1 == b1))) kk) := bin_eql_of (eqg_agg eg_156) rfl fun _ => eqi_156 (m := 9998) a0 b0 a1 b1
@[go_sem] theorem neq_156 {H : AH} {u : Option TypeDesc} {x y : Operand} {kk : Value → Prop} {a0 b0 : Int} {a1 b1 : Int} : bin u Tryz.prog H .neq 156 x y (.agg #[.int .i64 a0, .int .i64 a1]) (.agg #[.int .i64 b0, .int .i64 b1]) kk = (u = Tryz.prog.underlying 156 ∧ nv (.bool (!((a0 == b0) && (a1 == b1)))) kk) := bin_neq_of (eqg_agg eg_156) rfl fun _ => eqi_156 (m := 9998) a0 b0 a1 b1
theorem eg_268 : Tryz.prog.eqGuardType Tryz.prog.depth 268 = false := by kernel_rfl
theorem st_268 : Tryz.prog.stoodInHeld 268 = false := by kernel_rfl
theorem eqi_268 {H : AH} {m : Nat} (a0 b0 : Int) (a1 b1 : Int) : qrun Tryz.prog (Op.equalIn (m + 2) 268 (.agg #[.int .i64 a0, .int .i64 a1]) (.agg #[.int .i64 b0, .int .i64 b1])) H = some ((a0 == b0) && (a1 == b1)) := by
  have h := eqIn_struct (P := Tryz.prog) (H := H) (m := m + 1) (xs := #[.int .i64 a0, .int .i64 a1]) (ys := #[.int .i64 b0, .int .i64 b1]) (T := fun f => if f.offset = 0 then (a0 == b0) else if f.offset = 1 then (a1 == b1) else true) Tryz.underlying268 st_268 (by
    simp only [List.mem_cons, List.not_mem_nil, or_false]
    rintro f (rfl | rfl)
    · exact ⟨by decide, (.int .i64 a0), (.int .i64 b0), part_scal ag_3 rfl, part_scal ag_3 rfl, eqIn_int Tryz.underlying3⟩
    · exact ⟨by decide, (.int .i64 a1), (.int .i64 b1), part_scal ag_3 rfl, part_scal ag_3 rfl, eqIn_int Tryz.underlying3⟩)
  rw [h]; simp [Bool.and_assoc]
@[go_sem] theorem eql_268 {H : AH} {u : Option TypeDesc} {x y : Operand} {kk : Value → Prop} {a0 b0 : Int} {a1 b1 : Int} : bin u Tryz.prog H .eql 268 x y (.agg #[.int .i64 a0, .int .i64 a1]) (.agg #[.int .i64 b0, .int .i64 b1]) kk = (u = Tryz.prog.underlying 268 ∧ nv (.bool ((a0 == b0) && (a1 == b1))) kk) := bin_eql_of (eqg_agg eg_268) rfl fun _ => eqi_268 (m := 9998) a0 b0 a1 b1
@[go_sem] theorem neq_268 {H : AH} {u : Option TypeDesc} {x y : Operand} {kk : Value → Prop} {a0 b0 : Int} {a1 b1 : Int} : bin u Tryz.prog H .neq 268 x y (.agg #[.int .i64 a0, .int .i64 a1]) (.agg #[.int .i64 b0, .int .i64 b1]) kk = (u = Tryz.prog.underlying 268 ∧ nv (.bool (!((a0 == b0) && (a1 == b1)))) kk) := bin_neq_of (eqg_agg eg_268) rfl fun _ => eqi_268 (m := 9998) a0 b0 a1 b1
theorem eg_269 : Tryz.prog.eqGuardType Tryz.prog.depth 269 = false := by kernel_rfl
theorem st_269 : Tryz.prog.stoodInHeld 269 = false := by kernel_rfl
theorem eqi_269 {H : AH} {m : Nat} (a0 b0 : Int) (a1 b1 : Int) : qrun Tryz.prog (Op.equalIn (m + 2) 269 (.agg #[.int .i64 a0, .int .i64 a1]) (.agg #[.int .i64 b0, .int .i64 b1])) H = some ((a0 == b0) && (a1 == b1)) := by
  have h := eqIn_struct (P := Tryz.prog) (H := H) (m := m + 1) (xs := #[.int .i64 a0, .int .i64 a1]) (ys := #[.int .i64 b0, .int .i64 b1]) (T := fun f => if f.offset = 0 then (a0 == b0) else if f.offset = 1 then (a1 == b1) else true) Tryz.underlying269 st_269 (by
    simp only [List.mem_cons, List.not_mem_nil, or_false]
    rintro f (rfl | rfl)
    · exact ⟨by decide, (.int .i64 a0), (.int .i64 b0), part_scal ag_3 rfl, part_scal ag_3 rfl, eqIn_int Tryz.underlying3⟩
    · exact ⟨by decide, (.int .i64 a1), (.int .i64 b1), part_scal ag_3 rfl, part_scal ag_3 rfl, eqIn_int Tryz.underlying3⟩)
  rw [h]; simp [Bool.and_assoc]
@[go_sem] theorem eql_269 {H : AH} {u : Option TypeDesc} {x y : Operand} {kk : Value → Prop} {a0 b0 : Int} {a1 b1 : Int} : bin u Tryz.prog H .eql 269 x y (.agg #[.int .i64 a0, .int .i64 a1]) (.agg #[.int .i64 b0, .int .i64 b1]) kk = (u = Tryz.prog.underlying 269 ∧ nv (.bool ((a0 == b0) && (a1 == b1))) kk) := bin_eql_of (eqg_agg eg_269) rfl fun _ => eqi_269 (m := 9998) a0 b0 a1 b1
@[go_sem] theorem neq_269 {H : AH} {u : Option TypeDesc} {x y : Operand} {kk : Value → Prop} {a0 b0 : Int} {a1 b1 : Int} : bin u Tryz.prog H .neq 269 x y (.agg #[.int .i64 a0, .int .i64 a1]) (.agg #[.int .i64 b0, .int .i64 b1]) kk = (u = Tryz.prog.underlying 269 ∧ nv (.bool (!((a0 == b0) && (a1 == b1)))) kk) := bin_neq_of (eqg_agg eg_269) rfl fun _ => eqi_269 (m := 9998) a0 b0 a1 b1
@[go_sem] theorem ok_2 : fnOk Tryz.prog 2 = true := by kernel_rfl
@[go_sem] theorem ok_3 : fnOk Tryz.prog 3 = true := by kernel_rfl
@[go_sem] theorem ok_4 : fnOk Tryz.prog 4 = true := by kernel_rfl
@[go_sem] theorem ok_5 : fnOk Tryz.prog 5 = true := by kernel_rfl
@[go_sem] theorem ok_6 : fnOk Tryz.prog 6 = true := by kernel_rfl
@[go_sem] theorem ok_7 : fnOk Tryz.prog 7 = true := by kernel_rfl
@[go_sem] theorem ok_8 : fnOk Tryz.prog 8 = true := by kernel_rfl
@[go_sem] theorem ok_9 : fnOk Tryz.prog 9 = true := by kernel_rfl
@[go_sem] theorem ok_10 : fnOk Tryz.prog 10 = true := by kernel_rfl
@[go_sem] theorem ok_11 : fnOk Tryz.prog 11 = true := by kernel_rfl
@[go_sem] theorem ok_12 : fnOk Tryz.prog 12 = true := by kernel_rfl
@[go_sem] theorem ok_13 : fnOk Tryz.prog 13 = true := by kernel_rfl
@[go_sem] theorem ok_14 : fnOk Tryz.prog 14 = true := by kernel_rfl
@[go_sem] theorem ok_15 : fnOk Tryz.prog 15 = true := by kernel_rfl
@[go_sem] theorem ok_16 : fnOk Tryz.prog 16 = true := by kernel_rfl
@[go_sem] theorem ok_17 : fnOk Tryz.prog 17 = true := by kernel_rfl
@[go_sem] theorem ok_18 : fnOk Tryz.prog 18 = true := by kernel_rfl
@[go_sem] theorem ok_19 : fnOk Tryz.prog 19 = true := by kernel_rfl
@[go_sem] theorem ok_20 : fnOk Tryz.prog 20 = true := by kernel_rfl
@[go_sem] theorem ok_21 : fnOk Tryz.prog 21 = true := by kernel_rfl
@[go_sem] theorem ok_22 : fnOk Tryz.prog 22 = true := by kernel_rfl
@[go_sem] theorem ok_23 : fnOk Tryz.prog 23 = true := by kernel_rfl
@[go_sem] theorem ok_24 : fnOk Tryz.prog 24 = true := by kernel_rfl
@[go_sem] theorem ok_25 : fnOk Tryz.prog 25 = true := by kernel_rfl
@[go_sem] theorem ok_26 : fnOk Tryz.prog 26 = true := by kernel_rfl
@[go_sem] theorem ok_27 : fnOk Tryz.prog 27 = true := by kernel_rfl
@[go_sem] theorem ok_28 : fnOk Tryz.prog 28 = true := by kernel_rfl
@[go_sem] theorem ok_29 : fnOk Tryz.prog 29 = true := by kernel_rfl
@[go_sem] theorem ok_30 : fnOk Tryz.prog 30 = true := by kernel_rfl
@[go_sem] theorem ok_31 : fnOk Tryz.prog 31 = true := by kernel_rfl
@[go_sem] theorem ok_32 : fnOk Tryz.prog 32 = true := by kernel_rfl
@[go_sem] theorem ok_33 : fnOk Tryz.prog 33 = true := by kernel_rfl
@[go_sem] theorem ok_34 : fnOk Tryz.prog 34 = true := by kernel_rfl
@[go_sem] theorem ok_35 : fnOk Tryz.prog 35 = true := by kernel_rfl
@[go_sem] theorem ok_36 : fnOk Tryz.prog 36 = true := by kernel_rfl
@[go_sem] theorem ok_37 : fnOk Tryz.prog 37 = true := by kernel_rfl
@[go_sem] theorem ok_38 : fnOk Tryz.prog 38 = true := by kernel_rfl
@[go_sem] theorem ok_39 : fnOk Tryz.prog 39 = true := by kernel_rfl
@[go_sem] theorem ok_40 : fnOk Tryz.prog 40 = true := by kernel_rfl
@[go_sem] theorem ok_41 : fnOk Tryz.prog 41 = true := by kernel_rfl
@[go_sem] theorem ok_42 : fnOk Tryz.prog 42 = true := by kernel_rfl
@[go_sem] theorem ok_43 : fnOk Tryz.prog 43 = true := by kernel_rfl
@[go_sem] theorem ok_44 : fnOk Tryz.prog 44 = true := by kernel_rfl
@[go_sem] theorem ok_45 : fnOk Tryz.prog 45 = true := by kernel_rfl
@[go_sem] theorem ok_46 : fnOk Tryz.prog 46 = true := by kernel_rfl
@[go_sem] theorem ok_47 : fnOk Tryz.prog 47 = true := by kernel_rfl
@[go_sem] theorem ok_48 : fnOk Tryz.prog 48 = true := by kernel_rfl
@[go_sem] theorem ok_49 : fnOk Tryz.prog 49 = true := by kernel_rfl
@[go_sem] theorem ok_50 : fnOk Tryz.prog 50 = true := by kernel_rfl
@[go_sem] theorem ok_51 : fnOk Tryz.prog 51 = true := by kernel_rfl
@[go_sem] theorem ok_52 : fnOk Tryz.prog 52 = true := by kernel_rfl
@[go_sem] theorem ok_53 : fnOk Tryz.prog 53 = true := by kernel_rfl
@[go_sem] theorem ok_54 : fnOk Tryz.prog 54 = true := by kernel_rfl
@[go_sem] theorem ok_55 : fnOk Tryz.prog 55 = true := by kernel_rfl
@[go_sem] theorem ok_56 : fnOk Tryz.prog 56 = true := by kernel_rfl
@[go_sem] theorem ok_57 : fnOk Tryz.prog 57 = true := by kernel_rfl
@[go_sem] theorem ok_58 : fnOk Tryz.prog 58 = true := by kernel_rfl
@[go_sem] theorem ok_59 : fnOk Tryz.prog 59 = true := by kernel_rfl
@[go_sem] theorem ok_60 : fnOk Tryz.prog 60 = true := by kernel_rfl
@[go_sem] theorem ok_61 : fnOk Tryz.prog 61 = true := by kernel_rfl
@[go_sem] theorem ok_62 : fnOk Tryz.prog 62 = true := by kernel_rfl
@[go_sem] theorem ok_63 : fnOk Tryz.prog 63 = true := by kernel_rfl
@[go_sem] theorem ok_64 : fnOk Tryz.prog 64 = true := by kernel_rfl
@[go_sem] theorem ok_65 : fnOk Tryz.prog 65 = true := by kernel_rfl
@[go_sem] theorem ok_66 : fnOk Tryz.prog 66 = true := by kernel_rfl
@[go_sem] theorem ok_67 : fnOk Tryz.prog 67 = true := by kernel_rfl
@[go_sem] theorem ok_68 : fnOk Tryz.prog 68 = true := by kernel_rfl
@[go_sem] theorem ok_69 : fnOk Tryz.prog 69 = true := by kernel_rfl
@[go_sem] theorem ok_70 : fnOk Tryz.prog 70 = true := by kernel_rfl
@[go_sem] theorem ok_71 : fnOk Tryz.prog 71 = true := by kernel_rfl
@[go_sem] theorem ok_72 : fnOk Tryz.prog 72 = true := by kernel_rfl
@[go_sem] theorem ok_73 : fnOk Tryz.prog 73 = true := by kernel_rfl
@[go_sem] theorem ok_74 : fnOk Tryz.prog 74 = true := by kernel_rfl
@[go_sem] theorem ok_75 : fnOk Tryz.prog 75 = true := by kernel_rfl
@[go_sem] theorem ok_76 : fnOk Tryz.prog 76 = true := by kernel_rfl
@[go_sem] theorem ok_80 : fnOk Tryz.prog 80 = true := by kernel_rfl
@[go_sem] theorem ok_81 : fnOk Tryz.prog 81 = true := by kernel_rfl
@[go_sem] theorem ok_82 : fnOk Tryz.prog 82 = true := by kernel_rfl
@[go_sem] theorem ok_83 : fnOk Tryz.prog 83 = true := by kernel_rfl
@[go_sem] theorem ok_84 : fnOk Tryz.prog 84 = true := by kernel_rfl
@[go_sem] theorem ok_85 : fnOk Tryz.prog 85 = true := by kernel_rfl
@[go_sem] theorem ok_86 : fnOk Tryz.prog 86 = true := by kernel_rfl
@[go_sem] theorem ok_87 : fnOk Tryz.prog 87 = true := by kernel_rfl
@[go_sem] theorem ok_88 : fnOk Tryz.prog 88 = true := by kernel_rfl
@[go_sem] theorem ok_89 : fnOk Tryz.prog 89 = true := by kernel_rfl
@[go_sem] theorem ok_90 : fnOk Tryz.prog 90 = true := by kernel_rfl
@[go_sem] theorem ok_91 : fnOk Tryz.prog 91 = true := by kernel_rfl
@[go_sem] theorem ok_92 : fnOk Tryz.prog 92 = true := by kernel_rfl
@[go_sem] theorem ok_93 : fnOk Tryz.prog 93 = true := by kernel_rfl
@[go_sem] theorem ok_94 : fnOk Tryz.prog 94 = true := by kernel_rfl
@[go_sem] theorem ok_95 : fnOk Tryz.prog 95 = true := by kernel_rfl
@[go_sem] theorem ok_96 : fnOk Tryz.prog 96 = true := by kernel_rfl
@[go_sem] theorem ok_97 : fnOk Tryz.prog 97 = true := by kernel_rfl
@[go_sem] theorem ok_98 : fnOk Tryz.prog 98 = true := by kernel_rfl
@[go_sem] theorem ok_102 : fnOk Tryz.prog 102 = true := by kernel_rfl
@[go_sem] theorem ok_103 : fnOk Tryz.prog 103 = true := by kernel_rfl
@[go_sem] theorem ok_104 : fnOk Tryz.prog 104 = true := by kernel_rfl
@[go_sem] theorem ok_105 : fnOk Tryz.prog 105 = true := by kernel_rfl
@[go_sem] theorem ok_106 : fnOk Tryz.prog 106 = true := by kernel_rfl
@[go_sem] theorem ok_107 : fnOk Tryz.prog 107 = true := by kernel_rfl
@[go_sem] theorem ok_108 : fnOk Tryz.prog 108 = true := by kernel_rfl
@[go_sem] theorem ok_109 : fnOk Tryz.prog 109 = true := by kernel_rfl
@[go_sem] theorem ok_110 : fnOk Tryz.prog 110 = true := by kernel_rfl
@[go_sem] theorem ok_111 : fnOk Tryz.prog 111 = true := by kernel_rfl
@[go_sem] theorem ok_112 : fnOk Tryz.prog 112 = true := by kernel_rfl
@[go_sem] theorem ok_113 : fnOk Tryz.prog 113 = true := by kernel_rfl
@[go_sem] theorem ok_114 : fnOk Tryz.prog 114 = true := by kernel_rfl
@[go_sem] theorem ok_115 : fnOk Tryz.prog 115 = true := by kernel_rfl
@[go_sem] theorem ok_116 : fnOk Tryz.prog 116 = true := by kernel_rfl
@[go_sem] theorem ok_117 : fnOk Tryz.prog 117 = true := by kernel_rfl
@[go_sem] theorem ok_118 : fnOk Tryz.prog 118 = true := by kernel_rfl
@[go_sem] theorem ok_119 : fnOk Tryz.prog 119 = true := by kernel_rfl
@[go_sem] theorem ok_120 : fnOk Tryz.prog 120 = true := by kernel_rfl
@[go_sem] theorem ok_121 : fnOk Tryz.prog 121 = true := by kernel_rfl
@[go_sem] theorem ok_122 : fnOk Tryz.prog 122 = true := by kernel_rfl
@[go_sem] theorem ok_123 : fnOk Tryz.prog 123 = true := by kernel_rfl
@[go_sem] theorem ok_124 : fnOk Tryz.prog 124 = true := by kernel_rfl
@[go_sem] theorem ok_125 : fnOk Tryz.prog 125 = true := by kernel_rfl
@[go_sem] theorem ok_126 : fnOk Tryz.prog 126 = true := by kernel_rfl
@[go_sem] theorem ok_127 : fnOk Tryz.prog 127 = true := by kernel_rfl
@[go_sem] theorem ok_128 : fnOk Tryz.prog 128 = true := by kernel_rfl
@[go_sem] theorem ok_129 : fnOk Tryz.prog 129 = true := by kernel_rfl
@[go_sem] theorem ok_130 : fnOk Tryz.prog 130 = true := by kernel_rfl
@[go_sem] theorem ok_131 : fnOk Tryz.prog 131 = true := by kernel_rfl
@[go_sem] theorem ok_132 : fnOk Tryz.prog 132 = true := by kernel_rfl
@[go_sem] theorem ok_133 : fnOk Tryz.prog 133 = true := by kernel_rfl
@[go_sem] theorem ok_134 : fnOk Tryz.prog 134 = true := by kernel_rfl
@[go_sem] theorem ok_135 : fnOk Tryz.prog 135 = true := by kernel_rfl
@[go_sem] theorem ok_136 : fnOk Tryz.prog 136 = true := by kernel_rfl
@[go_sem] theorem ok_137 : fnOk Tryz.prog 137 = true := by kernel_rfl
@[go_sem] theorem ok_138 : fnOk Tryz.prog 138 = true := by kernel_rfl
@[go_sem] theorem ok_139 : fnOk Tryz.prog 139 = true := by kernel_rfl
@[go_sem] theorem ok_140 : fnOk Tryz.prog 140 = true := by kernel_rfl
@[go_sem] theorem ok_160 : fnOk Tryz.prog 160 = true := by kernel_rfl
@[go_sem] theorem ok_176 : fnOk Tryz.prog 176 = true := by kernel_rfl
@[go_sem] theorem ok_181 : fnOk Tryz.prog 181 = true := by kernel_rfl
theorem mixed : Tryz.prog.follows .mixedOrders = true := by kernel_rfl
attribute [go_sem] Tryz.underlying0 Tryz.underlying1 Tryz.underlying2 Tryz.underlying3 Tryz.underlying4 Tryz.underlying5 Tryz.underlying6 Tryz.underlying7 Tryz.underlying8 Tryz.underlying9 Tryz.underlying10 Tryz.underlying11 Tryz.underlying12 Tryz.underlying13 Tryz.underlying14 Tryz.underlying15
attribute [go_sem] Tryz.underlying16 Tryz.underlying17 Tryz.underlying18 Tryz.underlying19 Tryz.underlying20 Tryz.underlying21 Tryz.underlying22 Tryz.underlying23 Tryz.underlying24 Tryz.underlying25 Tryz.underlying26 Tryz.underlying27 Tryz.underlying28 Tryz.underlying29 Tryz.underlying30 Tryz.underlying31
attribute [go_sem] Tryz.underlying32 Tryz.underlying33 Tryz.underlying34 Tryz.underlying35 Tryz.underlying36 Tryz.underlying37 Tryz.underlying38 Tryz.underlying39 Tryz.underlying40 Tryz.underlying41 Tryz.underlying42 Tryz.underlying43 Tryz.underlying44 Tryz.underlying45 Tryz.underlying46 Tryz.underlying47
attribute [go_sem] Tryz.underlying48 Tryz.underlying49 Tryz.underlying50 Tryz.underlying51 Tryz.underlying52 Tryz.underlying53 Tryz.underlying54 Tryz.underlying55 Tryz.underlying56 Tryz.underlying57 Tryz.underlying58 Tryz.underlying59 Tryz.underlying60 Tryz.underlying61 Tryz.underlying62 Tryz.underlying63
attribute [go_sem] Tryz.underlying64 Tryz.underlying65 Tryz.underlying66 Tryz.underlying67 Tryz.underlying68 Tryz.underlying69 Tryz.underlying70 Tryz.underlying71 Tryz.underlying72 Tryz.underlying73 Tryz.underlying74 Tryz.underlying75 Tryz.underlying76 Tryz.underlying77 Tryz.underlying78 Tryz.underlying79
attribute [go_sem] Tryz.underlying80 Tryz.underlying81 Tryz.underlying82 Tryz.underlying83 Tryz.underlying84 Tryz.underlying85 Tryz.underlying86 Tryz.underlying87 Tryz.underlying88 Tryz.underlying89 Tryz.underlying90 Tryz.underlying91 Tryz.underlying92 Tryz.underlying93 Tryz.underlying94 Tryz.underlying95
attribute [go_sem] Tryz.underlying96 Tryz.underlying97 Tryz.underlying98 Tryz.underlying99 Tryz.underlying100 Tryz.underlying101 Tryz.underlying102 Tryz.underlying103 Tryz.underlying104 Tryz.underlying105 Tryz.underlying106 Tryz.underlying107 Tryz.underlying108 Tryz.underlying109 Tryz.underlying110 Tryz.underlying111
attribute [go_sem] Tryz.underlying112 Tryz.underlying113 Tryz.underlying114 Tryz.underlying115 Tryz.underlying116 Tryz.underlying117 Tryz.underlying118 Tryz.underlying119 Tryz.underlying120 Tryz.underlying121 Tryz.underlying122 Tryz.underlying123 Tryz.underlying124 Tryz.underlying125 Tryz.underlying126 Tryz.underlying127
attribute [go_sem] Tryz.underlying128 Tryz.underlying129 Tryz.underlying130 Tryz.underlying131 Tryz.underlying132 Tryz.underlying133 Tryz.underlying134 Tryz.underlying135 Tryz.underlying136 Tryz.underlying137 Tryz.underlying138 Tryz.underlying139 Tryz.underlying140 Tryz.underlying141 Tryz.underlying142 Tryz.underlying143
attribute [go_sem] Tryz.underlying144 Tryz.underlying145 Tryz.underlying146 Tryz.underlying147 Tryz.underlying148 Tryz.underlying149 Tryz.underlying150 Tryz.underlying151 Tryz.underlying152 Tryz.underlying153 Tryz.underlying154 Tryz.underlying155 Tryz.underlying156 Tryz.underlying157 Tryz.underlying158 Tryz.underlying159
attribute [go_sem] Tryz.underlying160 Tryz.underlying161 Tryz.underlying162 Tryz.underlying163 Tryz.underlying164 Tryz.underlying165 Tryz.underlying166 Tryz.underlying167 Tryz.underlying168 Tryz.underlying169 Tryz.underlying170 Tryz.underlying171 Tryz.underlying172 Tryz.underlying173 Tryz.underlying174 Tryz.underlying175
attribute [go_sem] Tryz.underlying176 Tryz.underlying177 Tryz.underlying178 Tryz.underlying179 Tryz.underlying180 Tryz.underlying181 Tryz.underlying182 Tryz.underlying183 Tryz.underlying184 Tryz.underlying185 Tryz.underlying186 Tryz.underlying187 Tryz.underlying188 Tryz.underlying189 Tryz.underlying190 Tryz.underlying191
attribute [go_sem] Tryz.underlying192 Tryz.underlying193 Tryz.underlying194 Tryz.underlying195 Tryz.underlying196 Tryz.underlying197 Tryz.underlying198 Tryz.underlying199 Tryz.underlying200 Tryz.underlying201 Tryz.underlying202 Tryz.underlying203 Tryz.underlying204 Tryz.underlying205 Tryz.underlying206 Tryz.underlying207
attribute [go_sem] Tryz.underlying208 Tryz.underlying209 Tryz.underlying210 Tryz.underlying211 Tryz.underlying212 Tryz.underlying213 Tryz.underlying214 Tryz.underlying215 Tryz.underlying216 Tryz.underlying217 Tryz.underlying218 Tryz.underlying219 Tryz.underlying220 Tryz.underlying221 Tryz.underlying222 Tryz.underlying223
attribute [go_sem] Tryz.underlying224 Tryz.underlying225 Tryz.underlying226 Tryz.underlying227 Tryz.underlying228 Tryz.underlying229 Tryz.underlying230 Tryz.underlying231 Tryz.underlying232 Tryz.underlying233 Tryz.underlying234 Tryz.underlying235 Tryz.underlying236 Tryz.underlying237 Tryz.underlying238 Tryz.underlying239
attribute [go_sem] Tryz.underlying240 Tryz.underlying241 Tryz.underlying242 Tryz.underlying243 Tryz.underlying244 Tryz.underlying245 Tryz.underlying246 Tryz.underlying247 Tryz.underlying248 Tryz.underlying249 Tryz.underlying250 Tryz.underlying251 Tryz.underlying252 Tryz.underlying253 Tryz.underlying254 Tryz.underlying255
attribute [go_sem] Tryz.underlying256 Tryz.underlying257 Tryz.underlying258 Tryz.underlying259 Tryz.underlying260 Tryz.underlying261 Tryz.underlying262 Tryz.underlying263 Tryz.underlying264 Tryz.underlying265 Tryz.underlying266 Tryz.underlying267 Tryz.underlying268 Tryz.underlying269 Tryz.underlying270 Tryz.underlying271
attribute [go_sem] Tryz.underlying272 Tryz.underlying273 Tryz.underlying274 Tryz.underlying275 Tryz.underlying276 Tryz.underlying277 Tryz.underlying278 Tryz.underlying279 Tryz.underlying280 Tryz.underlying281 Tryz.underlying282 Tryz.underlying283
attribute [go_sem] Tryz.ntmps0 Tryz.results0 Tryz.ntmps1 Tryz.results1 Tryz.ntmps2 Tryz.results2 Tryz.ntmps3 Tryz.results3 Tryz.ntmps4 Tryz.results4 Tryz.ntmps5 Tryz.results5 Tryz.ntmps6 Tryz.results6 Tryz.ntmps7 Tryz.results7
attribute [go_sem] Tryz.ntmps8 Tryz.results8 Tryz.ntmps9 Tryz.results9 Tryz.ntmps10 Tryz.results10 Tryz.ntmps11 Tryz.results11 Tryz.ntmps12 Tryz.results12 Tryz.ntmps13 Tryz.results13 Tryz.ntmps14 Tryz.results14 Tryz.ntmps15 Tryz.results15
attribute [go_sem] Tryz.ntmps16 Tryz.results16 Tryz.ntmps17 Tryz.results17 Tryz.ntmps18 Tryz.results18 Tryz.ntmps19 Tryz.results19 Tryz.ntmps20 Tryz.results20 Tryz.ntmps21 Tryz.results21 Tryz.ntmps22 Tryz.results22 Tryz.ntmps23 Tryz.results23
attribute [go_sem] Tryz.ntmps24 Tryz.results24 Tryz.ntmps25 Tryz.results25 Tryz.ntmps26 Tryz.results26 Tryz.ntmps27 Tryz.results27 Tryz.ntmps28 Tryz.results28 Tryz.ntmps29 Tryz.results29 Tryz.ntmps30 Tryz.results30 Tryz.ntmps31 Tryz.results31
attribute [go_sem] Tryz.ntmps32 Tryz.results32 Tryz.ntmps33 Tryz.results33 Tryz.ntmps34 Tryz.results34 Tryz.ntmps35 Tryz.results35 Tryz.ntmps36 Tryz.results36 Tryz.ntmps37 Tryz.results37 Tryz.ntmps38 Tryz.results38 Tryz.ntmps39 Tryz.results39
attribute [go_sem] Tryz.ntmps40 Tryz.results40 Tryz.ntmps41 Tryz.results41 Tryz.ntmps42 Tryz.results42 Tryz.ntmps43 Tryz.results43 Tryz.ntmps44 Tryz.results44 Tryz.ntmps45 Tryz.results45 Tryz.ntmps46 Tryz.results46 Tryz.ntmps47 Tryz.results47
attribute [go_sem] Tryz.ntmps48 Tryz.results48 Tryz.ntmps49 Tryz.results49 Tryz.ntmps50 Tryz.results50 Tryz.ntmps51 Tryz.results51 Tryz.ntmps52 Tryz.results52 Tryz.ntmps53 Tryz.results53 Tryz.ntmps54 Tryz.results54 Tryz.ntmps55 Tryz.results55
attribute [go_sem] Tryz.ntmps56 Tryz.results56 Tryz.ntmps57 Tryz.results57 Tryz.ntmps58 Tryz.results58 Tryz.ntmps59 Tryz.results59 Tryz.ntmps60 Tryz.results60 Tryz.ntmps61 Tryz.results61 Tryz.ntmps62 Tryz.results62 Tryz.ntmps63 Tryz.results63
attribute [go_sem] Tryz.ntmps64 Tryz.results64 Tryz.ntmps65 Tryz.results65 Tryz.ntmps66 Tryz.results66 Tryz.ntmps67 Tryz.results67 Tryz.ntmps68 Tryz.results68 Tryz.ntmps69 Tryz.results69 Tryz.ntmps70 Tryz.results70 Tryz.ntmps71 Tryz.results71
attribute [go_sem] Tryz.ntmps72 Tryz.results72 Tryz.ntmps73 Tryz.results73 Tryz.ntmps74 Tryz.results74 Tryz.ntmps75 Tryz.results75 Tryz.ntmps76 Tryz.results76 Tryz.ntmps77 Tryz.results77 Tryz.ntmps78 Tryz.results78 Tryz.ntmps79 Tryz.results79
attribute [go_sem] Tryz.ntmps80 Tryz.results80 Tryz.ntmps81 Tryz.results81 Tryz.ntmps82 Tryz.results82 Tryz.ntmps83 Tryz.results83 Tryz.ntmps84 Tryz.results84 Tryz.ntmps85 Tryz.results85 Tryz.ntmps86 Tryz.results86 Tryz.ntmps87 Tryz.results87
attribute [go_sem] Tryz.ntmps88 Tryz.results88 Tryz.ntmps89 Tryz.results89 Tryz.ntmps90 Tryz.results90 Tryz.ntmps91 Tryz.results91 Tryz.ntmps92 Tryz.results92 Tryz.ntmps93 Tryz.results93 Tryz.ntmps94 Tryz.results94 Tryz.ntmps95 Tryz.results95
attribute [go_sem] Tryz.ntmps96 Tryz.results96 Tryz.ntmps97 Tryz.results97 Tryz.ntmps98 Tryz.results98 Tryz.ntmps99 Tryz.results99 Tryz.ntmps100 Tryz.results100 Tryz.ntmps101 Tryz.results101 Tryz.ntmps102 Tryz.results102 Tryz.ntmps103 Tryz.results103
attribute [go_sem] Tryz.ntmps104 Tryz.results104 Tryz.ntmps105 Tryz.results105 Tryz.ntmps106 Tryz.results106 Tryz.ntmps107 Tryz.results107 Tryz.ntmps108 Tryz.results108 Tryz.ntmps109 Tryz.results109 Tryz.ntmps110 Tryz.results110 Tryz.ntmps111 Tryz.results111
attribute [go_sem] Tryz.ntmps112 Tryz.results112 Tryz.ntmps113 Tryz.results113 Tryz.ntmps114 Tryz.results114 Tryz.ntmps115 Tryz.results115 Tryz.ntmps116 Tryz.results116 Tryz.ntmps117 Tryz.results117 Tryz.ntmps118 Tryz.results118 Tryz.ntmps119 Tryz.results119
attribute [go_sem] Tryz.ntmps120 Tryz.results120 Tryz.ntmps121 Tryz.results121 Tryz.ntmps122 Tryz.results122 Tryz.ntmps123 Tryz.results123 Tryz.ntmps124 Tryz.results124 Tryz.ntmps125 Tryz.results125 Tryz.ntmps126 Tryz.results126 Tryz.ntmps127 Tryz.results127
attribute [go_sem] Tryz.ntmps128 Tryz.results128 Tryz.ntmps129 Tryz.results129 Tryz.ntmps130 Tryz.results130 Tryz.ntmps131 Tryz.results131 Tryz.ntmps132 Tryz.results132 Tryz.ntmps133 Tryz.results133 Tryz.ntmps134 Tryz.results134 Tryz.ntmps135 Tryz.results135
attribute [go_sem] Tryz.ntmps136 Tryz.results136 Tryz.ntmps137 Tryz.results137 Tryz.ntmps138 Tryz.results138 Tryz.ntmps139 Tryz.results139 Tryz.ntmps140 Tryz.results140 Tryz.ntmps141 Tryz.results141 Tryz.ntmps142 Tryz.results142 Tryz.ntmps143 Tryz.results143
attribute [go_sem] Tryz.ntmps144 Tryz.results144 Tryz.ntmps145 Tryz.results145 Tryz.ntmps146 Tryz.results146 Tryz.ntmps147 Tryz.results147 Tryz.ntmps148 Tryz.results148 Tryz.ntmps149 Tryz.results149 Tryz.ntmps150 Tryz.results150 Tryz.ntmps151 Tryz.results151
attribute [go_sem] Tryz.ntmps152 Tryz.results152 Tryz.ntmps153 Tryz.results153 Tryz.ntmps154 Tryz.results154 Tryz.ntmps155 Tryz.results155 Tryz.ntmps156 Tryz.results156 Tryz.ntmps157 Tryz.results157 Tryz.ntmps158 Tryz.results158 Tryz.ntmps159 Tryz.results159
attribute [go_sem] Tryz.ntmps160 Tryz.results160 Tryz.ntmps161 Tryz.results161 Tryz.ntmps162 Tryz.results162 Tryz.ntmps163 Tryz.results163 Tryz.ntmps164 Tryz.results164 Tryz.ntmps165 Tryz.results165 Tryz.ntmps166 Tryz.results166 Tryz.ntmps167 Tryz.results167
attribute [go_sem] Tryz.ntmps168 Tryz.results168 Tryz.ntmps169 Tryz.results169 Tryz.ntmps170 Tryz.results170 Tryz.ntmps171 Tryz.results171 Tryz.ntmps172 Tryz.results172 Tryz.ntmps173 Tryz.results173 Tryz.ntmps174 Tryz.results174 Tryz.ntmps175 Tryz.results175
attribute [go_sem] Tryz.ntmps176 Tryz.results176 Tryz.ntmps177 Tryz.results177 Tryz.ntmps178 Tryz.results178 Tryz.ntmps179 Tryz.results179 Tryz.ntmps180 Tryz.results180 Tryz.ntmps181 Tryz.results181
end Go.Proofs.YtamlipffhimfmaaGreatDoor.Ty

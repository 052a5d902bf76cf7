/- Texts of mine, one behind another. -/
import Derived.Test.YtamlipffhimfmaaDoorMServeOne2
import Derived.Test.YtamlipffhimfmaaDoorProg
import Derived.KernelRfl
/- Closed facts on the types and functions of the translation, reckoned by the kernel. Written by a program of this session. -/
namespace Go.Proofs.YtamlipffhimfmaaDoor.Ty
set_option linter.unusedSimpArgs false
set_option linter.unusedVariables false
open Go Go.AX Go.Proofs
@[go_sem ↓] theorem sz_1 : Tryd.prog.cellsOf 1 = 1 := by kernel_rfl
@[go_sem ↓] theorem ag_1 : isAggU (Tryd.prog.underlying 1) = some false := by kernel_rfl
@[go_sem ↓] theorem zr_1 : zrOf Tryd.prog 1 = some [.nilFunc] := by kernel_rfl
@[go_sem ↓] theorem sz_2 : Tryd.prog.cellsOf 2 = 1 := by kernel_rfl
@[go_sem ↓] theorem ag_2 : isAggU (Tryd.prog.underlying 2) = some false := by kernel_rfl
@[go_sem ↓] theorem zr_2 : zrOf Tryd.prog 2 = some [(.int .i64 0)] := by kernel_rfl
@[go_sem ↓] theorem sz_3 : Tryd.prog.cellsOf 3 = 1 := by kernel_rfl
@[go_sem ↓] theorem ag_3 : isAggU (Tryd.prog.underlying 3) = some false := by kernel_rfl
@[go_sem ↓] theorem zr_3 : zrOf Tryd.prog 3 = some [(.int .i64 0)] := by kernel_rfl
@[go_sem ↓] theorem sz_4 : Tryd.prog.cellsOf 4 = 1 := by kernel_rfl
@[go_sem ↓] theorem ag_4 : isAggU (Tryd.prog.underlying 4) = some false := by kernel_rfl
@[go_sem ↓] theorem zr_4 : zrOf Tryd.prog 4 = some [(.bool false)] := by kernel_rfl
@[go_sem ↓] theorem sz_5 : Tryd.prog.cellsOf 5 = 1 := by kernel_rfl
@[go_sem ↓] theorem ag_5 : isAggU (Tryd.prog.underlying 5) = some false := by kernel_rfl
@[go_sem ↓] theorem zr_5 : zrOf Tryd.prog 5 = some [(.int .u8 0)] := by kernel_rfl
@[go_sem ↓] theorem sz_6 : Tryd.prog.cellsOf 6 = 1 := by kernel_rfl
@[go_sem ↓] theorem ag_6 : isAggU (Tryd.prog.underlying 6) = some false := by kernel_rfl
@[go_sem ↓] theorem if_6 : isIfU (Tryd.prog.underlying 6) = false := by kernel_rfl
@[go_sem ↓] theorem zr_6 : zrOf Tryd.prog 6 = some [(.int .u8 0)] := by kernel_rfl
@[go_sem ↓] theorem sz_7 : Tryd.prog.cellsOf 7 = 4 := by kernel_rfl
@[go_sem ↓] theorem ag_7 : isAggU (Tryd.prog.underlying 7) = some true := by kernel_rfl
@[go_sem ↓] theorem zr_7 : zrOf Tryd.prog 7 = some [(.int .i64 0), (.int .i64 0), (.bool false), (.int .u8 0)] := by kernel_rfl
@[go_sem ↓] theorem fo_7_0 : foOf Tryd.prog 7 0 = some 0 := by kernel_rfl
@[go_sem ↓] theorem pl_7_0 : plOf Tryd.prog 7 0 = some (0, 1) := by kernel_rfl
@[go_sem ↓] theorem fo_7_1 : foOf Tryd.prog 7 1 = some 1 := by kernel_rfl
@[go_sem ↓] theorem pl_7_1 : plOf Tryd.prog 7 1 = some (1, 1) := by kernel_rfl
@[go_sem ↓] theorem fo_7_2 : foOf Tryd.prog 7 2 = some 2 := by kernel_rfl
@[go_sem ↓] theorem pl_7_2 : plOf Tryd.prog 7 2 = some (2, 1) := by kernel_rfl
@[go_sem ↓] theorem fo_7_3 : foOf Tryd.prog 7 3 = some 3 := by kernel_rfl
@[go_sem ↓] theorem pl_7_3 : plOf Tryd.prog 7 3 = some (3, 1) := by kernel_rfl
@[go_sem ↓] theorem fl_7 : plOf1 Tryd.prog 7 = true := by kernel_rfl
@[go_sem ↓] theorem sz_8 : Tryd.prog.cellsOf 8 = 4 := by kernel_rfl
@[go_sem ↓] theorem ag_8 : isAggU (Tryd.prog.underlying 8) = some true := by kernel_rfl
@[go_sem ↓] theorem if_8 : isIfU (Tryd.prog.underlying 8) = false := by kernel_rfl
@[go_sem ↓] theorem zr_8 : zrOf Tryd.prog 8 = some [(.int .i64 0), (.int .i64 0), (.bool false), (.int .u8 0)] := by kernel_rfl
@[go_sem ↓] theorem fo_8_0 : foOf Tryd.prog 8 0 = some 0 := by kernel_rfl
@[go_sem ↓] theorem pl_8_0 : plOf Tryd.prog 8 0 = some (0, 1) := by kernel_rfl
@[go_sem ↓] theorem fo_8_1 : foOf Tryd.prog 8 1 = some 1 := by kernel_rfl
@[go_sem ↓] theorem pl_8_1 : plOf Tryd.prog 8 1 = some (1, 1) := by kernel_rfl
@[go_sem ↓] theorem fo_8_2 : foOf Tryd.prog 8 2 = some 2 := by kernel_rfl
@[go_sem ↓] theorem pl_8_2 : plOf Tryd.prog 8 2 = some (2, 1) := by kernel_rfl
@[go_sem ↓] theorem fo_8_3 : foOf Tryd.prog 8 3 = some 3 := by kernel_rfl
@[go_sem ↓] theorem pl_8_3 : plOf Tryd.prog 8 3 = some (3, 1) := by kernel_rfl
@[go_sem ↓] theorem fl_8 : plOf1 Tryd.prog 8 = true := by kernel_rfl
@[go_sem ↓] theorem sz_9 : Tryd.prog.cellsOf 9 = 1 := by kernel_rfl
@[go_sem ↓] theorem ag_9 : isAggU (Tryd.prog.underlying 9) = some false := by kernel_rfl
@[go_sem ↓] theorem if_9 : isIfU (Tryd.prog.underlying 9) = false := by kernel_rfl
@[go_sem ↓] theorem zr_9 : zrOf Tryd.prog 9 = some [(.string ⟨#[]⟩)] := by kernel_rfl
@[go_sem ↓] theorem sz_10 : Tryd.prog.cellsOf 10 = 1 := by kernel_rfl
@[go_sem ↓] theorem ag_10 : isAggU (Tryd.prog.underlying 10) = some false := by kernel_rfl
@[go_sem ↓] theorem if_10 : isIfU (Tryd.prog.underlying 10) = false := by kernel_rfl
@[go_sem ↓] theorem zr_10 : zrOf Tryd.prog 10 = some [(.string ⟨#[]⟩)] := by kernel_rfl
@[go_sem ↓] theorem sz_11 : Tryd.prog.cellsOf 11 = 1 := by kernel_rfl
@[go_sem ↓] theorem ag_11 : isAggU (Tryd.prog.underlying 11) = some false := by kernel_rfl
@[go_sem ↓] theorem if_11 : isIfU (Tryd.prog.underlying 11) = false := by kernel_rfl
@[go_sem ↓] theorem zr_11 : zrOf Tryd.prog 11 = some [(.string ⟨#[]⟩)] := by kernel_rfl
@[go_sem ↓] theorem sz_12 : Tryd.prog.cellsOf 12 = 1 := by kernel_rfl
@[go_sem ↓] theorem ag_12 : isAggU (Tryd.prog.underlying 12) = some false := by kernel_rfl
@[go_sem ↓] theorem zr_12 : zrOf Tryd.prog 12 = some [(.int .u64 0)] := by kernel_rfl
@[go_sem ↓] theorem sz_13 : Tryd.prog.cellsOf 13 = 2 := by kernel_rfl
@[go_sem ↓] theorem ag_13 : isAggU (Tryd.prog.underlying 13) = some true := by kernel_rfl
@[go_sem ↓] theorem zr_13 : zrOf Tryd.prog 13 = some [(.string ⟨#[]⟩), (.int .u64 0)] := by kernel_rfl
@[go_sem ↓] theorem fo_13_0 : foOf Tryd.prog 13 0 = some 0 := by kernel_rfl
@[go_sem ↓] theorem pl_13_0 : plOf Tryd.prog 13 0 = some (0, 1) := by kernel_rfl
@[go_sem ↓] theorem fo_13_1 : foOf Tryd.prog 13 1 = some 1 := by kernel_rfl
@[go_sem ↓] theorem pl_13_1 : plOf Tryd.prog 13 1 = some (1, 1) := by kernel_rfl
@[go_sem ↓] theorem fl_13 : plOf1 Tryd.prog 13 = true := by kernel_rfl
@[go_sem ↓] theorem sz_14 : Tryd.prog.cellsOf 14 = 2 := by kernel_rfl
@[go_sem ↓] theorem ag_14 : isAggU (Tryd.prog.underlying 14) = some true := by kernel_rfl
@[go_sem ↓] theorem if_14 : isIfU (Tryd.prog.underlying 14) = false := by kernel_rfl
@[go_sem ↓] theorem zr_14 : zrOf Tryd.prog 14 = some [(.string ⟨#[]⟩), (.int .u64 0)] := by kernel_rfl
@[go_sem ↓] theorem fo_14_0 : foOf Tryd.prog 14 0 = some 0 := by kernel_rfl
@[go_sem ↓] theorem pl_14_0 : plOf Tryd.prog 14 0 = some (0, 1) := by kernel_rfl
@[go_sem ↓] theorem fo_14_1 : foOf Tryd.prog 14 1 = some 1 := by kernel_rfl
@[go_sem ↓] theorem pl_14_1 : plOf Tryd.prog 14 1 = some (1, 1) := by kernel_rfl
@[go_sem ↓] theorem fl_14 : plOf1 Tryd.prog 14 = true := by kernel_rfl
@[go_sem ↓] theorem sz_15 : Tryd.prog.cellsOf 15 = 1 := by kernel_rfl
@[go_sem ↓] theorem ag_15 : isAggU (Tryd.prog.underlying 15) = some false := by kernel_rfl
@[go_sem ↓] theorem if_15 : isIfU (Tryd.prog.underlying 15) = false := by kernel_rfl
@[go_sem ↓] theorem zr_15 : zrOf Tryd.prog 15 = some [(.pointer none)] := by kernel_rfl
@[go_sem ↓] theorem sz_16 : Tryd.prog.cellsOf 16 = 1 := by kernel_rfl
@[go_sem ↓] theorem ag_16 : isAggU (Tryd.prog.underlying 16) = some false := by kernel_rfl
@[go_sem ↓] theorem if_16 : isIfU (Tryd.prog.underlying 16) = false := by kernel_rfl
@[go_sem ↓] theorem zr_16 : zrOf Tryd.prog 16 = some [(.pointer none)] := by kernel_rfl
@[go_sem ↓] theorem sz_17 : Tryd.prog.cellsOf 17 = 1 := by kernel_rfl
@[go_sem ↓] theorem ag_17 : isAggU (Tryd.prog.underlying 17) = some false := by kernel_rfl
@[go_sem ↓] theorem if_17 : isIfU (Tryd.prog.underlying 17) = false := by kernel_rfl
@[go_sem ↓] theorem zr_17 : zrOf Tryd.prog 17 = some [(.pointer none)] := by kernel_rfl
@[go_sem ↓] theorem sz_18 : Tryd.prog.cellsOf 18 = 1 := by kernel_rfl
@[go_sem ↓] theorem ag_18 : isAggU (Tryd.prog.underlying 18) = some true := by kernel_rfl
@[go_sem ↓] theorem zr_18 : zrOf Tryd.prog 18 = some [(.pointer none)] := by kernel_rfl
@[go_sem ↓] theorem fo_18_0 : foOf Tryd.prog 18 0 = some 0 := by kernel_rfl
@[go_sem ↓] theorem pl_18_0 : plOf Tryd.prog 18 0 = some (0, 1) := by kernel_rfl
@[go_sem ↓] theorem fl_18 : plOf1 Tryd.prog 18 = true := by kernel_rfl
@[go_sem ↓] theorem sz_19 : Tryd.prog.cellsOf 19 = 1 := by kernel_rfl
@[go_sem ↓] theorem ag_19 : isAggU (Tryd.prog.underlying 19) = some true := by kernel_rfl
@[go_sem ↓] theorem if_19 : isIfU (Tryd.prog.underlying 19) = false := by kernel_rfl
@[go_sem ↓] theorem zr_19 : zrOf Tryd.prog 19 = some [(.pointer none)] := by kernel_rfl
@[go_sem ↓] theorem fo_19_0 : foOf Tryd.prog 19 0 = some 0 := by kernel_rfl
@[go_sem ↓] theorem pl_19_0 : plOf Tryd.prog 19 0 = some (0, 1) := by kernel_rfl
@[go_sem ↓] theorem fl_19 : plOf1 Tryd.prog 19 = true := by kernel_rfl
@[go_sem ↓] theorem sz_20 : Tryd.prog.cellsOf 20 = 1 := by kernel_rfl
@[go_sem ↓] theorem ag_20 : isAggU (Tryd.prog.underlying 20) = some false := by kernel_rfl
@[go_sem ↓] theorem zr_20 : zrOf Tryd.prog 20 = some [.nilIface] := by kernel_rfl
@[go_sem ↓] theorem sz_21 : Tryd.prog.cellsOf 21 = 1 := by kernel_rfl
@[go_sem ↓] theorem ag_21 : isAggU (Tryd.prog.underlying 21) = some false := by kernel_rfl
@[go_sem ↓] theorem zr_21 : zrOf Tryd.prog 21 = some [(.int .i32 0)] := by kernel_rfl
@[go_sem ↓] theorem sz_22 : Tryd.prog.cellsOf 22 = 1 := by kernel_rfl
@[go_sem ↓] theorem ag_22 : isAggU (Tryd.prog.underlying 22) = some false := by kernel_rfl
@[go_sem ↓] theorem es_22 : elSz Tryd.prog 22 = 3 := by kernel_rfl
@[go_sem ↓] theorem zr_22 : zrOf Tryd.prog 22 = some [(.slice none 0 0)] := by kernel_rfl
@[go_sem ↓] theorem sz_23 : Tryd.prog.cellsOf 23 = 3 := by kernel_rfl
@[go_sem ↓] theorem ag_23 : isAggU (Tryd.prog.underlying 23) = some true := by kernel_rfl
@[go_sem ↓] theorem zr_23 : zrOf Tryd.prog 23 = some [(.int .i64 0), (.int .i64 0), (.int .i64 0)] := by kernel_rfl
@[go_sem ↓] theorem fo_23_0 : foOf Tryd.prog 23 0 = some 0 := by kernel_rfl
@[go_sem ↓] theorem pl_23_0 : plOf Tryd.prog 23 0 = some (0, 1) := by kernel_rfl
@[go_sem ↓] theorem fo_23_1 : foOf Tryd.prog 23 1 = some 1 := by kernel_rfl
@[go_sem ↓] theorem pl_23_1 : plOf Tryd.prog 23 1 = some (1, 1) := by kernel_rfl
@[go_sem ↓] theorem fo_23_2 : foOf Tryd.prog 23 2 = some 2 := by kernel_rfl
@[go_sem ↓] theorem pl_23_2 : plOf Tryd.prog 23 2 = some (2, 1) := by kernel_rfl
@[go_sem ↓] theorem fl_23 : plOf1 Tryd.prog 23 = true := by kernel_rfl
@[go_sem ↓] theorem sz_24 : Tryd.prog.cellsOf 24 = 3 := by kernel_rfl
@[go_sem ↓] theorem ag_24 : isAggU (Tryd.prog.underlying 24) = some true := by kernel_rfl
@[go_sem ↓] theorem if_24 : isIfU (Tryd.prog.underlying 24) = false := by kernel_rfl
@[go_sem ↓] theorem zr_24 : zrOf Tryd.prog 24 = some [(.int .i64 0), (.int .i64 0), (.int .i64 0)] := by kernel_rfl
@[go_sem ↓] theorem fo_24_0 : foOf Tryd.prog 24 0 = some 0 := by kernel_rfl
@[go_sem ↓] theorem pl_24_0 : plOf Tryd.prog 24 0 = some (0, 1) := by kernel_rfl
@[go_sem ↓] theorem fo_24_1 : foOf Tryd.prog 24 1 = some 1 := by kernel_rfl
@[go_sem ↓] theorem pl_24_1 : plOf Tryd.prog 24 1 = some (1, 1) := by kernel_rfl
@[go_sem ↓] theorem fo_24_2 : foOf Tryd.prog 24 2 = some 2 := by kernel_rfl
@[go_sem ↓] theorem pl_24_2 : plOf Tryd.prog 24 2 = some (2, 1) := by kernel_rfl
@[go_sem ↓] theorem fl_24 : plOf1 Tryd.prog 24 = true := by kernel_rfl
@[go_sem ↓] theorem sz_25 : Tryd.prog.cellsOf 25 = 4 := by kernel_rfl
@[go_sem ↓] theorem ag_25 : isAggU (Tryd.prog.underlying 25) = some true := by kernel_rfl
@[go_sem ↓] theorem es_25 : elSz Tryd.prog 25 = 1 := by kernel_rfl
@[go_sem ↓] theorem zr_25 : zrOf Tryd.prog 25 = some [(.int .u8 0), (.int .u8 0), (.int .u8 0), (.int .u8 0)] := by kernel_rfl
@[go_sem ↓] theorem fl_25 : plOf1 Tryd.prog 25 = true := by kernel_rfl
@[go_sem ↓] theorem pl_25_0 : plOf Tryd.prog 25 0 = some (0, 1) := by kernel_rfl
@[go_sem ↓] theorem pl_25_1 : plOf Tryd.prog 25 1 = some (1, 1) := by kernel_rfl
@[go_sem ↓] theorem pl_25_2 : plOf Tryd.prog 25 2 = some (2, 1) := by kernel_rfl
@[go_sem ↓] theorem pl_25_3 : plOf Tryd.prog 25 3 = some (3, 1) := by kernel_rfl
@[go_sem ↓] theorem sz_26 : Tryd.prog.cellsOf 26 = 4 := by kernel_rfl
@[go_sem ↓] theorem ag_26 : isAggU (Tryd.prog.underlying 26) = some true := by kernel_rfl
@[go_sem ↓] theorem if_26 : isIfU (Tryd.prog.underlying 26) = false := by kernel_rfl
@[go_sem ↓] theorem es_26 : elSz Tryd.prog 26 = 1 := by kernel_rfl
@[go_sem ↓] theorem zr_26 : zrOf Tryd.prog 26 = some [(.int .u8 0), (.int .u8 0), (.int .u8 0), (.int .u8 0)] := by kernel_rfl
@[go_sem ↓] theorem fl_26 : plOf1 Tryd.prog 26 = true := by kernel_rfl
@[go_sem ↓] theorem pl_26_0 : plOf Tryd.prog 26 0 = some (0, 1) := by kernel_rfl
@[go_sem ↓] theorem pl_26_1 : plOf Tryd.prog 26 1 = some (1, 1) := by kernel_rfl
@[go_sem ↓] theorem pl_26_2 : plOf Tryd.prog 26 2 = some (2, 1) := by kernel_rfl
@[go_sem ↓] theorem pl_26_3 : plOf Tryd.prog 26 3 = some (3, 1) := by kernel_rfl
@[go_sem ↓] theorem sz_27 : Tryd.prog.cellsOf 27 = 1 := by kernel_rfl
@[go_sem ↓] theorem ag_27 : isAggU (Tryd.prog.underlying 27) = some false := by kernel_rfl
@[go_sem ↓] theorem if_27 : isIfU (Tryd.prog.underlying 27) = false := by kernel_rfl
@[go_sem ↓] theorem zr_27 : zrOf Tryd.prog 27 = some [(.pointer none)] := by kernel_rfl
@[go_sem ↓] theorem sz_28 : Tryd.prog.cellsOf 28 = 1 := by kernel_rfl
@[go_sem ↓] theorem ag_28 : isAggU (Tryd.prog.underlying 28) = some false := by kernel_rfl
@[go_sem ↓] theorem if_28 : isIfU (Tryd.prog.underlying 28) = false := by kernel_rfl
@[go_sem ↓] theorem zr_28 : zrOf Tryd.prog 28 = some [(.pointer none)] := by kernel_rfl
@[go_sem ↓] theorem sz_30 : Tryd.prog.cellsOf 30 = 1 := by kernel_rfl
@[go_sem ↓] theorem ag_30 : isAggU (Tryd.prog.underlying 30) = some false := by kernel_rfl
@[go_sem ↓] theorem zr_30 : zrOf Tryd.prog 30 = some [.nilFunc] := by kernel_rfl
@[go_sem ↓] theorem sz_31 : Tryd.prog.cellsOf 31 = 1 := by kernel_rfl
@[go_sem ↓] theorem ag_31 : isAggU (Tryd.prog.underlying 31) = some false := by kernel_rfl
@[go_sem ↓] theorem zr_31 : zrOf Tryd.prog 31 = some [.nilFunc] := by kernel_rfl
@[go_sem ↓] theorem sz_32 : Tryd.prog.cellsOf 32 = 1 := by kernel_rfl
@[go_sem ↓] theorem ag_32 : isAggU (Tryd.prog.underlying 32) = some false := by kernel_rfl
@[go_sem ↓] theorem if_32 : isIfU (Tryd.prog.underlying 32) = false := by kernel_rfl
@[go_sem ↓] theorem zr_32 : zrOf Tryd.prog 32 = some [(.int .i64 0)] := by kernel_rfl
@[go_sem ↓] theorem sz_34 : Tryd.prog.cellsOf 34 = 1 := by kernel_rfl
@[go_sem ↓] theorem ag_34 : isAggU (Tryd.prog.underlying 34) = some false := by kernel_rfl
@[go_sem ↓] theorem zr_34 : zrOf Tryd.prog 34 = some [.nilFunc] := by kernel_rfl
@[go_sem ↓] theorem sz_35 : Tryd.prog.cellsOf 35 = 1 := by kernel_rfl
@[go_sem ↓] theorem ag_35 : isAggU (Tryd.prog.underlying 35) = some false := by kernel_rfl
@[go_sem ↓] theorem zr_35 : zrOf Tryd.prog 35 = some [(.map none)] := by kernel_rfl
@[go_sem ↓] theorem sz_36 : Tryd.prog.cellsOf 36 = 1 := by kernel_rfl
@[go_sem ↓] theorem ag_36 : isAggU (Tryd.prog.underlying 36) = some false := by kernel_rfl
@[go_sem ↓] theorem zr_36 : zrOf Tryd.prog 36 = some [.nilFunc] := by kernel_rfl
@[go_sem ↓] theorem sz_37 : Tryd.prog.cellsOf 37 = 1 := by kernel_rfl
@[go_sem ↓] theorem ag_37 : isAggU (Tryd.prog.underlying 37) = some false := by kernel_rfl
@[go_sem ↓] theorem zr_37 : zrOf Tryd.prog 37 = some [.nilFunc] := by kernel_rfl
@[go_sem ↓] theorem sz_38 : Tryd.prog.cellsOf 38 = 1 := by kernel_rfl
@[go_sem ↓] theorem ag_38 : isAggU (Tryd.prog.underlying 38) = some false := by kernel_rfl
@[go_sem ↓] theorem zr_38 : zrOf Tryd.prog 38 = some [.nilFunc] := by kernel_rfl
@[go_sem ↓] theorem sz_39 : Tryd.prog.cellsOf 39 = 1 := by kernel_rfl
@[go_sem ↓] theorem ag_39 : isAggU (Tryd.prog.underlying 39) = some false := by kernel_rfl
@[go_sem ↓] theorem zr_39 : zrOf Tryd.prog 39 = some [.nilFunc] := by kernel_rfl
@[go_sem ↓] theorem sz_40 : Tryd.prog.cellsOf 40 = 1 := by kernel_rfl
@[go_sem ↓] theorem ag_40 : isAggU (Tryd.prog.underlying 40) = some false := by kernel_rfl
@[go_sem ↓] theorem zr_40 : zrOf Tryd.prog 40 = some [.nilFunc] := by kernel_rfl
@[go_sem ↓] theorem sz_41 : Tryd.prog.cellsOf 41 = 2 := by kernel_rfl
@[go_sem ↓] theorem ag_41 : isAggU (Tryd.prog.underlying 41) = some true := by kernel_rfl
@[go_sem ↓] theorem zr_41 : zrOf Tryd.prog 41 = some [(.slice none 0 0), (.int .i64 0)] := by kernel_rfl
@[go_sem ↓] theorem fo_41_0 : foOf Tryd.prog 41 0 = some 0 := by kernel_rfl
@[go_sem ↓] theorem pl_41_0 : plOf Tryd.prog 41 0 = some (0, 1) := by kernel_rfl
@[go_sem ↓] theorem fo_41_1 : foOf Tryd.prog 41 1 = some 1 := by kernel_rfl
@[go_sem ↓] theorem pl_41_1 : plOf Tryd.prog 41 1 = some (1, 1) := by kernel_rfl
@[go_sem ↓] theorem fl_41 : plOf1 Tryd.prog 41 = true := by kernel_rfl
@[go_sem ↓] theorem sz_42 : Tryd.prog.cellsOf 42 = 2 := by kernel_rfl
@[go_sem ↓] theorem ag_42 : isAggU (Tryd.prog.underlying 42) = some true := by kernel_rfl
@[go_sem ↓] theorem if_42 : isIfU (Tryd.prog.underlying 42) = false := by kernel_rfl
@[go_sem ↓] theorem zr_42 : zrOf Tryd.prog 42 = some [(.slice none 0 0), (.int .i64 0)] := by kernel_rfl
@[go_sem ↓] theorem fo_42_0 : foOf Tryd.prog 42 0 = some 0 := by kernel_rfl
@[go_sem ↓] theorem pl_42_0 : plOf Tryd.prog 42 0 = some (0, 1) := by kernel_rfl
@[go_sem ↓] theorem fo_42_1 : foOf Tryd.prog 42 1 = some 1 := by kernel_rfl
@[go_sem ↓] theorem pl_42_1 : plOf Tryd.prog 42 1 = some (1, 1) := by kernel_rfl
@[go_sem ↓] theorem fl_42 : plOf1 Tryd.prog 42 = true := by kernel_rfl
@[go_sem ↓] theorem sz_43 : Tryd.prog.cellsOf 43 = 1 := by kernel_rfl
@[go_sem ↓] theorem ag_43 : isAggU (Tryd.prog.underlying 43) = some false := by kernel_rfl
@[go_sem ↓] theorem zr_43 : zrOf Tryd.prog 43 = some [.nilFunc] := by kernel_rfl
@[go_sem ↓] theorem sz_44 : Tryd.prog.cellsOf 44 = 1 := by kernel_rfl
@[go_sem ↓] theorem ag_44 : isAggU (Tryd.prog.underlying 44) = some false := by kernel_rfl
@[go_sem ↓] theorem es_44 : elSz Tryd.prog 44 = 4 := by kernel_rfl
@[go_sem ↓] theorem zr_44 : zrOf Tryd.prog 44 = some [(.slice none 0 0)] := by kernel_rfl
@[go_sem ↓] theorem sz_45 : Tryd.prog.cellsOf 45 = 2 := by kernel_rfl
@[go_sem ↓] theorem ag_45 : isAggU (Tryd.prog.underlying 45) = some true := by kernel_rfl
@[go_sem ↓] theorem zr_45 : zrOf Tryd.prog 45 = some [(.int .i64 0), (.slice none 0 0)] := by kernel_rfl
@[go_sem ↓] theorem fo_45_0 : foOf Tryd.prog 45 0 = some 0 := by kernel_rfl
@[go_sem ↓] theorem pl_45_0 : plOf Tryd.prog 45 0 = some (0, 1) := by kernel_rfl
@[go_sem ↓] theorem fo_45_1 : foOf Tryd.prog 45 1 = some 1 := by kernel_rfl
@[go_sem ↓] theorem pl_45_1 : plOf Tryd.prog 45 1 = some (1, 1) := by kernel_rfl
@[go_sem ↓] theorem fl_45 : plOf1 Tryd.prog 45 = true := by kernel_rfl
@[go_sem ↓] theorem sz_46 : Tryd.prog.cellsOf 46 = 2 := by kernel_rfl
@[go_sem ↓] theorem ag_46 : isAggU (Tryd.prog.underlying 46) = some true := by kernel_rfl
@[go_sem ↓] theorem if_46 : isIfU (Tryd.prog.underlying 46) = false := by kernel_rfl
@[go_sem ↓] theorem zr_46 : zrOf Tryd.prog 46 = some [(.int .i64 0), (.slice none 0 0)] := by kernel_rfl
@[go_sem ↓] theorem fo_46_0 : foOf Tryd.prog 46 0 = some 0 := by kernel_rfl
@[go_sem ↓] theorem pl_46_0 : plOf Tryd.prog 46 0 = some (0, 1) := by kernel_rfl
@[go_sem ↓] theorem fo_46_1 : foOf Tryd.prog 46 1 = some 1 := by kernel_rfl
@[go_sem ↓] theorem pl_46_1 : plOf Tryd.prog 46 1 = some (1, 1) := by kernel_rfl
@[go_sem ↓] theorem fl_46 : plOf1 Tryd.prog 46 = true := by kernel_rfl
@[go_sem ↓] theorem sz_47 : Tryd.prog.cellsOf 47 = 3 := by kernel_rfl
@[go_sem ↓] theorem ag_47 : isAggU (Tryd.prog.underlying 47) = some true := by kernel_rfl
@[go_sem ↓] theorem zr_47 : zrOf Tryd.prog 47 = some [(.int .i64 0), (.int .i64 0), (.slice none 0 0)] := by kernel_rfl
@[go_sem ↓] theorem fo_47_0 : foOf Tryd.prog 47 0 = some 0 := by kernel_rfl
@[go_sem ↓] theorem pl_47_0 : plOf Tryd.prog 47 0 = some (0, 1) := by kernel_rfl
@[go_sem ↓] theorem fo_47_1 : foOf Tryd.prog 47 1 = some 1 := by kernel_rfl
@[go_sem ↓] theorem pl_47_1 : plOf Tryd.prog 47 1 = some (1, 2) := by kernel_rfl
@[go_sem ↓] theorem fl_47 : plOf1 Tryd.prog 47 = true := by kernel_rfl
@[go_sem ↓] theorem sz_48 : Tryd.prog.cellsOf 48 = 3 := by kernel_rfl
@[go_sem ↓] theorem ag_48 : isAggU (Tryd.prog.underlying 48) = some true := by kernel_rfl
@[go_sem ↓] theorem if_48 : isIfU (Tryd.prog.underlying 48) = false := by kernel_rfl
@[go_sem ↓] theorem zr_48 : zrOf Tryd.prog 48 = some [(.int .i64 0), (.int .i64 0), (.slice none 0 0)] := by kernel_rfl
@[go_sem ↓] theorem fo_48_0 : foOf Tryd.prog 48 0 = some 0 := by kernel_rfl
@[go_sem ↓] theorem pl_48_0 : plOf Tryd.prog 48 0 = some (0, 1) := by kernel_rfl
@[go_sem ↓] theorem fo_48_1 : foOf Tryd.prog 48 1 = some 1 := by kernel_rfl
@[go_sem ↓] theorem pl_48_1 : plOf Tryd.prog 48 1 = some (1, 2) := by kernel_rfl
@[go_sem ↓] theorem fl_48 : plOf1 Tryd.prog 48 = true := by kernel_rfl
@[go_sem ↓] theorem sz_49 : Tryd.prog.cellsOf 49 = 1 := by kernel_rfl
@[go_sem ↓] theorem ag_49 : isAggU (Tryd.prog.underlying 49) = some false := by kernel_rfl
@[go_sem ↓] theorem es_49 : elSz Tryd.prog 49 = 1 := by kernel_rfl
@[go_sem ↓] theorem zr_49 : zrOf Tryd.prog 49 = some [(.slice none 0 0)] := by kernel_rfl
@[go_sem ↓] theorem sz_50 : Tryd.prog.cellsOf 50 = 1 := by kernel_rfl
@[go_sem ↓] theorem ag_50 : isAggU (Tryd.prog.underlying 50) = some false := by kernel_rfl
@[go_sem ↓] theorem zr_50 : zrOf Tryd.prog 50 = some [.nilFunc] := by kernel_rfl
@[go_sem ↓] theorem sz_51 : Tryd.prog.cellsOf 51 = 1 := by kernel_rfl
@[go_sem ↓] theorem ag_51 : isAggU (Tryd.prog.underlying 51) = some false := by kernel_rfl
@[go_sem ↓] theorem zr_51 : zrOf Tryd.prog 51 = some [.nilFunc] := by kernel_rfl
@[go_sem ↓] theorem sz_52 : Tryd.prog.cellsOf 52 = 1 := by kernel_rfl
@[go_sem ↓] theorem ag_52 : isAggU (Tryd.prog.underlying 52) = some false := by kernel_rfl
@[go_sem ↓] theorem if_52 : isIfU (Tryd.prog.underlying 52) = false := by kernel_rfl
@[go_sem ↓] theorem zr_52 : zrOf Tryd.prog 52 = some [.nilFunc] := by kernel_rfl
@[go_sem ↓] theorem sz_53 : Tryd.prog.cellsOf 53 = 1 := by kernel_rfl
@[go_sem ↓] theorem ag_53 : isAggU (Tryd.prog.underlying 53) = some false := by kernel_rfl
@[go_sem ↓] theorem zr_53 : zrOf Tryd.prog 53 = some [.nilFunc] := by kernel_rfl
@[go_sem ↓] theorem sz_54 : Tryd.prog.cellsOf 54 = 1 := by kernel_rfl
@[go_sem ↓] theorem ag_54 : isAggU (Tryd.prog.underlying 54) = some false := by kernel_rfl
@[go_sem ↓] theorem zr_54 : zrOf Tryd.prog 54 = some [(.map none)] := by kernel_rfl
@[go_sem ↓] theorem sz_55 : Tryd.prog.cellsOf 55 = 2 := by kernel_rfl
@[go_sem ↓] theorem ag_55 : isAggU (Tryd.prog.underlying 55) = some true := by kernel_rfl
@[go_sem ↓] theorem zr_55 : zrOf Tryd.prog 55 = some [(.map none), (.int .i64 0)] := by kernel_rfl
@[go_sem ↓] theorem fo_55_0 : foOf Tryd.prog 55 0 = some 0 := by kernel_rfl
@[go_sem ↓] theorem pl_55_0 : plOf Tryd.prog 55 0 = some (0, 1) := by kernel_rfl
@[go_sem ↓] theorem fo_55_1 : foOf Tryd.prog 55 1 = some 1 := by kernel_rfl
@[go_sem ↓] theorem pl_55_1 : plOf Tryd.prog 55 1 = some (1, 1) := by kernel_rfl
@[go_sem ↓] theorem fl_55 : plOf1 Tryd.prog 55 = true := by kernel_rfl
@[go_sem ↓] theorem sz_56 : Tryd.prog.cellsOf 56 = 2 := by kernel_rfl
@[go_sem ↓] theorem ag_56 : isAggU (Tryd.prog.underlying 56) = some true := by kernel_rfl
@[go_sem ↓] theorem if_56 : isIfU (Tryd.prog.underlying 56) = false := by kernel_rfl
@[go_sem ↓] theorem zr_56 : zrOf Tryd.prog 56 = some [(.map none), (.int .i64 0)] := by kernel_rfl
@[go_sem ↓] theorem fo_56_0 : foOf Tryd.prog 56 0 = some 0 := by kernel_rfl
@[go_sem ↓] theorem pl_56_0 : plOf Tryd.prog 56 0 = some (0, 1) := by kernel_rfl
@[go_sem ↓] theorem fo_56_1 : foOf Tryd.prog 56 1 = some 1 := by kernel_rfl
@[go_sem ↓] theorem pl_56_1 : plOf Tryd.prog 56 1 = some (1, 1) := by kernel_rfl
@[go_sem ↓] theorem fl_56 : plOf1 Tryd.prog 56 = true := by kernel_rfl
@[go_sem ↓] theorem sz_57 : Tryd.prog.cellsOf 57 = 1 := by kernel_rfl
@[go_sem ↓] theorem ag_57 : isAggU (Tryd.prog.underlying 57) = some false := by kernel_rfl
@[go_sem ↓] theorem zr_57 : zrOf Tryd.prog 57 = some [.nilFunc] := by kernel_rfl
@[go_sem ↓] theorem sz_58 : Tryd.prog.cellsOf 58 = 1 := by kernel_rfl
@[go_sem ↓] theorem ag_58 : isAggU (Tryd.prog.underlying 58) = some false := by kernel_rfl
@[go_sem ↓] theorem zr_58 : zrOf Tryd.prog 58 = some [.nilFunc] := by kernel_rfl
@[go_sem ↓] theorem sz_60 : Tryd.prog.cellsOf 60 = 1 := by kernel_rfl
@[go_sem ↓] theorem ag_60 : isAggU (Tryd.prog.underlying 60) = some false := by kernel_rfl
@[go_sem ↓] theorem zr_60 : zrOf Tryd.prog 60 = some [.nilFunc] := by kernel_rfl
@[go_sem ↓] theorem sz_61 : Tryd.prog.cellsOf 61 = 5 := by kernel_rfl
@[go_sem ↓] theorem ag_61 : isAggU (Tryd.prog.underlying 61) = some true := by kernel_rfl
@[go_sem ↓] theorem es_61 : elSz Tryd.prog 61 = 1 := by kernel_rfl
@[go_sem ↓] theorem zr_61 : zrOf Tryd.prog 61 = some [(.int .u8 0), (.int .u8 0), (.int .u8 0), (.int .u8 0), (.int .u8 0)] := by kernel_rfl
@[go_sem ↓] theorem fl_61 : plOf1 Tryd.prog 61 = true := by kernel_rfl
@[go_sem ↓] theorem pl_61_0 : plOf Tryd.prog 61 0 = some (0, 1) := by kernel_rfl
@[go_sem ↓] theorem pl_61_1 : plOf Tryd.prog 61 1 = some (1, 1) := by kernel_rfl
@[go_sem ↓] theorem pl_61_2 : plOf Tryd.prog 61 2 = some (2, 1) := by kernel_rfl
@[go_sem ↓] theorem pl_61_3 : plOf Tryd.prog 61 3 = some (3, 1) := by kernel_rfl
@[go_sem ↓] theorem pl_61_4 : plOf Tryd.prog 61 4 = some (4, 1) := by kernel_rfl
@[go_sem ↓] theorem sz_62 : Tryd.prog.cellsOf 62 = 1 := by kernel_rfl
@[go_sem ↓] theorem ag_62 : isAggU (Tryd.prog.underlying 62) = some false := by kernel_rfl
@[go_sem ↓] theorem zr_62 : zrOf Tryd.prog 62 = some [.nilFunc] := by kernel_rfl
@[go_sem ↓] theorem sz_64 : Tryd.prog.cellsOf 64 = 1 := by kernel_rfl
@[go_sem ↓] theorem ag_64 : isAggU (Tryd.prog.underlying 64) = some false := by kernel_rfl
@[go_sem ↓] theorem zr_64 : zrOf Tryd.prog 64 = some [.nilFunc] := by kernel_rfl
@[go_sem ↓] theorem sz_65 : Tryd.prog.cellsOf 65 = 1 := by kernel_rfl
@[go_sem ↓] theorem ag_65 : isAggU (Tryd.prog.underlying 65) = some false := by kernel_rfl
@[go_sem ↓] theorem zr_65 : zrOf Tryd.prog 65 = some [.nilFunc] := by kernel_rfl
@[go_sem ↓] theorem sz_66 : Tryd.prog.cellsOf 66 = 1 := by kernel_rfl
@[go_sem ↓] theorem ag_66 : isAggU (Tryd.prog.underlying 66) = some false := by kernel_rfl
@[go_sem ↓] theorem zr_66 : zrOf Tryd.prog 66 = some [.nilFunc] := by kernel_rfl
@[go_sem ↓] theorem sz_68 : Tryd.prog.cellsOf 68 = 1 := by kernel_rfl
@[go_sem ↓] theorem ag_68 : isAggU (Tryd.prog.underlying 68) = some false := by kernel_rfl
@[go_sem ↓] theorem zr_68 : zrOf Tryd.prog 68 = some [.nilFunc] := by kernel_rfl
@[go_sem ↓] theorem sz_70 : Tryd.prog.cellsOf 70 = 1 := by kernel_rfl
@[go_sem ↓] theorem ag_70 : isAggU (Tryd.prog.underlying 70) = some false := by kernel_rfl
@[go_sem ↓] theorem zr_70 : zrOf Tryd.prog 70 = some [.nilFunc] := by kernel_rfl
@[go_sem ↓] theorem sz_71 : Tryd.prog.cellsOf 71 = 1 := by kernel_rfl
@[go_sem ↓] theorem ag_71 : isAggU (Tryd.prog.underlying 71) = some false := by kernel_rfl
@[go_sem ↓] theorem zr_71 : zrOf Tryd.prog 71 = some [.nilFunc] := by kernel_rfl
@[go_sem ↓] theorem sz_72 : Tryd.prog.cellsOf 72 = 1 := by kernel_rfl
@[go_sem ↓] theorem ag_72 : isAggU (Tryd.prog.underlying 72) = some false := by kernel_rfl
@[go_sem ↓] theorem zr_72 : zrOf Tryd.prog 72 = some [.nilFunc] := by kernel_rfl
@[go_sem ↓] theorem sz_74 : Tryd.prog.cellsOf 74 = 1 := by kernel_rfl
@[go_sem ↓] theorem ag_74 : isAggU (Tryd.prog.underlying 74) = some false := by kernel_rfl
@[go_sem ↓] theorem zr_74 : zrOf Tryd.prog 74 = some [.nilFunc] := by kernel_rfl
@[go_sem ↓] theorem sz_75 : Tryd.prog.cellsOf 75 = 1 := by kernel_rfl
@[go_sem ↓] theorem ag_75 : isAggU (Tryd.prog.underlying 75) = some false := by kernel_rfl
@[go_sem ↓] theorem zr_75 : zrOf Tryd.prog 75 = some [.nilFunc] := by kernel_rfl
@[go_sem ↓] theorem sz_76 : Tryd.prog.cellsOf 76 = 1 := by kernel_rfl
@[go_sem ↓] theorem ag_76 : isAggU (Tryd.prog.underlying 76) = some false := by kernel_rfl
@[go_sem ↓] theorem zr_76 : zrOf Tryd.prog 76 = some [.nilFunc] := by kernel_rfl
@[go_sem ↓] theorem sz_77 : Tryd.prog.cellsOf 77 = 2 := by kernel_rfl
@[go_sem ↓] theorem ag_77 : isAggU (Tryd.prog.underlying 77) = some true := by kernel_rfl
@[go_sem ↓] theorem es_77 : elSz Tryd.prog 77 = 1 := by kernel_rfl
@[go_sem ↓] theorem zr_77 : zrOf Tryd.prog 77 = some [(.int .u8 0), (.int .u8 0)] := by kernel_rfl
@[go_sem ↓] theorem fl_77 : plOf1 Tryd.prog 77 = true := by kernel_rfl
@[go_sem ↓] theorem pl_77_0 : plOf Tryd.prog 77 0 = some (0, 1) := by kernel_rfl
@[go_sem ↓] theorem pl_77_1 : plOf Tryd.prog 77 1 = some (1, 1) := by kernel_rfl
@[go_sem ↓] theorem sz_79 : Tryd.prog.cellsOf 79 = 1 := by kernel_rfl
@[go_sem ↓] theorem ag_79 : isAggU (Tryd.prog.underlying 79) = some false := by kernel_rfl
@[go_sem ↓] theorem zr_79 : zrOf Tryd.prog 79 = some [.nilFunc] := by kernel_rfl
@[go_sem ↓] theorem sz_80 : Tryd.prog.cellsOf 80 = 1 := by kernel_rfl
@[go_sem ↓] theorem ag_80 : isAggU (Tryd.prog.underlying 80) = some false := by kernel_rfl
@[go_sem ↓] theorem zr_80 : zrOf Tryd.prog 80 = some [.nilFunc] := by kernel_rfl
@[go_sem ↓] theorem sz_81 : Tryd.prog.cellsOf 81 = 1 := by kernel_rfl
@[go_sem ↓] theorem ag_81 : isAggU (Tryd.prog.underlying 81) = some false := by kernel_rfl
@[go_sem ↓] theorem es_81 : elSz Tryd.prog 81 = 1 := by kernel_rfl
@[go_sem ↓] theorem zr_81 : zrOf Tryd.prog 81 = some [(.slice none 0 0)] := by kernel_rfl
@[go_sem ↓] theorem sz_82 : Tryd.prog.cellsOf 82 = 1 := by kernel_rfl
@[go_sem ↓] theorem ag_82 : isAggU (Tryd.prog.underlying 82) = some false := by kernel_rfl
@[go_sem ↓] theorem zr_82 : zrOf Tryd.prog 82 = some [.nilIface] := by kernel_rfl
@[go_sem ↓] theorem sz_83 : Tryd.prog.cellsOf 83 = 1 := by kernel_rfl
@[go_sem ↓] theorem ag_83 : isAggU (Tryd.prog.underlying 83) = some false := by kernel_rfl
@[go_sem ↓] theorem zr_83 : zrOf Tryd.prog 83 = some [.nilIface] := by kernel_rfl
@[go_sem ↓] theorem sz_85 : Tryd.prog.cellsOf 85 = 1 := by kernel_rfl
@[go_sem ↓] theorem ag_85 : isAggU (Tryd.prog.underlying 85) = some false := by kernel_rfl
@[go_sem ↓] theorem zr_85 : zrOf Tryd.prog 85 = some [.nilFunc] := by kernel_rfl
@[go_sem ↓] theorem sz_86 : Tryd.prog.cellsOf 86 = 1 := by kernel_rfl
@[go_sem ↓] theorem ag_86 : isAggU (Tryd.prog.underlying 86) = some true := by kernel_rfl
@[go_sem ↓] theorem zr_86 : zrOf Tryd.prog 86 = some [.nilIface] := by kernel_rfl
@[go_sem ↓] theorem fo_86_0 : foOf Tryd.prog 86 0 = some 0 := by kernel_rfl
@[go_sem ↓] theorem pl_86_0 : plOf Tryd.prog 86 0 = some (0, 1) := by kernel_rfl
@[go_sem ↓] theorem fl_86 : plOf1 Tryd.prog 86 = true := by kernel_rfl
@[go_sem ↓] theorem sz_87 : Tryd.prog.cellsOf 87 = 1 := by kernel_rfl
@[go_sem ↓] theorem ag_87 : isAggU (Tryd.prog.underlying 87) = some true := by kernel_rfl
@[go_sem ↓] theorem if_87 : isIfU (Tryd.prog.underlying 87) = false := by kernel_rfl
@[go_sem ↓] theorem zr_87 : zrOf Tryd.prog 87 = some [.nilIface] := by kernel_rfl
@[go_sem ↓] theorem fo_87_0 : foOf Tryd.prog 87 0 = some 0 := by kernel_rfl
@[go_sem ↓] theorem pl_87_0 : plOf Tryd.prog 87 0 = some (0, 1) := by kernel_rfl
@[go_sem ↓] theorem fl_87 : plOf1 Tryd.prog 87 = true := by kernel_rfl
@[go_sem ↓] theorem sz_88 : Tryd.prog.cellsOf 88 = 1 := by kernel_rfl
@[go_sem ↓] theorem ag_88 : isAggU (Tryd.prog.underlying 88) = some false := by kernel_rfl
@[go_sem ↓] theorem zr_88 : zrOf Tryd.prog 88 = some [.nilFunc] := by kernel_rfl
@[go_sem ↓] theorem sz_89 : Tryd.prog.cellsOf 89 = 1 := by kernel_rfl
@[go_sem ↓] theorem ag_89 : isAggU (Tryd.prog.underlying 89) = some false := by kernel_rfl
@[go_sem ↓] theorem if_89 : isIfU (Tryd.prog.underlying 89) = false := by kernel_rfl
@[go_sem ↓] theorem zr_89 : zrOf Tryd.prog 89 = some [(.pointer none)] := by kernel_rfl
@[go_sem ↓] theorem sz_90 : Tryd.prog.cellsOf 90 = 1 := by kernel_rfl
@[go_sem ↓] theorem ag_90 : isAggU (Tryd.prog.underlying 90) = some false := by kernel_rfl
@[go_sem ↓] theorem zr_90 : zrOf Tryd.prog 90 = some [.nilFunc] := by kernel_rfl
@[go_sem ↓] theorem sz_91 : Tryd.prog.cellsOf 91 = 1 := by kernel_rfl
@[go_sem ↓] theorem ag_91 : isAggU (Tryd.prog.underlying 91) = some false := by kernel_rfl
@[go_sem ↓] theorem zr_91 : zrOf Tryd.prog 91 = some [.nilFunc] := by kernel_rfl
@[go_sem ↓] theorem sz_92 : Tryd.prog.cellsOf 92 = 1 := by kernel_rfl
@[go_sem ↓] theorem ag_92 : isAggU (Tryd.prog.underlying 92) = some false := by kernel_rfl
@[go_sem ↓] theorem zr_92 : zrOf Tryd.prog 92 = some [.nilFunc] := by kernel_rfl
@[go_sem ↓] theorem sz_93 : Tryd.prog.cellsOf 93 = 1 := by kernel_rfl
@[go_sem ↓] theorem ag_93 : isAggU (Tryd.prog.underlying 93) = some false := by kernel_rfl
@[go_sem ↓] theorem zr_93 : zrOf Tryd.prog 93 = some [.nilFunc] := by kernel_rfl
@[go_sem ↓] theorem sz_94 : Tryd.prog.cellsOf 94 = 1 := by kernel_rfl
@[go_sem ↓] theorem ag_94 : isAggU (Tryd.prog.underlying 94) = some false := by kernel_rfl
@[go_sem ↓] theorem zr_94 : zrOf Tryd.prog 94 = some [.nilFunc] := by kernel_rfl
@[go_sem ↓] theorem sz_95 : Tryd.prog.cellsOf 95 = 1 := by kernel_rfl
@[go_sem ↓] theorem ag_95 : isAggU (Tryd.prog.underlying 95) = some false := by kernel_rfl
@[go_sem ↓] theorem zr_95 : zrOf Tryd.prog 95 = some [(.int .u64 0)] := by kernel_rfl
@[go_sem ↓] theorem sz_96 : Tryd.prog.cellsOf 96 = 1 := by kernel_rfl
@[go_sem ↓] theorem ag_96 : isAggU (Tryd.prog.underlying 96) = some false := by kernel_rfl
@[go_sem ↓] theorem zr_96 : zrOf Tryd.prog 96 = some [.nilFunc] := by kernel_rfl
@[go_sem ↓] theorem sz_98 : Tryd.prog.cellsOf 98 = 1 := by kernel_rfl
@[go_sem ↓] theorem ag_98 : isAggU (Tryd.prog.underlying 98) = some false := by kernel_rfl
@[go_sem ↓] theorem zr_98 : zrOf Tryd.prog 98 = some [.nilFunc] := by kernel_rfl
@[go_sem ↓] theorem sz_99 : Tryd.prog.cellsOf 99 = 1 := by kernel_rfl
@[go_sem ↓] theorem ag_99 : isAggU (Tryd.prog.underlying 99) = some false := by kernel_rfl
@[go_sem ↓] theorem zr_99 : zrOf Tryd.prog 99 = some [.nilFunc] := by kernel_rfl
@[go_sem ↓] theorem sz_100 : Tryd.prog.cellsOf 100 = 1 := by kernel_rfl
@[go_sem ↓] theorem ag_100 : isAggU (Tryd.prog.underlying 100) = some false := by kernel_rfl
@[go_sem ↓] theorem zr_100 : zrOf Tryd.prog 100 = some [.nilFunc] := by kernel_rfl
@[go_sem ↓] theorem sz_101 : Tryd.prog.cellsOf 101 = 1 := by kernel_rfl
@[go_sem ↓] theorem ag_101 : isAggU (Tryd.prog.underlying 101) = some false := by kernel_rfl
@[go_sem ↓] theorem zr_101 : zrOf Tryd.prog 101 = some [(.pointer none)] := by kernel_rfl
@[go_sem ↓] theorem sz_102 : Tryd.prog.cellsOf 102 = 1 := by kernel_rfl
@[go_sem ↓] theorem ag_102 : isAggU (Tryd.prog.underlying 102) = some false := by kernel_rfl
@[go_sem ↓] theorem if_102 : isIfU (Tryd.prog.underlying 102) = false := by kernel_rfl
@[go_sem ↓] theorem zr_102 : zrOf Tryd.prog 102 = some [(.int .u64 0)] := by kernel_rfl
@[go_sem ↓] theorem sz_103 : Tryd.prog.cellsOf 103 = 3 := by kernel_rfl
@[go_sem ↓] theorem ag_103 : isAggU (Tryd.prog.underlying 103) = some true := by kernel_rfl
@[go_sem ↓] theorem zr_103 : zrOf Tryd.prog 103 = some [(.pointer none), (.pointer none), (.int .u64 0)] := by kernel_rfl
@[go_sem ↓] theorem fo_103_0 : foOf Tryd.prog 103 0 = some 0 := by kernel_rfl
@[go_sem ↓] theorem pl_103_0 : plOf Tryd.prog 103 0 = some (0, 1) := by kernel_rfl
@[go_sem ↓] theorem fo_103_1 : foOf Tryd.prog 103 1 = some 1 := by kernel_rfl
@[go_sem ↓] theorem pl_103_1 : plOf Tryd.prog 103 1 = some (1, 1) := by kernel_rfl
@[go_sem ↓] theorem fo_103_2 : foOf Tryd.prog 103 2 = some 2 := by kernel_rfl
@[go_sem ↓] theorem pl_103_2 : plOf Tryd.prog 103 2 = some (2, 1) := by kernel_rfl
@[go_sem ↓] theorem fl_103 : plOf1 Tryd.prog 103 = true := by kernel_rfl
@[go_sem ↓] theorem sz_104 : Tryd.prog.cellsOf 104 = 3 := by kernel_rfl
@[go_sem ↓] theorem ag_104 : isAggU (Tryd.prog.underlying 104) = some true := by kernel_rfl
@[go_sem ↓] theorem if_104 : isIfU (Tryd.prog.underlying 104) = false := by kernel_rfl
@[go_sem ↓] theorem zr_104 : zrOf Tryd.prog 104 = some [(.pointer none), (.pointer none), (.int .u64 0)] := by kernel_rfl
@[go_sem ↓] theorem fo_104_0 : foOf Tryd.prog 104 0 = some 0 := by kernel_rfl
@[go_sem ↓] theorem pl_104_0 : plOf Tryd.prog 104 0 = some (0, 1) := by kernel_rfl
@[go_sem ↓] theorem fo_104_1 : foOf Tryd.prog 104 1 = some 1 := by kernel_rfl
@[go_sem ↓] theorem pl_104_1 : plOf Tryd.prog 104 1 = some (1, 1) := by kernel_rfl
@[go_sem ↓] theorem fo_104_2 : foOf Tryd.prog 104 2 = some 2 := by kernel_rfl
@[go_sem ↓] theorem pl_104_2 : plOf Tryd.prog 104 2 = some (2, 1) := by kernel_rfl
@[go_sem ↓] theorem fl_104 : plOf1 Tryd.prog 104 = true := by kernel_rfl
@[go_sem ↓] theorem sz_105 : Tryd.prog.cellsOf 105 = 1 := by kernel_rfl
@[go_sem ↓] theorem ag_105 : isAggU (Tryd.prog.underlying 105) = some false := by kernel_rfl
@[go_sem ↓] theorem zr_105 : zrOf Tryd.prog 105 = some [.nilFunc] := by kernel_rfl
@[go_sem ↓] theorem sz_106 : Tryd.prog.cellsOf 106 = 1 := by kernel_rfl
@[go_sem ↓] theorem ag_106 : isAggU (Tryd.prog.underlying 106) = some false := by kernel_rfl
@[go_sem ↓] theorem zr_106 : zrOf Tryd.prog 106 = some [.nilIface] := by kernel_rfl
@[go_sem ↓] theorem sz_107 : Tryd.prog.cellsOf 107 = 1 := by kernel_rfl
@[go_sem ↓] theorem ag_107 : isAggU (Tryd.prog.underlying 107) = some false := by kernel_rfl
@[go_sem ↓] theorem zr_107 : zrOf Tryd.prog 107 = some [.nilIface] := by kernel_rfl
@[go_sem ↓] theorem sz_108 : Tryd.prog.cellsOf 108 = 1 := by kernel_rfl
@[go_sem ↓] theorem ag_108 : isAggU (Tryd.prog.underlying 108) = some false := by kernel_rfl
@[go_sem ↓] theorem zr_108 : zrOf Tryd.prog 108 = some [.nilFunc] := by kernel_rfl
@[go_sem ↓] theorem sz_109 : Tryd.prog.cellsOf 109 = 1 := by kernel_rfl
@[go_sem ↓] theorem ag_109 : isAggU (Tryd.prog.underlying 109) = some false := by kernel_rfl
@[go_sem ↓] theorem if_109 : isIfU (Tryd.prog.underlying 109) = false := by kernel_rfl
@[go_sem ↓] theorem zr_109 : zrOf Tryd.prog 109 = some [(.int .u8 0)] := by kernel_rfl
@[go_sem ↓] theorem sz_110 : Tryd.prog.cellsOf 110 = 1 := by kernel_rfl
@[go_sem ↓] theorem ag_110 : isAggU (Tryd.prog.underlying 110) = some false := by kernel_rfl
@[go_sem ↓] theorem zr_110 : zrOf Tryd.prog 110 = some [.nilFunc] := by kernel_rfl
@[go_sem ↓] theorem sz_111 : Tryd.prog.cellsOf 111 = 1 := by kernel_rfl
@[go_sem ↓] theorem ag_111 : isAggU (Tryd.prog.underlying 111) = some false := by kernel_rfl
@[go_sem ↓] theorem zr_111 : zrOf Tryd.prog 111 = some [.nilFunc] := by kernel_rfl
@[go_sem ↓] theorem sz_112 : Tryd.prog.cellsOf 112 = 1 := by kernel_rfl
@[go_sem ↓] theorem ag_112 : isAggU (Tryd.prog.underlying 112) = some false := by kernel_rfl
@[go_sem ↓] theorem zr_112 : zrOf Tryd.prog 112 = some [.nilFunc] := by kernel_rfl
@[go_sem ↓] theorem sz_113 : Tryd.prog.cellsOf 113 = 1 := by kernel_rfl
@[go_sem ↓] theorem ag_113 : isAggU (Tryd.prog.underlying 113) = some false := by kernel_rfl
@[go_sem ↓] theorem zr_113 : zrOf Tryd.prog 113 = some [.nilFunc] := by kernel_rfl
@[go_sem ↓] theorem sz_114 : Tryd.prog.cellsOf 114 = 1 := by kernel_rfl
@[go_sem ↓] theorem ag_114 : isAggU (Tryd.prog.underlying 114) = some false := by kernel_rfl
@[go_sem ↓] theorem if_114 : isIfU (Tryd.prog.underlying 114) = false := by kernel_rfl
@[go_sem ↓] theorem zr_114 : zrOf Tryd.prog 114 = some [(.int .i64 0)] := by kernel_rfl
@[go_sem ↓] theorem sz_116 : Tryd.prog.cellsOf 116 = 1 := by kernel_rfl
@[go_sem ↓] theorem ag_116 : isAggU (Tryd.prog.underlying 116) = some false := by kernel_rfl
@[go_sem ↓] theorem zr_116 : zrOf Tryd.prog 116 = some [.nilFunc] := by kernel_rfl
@[go_sem ↓] theorem sz_117 : Tryd.prog.cellsOf 117 = 1 := by kernel_rfl
@[go_sem ↓] theorem ag_117 : isAggU (Tryd.prog.underlying 117) = some false := by kernel_rfl
@[go_sem ↓] theorem zr_117 : zrOf Tryd.prog 117 = some [.nilFunc] := by kernel_rfl
@[go_sem ↓] theorem sz_118 : Tryd.prog.cellsOf 118 = 1 := by kernel_rfl
@[go_sem ↓] theorem ag_118 : isAggU (Tryd.prog.underlying 118) = some false := by kernel_rfl
@[go_sem ↓] theorem zr_118 : zrOf Tryd.prog 118 = some [.nilFunc] := by kernel_rfl
@[go_sem ↓] theorem sz_119 : Tryd.prog.cellsOf 119 = 1 := by kernel_rfl
@[go_sem ↓] theorem ag_119 : isAggU (Tryd.prog.underlying 119) = some false := by kernel_rfl
@[go_sem ↓] theorem zr_119 : zrOf Tryd.prog 119 = some [.nilFunc] := by kernel_rfl
@[go_sem ↓] theorem sz_121 : Tryd.prog.cellsOf 121 = 1 := by kernel_rfl
@[go_sem ↓] theorem ag_121 : isAggU (Tryd.prog.underlying 121) = some false := by kernel_rfl
@[go_sem ↓] theorem zr_121 : zrOf Tryd.prog 121 = some [.nilFunc] := by kernel_rfl
@[go_sem ↓] theorem sz_122 : Tryd.prog.cellsOf 122 = 1 := by kernel_rfl
@[go_sem ↓] theorem ag_122 : isAggU (Tryd.prog.underlying 122) = some false := by kernel_rfl
@[go_sem ↓] theorem zr_122 : zrOf Tryd.prog 122 = some [.nilFunc] := by kernel_rfl
@[go_sem ↓] theorem sz_123 : Tryd.prog.cellsOf 123 = 1 := by kernel_rfl
@[go_sem ↓] theorem ag_123 : isAggU (Tryd.prog.underlying 123) = some false := by kernel_rfl
@[go_sem ↓] theorem zr_123 : zrOf Tryd.prog 123 = some [(.int .u32 0)] := by kernel_rfl
@[go_sem ↓] theorem sz_124 : Tryd.prog.cellsOf 124 = 1 := by kernel_rfl
@[go_sem ↓] theorem ag_124 : isAggU (Tryd.prog.underlying 124) = some false := by kernel_rfl
@[go_sem ↓] theorem zr_124 : zrOf Tryd.prog 124 = some [.nilFunc] := by kernel_rfl
@[go_sem ↓] theorem sz_125 : Tryd.prog.cellsOf 125 = 1 := by kernel_rfl
@[go_sem ↓] theorem ag_125 : isAggU (Tryd.prog.underlying 125) = some false := by kernel_rfl
@[go_sem ↓] theorem zr_125 : zrOf Tryd.prog 125 = some [(.int .u64 0)] := by kernel_rfl
@[go_sem ↓] theorem sz_126 : Tryd.prog.cellsOf 126 = 1 := by kernel_rfl
@[go_sem ↓] theorem ag_126 : isAggU (Tryd.prog.underlying 126) = some false := by kernel_rfl
@[go_sem ↓] theorem zr_126 : zrOf Tryd.prog 126 = some [.nilFunc] := by kernel_rfl
@[go_sem ↓] theorem sz_127 : Tryd.prog.cellsOf 127 = 1 := by kernel_rfl
@[go_sem ↓] theorem ag_127 : isAggU (Tryd.prog.underlying 127) = some false := by kernel_rfl
@[go_sem ↓] theorem zr_127 : zrOf Tryd.prog 127 = some [.nilFunc] := by kernel_rfl
@[go_sem ↓] theorem sz_128 : Tryd.prog.cellsOf 128 = 1 := by kernel_rfl
@[go_sem ↓] theorem ag_128 : isAggU (Tryd.prog.underlying 128) = some false := by kernel_rfl
@[go_sem ↓] theorem zr_128 : zrOf Tryd.prog 128 = some [.nilFunc] := by kernel_rfl
@[go_sem ↓] theorem sz_129 : Tryd.prog.cellsOf 129 = 1 := by kernel_rfl
@[go_sem ↓] theorem ag_129 : isAggU (Tryd.prog.underlying 129) = some true := by kernel_rfl
@[go_sem ↓] theorem zr_129 : zrOf Tryd.prog 129 = some [(.pointer none)] := by kernel_rfl
@[go_sem ↓] theorem fo_129_0 : foOf Tryd.prog 129 0 = some 0 := by kernel_rfl
@[go_sem ↓] theorem pl_129_0 : plOf Tryd.prog 129 0 = some (0, 1) := by kernel_rfl
@[go_sem ↓] theorem fl_129 : plOf1 Tryd.prog 129 = true := by kernel_rfl
@[go_sem ↓] theorem sz_130 : Tryd.prog.cellsOf 130 = 1 := by kernel_rfl
@[go_sem ↓] theorem ag_130 : isAggU (Tryd.prog.underlying 130) = some true := by kernel_rfl
@[go_sem ↓] theorem if_130 : isIfU (Tryd.prog.underlying 130) = false := by kernel_rfl
@[go_sem ↓] theorem zr_130 : zrOf Tryd.prog 130 = some [(.pointer none)] := by kernel_rfl
@[go_sem ↓] theorem fo_130_0 : foOf Tryd.prog 130 0 = some 0 := by kernel_rfl
@[go_sem ↓] theorem pl_130_0 : plOf Tryd.prog 130 0 = some (0, 1) := by kernel_rfl
@[go_sem ↓] theorem fl_130 : plOf1 Tryd.prog 130 = true := by kernel_rfl
@[go_sem ↓] theorem sz_131 : Tryd.prog.cellsOf 131 = 1 := by kernel_rfl
@[go_sem ↓] theorem ag_131 : isAggU (Tryd.prog.underlying 131) = some false := by kernel_rfl
@[go_sem ↓] theorem if_131 : isIfU (Tryd.prog.underlying 131) = false := by kernel_rfl
@[go_sem ↓] theorem zr_131 : zrOf Tryd.prog 131 = some [(.pointer none)] := by kernel_rfl
@[go_sem ↓] theorem sz_132 : Tryd.prog.cellsOf 132 = 1 := by kernel_rfl
@[go_sem ↓] theorem ag_132 : isAggU (Tryd.prog.underlying 132) = some false := by kernel_rfl
@[go_sem ↓] theorem zr_132 : zrOf Tryd.prog 132 = some [.nilFunc] := by kernel_rfl
@[go_sem ↓] theorem sz_133 : Tryd.prog.cellsOf 133 = 1 := by kernel_rfl
@[go_sem ↓] theorem ag_133 : isAggU (Tryd.prog.underlying 133) = some false := by kernel_rfl
@[go_sem ↓] theorem zr_133 : zrOf Tryd.prog 133 = some [.nilFunc] := by kernel_rfl
@[go_sem ↓] theorem sz_134 : Tryd.prog.cellsOf 134 = 1 := by kernel_rfl
@[go_sem ↓] theorem ag_134 : isAggU (Tryd.prog.underlying 134) = some false := by kernel_rfl
@[go_sem ↓] theorem zr_134 : zrOf Tryd.prog 134 = some [.nilFunc] := by kernel_rfl
@[go_sem ↓] theorem sz_135 : Tryd.prog.cellsOf 135 = 1 := by kernel_rfl
@[go_sem ↓] theorem ag_135 : isAggU (Tryd.prog.underlying 135) = some false := by kernel_rfl
@[go_sem ↓] theorem zr_135 : zrOf Tryd.prog 135 = some [.nilIface] := by kernel_rfl
@[go_sem ↓] theorem sz_137 : Tryd.prog.cellsOf 137 = 1 := by kernel_rfl
@[go_sem ↓] theorem ag_137 : isAggU (Tryd.prog.underlying 137) = some false := by kernel_rfl
@[go_sem ↓] theorem zr_137 : zrOf Tryd.prog 137 = some [.nilFunc] := by kernel_rfl
@[go_sem ↓] theorem sz_138 : Tryd.prog.cellsOf 138 = 1 := by kernel_rfl
@[go_sem ↓] theorem ag_138 : isAggU (Tryd.prog.underlying 138) = some false := by kernel_rfl
@[go_sem ↓] theorem zr_138 : zrOf Tryd.prog 138 = some [.nilIface] := by kernel_rfl
@[go_sem ↓] theorem sz_139 : Tryd.prog.cellsOf 139 = 1 := by kernel_rfl
@[go_sem ↓] theorem ag_139 : isAggU (Tryd.prog.underlying 139) = some false := by kernel_rfl
@[go_sem ↓] theorem zr_139 : zrOf Tryd.prog 139 = some [.nilFunc] := by kernel_rfl
@[go_sem ↓] theorem sz_140 : Tryd.prog.cellsOf 140 = 1 := by kernel_rfl
@[go_sem ↓] theorem ag_140 : isAggU (Tryd.prog.underlying 140) = some false := by kernel_rfl
@[go_sem ↓] theorem zr_140 : zrOf Tryd.prog 140 = some [.nilIface] := by kernel_rfl
@[go_sem ↓] theorem sz_141 : Tryd.prog.cellsOf 141 = 1 := by kernel_rfl
@[go_sem ↓] theorem ag_141 : isAggU (Tryd.prog.underlying 141) = some false := by kernel_rfl
@[go_sem ↓] theorem es_141 : elSz Tryd.prog 141 = 1 := by kernel_rfl
@[go_sem ↓] theorem zr_141 : zrOf Tryd.prog 141 = some [(.slice none 0 0)] := by kernel_rfl
@[go_sem ↓] theorem sz_142 : Tryd.prog.cellsOf 142 = 1 := by kernel_rfl
@[go_sem ↓] theorem ag_142 : isAggU (Tryd.prog.underlying 142) = some false := by kernel_rfl
@[go_sem ↓] theorem zr_142 : zrOf Tryd.prog 142 = some [.nilFunc] := by kernel_rfl
@[go_sem ↓] theorem sz_143 : Tryd.prog.cellsOf 143 = 1 := by kernel_rfl
@[go_sem ↓] theorem ag_143 : isAggU (Tryd.prog.underlying 143) = some false := by kernel_rfl
@[go_sem ↓] theorem if_143 : isIfU (Tryd.prog.underlying 143) = false := by kernel_rfl
@[go_sem ↓] theorem zr_143 : zrOf Tryd.prog 143 = some [(.int .u64 0)] := by kernel_rfl
@[go_sem ↓] theorem sz_144 : Tryd.prog.cellsOf 144 = 1 := by kernel_rfl
@[go_sem ↓] theorem ag_144 : isAggU (Tryd.prog.underlying 144) = some false := by kernel_rfl
@[go_sem ↓] theorem zr_144 : zrOf Tryd.prog 144 = some [.nilFunc] := by kernel_rfl
@[go_sem ↓] theorem sz_145 : Tryd.prog.cellsOf 145 = 1 := by kernel_rfl
@[go_sem ↓] theorem ag_145 : isAggU (Tryd.prog.underlying 145) = some false := by kernel_rfl
@[go_sem ↓] theorem zr_145 : zrOf Tryd.prog 145 = some [.nilFunc] := by kernel_rfl
@[go_sem ↓] theorem sz_146 : Tryd.prog.cellsOf 146 = 1 := by kernel_rfl
@[go_sem ↓] theorem ag_146 : isAggU (Tryd.prog.underlying 146) = some false := by kernel_rfl
@[go_sem ↓] theorem zr_146 : zrOf Tryd.prog 146 = some [.nilFunc] := by kernel_rfl
@[go_sem ↓] theorem sz_147 : Tryd.prog.cellsOf 147 = 1 := by kernel_rfl
@[go_sem ↓] theorem ag_147 : isAggU (Tryd.prog.underlying 147) = some false := by kernel_rfl
@[go_sem ↓] theorem if_147 : isIfU (Tryd.prog.underlying 147) = false := by kernel_rfl
@[go_sem ↓] theorem zr_147 : zrOf Tryd.prog 147 = some [(.pointer none)] := by kernel_rfl
@[go_sem ↓] theorem sz_148 : Tryd.prog.cellsOf 148 = 1 := by kernel_rfl
@[go_sem ↓] theorem ag_148 : isAggU (Tryd.prog.underlying 148) = some false := by kernel_rfl
@[go_sem ↓] theorem zr_148 : zrOf Tryd.prog 148 = some [.nilFunc] := by kernel_rfl
@[go_sem ↓] theorem sz_149 : Tryd.prog.cellsOf 149 = 1 := by kernel_rfl
@[go_sem ↓] theorem ag_149 : isAggU (Tryd.prog.underlying 149) = some false := by kernel_rfl
@[go_sem ↓] theorem if_149 : isIfU (Tryd.prog.underlying 149) = false := by kernel_rfl
@[go_sem ↓] theorem zr_149 : zrOf Tryd.prog 149 = some [(.pointer none)] := by kernel_rfl
@[go_sem ↓] theorem sz_150 : Tryd.prog.cellsOf 150 = 2 := by kernel_rfl
@[go_sem ↓] theorem ag_150 : isAggU (Tryd.prog.underlying 150) = some true := by kernel_rfl
@[go_sem ↓] theorem zr_150 : zrOf Tryd.prog 150 = some [(.int .i64 0), .nilIface] := by kernel_rfl
@[go_sem ↓] theorem fo_150_0 : foOf Tryd.prog 150 0 = some 0 := by kernel_rfl
@[go_sem ↓] theorem pl_150_0 : plOf Tryd.prog 150 0 = some (0, 1) := by kernel_rfl
@[go_sem ↓] theorem fo_150_1 : foOf Tryd.prog 150 1 = some 1 := by kernel_rfl
@[go_sem ↓] theorem pl_150_1 : plOf Tryd.prog 150 1 = some (1, 1) := by kernel_rfl
@[go_sem ↓] theorem fl_150 : plOf1 Tryd.prog 150 = true := by kernel_rfl
@[go_sem ↓] theorem sz_151 : Tryd.prog.cellsOf 151 = 2 := by kernel_rfl
@[go_sem ↓] theorem ag_151 : isAggU (Tryd.prog.underlying 151) = some true := by kernel_rfl
@[go_sem ↓] theorem if_151 : isIfU (Tryd.prog.underlying 151) = false := by kernel_rfl
@[go_sem ↓] theorem zr_151 : zrOf Tryd.prog 151 = some [(.int .i64 0), .nilIface] := by kernel_rfl
@[go_sem ↓] theorem fo_151_0 : foOf Tryd.prog 151 0 = some 0 := by kernel_rfl
@[go_sem ↓] theorem pl_151_0 : plOf Tryd.prog 151 0 = some (0, 1) := by kernel_rfl
@[go_sem ↓] theorem fo_151_1 : foOf Tryd.prog 151 1 = some 1 := by kernel_rfl
@[go_sem ↓] theorem pl_151_1 : plOf Tryd.prog 151 1 = some (1, 1) := by kernel_rfl
@[go_sem ↓] theorem fl_151 : plOf1 Tryd.prog 151 = true := by kernel_rfl
@[go_sem ↓] theorem sz_153 : Tryd.prog.cellsOf 153 = 1 := by kernel_rfl
@[go_sem ↓] theorem ag_153 : isAggU (Tryd.prog.underlying 153) = some false := by kernel_rfl
@[go_sem ↓] theorem zr_153 : zrOf Tryd.prog 153 = some [.nilFunc] := by kernel_rfl
@[go_sem ↓] theorem sz_154 : Tryd.prog.cellsOf 154 = 1 := by kernel_rfl
@[go_sem ↓] theorem ag_154 : isAggU (Tryd.prog.underlying 154) = some false := by kernel_rfl
@[go_sem ↓] theorem zr_154 : zrOf Tryd.prog 154 = some [.nilFunc] := by kernel_rfl
@[go_sem ↓] theorem sz_155 : Tryd.prog.cellsOf 155 = 1 := by kernel_rfl
@[go_sem ↓] theorem ag_155 : isAggU (Tryd.prog.underlying 155) = some false := by kernel_rfl
@[go_sem ↓] theorem if_155 : isIfU (Tryd.prog.underlying 155) = false := by kernel_rfl
@[go_sem ↓] theorem zr_155 : zrOf Tryd.prog 155 = some [(.pointer none)] := by kernel_rfl
@[go_sem ↓] theorem sz_156 : Tryd.prog.cellsOf 156 = 1 := by kernel_rfl
@[go_sem ↓] theorem ag_156 : isAggU (Tryd.prog.underlying 156) = some false := by kernel_rfl
@[go_sem ↓] theorem if_156 : isIfU (Tryd.prog.underlying 156) = false := by kernel_rfl
@[go_sem ↓] theorem zr_156 : zrOf Tryd.prog 156 = some [(.pointer none)] := by kernel_rfl
@[go_sem ↓] theorem sz_158 : Tryd.prog.cellsOf 158 = 1 := by kernel_rfl
@[go_sem ↓] theorem ag_158 : isAggU (Tryd.prog.underlying 158) = some false := by kernel_rfl
@[go_sem ↓] theorem zr_158 : zrOf Tryd.prog 158 = some [.nilFunc] := by kernel_rfl
@[go_sem ↓] theorem sz_159 : Tryd.prog.cellsOf 159 = 1 := by kernel_rfl
@[go_sem ↓] theorem ag_159 : isAggU (Tryd.prog.underlying 159) = some false := by kernel_rfl
@[go_sem ↓] theorem zr_159 : zrOf Tryd.prog 159 = some [.nilFunc] := by kernel_rfl
@[go_sem ↓] theorem sz_160 : Tryd.prog.cellsOf 160 = 1 := by kernel_rfl
@[go_sem ↓] theorem ag_160 : isAggU (Tryd.prog.underlying 160) = some false := by kernel_rfl
@[go_sem ↓] theorem zr_160 : zrOf Tryd.prog 160 = some [.nilFunc] := by kernel_rfl
@[go_sem ↓] theorem sz_161 : Tryd.prog.cellsOf 161 = 1 := by kernel_rfl
@[go_sem ↓] theorem ag_161 : isAggU (Tryd.prog.underlying 161) = some false := by kernel_rfl
@[go_sem ↓] theorem zr_161 : zrOf Tryd.prog 161 = some [.nilIface] := by kernel_rfl
@[go_sem ↓] theorem sz_163 : Tryd.prog.cellsOf 163 = 1 := by kernel_rfl
@[go_sem ↓] theorem ag_163 : isAggU (Tryd.prog.underlying 163) = some false := by kernel_rfl
@[go_sem ↓] theorem zr_163 : zrOf Tryd.prog 163 = some [.nilFunc] := by kernel_rfl
@[go_sem ↓] theorem sz_164 : Tryd.prog.cellsOf 164 = 1 := by kernel_rfl
@[go_sem ↓] theorem ag_164 : isAggU (Tryd.prog.underlying 164) = some false := by kernel_rfl
@[go_sem ↓] theorem zr_164 : zrOf Tryd.prog 164 = some [.nilFunc] := by kernel_rfl
@[go_sem ↓] theorem sz_165 : Tryd.prog.cellsOf 165 = 1 := by kernel_rfl
@[go_sem ↓] theorem ag_165 : isAggU (Tryd.prog.underlying 165) = some false := by kernel_rfl
@[go_sem ↓] theorem if_165 : isIfU (Tryd.prog.underlying 165) = false := by kernel_rfl
@[go_sem ↓] theorem zr_165 : zrOf Tryd.prog 165 = some [.nilFunc] := by kernel_rfl
@[go_sem ↓] theorem sz_166 : Tryd.prog.cellsOf 166 = 1 := by kernel_rfl
@[go_sem ↓] theorem ag_166 : isAggU (Tryd.prog.underlying 166) = some false := by kernel_rfl
@[go_sem ↓] theorem zr_166 : zrOf Tryd.prog 166 = some [.nilFunc] := by kernel_rfl
@[go_sem ↓] theorem sz_167 : Tryd.prog.cellsOf 167 = 1 := by kernel_rfl
@[go_sem ↓] theorem ag_167 : isAggU (Tryd.prog.underlying 167) = some false := by kernel_rfl
@[go_sem ↓] theorem zr_167 : zrOf Tryd.prog 167 = some [.nilFunc] := by kernel_rfl
@[go_sem ↓] theorem sz_168 : Tryd.prog.cellsOf 168 = 1 := by kernel_rfl
@[go_sem ↓] theorem ag_168 : isAggU (Tryd.prog.underlying 168) = some false := by kernel_rfl
@[go_sem ↓] theorem zr_168 : zrOf Tryd.prog 168 = some [.nilFunc] := by kernel_rfl
@[go_sem ↓] theorem sz_169 : Tryd.prog.cellsOf 169 = 4 := by kernel_rfl
@[go_sem ↓] theorem ag_169 : isAggU (Tryd.prog.underlying 169) = some true := by kernel_rfl
@[go_sem ↓] theorem zr_169 : zrOf Tryd.prog 169 = some [(.pointer none), (.pointer none), (.pointer none), (.string ⟨#[]⟩)] := by kernel_rfl
@[go_sem ↓] theorem fo_169_0 : foOf Tryd.prog 169 0 = some 0 := by kernel_rfl
@[go_sem ↓] theorem pl_169_0 : plOf Tryd.prog 169 0 = some (0, 1) := by kernel_rfl
@[go_sem ↓] theorem fo_169_1 : foOf Tryd.prog 169 1 = some 1 := by kernel_rfl
@[go_sem ↓] theorem pl_169_1 : plOf Tryd.prog 169 1 = some (1, 1) := by kernel_rfl
@[go_sem ↓] theorem fo_169_2 : foOf Tryd.prog 169 2 = some 2 := by kernel_rfl
@[go_sem ↓] theorem pl_169_2 : plOf Tryd.prog 169 2 = some (2, 1) := by kernel_rfl
@[go_sem ↓] theorem fo_169_3 : foOf Tryd.prog 169 3 = some 3 := by kernel_rfl
@[go_sem ↓] theorem pl_169_3 : plOf Tryd.prog 169 3 = some (3, 1) := by kernel_rfl
@[go_sem ↓] theorem fl_169 : plOf1 Tryd.prog 169 = true := by kernel_rfl
@[go_sem ↓] theorem sz_170 : Tryd.prog.cellsOf 170 = 4 := by kernel_rfl
@[go_sem ↓] theorem ag_170 : isAggU (Tryd.prog.underlying 170) = some true := by kernel_rfl
@[go_sem ↓] theorem if_170 : isIfU (Tryd.prog.underlying 170) = false := by kernel_rfl
@[go_sem ↓] theorem zr_170 : zrOf Tryd.prog 170 = some [(.pointer none), (.pointer none), (.pointer none), (.string ⟨#[]⟩)] := by kernel_rfl
@[go_sem ↓] theorem fo_170_0 : foOf Tryd.prog 170 0 = some 0 := by kernel_rfl
@[go_sem ↓] theorem pl_170_0 : plOf Tryd.prog 170 0 = some (0, 1) := by kernel_rfl
@[go_sem ↓] theorem fo_170_1 : foOf Tryd.prog 170 1 = some 1 := by kernel_rfl
@[go_sem ↓] theorem pl_170_1 : plOf Tryd.prog 170 1 = some (1, 1) := by kernel_rfl
@[go_sem ↓] theorem fo_170_2 : foOf Tryd.prog 170 2 = some 2 := by kernel_rfl
@[go_sem ↓] theorem pl_170_2 : plOf Tryd.prog 170 2 = some (2, 1) := by kernel_rfl
@[go_sem ↓] theorem fo_170_3 : foOf Tryd.prog 170 3 = some 3 := by kernel_rfl
@[go_sem ↓] theorem pl_170_3 : plOf Tryd.prog 170 3 = some (3, 1) := by kernel_rfl
@[go_sem ↓] theorem fl_170 : plOf1 Tryd.prog 170 = true := by kernel_rfl
@[go_sem ↓] theorem sz_171 : Tryd.prog.cellsOf 171 = 0 := by kernel_rfl
@[go_sem ↓] theorem ag_171 : isAggU (Tryd.prog.underlying 171) = some true := by kernel_rfl
@[go_sem ↓] theorem es_171 : elSz Tryd.prog 171 = 1 := by kernel_rfl
@[go_sem ↓] theorem zr_171 : zrOf Tryd.prog 171 = some [] := by kernel_rfl
@[go_sem ↓] theorem fl_171 : plOf1 Tryd.prog 171 = true := by kernel_rfl
@[go_sem ↓] theorem sz_172 : Tryd.prog.cellsOf 172 = 0 := by kernel_rfl
@[go_sem ↓] theorem ag_172 : isAggU (Tryd.prog.underlying 172) = some true := by kernel_rfl
@[go_sem ↓] theorem zr_172 : zrOf Tryd.prog 172 = some [] := by kernel_rfl
@[go_sem ↓] theorem pl_172_0 : plOf Tryd.prog 172 0 = some (0, 0) := by kernel_rfl
@[go_sem ↓] theorem fl_172 : plOf1 Tryd.prog 172 = true := by kernel_rfl
@[go_sem ↓] theorem sz_173 : Tryd.prog.cellsOf 173 = 0 := by kernel_rfl
@[go_sem ↓] theorem ag_173 : isAggU (Tryd.prog.underlying 173) = some true := by kernel_rfl
@[go_sem ↓] theorem if_173 : isIfU (Tryd.prog.underlying 173) = false := by kernel_rfl
@[go_sem ↓] theorem zr_173 : zrOf Tryd.prog 173 = some [] := by kernel_rfl
@[go_sem ↓] theorem pl_173_0 : plOf Tryd.prog 173 0 = some (0, 0) := by kernel_rfl
@[go_sem ↓] theorem fl_173 : plOf1 Tryd.prog 173 = true := by kernel_rfl
@[go_sem ↓] theorem sz_174 : Tryd.prog.cellsOf 174 = 1 := by kernel_rfl
@[go_sem ↓] theorem ag_174 : isAggU (Tryd.prog.underlying 174) = some false := by kernel_rfl
@[go_sem ↓] theorem zr_174 : zrOf Tryd.prog 174 = some [.nilFunc] := by kernel_rfl
@[go_sem ↓] theorem sz_175 : Tryd.prog.cellsOf 175 = 1 := by kernel_rfl
@[go_sem ↓] theorem ag_175 : isAggU (Tryd.prog.underlying 175) = some false := by kernel_rfl
@[go_sem ↓] theorem zr_175 : zrOf Tryd.prog 175 = some [.nilFunc] := by kernel_rfl
@[go_sem ↓] theorem sz_176 : Tryd.prog.cellsOf 176 = 1 := by kernel_rfl
@[go_sem ↓] theorem ag_176 : isAggU (Tryd.prog.underlying 176) = some false := by kernel_rfl
@[go_sem ↓] theorem if_176 : isIfU (Tryd.prog.underlying 176) = false := by kernel_rfl
@[go_sem ↓] theorem zr_176 : zrOf Tryd.prog 176 = some [(.int .u8 0)] := by kernel_rfl
@[go_sem ↓] theorem sz_177 : Tryd.prog.cellsOf 177 = 1 := by kernel_rfl
@[go_sem ↓] theorem ag_177 : isAggU (Tryd.prog.underlying 177) = some false := by kernel_rfl
@[go_sem ↓] theorem zr_177 : zrOf Tryd.prog 177 = some [.nilFunc] := by kernel_rfl
@[go_sem ↓] theorem sz_178 : Tryd.prog.cellsOf 178 = 1 := by kernel_rfl
@[go_sem ↓] theorem ag_178 : isAggU (Tryd.prog.underlying 178) = some false := by kernel_rfl
@[go_sem ↓] theorem if_178 : isIfU (Tryd.prog.underlying 178) = false := by kernel_rfl
@[go_sem ↓] theorem zr_178 : zrOf Tryd.prog 178 = some [(.pointer none)] := by kernel_rfl
@[go_sem ↓] theorem sz_179 : Tryd.prog.cellsOf 179 = 1 := by kernel_rfl
@[go_sem ↓] theorem ag_179 : isAggU (Tryd.prog.underlying 179) = some false := by kernel_rfl
@[go_sem ↓] theorem if_179 : isIfU (Tryd.prog.underlying 179) = false := by kernel_rfl
@[go_sem ↓] theorem zr_179 : zrOf Tryd.prog 179 = some [(.int .i32 0)] := by kernel_rfl
@[go_sem ↓] theorem sz_180 : Tryd.prog.cellsOf 180 = 1 := by kernel_rfl
@[go_sem ↓] theorem ag_180 : isAggU (Tryd.prog.underlying 180) = some false := by kernel_rfl
@[go_sem ↓] theorem if_180 : isIfU (Tryd.prog.underlying 180) = false := by kernel_rfl
@[go_sem ↓] theorem zr_180 : zrOf Tryd.prog 180 = some [(.int .i32 0)] := by kernel_rfl
@[go_sem ↓] theorem sz_181 : Tryd.prog.cellsOf 181 = 11 := by kernel_rfl
@[go_sem ↓] theorem ag_181 : isAggU (Tryd.prog.underlying 181) = some true := by kernel_rfl
@[go_sem ↓] theorem zr_181 : zrOf Tryd.prog 181 = some [(.int .u64 0), (.int .u64 0), (.int .u32 0), (.int .u8 0), (.int .u8 0), (.int .u8 0), (.int .u8 0), .nilFunc, (.pointer none), (.int .i32 0), (.int .i32 0)] := by kernel_rfl
@[go_sem ↓] theorem fo_181_0 : foOf Tryd.prog 181 0 = some 0 := by kernel_rfl
@[go_sem ↓] theorem pl_181_0 : plOf Tryd.prog 181 0 = some (0, 1) := by kernel_rfl
@[go_sem ↓] theorem fo_181_1 : foOf Tryd.prog 181 1 = some 1 := by kernel_rfl
@[go_sem ↓] theorem pl_181_1 : plOf Tryd.prog 181 1 = some (1, 1) := by kernel_rfl
@[go_sem ↓] theorem fo_181_2 : foOf Tryd.prog 181 2 = some 2 := by kernel_rfl
@[go_sem ↓] theorem pl_181_2 : plOf Tryd.prog 181 2 = some (2, 1) := by kernel_rfl
@[go_sem ↓] theorem fo_181_3 : foOf Tryd.prog 181 3 = some 3 := by kernel_rfl
@[go_sem ↓] theorem pl_181_3 : plOf Tryd.prog 181 3 = some (3, 1) := by kernel_rfl
@[go_sem ↓] theorem fo_181_4 : foOf Tryd.prog 181 4 = some 4 := by kernel_rfl
@[go_sem ↓] theorem pl_181_4 : plOf Tryd.prog 181 4 = some (4, 1) := by kernel_rfl
@[go_sem ↓] theorem fo_181_5 : foOf Tryd.prog 181 5 = some 5 := by kernel_rfl
@[go_sem ↓] theorem pl_181_5 : plOf Tryd.prog 181 5 = some (5, 1) := by kernel_rfl
@[go_sem ↓] theorem fo_181_6 : foOf Tryd.prog 181 6 = some 6 := by kernel_rfl
@[go_sem ↓] theorem pl_181_6 : plOf Tryd.prog 181 6 = some (6, 1) := by kernel_rfl
@[go_sem ↓] theorem fo_181_7 : foOf Tryd.prog 181 7 = some 7 := by kernel_rfl
@[go_sem ↓] theorem pl_181_7 : plOf Tryd.prog 181 7 = some (7, 1) := by kernel_rfl
@[go_sem ↓] theorem fo_181_8 : foOf Tryd.prog 181 8 = some 8 := by kernel_rfl
@[go_sem ↓] theorem pl_181_8 : plOf Tryd.prog 181 8 = some (8, 1) := by kernel_rfl
@[go_sem ↓] theorem fo_181_9 : foOf Tryd.prog 181 9 = some 9 := by kernel_rfl
@[go_sem ↓] theorem pl_181_9 : plOf Tryd.prog 181 9 = some (9, 1) := by kernel_rfl
@[go_sem ↓] theorem fo_181_10 : foOf Tryd.prog 181 10 = some 10 := by kernel_rfl
@[go_sem ↓] theorem pl_181_10 : plOf Tryd.prog 181 10 = some (10, 1) := by kernel_rfl
@[go_sem ↓] theorem fl_181 : plOf1 Tryd.prog 181 = true := by kernel_rfl
@[go_sem ↓] theorem sz_182 : Tryd.prog.cellsOf 182 = 11 := by kernel_rfl
@[go_sem ↓] theorem ag_182 : isAggU (Tryd.prog.underlying 182) = some true := by kernel_rfl
@[go_sem ↓] theorem if_182 : isIfU (Tryd.prog.underlying 182) = false := by kernel_rfl
@[go_sem ↓] theorem zr_182 : zrOf Tryd.prog 182 = some [(.int .u64 0), (.int .u64 0), (.int .u32 0), (.int .u8 0), (.int .u8 0), (.int .u8 0), (.int .u8 0), .nilFunc, (.pointer none), (.int .i32 0), (.int .i32 0)] := by kernel_rfl
@[go_sem ↓] theorem fo_182_0 : foOf Tryd.prog 182 0 = some 0 := by kernel_rfl
@[go_sem ↓] theorem pl_182_0 : plOf Tryd.prog 182 0 = some (0, 1) := by kernel_rfl
@[go_sem ↓] theorem fo_182_1 : foOf Tryd.prog 182 1 = some 1 := by kernel_rfl
@[go_sem ↓] theorem pl_182_1 : plOf Tryd.prog 182 1 = some (1, 1) := by kernel_rfl
@[go_sem ↓] theorem fo_182_2 : foOf Tryd.prog 182 2 = some 2 := by kernel_rfl
@[go_sem ↓] theorem pl_182_2 : plOf Tryd.prog 182 2 = some (2, 1) := by kernel_rfl
@[go_sem ↓] theorem fo_182_3 : foOf Tryd.prog 182 3 = some 3 := by kernel_rfl
@[go_sem ↓] theorem pl_182_3 : plOf Tryd.prog 182 3 = some (3, 1) := by kernel_rfl
@[go_sem ↓] theorem fo_182_4 : foOf Tryd.prog 182 4 = some 4 := by kernel_rfl
@[go_sem ↓] theorem pl_182_4 : plOf Tryd.prog 182 4 = some (4, 1) := by kernel_rfl
@[go_sem ↓] theorem fo_182_5 : foOf Tryd.prog 182 5 = some 5 := by kernel_rfl
@[go_sem ↓] theorem pl_182_5 : plOf Tryd.prog 182 5 = some (5, 1) := by kernel_rfl
@[go_sem ↓] theorem fo_182_6 : foOf Tryd.prog 182 6 = some 6 := by kernel_rfl
@[go_sem ↓] theorem pl_182_6 : plOf Tryd.prog 182 6 = some (6, 1) := by kernel_rfl
@[go_sem ↓] theorem fo_182_7 : foOf Tryd.prog 182 7 = some 7 := by kernel_rfl
@[go_sem ↓] theorem pl_182_7 : plOf Tryd.prog 182 7 = some (7, 1) := by kernel_rfl
@[go_sem ↓] theorem fo_182_8 : foOf Tryd.prog 182 8 = some 8 := by kernel_rfl
@[go_sem ↓] theorem pl_182_8 : plOf Tryd.prog 182 8 = some (8, 1) := by kernel_rfl
@[go_sem ↓] theorem fo_182_9 : foOf Tryd.prog 182 9 = some 9 := by kernel_rfl
@[go_sem ↓] theorem pl_182_9 : plOf Tryd.prog 182 9 = some (9, 1) := by kernel_rfl
@[go_sem ↓] theorem fo_182_10 : foOf Tryd.prog 182 10 = some 10 := by kernel_rfl
@[go_sem ↓] theorem pl_182_10 : plOf Tryd.prog 182 10 = some (10, 1) := by kernel_rfl
@[go_sem ↓] theorem fl_182 : plOf1 Tryd.prog 182 = true := by kernel_rfl
@[go_sem ↓] theorem sz_183 : Tryd.prog.cellsOf 183 = 1 := by kernel_rfl
@[go_sem ↓] theorem ag_183 : isAggU (Tryd.prog.underlying 183) = some false := by kernel_rfl
@[go_sem ↓] theorem zr_183 : zrOf Tryd.prog 183 = some [.nilFunc] := by kernel_rfl
@[go_sem ↓] theorem sz_184 : Tryd.prog.cellsOf 184 = 1 := by kernel_rfl
@[go_sem ↓] theorem ag_184 : isAggU (Tryd.prog.underlying 184) = some false := by kernel_rfl
@[go_sem ↓] theorem zr_184 : zrOf Tryd.prog 184 = some [.nilFunc] := by kernel_rfl
@[go_sem ↓] theorem sz_185 : Tryd.prog.cellsOf 185 = 2 := by kernel_rfl
@[go_sem ↓] theorem ag_185 : isAggU (Tryd.prog.underlying 185) = some true := by kernel_rfl
@[go_sem ↓] theorem zr_185 : zrOf Tryd.prog 185 = some [(.string ⟨#[]⟩), (.int .u8 0)] := by kernel_rfl
@[go_sem ↓] theorem fo_185_0 : foOf Tryd.prog 185 0 = some 0 := by kernel_rfl
@[go_sem ↓] theorem pl_185_0 : plOf Tryd.prog 185 0 = some (0, 1) := by kernel_rfl
@[go_sem ↓] theorem fo_185_1 : foOf Tryd.prog 185 1 = some 1 := by kernel_rfl
@[go_sem ↓] theorem pl_185_1 : plOf Tryd.prog 185 1 = some (1, 1) := by kernel_rfl
@[go_sem ↓] theorem fl_185 : plOf1 Tryd.prog 185 = true := by kernel_rfl
@[go_sem ↓] theorem sz_186 : Tryd.prog.cellsOf 186 = 2 := by kernel_rfl
@[go_sem ↓] theorem ag_186 : isAggU (Tryd.prog.underlying 186) = some true := by kernel_rfl
@[go_sem ↓] theorem if_186 : isIfU (Tryd.prog.underlying 186) = false := by kernel_rfl
@[go_sem ↓] theorem zr_186 : zrOf Tryd.prog 186 = some [(.string ⟨#[]⟩), (.int .u8 0)] := by kernel_rfl
@[go_sem ↓] theorem fo_186_0 : foOf Tryd.prog 186 0 = some 0 := by kernel_rfl
@[go_sem ↓] theorem pl_186_0 : plOf Tryd.prog 186 0 = some (0, 1) := by kernel_rfl
@[go_sem ↓] theorem fo_186_1 : foOf Tryd.prog 186 1 = some 1 := by kernel_rfl
@[go_sem ↓] theorem pl_186_1 : plOf Tryd.prog 186 1 = some (1, 1) := by kernel_rfl
@[go_sem ↓] theorem fl_186 : plOf1 Tryd.prog 186 = true := by kernel_rfl
@[go_sem ↓] theorem sz_187 : Tryd.prog.cellsOf 187 = 1 := by kernel_rfl
@[go_sem ↓] theorem ag_187 : isAggU (Tryd.prog.underlying 187) = some false := by kernel_rfl
@[go_sem ↓] theorem if_187 : isIfU (Tryd.prog.underlying 187) = false := by kernel_rfl
@[go_sem ↓] theorem zr_187 : zrOf Tryd.prog 187 = some [(.pointer none)] := by kernel_rfl
@[go_sem ↓] theorem sz_188 : Tryd.prog.cellsOf 188 = 1 := by kernel_rfl
@[go_sem ↓] theorem ag_188 : isAggU (Tryd.prog.underlying 188) = some false := by kernel_rfl
@[go_sem ↓] theorem zr_188 : zrOf Tryd.prog 188 = some [.nilFunc] := by kernel_rfl
@[go_sem ↓] theorem sz_189 : Tryd.prog.cellsOf 189 = 1 := by kernel_rfl
@[go_sem ↓] theorem ag_189 : isAggU (Tryd.prog.underlying 189) = some false := by kernel_rfl
@[go_sem ↓] theorem zr_189 : zrOf Tryd.prog 189 = some [(.int .u16 0)] := by kernel_rfl
@[go_sem ↓] theorem sz_190 : Tryd.prog.cellsOf 190 = 5 := by kernel_rfl
@[go_sem ↓] theorem ag_190 : isAggU (Tryd.prog.underlying 190) = some true := by kernel_rfl
@[go_sem ↓] theorem zr_190 : zrOf Tryd.prog 190 = some [(.int .i32 0), (.int .u16 0), (.int .u16 0), (.int .u32 0), (.int .u32 0)] := by kernel_rfl
@[go_sem ↓] theorem fo_190_0 : foOf Tryd.prog 190 0 = some 0 := by kernel_rfl
@[go_sem ↓] theorem pl_190_0 : plOf Tryd.prog 190 0 = some (0, 1) := by kernel_rfl
@[go_sem ↓] theorem fo_190_1 : foOf Tryd.prog 190 1 = some 1 := by kernel_rfl
@[go_sem ↓] theorem pl_190_1 : plOf Tryd.prog 190 1 = some (1, 1) := by kernel_rfl
@[go_sem ↓] theorem fo_190_2 : foOf Tryd.prog 190 2 = some 2 := by kernel_rfl
@[go_sem ↓] theorem pl_190_2 : plOf Tryd.prog 190 2 = some (2, 1) := by kernel_rfl
@[go_sem ↓] theorem fo_190_3 : foOf Tryd.prog 190 3 = some 3 := by kernel_rfl
@[go_sem ↓] theorem pl_190_3 : plOf Tryd.prog 190 3 = some (3, 1) := by kernel_rfl
@[go_sem ↓] theorem fo_190_4 : foOf Tryd.prog 190 4 = some 4 := by kernel_rfl
@[go_sem ↓] theorem pl_190_4 : plOf Tryd.prog 190 4 = some (4, 1) := by kernel_rfl
@[go_sem ↓] theorem fl_190 : plOf1 Tryd.prog 190 = true := by kernel_rfl
@[go_sem ↓] theorem sz_191 : Tryd.prog.cellsOf 191 = 5 := by kernel_rfl
@[go_sem ↓] theorem ag_191 : isAggU (Tryd.prog.underlying 191) = some true := by kernel_rfl
@[go_sem ↓] theorem if_191 : isIfU (Tryd.prog.underlying 191) = false := by kernel_rfl
@[go_sem ↓] theorem zr_191 : zrOf Tryd.prog 191 = some [(.int .i32 0), (.int .u16 0), (.int .u16 0), (.int .u32 0), (.int .u32 0)] := by kernel_rfl
@[go_sem ↓] theorem fo_191_0 : foOf Tryd.prog 191 0 = some 0 := by kernel_rfl
@[go_sem ↓] theorem pl_191_0 : plOf Tryd.prog 191 0 = some (0, 1) := by kernel_rfl
@[go_sem ↓] theorem fo_191_1 : foOf Tryd.prog 191 1 = some 1 := by kernel_rfl
@[go_sem ↓] theorem pl_191_1 : plOf Tryd.prog 191 1 = some (1, 1) := by kernel_rfl
@[go_sem ↓] theorem fo_191_2 : foOf Tryd.prog 191 2 = some 2 := by kernel_rfl
@[go_sem ↓] theorem pl_191_2 : plOf Tryd.prog 191 2 = some (2, 1) := by kernel_rfl
@[go_sem ↓] theorem fo_191_3 : foOf Tryd.prog 191 3 = some 3 := by kernel_rfl
@[go_sem ↓] theorem pl_191_3 : plOf Tryd.prog 191 3 = some (3, 1) := by kernel_rfl
@[go_sem ↓] theorem fo_191_4 : foOf Tryd.prog 191 4 = some 4 := by kernel_rfl
@[go_sem ↓] theorem pl_191_4 : plOf Tryd.prog 191 4 = some (4, 1) := by kernel_rfl
@[go_sem ↓] theorem fl_191 : plOf1 Tryd.prog 191 = true := by kernel_rfl
@[go_sem ↓] theorem sz_192 : Tryd.prog.cellsOf 192 = 1 := by kernel_rfl
@[go_sem ↓] theorem ag_192 : isAggU (Tryd.prog.underlying 192) = some false := by kernel_rfl
@[go_sem ↓] theorem es_192 : elSz Tryd.prog 192 = 4 := by kernel_rfl
@[go_sem ↓] theorem zr_192 : zrOf Tryd.prog 192 = some [(.slice none 0 0)] := by kernel_rfl
@[go_sem ↓] theorem sz_193 : Tryd.prog.cellsOf 193 = 1 := by kernel_rfl
@[go_sem ↓] theorem ag_193 : isAggU (Tryd.prog.underlying 193) = some false := by kernel_rfl
@[go_sem ↓] theorem if_193 : isIfU (Tryd.prog.underlying 193) = false := by kernel_rfl
@[go_sem ↓] theorem zr_193 : zrOf Tryd.prog 193 = some [(.int .i32 0)] := by kernel_rfl
@[go_sem ↓] theorem sz_194 : Tryd.prog.cellsOf 194 = 4 := by kernel_rfl
@[go_sem ↓] theorem ag_194 : isAggU (Tryd.prog.underlying 194) = some true := by kernel_rfl
@[go_sem ↓] theorem zr_194 : zrOf Tryd.prog 194 = some [(.int .i32 0), (.int .i32 0), (.int .i32 0), (.int .i32 0)] := by kernel_rfl
@[go_sem ↓] theorem fo_194_0 : foOf Tryd.prog 194 0 = some 0 := by kernel_rfl
@[go_sem ↓] theorem pl_194_0 : plOf Tryd.prog 194 0 = some (0, 1) := by kernel_rfl
@[go_sem ↓] theorem fo_194_1 : foOf Tryd.prog 194 1 = some 1 := by kernel_rfl
@[go_sem ↓] theorem pl_194_1 : plOf Tryd.prog 194 1 = some (1, 1) := by kernel_rfl
@[go_sem ↓] theorem fo_194_2 : foOf Tryd.prog 194 2 = some 2 := by kernel_rfl
@[go_sem ↓] theorem pl_194_2 : plOf Tryd.prog 194 2 = some (2, 1) := by kernel_rfl
@[go_sem ↓] theorem fo_194_3 : foOf Tryd.prog 194 3 = some 3 := by kernel_rfl
@[go_sem ↓] theorem pl_194_3 : plOf Tryd.prog 194 3 = some (3, 1) := by kernel_rfl
@[go_sem ↓] theorem fl_194 : plOf1 Tryd.prog 194 = true := by kernel_rfl
@[go_sem ↓] theorem sz_195 : Tryd.prog.cellsOf 195 = 4 := by kernel_rfl
@[go_sem ↓] theorem ag_195 : isAggU (Tryd.prog.underlying 195) = some true := by kernel_rfl
@[go_sem ↓] theorem if_195 : isIfU (Tryd.prog.underlying 195) = false := by kernel_rfl
@[go_sem ↓] theorem zr_195 : zrOf Tryd.prog 195 = some [(.int .i32 0), (.int .i32 0), (.int .i32 0), (.int .i32 0)] := by kernel_rfl
@[go_sem ↓] theorem fo_195_0 : foOf Tryd.prog 195 0 = some 0 := by kernel_rfl
@[go_sem ↓] theorem pl_195_0 : plOf Tryd.prog 195 0 = some (0, 1) := by kernel_rfl
@[go_sem ↓] theorem fo_195_1 : foOf Tryd.prog 195 1 = some 1 := by kernel_rfl
@[go_sem ↓] theorem pl_195_1 : plOf Tryd.prog 195 1 = some (1, 1) := by kernel_rfl
@[go_sem ↓] theorem fo_195_2 : foOf Tryd.prog 195 2 = some 2 := by kernel_rfl
@[go_sem ↓] theorem pl_195_2 : plOf Tryd.prog 195 2 = some (2, 1) := by kernel_rfl
@[go_sem ↓] theorem fo_195_3 : foOf Tryd.prog 195 3 = some 3 := by kernel_rfl
@[go_sem ↓] theorem pl_195_3 : plOf Tryd.prog 195 3 = some (3, 1) := by kernel_rfl
@[go_sem ↓] theorem fl_195 : plOf1 Tryd.prog 195 = true := by kernel_rfl
@[go_sem ↓] theorem sz_196 : Tryd.prog.cellsOf 196 = 1 := by kernel_rfl
@[go_sem ↓] theorem ag_196 : isAggU (Tryd.prog.underlying 196) = some false := by kernel_rfl
@[go_sem ↓] theorem if_196 : isIfU (Tryd.prog.underlying 196) = false := by kernel_rfl
@[go_sem ↓] theorem zr_196 : zrOf Tryd.prog 196 = some [(.pointer none)] := by kernel_rfl
@[go_sem] theorem sl_22 {H : AH} {b o len cap : Nat} {lo hi : Option Value} {K : Value → Prop} : rdop Tryd.prog H (Instr.sliceAt 22 (.slice (some ⟨b, o, none⟩) len cap) lo hi none) K = bnd len hi cap fun h => bnd 0 lo h fun l => nv (.slice (some ⟨b, if cap = l then o else o + l * Tryd.prog.cellsOf 48, none⟩) (h - l) (cap - l)) K := rdop_slice_sl Tryd.underlying22 (by rw [sz_48]; simp)
@[go_sem] theorem sc_22 {H : AH} {a : Option Addr} {len cap : Nat} {hi mx : Value} {K : Value → Prop} : rdop Tryd.prog H (Instr.sliceAt 22 (.slice a len cap) none (some hi) (some mx)) K = bnd cap (some mx) cap fun m => bnd len (some hi) m fun h => nv (.slice a h m) K := rdop_clip Tryd.underlying22 (by rw [sz_48]; simp)
@[go_sem] theorem sn_22 {H : AH} {len cap : Nat} {lo hi : Option Value} {K : Value → Prop} : rdop Tryd.prog H (Instr.sliceAt 22 (.slice none len cap) lo hi none) K = bnd len hi cap fun h => bnd 0 lo h fun l => nv (.slice none (h - l) (cap - l)) K := rdop_slice_nil Tryd.underlying22 (by rw [sz_48]; simp)
@[go_sem] theorem sl_25 {H : AH} {b o : Nat} {lo hi : Option Value} {K : Value → Prop} : rdop Tryd.prog H (Instr.sliceAt 25 (.pointer (some ⟨b, o, none⟩)) lo hi none) K = bnd 4 hi 4 fun h => bnd 0 lo h fun l => nv (.slice (some ⟨b, if 4 = l then o else o + l * Tryd.prog.cellsOf 5, none⟩) (h - l) (4 - l)) K := rdop_slice_arr Tryd.underlying25 (by rw [sz_5]; simp)
@[go_sem] theorem ix_25 {H : AH} {cs : Array Value} {k : IntKind} {i : Int} {K : Value → Prop} : rdop Tryd.prog H (Instr.index 25 (.agg cs) (.int k i)) K = (0 ≤ i ∧ i < (4 : Nat) ∧ wo cs[i.toNat * Tryd.prog.cellsOf 5]? fun v => nv v K) := rdop_index_arr Tryd.underlying25 (by rw [sz_5]; simp) ag_5
@[go_sem] theorem sl_26 {H : AH} {b o : Nat} {lo hi : Option Value} {K : Value → Prop} : rdop Tryd.prog H (Instr.sliceAt 26 (.pointer (some ⟨b, o, none⟩)) lo hi none) K = bnd 4 hi 4 fun h => bnd 0 lo h fun l => nv (.slice (some ⟨b, if 4 = l then o else o + l * Tryd.prog.cellsOf 5, none⟩) (h - l) (4 - l)) K := rdop_slice_arr Tryd.underlying26 (by rw [sz_5]; simp)
@[go_sem] theorem ix_26 {H : AH} {cs : Array Value} {k : IntKind} {i : Int} {K : Value → Prop} : rdop Tryd.prog H (Instr.index 26 (.agg cs) (.int k i)) K = (0 ≤ i ∧ i < (4 : Nat) ∧ wo cs[i.toNat * Tryd.prog.cellsOf 5]? fun v => nv v K) := rdop_index_arr Tryd.underlying26 (by rw [sz_5]; simp) ag_5
@[go_sem] theorem sl_44 {H : AH} {b o len cap : Nat} {lo hi : Option Value} {K : Value → Prop} : rdop Tryd.prog H (Instr.sliceAt 44 (.slice (some ⟨b, o, none⟩) len cap) lo hi none) K = bnd len hi cap fun h => bnd 0 lo h fun l => nv (.slice (some ⟨b, if cap = l then o else o + l * Tryd.prog.cellsOf 26, none⟩) (h - l) (cap - l)) K := rdop_slice_sl Tryd.underlying44 (by rw [sz_26]; simp)
@[go_sem] theorem sc_44 {H : AH} {a : Option Addr} {len cap : Nat} {hi mx : Value} {K : Value → Prop} : rdop Tryd.prog H (Instr.sliceAt 44 (.slice a len cap) none (some hi) (some mx)) K = bnd cap (some mx) cap fun m => bnd len (some hi) m fun h => nv (.slice a h m) K := rdop_clip Tryd.underlying44 (by rw [sz_26]; simp)
@[go_sem] theorem sn_44 {H : AH} {len cap : Nat} {lo hi : Option Value} {K : Value → Prop} : rdop Tryd.prog H (Instr.sliceAt 44 (.slice none len cap) lo hi none) K = bnd len hi cap fun h => bnd 0 lo h fun l => nv (.slice none (h - l) (cap - l)) K := rdop_slice_nil Tryd.underlying44 (by rw [sz_26]; simp)
@[go_sem] theorem sl_49 {H : AH} {b o len cap : Nat} {lo hi : Option Value} {K : Value → Prop} : rdop Tryd.prog H (Instr.sliceAt 49 (.slice (some ⟨b, o, none⟩) len cap) lo hi none) K = bnd len hi cap fun h => bnd 0 lo h fun l => nv (.slice (some ⟨b, if cap = l then o else o + l * Tryd.prog.cellsOf 3, none⟩) (h - l) (cap - l)) K := rdop_slice_sl Tryd.underlying49 (by rw [sz_3]; simp)
@[go_sem] theorem sc_49 {H : AH} {a : Option Addr} {len cap : Nat} {hi mx : Value} {K : Value → Prop} : rdop Tryd.prog H (Instr.sliceAt 49 (.slice a len cap) none (some hi) (some mx)) K = bnd cap (some mx) cap fun m => bnd len (some hi) m fun h => nv (.slice a h m) K := rdop_clip Tryd.underlying49 (by rw [sz_3]; simp)
@[go_sem] theorem sn_49 {H : AH} {len cap : Nat} {lo hi : Option Value} {K : Value → Prop} : rdop Tryd.prog H (Instr.sliceAt 49 (.slice none len cap) lo hi none) K = bnd len hi cap fun h => bnd 0 lo h fun l => nv (.slice none (h - l) (cap - l)) K := rdop_slice_nil Tryd.underlying49 (by rw [sz_3]; simp)
@[go_sem] theorem sl_61 {H : AH} {b o : Nat} {lo hi : Option Value} {K : Value → Prop} : rdop Tryd.prog H (Instr.sliceAt 61 (.pointer (some ⟨b, o, none⟩)) lo hi none) K = bnd 5 hi 5 fun h => bnd 0 lo h fun l => nv (.slice (some ⟨b, if 5 = l then o else o + l * Tryd.prog.cellsOf 5, none⟩) (h - l) (5 - l)) K := rdop_slice_arr Tryd.underlying61 (by rw [sz_5]; simp)
@[go_sem] theorem ix_61 {H : AH} {cs : Array Value} {k : IntKind} {i : Int} {K : Value → Prop} : rdop Tryd.prog H (Instr.index 61 (.agg cs) (.int k i)) K = (0 ≤ i ∧ i < (5 : Nat) ∧ wo cs[i.toNat * Tryd.prog.cellsOf 5]? fun v => nv v K) := rdop_index_arr Tryd.underlying61 (by rw [sz_5]; simp) ag_5
@[go_sem] theorem sl_77 {H : AH} {b o : Nat} {lo hi : Option Value} {K : Value → Prop} : rdop Tryd.prog H (Instr.sliceAt 77 (.pointer (some ⟨b, o, none⟩)) lo hi none) K = bnd 2 hi 2 fun h => bnd 0 lo h fun l => nv (.slice (some ⟨b, if 2 = l then o else o + l * Tryd.prog.cellsOf 5, none⟩) (h - l) (2 - l)) K := rdop_slice_arr Tryd.underlying77 (by rw [sz_5]; simp)
@[go_sem] theorem ix_77 {H : AH} {cs : Array Value} {k : IntKind} {i : Int} {K : Value → Prop} : rdop Tryd.prog H (Instr.index 77 (.agg cs) (.int k i)) K = (0 ≤ i ∧ i < (2 : Nat) ∧ wo cs[i.toNat * Tryd.prog.cellsOf 5]? fun v => nv v K) := rdop_index_arr Tryd.underlying77 (by rw [sz_5]; simp) ag_5
@[go_sem] theorem sl_81 {H : AH} {b o len cap : Nat} {lo hi : Option Value} {K : Value → Prop} : rdop Tryd.prog H (Instr.sliceAt 81 (.slice (some ⟨b, o, none⟩) len cap) lo hi none) K = bnd len hi cap fun h => bnd 0 lo h fun l => nv (.slice (some ⟨b, if cap = l then o else o + l * Tryd.prog.cellsOf 5, none⟩) (h - l) (cap - l)) K := rdop_slice_sl Tryd.underlying81 (by rw [sz_5]; simp)
@[go_sem] theorem sc_81 {H : AH} {a : Option Addr} {len cap : Nat} {hi mx : Value} {K : Value → Prop} : rdop Tryd.prog H (Instr.sliceAt 81 (.slice a len cap) none (some hi) (some mx)) K = bnd cap (some mx) cap fun m => bnd len (some hi) m fun h => nv (.slice a h m) K := rdop_clip Tryd.underlying81 (by rw [sz_5]; simp)
@[go_sem] theorem sn_81 {H : AH} {len cap : Nat} {lo hi : Option Value} {K : Value → Prop} : rdop Tryd.prog H (Instr.sliceAt 81 (.slice none len cap) lo hi none) K = bnd len hi cap fun h => bnd 0 lo h fun l => nv (.slice none (h - l) (cap - l)) K := rdop_slice_nil Tryd.underlying81 (by rw [sz_5]; simp)
@[go_sem] theorem sl_141 {H : AH} {b o len cap : Nat} {lo hi : Option Value} {K : Value → Prop} : rdop Tryd.prog H (Instr.sliceAt 141 (.slice (some ⟨b, o, none⟩) len cap) lo hi none) K = bnd len hi cap fun h => bnd 0 lo h fun l => nv (.slice (some ⟨b, if cap = l then o else o + l * Tryd.prog.cellsOf 83, none⟩) (h - l) (cap - l)) K := rdop_slice_sl Tryd.underlying141 (by rw [sz_83]; simp)
@[go_sem] theorem sc_141 {H : AH} {a : Option Addr} {len cap : Nat} {hi mx : Value} {K : Value → Prop} : rdop Tryd.prog H (Instr.sliceAt 141 (.slice a len cap) none (some hi) (some mx)) K = bnd cap (some mx) cap fun m => bnd len (some hi) m fun h => nv (.slice a h m) K := rdop_clip Tryd.underlying141 (by rw [sz_83]; simp)
@[go_sem] theorem sn_141 {H : AH} {len cap : Nat} {lo hi : Option Value} {K : Value → Prop} : rdop Tryd.prog H (Instr.sliceAt 141 (.slice none len cap) lo hi none) K = bnd len hi cap fun h => bnd 0 lo h fun l => nv (.slice none (h - l) (cap - l)) K := rdop_slice_nil Tryd.underlying141 (by rw [sz_83]; simp)
@[go_sem] theorem sl_192 {H : AH} {b o len cap : Nat} {lo hi : Option Value} {K : Value → Prop} : rdop Tryd.prog H (Instr.sliceAt 192 (.slice (some ⟨b, o, none⟩) len cap) lo hi none) K = bnd len hi cap fun h => bnd 0 lo h fun l => nv (.slice (some ⟨b, if cap = l then o else o + l * Tryd.prog.cellsOf 195, none⟩) (h - l) (cap - l)) K := rdop_slice_sl Tryd.underlying192 (by rw [sz_195]; simp)
@[go_sem] theorem sc_192 {H : AH} {a : Option Addr} {len cap : Nat} {hi mx : Value} {K : Value → Prop} : rdop Tryd.prog H (Instr.sliceAt 192 (.slice a len cap) none (some hi) (some mx)) K = bnd cap (some mx) cap fun m => bnd len (some hi) m fun h => nv (.slice a h m) K := rdop_clip Tryd.underlying192 (by rw [sz_195]; simp)
@[go_sem] theorem sn_192 {H : AH} {len cap : Nat} {lo hi : Option Value} {K : Value → Prop} : rdop Tryd.prog H (Instr.sliceAt 192 (.slice none len cap) lo hi none) K = bnd len hi cap fun h => bnd 0 lo h fun l => nv (.slice none (h - l) (cap - l)) K := rdop_slice_nil Tryd.underlying192 (by rw [sz_195]; simp)
@[go_sem] theorem fd_7_0 {H : AH} {cs : Array Value} {K : Value → Prop} : rdop Tryd.prog H (Instr.field 7 (.agg cs) 0) K = wo cs[0]? fun v => nv v K := rdop_fieldF (show fdOf Tryd.prog 7 0 = some (0, 1, false) by kernel_rfl)
@[go_sem] theorem fd_7_1 {H : AH} {cs : Array Value} {K : Value → Prop} : rdop Tryd.prog H (Instr.field 7 (.agg cs) 1) K = wo cs[1]? fun v => nv v K := rdop_fieldF (show fdOf Tryd.prog 7 1 = some (1, 1, false) by kernel_rfl)
@[go_sem] theorem fd_7_2 {H : AH} {cs : Array Value} {K : Value → Prop} : rdop Tryd.prog H (Instr.field 7 (.agg cs) 2) K = wo cs[2]? fun v => nv v K := rdop_fieldF (show fdOf Tryd.prog 7 2 = some (2, 1, false) by kernel_rfl)
@[go_sem] theorem fd_7_3 {H : AH} {cs : Array Value} {K : Value → Prop} : rdop Tryd.prog H (Instr.field 7 (.agg cs) 3) K = wo cs[3]? fun v => nv v K := rdop_fieldF (show fdOf Tryd.prog 7 3 = some (3, 1, false) by kernel_rfl)
@[go_sem] theorem fd_8_0 {H : AH} {cs : Array Value} {K : Value → Prop} : rdop Tryd.prog H (Instr.field 8 (.agg cs) 0) K = wo cs[0]? fun v => nv v K := rdop_fieldF (show fdOf Tryd.prog 8 0 = some (0, 1, false) by kernel_rfl)
@[go_sem] theorem fd_8_1 {H : AH} {cs : Array Value} {K : Value → Prop} : rdop Tryd.prog H (Instr.field 8 (.agg cs) 1) K = wo cs[1]? fun v => nv v K := rdop_fieldF (show fdOf Tryd.prog 8 1 = some (1, 1, false) by kernel_rfl)
@[go_sem] theorem fd_8_2 {H : AH} {cs : Array Value} {K : Value → Prop} : rdop Tryd.prog H (Instr.field 8 (.agg cs) 2) K = wo cs[2]? fun v => nv v K := rdop_fieldF (show fdOf Tryd.prog 8 2 = some (2, 1, false) by kernel_rfl)
@[go_sem] theorem fd_8_3 {H : AH} {cs : Array Value} {K : Value → Prop} : rdop Tryd.prog H (Instr.field 8 (.agg cs) 3) K = wo cs[3]? fun v => nv v K := rdop_fieldF (show fdOf Tryd.prog 8 3 = some (3, 1, false) by kernel_rfl)
@[go_sem] theorem fd_13_0 {H : AH} {cs : Array Value} {K : Value → Prop} : rdop Tryd.prog H (Instr.field 13 (.agg cs) 0) K = wo cs[0]? fun v => nv v K := rdop_fieldF (show fdOf Tryd.prog 13 0 = some (0, 1, false) by kernel_rfl)
@[go_sem] theorem fd_13_1 {H : AH} {cs : Array Value} {K : Value → Prop} : rdop Tryd.prog H (Instr.field 13 (.agg cs) 1) K = wo cs[1]? fun v => nv v K := rdop_fieldF (show fdOf Tryd.prog 13 1 = some (1, 1, false) by kernel_rfl)
@[go_sem] theorem fd_14_0 {H : AH} {cs : Array Value} {K : Value → Prop} : rdop Tryd.prog H (Instr.field 14 (.agg cs) 0) K = wo cs[0]? fun v => nv v K := rdop_fieldF (show fdOf Tryd.prog 14 0 = some (0, 1, false) by kernel_rfl)
@[go_sem] theorem fd_14_1 {H : AH} {cs : Array Value} {K : Value → Prop} : rdop Tryd.prog H (Instr.field 14 (.agg cs) 1) K = wo cs[1]? fun v => nv v K := rdop_fieldF (show fdOf Tryd.prog 14 1 = some (1, 1, false) by kernel_rfl)
@[go_sem] theorem fd_18_0 {H : AH} {cs : Array Value} {K : Value → Prop} : rdop Tryd.prog H (Instr.field 18 (.agg cs) 0) K = wo cs[0]? fun v => nv v K := rdop_fieldF (show fdOf Tryd.prog 18 0 = some (0, 1, false) by kernel_rfl)
@[go_sem] theorem fd_19_0 {H : AH} {cs : Array Value} {K : Value → Prop} : rdop Tryd.prog H (Instr.field 19 (.agg cs) 0) K = wo cs[0]? fun v => nv v K := rdop_fieldF (show fdOf Tryd.prog 19 0 = some (0, 1, false) by kernel_rfl)
@[go_sem ↓] theorem se_22 : slE Tryd.prog 22 = some (48, 3, [(.int .i64 0), (.int .i64 0), (.slice none 0 0)], 40) := by kernel_rfl
@[go_sem] theorem fd_23_0 {H : AH} {cs : Array Value} {K : Value → Prop} : rdop Tryd.prog H (Instr.field 23 (.agg cs) 0) K = wo cs[0]? fun v => nv v K := rdop_fieldF (show fdOf Tryd.prog 23 0 = some (0, 1, false) by kernel_rfl)
@[go_sem] theorem fd_23_1 {H : AH} {cs : Array Value} {K : Value → Prop} : rdop Tryd.prog H (Instr.field 23 (.agg cs) 1) K = wo cs[1]? fun v => nv v K := rdop_fieldF (show fdOf Tryd.prog 23 1 = some (1, 1, false) by kernel_rfl)
@[go_sem] theorem fd_23_2 {H : AH} {cs : Array Value} {K : Value → Prop} : rdop Tryd.prog H (Instr.field 23 (.agg cs) 2) K = wo cs[2]? fun v => nv v K := rdop_fieldF (show fdOf Tryd.prog 23 2 = some (2, 1, false) by kernel_rfl)
@[go_sem] theorem fd_24_0 {H : AH} {cs : Array Value} {K : Value → Prop} : rdop Tryd.prog H (Instr.field 24 (.agg cs) 0) K = wo cs[0]? fun v => nv v K := rdop_fieldF (show fdOf Tryd.prog 24 0 = some (0, 1, false) by kernel_rfl)
@[go_sem] theorem fd_24_1 {H : AH} {cs : Array Value} {K : Value → Prop} : rdop Tryd.prog H (Instr.field 24 (.agg cs) 1) K = wo cs[1]? fun v => nv v K := rdop_fieldF (show fdOf Tryd.prog 24 1 = some (1, 1, false) by kernel_rfl)
@[go_sem] theorem fd_24_2 {H : AH} {cs : Array Value} {K : Value → Prop} : rdop Tryd.prog H (Instr.field 24 (.agg cs) 2) K = wo cs[2]? fun v => nv v K := rdop_fieldF (show fdOf Tryd.prog 24 2 = some (2, 1, false) by kernel_rfl)
@[go_sem ↓] theorem me_35 : mpE Tryd.prog 35 = some (.int .i64, (.int .u8 0)) := by kernel_rfl
@[go_sem] theorem fd_41_0 {H : AH} {cs : Array Value} {K : Value → Prop} : rdop Tryd.prog H (Instr.field 41 (.agg cs) 0) K = wo cs[0]? fun v => nv v K := rdop_fieldF (show fdOf Tryd.prog 41 0 = some (0, 1, false) by kernel_rfl)
@[go_sem] theorem fd_41_1 {H : AH} {cs : Array Value} {K : Value → Prop} : rdop Tryd.prog H (Instr.field 41 (.agg cs) 1) K = wo cs[1]? fun v => nv v K := rdop_fieldF (show fdOf Tryd.prog 41 1 = some (1, 1, false) by kernel_rfl)
@[go_sem] theorem fd_42_0 {H : AH} {cs : Array Value} {K : Value → Prop} : rdop Tryd.prog H (Instr.field 42 (.agg cs) 0) K = wo cs[0]? fun v => nv v K := rdop_fieldF (show fdOf Tryd.prog 42 0 = some (0, 1, false) by kernel_rfl)
@[go_sem] theorem fd_42_1 {H : AH} {cs : Array Value} {K : Value → Prop} : rdop Tryd.prog H (Instr.field 42 (.agg cs) 1) K = wo cs[1]? fun v => nv v K := rdop_fieldF (show fdOf Tryd.prog 42 1 = some (1, 1, false) by kernel_rfl)
@[go_sem ↓] theorem se_44 : slE Tryd.prog 44 = some (26, 4, [(.int .u8 0), (.int .u8 0), (.int .u8 0), (.int .u8 0)], 4) := by kernel_rfl
@[go_sem] theorem fd_45_0 {H : AH} {cs : Array Value} {K : Value → Prop} : rdop Tryd.prog H (Instr.field 45 (.agg cs) 0) K = wo cs[0]? fun v => nv v K := rdop_fieldF (show fdOf Tryd.prog 45 0 = some (0, 1, false) by kernel_rfl)
@[go_sem] theorem fd_45_1 {H : AH} {cs : Array Value} {K : Value → Prop} : rdop Tryd.prog H (Instr.field 45 (.agg cs) 1) K = wo cs[1]? fun v => nv v K := rdop_fieldF (show fdOf Tryd.prog 45 1 = some (1, 1, false) by kernel_rfl)
@[go_sem] theorem fd_46_0 {H : AH} {cs : Array Value} {K : Value → Prop} : rdop Tryd.prog H (Instr.field 46 (.agg cs) 0) K = wo cs[0]? fun v => nv v K := rdop_fieldF (show fdOf Tryd.prog 46 0 = some (0, 1, false) by kernel_rfl)
@[go_sem] theorem fd_46_1 {H : AH} {cs : Array Value} {K : Value → Prop} : rdop Tryd.prog H (Instr.field 46 (.agg cs) 1) K = wo cs[1]? fun v => nv v K := rdop_fieldF (show fdOf Tryd.prog 46 1 = some (1, 1, false) by kernel_rfl)
@[go_sem] theorem fd_47_0 {H : AH} {cs : Array Value} {K : Value → Prop} : rdop Tryd.prog H (Instr.field 47 (.agg cs) 0) K = wo cs[0]? fun v => nv v K := rdop_fieldF (show fdOf Tryd.prog 47 0 = some (0, 1, false) by kernel_rfl)
@[go_sem] theorem fd_47_1 {H : AH} {cs : Array Value} {K : Value → Prop} : rdop Tryd.prog H (Instr.field 47 (.agg cs) 1) K = nv (.agg (cs.extract 1 3)) K := rdop_fieldT (show fdOf Tryd.prog 47 1 = some (1, 2, true) by kernel_rfl) (by simp)
@[go_sem] theorem fd_48_0 {H : AH} {cs : Array Value} {K : Value → Prop} : rdop Tryd.prog H (Instr.field 48 (.agg cs) 0) K = wo cs[0]? fun v => nv v K := rdop_fieldF (show fdOf Tryd.prog 48 0 = some (0, 1, false) by kernel_rfl)
@[go_sem] theorem fd_48_1 {H : AH} {cs : Array Value} {K : Value → Prop} : rdop Tryd.prog H (Instr.field 48 (.agg cs) 1) K = nv (.agg (cs.extract 1 3)) K := rdop_fieldT (show fdOf Tryd.prog 48 1 = some (1, 2, true) by kernel_rfl) (by simp)
@[go_sem ↓] theorem se_49 : slE Tryd.prog 49 = some (3, 1, [(.int .i64 0)], 8) := by kernel_rfl
@[go_sem ↓] theorem me_54 : mpE Tryd.prog 54 = some (.int .i64, .agg #[(.int .i64 0), (.slice none 0 0)]) := by kernel_rfl
@[go_sem] theorem fd_55_0 {H : AH} {cs : Array Value} {K : Value → Prop} : rdop Tryd.prog H (Instr.field 55 (.agg cs) 0) K = wo cs[0]? fun v => nv v K := rdop_fieldF (show fdOf Tryd.prog 55 0 = some (0, 1, false) by kernel_rfl)
@[go_sem] theorem fd_55_1 {H : AH} {cs : Array Value} {K : Value → Prop} : rdop Tryd.prog H (Instr.field 55 (.agg cs) 1) K = wo cs[1]? fun v => nv v K := rdop_fieldF (show fdOf Tryd.prog 55 1 = some (1, 1, false) by kernel_rfl)
@[go_sem] theorem fd_56_0 {H : AH} {cs : Array Value} {K : Value → Prop} : rdop Tryd.prog H (Instr.field 56 (.agg cs) 0) K = wo cs[0]? fun v => nv v K := rdop_fieldF (show fdOf Tryd.prog 56 0 = some (0, 1, false) by kernel_rfl)
@[go_sem] theorem fd_56_1 {H : AH} {cs : Array Value} {K : Value → Prop} : rdop Tryd.prog H (Instr.field 56 (.agg cs) 1) K = wo cs[1]? fun v => nv v K := rdop_fieldF (show fdOf Tryd.prog 56 1 = some (1, 1, false) by kernel_rfl)
@[go_sem ↓] theorem se_81 : slE Tryd.prog 81 = some (5, 1, [(.int .u8 0)], 1) := by kernel_rfl
@[go_sem] theorem fd_86_0 {H : AH} {cs : Array Value} {K : Value → Prop} : rdop Tryd.prog H (Instr.field 86 (.agg cs) 0) K = wo cs[0]? fun v => nv v K := rdop_fieldF (show fdOf Tryd.prog 86 0 = some (0, 1, false) by kernel_rfl)
@[go_sem] theorem fd_87_0 {H : AH} {cs : Array Value} {K : Value → Prop} : rdop Tryd.prog H (Instr.field 87 (.agg cs) 0) K = wo cs[0]? fun v => nv v K := rdop_fieldF (show fdOf Tryd.prog 87 0 = some (0, 1, false) by kernel_rfl)
@[go_sem] theorem fd_103_0 {H : AH} {cs : Array Value} {K : Value → Prop} : rdop Tryd.prog H (Instr.field 103 (.agg cs) 0) K = wo cs[0]? fun v => nv v K := rdop_fieldF (show fdOf Tryd.prog 103 0 = some (0, 1, false) by kernel_rfl)
@[go_sem] theorem fd_103_1 {H : AH} {cs : Array Value} {K : Value → Prop} : rdop Tryd.prog H (Instr.field 103 (.agg cs) 1) K = wo cs[1]? fun v => nv v K := rdop_fieldF (show fdOf Tryd.prog 103 1 = some (1, 1, false) by kernel_rfl)
@[go_sem] theorem fd_103_2 {H : AH} {cs : Array Value} {K : Value → Prop} : rdop Tryd.prog H (Instr.field 103 (.agg cs) 2) K = wo cs[2]? fun v => nv v K := rdop_fieldF (show fdOf Tryd.prog 103 2 = some (2, 1, false) by kernel_rfl)
@[go_sem] theorem fd_104_0 {H : AH} {cs : Array Value} {K : Value → Prop} : rdop Tryd.prog H (Instr.field 104 (.agg cs) 0) K = wo cs[0]? fun v => nv v K := rdop_fieldF (show fdOf Tryd.prog 104 0 = some (0, 1, false) by kernel_rfl)
@[go_sem] theorem fd_104_1 {H : AH} {cs : Array Value} {K : Value → Prop} : rdop Tryd.prog H (Instr.field 104 (.agg cs) 1) K = wo cs[1]? fun v => nv v K := rdop_fieldF (show fdOf Tryd.prog 104 1 = some (1, 1, false) by kernel_rfl)
@[go_sem] theorem fd_104_2 {H : AH} {cs : Array Value} {K : Value → Prop} : rdop Tryd.prog H (Instr.field 104 (.agg cs) 2) K = wo cs[2]? fun v => nv v K := rdop_fieldF (show fdOf Tryd.prog 104 2 = some (2, 1, false) by kernel_rfl)
@[go_sem] theorem fd_129_0 {H : AH} {cs : Array Value} {K : Value → Prop} : rdop Tryd.prog H (Instr.field 129 (.agg cs) 0) K = wo cs[0]? fun v => nv v K := rdop_fieldF (show fdOf Tryd.prog 129 0 = some (0, 1, false) by kernel_rfl)
@[go_sem] theorem fd_130_0 {H : AH} {cs : Array Value} {K : Value → Prop} : rdop Tryd.prog H (Instr.field 130 (.agg cs) 0) K = wo cs[0]? fun v => nv v K := rdop_fieldF (show fdOf Tryd.prog 130 0 = some (0, 1, false) by kernel_rfl)
@[go_sem ↓] theorem se_141 : slE Tryd.prog 141 = some (83, 1, [.nilIface], 16) := by kernel_rfl
@[go_sem] theorem fd_150_0 {H : AH} {cs : Array Value} {K : Value → Prop} : rdop Tryd.prog H (Instr.field 150 (.agg cs) 0) K = wo cs[0]? fun v => nv v K := rdop_fieldF (show fdOf Tryd.prog 150 0 = some (0, 1, false) by kernel_rfl)
@[go_sem] theorem fd_150_1 {H : AH} {cs : Array Value} {K : Value → Prop} : rdop Tryd.prog H (Instr.field 150 (.agg cs) 1) K = wo cs[1]? fun v => nv v K := rdop_fieldF (show fdOf Tryd.prog 150 1 = some (1, 1, false) by kernel_rfl)
@[go_sem] theorem fd_151_0 {H : AH} {cs : Array Value} {K : Value → Prop} : rdop Tryd.prog H (Instr.field 151 (.agg cs) 0) K = wo cs[0]? fun v => nv v K := rdop_fieldF (show fdOf Tryd.prog 151 0 = some (0, 1, false) by kernel_rfl)
@[go_sem] theorem fd_151_1 {H : AH} {cs : Array Value} {K : Value → Prop} : rdop Tryd.prog H (Instr.field 151 (.agg cs) 1) K = wo cs[1]? fun v => nv v K := rdop_fieldF (show fdOf Tryd.prog 151 1 = some (1, 1, false) by kernel_rfl)
@[go_sem] theorem fd_169_0 {H : AH} {cs : Array Value} {K : Value → Prop} : rdop Tryd.prog H (Instr.field 169 (.agg cs) 0) K = wo cs[0]? fun v => nv v K := rdop_fieldF (show fdOf Tryd.prog 169 0 = some (0, 1, false) by kernel_rfl)
@[go_sem] theorem fd_169_1 {H : AH} {cs : Array Value} {K : Value → Prop} : rdop Tryd.prog H (Instr.field 169 (.agg cs) 1) K = wo cs[1]? fun v => nv v K := rdop_fieldF (show fdOf Tryd.prog 169 1 = some (1, 1, false) by kernel_rfl)
@[go_sem] theorem fd_169_2 {H : AH} {cs : Array Value} {K : Value → Prop} : rdop Tryd.prog H (Instr.field 169 (.agg cs) 2) K = wo cs[2]? fun v => nv v K := rdop_fieldF (show fdOf Tryd.prog 169 2 = some (2, 1, false) by kernel_rfl)
@[go_sem] theorem fd_169_3 {H : AH} {cs : Array Value} {K : Value → Prop} : rdop Tryd.prog H (Instr.field 169 (.agg cs) 3) K = wo cs[3]? fun v => nv v K := rdop_fieldF (show fdOf Tryd.prog 169 3 = some (3, 1, false) by kernel_rfl)
@[go_sem] theorem fd_170_0 {H : AH} {cs : Array Value} {K : Value → Prop} : rdop Tryd.prog H (Instr.field 170 (.agg cs) 0) K = wo cs[0]? fun v => nv v K := rdop_fieldF (show fdOf Tryd.prog 170 0 = some (0, 1, false) by kernel_rfl)
@[go_sem] theorem fd_170_1 {H : AH} {cs : Array Value} {K : Value → Prop} : rdop Tryd.prog H (Instr.field 170 (.agg cs) 1) K = wo cs[1]? fun v => nv v K := rdop_fieldF (show fdOf Tryd.prog 170 1 = some (1, 1, false) by kernel_rfl)
@[go_sem] theorem fd_170_2 {H : AH} {cs : Array Value} {K : Value → Prop} : rdop Tryd.prog H (Instr.field 170 (.agg cs) 2) K = wo cs[2]? fun v => nv v K := rdop_fieldF (show fdOf Tryd.prog 170 2 = some (2, 1, false) by kernel_rfl)
@[go_sem] theorem fd_170_3 {H : AH} {cs : Array Value} {K : Value → Prop} : rdop Tryd.prog H (Instr.field 170 (.agg cs) 3) K = wo cs[3]? fun v => nv v K := rdop_fieldF (show fdOf Tryd.prog 170 3 = some (3, 1, false) by kernel_rfl)
@[go_sem] theorem fd_181_0 {H : AH} {cs : Array Value} {K : Value → Prop} : rdop Tryd.prog H (Instr.field 181 (.agg cs) 0) K = wo cs[0]? fun v => nv v K := rdop_fieldF (show fdOf Tryd.prog 181 0 = some (0, 1, false) by kernel_rfl)
@[go_sem] theorem fd_181_1 {H : AH} {cs : Array Value} {K : Value → Prop} : rdop Tryd.prog H (Instr.field 181 (.agg cs) 1) K = wo cs[1]? fun v => nv v K := rdop_fieldF (show fdOf Tryd.prog 181 1 = some (1, 1, false) by kernel_rfl)
@[go_sem] theorem fd_181_2 {H : AH} {cs : Array Value} {K : Value → Prop} : rdop Tryd.prog H (Instr.field 181 (.agg cs) 2) K = wo cs[2]? fun v => nv v K := rdop_fieldF (show fdOf Tryd.prog 181 2 = some (2, 1, false) by kernel_rfl)
@[go_sem] theorem fd_181_3 {H : AH} {cs : Array Value} {K : Value → Prop} : rdop Tryd.prog H (Instr.field 181 (.agg cs) 3) K = wo cs[3]? fun v => nv v K := rdop_fieldF (show fdOf Tryd.prog 181 3 = some (3, 1, false) by kernel_rfl)
@[go_sem] theorem fd_181_4 {H : AH} {cs : Array Value} {K : Value → Prop} : rdop Tryd.prog H (Instr.field 181 (.agg cs) 4) K = wo cs[4]? fun v => nv v K := rdop_fieldF (show fdOf Tryd.prog 181 4 = some (4, 1, false) by kernel_rfl)
@[go_sem] theorem fd_181_5 {H : AH} {cs : Array Value} {K : Value → Prop} : rdop Tryd.prog H (Instr.field 181 (.agg cs) 5) K = wo cs[5]? fun v => nv v K := rdop_fieldF (show fdOf Tryd.prog 181 5 = some (5, 1, false) by kernel_rfl)
@[go_sem] theorem fd_181_6 {H : AH} {cs : Array Value} {K : Value → Prop} : rdop Tryd.prog H (Instr.field 181 (.agg cs) 6) K = wo cs[6]? fun v => nv v K := rdop_fieldF (show fdOf Tryd.prog 181 6 = some (6, 1, false) by kernel_rfl)
@[go_sem] theorem fd_181_7 {H : AH} {cs : Array Value} {K : Value → Prop} : rdop Tryd.prog H (Instr.field 181 (.agg cs) 7) K = wo cs[7]? fun v => nv v K := rdop_fieldF (show fdOf Tryd.prog 181 7 = some (7, 1, false) by kernel_rfl)
@[go_sem] theorem fd_181_8 {H : AH} {cs : Array Value} {K : Value → Prop} : rdop Tryd.prog H (Instr.field 181 (.agg cs) 8) K = wo cs[8]? fun v => nv v K := rdop_fieldF (show fdOf Tryd.prog 181 8 = some (8, 1, false) by kernel_rfl)
@[go_sem] theorem fd_181_9 {H : AH} {cs : Array Value} {K : Value → Prop} : rdop Tryd.prog H (Instr.field 181 (.agg cs) 9) K = wo cs[9]? fun v => nv v K := rdop_fieldF (show fdOf Tryd.prog 181 9 = some (9, 1, false) by kernel_rfl)
@[go_sem] theorem fd_181_10 {H : AH} {cs : Array Value} {K : Value → Prop} : rdop Tryd.prog H (Instr.field 181 (.agg cs) 10) K = wo cs[10]? fun v => nv v K := rdop_fieldF (show fdOf Tryd.prog 181 10 = some (10, 1, false) by kernel_rfl)
@[go_sem] theorem fd_182_0 {H : AH} {cs : Array Value} {K : Value → Prop} : rdop Tryd.prog H (Instr.field 182 (.agg cs) 0) K = wo cs[0]? fun v => nv v K := rdop_fieldF (show fdOf Tryd.prog 182 0 = some (0, 1, false) by kernel_rfl)
@[go_sem] theorem fd_182_1 {H : AH} {cs : Array Value} {K : Value → Prop} : rdop Tryd.prog H (Instr.field 182 (.agg cs) 1) K = wo cs[1]? fun v => nv v K := rdop_fieldF (show fdOf Tryd.prog 182 1 = some (1, 1, false) by kernel_rfl)
@[go_sem] theorem fd_182_2 {H : AH} {cs : Array Value} {K : Value → Prop} : rdop Tryd.prog H (Instr.field 182 (.agg cs) 2) K = wo cs[2]? fun v => nv v K := rdop_fieldF (show fdOf Tryd.prog 182 2 = some (2, 1, false) by kernel_rfl)
@[go_sem] theorem fd_182_3 {H : AH} {cs : Array Value} {K : Value → Prop} : rdop Tryd.prog H (Instr.field 182 (.agg cs) 3) K = wo cs[3]? fun v => nv v K := rdop_fieldF (show fdOf Tryd.prog 182 3 = some (3, 1, false) by kernel_rfl)
@[go_sem] theorem fd_182_4 {H : AH} {cs : Array Value} {K : Value → Prop} : rdop Tryd.prog H (Instr.field 182 (.agg cs) 4) K = wo cs[4]? fun v => nv v K := rdop_fieldF (show fdOf Tryd.prog 182 4 = some (4, 1, false) by kernel_rfl)
@[go_sem] theorem fd_182_5 {H : AH} {cs : Array Value} {K : Value → Prop} : rdop Tryd.prog H (Instr.field 182 (.agg cs) 5) K = wo cs[5]? fun v => nv v K := rdop_fieldF (show fdOf Tryd.prog 182 5 = some (5, 1, false) by kernel_rfl)
@[go_sem] theorem fd_182_6 {H : AH} {cs : Array Value} {K : Value → Prop} : rdop Tryd.prog H (Instr.field 182 (.agg cs) 6) K = wo cs[6]? fun v => nv v K := rdop_fieldF (show fdOf Tryd.prog 182 6 = some (6, 1, false) by kernel_rfl)
@[go_sem] theorem fd_182_7 {H : AH} {cs : Array Value} {K : Value → Prop} : rdop Tryd.prog H (Instr.field 182 (.agg cs) 7) K = wo cs[7]? fun v => nv v K := rdop_fieldF (show fdOf Tryd.prog 182 7 = some (7, 1, false) by kernel_rfl)
@[go_sem] theorem fd_182_8 {H : AH} {cs : Array Value} {K : Value → Prop} : rdop Tryd.prog H (Instr.field 182 (.agg cs) 8) K = wo cs[8]? fun v => nv v K := rdop_fieldF (show fdOf Tryd.prog 182 8 = some (8, 1, false) by kernel_rfl)
@[go_sem] theorem fd_182_9 {H : AH} {cs : Array Value} {K : Value → Prop} : rdop Tryd.prog H (Instr.field 182 (.agg cs) 9) K = wo cs[9]? fun v => nv v K := rdop_fieldF (show fdOf Tryd.prog 182 9 = some (9, 1, false) by kernel_rfl)
@[go_sem] theorem fd_182_10 {H : AH} {cs : Array Value} {K : Value → Prop} : rdop Tryd.prog H (Instr.field 182 (.agg cs) 10) K = wo cs[10]? fun v => nv v K := rdop_fieldF (show fdOf Tryd.prog 182 10 = some (10, 1, false) by kernel_rfl)
@[go_sem] theorem fd_185_0 {H : AH} {cs : Array Value} {K : Value → Prop} : rdop Tryd.prog H (Instr.field 185 (.agg cs) 0) K = wo cs[0]? fun v => nv v K := rdop_fieldF (show fdOf Tryd.prog 185 0 = some (0, 1, false) by kernel_rfl)
@[go_sem] theorem fd_185_1 {H : AH} {cs : Array Value} {K : Value → Prop} : rdop Tryd.prog H (Instr.field 185 (.agg cs) 1) K = wo cs[1]? fun v => nv v K := rdop_fieldF (show fdOf Tryd.prog 185 1 = some (1, 1, false) by kernel_rfl)
@[go_sem] theorem fd_186_0 {H : AH} {cs : Array Value} {K : Value → Prop} : rdop Tryd.prog H (Instr.field 186 (.agg cs) 0) K = wo cs[0]? fun v => nv v K := rdop_fieldF (show fdOf Tryd.prog 186 0 = some (0, 1, false) by kernel_rfl)
@[go_sem] theorem fd_186_1 {H : AH} {cs : Array Value} {K : Value → Prop} : rdop Tryd.prog H (Instr.field 186 (.agg cs) 1) K = wo cs[1]? fun v => nv v K := rdop_fieldF (show fdOf Tryd.prog 186 1 = some (1, 1, false) by kernel_rfl)
@[go_sem] theorem fd_190_0 {H : AH} {cs : Array Value} {K : Value → Prop} : rdop Tryd.prog H (Instr.field 190 (.agg cs) 0) K = wo cs[0]? fun v => nv v K := rdop_fieldF (show fdOf Tryd.prog 190 0 = some (0, 1, false) by kernel_rfl)
@[go_sem] theorem fd_190_1 {H : AH} {cs : Array Value} {K : Value → Prop} : rdop Tryd.prog H (Instr.field 190 (.agg cs) 1) K = wo cs[1]? fun v => nv v K := rdop_fieldF (show fdOf Tryd.prog 190 1 = some (1, 1, false) by kernel_rfl)
@[go_sem] theorem fd_190_2 {H : AH} {cs : Array Value} {K : Value → Prop} : rdop Tryd.prog H (Instr.field 190 (.agg cs) 2) K = wo cs[2]? fun v => nv v K := rdop_fieldF (show fdOf Tryd.prog 190 2 = some (2, 1, false) by kernel_rfl)
@[go_sem] theorem fd_190_3 {H : AH} {cs : Array Value} {K : Value → Prop} : rdop Tryd.prog H (Instr.field 190 (.agg cs) 3) K = wo cs[3]? fun v => nv v K := rdop_fieldF (show fdOf Tryd.prog 190 3 = some (3, 1, false) by kernel_rfl)
@[go_sem] theorem fd_190_4 {H : AH} {cs : Array Value} {K : Value → Prop} : rdop Tryd.prog H (Instr.field 190 (.agg cs) 4) K = wo cs[4]? fun v => nv v K := rdop_fieldF (show fdOf Tryd.prog 190 4 = some (4, 1, false) by kernel_rfl)
@[go_sem] theorem fd_191_0 {H : AH} {cs : Array Value} {K : Value → Prop} : rdop Tryd.prog H (Instr.field 191 (.agg cs) 0) K = wo cs[0]? fun v => nv v K := rdop_fieldF (show fdOf Tryd.prog 191 0 = some (0, 1, false) by kernel_rfl)
@[go_sem] theorem fd_191_1 {H : AH} {cs : Array Value} {K : Value → Prop} : rdop Tryd.prog H (Instr.field 191 (.agg cs) 1) K = wo cs[1]? fun v => nv v K := rdop_fieldF (show fdOf Tryd.prog 191 1 = some (1, 1, false) by kernel_rfl)
@[go_sem] theorem fd_191_2 {H : AH} {cs : Array Value} {K : Value → Prop} : rdop Tryd.prog H (Instr.field 191 (.agg cs) 2) K = wo cs[2]? fun v => nv v K := rdop_fieldF (show fdOf Tryd.prog 191 2 = some (2, 1, false) by kernel_rfl)
@[go_sem] theorem fd_191_3 {H : AH} {cs : Array Value} {K : Value → Prop} : rdop Tryd.prog H (Instr.field 191 (.agg cs) 3) K = wo cs[3]? fun v => nv v K := rdop_fieldF (show fdOf Tryd.prog 191 3 = some (3, 1, false) by kernel_rfl)
@[go_sem] theorem fd_191_4 {H : AH} {cs : Array Value} {K : Value → Prop} : rdop Tryd.prog H (Instr.field 191 (.agg cs) 4) K = wo cs[4]? fun v => nv v K := rdop_fieldF (show fdOf Tryd.prog 191 4 = some (4, 1, false) by kernel_rfl)
@[go_sem ↓] theorem se_192 : slE Tryd.prog 192 = some (195, 4, [(.int .i32 0), (.int .i32 0), (.int .i32 0), (.int .i32 0)], 16) := by kernel_rfl
@[go_sem] theorem fd_194_0 {H : AH} {cs : Array Value} {K : Value → Prop} : rdop Tryd.prog H (Instr.field 194 (.agg cs) 0) K = wo cs[0]? fun v => nv v K := rdop_fieldF (show fdOf Tryd.prog 194 0 = some (0, 1, false) by kernel_rfl)
@[go_sem] theorem fd_194_1 {H : AH} {cs : Array Value} {K : Value → Prop} : rdop Tryd.prog H (Instr.field 194 (.agg cs) 1) K = wo cs[1]? fun v => nv v K := rdop_fieldF (show fdOf Tryd.prog 194 1 = some (1, 1, false) by kernel_rfl)
@[go_sem] theorem fd_194_2 {H : AH} {cs : Array Value} {K : Value → Prop} : rdop Tryd.prog H (Instr.field 194 (.agg cs) 2) K = wo cs[2]? fun v => nv v K := rdop_fieldF (show fdOf Tryd.prog 194 2 = some (2, 1, false) by kernel_rfl)
@[go_sem] theorem fd_194_3 {H : AH} {cs : Array Value} {K : Value → Prop} : rdop Tryd.prog H (Instr.field 194 (.agg cs) 3) K = wo cs[3]? fun v => nv v K := rdop_fieldF (show fdOf Tryd.prog 194 3 = some (3, 1, false) by kernel_rfl)
@[go_sem] theorem fd_195_0 {H : AH} {cs : Array Value} {K : Value → Prop} : rdop Tryd.prog H (Instr.field 195 (.agg cs) 0) K = wo cs[0]? fun v => nv v K := rdop_fieldF (show fdOf Tryd.prog 195 0 = some (0, 1, false) by kernel_rfl)
@[go_sem] theorem fd_195_1 {H : AH} {cs : Array Value} {K : Value → Prop} : rdop Tryd.prog H (Instr.field 195 (.agg cs) 1) K = wo cs[1]? fun v => nv v K := rdop_fieldF (show fdOf Tryd.prog 195 1 = some (1, 1, false) by kernel_rfl)
@[go_sem] theorem fd_195_2 {H : AH} {cs : Array Value} {K : Value → Prop} : rdop Tryd.prog H (Instr.field 195 (.agg cs) 2) K = wo cs[2]? fun v => nv v K := rdop_fieldF (show fdOf Tryd.prog 195 2 = some (2, 1, false) by kernel_rfl)
@[go_sem] theorem fd_195_3 {H : AH} {cs : Array Value} {K : Value → Prop} : rdop Tryd.prog H (Instr.field 195 (.agg cs) 3) K = wo cs[3]? fun v => nv v K := rdop_fieldF (show fdOf Tryd.prog 195 3 = some (3, 1, false) by kernel_rfl)
theorem eg_7 : Tryd.prog.eqGuardType Tryd.prog.depth 7 = false := by kernel_rfl
theorem st_7 : Tryd.prog.stoodInHeld 7 = false := by kernel_rfl
theorem eqi_7 {H : AH} {m : Nat} (a0 b0 : Int) (a1 b1 : Int) (a2 b2 : Bool) (a3 b3 : Int) : qrun Tryd.prog (Op.equalIn (m + 2) 7 (.agg #[.int .i64 a0, .int .i64 a1, .bool a2, .int .u8 a3]) (.agg #[.int .i64 b0, .int .i64 b1, .bool b2, .int .u8 b3])) H = some ((a0 == b0) && ((a1 == b1) && ((a2 == b2) && (a3 == b3)))) := by
  have h := eqIn_struct (P := Tryd.prog) (H := H) (m := m + 1) (xs := #[.int .i64 a0, .int .i64 a1, .bool a2, .int .u8 a3]) (ys := #[.int .i64 b0, .int .i64 b1, .bool b2, .int .u8 b3]) (T := fun f => if f.offset = 0 then (a0 == b0) else if f.offset = 1 then (a1 == b1) else if f.offset = 2 then (a2 == b2) else if f.offset = 3 then (a3 == b3) else true) Tryd.underlying7 st_7 (by
    simp only [List.mem_cons, List.not_mem_nil, or_false]
    rintro f (rfl | rfl | rfl | rfl)
    · exact ⟨by decide, (.int .i64 a0), (.int .i64 b0), part_scal ag_2 rfl, part_scal ag_2 rfl, eqIn_int Tryd.underlying2⟩
    · exact ⟨by decide, (.int .i64 a1), (.int .i64 b1), part_scal ag_3 rfl, part_scal ag_3 rfl, eqIn_int Tryd.underlying3⟩
    · exact ⟨by decide, (.bool a2), (.bool b2), part_scal ag_4 rfl, part_scal ag_4 rfl, eqIn_bool Tryd.underlying4⟩
    · exact ⟨by decide, (.int .u8 a3), (.int .u8 b3), part_scal ag_6 rfl, part_scal ag_6 rfl, eqIn_int Tryd.underlying6⟩)
  rw [h]; simp [Bool.and_assoc]
@[go_sem] theorem eql_7 {H : AH} {u : Option TypeDesc} {x y : Operand} {kk : Value → Prop} {a0 b0 : Int} {a1 b1 : Int} {a2 b2 : Bool} {a3 b3 : Int} : bin u Tryd.prog H .eql 7 x y (.agg #[.int .i64 a0, .int .i64 a1, .bool a2, .int .u8 a3]) (.agg #[.int .i64 b0, .int .i64 b1, .bool b2, .int .u8 b3]) kk = (u = Tryd.prog.underlying 7 ∧ nv (.bool ((a0 == b0) && ((a1 == b1) && ((a2 == b2) && (a3 == b3))))) kk) := bin_eql_of (eqg_agg eg_7) rfl fun _ => eqi_7 (m := 9998) a0 b0 a1 b1 a2 b2 a3 b3
@[go_sem] theorem neq_7 {H : AH} {u : Option TypeDesc} {x y : Operand} {kk : Value → Prop} {a0 b0 : Int} {a1 b1 : Int} {a2 b2 : Bool} {a3 b3 : Int} : bin u Tryd.prog H .neq 7 x y (.agg #[.int .i64 a0, .int .i64 a1, .bool a2, .int .u8 a3]) (.agg #[.int .i64 b0, .int .i64 b1, .bool b2, .int .u8 b3]) kk = (u = Tryd.prog.underlying 7 ∧ nv (.bool (!((a0 == b0) && ((a1 == b1) && ((a2 == b2) && (a3 == b3)))))) kk) := bin_neq_of (eqg_agg eg_7) rfl fun _ => eqi_7 (m := 9998) a0 b0 a1 b1 a2 b2 a3 b3
theorem eg_8 : Tryd.prog.eqGuardType Tryd.prog.depth 8 = false := by kernel_rfl
theorem st_8 : Tryd.prog.stoodInHeld 8 = false := by kernel_rfl
theorem eqi_8 {H : AH} {m : Nat} (a0 b0 : Int) (a1 b1 : Int) (a2 b2 : Bool) (a3 b3 : Int) : qrun Tryd.prog (Op.equalIn (m + 2) 8 (.agg #[.int .i64 a0, .int .i64 a1, .bool a2, .int .u8 a3]) (.agg #[.int .i64 b0, .int .i64 b1, .bool b2, .int .u8 b3])) H = some ((a0 == b0) && ((a1 == b1) && ((a2 == b2) && (a3 == b3)))) := by
  have h := eqIn_struct (P := Tryd.prog) (H := H) (m := m + 1) (xs := #[.int .i64 a0, .int .i64 a1, .bool a2, .int .u8 a3]) (ys := #[.int .i64 b0, .int .i64 b1, .bool b2, .int .u8 b3]) (T := fun f => if f.offset = 0 then (a0 == b0) else if f.offset = 1 then (a1 == b1) else if f.offset = 2 then (a2 == b2) else if f.offset = 3 then (a3 == b3) else true) Tryd.underlying8 st_8 (by
    simp only [List.mem_cons, List.not_mem_nil, or_false]
    rintro f (rfl | rfl | rfl | rfl)
    · exact ⟨by decide, (.int .i64 a0), (.int .i64 b0), part_scal ag_2 rfl, part_scal ag_2 rfl, eqIn_int Tryd.underlying2⟩
    · exact ⟨by decide, (.int .i64 a1), (.int .i64 b1), part_scal ag_3 rfl, part_scal ag_3 rfl, eqIn_int Tryd.underlying3⟩
    · exact ⟨by decide, (.bool a2), (.bool b2), part_scal ag_4 rfl, part_scal ag_4 rfl, eqIn_bool Tryd.underlying4⟩
    · exact ⟨by decide, (.int .u8 a3), (.int .u8 b3), part_scal ag_6 rfl, part_scal ag_6 rfl, eqIn_int Tryd.underlying6⟩)
  rw [h]; simp [Bool.and_assoc]
@[go_sem] theorem eql_8 {H : AH} {u : Option TypeDesc} {x y : Operand} {kk : Value → Prop} {a0 b0 : Int} {a1 b1 : Int} {a2 b2 : Bool} {a3 b3 : Int} : bin u Tryd.prog H .eql 8 x y (.agg #[.int .i64 a0, .int .i64 a1, .bool a2, .int .u8 a3]) (.agg #[.int .i64 b0, .int .i64 b1, .bool b2, .int .u8 b3]) kk = (u = Tryd.prog.underlying 8 ∧ nv (.bool ((a0 == b0) && ((a1 == b1) && ((a2 == b2) && (a3 == b3))))) kk) := bin_eql_of (eqg_agg eg_8) rfl fun _ => eqi_8 (m := 9998) a0 b0 a1 b1 a2 b2 a3 b3
@[go_sem] theorem neq_8 {H : AH} {u : Option TypeDesc} {x y : Operand} {kk : Value → Prop} {a0 b0 : Int} {a1 b1 : Int} {a2 b2 : Bool} {a3 b3 : Int} : bin u Tryd.prog H .neq 8 x y (.agg #[.int .i64 a0, .int .i64 a1, .bool a2, .int .u8 a3]) (.agg #[.int .i64 b0, .int .i64 b1, .bool b2, .int .u8 b3]) kk = (u = Tryd.prog.underlying 8 ∧ nv (.bool (!((a0 == b0) && ((a1 == b1) && ((a2 == b2) && (a3 == b3)))))) kk) := bin_neq_of (eqg_agg eg_8) rfl fun _ => eqi_8 (m := 9998) a0 b0 a1 b1 a2 b2 a3 b3
theorem eg_23 : Tryd.prog.eqGuardType Tryd.prog.depth 23 = false := by kernel_rfl
theorem st_23 : Tryd.prog.stoodInHeld 23 = false := by kernel_rfl
theorem eqi_23 {H : AH} {m : Nat} (a0 b0 : Int) (a1 b1 : Int) (a2 b2 : Int) : qrun Tryd.prog (Op.equalIn (m + 2) 23 (.agg #[.int .i64 a0, .int .i64 a1, .int .i64 a2]) (.agg #[.int .i64 b0, .int .i64 b1, .int .i64 b2])) H = some ((a0 == b0) && ((a1 == b1) && (a2 == b2))) := by
  have h := eqIn_struct (P := Tryd.prog) (H := H) (m := m + 1) (xs := #[.int .i64 a0, .int .i64 a1, .int .i64 a2]) (ys := #[.int .i64 b0, .int .i64 b1, .int .i64 b2]) (T := fun f => if f.offset = 0 then (a0 == b0) else if f.offset = 1 then (a1 == b1) else if f.offset = 2 then (a2 == b2) else true) Tryd.underlying23 st_23 (by
    simp only [List.mem_cons, List.not_mem_nil, or_false]
    rintro f (rfl | rfl | rfl)
    · exact ⟨by decide, (.int .i64 a0), (.int .i64 b0), part_scal ag_3 rfl, part_scal ag_3 rfl, eqIn_int Tryd.underlying3⟩
    · exact ⟨by decide, (.int .i64 a1), (.int .i64 b1), part_scal ag_3 rfl, part_scal ag_3 rfl, eqIn_int Tryd.underlying3⟩
    · exact ⟨by decide, (.int .i64 a2), (.int .i64 b2), part_scal ag_3 rfl, part_scal ag_3 rfl, eqIn_int Tryd.underlying3⟩)
  rw [h]; simp [Bool.and_assoc]
@[go_sem] theorem eql_23 {H : AH} {u : Option TypeDesc} {x y : Operand} {kk : Value → Prop} {a0 b0 : Int} {a1 b1 : Int} {a2 b2 : Int} : bin u Tryd.prog H .eql 23 x y (.agg #[.int .i64 a0, .int .i64 a1, .int .i64 a2]) (.agg #[.int .i64 b0, .int .i64 b1, .int .i64 b2]) kk = (u = Tryd.prog.underlying 23 ∧ nv (.bool ((a0 == b0) && ((a1 == b1) && (a2 == b2)))) kk) := bin_eql_of (eqg_agg eg_23) rfl fun _ => eqi_23 (m := 9998) a0 b0 a1 b1 a2 b2
@[go_sem] theorem neq_23 {H : AH} {u : Option TypeDesc} {x y : Operand} {kk : Value → Prop} {a0 b0 : Int} {a1 b1 : Int} {a2 b2 : Int} : bin u Tryd.prog H .neq 23 x y (.agg #[.int .i64 a0, .int .i64 a1, .int .i64 a2]) (.agg #[.int .i64 b0, .int .i64 b1, .int .i64 b2]) kk = (u = Tryd.prog.underlying 23 ∧ nv (.bool (!((a0 == b0) && ((a1 == b1) && (a2 == b2))))) kk) := bin_neq_of (eqg_agg eg_23) rfl fun _ => eqi_23 (m := 9998) a0 b0 a1 b1 a2 b2
theorem eg_24 : Tryd.prog.eqGuardType Tryd.prog.depth 24 = false := by kernel_rfl
theorem st_24 : Tryd.prog.stoodInHeld 24 = false := by kernel_rfl
theorem eqi_24 {H : AH} {m : Nat} (a0 b0 : Int) (a1 b1 : Int) (a2 b2 : Int) : qrun Tryd.prog (Op.equalIn (m + 2) 24 (.agg #[.int .i64 a0, .int .i64 a1, .int .i64 a2]) (.agg #[.int .i64 b0, .int .i64 b1, .int .i64 b2])) H = some ((a0 == b0) && ((a1 == b1) && (a2 == b2))) := by
  have h := eqIn_struct (P := Tryd.prog) (H := H) (m := m + 1) (xs := #[.int .i64 a0, .int .i64 a1, .int .i64 a2]) (ys := #[.int .i64 b0, .int .i64 b1, .int .i64 b2]) (T := fun f => if f.offset = 0 then (a0 == b0) else if f.offset = 1 then (a1 == b1) else if f.offset = 2 then (a2 == b2) else true) Tryd.underlying24 st_24 (by
    simp only [List.mem_cons, List.not_mem_nil, or_false]
    rintro f (rfl | rfl | rfl)
    · exact ⟨by decide, (.int .i64 a0), (.int .i64 b0), part_scal ag_3 rfl, part_scal ag_3 rfl, eqIn_int Tryd.underlying3⟩
    · exact ⟨by decide, (.int .i64 a1), (.int .i64 b1), part_scal ag_3 rfl, part_scal ag_3 rfl, eqIn_int Tryd.underlying3⟩
    · exact ⟨by decide, (.int .i64 a2), (.int .i64 b2), part_scal ag_3 rfl, part_scal ag_3 rfl, eqIn_int Tryd.underlying3⟩)
  rw [h]; simp [Bool.and_assoc]
@[go_sem] theorem eql_24 {H : AH} {u : Option TypeDesc} {x y : Operand} {kk : Value → Prop} {a0 b0 : Int} {a1 b1 : Int} {a2 b2 : Int} : bin u Tryd.prog H .eql 24 x y (.agg #[.int .i64 a0, .int .i64 a1, .int .i64 a2]) (.agg #[.int .i64 b0, .int .i64 b1, .int .i64 b2]) kk = (u = Tryd.prog.underlying 24 ∧ nv (.bool ((a0 == b0) && ((a1 == b1) && (a2 == b2)))) kk) := bin_eql_of (eqg_agg eg_24) rfl fun _ => eqi_24 (m := 9998) a0 b0 a1 b1 a2 b2
@[go_sem] theorem neq_24 {H : AH} {u : Option TypeDesc} {x y : Operand} {kk : Value → Prop} {a0 b0 : Int} {a1 b1 : Int} {a2 b2 : Int} : bin u Tryd.prog H .neq 24 x y (.agg #[.int .i64 a0, .int .i64 a1, .int .i64 a2]) (.agg #[.int .i64 b0, .int .i64 b1, .int .i64 b2]) kk = (u = Tryd.prog.underlying 24 ∧ nv (.bool (!((a0 == b0) && ((a1 == b1) && (a2 == b2))))) kk) := bin_neq_of (eqg_agg eg_24) rfl fun _ => eqi_24 (m := 9998) a0 b0 a1 b1 a2 b2
theorem eg_25 : Tryd.prog.eqGuardType Tryd.prog.depth 25 = false := by kernel_rfl
theorem eqi_25 {H : AH} {m : Nat} (a0 b0 : Int) (a1 b1 : Int) (a2 b2 : Int) (a3 b3 : Int) : qrun Tryd.prog (Op.equalIn (m + 2) 25 (.agg #[.int .u8 a0, .int .u8 a1, .int .u8 a2, .int .u8 a3]) (.agg #[.int .u8 b0, .int .u8 b1, .int .u8 b2, .int .u8 b3])) H = some ((a0 == b0) && ((a1 == b1) && ((a2 == b2) && (a3 == b3)))) := by
  have h := eqIn_array (P := Tryd.prog) (H := H) (m := m + 1) (xs := #[.int .u8 a0, .int .u8 a1, .int .u8 a2, .int .u8 a3]) (ys := #[.int .u8 b0, .int .u8 b1, .int .u8 b2, .int .u8 b3]) (T := fun i => ([(a0 == b0), (a1 == b1), (a2 == b2), (a3 == b3)] : List Bool).getD i false) Tryd.underlying25 (info_sz sz_5 (by simp)) (fun i hi => by
    match i, hi with
    | 0, _ => exact ⟨(.int .u8 a0), (.int .u8 b0), part_scal ag_5 rfl, part_scal ag_5 rfl, eqIn_int Tryd.underlying5⟩
    | 1, _ => exact ⟨(.int .u8 a1), (.int .u8 b1), part_scal ag_5 rfl, part_scal ag_5 rfl, eqIn_int Tryd.underlying5⟩
    | 2, _ => exact ⟨(.int .u8 a2), (.int .u8 b2), part_scal ag_5 rfl, part_scal ag_5 rfl, eqIn_int Tryd.underlying5⟩
    | 3, _ => exact ⟨(.int .u8 a3), (.int .u8 b3), part_scal ag_5 rfl, part_scal ag_5 rfl, eqIn_int Tryd.underlying5⟩
    | _ + 4, hi => omega)
  rw [h]; simp [List.range_succ, Bool.and_assoc]
@[go_sem] theorem eql_25 {H : AH} {u : Option TypeDesc} {x y : Operand} {kk : Value → Prop} {a0 b0 : Int} {a1 b1 : Int} {a2 b2 : Int} {a3 b3 : Int} : bin u Tryd.prog H .eql 25 x y (.agg #[.int .u8 a0, .int .u8 a1, .int .u8 a2, .int .u8 a3]) (.agg #[.int .u8 b0, .int .u8 b1, .int .u8 b2, .int .u8 b3]) kk = (u = Tryd.prog.underlying 25 ∧ nv (.bool ((a0 == b0) && ((a1 == b1) && ((a2 == b2) && (a3 == b3))))) kk) := bin_eql_of (eqg_agg eg_25) rfl fun _ => eqi_25 (m := 9998) a0 b0 a1 b1 a2 b2 a3 b3
@[go_sem] theorem neq_25 {H : AH} {u : Option TypeDesc} {x y : Operand} {kk : Value → Prop} {a0 b0 : Int} {a1 b1 : Int} {a2 b2 : Int} {a3 b3 : Int} : bin u Tryd.prog H .neq 25 x y (.agg #[.int .u8 a0, .int .u8 a1, .int .u8 a2, .int .u8 a3]) (.agg #[.int .u8 b0, .int .u8 b1, .int .u8 b2, .int .u8 b3]) kk = (u = Tryd.prog.underlying 25 ∧ nv (.bool (!((a0 == b0) && ((a1 == b1) && ((a2 == b2) && (a3 == b3)))))) kk) := bin_neq_of (eqg_agg eg_25) rfl fun _ => eqi_25 (m := 9998) a0 b0 a1 b1 a2 b2 a3 b3
theorem eg_26 : Tryd.prog.eqGuardType Tryd.prog.depth 26 = false := by kernel_rfl
theorem eqi_26 {H : AH} {m : Nat} (a0 b0 : Int) (a1 b1 : Int) (a2 b2 : Int) (a3 b3 : Int) : qrun Tryd.prog (Op.equalIn (m + 2) 26 (.agg #[.int .u8 a0, .int .u8 a1, .int .u8 a2, .int .u8 a3]) (.agg #[.int .u8 b0, .int .u8 b1, .int .u8 b2, .int .u8 b3])) H = some ((a0 == b0) && ((a1 == b1) && ((a2 == b2) && (a3 == b3)))) := by
  have h := eqIn_array (P := Tryd.prog) (H := H) (m := m + 1) (xs := #[.int .u8 a0, .int .u8 a1, .int .u8 a2, .int .u8 a3]) (ys := #[.int .u8 b0, .int .u8 b1, .int .u8 b2, .int .u8 b3]) (T := fun i => ([(a0 == b0), (a1 == b1), (a2 == b2), (a3 == b3)] : List Bool).getD i false) Tryd.underlying26 (info_sz sz_5 (by simp)) (fun i hi => by
    match i, hi with
    | 0, _ => exact ⟨(.int .u8 a0), (.int .u8 b0), part_scal ag_5 rfl, part_scal ag_5 rfl, eqIn_int Tryd.underlying5⟩
    | 1, _ => exact ⟨(.int .u8 a1), (.int .u8 b1), part_scal ag_5 rfl, part_scal ag_5 rfl, eqIn_int Tryd.underlying5⟩
    | 2, _ => exact ⟨(.int .u8 a2), (.int .u8 b2), part_scal ag_5 rfl, part_scal ag_5 rfl, eqIn_int Tryd.underlying5⟩
    | 3, _ => exact ⟨(.int .u8 a3), (.int .u8 b3), part_scal ag_5 rfl, part_scal ag_5 rfl, eqIn_int Tryd.underlying5⟩
    | _ + 4, hi => omega)
  rw [h]; simp [List.range_succ, Bool.and_assoc]
@[go_sem] theorem eql_26 {H : AH} {u : Option TypeDesc} {x y : Operand} {kk : Value → Prop} {a0 b0 : Int} {a1 b1 : Int} {a2 b2 : Int} {a3 b3 : Int} : bin u Tryd.prog H .eql 26 x y (.agg #[.int .u8 a0, .int .u8 a1, .int .u8 a2, .int .u8 a3]) (.agg #[.int .u8 b0, .int .u8 b1, .int .u8 b2, .int .u8 b3]) kk = (u = Tryd.prog.underlying 26 ∧ nv (.bool ((a0 == b0) && ((a1 == b1) && ((a2 == b2) && (a3 == b3))))) kk) := bin_eql_of (eqg_agg eg_26) rfl fun _ => eqi_26 (m := 9998) a0 b0 a1 b1 a2 b2 a3 b3
@[go_sem] theorem neq_26 {H : AH} {u : Option TypeDesc} {x y : Operand} {kk : Value → Prop} {a0 b0 : Int} {a1 b1 : Int} {a2 b2 : Int} {a3 b3 : Int} : bin u Tryd.prog H .neq 26 x y (.agg #[.int .u8 a0, .int .u8 a1, .int .u8 a2, .int .u8 a3]) (.agg #[.int .u8 b0, .int .u8 b1, .int .u8 b2, .int .u8 b3]) kk = (u = Tryd.prog.underlying 26 ∧ nv (.bool (!((a0 == b0) && ((a1 == b1) && ((a2 == b2) && (a3 == b3)))))) kk) := bin_neq_of (eqg_agg eg_26) rfl fun _ => eqi_26 (m := 9998) a0 b0 a1 b1 a2 b2 a3 b3
theorem eg_61 : Tryd.prog.eqGuardType Tryd.prog.depth 61 = false := by kernel_rfl
theorem eqi_61 {H : AH} {m : Nat} (a0 b0 : Int) (a1 b1 : Int) (a2 b2 : Int) (a3 b3 : Int) (a4 b4 : Int) : qrun Tryd.prog (Op.equalIn (m + 2) 61 (.agg #[.int .u8 a0, .int .u8 a1, .int .u8 a2, .int .u8 a3, .int .u8 a4]) (.agg #[.int .u8 b0, .int .u8 b1, .int .u8 b2, .int .u8 b3, .int .u8 b4])) H = some ((a0 == b0) && ((a1 == b1) && ((a2 == b2) && ((a3 == b3) && (a4 == b4))))) := by
  have h := eqIn_array (P := Tryd.prog) (H := H) (m := m + 1) (xs := #[.int .u8 a0, .int .u8 a1, .int .u8 a2, .int .u8 a3, .int .u8 a4]) (ys := #[.int .u8 b0, .int .u8 b1, .int .u8 b2, .int .u8 b3, .int .u8 b4]) (T := fun i => ([(a0 == b0), (a1 == b1), (a2 == b2), (a3 == b3), (a4 == b4)] : List Bool).getD i false) Tryd.underlying61 (info_sz sz_5 (by simp)) (fun i hi => by
    match i, hi with
    | 0, _ => exact ⟨(.int .u8 a0), (.int .u8 b0), part_scal ag_5 rfl, part_scal ag_5 rfl, eqIn_int Tryd.underlying5⟩
    | 1, _ => exact ⟨(.int .u8 a1), (.int .u8 b1), part_scal ag_5 rfl, part_scal ag_5 rfl, eqIn_int Tryd.underlying5⟩
    | 2, _ => exact ⟨(.int .u8 a2), (.int .u8 b2), part_scal ag_5 rfl, part_scal ag_5 rfl, eqIn_int Tryd.underlying5⟩
    | 3, _ => exact ⟨(.int .u8 a3), (.int .u8 b3), part_scal ag_5 rfl, part_scal ag_5 rfl, eqIn_int Tryd.underlying5⟩
    | 4, _ => exact ⟨(.int .u8 a4), (.int .u8 b4), part_scal ag_5 rfl, part_scal ag_5 rfl, eqIn_int Tryd.underlying5⟩
    | _ + 5, hi => omega)
  rw [h]; simp [List.range_succ, Bool.and_assoc]
@[go_sem] theorem eql_61 {H : AH} {u : Option TypeDesc} {x y : Operand} {kk : Value → Prop} {a0 b0 : Int} {a1 b1 : Int} {a2 b2 : Int} {a3 b3 : Int} {a4 b4 : Int} : bin u Tryd.prog H .eql 61 x y (.agg #[.int .u8 a0, .int .u8 a1, .int .u8 a2, .int .u8 a3, .int .u8 a4]) (.agg #[.int .u8 b0, .int .u8 b1, .int .u8 b2, .int .u8 b3, .int .u8 b4]) kk = (u = Tryd.prog.underlying 61 ∧ nv (.bool ((a0 == b0) && ((a1 == b1) && ((a2 == b2) && ((a3 == b3) && (a4 == b4)))))) kk) := bin_eql_of (eqg_agg eg_61) rfl fun _ => eqi_61 (m := 9998) a0 b0 a1 b1 a2 b2 a3 b3 a4 b4
@[go_sem] theorem neq_61 {H : AH} {u : Option TypeDesc} {x y : Operand} {kk : Value → Prop} {a0 b0 : Int} {a1 b1 : Int} {a2 b2 : Int} {a3 b3 : Int} {a4 b4 : Int} : bin u Tryd.prog H .neq 61 x y (.agg #[.int .u8 a0, .int .u8 a1, .int .u8 a2, .int .u8 a3, .int .u8 a4]) (.agg #[.int .u8 b0, .int .u8 b1, .int .u8 b2, .int .u8 b3, .int .u8 b4]) kk = (u = Tryd.prog.underlying 61 ∧ nv (.bool (!((a0 == b0) && ((a1 == b1) && ((a2 == b2) && ((a3 == b3) && (a4 == b4))))))) kk) := bin_neq_of (eqg_agg eg_61) rfl fun _ => eqi_61 (m := 9998) a0 b0 a1 b1 a2 b2 a3 b3 a4 b4
theorem eg_77 : Tryd.prog.eqGuardType Tryd.prog.depth 77 = false := by kernel_rfl
theorem eqi_77 {H : AH} {m : Nat} (a0 b0 : Int) (a1 b1 : Int) : qrun Tryd.prog (Op.equalIn (m + 2) 77 (.agg #[.int .u8 a0, .int .u8 a1]) (.agg #[.int .u8 b0, .int .u8 b1])) H = some ((a0 == b0) && (a1 == b1)) := by
  have h := eqIn_array (P := Tryd.prog) (H := H) (m := m + 1) (xs := #[.int .u8 a0, .int .u8 a1]) (ys := #[.int .u8 b0, .int .u8 b1]) (T := fun i => ([(a0 == b0), (a1 == b1)] : List Bool).getD i false) Tryd.underlying77 (info_sz sz_5 (by simp)) (fun i hi => by
    match i, hi with
    | 0, _ => exact ⟨(.int .u8 a0), (.int .u8 b0), part_scal ag_5 rfl, part_scal ag_5 rfl, eqIn_int Tryd.underlying5⟩
    | 1, _ => exact ⟨(.int .u8 a1), (.int .u8 b1), part_scal ag_5 rfl, part_scal ag_5 rfl, eqIn_int Tryd.underlying5⟩
    | _ + 2, hi => omega)
  rw [h]; simp [List.range_succ, Bool.and_assoc]
@[go_sem] theorem eql_77 {H : AH} {u : Option TypeDesc} {x y : Operand} {kk : Value → Prop} {a0 b0 : Int} {a1 b1 : Int} : bin u Tryd.prog H .eql 77 x y (.agg #[.int .u8 a0, .int .u8 a1]) (.agg #[.int .u8 b0, .int .u8 b1]) kk = (u = Tryd.prog.underlying 77 ∧ nv (.bool ((a0 == b0) && (a1 == b1))) kk) := bin_eql_of (eqg_agg eg_77) rfl fun _ => eqi_77 (m := 9998) a0 b0 a1 b1
@[go_sem] theorem neq_77 {H : AH} {u : Option TypeDesc} {x y : Operand} {kk : Value → Prop} {a0 b0 : Int} {a1 b1 : Int} : bin u Tryd.prog H .neq 77 x y (.agg #[.int .u8 a0, .int .u8 a1]) (.agg #[.int .u8 b0, .int .u8 b1]) kk = (u = Tryd.prog.underlying 77 ∧ nv (.bool (!((a0 == b0) && (a1 == b1)))) kk) := bin_neq_of (eqg_agg eg_77) rfl fun _ => eqi_77 (m := 9998) a0 b0 a1 b1
@[go_sem] theorem ok_2 : fnOk Tryd.prog 2 = true := by kernel_rfl
@[go_sem] theorem ok_3 : fnOk Tryd.prog 3 = true := by kernel_rfl
@[go_sem] theorem ok_4 : fnOk Tryd.prog 4 = true := by kernel_rfl
@[go_sem] theorem ok_5 : fnOk Tryd.prog 5 = true := by kernel_rfl
@[go_sem] theorem ok_6 : fnOk Tryd.prog 6 = true := by kernel_rfl
@[go_sem] theorem ok_7 : fnOk Tryd.prog 7 = true := by kernel_rfl
@[go_sem] theorem ok_8 : fnOk Tryd.prog 8 = true := by kernel_rfl
@[go_sem] theorem ok_9 : fnOk Tryd.prog 9 = true := by kernel_rfl
@[go_sem] theorem ok_10 : fnOk Tryd.prog 10 = true := by kernel_rfl
@[go_sem] theorem ok_11 : fnOk Tryd.prog 11 = true := by kernel_rfl
@[go_sem] theorem ok_12 : fnOk Tryd.prog 12 = true := by kernel_rfl
@[go_sem] theorem ok_13 : fnOk Tryd.prog 13 = true := by kernel_rfl
@[go_sem] theorem ok_14 : fnOk Tryd.prog 14 = true := by kernel_rfl
@[go_sem] theorem ok_15 : fnOk Tryd.prog 15 = true := by kernel_rfl
@[go_sem] theorem ok_16 : fnOk Tryd.prog 16 = true := by kernel_rfl
@[go_sem] theorem ok_17 : fnOk Tryd.prog 17 = true := by kernel_rfl
@[go_sem] theorem ok_18 : fnOk Tryd.prog 18 = true := by kernel_rfl
@[go_sem] theorem ok_19 : fnOk Tryd.prog 19 = true := by kernel_rfl
@[go_sem] theorem ok_20 : fnOk Tryd.prog 20 = true := by kernel_rfl
@[go_sem] theorem ok_21 : fnOk Tryd.prog 21 = true := by kernel_rfl
@[go_sem] theorem ok_22 : fnOk Tryd.prog 22 = true := by kernel_rfl
@[go_sem] theorem ok_23 : fnOk Tryd.prog 23 = true := by kernel_rfl
@[go_sem] theorem ok_24 : fnOk Tryd.prog 24 = true := by kernel_rfl
@[go_sem] theorem ok_25 : fnOk Tryd.prog 25 = true := by kernel_rfl
@[go_sem] theorem ok_26 : fnOk Tryd.prog 26 = true := by kernel_rfl
@[go_sem] theorem ok_27 : fnOk Tryd.prog 27 = true := by kernel_rfl
@[go_sem] theorem ok_28 : fnOk Tryd.prog 28 = true := by kernel_rfl
@[go_sem] theorem ok_29 : fnOk Tryd.prog 29 = true := by kernel_rfl
@[go_sem] theorem ok_30 : fnOk Tryd.prog 30 = true := by kernel_rfl
@[go_sem] theorem ok_31 : fnOk Tryd.prog 31 = true := by kernel_rfl
@[go_sem] theorem ok_32 : fnOk Tryd.prog 32 = true := by kernel_rfl
@[go_sem] theorem ok_33 : fnOk Tryd.prog 33 = true := by kernel_rfl
@[go_sem] theorem ok_34 : fnOk Tryd.prog 34 = true := by kernel_rfl
@[go_sem] theorem ok_35 : fnOk Tryd.prog 35 = true := by kernel_rfl
@[go_sem] theorem ok_36 : fnOk Tryd.prog 36 = true := by kernel_rfl
@[go_sem] theorem ok_37 : fnOk Tryd.prog 37 = true := by kernel_rfl
@[go_sem] theorem ok_38 : fnOk Tryd.prog 38 = true := by kernel_rfl
@[go_sem] theorem ok_39 : fnOk Tryd.prog 39 = true := by kernel_rfl
@[go_sem] theorem ok_40 : fnOk Tryd.prog 40 = true := by kernel_rfl
@[go_sem] theorem ok_41 : fnOk Tryd.prog 41 = true := by kernel_rfl
@[go_sem] theorem ok_42 : fnOk Tryd.prog 42 = true := by kernel_rfl
@[go_sem] theorem ok_43 : fnOk Tryd.prog 43 = true := by kernel_rfl
@[go_sem] theorem ok_44 : fnOk Tryd.prog 44 = true := by kernel_rfl
@[go_sem] theorem ok_48 : fnOk Tryd.prog 48 = true := by kernel_rfl
@[go_sem] theorem ok_49 : fnOk Tryd.prog 49 = true := by kernel_rfl
@[go_sem] theorem ok_50 : fnOk Tryd.prog 50 = true := by kernel_rfl
@[go_sem] theorem ok_51 : fnOk Tryd.prog 51 = true := by kernel_rfl
@[go_sem] theorem ok_52 : fnOk Tryd.prog 52 = true := by kernel_rfl
@[go_sem] theorem ok_53 : fnOk Tryd.prog 53 = true := by kernel_rfl
@[go_sem] theorem ok_54 : fnOk Tryd.prog 54 = true := by kernel_rfl
@[go_sem] theorem ok_55 : fnOk Tryd.prog 55 = true := by kernel_rfl
@[go_sem] theorem ok_56 : fnOk Tryd.prog 56 = true := by kernel_rfl
@[go_sem] theorem ok_57 : fnOk Tryd.prog 57 = true := by kernel_rfl
@[go_sem] theorem ok_58 : fnOk Tryd.prog 58 = true := by kernel_rfl
@[go_sem] theorem ok_59 : fnOk Tryd.prog 59 = true := by kernel_rfl
@[go_sem] theorem ok_60 : fnOk Tryd.prog 60 = true := by kernel_rfl
@[go_sem] theorem ok_61 : fnOk Tryd.prog 61 = true := by kernel_rfl
@[go_sem] theorem ok_62 : fnOk Tryd.prog 62 = true := by kernel_rfl
@[go_sem] theorem ok_66 : fnOk Tryd.prog 66 = true := by kernel_rfl
@[go_sem] theorem ok_67 : fnOk Tryd.prog 67 = true := by kernel_rfl
@[go_sem] theorem ok_68 : fnOk Tryd.prog 68 = true := by kernel_rfl
@[go_sem] theorem ok_69 : fnOk Tryd.prog 69 = true := by kernel_rfl
@[go_sem] theorem ok_70 : fnOk Tryd.prog 70 = true := by kernel_rfl
@[go_sem] theorem ok_71 : fnOk Tryd.prog 71 = true := by kernel_rfl
@[go_sem] theorem ok_72 : fnOk Tryd.prog 72 = true := by kernel_rfl
@[go_sem] theorem ok_73 : fnOk Tryd.prog 73 = true := by kernel_rfl
@[go_sem] theorem ok_74 : fnOk Tryd.prog 74 = true := by kernel_rfl
@[go_sem] theorem ok_75 : fnOk Tryd.prog 75 = true := by kernel_rfl
@[go_sem] theorem ok_76 : fnOk Tryd.prog 76 = true := by kernel_rfl
@[go_sem] theorem ok_77 : fnOk Tryd.prog 77 = true := by kernel_rfl
@[go_sem] theorem ok_78 : fnOk Tryd.prog 78 = true := by kernel_rfl
@[go_sem] theorem ok_79 : fnOk Tryd.prog 79 = true := by kernel_rfl
@[go_sem] theorem ok_100 : fnOk Tryd.prog 100 = true := by kernel_rfl
@[go_sem] theorem ok_116 : fnOk Tryd.prog 116 = true := by kernel_rfl
@[go_sem] theorem ok_121 : fnOk Tryd.prog 121 = true := by kernel_rfl
theorem mixed : Tryd.prog.follows .mixedOrders = true := by kernel_rfl
attribute [go_sem] Tryd.underlying0 Tryd.underlying1 Tryd.underlying2 Tryd.underlying3 Tryd.underlying4 Tryd.underlying5 Tryd.underlying6 Tryd.underlying7 Tryd.underlying8 Tryd.underlying9 Tryd.underlying10 Tryd.underlying11 Tryd.underlying12 Tryd.underlying13 Tryd.underlying14 Tryd.underlying15
attribute [go_sem] Tryd.underlying16 Tryd.underlying17 Tryd.underlying18 Tryd.underlying19 Tryd.underlying20 Tryd.underlying21 Tryd.underlying22 Tryd.underlying23 Tryd.underlying24 Tryd.underlying25 Tryd.underlying26 Tryd.underlying27 Tryd.underlying28 Tryd.underlying29 Tryd.underlying30 Tryd.underlying31
attribute [go_sem] Tryd.underlying32 Tryd.underlying33 Tryd.underlying34 Tryd.underlying35 Tryd.underlying36 Tryd.underlying37 Tryd.underlying38 Tryd.underlying39 Tryd.underlying40 Tryd.underlying41 Tryd.underlying42 Tryd.underlying43 Tryd.underlying44 Tryd.underlying45 Tryd.underlying46 Tryd.underlying47
attribute [go_sem] Tryd.underlying48 Tryd.underlying49 Tryd.underlying50 Tryd.underlying51 Tryd.underlying52 Tryd.underlying53 Tryd.underlying54 Tryd.underlying55 Tryd.underlying56 Tryd.underlying57 Tryd.underlying58 Tryd.underlying59 Tryd.underlying60 Tryd.underlying61 Tryd.underlying62 Tryd.underlying63
attribute [go_sem] Tryd.underlying64 Tryd.underlying65 Tryd.underlying66 Tryd.underlying67 Tryd.underlying68 Tryd.underlying69 Tryd.underlying70 Tryd.underlying71 Tryd.underlying72 Tryd.underlying73 Tryd.underlying74 Tryd.underlying75 Tryd.underlying76 Tryd.underlying77 Tryd.underlying78 Tryd.underlying79
attribute [go_sem] Tryd.underlying80 Tryd.underlying81 Tryd.underlying82 Tryd.underlying83 Tryd.underlying84 Tryd.underlying85 Tryd.underlying86 Tryd.underlying87 Tryd.underlying88 Tryd.underlying89 Tryd.underlying90 Tryd.underlying91 Tryd.underlying92 Tryd.underlying93 Tryd.underlying94 Tryd.underlying95
attribute [go_sem] Tryd.underlying96 Tryd.underlying97 Tryd.underlying98 Tryd.underlying99 Tryd.underlying100 Tryd.underlying101 Tryd.underlying102 Tryd.underlying103 Tryd.underlying104 Tryd.underlying105 Tryd.underlying106 Tryd.underlying107 Tryd.underlying108 Tryd.underlying109 Tryd.underlying110 Tryd.underlying111
attribute [go_sem] Tryd.underlying112 Tryd.underlying113 Tryd.underlying114 Tryd.underlying115 Tryd.underlying116 Tryd.underlying117 Tryd.underlying118 Tryd.underlying119 Tryd.underlying120 Tryd.underlying121 Tryd.underlying122 Tryd.underlying123 Tryd.underlying124 Tryd.underlying125 Tryd.underlying126 Tryd.underlying127
attribute [go_sem] Tryd.underlying128 Tryd.underlying129 Tryd.underlying130 Tryd.underlying131 Tryd.underlying132 Tryd.underlying133 Tryd.underlying134 Tryd.underlying135 Tryd.underlying136 Tryd.underlying137 Tryd.underlying138 Tryd.underlying139 Tryd.underlying140 Tryd.underlying141 Tryd.underlying142 Tryd.underlying143
attribute [go_sem] Tryd.underlying144 Tryd.underlying145 Tryd.underlying146 Tryd.underlying147 Tryd.underlying148 Tryd.underlying149 Tryd.underlying150 Tryd.underlying151 Tryd.underlying152 Tryd.underlying153 Tryd.underlying154 Tryd.underlying155 Tryd.underlying156 Tryd.underlying157 Tryd.underlying158 Tryd.underlying159
attribute [go_sem] Tryd.underlying160 Tryd.underlying161 Tryd.underlying162 Tryd.underlying163 Tryd.underlying164 Tryd.underlying165 Tryd.underlying166 Tryd.underlying167 Tryd.underlying168 Tryd.underlying169 Tryd.underlying170 Tryd.underlying171 Tryd.underlying172 Tryd.underlying173 Tryd.underlying174 Tryd.underlying175
attribute [go_sem] Tryd.underlying176 Tryd.underlying177 Tryd.underlying178 Tryd.underlying179 Tryd.underlying180 Tryd.underlying181 Tryd.underlying182 Tryd.underlying183 Tryd.underlying184 Tryd.underlying185 Tryd.underlying186 Tryd.underlying187 Tryd.underlying188 Tryd.underlying189 Tryd.underlying190 Tryd.underlying191
attribute [go_sem] Tryd.underlying192 Tryd.underlying193 Tryd.underlying194 Tryd.underlying195 Tryd.underlying196
attribute [go_sem] Tryd.ntmps0 Tryd.results0 Tryd.ntmps1 Tryd.results1 Tryd.ntmps2 Tryd.results2 Tryd.ntmps3 Tryd.results3 Tryd.ntmps4 Tryd.results4 Tryd.ntmps5 Tryd.results5 Tryd.ntmps6 Tryd.results6 Tryd.ntmps7 Tryd.results7
attribute [go_sem] Tryd.ntmps8 Tryd.results8 Tryd.ntmps9 Tryd.results9 Tryd.ntmps10 Tryd.results10 Tryd.ntmps11 Tryd.results11 Tryd.ntmps12 Tryd.results12 Tryd.ntmps13 Tryd.results13 Tryd.ntmps14 Tryd.results14 Tryd.ntmps15 Tryd.results15
attribute [go_sem] Tryd.ntmps16 Tryd.results16 Tryd.ntmps17 Tryd.results17 Tryd.ntmps18 Tryd.results18 Tryd.ntmps19 Tryd.results19 Tryd.ntmps20 Tryd.results20 Tryd.ntmps21 Tryd.results21 Tryd.ntmps22 Tryd.results22 Tryd.ntmps23 Tryd.results23
attribute [go_sem] Tryd.ntmps24 Tryd.results24 Tryd.ntmps25 Tryd.results25 Tryd.ntmps26 Tryd.results26 Tryd.ntmps27 Tryd.results27 Tryd.ntmps28 Tryd.results28 Tryd.ntmps29 Tryd.results29 Tryd.ntmps30 Tryd.results30 Tryd.ntmps31 Tryd.results31
attribute [go_sem] Tryd.ntmps32 Tryd.results32 Tryd.ntmps33 Tryd.results33 Tryd.ntmps34 Tryd.results34 Tryd.ntmps35 Tryd.results35 Tryd.ntmps36 Tryd.results36 Tryd.ntmps37 Tryd.results37 Tryd.ntmps38 Tryd.results38 Tryd.ntmps39 Tryd.results39
attribute [go_sem] Tryd.ntmps40 Tryd.results40 Tryd.ntmps41 Tryd.results41 Tryd.ntmps42 Tryd.results42 Tryd.ntmps43 Tryd.results43 Tryd.ntmps44 Tryd.results44 Tryd.ntmps45 Tryd.results45 Tryd.ntmps46 Tryd.results46 Tryd.ntmps47 Tryd.results47
attribute [go_sem] Tryd.ntmps48 Tryd.results48 Tryd.ntmps49 Tryd.results49 Tryd.ntmps50 Tryd.results50 Tryd.ntmps51 Tryd.results51 Tryd.ntmps52 Tryd.results52 Tryd.ntmps53 Tryd.results53 Tryd.ntmps54 Tryd.results54 Tryd.ntmps55 Tryd.results55
attribute [go_sem] Tryd.ntmps56 Tryd.results56 Tryd.ntmps57 Tryd.results57 Tryd.ntmps58 Tryd.results58 Tryd.ntmps59 Tryd.results59 Tryd.ntmps60 Tryd.results60 Tryd.ntmps61 Tryd.results61 Tryd.ntmps62 Tryd.results62 Tryd.ntmps63 Tryd.results63
attribute [go_sem] Tryd.ntmps64 Tryd.results64 Tryd.ntmps65 Tryd.results65 Tryd.ntmps66 Tryd.results66 Tryd.ntmps67 Tryd.results67 Tryd.ntmps68 Tryd.results68 Tryd.ntmps69 Tryd.results69 Tryd.ntmps70 Tryd.results70 Tryd.ntmps71 Tryd.results71
attribute [go_sem] Tryd.ntmps72 Tryd.results72 Tryd.ntmps73 Tryd.results73 Tryd.ntmps74 Tryd.results74 Tryd.ntmps75 Tryd.results75 Tryd.ntmps76 Tryd.results76 Tryd.ntmps77 Tryd.results77 Tryd.ntmps78 Tryd.results78 Tryd.ntmps79 Tryd.results79
attribute [go_sem] Tryd.ntmps80 Tryd.results80 Tryd.ntmps81 Tryd.results81 Tryd.ntmps82 Tryd.results82 Tryd.ntmps83 Tryd.results83 Tryd.ntmps84 Tryd.results84 Tryd.ntmps85 Tryd.results85 Tryd.ntmps86 Tryd.results86 Tryd.ntmps87 Tryd.results87
attribute [go_sem] Tryd.ntmps88 Tryd.results88 Tryd.ntmps89 Tryd.results89 Tryd.ntmps90 Tryd.results90 Tryd.ntmps91 Tryd.results91 Tryd.ntmps92 Tryd.results92 Tryd.ntmps93 Tryd.results93 Tryd.ntmps94 Tryd.results94 Tryd.ntmps95 Tryd.results95
attribute [go_sem] Tryd.ntmps96 Tryd.results96 Tryd.ntmps97 Tryd.results97 Tryd.ntmps98 Tryd.results98 Tryd.ntmps99 Tryd.results99 Tryd.ntmps100 Tryd.results100 Tryd.ntmps101 Tryd.results101 Tryd.ntmps102 Tryd.results102 Tryd.ntmps103 Tryd.results103
attribute [go_sem] Tryd.ntmps104 Tryd.results104 Tryd.ntmps105 Tryd.results105 Tryd.ntmps106 Tryd.results106 Tryd.ntmps107 Tryd.results107 Tryd.ntmps108 Tryd.results108 Tryd.ntmps109 Tryd.results109 Tryd.ntmps110 Tryd.results110 Tryd.ntmps111 Tryd.results111
attribute [go_sem] Tryd.ntmps112 Tryd.results112 Tryd.ntmps113 Tryd.results113 Tryd.ntmps114 Tryd.results114 Tryd.ntmps115 Tryd.results115 Tryd.ntmps116 Tryd.results116 Tryd.ntmps117 Tryd.results117 Tryd.ntmps118 Tryd.results118 Tryd.ntmps119 Tryd.results119
attribute [go_sem] Tryd.ntmps120 Tryd.results120 Tryd.ntmps121 Tryd.results121
end Go.Proofs.YtamlipffhimfmaaDoor.Ty

/- Slices, by their rows, over heaps of which it is said what has stayed. -/
namespace Go.AX
set_option linter.unusedSimpArgs false
set_option linter.unusedVariables false
open Go Go.RowKit

/-! ### What has stayed -/
structure Keep (H H' : AH) (ex : Nat → Prop) : Prop where
  w0 : H'.w0 = H.w0
  at_ : ∀ b, ¬ ex b → ((H.find b).isSome ∨ b < H.w0.heap.size) → H'.find b = H.find b
theorem Keep.refl {H : AH} {ex : Nat → Prop} : Keep H H ex := ⟨rfl, fun _ _ _ => rfl⟩
theorem Keep.mono {H H' : AH} {ex ex' : Nat → Prop} (h : Keep H H' ex) (he : ∀ b, ex b → ex' b) : Keep H H' ex' := ⟨h.w0, fun b hb => h.at_ b fun hx => hb (he b hx)⟩
theorem Keep.trans {A B C : AH} {ex : Nat → Prop} (h : Keep A B ex) (k : Keep B C ex) : Keep A C ex := ⟨k.w0.trans h.w0, fun b hb hk => by
  have h1 := h.at_ b hb hk
  rw [← h1]
  exact k.at_ b hb (by rw [h1, h.w0]; exact hk)⟩
theorem Keep.add {H : AH} {b : Nat} {k : ABlk} {ex : Nat → Prop} (hf : Fresh H b) : Keep H (H.add b k) ex := ⟨rfl, fun b' _ hk => by
  rw [find_add]
  split
  · rename_i e; subst e
    rcases hk with hk | hk
    · rw [hf.2] at hk; cases hk
    · exact absurd hf.1 (by have : H.base = H.w0.heap.size := rfl; omega)
  · rfl⟩
theorem Keep.put {H : AH} {b : Nat} {k : ABlk} : Keep H ((H.del b).add b k) (· = b) := ⟨rfl, fun b' hb _ => by
  rw [find_add, if_neg hb, find_del, if_neg hb]⟩
theorem Keep.ext {H A : AH} {ex : Nat → Prop} (h : Ext H A) : Keep H A ex := by
  induction h with
  | refl => exact .refl
  | add _ hf ih => exact ih.trans (Keep.add hf)
theorem Keep.find {H H' : AH} {ex : Nat → Prop} {b : Nat} {k : ABlk} (h : Keep H H' ex) (hb : ¬ ex b) (hf : H.find b = some k) : H'.find b = some k := by rw [h.at_ b hb (by rw [hf]; exact .inl rfl), hf]
theorem Keep.le {H0 H H' : AH} {ex : Nat → Prop} (h : Keep H H' ex) (hl : H0.le H) (he : ∀ b, ex b → H0.find b = none) : H0.le H' := ⟨hl.1.trans h.w0.symm, fun b k hb => by
  refine h.find (fun hx => ?_) (hl.2 b k hb)
  rw [he b hx] at hb; cases hb⟩
theorem Keep.fresh {H H' : AH} {ex : Nat → Prop} {b : Nat} (h : Keep H H' ex) (hf : Fresh H' b) (hb : ¬ ex b) : Fresh H b := ⟨h.w0 ▸ hf.1, by
  cases hx : H.find b with
  | none => rfl
  | some k => have := h.find hb hx; rw [hf.2] at this; cases this⟩

/-! ### Slices -/
theorem SlcIn.same {H H' : AH} {sz : Nat} {base : Option Addr} {cap : Nat} {R : List (List Value)} (h : SlcIn H sz base cap R) (hw : H'.w0 = H.w0) (hf : R ≠ [] → ∀ a, base = some a → H'.find a.block = H.find a.block) : SlcIn H' sz base cap R := by
  have hrd : R ≠ [] → ∀ b o o', base = some ⟨b, o, none⟩ → H'.rd ⟨b, o', none⟩ = H.rd ⟨b, o', none⟩ := fun hn b o o' hb => by
    unfold AH.rd
    have := hf hn _ hb
    simp only at this
    rw [this, hw]
  have hrow : R ≠ [] → ∀ b o o' n, base = some ⟨b, o, none⟩ → H'.row b o' n = H.row b o' n := fun hn b o o' n hb => by
    unfold AH.row
    have := hf hn _ hb
    simp only at this
    rw [this, hw]
  have hne : ∀ {i : Nat} {r : List Value}, R[i]? = some r → R ≠ [] := fun h1 hx => by rw [hx] at h1; simp at h1
  exact ⟨h.le, h.big, h.at_, fun b o hb i j r c h1 h2 => by rw [hrd (hne h1) b o _ hb]; exact h.rd b o hb i j r c h1 h2, fun b o hb i r h1 => by rw [hrow (hne h1) b o _ _ hb]; exact h.row b o hb i r h1⟩
theorem row_known {H : AH} {b o n : Nat} {l : List Value} (h : H.row b o n = some l) : (H.find b).isSome ∨ b < H.w0.heap.size := by
  unfold AH.row at h
  cases hf : H.find b with
  | some k => exact .inl rfl
  | none =>
    rw [hf] at h
    simp only at h
    split at h
    · rename_i hlt; exact .inr hlt
    · cases h
theorem SlcIn.keep {H H' : AH} {sz : Nat} {base : Option Addr} {cap : Nat} {R : List (List Value)} {ex : Nat → Prop} (h : SlcIn H sz base cap R) (hk : Keep H H' ex) (hb : ∀ a, base = some a → ¬ ex a.block) : SlcIn H' sz base cap R :=
  h.same hk.w0 fun hn a ha => hk.at_ _ (hb a ha) (by
    cases R with
    | nil => exact absurd rfl hn
    | cons r R =>
      obtain ⟨b, o, h2⟩ := h.at_ 0 (by simp)
      rw [h2] at ha; cases ha
      exact row_known (h.row b o h2 0 r rfl))
theorem SlcIn.of_find {H : AH} {sz cap e m b : Nat} {R : List (List Value)} (hf : H.find b = some (.cells R.flatten e m)) (hR : ∀ r ∈ R, r.length = sz) (hl : R.length ≤ cap) (hb : R.length < 9223372036854775808) : SlcIn H sz (some ⟨b, 0, none⟩) cap R :=
  (SlcIn.own (H := H.del b) (e := e) (m := m) hR hl hb).same rfl fun _ a ha => by
    cases ha
    rw [hf, find_add_self]
theorem SlcIn.tail {H : AH} {sz b o cap : Nat} {r : List Value} {R : List (List Value)} (h : SlcIn H sz (some ⟨b, o, none⟩) cap (r :: R)) : SlcIn H sz (some ⟨b, if cap = 1 then o else o + 1 * sz, none⟩) (cap - 1) R := by
  have hle := h.le
  have hbig := h.big
  simp only [List.length_cons] at hle hbig
  by_cases hc : cap = 1
  · have hR : R = [] := List.eq_nil_of_length_eq_zero (by omega)
    subst hR
    rw [if_pos hc]
    exact ⟨by simp, by simp, fun i hi => by simp at hi, fun b o _ i j r c h1 _ => by simp at h1, fun b o _ i r h1 => by simp at h1⟩
  · rw [if_neg hc, Nat.one_mul]
    refine ⟨by omega, by omega, fun i hi => ⟨b, o + sz, rfl⟩, fun b' o' hb i j r' c h1 h2 => ?_, fun b' o' hb i r' h1 => ?_⟩
    · cases hb
      have := h.rd b o rfl (i + 1) j r' c (by simpa using h1) h2
      rw [show o + ((i + 1) * sz + j) = o + sz + (i * sz + j) from by rw [Nat.succ_mul]; omega] at this
      exact this
    · cases hb
      have := h.row b o rfl (i + 1) r' (by simpa using h1)
      rw [show o + (i + 1) * sz = o + sz + i * sz from by rw [Nat.succ_mul]; omega] at this
      exact this

theorem flat_lput {sz : Nat} : ∀ {R : List (List Value)} (_ : ∀ r ∈ R, r.length = sz) (i : Nat) (r' : List Value), i < R.length → r'.length = sz → lput R.flatten (i * sz) r' = (R.set i r').flatten
  | [], _, _, _, h, _ => by simp at h
  | r0 :: R, hR, 0, r', _, h => by
    have h0 : r0.length = sz := hR r0 (by simp)
    rw [lput_eq _ _ _ (by simp [h, h0]), Nat.zero_mul, Nat.zero_add, h, ← h0, List.flatten_cons, List.drop_left]
    simp
  | r0 :: R, hR, i + 1, r', hi, h => by
    have h0 : r0.length = sz := hR r0 (by simp)
    have hRl := flat_len (fun r hr => hR r (by simp [hr]) : ∀ r ∈ R, r.length = sz)
    have ih := flat_lput (fun r hr => hR r (by simp [hr]) : ∀ r ∈ R, r.length = sz) i r' (by simpa using hi) h
    have hm : (i + 1) * sz ≤ R.length * sz := Nat.mul_le_mul_right _ (by simp at hi; omega)
    rw [Nat.succ_mul] at hm
    rw [lput_eq _ _ _ (by rw [hRl, h]; omega)] at ih
    rw [List.set_cons_succ, List.flatten_cons, List.flatten_cons, ← ih, lput_eq _ _ _ (by rw [List.length_append, hRl, h0, h, Nat.succ_mul]; omega), Nat.succ_mul]
    rw [List.take_append, List.drop_append, List.take_of_length_le (show r0.length ≤ i * sz + sz from by omega), List.drop_eq_nil_of_le (show r0.length ≤ i * sz + sz + r'.length from by omega), h0,
      show i * sz + sz - sz = i * sz from by omega, show i * sz + sz + r'.length - sz = i * sz + r'.length from by omega]
    simp
theorem lput_append : ∀ (vs A B : List Value) (off : Nat), off + vs.length ≤ A.length → lput (A ++ B) off vs = lput A off vs ++ B
  | [], _, _, _, _ => rfl
  | v :: vs, A, B, off, h => by
    simp only [List.length_cons] at h
    simp only [lput]
    rw [List.set_append_left (h := by omega), lput_append vs _ _ _ (by simp; omega)]

/-- One row written. -/
theorem SlcIn.put {H : AH} {sz b o cap e m i : Nat} {cs r' : List Value} {R : List (List Value)} (h : SlcIn H sz (some ⟨b, o, none⟩) cap R) (hz : sz ≠ 0) (hf : H.find b = some (.cells cs e m)) (hi : i < R.length) (hr' : r'.length = sz) :
    SlcIn ((H.del b).add b (.cells (lput cs (o + i * sz) r') e m)) sz (some ⟨b, o, none⟩) cap (R.set i r') ∧ o + i * sz + sz ≤ cs.length := by
  have hin : ∀ (i : Nat) (r : List Value), R[i]? = some r → o + i * sz + sz ≤ cs.length ∧ r.length = sz := fun i r hr => by
    have h1 := h.row b o rfl i r hr
    refine ⟨?_, row_length h1⟩
    unfold AH.row at h1
    rw [hf] at h1
    simp only at h1
    split at h1
    · assumption
    · cases h1
  have hii := (hin i _ (List.getElem?_eq_getElem hi)).1
  have hget := lput_get r' cs (o + i * sz)
  have hrd : ∀ (i' j : Nat) (r : List Value) (c : Value), (R.set i r')[i']? = some r → r[j]? = some c → (lput cs (o + i * sz) r')[o + (i' * sz + j)]? = some c := fun i' j r c h1 h2 => by
    rw [hget _ (by omega)]
    rw [List.getElem?_set] at h1
    have hj : j < r.length := by
      rcases Nat.lt_or_ge j r.length with h | h
      · exact h
      · rw [List.getElem?_eq_none h] at h2; cases h2
    by_cases e : i = i'
    · subst e
      rw [if_pos rfl, if_pos hi] at h1
      cases h1
      rw [if_pos (by omega), show o + (i * sz + j) - (o + i * sz) = j from by omega]; exact h2
    · rw [if_neg e] at h1
      have h3 := hin i' r h1
      have h4 := h.rd b o rfl i' j r c h1 h2
      have hne : ¬ (o + i * sz ≤ o + (i' * sz + j) ∧ o + (i' * sz + j) < o + i * sz + r'.length) := by
        rcases Nat.lt_or_gt_of_ne e with h5 | h5
        · have := Nat.mul_le_mul_right sz (show i + 1 ≤ i' from h5); rw [Nat.succ_mul] at this; omega
        · have := Nat.mul_le_mul_right sz (show i' + 1 ≤ i from h5); rw [Nat.succ_mul] at this; omega
      rw [if_neg hne]
      rw [rd_find hf] at h4; exact h4
  have hlen : ∀ (i' : Nat) (r : List Value), (R.set i r')[i']? = some r → r.length = sz := fun i' r h1 => by
    by_cases e : i = i'
    · subst e
      rw [List.getElem?_set_self hi] at h1
      cases h1; exact hr'
    · rw [List.getElem?_set_ne e] at h1
      exact (hin i' r h1).2
  refine ⟨⟨by rw [List.length_set]; exact h.le, by rw [List.length_set]; exact h.big, fun _ _ => ⟨b, o, rfl⟩, fun b' o' hb i' j r c h1 h2 => ?_, fun b' o' hb i' r h1 => ?_⟩, hii⟩
  · cases hb
    rw [rd_add_self]; exact hrd i' j r c h1 h2
  · cases hb
    exact row_of_rd (hlen i' r h1).symm hz fun j c hc => by rw [rd_add_self, Nat.add_assoc]; exact hrd i' j r c h1 hc

/-- An append to a slice of our own, of which nothing but the new one is kept. -/
theorem APD.own2 {P : Program} {H : AH} {t t2 e sz bt b n cap m bs : Nat} {zs cs new : List Value} {x : Value} {k : Value → AH → Prop} (hE : slE P t = some (e, sz, zs, bt)) (hz : zs.length = sz) (hbt : bt ≠ 0) (hni : nInt (P.underlying t2) = true)
    (hb : H.find b = some (.cells cs e bs)) (hcs : cs.length = n * sz) (hbs : cap * sz ≤ bs) (hx : slen x = some m) (hnew : srow H sz x = some new) (hnc : n ≤ cap) (hsc : new.all scal = true) (hroom : (2 * (n + m) + 192) * bt ≤ 281474976710656)
    (hk : ∀ b' c' bs' HH, (b' = b ∨ Fresh H b') → n + m ≤ c' → c' * sz ≤ bs' → (H.del b).add b' (.cells (cs ++ new) e bs') = HH → k (.slice (some ⟨b', 0, none⟩) (n + m) c') HH) : APD P (some t) (some t2) [.slice (some ⟨b, 0, none⟩) n cap, x] H k := fun ts ty h0 h1 => by
  have hl : new.length = m * sz := (qrun_firstCells (P := P) hnew hx).2
  have hncs : n * sz ≤ cap * sz := Nat.mul_le_mul_right _ hnc
  have hrow : srow H sz (.slice (some ⟨b, 0, none⟩) n cap) = some cs := by
    show H.row b 0 (n * sz) = some cs
    unfold AH.row
    rw [hb]
    simp only
    rw [if_pos (by omega), List.drop_zero, List.take_of_length_le (by omega)]
  have base := apd_run (P := P) (H := H) (ts := ts) (ty := ty) (s := .slice (some ⟨b, 0, none⟩) n cap) (x := x)
    (k := fun v H' => (v = .slice (some ⟨b, 0, none⟩) (n + m) cap ∧ n + m ≤ cap ∧ H' = H.set b (.cells (cs ++ new) e bs)) ∨ (∃ b' c', Fresh H b' ∧ n + m ≤ c' ∧ v = .slice (some ⟨b', 0, none⟩) (n + m) c' ∧ H' = H.add b' (.cells (cs ++ new) e (c' * sz))) ∨ (m = 0 ∧ v = .slice (some ⟨b, 0, none⟩) n cap ∧ H' = H)) (by
    rw [h0, h1]
    refine ⟨hni, ?_⟩
    show wo (slE P t) _
    rw [hE]
    refine ⟨hz, hbt, ?_⟩
    rw [hx]
    show wo (srow H sz (.slice (some ⟨b, 0, none⟩) n cap)) _
    rw [hrow]
    show wo (srow H sz x) _
    rw [hnew]
    refine ⟨fun h => .inr (.inr ⟨h.1, rfl, rfl⟩), fun h => ?_, fun h => ⟨hroom, fun b' hb' c' hc' => .inr (.inl ⟨b', c', hb', hc', rfl, rfl⟩)⟩⟩
    have happ : H.app b (0 + n * sz) new = some (H.set b (.cells (cs ++ new) e bs)) := by
      unfold AH.app
      rw [hb]
      simp only
      rw [if_pos ⟨by omega, by
        rw [hl, Nat.zero_add, ← Nat.add_mul]
        exact Nat.le_trans (Nat.mul_le_mul_right _ h.2) hbs, hsc⟩, Nat.zero_add, List.take_of_length_le (by omega), List.drop_eq_nil_of_le (by omega), List.append_nil]
    show wo (H.app b (0 + n * sz) new) _
    rw [happ]
    exact .inl ⟨rfl, h.2, rfl⟩)
  refine base.post (fun v H' h => ?_) (fun w nx w' h => value_only (α := Unit) h)
  rcases h with ⟨rfl, hle, rfl⟩ | ⟨b', c', hf, hle, rfl, rfl⟩ | ⟨rfl, rfl, rfl⟩
  · refine ⟨_, fun _ w hs => hs.of_find (H' := (H.del b).add b (.cells (cs ++ new) e bs)) rfl fun b'' => ?_, hk b cap bs _ (.inl rfl) hle hbs rfl⟩
    rw [find_add, find_set, find_del]
    by_cases h : b'' = b <;> simp [h]
  · refine ⟨(H.del b).add b' (.cells (cs ++ new) e (c' * sz)), fun _ w hs => hs.mono ⟨rfl, fun b'' k'' h => ?_⟩, hk b' c' _ _ (.inr hf) hle (Nat.le_refl _) rfl⟩
    rw [find_add] at h ⊢
    split at h
    · rename_i e; rw [if_pos e]; exact h
    · rename_i e; rw [if_neg e]
      rw [find_del] at h
      split at h
      · cases h
      · exact h
  · have hn0 : new = [] := List.eq_nil_of_length_eq_zero (by rw [hl, Nat.zero_mul])
    refine ⟨_, fun _ w hs => hs.of_find (H' := (H'.del b).add b (.cells (cs ++ new) e bs)) rfl fun b'' => ?_, hk b cap bs _ (.inl rfl) (by omega) hbs rfl⟩
    rw [find_add, find_del, hn0, List.append_nil]
    by_cases h : b'' = b <;> simp [h, hb]

/-! ### Slices of our own -/
structure OwnS (H0 H : AH) (e sz : Nat) (base : Option Addr) (cap : Nat) (R : List (List Value)) : Prop where
  rows : ∀ r ∈ R, r.length = sz
  le : R.length ≤ cap
  big : R.length < 9223372036854775808
  at_ : (base = none ∧ R = [] ∧ cap = 0) ∨ ∃ b bs, base = some ⟨b, 0, none⟩ ∧ H.find b = some (.cells R.flatten e bs) ∧ cap * sz ≤ bs ∧ Fresh H0 b
section
variable {H0 H : AH} {e sz cap : Nat} {base : Option Addr} {R : List (List Value)}
theorem OwnS.nil : OwnS H0 H e sz none 0 [] := ⟨by simp, by simp, by simp, .inl ⟨rfl, rfl, rfl⟩⟩
theorem OwnS.new {b m n : Nat} {cs : List Value} (hf : Fresh H b) (hl : H0.le H) (hc : cs = R.flatten) (hm : m = n * sz) (hn : n = R.length) (hR : ∀ r ∈ R, r.length = sz) (hb : R.length < 9223372036854775808) : OwnS H0 (H.add b (.cells cs e m)) e sz (some ⟨b, 0, none⟩) n R :=
  ⟨hR, by omega, hb, .inr ⟨b, _, rfl, by rw [find_add_self, hc, hm], Nat.le_refl _, Fresh.of_le hl hf⟩⟩
theorem OwnS.slc (h : OwnS H0 H e sz base cap R) : SlcIn H sz base cap R := by
  rcases h.at_ with ⟨rfl, rfl, rfl⟩ | ⟨b, _, rfl, hf, _⟩
  · exact SlcIn.nil
  · exact SlcIn.of_find hf h.rows h.le h.big
theorem OwnS.keep {H' : AH} {ex : Nat → Prop} (h : OwnS H0 H e sz base cap R) (hk : Keep H H' ex) (hb : ∀ a, base = some a → ¬ ex a.block) : OwnS H0 H' e sz base cap R :=
  ⟨h.rows, h.le, h.big, by
    rcases h.at_ with h1 | ⟨b, bs, h1, hf, h2⟩
    · exact .inl h1
    · exact .inr ⟨b, bs, h1, hk.find (hb _ h1) hf, h2⟩⟩
theorem OwnS.fresh (h : OwnS H0 H e sz base cap R) (a : Addr) (ha : base = some a) : Fresh H0 a.block := by
  rcases h.at_ with ⟨h1, _⟩ | ⟨b, _, h1, _, _, h2⟩
  · rw [ha] at h1; cases h1
  · rw [ha] at h1; cases h1; exact h2
def exB (base : Option Addr) (b : Nat) : Prop := ∃ a, base = some a ∧ b = a.block
theorem exB_none {b : Nat} : ¬ exB none b := fun ⟨_, h, _⟩ => by cases h
theorem exB_some {a : Addr} {b : Nat} : exB (some a) b ↔ b = a.block := ⟨fun ⟨_, h, h2⟩ => by cases h; exact h2, fun h => ⟨a, rfl, h⟩⟩
/-- An append to a slice of our own: in place, or in a block that is new. -/
theorem APD.grow {P : Program} {t t2 bt n m : Nat} {zs : List Value} {x : Value} {k : Value → AH → Prop} {R' : List (List Value)} (hO : OwnS H0 H e sz base cap R) (hl : H0.le H) (hE : slE P t = some (e, sz, zs, bt)) (hz : zs.length = sz) (hbt : bt ≠ 0) (hni : nInt (P.underlying t2) = true)
    (hn : n = R.length) (hm : m = R'.length) (hx : slen x = some m) (hnew : srow H sz x = some R'.flatten) (hR' : ∀ r ∈ R', r.length = sz) (hsc : R'.flatten.all scal = true) (hroom : (2 * (n + m) + 192) * bt ≤ 281474976710656)
    (hk : ∀ base' cap' H', OwnS H0 H' e sz base' cap' (R ++ R') → Keep H H' (exB base) → (∀ a, base' = some a → (∃ a', base = some a' ∧ a.block = a'.block) ∨ Fresh H a.block) → k (.slice base' (n + m) cap') H') :
    APD P (some t) (some t2) [.slice base n cap, x] H k := by
  subst hn; subst hm
  have hrows : ∀ r ∈ R ++ R', r.length = sz := fun r hr => by
    rcases List.mem_append.1 hr with h | h
    · exact hO.rows r h
    · exact hR' r h
  have hbig : (R ++ R').length < 9223372036854775808 := by
    rw [List.length_append]
    have : 1 ≤ bt := Nat.pos_of_ne_zero hbt
    have := Nat.mul_le_mul_left (2 * (R.length + R'.length) + 192) this
    omega
  rcases hO.at_ with ⟨rfl, rfl, rfl⟩ | ⟨b, bs, rfl, hf, hbs, hfr⟩
  · refine APD.std ?_
    refine ⟨hni, ?_⟩
    show wo (slE P t) _
    rw [hE]
    refine ⟨hz, hbt, ?_⟩
    simp only [hx, wo_some, srow_none, List.length_nil, if_true, hnew]
    refine ⟨fun h => ?_, fun h => by omega, fun h => ⟨hroom, fun b' hb' c' hc' => ?_⟩⟩
    · have hn : R' = [] := List.eq_nil_of_length_eq_zero h.1
      subst hn
      exact hk none 0 H (by simpa using hO) .refl (fun a ha => by cases ha)
    · refine hk (some ⟨b', 0, none⟩) c' _ ⟨hrows, by simp only [List.nil_append]; simpa using hc', hbig, .inr ⟨b', _, rfl, ?_, Nat.le_refl _, Fresh.of_le hl hb'⟩⟩ (Keep.add hb') (fun a ha => by cases ha; exact .inr hb')
      rw [find_add_self]; rfl
  · refine APD.own2 hE hz hbt hni hf (flat_len hO.rows) hbs hx hnew hO.le hsc hroom fun b' c' bs' HH hb' hc' hbs' hHH => ?_
    subst hHH
    refine hk (some ⟨b', 0, none⟩) c' _ ⟨hrows, by rw [List.length_append]; exact hc', hbig, .inr ⟨b', bs', rfl, by rw [find_add_self, List.flatten_append], hbs', ?_⟩⟩ ⟨rfl, fun b'' hne hkn => ?_⟩ (fun a ha => by
      cases ha
      rcases hb' with h | h
      · exact .inl ⟨_, rfl, h⟩
      · exact .inr h)
    · rcases hb' with rfl | h
      · exact hfr
      · exact Fresh.of_le hl h
    · have hne' : b'' ≠ b := fun h => hne (exB_some.2 h)
      rw [find_add, find_del, if_neg hne']
      split
      · rename_i h; subst h
        rcases hb' with h | h
        · exact absurd h hne'
        · rcases hkn with hkn | hkn
          · rw [h.2] at hkn; cases hkn
          · have := h.1; omega
      · rfl
theorem OwnS.put {b i : Nat} {r' : List Value} (h : OwnS H0 H e sz (some ⟨b, 0, none⟩) cap R) (hi : i < R.length) (hr' : r'.length = sz) : ∃ bs, H.find b = some (.cells R.flatten e bs) ∧ R.length * sz ≤ bs ∧ OwnS H0 ((H.del b).add b (.cells (lput R.flatten (i * sz) r') e bs)) e sz (some ⟨b, 0, none⟩) cap (R.set i r') := by
  rcases h.at_ with ⟨h1, _⟩ | ⟨b', bs, h1, hf, hbs, hfr⟩
  · cases h1
  · cases h1
    refine ⟨bs, hf, Nat.le_trans (Nat.mul_le_mul_right _ h.le) hbs, fun r hr => ?_, by rw [List.length_set]; exact h.le, by rw [List.length_set]; exact h.big, .inr ⟨b, bs, rfl, by rw [find_add_self, flat_lput h.rows i r' hi hr'], hbs, hfr⟩⟩
    rcases List.mem_or_eq_of_mem_set hr with h2 | h2
    · exact h.rows r h2
    · rw [h2]; exact hr'
/-- No more room behind. -/
theorem OwnS.clip (h : OwnS H0 H e sz base cap R) : OwnS H0 H e sz base (if base.isNone then 0 else R.length) R := by
  rcases h.at_ with ⟨rfl, rfl, rfl⟩ | ⟨b, bs, rfl, hf, hbs, hfr⟩
  · exact OwnS.nil
  · exact ⟨h.rows, by simp, h.big, .inr ⟨b, bs, rfl, hf, Nat.le_trans (Nat.mul_le_mul_right _ h.le) hbs, hfr⟩⟩
end

theorem at_eq {H : AH} {b : Nat} {k : ABlk} (h : H.find b = some k) : AEq H ((H.del b).add b k) := ⟨rfl, fun x => by
  rw [find_add, find_del]
  split
  · rename_i e; subst e; exact h
  · rfl⟩
theorem Keep.eq {A B : AH} {ex : Nat → Prop} (h : AEq A B) : Keep A B ex := ⟨h.1.symm, fun x _ _ => (h.2 x).symm⟩
theorem Keep.puts {H : AH} {b : Nat} {k k' : ABlk} : Keep ((H.del b).add b k) ((H.del b).add b k') (· = b) := ⟨rfl, fun b' hb _ => by
  rw [find_add, if_neg hb, find_add, if_neg hb]⟩
/-- What a block of ours is written in leaves all that was there for H. -/
theorem Keep.out {H A A' : AH} {ex : Nat → Prop} (h : Keep H A fun _ => False) (k : Keep A A' ex) (he : ∀ b, ex b → Fresh H b) : Keep H A' fun _ => False := ⟨k.w0.trans h.w0, fun b _ hk => by
  have h1 := h.at_ b (fun h => h) hk
  rw [← h1]
  refine k.at_ b (fun hx => ?_) (by rw [h1, h.w0]; exact hk)
  have hf := he b hx
  rcases hk with hk | hk
  · rw [hf.2] at hk; cases hk
  · have := hf.1; omega⟩
theorem Keep.all {H A : AH} (h : Keep H A fun _ => False) : H.le A := h.le (AH.le_refl _) fun _ hx => hx.elim
theorem Keep.then {A B C : AH} {ex ex' : Nat → Prop} (h : Keep A B ex) (k : Keep B C ex') (he : ∀ b, ex' b → ex b ∨ Fresh A b) : Keep A C ex := ⟨k.w0.trans h.w0, fun b hb hk => by
  have h1 := h.at_ b hb hk
  rw [← h1]
  refine k.at_ b (fun hx => ?_) (by rw [h1, h.w0]; exact hk)
  rcases he b hx with h2 | h2
  · exact hb h2
  · rcases hk with hk | hk
    · rw [h2.2] at hk; cases hk
    · have := h2.1; omega⟩
theorem Keep.nw {A B : AH} {b : Nat} {k : ABlk} (h : Keep A B fun _ => False) (hf : Fresh B b) : Keep A (B.add b k) fun _ => False := h.trans (Keep.add hf)
theorem Keep.ow {A B C : AH} {ex : Nat → Prop} (h : Keep A B fun _ => False) (k : Keep B C ex) (he : ∀ b, ex b → Fresh A b) : Keep A C fun _ => False := h.then k fun b hb => .inr (he b hb)
theorem Keep.fr {A B : AH} {b : Nat} (h : Keep A B fun _ => False) (hf : Fresh B b) : Fresh A b := Fresh.of_le h.all hf
theorem ACalls.monoW {P : Program} {f : FuncId} {args : Array Value} {H : AH} {K K' : Value → AH → Prop} (h : ACalls P f args H K) (hk : ∀ v H', K v H' → ∃ H2, H2.le H' ∧ K' v H2) : ACalls P f args H K' :=
  fun E w hs => (h E w hs).mono fun e w' ⟨v, H', h1, h2, h3⟩ => by
    obtain ⟨H2, h4, h5⟩ := hk v H' h3
    exact ⟨v, H2, h1, h2.mono h4, h5⟩
theorem APD.growW {H0 H : AH} {e sz cap n m : Nat} {base : Option Addr} {R : List (List Value)} {P : Program} {t t2 bt : Nat} {zs : List Value} {x : Value} {k : Value → AH → Prop} {R' : List (List Value)} (hO : OwnS H0 H e sz base cap R) (hl : H0.le H) (hE : slE P t = some (e, sz, zs, bt)) (hz : zs.length = sz) (hbt : bt ≠ 0) (hni : nInt (P.underlying t2) = true)
    (hn : n = R.length) (hm : m = R'.length) (hx : slen x = some m) (hnew : srow H sz x = some R'.flatten) (hR' : ∀ r ∈ R', r.length = sz) (hsc : R'.flatten.all scal = true) (hroom : (2 * (n + m) + 192) * bt ≤ 281474976710656)
    (hk : ∀ base' cap' H', OwnS H0 H' e sz base' cap' (R ++ R') → Keep H H' (exB base) → (∀ a, base' = some a → (∃ a', base = some a' ∧ a.block = a'.block) ∨ Fresh H a.block) → ∃ H2, H2.le H' ∧ k (.slice base' (n + m) cap') H2) :
    APD P (some t) (some t2) [.slice base n cap, x] H k := fun ts ty h0 h1 =>
  ((APD.grow (k := fun v H' => ∃ H2, H2.le H' ∧ k v H2) hO hl hE hz hbt hni hn hm hx hnew hR' hsc hroom hk) ts ty h0 h1).post (fun v H' ⟨H2, h2, h3⟩ => ⟨H2, fun _ _ hs => hs.mono h2, h3⟩) (fun w nx w' h => value_only (α := Unit) h)
theorem Keep.del {H : AH} {b : Nat} : Keep H (H.del b) (· = b) := ⟨rfl, fun b' hb _ => by rw [find_del, if_neg hb]⟩
theorem Keep.dels {H A : AH} {b : Nat} (h : Keep H A fun _ => False) (hf : Fresh H b) : Keep H (A.del b) (fun _ => False) ∧ Fresh (A.del b) b :=
  ⟨h.ow Keep.del fun _ e => e ▸ hf, ⟨h.w0 ▸ hf.1, by rw [find_del, if_pos rfl]⟩⟩
theorem top1 {A : AH} {b1 : Nat} {k1 : ABlk} (h1 : A.find b1 = some k1) : ((A.del b1).add b1 k1).le A := le_at h1
theorem top2 {A : AH} {b1 b2 : Nat} {k1 k2 : ABlk} (h1 : A.find b1 = some k1) (h2 : A.find b2 = some k2) : ((((A.del b1).del b2).add b1 k1).add b2 k2).le A :=
  AH.le_cons h2 (AH.le_cons h1 (AH.le_trans AH.le_del AH.le_del))
theorem top3 {A : AH} {b1 b2 b3 : Nat} {k1 k2 k3 : ABlk} (h1 : A.find b1 = some k1) (h2 : A.find b2 = some k2) (h3 : A.find b3 = some k3) : ((((((A.del b1).del b2).del b3).add b1 k1).add b2 k2).add b3 k3).le A :=
  AH.le_cons h3 (AH.le_cons h2 (AH.le_cons h1 (AH.le_trans AH.le_del (AH.le_trans AH.le_del AH.le_del))))
theorem OwnS.del {H0 H : AH} {e sz cap b : Nat} {base : Option Addr} {R : List (List Value)} (h : OwnS H0 H e sz base cap R) (hb : ∀ a, base = some a → a.block ≠ b) : OwnS H0 (H.del b) e sz base cap R := h.keep Keep.del hb
theorem OwnS.added {H0 H : AH} {e sz cap b : Nat} {base : Option Addr} {R : List (List Value)} {k : ABlk} (h : OwnS H0 H e sz base cap R) (hf : Fresh H b) : OwnS H0 (H.add b k) e sz base cap R := h.keep (Keep.add hf) (ex := fun _ => False) fun _ _ h => h
theorem OwnS.ne {H0 H : AH} {e sz cap b : Nat} {base : Option Addr} {R : List (List Value)} (h : OwnS H0 H e sz base cap R) (hf : Fresh H b) (a : Addr) (ha : base = some a) : a.block ≠ b := by
  rcases h.at_ with ⟨h1, _⟩ | ⟨b', _, h1, h2, _⟩
  · rw [ha] at h1; cases h1
  · rw [ha] at h1; cases h1
    exact fun e => hf.ne_find h2 e.symm
theorem zf_rows {zs : List Value} {n m : Nat} (hm : m = n * zs.length) : zf zs m = (List.replicate n zs).flatten := by
  subst hm
  apply List.ext_getElem?
  intro i
  by_cases hi : i < n * zs.length
  · have hz : 0 < zs.length := by
      rcases Nat.eq_zero_or_pos zs.length with h | h
      · rw [h] at hi; omega
      · exact h
    have h1 : i / zs.length < n := (Nat.div_lt_iff_lt_mul hz).2 hi
    have h2 : i % zs.length < zs.length := Nat.mod_lt _ hz
    have h3 := flat_get (R := List.replicate n zs) (sz := zs.length) (fun r hr => by rw [List.eq_of_mem_replicate hr]) (i / zs.length) (i % zs.length) zs zs[i % zs.length] (by rw [List.getElem?_replicate, if_pos h1]) (List.getElem?_eq_getElem h2)
    rw [show i / zs.length * zs.length + i % zs.length = i from by rw [Nat.mul_comm]; exact Nat.div_add_mod _ _] at h3
    rw [h3]
    simp [zf, hi, h2]
  · rw [List.getElem?_eq_none (by simp [zf]; omega), List.getElem?_eq_none]
    rw [flat_len (sz := zs.length) (fun r hr => by rw [List.eq_of_mem_replicate hr]), List.length_replicate]; omega
/-- Where nothing that lay has turned. -/
theorem Sat.belowed {E : Nat → Option Obj} {H : AH} {w w' : World} (h : Sat E H w) (hb : Below w.heap.size w w') : Sat E H w' :=
  ⟨h.below.trans (hb.mono h.below.size), fun b k hk => by
    obtain ⟨h1, h2, h3⟩ := h.known b k hk
    exact ⟨h1, Nat.lt_of_lt_of_le h2 hb.size, ok_congr (hb.block b h2) h3⟩, fun b o ho => by
    obtain ⟨h1, h2, h3⟩ := h.far b o ho
    have hlt : b < w.heap.size := (Array.getElem?_eq_some_iff.1 h3).1
    exact ⟨h1, h2, by rw [hb.block b hlt]; exact h3⟩⟩
theorem ACalls.of_calls {P : Program} {f : FuncId} {args : Array Value} {H : AH} {u : Value} (h : ∀ w, Calls P f args w fun e W' => e = .returned u ∧ Below w.heap.size w W') : ACalls P f args H (fun v H' => v = u ∧ H = H') := fun E w hs =>
  (h w).mono fun e w' ⟨h1, h2⟩ => ⟨u, H, h1, hs.belowed h2, rfl, rfl⟩
end Go.AX

/- file: header, New, Good, Same, and their references: what each comes to. -/
namespace Go.Proofs.YtamlipffhimfmaaDoor.File
set_option linter.unusedSimpArgs false
set_option linter.unusedVariables false
open Go Go.AX Go.Proofs Ty
set_option maxHeartbeats 4000000
set_option maxRecDepth 10000

abbrev Rc := Int × Int × Int × Int
def enc (r : Rc) : List Value := [.int .u8 r.1, .int .u8 r.2.1, .int .u8 r.2.2.1, .int .u8 r.2.2.2]
def zr : Rc := (0, 0, 0, 0)
theorem enc_len (r : Rc) : (enc r).length = 4 := rfl
theorem enc_scal (r : Rc) : (enc r).all scal = true := rfl
theorem rows4 (R : List Rc) : ∀ r ∈ R.map enc, r.length = 4 := fun r hr => by
  obtain ⟨w, _, rfl⟩ := List.mem_map.1 hr
  rfl
theorem scal4 (l : List Rc) : ((l.map enc).flatten).all scal = true := by
  rw [List.all_flatten, List.all_map, List.all_eq_true]
  intro r _; rfl
theorem map_get {α : Type} {f : α → List Value} {L : List α} {i : Nat} {s : α} (h : L[i]? = some s) : (L.map f)[i]? = some (f s) := by rw [List.getElem?_map, h]; rfl
theorem eqlRc {u : Option TypeDesc} {H : AH} {a b : Operand} {kk : Value → Prop} (r s : Rc) : bin u Tryd.prog H .eql 26 a b (.agg (enc r).toArray) (.agg (enc s).toArray) kk = (u = Tryd.prog.underlying 26 ∧ nv (.bool (decide (r = s))) kk) := by
  obtain ⟨r1, r2, r3, r4⟩ := r
  obtain ⟨s1, s2, s3, s4⟩ := s
  unfold enc; rw [eql_26]
  have : ((r1 == s1) && ((r2 == s2) && ((r3 == s3) && (r4 == s4)))) = decide ((r1, r2, r3, r4) = (s1, s2, s3, s4)) := by
    rw [Bool.eq_iff_iff]; simp [Prod.mk.injEq]
  rw [this]
theorem neqRc {u : Option TypeDesc} {H : AH} {a b : Operand} {kk : Value → Prop} (r s : Rc) : bin u Tryd.prog H .neq 26 a b (.agg (enc r).toArray) (.agg (enc s).toArray) kk = (u = Tryd.prog.underlying 26 ∧ nv (.bool (!decide (r = s))) kk) := by
  obtain ⟨r1, r2, r3, r4⟩ := r
  obtain ⟨s1, s2, s3, s4⟩ := s
  unfold enc; rw [neq_26]
  have : ((r1 == s1) && ((r2 == s2) && ((r3 == s3) && (r4 == s4)))) = decide ((r1, r2, r3, r4) = (s1, s2, s3, s4)) := by
    rw [Bool.eq_iff_iff]; simp [Prod.mk.injEq]
  rw [this]

def hd (perm n : Int) : Rc := (IntKind.u8.wrap n, IntKind.u8.wrap perm, 165, ibits .xor .u8 (ibits .xor .u8 (IntKind.u8.wrap n) (IntKind.u8.wrap perm)) 165)
theorem header_c (perm n : Int) (H : AH) : ACalls Tryd.prog 37 #[.int .i64 perm, .int .i64 n] H (fun v H' => v = .agg (enc (hd perm n)).toArray ∧ H = H') := by
  refine ACalls.enter2 Tryd.func37 rfl Tryd.ntmps37 Tryd.results37 (by simp) ?_; simp (dsimp := false) (maxSteps := 4000000) only [go_sem, ↓reduceIte, Nat.reduceEqDiff, Nat.reduceLT, Nat.reduceLeDiff, Nat.reduceAdd, Nat.reduceMul, Nat.reduceSub, reduceCtorEq, Int.reduceToNat, Int.reduceLT, Int.reduceLE, Int.reduceEq, Int.reduceNe, Int.reduceBEq, Nat.reduceBEq, Int.reduceBNe, Nat.reduceBNe, Int.reduceAdd, Int.reduceSub, Int.reduceMul, Int.reduceNeg]
  refine AllB.mk fun b1 h_b1 => ?_; have hn_b1 := h_b1; (try simp only [fresh_add, fresh_set, ne_eq] at hn_b1); have hr_b1 := hn_b1; (try simp only [@eq_comm Nat b1] at hr_b1); simp (dsimp := false) (maxSteps := 4000000) only [hn_b1, hr_b1, go_sem, ↓reduceIte, Nat.reduceEqDiff, Nat.reduceLT, Nat.reduceLeDiff, Nat.reduceAdd, Nat.reduceMul, Nat.reduceSub, reduceCtorEq, Int.reduceToNat, Int.reduceLT, Int.reduceLE, Int.reduceEq, Int.reduceNe, Int.reduceBEq, Nat.reduceBEq, Int.reduceBNe, Nat.reduceBNe, Int.reduceAdd, Int.reduceSub, Int.reduceMul, Int.reduceNeg]
  exact ⟨H, (AH.le_add (AH.le_refl _) ((by simp only [fresh_add, fresh_set, ne_eq, hn_b1, not_false_eq_true, and_self] : Fresh _ b1).2)), (by first | exact ⟨rfl, rfl⟩ | rfl)⟩
theorem Header_c (perm n : Int) (H : AH) : ACalls Tryd.prog 35 #[.int .i64 perm, .int .i64 n] H (fun v H' => v = .agg (enc (hd perm n)).toArray ∧ H = H') := by
  refine ACalls.enter2 Tryd.func35 rfl Tryd.ntmps35 Tryd.results35 (by simp) ?_; simp (dsimp := false) (maxSteps := 4000000) only [go_sem, ↓reduceIte, Nat.reduceEqDiff, Nat.reduceLT, Nat.reduceLeDiff, Nat.reduceAdd, Nat.reduceMul, Nat.reduceSub, reduceCtorEq, Int.reduceToNat, Int.reduceLT, Int.reduceLE, Int.reduceEq, Int.reduceNe, Int.reduceBEq, Nat.reduceBEq, Int.reduceBNe, Nat.reduceBNe, Int.reduceAdd, Int.reduceSub, Int.reduceMul, Int.reduceNeg]
  refine AllB.mk fun b1 h_b1 => ?_; have hn_b1 := h_b1; (try simp only [fresh_add, fresh_set, ne_eq] at hn_b1); have hr_b1 := hn_b1; (try simp only [@eq_comm Nat b1] at hr_b1); simp (dsimp := false) (maxSteps := 4000000) only [hn_b1, hr_b1, go_sem, ↓reduceIte, Nat.reduceEqDiff, Nat.reduceLT, Nat.reduceLeDiff, Nat.reduceAdd, Nat.reduceMul, Nat.reduceSub, reduceCtorEq, Int.reduceToNat, Int.reduceLT, Int.reduceLE, Int.reduceEq, Int.reduceNe, Int.reduceBEq, Nat.reduceBEq, Int.reduceBNe, Nat.reduceBNe, Int.reduceAdd, Int.reduceSub, Int.reduceMul, Int.reduceNeg]
  exact ⟨H, (AH.le_add (AH.le_refl _) ((by simp only [fresh_add, fresh_set, ne_eq, hn_b1, not_false_eq_true, and_self] : Fresh _ b1).2)), (by first | exact ⟨rfl, rfl⟩ | rfl)⟩

/-- A file, as_ a value. -/
def fv (p : Int) (base : Option Addr) (n cap : Nat) : Value := .agg #[.int .i64 p, .slice base n cap]
def fbad (p : Int) : Value := .tuple #[.agg #[.int .i64 0, .slice none 0 0], .int .i64 p]
def okNew (perm n : Int) : Prop := 0 ≤ perm ∧ perm ≤ 7 ∧ 0 ≤ n ∧ n < 256
def newR (perm : Int) (n : Nat) : List Rc := hd perm n :: List.replicate n zr

theorem RefNew_bad (perm n : Int) (h : ¬ okNew perm n) (H : AH) : ACalls Tryd.prog 21 #[.int .i64 perm, .int .i64 n] H (fun v H' => v = fbad 1 ∧ H = H') := by
  unfold okNew at h
  refine ACalls.enter2 Tryd.func21 rfl Tryd.ntmps21 Tryd.results21 (by simp) ?_; simp (dsimp := false) (maxSteps := 4000000) only [go_sem, ↓reduceIte, Nat.reduceEqDiff, Nat.reduceLT, Nat.reduceLeDiff, Nat.reduceAdd, Nat.reduceMul, Nat.reduceSub, reduceCtorEq, Int.reduceToNat, Int.reduceLT, Int.reduceLE, Int.reduceEq, Int.reduceNe, Int.reduceBEq, Nat.reduceBEq, Int.reduceBNe, Nat.reduceBNe, Int.reduceAdd, Int.reduceSub, Int.reduceMul, Int.reduceNeg]
  refine AllB.mk fun b1 h_b1 => ?_; have hn_b1 := h_b1; (try simp only [fresh_add, fresh_set, ne_eq] at hn_b1); have hr_b1 := hn_b1; (try simp only [@eq_comm Nat b1] at hr_b1); simp (dsimp := false) (maxSteps := 4000000) only [hn_b1, hr_b1, go_sem, ↓reduceIte, Nat.reduceEqDiff, Nat.reduceLT, Nat.reduceLeDiff, Nat.reduceAdd, Nat.reduceMul, Nat.reduceSub, reduceCtorEq, Int.reduceToNat, Int.reduceLT, Int.reduceLE, Int.reduceEq, Int.reduceNe, Int.reduceBEq, Nat.reduceBEq, Int.reduceBNe, Nat.reduceBNe, Int.reduceAdd, Int.reduceSub, Int.reduceMul, Int.reduceNeg]
  by_cases a : perm < 0
  · simp (dsimp := false) (maxSteps := 4000000) only [a, hn_b1, hr_b1, go_sem, ↓reduceIte, Nat.reduceEqDiff, Nat.reduceLT, Nat.reduceLeDiff, Nat.reduceAdd, Nat.reduceMul, Nat.reduceSub, reduceCtorEq, Int.reduceToNat, Int.reduceLT, Int.reduceLE, Int.reduceEq, Int.reduceNe, Int.reduceBEq, Nat.reduceBEq, Int.reduceBNe, Nat.reduceBNe, Int.reduceAdd, Int.reduceSub, Int.reduceMul, Int.reduceNeg]
    exact ⟨H, (AH.le_add (AH.le_refl _) ((by simp only [fresh_add, fresh_set, ne_eq, hn_b1, not_false_eq_true, and_self] : Fresh _ b1).2)), (by first | exact ⟨rfl, rfl⟩ | rfl)⟩
  by_cases b : 7 < perm
  · simp (dsimp := false) (maxSteps := 4000000) only [a, b, hn_b1, hr_b1, go_sem, ↓reduceIte, Nat.reduceEqDiff, Nat.reduceLT, Nat.reduceLeDiff, Nat.reduceAdd, Nat.reduceMul, Nat.reduceSub, reduceCtorEq, Int.reduceToNat, Int.reduceLT, Int.reduceLE, Int.reduceEq, Int.reduceNe, Int.reduceBEq, Nat.reduceBEq, Int.reduceBNe, Nat.reduceBNe, Int.reduceAdd, Int.reduceSub, Int.reduceMul, Int.reduceNeg]
    exact ⟨H, (AH.le_add (AH.le_refl _) ((by simp only [fresh_add, fresh_set, ne_eq, hn_b1, not_false_eq_true, and_self] : Fresh _ b1).2)), (by first | exact ⟨rfl, rfl⟩ | rfl)⟩
  by_cases c : n < 0
  · simp (dsimp := false) (maxSteps := 4000000) only [a, b, c, hn_b1, hr_b1, go_sem, ↓reduceIte, Nat.reduceEqDiff, Nat.reduceLT, Nat.reduceLeDiff, Nat.reduceAdd, Nat.reduceMul, Nat.reduceSub, reduceCtorEq, Int.reduceToNat, Int.reduceLT, Int.reduceLE, Int.reduceEq, Int.reduceNe, Int.reduceBEq, Nat.reduceBEq, Int.reduceBNe, Nat.reduceBNe, Int.reduceAdd, Int.reduceSub, Int.reduceMul, Int.reduceNeg]
    exact ⟨H, (AH.le_add (AH.le_refl _) ((by simp only [fresh_add, fresh_set, ne_eq, hn_b1, not_false_eq_true, and_self] : Fresh _ b1).2)), (by first | exact ⟨rfl, rfl⟩ | rfl)⟩
  have d : (255 : Int) < n := by omega
  simp (dsimp := false) (maxSteps := 4000000) only [a, b, c, d, hn_b1, hr_b1, go_sem, ↓reduceIte, Nat.reduceEqDiff, Nat.reduceLT, Nat.reduceLeDiff, Nat.reduceAdd, Nat.reduceMul, Nat.reduceSub, reduceCtorEq, Int.reduceToNat, Int.reduceLT, Int.reduceLE, Int.reduceEq, Int.reduceNe, Int.reduceBEq, Nat.reduceBEq, Int.reduceBNe, Nat.reduceBNe, Int.reduceAdd, Int.reduceSub, Int.reduceMul, Int.reduceNeg]
  exact ⟨H, (AH.le_add (AH.le_refl _) ((by simp only [fresh_add, fresh_set, ne_eq, hn_b1, not_false_eq_true, and_self] : Fresh _ b1).2)), (by first | exact ⟨rfl, rfl⟩ | rfl)⟩
theorem newR_snoc (perm : Int) (m n : Nat) : (hd perm m :: List.replicate n zr) ++ [zr] = hd perm m :: List.replicate (n + 1) zr := by
  rw [List.replicate_succ']; rfl
theorem RefNew_c (perm : Int) (n : Nat) (h : okNew perm n) (H : AH) : ACalls Tryd.prog 21 #[.int .i64 perm, .int .i64 n] H (fun v H' => ∃ base cap, v = .tuple #[fv perm base (n + 1) cap, .int .i64 0] ∧ OwnS H H' 26 4 base cap ((newR perm n).map enc) ∧ Keep H H' fun _ => False) := by
  obtain ⟨h0, h1, h2, h3⟩ := h
  have a : ¬ perm < 0 := by omega
  have b : ¬ 7 < perm := by omega
  have c : ¬ (n : Int) < 0 := by omega
  have d : ¬ (255 : Int) < n := by omega
  refine ACalls.enter2 Tryd.func21 rfl Tryd.ntmps21 Tryd.results21 (by simp) ?_; simp (dsimp := false) (maxSteps := 4000000) only [a, b, c, d, enc_len, enc_scal, go_sem, ↓reduceIte, Nat.reduceEqDiff, Nat.reduceLT, Nat.reduceLeDiff, Nat.reduceAdd, Nat.reduceMul, Nat.reduceSub, reduceCtorEq, Int.reduceToNat, Int.reduceLT, Int.reduceLE, Int.reduceEq, Int.reduceNe, Int.reduceBEq, Nat.reduceBEq, Int.reduceBNe, Nat.reduceBNe, Int.reduceAdd, Int.reduceSub, Int.reduceMul, Int.reduceNeg]
  refine AllB.mk fun b4 h_b4 => ?_; have hn_b4 := h_b4; (try simp only [fresh_add, fresh_set, ne_eq] at hn_b4); have hr_b4 := hn_b4; (try simp only [@eq_comm Nat b4] at hr_b4); simp (dsimp := false) (maxSteps := 4000000) only [a, b, c, d, enc_len, enc_scal, hn_b4, hr_b4, go_sem, ↓reduceIte, Nat.reduceEqDiff, Nat.reduceLT, Nat.reduceLeDiff, Nat.reduceAdd, Nat.reduceMul, Nat.reduceSub, reduceCtorEq, Int.reduceToNat, Int.reduceLT, Int.reduceLE, Int.reduceEq, Int.reduceNe, Int.reduceBEq, Nat.reduceBEq, Int.reduceBNe, Nat.reduceBNe, Int.reduceAdd, Int.reduceSub, Int.reduceMul, Int.reduceNeg]
  refine (Header_c perm n _).mono ?_; rintro _ _ ⟨rfl, rfl⟩
  simp (dsimp := false) (maxSteps := 4000000) only [a, b, c, d, enc_len, enc_scal, hn_b4, hr_b4, go_sem, ↓reduceIte, Nat.reduceEqDiff, Nat.reduceLT, Nat.reduceLeDiff, Nat.reduceAdd, Nat.reduceMul, Nat.reduceSub, reduceCtorEq, Int.reduceToNat, Int.reduceLT, Int.reduceLE, Int.reduceEq, Int.reduceNe, Int.reduceBEq, Nat.reduceBEq, Int.reduceBNe, Nat.reduceBNe, Int.reduceAdd, Int.reduceSub, Int.reduceMul, Int.reduceNeg]
  refine AllB.mk fun bl h_bl => ?_; have hn_bl := h_bl; (try simp only [fresh_add, fresh_set, ne_eq] at hn_bl); have hr_bl := hn_bl; (try simp only [@eq_comm Nat bl] at hr_bl); simp (dsimp := false) (maxSteps := 4000000) only [a, b, c, d, enc_len, enc_scal, hn_b4, hr_b4, hn_bl, hr_bl, go_sem, ↓reduceIte, Nat.reduceEqDiff, Nat.reduceLT, Nat.reduceLeDiff, Nat.reduceAdd, Nat.reduceMul, Nat.reduceSub, reduceCtorEq, Int.reduceToNat, Int.reduceLT, Int.reduceLE, Int.reduceEq, Int.reduceNe, Int.reduceBEq, Nat.reduceBEq, Int.reduceBNe, Nat.reduceBNe, Int.reduceAdd, Int.reduceSub, Int.reduceMul, Int.reduceNeg]
  refine AllB.mk fun b6 h_b6 => ?_; have hn_b6 := h_b6; (try simp only [fresh_add, fresh_set, ne_eq] at hn_b6); have hr_b6 := hn_b6; (try simp only [@eq_comm Nat b6] at hr_b6); simp (dsimp := false) (maxSteps := 4000000) only [a, b, c, d, enc_len, enc_scal, hn_b4, hr_b4, hn_bl, hr_bl, hn_b6, hr_b6, go_sem, ↓reduceIte, Nat.reduceEqDiff, Nat.reduceLT, Nat.reduceLeDiff, Nat.reduceAdd, Nat.reduceMul, Nat.reduceSub, reduceCtorEq, Int.reduceToNat, Int.reduceLT, Int.reduceLE, Int.reduceEq, Int.reduceNe, Int.reduceBEq, Nat.reduceBEq, Int.reduceBNe, Nat.reduceBNe, Int.reduceAdd, Int.reduceSub, Int.reduceMul, Int.reduceNeg]
  have n64 : ¬ b6 = b4 := hn_b6.2.1
  have f4 : Fresh H b4 := h_b4
  have f6 : Fresh H b6 := hn_b6.2.2
  have fl : Fresh H bl := hn_bl.2
  refine AWp.loopr (ι := Nat) (fun i A => i ≤ n ∧ ∃ B base cap, A = (B.add b4 (.cells [.int .i64 0, .slice none 0 0] 46 2)).add b6 (.cells [.int .i64 perm, .slice base (i + 1) cap] 46 2) ∧ OwnS H B 26 4 base cap ((hd perm n :: List.replicate i zr).map enc) ∧ (Keep H B fun _ => False) ∧ Fresh B b4 ∧ Fresh B b6)
    (fun i => [(7, .int .i64 i), (0, .int .i64 perm), (1, .int .i64 n), (4, .pointer (some ⟨b4, 0, none⟩)), (6, .pointer (some ⟨b6, 0, none⟩))]) (fun i => n - i) 0 (((H.add bl (.cells (enc (hd perm n)) 26 4)).add b4 (.cells [.int .i64 0, .slice none 0 0] 46 2)).add b6 (.cells [.int .i64 perm, .slice (some ⟨bl, 0, none⟩) 1 1] 46 2))
    ⟨by omega, _, some ⟨bl, 0, none⟩, 1, rfl, OwnS.new fl (AH.le_refl _) (by simp) rfl rfl (by simp [enc_len]) (by simp), Keep.add fl, by rw [fresh_add]; exact ⟨hr_bl.1, f4⟩, by rw [fresh_add]; exact ⟨hn_b6.1, f6⟩⟩ (FrLe.of_lks ?_) ?_ fun i A hi Q again out => ?_
  · simp (dsimp := false) (maxSteps := 4000000) only [a, b, c, d, enc_len, enc_scal, hn_b4, hr_b4, hn_bl, hr_bl, hn_b6, hr_b6, go_sem, ↓reduceIte, Nat.reduceEqDiff, Nat.reduceLT, Nat.reduceLeDiff, Nat.reduceAdd, Nat.reduceMul, Nat.reduceSub, reduceCtorEq, Int.reduceToNat, Int.reduceLT, Int.reduceLE, Int.reduceEq, Int.reduceNe, Int.reduceBEq, Nat.reduceBEq, Int.reduceBNe, Nat.reduceBNe, Int.reduceAdd, Int.reduceSub, Int.reduceMul, Int.reduceNeg]
  · exact (by refine AH.le_cons ?_ ?_; (show AH.find _ _ = _; simp only [find_add_self, find_add_ne, find_fresh, fresh_add, fresh_set, ne_eq, not_false_eq_true, true_and, and_true, and_self, a, b, c, d, enc_len, enc_scal, hn_b4, hr_b4, hn_bl, hr_bl, hn_b6, hr_b6]); refine AH.le_cons ?_ ?_; (show AH.find _ _ = _; simp only [find_add_self, find_add_ne, find_fresh, fresh_add, fresh_set, ne_eq, not_false_eq_true, true_and, and_true, and_self, a, b, c, d, enc_len, enc_scal, hn_b4, hr_b4, hn_bl, hr_bl, hn_b6, hr_b6]); refine AH.le_cons ?_ ?_; (show AH.find _ _ = _; simp only [find_add_self, find_add_ne, find_fresh, fresh_add, fresh_set, ne_eq, not_false_eq_true, true_and, and_true, and_self, a, b, c, d, enc_len, enc_scal, hn_b4, hr_b4, hn_bl, hr_bl, hn_b6, hr_b6]); (repeat (first | exact AH.le_refl _ | refine AH.le_add ?_ ?_)); all_goals (first | exact AH.le_refl _ | (show AH.find _ _ = _; simp only [find_add_self, find_add_ne, find_fresh, fresh_add, fresh_set, ne_eq, not_false_eq_true, true_and, and_true, and_self, a, b, c, d, enc_len, enc_scal, hn_b4, hr_b4, hn_bl, hr_bl, hn_b6, hr_b6])))
  · clear hn_b6 hr_b6 h_b6 hn_b4 hr_b4 h_b4 hn_bl hr_bl h_bl fl
    
    obtain ⟨hi, B, base, cap, rfl, hO, hK, g4, g6⟩ := hi
    have n46 : ¬ b4 = b6 := fun e => n64 e.symm
    
    by_cases hlt : (i : Int) < n
    · have e1 := i64_succ (i := i) (by omega)
      
      simp (dsimp := false) (maxSteps := 4000000) only [hlt, n64, n46, g4, g6, enc_len, enc_scal, go_sem, ↓reduceIte, Nat.reduceEqDiff, Nat.reduceLT, Nat.reduceLeDiff, Nat.reduceAdd, Nat.reduceMul, Nat.reduceSub, reduceCtorEq, Int.reduceToNat, Int.reduceLT, Int.reduceLE, Int.reduceEq, Int.reduceNe, Int.reduceBEq, Nat.reduceBEq, Int.reduceBNe, Nat.reduceBNe, Int.reduceAdd, Int.reduceSub, Int.reduceMul, Int.reduceNeg]
      refine AllB.mk fun b37 h_b37 => ?_; have hn_b37 := h_b37; (try simp only [fresh_add, fresh_set, ne_eq] at hn_b37); have hr_b37 := hn_b37; (try simp only [@eq_comm Nat b37] at hr_b37); simp (dsimp := false) (maxSteps := 4000000) only [n64, n46, g4, g6, enc_len, enc_scal, hn_b37, hr_b37, go_sem, ↓reduceIte, Nat.reduceEqDiff, Nat.reduceLT, Nat.reduceLeDiff, Nat.reduceAdd, Nat.reduceMul, Nat.reduceSub, reduceCtorEq, Int.reduceToNat, Int.reduceLT, Int.reduceLE, Int.reduceEq, Int.reduceNe, Int.reduceBEq, Nat.reduceBEq, Int.reduceBNe, Nat.reduceBNe, Int.reduceAdd, Int.reduceSub, Int.reduceMul, Int.reduceNeg]
      have g37 : Fresh B b37 := hn_b37.2.2
      have p4 : AH.find (((B.add b4 (.cells [.int .i64 0, .slice none 0 0] 46 2)).add b6 (.cells [.int .i64 perm, .slice base (i + 1) cap] 46 2)).add b37 (.cells (enc zr) 26 4)) b4 = some (.cells [.int .i64 0, .slice none 0 0] 46 2) := by (show AH.find _ _ = _; simp only [find_add_self, find_add_ne, find_fresh, fresh_add, fresh_set, ne_eq, not_false_eq_true, true_and, and_true, and_self, n64, n46, g4, g6, enc_len, enc_scal, hn_b37, hr_b37])
      have p6 : AH.find (((B.add b4 (.cells [.int .i64 0, .slice none 0 0] 46 2)).add b6 (.cells [.int .i64 perm, .slice base (i + 1) cap] 46 2)).add b37 (.cells (enc zr) 26 4)) b6 = some (.cells [.int .i64 perm, .slice base (i + 1) cap] 46 2) := by (show AH.find _ _ = _; simp only [find_add_self, find_add_ne, find_fresh, fresh_add, fresh_set, ne_eq, not_false_eq_true, true_and, and_true, and_self, n64, n46, g4, g6, enc_len, enc_scal, hn_b37, hr_b37])
      have hOx : OwnS H (((B.add b4 (.cells [.int .i64 0, .slice none 0 0] 46 2)).add b6 (.cells [.int .i64 perm, .slice base (i + 1) cap] 46 2)).add b37 (.cells (enc zr) 26 4)) 26 4 base cap ((hd perm n :: List.replicate i zr).map enc) :=
        ((hO.added g4).added (by rw [fresh_add]; exact ⟨n64, g6⟩)).added h_b37
      have hKx : Keep H (((B.add b4 (.cells [.int .i64 0, .slice none 0 0] 46 2)).add b6 (.cells [.int .i64 perm, .slice base (i + 1) cap] 46 2)).add b37 (.cells (enc zr) 26 4)) fun _ => False :=
        ((hK.nw g4).nw (by rw [fresh_add]; exact ⟨n64, g6⟩)).nw h_b37
      refine APD.growW (x := .slice (some ⟨b37, 0, none⟩) 1 1) (R' := [enc zr]) (m := 1) hOx hKx.all se_44 rfl (by decide) (by rw [Tryd.underlying44]; rfl) (by simp) rfl rfl (by rw [srow_some, row_add_self]; rfl) (by simp [enc_len]) (by simp [enc, scal]) (by omega) fun base' cap' A' hO' hK' hN' => ?_
      have q4 : A'.find b4 = some (.cells [.int .i64 0, .slice none 0 0] 46 2) := hK'.find (fun hx => by obtain ⟨a, ha, e⟩ := hx; exact hO.ne g4 a ha e.symm) p4
      have q6 : A'.find b6 = some (.cells [.int .i64 perm, .slice base (i + 1) cap] 46 2) := hK'.find (fun hx => by obtain ⟨a, ha, e⟩ := hx; exact hO.ne g6 a ha e.symm) p6
      refine ⟨_, top2 q4 q6, ?_⟩
      
      simp (dsimp := false) (maxSteps := 4000000) only [e1, n64, n46, g4, g6, enc_len, enc_scal, go_sem, ↓reduceIte, Nat.reduceEqDiff, Nat.reduceLT, Nat.reduceLeDiff, Nat.reduceAdd, Nat.reduceMul, Nat.reduceSub, reduceCtorEq, Int.reduceToNat, Int.reduceLT, Int.reduceLE, Int.reduceEq, Int.reduceNe, Int.reduceBEq, Nat.reduceBEq, Int.reduceBNe, Nat.reduceBNe, Int.reduceAdd, Int.reduceSub, Int.reduceMul, Int.reduceNeg]
      have hK2 := (hKx.ow hK' fun b ⟨a, ha, e⟩ => e ▸ hO.fresh a ha)
      obtain ⟨hK3, g43⟩ := hK2.dels f4
      obtain ⟨hK4, g64⟩ := hK3.dels f6
      have ne4 : ∀ a, base' = some a → a.block ≠ b4 := fun a ha e => by
        rcases hN' a ha with ⟨a', h1, h2⟩ | h1
        · exact hO.ne g4 a' h1 (h2 ▸ e)
        · exact h1.ne_find p4 e
      have ne6 : ∀ a, base' = some a → a.block ≠ b6 := fun a ha e => by
        rcases hN' a ha with ⟨a', h1, h2⟩ | h1
        · exact hO.ne g6 a' h1 (h2 ▸ e)
        · exact h1.ne_find p6 e
      have hO2 := (hO'.del ne4).del ne6
      rw [show (hd perm n :: List.replicate i zr).map enc ++ [enc zr] = (hd perm n :: List.replicate (i + 1) zr).map enc from by rw [← newR_snoc]; simp] at hO2
      exact again (i + 1) _ _ _ ⟨by omega, _, base', cap', rfl, hO2, hK4, Fresh.of_le AH.le_del g43, g64⟩ (FrLe.of_lks (by simp (dsimp := false) (maxSteps := 4000000) only [n64, n46, g4, g6, enc_len, enc_scal, go_sem, ↓reduceIte, Nat.reduceEqDiff, Nat.reduceLT, Nat.reduceLeDiff, Nat.reduceAdd, Nat.reduceMul, Nat.reduceSub, reduceCtorEq, Int.reduceToNat, Int.reduceLT, Int.reduceLE, Int.reduceEq, Int.reduceNe, Int.reduceBEq, Nat.reduceBEq, Int.reduceBNe, Nat.reduceBNe, Int.reduceAdd, Int.reduceSub, Int.reduceMul, Int.reduceNeg])) (AH.le_refl _) (by omega)
    · obtain rfl : i = n := by omega
      simp (dsimp := false) (maxSteps := 4000000) only [hlt, n64, n46, g4, g6, enc_len, enc_scal, go_sem, ↓reduceIte, Nat.reduceEqDiff, Nat.reduceLT, Nat.reduceLeDiff, Nat.reduceAdd, Nat.reduceMul, Nat.reduceSub, reduceCtorEq, Int.reduceToNat, Int.reduceLT, Int.reduceLE, Int.reduceEq, Int.reduceNe, Int.reduceBEq, Nat.reduceBEq, Int.reduceBNe, Nat.reduceBNe, Int.reduceAdd, Int.reduceSub, Int.reduceMul, Int.reduceNeg]
      refine out _ _ _ (by simp) ?_
      simp (dsimp := false) (maxSteps := 4000000) only [n64, n46, g4, g6, enc_len, enc_scal, go_sem, ↓reduceIte, Nat.reduceEqDiff, Nat.reduceLT, Nat.reduceLeDiff, Nat.reduceAdd, Nat.reduceMul, Nat.reduceSub, reduceCtorEq, Int.reduceToNat, Int.reduceLT, Int.reduceLE, Int.reduceEq, Int.reduceNe, Int.reduceBEq, Nat.reduceBEq, Int.reduceBNe, Nat.reduceBNe, Int.reduceAdd, Int.reduceSub, Int.reduceMul, Int.reduceNeg]
      exact ⟨B, (by (repeat (first | exact AH.le_refl _ | refine AH.le_add ?_ ?_)); all_goals (first | exact AH.le_refl _ | (show AH.find _ _ = _; simp only [find_add_self, find_add_ne, find_fresh, fresh_add, fresh_set, ne_eq, not_false_eq_true, true_and, and_true, and_self, n64, n46, g4, g6, enc_len, enc_scal]))), base, cap, rfl, hO, hK⟩
end Go.Proofs.YtamlipffhimfmaaDoor.File

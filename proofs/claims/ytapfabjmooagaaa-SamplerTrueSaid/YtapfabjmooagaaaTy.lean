/- Closed facts on the types and functions of the translation, reckoned by the kernel. Written by a program of this session. -/
import Derived.Test.YtapfabjmooagaaaAx17
import Derived.Test.YtapfabjmooagaaaProg
import Derived.KernelRfl
namespace Go.Proofs.Ytapfabjmooagaaa.Ty
set_option linter.unusedSimpArgs false
set_option linter.unusedVariables false
open Go Go.AX Go.Proofs
@[go_sem ↓] theorem sz_1 : Try.prog.cellsOf 1 = 1 := by kernel_rfl
@[go_sem ↓] theorem ag_1 : isAggU (Try.prog.underlying 1) = some false := by kernel_rfl
@[go_sem ↓] theorem zr_1 : zrOf Try.prog 1 = some [.nilFunc] := by kernel_rfl
@[go_sem ↓] theorem sz_2 : Try.prog.cellsOf 2 = 1 := by kernel_rfl
@[go_sem ↓] theorem ag_2 : isAggU (Try.prog.underlying 2) = some false := by kernel_rfl
@[go_sem ↓] theorem zr_2 : zrOf Try.prog 2 = some [(.int .i64 0)] := by kernel_rfl
@[go_sem ↓] theorem sz_3 : Try.prog.cellsOf 3 = 1 := by kernel_rfl
@[go_sem ↓] theorem ag_3 : isAggU (Try.prog.underlying 3) = some false := by kernel_rfl
@[go_sem ↓] theorem zr_3 : zrOf Try.prog 3 = some [(.int .i64 0)] := by kernel_rfl
@[go_sem ↓] theorem sz_4 : Try.prog.cellsOf 4 = 1 := by kernel_rfl
@[go_sem ↓] theorem ag_4 : isAggU (Try.prog.underlying 4) = some false := by kernel_rfl
@[go_sem ↓] theorem zr_4 : zrOf Try.prog 4 = some [(.bool false)] := by kernel_rfl
@[go_sem ↓] theorem sz_5 : Try.prog.cellsOf 5 = 1 := by kernel_rfl
@[go_sem ↓] theorem ag_5 : isAggU (Try.prog.underlying 5) = some false := by kernel_rfl
@[go_sem ↓] theorem zr_5 : zrOf Try.prog 5 = some [(.int .u8 0)] := by kernel_rfl
@[go_sem ↓] theorem sz_6 : Try.prog.cellsOf 6 = 1 := by kernel_rfl
@[go_sem ↓] theorem ag_6 : isAggU (Try.prog.underlying 6) = some false := by kernel_rfl
@[go_sem ↓] theorem zr_6 : zrOf Try.prog 6 = some [(.int .u8 0)] := by kernel_rfl
@[go_sem ↓] theorem sz_7 : Try.prog.cellsOf 7 = 4 := by kernel_rfl
@[go_sem ↓] theorem ag_7 : isAggU (Try.prog.underlying 7) = some true := by kernel_rfl
@[go_sem ↓] theorem zr_7 : zrOf Try.prog 7 = some [(.int .i64 0), (.int .i64 0), (.bool false), (.int .u8 0)] := by kernel_rfl
@[go_sem ↓] theorem fo_7_0 : foOf Try.prog 7 0 = some 0 := by kernel_rfl
@[go_sem ↓] theorem pl_7_0 : plOf Try.prog 7 0 = some (0, 1) := by kernel_rfl
@[go_sem ↓] theorem fo_7_1 : foOf Try.prog 7 1 = some 1 := by kernel_rfl
@[go_sem ↓] theorem pl_7_1 : plOf Try.prog 7 1 = some (1, 1) := by kernel_rfl
@[go_sem ↓] theorem fo_7_2 : foOf Try.prog 7 2 = some 2 := by kernel_rfl
@[go_sem ↓] theorem pl_7_2 : plOf Try.prog 7 2 = some (2, 1) := by kernel_rfl
@[go_sem ↓] theorem fo_7_3 : foOf Try.prog 7 3 = some 3 := by kernel_rfl
@[go_sem ↓] theorem pl_7_3 : plOf Try.prog 7 3 = some (3, 1) := by kernel_rfl
@[go_sem ↓] theorem fl_7 : plOf1 Try.prog 7 = true := by kernel_rfl
@[go_sem ↓] theorem sz_8 : Try.prog.cellsOf 8 = 4 := by kernel_rfl
@[go_sem ↓] theorem ag_8 : isAggU (Try.prog.underlying 8) = some true := by kernel_rfl
@[go_sem ↓] theorem zr_8 : zrOf Try.prog 8 = some [(.int .i64 0), (.int .i64 0), (.bool false), (.int .u8 0)] := by kernel_rfl
@[go_sem ↓] theorem fo_8_0 : foOf Try.prog 8 0 = some 0 := by kernel_rfl
@[go_sem ↓] theorem pl_8_0 : plOf Try.prog 8 0 = some (0, 1) := by kernel_rfl
@[go_sem ↓] theorem fo_8_1 : foOf Try.prog 8 1 = some 1 := by kernel_rfl
@[go_sem ↓] theorem pl_8_1 : plOf Try.prog 8 1 = some (1, 1) := by kernel_rfl
@[go_sem ↓] theorem fo_8_2 : foOf Try.prog 8 2 = some 2 := by kernel_rfl
@[go_sem ↓] theorem pl_8_2 : plOf Try.prog 8 2 = some (2, 1) := by kernel_rfl
@[go_sem ↓] theorem fo_8_3 : foOf Try.prog 8 3 = some 3 := by kernel_rfl
@[go_sem ↓] theorem pl_8_3 : plOf Try.prog 8 3 = some (3, 1) := by kernel_rfl
@[go_sem ↓] theorem fl_8 : plOf1 Try.prog 8 = true := by kernel_rfl
@[go_sem ↓] theorem sz_9 : Try.prog.cellsOf 9 = 1 := by kernel_rfl
@[go_sem ↓] theorem ag_9 : isAggU (Try.prog.underlying 9) = some false := by kernel_rfl
@[go_sem ↓] theorem zr_9 : zrOf Try.prog 9 = some [(.string ⟨#[]⟩)] := by kernel_rfl
@[go_sem ↓] theorem sz_10 : Try.prog.cellsOf 10 = 1 := by kernel_rfl
@[go_sem ↓] theorem ag_10 : isAggU (Try.prog.underlying 10) = some false := by kernel_rfl
@[go_sem ↓] theorem zr_10 : zrOf Try.prog 10 = some [(.string ⟨#[]⟩)] := by kernel_rfl
@[go_sem ↓] theorem sz_11 : Try.prog.cellsOf 11 = 1 := by kernel_rfl
@[go_sem ↓] theorem ag_11 : isAggU (Try.prog.underlying 11) = some false := by kernel_rfl
@[go_sem ↓] theorem zr_11 : zrOf Try.prog 11 = some [(.string ⟨#[]⟩)] := by kernel_rfl
@[go_sem ↓] theorem sz_12 : Try.prog.cellsOf 12 = 1 := by kernel_rfl
@[go_sem ↓] theorem ag_12 : isAggU (Try.prog.underlying 12) = some false := by kernel_rfl
@[go_sem ↓] theorem zr_12 : zrOf Try.prog 12 = some [(.int .u64 0)] := by kernel_rfl
@[go_sem ↓] theorem sz_13 : Try.prog.cellsOf 13 = 2 := by kernel_rfl
@[go_sem ↓] theorem ag_13 : isAggU (Try.prog.underlying 13) = some true := by kernel_rfl
@[go_sem ↓] theorem zr_13 : zrOf Try.prog 13 = some [(.string ⟨#[]⟩), (.int .u64 0)] := by kernel_rfl
@[go_sem ↓] theorem fo_13_0 : foOf Try.prog 13 0 = some 0 := by kernel_rfl
@[go_sem ↓] theorem pl_13_0 : plOf Try.prog 13 0 = some (0, 1) := by kernel_rfl
@[go_sem ↓] theorem fo_13_1 : foOf Try.prog 13 1 = some 1 := by kernel_rfl
@[go_sem ↓] theorem pl_13_1 : plOf Try.prog 13 1 = some (1, 1) := by kernel_rfl
@[go_sem ↓] theorem fl_13 : plOf1 Try.prog 13 = true := by kernel_rfl
@[go_sem ↓] theorem sz_14 : Try.prog.cellsOf 14 = 2 := by kernel_rfl
@[go_sem ↓] theorem ag_14 : isAggU (Try.prog.underlying 14) = some true := by kernel_rfl
@[go_sem ↓] theorem zr_14 : zrOf Try.prog 14 = some [(.string ⟨#[]⟩), (.int .u64 0)] := by kernel_rfl
@[go_sem ↓] theorem fo_14_0 : foOf Try.prog 14 0 = some 0 := by kernel_rfl
@[go_sem ↓] theorem pl_14_0 : plOf Try.prog 14 0 = some (0, 1) := by kernel_rfl
@[go_sem ↓] theorem fo_14_1 : foOf Try.prog 14 1 = some 1 := by kernel_rfl
@[go_sem ↓] theorem pl_14_1 : plOf Try.prog 14 1 = some (1, 1) := by kernel_rfl
@[go_sem ↓] theorem fl_14 : plOf1 Try.prog 14 = true := by kernel_rfl
@[go_sem ↓] theorem sz_15 : Try.prog.cellsOf 15 = 1 := by kernel_rfl
@[go_sem ↓] theorem ag_15 : isAggU (Try.prog.underlying 15) = some false := by kernel_rfl
@[go_sem ↓] theorem zr_15 : zrOf Try.prog 15 = some [(.pointer none)] := by kernel_rfl
@[go_sem ↓] theorem sz_16 : Try.prog.cellsOf 16 = 1 := by kernel_rfl
@[go_sem ↓] theorem ag_16 : isAggU (Try.prog.underlying 16) = some false := by kernel_rfl
@[go_sem ↓] theorem zr_16 : zrOf Try.prog 16 = some [(.pointer none)] := by kernel_rfl
@[go_sem ↓] theorem sz_17 : Try.prog.cellsOf 17 = 1 := by kernel_rfl
@[go_sem ↓] theorem ag_17 : isAggU (Try.prog.underlying 17) = some false := by kernel_rfl
@[go_sem ↓] theorem zr_17 : zrOf Try.prog 17 = some [(.pointer none)] := by kernel_rfl
@[go_sem ↓] theorem sz_18 : Try.prog.cellsOf 18 = 1 := by kernel_rfl
@[go_sem ↓] theorem ag_18 : isAggU (Try.prog.underlying 18) = some true := by kernel_rfl
@[go_sem ↓] theorem zr_18 : zrOf Try.prog 18 = some [(.pointer none)] := by kernel_rfl
@[go_sem ↓] theorem fo_18_0 : foOf Try.prog 18 0 = some 0 := by kernel_rfl
@[go_sem ↓] theorem pl_18_0 : plOf Try.prog 18 0 = some (0, 1) := by kernel_rfl
@[go_sem ↓] theorem fl_18 : plOf1 Try.prog 18 = true := by kernel_rfl
@[go_sem ↓] theorem sz_19 : Try.prog.cellsOf 19 = 1 := by kernel_rfl
@[go_sem ↓] theorem ag_19 : isAggU (Try.prog.underlying 19) = some true := by kernel_rfl
@[go_sem ↓] theorem zr_19 : zrOf Try.prog 19 = some [(.pointer none)] := by kernel_rfl
@[go_sem ↓] theorem fo_19_0 : foOf Try.prog 19 0 = some 0 := by kernel_rfl
@[go_sem ↓] theorem pl_19_0 : plOf Try.prog 19 0 = some (0, 1) := by kernel_rfl
@[go_sem ↓] theorem fl_19 : plOf1 Try.prog 19 = true := by kernel_rfl
@[go_sem ↓] theorem sz_20 : Try.prog.cellsOf 20 = 1 := by kernel_rfl
@[go_sem ↓] theorem ag_20 : isAggU (Try.prog.underlying 20) = some false := by kernel_rfl
@[go_sem ↓] theorem zr_20 : zrOf Try.prog 20 = some [.nilIface] := by kernel_rfl
@[go_sem ↓] theorem sz_21 : Try.prog.cellsOf 21 = 1 := by kernel_rfl
@[go_sem ↓] theorem ag_21 : isAggU (Try.prog.underlying 21) = some false := by kernel_rfl
@[go_sem ↓] theorem zr_21 : zrOf Try.prog 21 = some [(.int .i32 0)] := by kernel_rfl
@[go_sem ↓] theorem sz_22 : Try.prog.cellsOf 22 = 1 := by kernel_rfl
@[go_sem ↓] theorem ag_22 : isAggU (Try.prog.underlying 22) = some false := by kernel_rfl
@[go_sem ↓] theorem es_22 : elSz Try.prog 22 = 2 := by kernel_rfl
@[go_sem ↓] theorem zr_22 : zrOf Try.prog 22 = some [(.slice none 0 0)] := by kernel_rfl
@[go_sem ↓] theorem sz_23 : Try.prog.cellsOf 23 = 1 := by kernel_rfl
@[go_sem ↓] theorem ag_23 : isAggU (Try.prog.underlying 23) = some false := by kernel_rfl
@[go_sem ↓] theorem es_23 : elSz Try.prog 23 = 2 := by kernel_rfl
@[go_sem ↓] theorem zr_23 : zrOf Try.prog 23 = some [(.slice none 0 0)] := by kernel_rfl
@[go_sem ↓] theorem sz_24 : Try.prog.cellsOf 24 = 1 := by kernel_rfl
@[go_sem ↓] theorem ag_24 : isAggU (Try.prog.underlying 24) = some false := by kernel_rfl
@[go_sem ↓] theorem zr_24 : zrOf Try.prog 24 = some [(.int .u32 0)] := by kernel_rfl
@[go_sem ↓] theorem sz_25 : Try.prog.cellsOf 25 = 1 := by kernel_rfl
@[go_sem ↓] theorem ag_25 : isAggU (Try.prog.underlying 25) = some false := by kernel_rfl
@[go_sem ↓] theorem zr_25 : zrOf Try.prog 25 = some [.nilFunc] := by kernel_rfl
@[go_sem ↓] theorem sz_26 : Try.prog.cellsOf 26 = 1 := by kernel_rfl
@[go_sem ↓] theorem ag_26 : isAggU (Try.prog.underlying 26) = some false := by kernel_rfl
@[go_sem ↓] theorem zr_26 : zrOf Try.prog 26 = some [.nilFunc] := by kernel_rfl
@[go_sem ↓] theorem sz_27 : Try.prog.cellsOf 27 = 1 := by kernel_rfl
@[go_sem ↓] theorem ag_27 : isAggU (Try.prog.underlying 27) = some false := by kernel_rfl
@[go_sem ↓] theorem zr_27 : zrOf Try.prog 27 = some [.nilFunc] := by kernel_rfl
@[go_sem ↓] theorem sz_28 : Try.prog.cellsOf 28 = 1 := by kernel_rfl
@[go_sem ↓] theorem ag_28 : isAggU (Try.prog.underlying 28) = some false := by kernel_rfl
@[go_sem ↓] theorem zr_28 : zrOf Try.prog 28 = some [(.int .i64 0)] := by kernel_rfl
@[go_sem ↓] theorem sz_30 : Try.prog.cellsOf 30 = 1 := by kernel_rfl
@[go_sem ↓] theorem ag_30 : isAggU (Try.prog.underlying 30) = some false := by kernel_rfl
@[go_sem ↓] theorem zr_30 : zrOf Try.prog 30 = some [.nilFunc] := by kernel_rfl
@[go_sem ↓] theorem sz_32 : Try.prog.cellsOf 32 = 1 := by kernel_rfl
@[go_sem ↓] theorem ag_32 : isAggU (Try.prog.underlying 32) = some false := by kernel_rfl
@[go_sem ↓] theorem zr_32 : zrOf Try.prog 32 = some [.nilFunc] := by kernel_rfl
@[go_sem ↓] theorem sz_33 : Try.prog.cellsOf 33 = 1 := by kernel_rfl
@[go_sem ↓] theorem ag_33 : isAggU (Try.prog.underlying 33) = some false := by kernel_rfl
@[go_sem ↓] theorem es_33 : elSz Try.prog 33 = 1 := by kernel_rfl
@[go_sem ↓] theorem zr_33 : zrOf Try.prog 33 = some [(.slice none 0 0)] := by kernel_rfl
@[go_sem ↓] theorem sz_34 : Try.prog.cellsOf 34 = 1 := by kernel_rfl
@[go_sem ↓] theorem ag_34 : isAggU (Try.prog.underlying 34) = some false := by kernel_rfl
@[go_sem ↓] theorem zr_34 : zrOf Try.prog 34 = some [.nilFunc] := by kernel_rfl
@[go_sem ↓] theorem sz_35 : Try.prog.cellsOf 35 = 1 := by kernel_rfl
@[go_sem ↓] theorem ag_35 : isAggU (Try.prog.underlying 35) = some false := by kernel_rfl
@[go_sem ↓] theorem zr_35 : zrOf Try.prog 35 = some [.nilFunc] := by kernel_rfl
@[go_sem ↓] theorem sz_36 : Try.prog.cellsOf 36 = 1 := by kernel_rfl
@[go_sem ↓] theorem ag_36 : isAggU (Try.prog.underlying 36) = some false := by kernel_rfl
@[go_sem ↓] theorem zr_36 : zrOf Try.prog 36 = some [.nilFunc] := by kernel_rfl
@[go_sem ↓] theorem sz_37 : Try.prog.cellsOf 37 = 2 := by kernel_rfl
@[go_sem ↓] theorem ag_37 : isAggU (Try.prog.underlying 37) = some true := by kernel_rfl
@[go_sem ↓] theorem zr_37 : zrOf Try.prog 37 = some [(.int .i64 0), (.int .i64 0)] := by kernel_rfl
@[go_sem ↓] theorem fo_37_0 : foOf Try.prog 37 0 = some 0 := by kernel_rfl
@[go_sem ↓] theorem pl_37_0 : plOf Try.prog 37 0 = some (0, 1) := by kernel_rfl
@[go_sem ↓] theorem fo_37_1 : foOf Try.prog 37 1 = some 1 := by kernel_rfl
@[go_sem ↓] theorem pl_37_1 : plOf Try.prog 37 1 = some (1, 1) := by kernel_rfl
@[go_sem ↓] theorem fl_37 : plOf1 Try.prog 37 = true := by kernel_rfl
@[go_sem ↓] theorem sz_38 : Try.prog.cellsOf 38 = 2 := by kernel_rfl
@[go_sem ↓] theorem ag_38 : isAggU (Try.prog.underlying 38) = some true := by kernel_rfl
@[go_sem ↓] theorem zr_38 : zrOf Try.prog 38 = some [(.int .i64 0), (.int .i64 0)] := by kernel_rfl
@[go_sem ↓] theorem fo_38_0 : foOf Try.prog 38 0 = some 0 := by kernel_rfl
@[go_sem ↓] theorem pl_38_0 : plOf Try.prog 38 0 = some (0, 1) := by kernel_rfl
@[go_sem ↓] theorem fo_38_1 : foOf Try.prog 38 1 = some 1 := by kernel_rfl
@[go_sem ↓] theorem pl_38_1 : plOf Try.prog 38 1 = some (1, 1) := by kernel_rfl
@[go_sem ↓] theorem fl_38 : plOf1 Try.prog 38 = true := by kernel_rfl
@[go_sem ↓] theorem sz_39 : Try.prog.cellsOf 39 = 1 := by kernel_rfl
@[go_sem ↓] theorem ag_39 : isAggU (Try.prog.underlying 39) = some false := by kernel_rfl
@[go_sem ↓] theorem zr_39 : zrOf Try.prog 39 = some [.nilFunc] := by kernel_rfl
@[go_sem ↓] theorem sz_40 : Try.prog.cellsOf 40 = 11 := by kernel_rfl
@[go_sem ↓] theorem ag_40 : isAggU (Try.prog.underlying 40) = some true := by kernel_rfl
@[go_sem ↓] theorem es_40 : elSz Try.prog 40 = 1 := by kernel_rfl
@[go_sem ↓] theorem zr_40 : zrOf Try.prog 40 = some [(.bool false), (.bool false), (.bool false), (.bool false), (.bool false), (.bool false), (.bool false), (.bool false), (.bool false), (.bool false), (.bool false)] := by kernel_rfl
@[go_sem ↓] theorem fl_40 : plOf1 Try.prog 40 = true := by kernel_rfl
@[go_sem ↓] theorem pl_40_0 : plOf Try.prog 40 0 = some (0, 1) := by kernel_rfl
@[go_sem ↓] theorem pl_40_1 : plOf Try.prog 40 1 = some (1, 1) := by kernel_rfl
@[go_sem ↓] theorem pl_40_2 : plOf Try.prog 40 2 = some (2, 1) := by kernel_rfl
@[go_sem ↓] theorem pl_40_3 : plOf Try.prog 40 3 = some (3, 1) := by kernel_rfl
@[go_sem ↓] theorem pl_40_4 : plOf Try.prog 40 4 = some (4, 1) := by kernel_rfl
@[go_sem ↓] theorem pl_40_5 : plOf Try.prog 40 5 = some (5, 1) := by kernel_rfl
@[go_sem ↓] theorem pl_40_6 : plOf Try.prog 40 6 = some (6, 1) := by kernel_rfl
@[go_sem ↓] theorem pl_40_7 : plOf Try.prog 40 7 = some (7, 1) := by kernel_rfl
@[go_sem ↓] theorem pl_40_8 : plOf Try.prog 40 8 = some (8, 1) := by kernel_rfl
@[go_sem ↓] theorem pl_40_9 : plOf Try.prog 40 9 = some (9, 1) := by kernel_rfl
@[go_sem ↓] theorem pl_40_10 : plOf Try.prog 40 10 = some (10, 1) := by kernel_rfl
@[go_sem ↓] theorem sz_41 : Try.prog.cellsOf 41 = 11 := by kernel_rfl
@[go_sem ↓] theorem ag_41 : isAggU (Try.prog.underlying 41) = some true := by kernel_rfl
@[go_sem ↓] theorem es_41 : elSz Try.prog 41 = 1 := by kernel_rfl
@[go_sem ↓] theorem zr_41 : zrOf Try.prog 41 = some [(.bool false), (.bool false), (.bool false), (.bool false), (.bool false), (.bool false), (.bool false), (.bool false), (.bool false), (.bool false), (.bool false)] := by kernel_rfl
@[go_sem ↓] theorem fl_41 : plOf1 Try.prog 41 = true := by kernel_rfl
@[go_sem ↓] theorem pl_41_0 : plOf Try.prog 41 0 = some (0, 1) := by kernel_rfl
@[go_sem ↓] theorem pl_41_1 : plOf Try.prog 41 1 = some (1, 1) := by kernel_rfl
@[go_sem ↓] theorem pl_41_2 : plOf Try.prog 41 2 = some (2, 1) := by kernel_rfl
@[go_sem ↓] theorem pl_41_3 : plOf Try.prog 41 3 = some (3, 1) := by kernel_rfl
@[go_sem ↓] theorem pl_41_4 : plOf Try.prog 41 4 = some (4, 1) := by kernel_rfl
@[go_sem ↓] theorem pl_41_5 : plOf Try.prog 41 5 = some (5, 1) := by kernel_rfl
@[go_sem ↓] theorem pl_41_6 : plOf Try.prog 41 6 = some (6, 1) := by kernel_rfl
@[go_sem ↓] theorem pl_41_7 : plOf Try.prog 41 7 = some (7, 1) := by kernel_rfl
@[go_sem ↓] theorem pl_41_8 : plOf Try.prog 41 8 = some (8, 1) := by kernel_rfl
@[go_sem ↓] theorem pl_41_9 : plOf Try.prog 41 9 = some (9, 1) := by kernel_rfl
@[go_sem ↓] theorem pl_41_10 : plOf Try.prog 41 10 = some (10, 1) := by kernel_rfl
@[go_sem ↓] theorem sz_42 : Try.prog.cellsOf 42 = 1 := by kernel_rfl
@[go_sem ↓] theorem ag_42 : isAggU (Try.prog.underlying 42) = some false := by kernel_rfl
@[go_sem ↓] theorem zr_42 : zrOf Try.prog 42 = some [.nilFunc] := by kernel_rfl
@[go_sem ↓] theorem sz_43 : Try.prog.cellsOf 43 = 1 := by kernel_rfl
@[go_sem ↓] theorem ag_43 : isAggU (Try.prog.underlying 43) = some false := by kernel_rfl
@[go_sem ↓] theorem zr_43 : zrOf Try.prog 43 = some [.nilFunc] := by kernel_rfl
@[go_sem ↓] theorem sz_45 : Try.prog.cellsOf 45 = 1 := by kernel_rfl
@[go_sem ↓] theorem ag_45 : isAggU (Try.prog.underlying 45) = some false := by kernel_rfl
@[go_sem ↓] theorem zr_45 : zrOf Try.prog 45 = some [.nilFunc] := by kernel_rfl
@[go_sem ↓] theorem sz_47 : Try.prog.cellsOf 47 = 1 := by kernel_rfl
@[go_sem ↓] theorem ag_47 : isAggU (Try.prog.underlying 47) = some false := by kernel_rfl
@[go_sem ↓] theorem zr_47 : zrOf Try.prog 47 = some [.nilFunc] := by kernel_rfl
@[go_sem ↓] theorem sz_48 : Try.prog.cellsOf 48 = 1 := by kernel_rfl
@[go_sem ↓] theorem ag_48 : isAggU (Try.prog.underlying 48) = some false := by kernel_rfl
@[go_sem ↓] theorem zr_48 : zrOf Try.prog 48 = some [.nilFunc] := by kernel_rfl
@[go_sem ↓] theorem sz_49 : Try.prog.cellsOf 49 = 1 := by kernel_rfl
@[go_sem ↓] theorem ag_49 : isAggU (Try.prog.underlying 49) = some false := by kernel_rfl
@[go_sem ↓] theorem zr_49 : zrOf Try.prog 49 = some [.nilFunc] := by kernel_rfl
@[go_sem ↓] theorem sz_50 : Try.prog.cellsOf 50 = 1 := by kernel_rfl
@[go_sem ↓] theorem ag_50 : isAggU (Try.prog.underlying 50) = some false := by kernel_rfl
@[go_sem ↓] theorem zr_50 : zrOf Try.prog 50 = some [.nilFunc] := by kernel_rfl
@[go_sem ↓] theorem sz_51 : Try.prog.cellsOf 51 = 1 := by kernel_rfl
@[go_sem ↓] theorem ag_51 : isAggU (Try.prog.underlying 51) = some false := by kernel_rfl
@[go_sem ↓] theorem zr_51 : zrOf Try.prog 51 = some [.nilFunc] := by kernel_rfl
@[go_sem ↓] theorem sz_52 : Try.prog.cellsOf 52 = 2 := by kernel_rfl
@[go_sem ↓] theorem ag_52 : isAggU (Try.prog.underlying 52) = some true := by kernel_rfl
@[go_sem ↓] theorem zr_52 : zrOf Try.prog 52 = some [(.int .i64 0), (.int .i64 0)] := by kernel_rfl
@[go_sem ↓] theorem fo_52_0 : foOf Try.prog 52 0 = some 0 := by kernel_rfl
@[go_sem ↓] theorem pl_52_0 : plOf Try.prog 52 0 = some (0, 1) := by kernel_rfl
@[go_sem ↓] theorem fo_52_1 : foOf Try.prog 52 1 = some 1 := by kernel_rfl
@[go_sem ↓] theorem pl_52_1 : plOf Try.prog 52 1 = some (1, 1) := by kernel_rfl
@[go_sem ↓] theorem fl_52 : plOf1 Try.prog 52 = true := by kernel_rfl
@[go_sem ↓] theorem sz_53 : Try.prog.cellsOf 53 = 2 := by kernel_rfl
@[go_sem ↓] theorem ag_53 : isAggU (Try.prog.underlying 53) = some true := by kernel_rfl
@[go_sem ↓] theorem zr_53 : zrOf Try.prog 53 = some [(.int .i64 0), (.int .i64 0)] := by kernel_rfl
@[go_sem ↓] theorem fo_53_0 : foOf Try.prog 53 0 = some 0 := by kernel_rfl
@[go_sem ↓] theorem pl_53_0 : plOf Try.prog 53 0 = some (0, 1) := by kernel_rfl
@[go_sem ↓] theorem fo_53_1 : foOf Try.prog 53 1 = some 1 := by kernel_rfl
@[go_sem ↓] theorem pl_53_1 : plOf Try.prog 53 1 = some (1, 1) := by kernel_rfl
@[go_sem ↓] theorem fl_53 : plOf1 Try.prog 53 = true := by kernel_rfl
@[go_sem ↓] theorem sz_55 : Try.prog.cellsOf 55 = 1 := by kernel_rfl
@[go_sem ↓] theorem ag_55 : isAggU (Try.prog.underlying 55) = some false := by kernel_rfl
@[go_sem ↓] theorem zr_55 : zrOf Try.prog 55 = some [.nilFunc] := by kernel_rfl
@[go_sem ↓] theorem sz_56 : Try.prog.cellsOf 56 = 1 := by kernel_rfl
@[go_sem ↓] theorem ag_56 : isAggU (Try.prog.underlying 56) = some false := by kernel_rfl
@[go_sem ↓] theorem zr_56 : zrOf Try.prog 56 = some [.nilFunc] := by kernel_rfl
@[go_sem ↓] theorem sz_57 : Try.prog.cellsOf 57 = 1 := by kernel_rfl
@[go_sem ↓] theorem ag_57 : isAggU (Try.prog.underlying 57) = some false := by kernel_rfl
@[go_sem ↓] theorem zr_57 : zrOf Try.prog 57 = some [.nilFunc] := by kernel_rfl
@[go_sem ↓] theorem sz_58 : Try.prog.cellsOf 58 = 1 := by kernel_rfl
@[go_sem ↓] theorem ag_58 : isAggU (Try.prog.underlying 58) = some false := by kernel_rfl
@[go_sem ↓] theorem zr_58 : zrOf Try.prog 58 = some [.nilFunc] := by kernel_rfl
@[go_sem ↓] theorem sz_59 : Try.prog.cellsOf 59 = 1 := by kernel_rfl
@[go_sem ↓] theorem ag_59 : isAggU (Try.prog.underlying 59) = some false := by kernel_rfl
@[go_sem ↓] theorem zr_59 : zrOf Try.prog 59 = some [.nilFunc] := by kernel_rfl
@[go_sem ↓] theorem sz_60 : Try.prog.cellsOf 60 = 1 := by kernel_rfl
@[go_sem ↓] theorem ag_60 : isAggU (Try.prog.underlying 60) = some false := by kernel_rfl
@[go_sem ↓] theorem zr_60 : zrOf Try.prog 60 = some [.nilFunc] := by kernel_rfl
@[go_sem ↓] theorem sz_61 : Try.prog.cellsOf 61 = 1 := by kernel_rfl
@[go_sem ↓] theorem ag_61 : isAggU (Try.prog.underlying 61) = some false := by kernel_rfl
@[go_sem ↓] theorem es_61 : elSz Try.prog 61 = 1 := by kernel_rfl
@[go_sem ↓] theorem zr_61 : zrOf Try.prog 61 = some [(.slice none 0 0)] := by kernel_rfl
@[go_sem ↓] theorem sz_62 : Try.prog.cellsOf 62 = 1 := by kernel_rfl
@[go_sem ↓] theorem ag_62 : isAggU (Try.prog.underlying 62) = some false := by kernel_rfl
@[go_sem ↓] theorem zr_62 : zrOf Try.prog 62 = some [.nilFunc] := by kernel_rfl
@[go_sem ↓] theorem sz_63 : Try.prog.cellsOf 63 = 1 := by kernel_rfl
@[go_sem ↓] theorem ag_63 : isAggU (Try.prog.underlying 63) = some false := by kernel_rfl
@[go_sem ↓] theorem zr_63 : zrOf Try.prog 63 = some [.nilFunc] := by kernel_rfl
@[go_sem ↓] theorem sz_64 : Try.prog.cellsOf 64 = 1 := by kernel_rfl
@[go_sem ↓] theorem ag_64 : isAggU (Try.prog.underlying 64) = some false := by kernel_rfl
@[go_sem ↓] theorem zr_64 : zrOf Try.prog 64 = some [.nilFunc] := by kernel_rfl
@[go_sem ↓] theorem sz_65 : Try.prog.cellsOf 65 = 1 := by kernel_rfl
@[go_sem ↓] theorem ag_65 : isAggU (Try.prog.underlying 65) = some false := by kernel_rfl
@[go_sem ↓] theorem zr_65 : zrOf Try.prog 65 = some [.nilFunc] := by kernel_rfl
@[go_sem ↓] theorem sz_66 : Try.prog.cellsOf 66 = 1 := by kernel_rfl
@[go_sem ↓] theorem ag_66 : isAggU (Try.prog.underlying 66) = some false := by kernel_rfl
@[go_sem ↓] theorem zr_66 : zrOf Try.prog 66 = some [.nilFunc] := by kernel_rfl
@[go_sem ↓] theorem sz_67 : Try.prog.cellsOf 67 = 1 := by kernel_rfl
@[go_sem ↓] theorem ag_67 : isAggU (Try.prog.underlying 67) = some false := by kernel_rfl
@[go_sem ↓] theorem es_67 : elSz Try.prog 67 = 1 := by kernel_rfl
@[go_sem ↓] theorem zr_67 : zrOf Try.prog 67 = some [(.slice none 0 0)] := by kernel_rfl
@[go_sem ↓] theorem sz_68 : Try.prog.cellsOf 68 = 1 := by kernel_rfl
@[go_sem ↓] theorem ag_68 : isAggU (Try.prog.underlying 68) = some false := by kernel_rfl
@[go_sem ↓] theorem zr_68 : zrOf Try.prog 68 = some [.nilFunc] := by kernel_rfl
@[go_sem ↓] theorem sz_69 : Try.prog.cellsOf 69 = 1 := by kernel_rfl
@[go_sem ↓] theorem ag_69 : isAggU (Try.prog.underlying 69) = some false := by kernel_rfl
@[go_sem ↓] theorem zr_69 : zrOf Try.prog 69 = some [(.int .u64 0)] := by kernel_rfl
@[go_sem ↓] theorem sz_70 : Try.prog.cellsOf 70 = 1 := by kernel_rfl
@[go_sem ↓] theorem ag_70 : isAggU (Try.prog.underlying 70) = some false := by kernel_rfl
@[go_sem ↓] theorem zr_70 : zrOf Try.prog 70 = some [.nilFunc] := by kernel_rfl
@[go_sem ↓] theorem sz_71 : Try.prog.cellsOf 71 = 1 := by kernel_rfl
@[go_sem ↓] theorem ag_71 : isAggU (Try.prog.underlying 71) = some false := by kernel_rfl
@[go_sem ↓] theorem zr_71 : zrOf Try.prog 71 = some [.nilFunc] := by kernel_rfl
@[go_sem ↓] theorem sz_72 : Try.prog.cellsOf 72 = 1 := by kernel_rfl
@[go_sem ↓] theorem ag_72 : isAggU (Try.prog.underlying 72) = some false := by kernel_rfl
@[go_sem ↓] theorem zr_72 : zrOf Try.prog 72 = some [.nilFunc] := by kernel_rfl
@[go_sem ↓] theorem sz_73 : Try.prog.cellsOf 73 = 1 := by kernel_rfl
@[go_sem ↓] theorem ag_73 : isAggU (Try.prog.underlying 73) = some false := by kernel_rfl
@[go_sem ↓] theorem zr_73 : zrOf Try.prog 73 = some [.nilFunc] := by kernel_rfl
@[go_sem ↓] theorem sz_74 : Try.prog.cellsOf 74 = 1 := by kernel_rfl
@[go_sem ↓] theorem ag_74 : isAggU (Try.prog.underlying 74) = some false := by kernel_rfl
@[go_sem ↓] theorem zr_74 : zrOf Try.prog 74 = some [.nilFunc] := by kernel_rfl
@[go_sem ↓] theorem sz_75 : Try.prog.cellsOf 75 = 1 := by kernel_rfl
@[go_sem ↓] theorem ag_75 : isAggU (Try.prog.underlying 75) = some false := by kernel_rfl
@[go_sem ↓] theorem zr_75 : zrOf Try.prog 75 = some [(.int .i64 0)] := by kernel_rfl
@[go_sem ↓] theorem sz_77 : Try.prog.cellsOf 77 = 1 := by kernel_rfl
@[go_sem ↓] theorem ag_77 : isAggU (Try.prog.underlying 77) = some false := by kernel_rfl
@[go_sem ↓] theorem zr_77 : zrOf Try.prog 77 = some [.nilFunc] := by kernel_rfl
@[go_sem ↓] theorem sz_78 : Try.prog.cellsOf 78 = 1 := by kernel_rfl
@[go_sem ↓] theorem ag_78 : isAggU (Try.prog.underlying 78) = some false := by kernel_rfl
@[go_sem ↓] theorem zr_78 : zrOf Try.prog 78 = some [.nilFunc] := by kernel_rfl
@[go_sem ↓] theorem sz_79 : Try.prog.cellsOf 79 = 1 := by kernel_rfl
@[go_sem ↓] theorem ag_79 : isAggU (Try.prog.underlying 79) = some false := by kernel_rfl
@[go_sem ↓] theorem zr_79 : zrOf Try.prog 79 = some [.nilFunc] := by kernel_rfl
@[go_sem ↓] theorem sz_80 : Try.prog.cellsOf 80 = 1 := by kernel_rfl
@[go_sem ↓] theorem ag_80 : isAggU (Try.prog.underlying 80) = some false := by kernel_rfl
@[go_sem ↓] theorem zr_80 : zrOf Try.prog 80 = some [.nilFunc] := by kernel_rfl
@[go_sem ↓] theorem sz_81 : Try.prog.cellsOf 81 = 1 := by kernel_rfl
@[go_sem ↓] theorem ag_81 : isAggU (Try.prog.underlying 81) = some false := by kernel_rfl
@[go_sem ↓] theorem zr_81 : zrOf Try.prog 81 = some [.nilFunc] := by kernel_rfl
@[go_sem ↓] theorem sz_82 : Try.prog.cellsOf 82 = 1 := by kernel_rfl
@[go_sem ↓] theorem ag_82 : isAggU (Try.prog.underlying 82) = some false := by kernel_rfl
@[go_sem ↓] theorem zr_82 : zrOf Try.prog 82 = some [.nilFunc] := by kernel_rfl
@[go_sem ↓] theorem sz_83 : Try.prog.cellsOf 83 = 1 := by kernel_rfl
@[go_sem ↓] theorem ag_83 : isAggU (Try.prog.underlying 83) = some false := by kernel_rfl
@[go_sem ↓] theorem zr_83 : zrOf Try.prog 83 = some [(.int .u64 0)] := by kernel_rfl
@[go_sem ↓] theorem sz_84 : Try.prog.cellsOf 84 = 1 := by kernel_rfl
@[go_sem ↓] theorem ag_84 : isAggU (Try.prog.underlying 84) = some false := by kernel_rfl
@[go_sem ↓] theorem zr_84 : zrOf Try.prog 84 = some [(.int .u64 0)] := by kernel_rfl
@[go_sem ↓] theorem sz_85 : Try.prog.cellsOf 85 = 1 := by kernel_rfl
@[go_sem ↓] theorem ag_85 : isAggU (Try.prog.underlying 85) = some false := by kernel_rfl
@[go_sem ↓] theorem zr_85 : zrOf Try.prog 85 = some [.nilFunc] := by kernel_rfl
@[go_sem ↓] theorem sz_86 : Try.prog.cellsOf 86 = 1 := by kernel_rfl
@[go_sem ↓] theorem ag_86 : isAggU (Try.prog.underlying 86) = some false := by kernel_rfl
@[go_sem ↓] theorem zr_86 : zrOf Try.prog 86 = some [.nilFunc] := by kernel_rfl
@[go_sem ↓] theorem sz_87 : Try.prog.cellsOf 87 = 1 := by kernel_rfl
@[go_sem ↓] theorem ag_87 : isAggU (Try.prog.underlying 87) = some false := by kernel_rfl
@[go_sem ↓] theorem zr_87 : zrOf Try.prog 87 = some [.nilFunc] := by kernel_rfl
@[go_sem ↓] theorem sz_88 : Try.prog.cellsOf 88 = 1 := by kernel_rfl
@[go_sem ↓] theorem ag_88 : isAggU (Try.prog.underlying 88) = some false := by kernel_rfl
@[go_sem ↓] theorem zr_88 : zrOf Try.prog 88 = some [(.pointer none)] := by kernel_rfl
@[go_sem ↓] theorem sz_89 : Try.prog.cellsOf 89 = 1 := by kernel_rfl
@[go_sem ↓] theorem ag_89 : isAggU (Try.prog.underlying 89) = some false := by kernel_rfl
@[go_sem ↓] theorem zr_89 : zrOf Try.prog 89 = some [.nilFunc] := by kernel_rfl
@[go_sem ↓] theorem sz_90 : Try.prog.cellsOf 90 = 1 := by kernel_rfl
@[go_sem ↓] theorem ag_90 : isAggU (Try.prog.underlying 90) = some false := by kernel_rfl
@[go_sem ↓] theorem zr_90 : zrOf Try.prog 90 = some [(.pointer none)] := by kernel_rfl
@[go_sem ↓] theorem sz_91 : Try.prog.cellsOf 91 = 1 := by kernel_rfl
@[go_sem ↓] theorem ag_91 : isAggU (Try.prog.underlying 91) = some false := by kernel_rfl
@[go_sem ↓] theorem zr_91 : zrOf Try.prog 91 = some [.nilFunc] := by kernel_rfl
@[go_sem ↓] theorem sz_92 : Try.prog.cellsOf 92 = 1 := by kernel_rfl
@[go_sem ↓] theorem ag_92 : isAggU (Try.prog.underlying 92) = some false := by kernel_rfl
@[go_sem ↓] theorem zr_92 : zrOf Try.prog 92 = some [.nilFunc] := by kernel_rfl
@[go_sem ↓] theorem sz_93 : Try.prog.cellsOf 93 = 4 := by kernel_rfl
@[go_sem ↓] theorem ag_93 : isAggU (Try.prog.underlying 93) = some true := by kernel_rfl
@[go_sem ↓] theorem zr_93 : zrOf Try.prog 93 = some [(.pointer none), (.pointer none), (.pointer none), (.string ⟨#[]⟩)] := by kernel_rfl
@[go_sem ↓] theorem fo_93_0 : foOf Try.prog 93 0 = some 0 := by kernel_rfl
@[go_sem ↓] theorem pl_93_0 : plOf Try.prog 93 0 = some (0, 1) := by kernel_rfl
@[go_sem ↓] theorem fo_93_1 : foOf Try.prog 93 1 = some 1 := by kernel_rfl
@[go_sem ↓] theorem pl_93_1 : plOf Try.prog 93 1 = some (1, 1) := by kernel_rfl
@[go_sem ↓] theorem fo_93_2 : foOf Try.prog 93 2 = some 2 := by kernel_rfl
@[go_sem ↓] theorem pl_93_2 : plOf Try.prog 93 2 = some (2, 1) := by kernel_rfl
@[go_sem ↓] theorem fo_93_3 : foOf Try.prog 93 3 = some 3 := by kernel_rfl
@[go_sem ↓] theorem pl_93_3 : plOf Try.prog 93 3 = some (3, 1) := by kernel_rfl
@[go_sem ↓] theorem fl_93 : plOf1 Try.prog 93 = true := by kernel_rfl
@[go_sem ↓] theorem sz_94 : Try.prog.cellsOf 94 = 4 := by kernel_rfl
@[go_sem ↓] theorem ag_94 : isAggU (Try.prog.underlying 94) = some true := by kernel_rfl
@[go_sem ↓] theorem zr_94 : zrOf Try.prog 94 = some [(.pointer none), (.pointer none), (.pointer none), (.string ⟨#[]⟩)] := by kernel_rfl
@[go_sem ↓] theorem fo_94_0 : foOf Try.prog 94 0 = some 0 := by kernel_rfl
@[go_sem ↓] theorem pl_94_0 : plOf Try.prog 94 0 = some (0, 1) := by kernel_rfl
@[go_sem ↓] theorem fo_94_1 : foOf Try.prog 94 1 = some 1 := by kernel_rfl
@[go_sem ↓] theorem pl_94_1 : plOf Try.prog 94 1 = some (1, 1) := by kernel_rfl
@[go_sem ↓] theorem fo_94_2 : foOf Try.prog 94 2 = some 2 := by kernel_rfl
@[go_sem ↓] theorem pl_94_2 : plOf Try.prog 94 2 = some (2, 1) := by kernel_rfl
@[go_sem ↓] theorem fo_94_3 : foOf Try.prog 94 3 = some 3 := by kernel_rfl
@[go_sem ↓] theorem pl_94_3 : plOf Try.prog 94 3 = some (3, 1) := by kernel_rfl
@[go_sem ↓] theorem fl_94 : plOf1 Try.prog 94 = true := by kernel_rfl
@[go_sem ↓] theorem sz_95 : Try.prog.cellsOf 95 = 0 := by kernel_rfl
@[go_sem ↓] theorem ag_95 : isAggU (Try.prog.underlying 95) = some true := by kernel_rfl
@[go_sem ↓] theorem es_95 : elSz Try.prog 95 = 1 := by kernel_rfl
@[go_sem ↓] theorem zr_95 : zrOf Try.prog 95 = some [] := by kernel_rfl
@[go_sem ↓] theorem fl_95 : plOf1 Try.prog 95 = true := by kernel_rfl
@[go_sem ↓] theorem sz_96 : Try.prog.cellsOf 96 = 0 := by kernel_rfl
@[go_sem ↓] theorem ag_96 : isAggU (Try.prog.underlying 96) = some true := by kernel_rfl
@[go_sem ↓] theorem zr_96 : zrOf Try.prog 96 = some [] := by kernel_rfl
@[go_sem ↓] theorem pl_96_0 : plOf Try.prog 96 0 = some (0, 0) := by kernel_rfl
@[go_sem ↓] theorem fl_96 : plOf1 Try.prog 96 = true := by kernel_rfl
@[go_sem ↓] theorem sz_97 : Try.prog.cellsOf 97 = 0 := by kernel_rfl
@[go_sem ↓] theorem ag_97 : isAggU (Try.prog.underlying 97) = some true := by kernel_rfl
@[go_sem ↓] theorem zr_97 : zrOf Try.prog 97 = some [] := by kernel_rfl
@[go_sem ↓] theorem pl_97_0 : plOf Try.prog 97 0 = some (0, 0) := by kernel_rfl
@[go_sem ↓] theorem fl_97 : plOf1 Try.prog 97 = true := by kernel_rfl
@[go_sem ↓] theorem sz_98 : Try.prog.cellsOf 98 = 1 := by kernel_rfl
@[go_sem ↓] theorem ag_98 : isAggU (Try.prog.underlying 98) = some false := by kernel_rfl
@[go_sem ↓] theorem zr_98 : zrOf Try.prog 98 = some [.nilFunc] := by kernel_rfl
@[go_sem ↓] theorem sz_99 : Try.prog.cellsOf 99 = 1 := by kernel_rfl
@[go_sem ↓] theorem ag_99 : isAggU (Try.prog.underlying 99) = some false := by kernel_rfl
@[go_sem ↓] theorem zr_99 : zrOf Try.prog 99 = some [(.int .u8 0)] := by kernel_rfl
@[go_sem ↓] theorem sz_100 : Try.prog.cellsOf 100 = 1 := by kernel_rfl
@[go_sem ↓] theorem ag_100 : isAggU (Try.prog.underlying 100) = some false := by kernel_rfl
@[go_sem ↓] theorem zr_100 : zrOf Try.prog 100 = some [(.int .u8 0)] := by kernel_rfl
@[go_sem ↓] theorem sz_101 : Try.prog.cellsOf 101 = 1 := by kernel_rfl
@[go_sem ↓] theorem ag_101 : isAggU (Try.prog.underlying 101) = some false := by kernel_rfl
@[go_sem ↓] theorem zr_101 : zrOf Try.prog 101 = some [.nilFunc] := by kernel_rfl
@[go_sem ↓] theorem sz_102 : Try.prog.cellsOf 102 = 1 := by kernel_rfl
@[go_sem ↓] theorem ag_102 : isAggU (Try.prog.underlying 102) = some false := by kernel_rfl
@[go_sem ↓] theorem zr_102 : zrOf Try.prog 102 = some [(.pointer none)] := by kernel_rfl
@[go_sem ↓] theorem sz_103 : Try.prog.cellsOf 103 = 1 := by kernel_rfl
@[go_sem ↓] theorem ag_103 : isAggU (Try.prog.underlying 103) = some false := by kernel_rfl
@[go_sem ↓] theorem zr_103 : zrOf Try.prog 103 = some [(.int .i32 0)] := by kernel_rfl
@[go_sem ↓] theorem sz_104 : Try.prog.cellsOf 104 = 1 := by kernel_rfl
@[go_sem ↓] theorem ag_104 : isAggU (Try.prog.underlying 104) = some false := by kernel_rfl
@[go_sem ↓] theorem zr_104 : zrOf Try.prog 104 = some [(.int .i32 0)] := by kernel_rfl
@[go_sem ↓] theorem sz_105 : Try.prog.cellsOf 105 = 11 := by kernel_rfl
@[go_sem ↓] theorem ag_105 : isAggU (Try.prog.underlying 105) = some true := by kernel_rfl
@[go_sem ↓] theorem zr_105 : zrOf Try.prog 105 = some [(.int .u64 0), (.int .u64 0), (.int .u32 0), (.int .u8 0), (.int .u8 0), (.int .u8 0), (.int .u8 0), .nilFunc, (.pointer none), (.int .i32 0), (.int .i32 0)] := by kernel_rfl
@[go_sem ↓] theorem fo_105_0 : foOf Try.prog 105 0 = some 0 := by kernel_rfl
@[go_sem ↓] theorem pl_105_0 : plOf Try.prog 105 0 = some (0, 1) := by kernel_rfl
@[go_sem ↓] theorem fo_105_1 : foOf Try.prog 105 1 = some 1 := by kernel_rfl
@[go_sem ↓] theorem pl_105_1 : plOf Try.prog 105 1 = some (1, 1) := by kernel_rfl
@[go_sem ↓] theorem fo_105_2 : foOf Try.prog 105 2 = some 2 := by kernel_rfl
@[go_sem ↓] theorem pl_105_2 : plOf Try.prog 105 2 = some (2, 1) := by kernel_rfl
@[go_sem ↓] theorem fo_105_3 : foOf Try.prog 105 3 = some 3 := by kernel_rfl
@[go_sem ↓] theorem pl_105_3 : plOf Try.prog 105 3 = some (3, 1) := by kernel_rfl
@[go_sem ↓] theorem fo_105_4 : foOf Try.prog 105 4 = some 4 := by kernel_rfl
@[go_sem ↓] theorem pl_105_4 : plOf Try.prog 105 4 = some (4, 1) := by kernel_rfl
@[go_sem ↓] theorem fo_105_5 : foOf Try.prog 105 5 = some 5 := by kernel_rfl
@[go_sem ↓] theorem pl_105_5 : plOf Try.prog 105 5 = some (5, 1) := by kernel_rfl
@[go_sem ↓] theorem fo_105_6 : foOf Try.prog 105 6 = some 6 := by kernel_rfl
@[go_sem ↓] theorem pl_105_6 : plOf Try.prog 105 6 = some (6, 1) := by kernel_rfl
@[go_sem ↓] theorem fo_105_7 : foOf Try.prog 105 7 = some 7 := by kernel_rfl
@[go_sem ↓] theorem pl_105_7 : plOf Try.prog 105 7 = some (7, 1) := by kernel_rfl
@[go_sem ↓] theorem fo_105_8 : foOf Try.prog 105 8 = some 8 := by kernel_rfl
@[go_sem ↓] theorem pl_105_8 : plOf Try.prog 105 8 = some (8, 1) := by kernel_rfl
@[go_sem ↓] theorem fo_105_9 : foOf Try.prog 105 9 = some 9 := by kernel_rfl
@[go_sem ↓] theorem pl_105_9 : plOf Try.prog 105 9 = some (9, 1) := by kernel_rfl
@[go_sem ↓] theorem fo_105_10 : foOf Try.prog 105 10 = some 10 := by kernel_rfl
@[go_sem ↓] theorem pl_105_10 : plOf Try.prog 105 10 = some (10, 1) := by kernel_rfl
@[go_sem ↓] theorem fl_105 : plOf1 Try.prog 105 = true := by kernel_rfl
@[go_sem ↓] theorem sz_106 : Try.prog.cellsOf 106 = 11 := by kernel_rfl
@[go_sem ↓] theorem ag_106 : isAggU (Try.prog.underlying 106) = some true := by kernel_rfl
@[go_sem ↓] theorem zr_106 : zrOf Try.prog 106 = some [(.int .u64 0), (.int .u64 0), (.int .u32 0), (.int .u8 0), (.int .u8 0), (.int .u8 0), (.int .u8 0), .nilFunc, (.pointer none), (.int .i32 0), (.int .i32 0)] := by kernel_rfl
@[go_sem ↓] theorem fo_106_0 : foOf Try.prog 106 0 = some 0 := by kernel_rfl
@[go_sem ↓] theorem pl_106_0 : plOf Try.prog 106 0 = some (0, 1) := by kernel_rfl
@[go_sem ↓] theorem fo_106_1 : foOf Try.prog 106 1 = some 1 := by kernel_rfl
@[go_sem ↓] theorem pl_106_1 : plOf Try.prog 106 1 = some (1, 1) := by kernel_rfl
@[go_sem ↓] theorem fo_106_2 : foOf Try.prog 106 2 = some 2 := by kernel_rfl
@[go_sem ↓] theorem pl_106_2 : plOf Try.prog 106 2 = some (2, 1) := by kernel_rfl
@[go_sem ↓] theorem fo_106_3 : foOf Try.prog 106 3 = some 3 := by kernel_rfl
@[go_sem ↓] theorem pl_106_3 : plOf Try.prog 106 3 = some (3, 1) := by kernel_rfl
@[go_sem ↓] theorem fo_106_4 : foOf Try.prog 106 4 = some 4 := by kernel_rfl
@[go_sem ↓] theorem pl_106_4 : plOf Try.prog 106 4 = some (4, 1) := by kernel_rfl
@[go_sem ↓] theorem fo_106_5 : foOf Try.prog 106 5 = some 5 := by kernel_rfl
@[go_sem ↓] theorem pl_106_5 : plOf Try.prog 106 5 = some (5, 1) := by kernel_rfl
@[go_sem ↓] theorem fo_106_6 : foOf Try.prog 106 6 = some 6 := by kernel_rfl
@[go_sem ↓] theorem pl_106_6 : plOf Try.prog 106 6 = some (6, 1) := by kernel_rfl
@[go_sem ↓] theorem fo_106_7 : foOf Try.prog 106 7 = some 7 := by kernel_rfl
@[go_sem ↓] theorem pl_106_7 : plOf Try.prog 106 7 = some (7, 1) := by kernel_rfl
@[go_sem ↓] theorem fo_106_8 : foOf Try.prog 106 8 = some 8 := by kernel_rfl
@[go_sem ↓] theorem pl_106_8 : plOf Try.prog 106 8 = some (8, 1) := by kernel_rfl
@[go_sem ↓] theorem fo_106_9 : foOf Try.prog 106 9 = some 9 := by kernel_rfl
@[go_sem ↓] theorem pl_106_9 : plOf Try.prog 106 9 = some (9, 1) := by kernel_rfl
@[go_sem ↓] theorem fo_106_10 : foOf Try.prog 106 10 = some 10 := by kernel_rfl
@[go_sem ↓] theorem pl_106_10 : plOf Try.prog 106 10 = some (10, 1) := by kernel_rfl
@[go_sem ↓] theorem fl_106 : plOf1 Try.prog 106 = true := by kernel_rfl
@[go_sem ↓] theorem sz_107 : Try.prog.cellsOf 107 = 1 := by kernel_rfl
@[go_sem ↓] theorem ag_107 : isAggU (Try.prog.underlying 107) = some false := by kernel_rfl
@[go_sem ↓] theorem zr_107 : zrOf Try.prog 107 = some [(.pointer none)] := by kernel_rfl
@[go_sem] theorem sl_22 {H : AH} {b o len cap : Nat} {lo hi : Option Value} {K : Value → Prop} : rdop Try.prog H (Instr.sliceAt 22 (.slice (some ⟨b, o, none⟩) len cap) lo hi none) K = bnd len hi cap fun h => bnd 0 lo h fun l => nv (.slice (some ⟨b, if cap = l then o else o + l * Try.prog.cellsOf 53, none⟩) (h - l) (cap - l)) K := rdop_slice_sl Try.underlying22 (by rw [sz_53]; simp)
@[go_sem] theorem sc_22 {H : AH} {a : Option Addr} {len cap : Nat} {hi mx : Value} {K : Value → Prop} : rdop Try.prog H (Instr.sliceAt 22 (.slice a len cap) none (some hi) (some mx)) K = bnd cap (some mx) cap fun m => bnd len (some hi) m fun h => nv (.slice a h m) K := rdop_clip Try.underlying22 (by rw [sz_53]; simp)
@[go_sem] theorem sn_22 {H : AH} {len cap : Nat} {lo hi : Option Value} {K : Value → Prop} : rdop Try.prog H (Instr.sliceAt 22 (.slice none len cap) lo hi none) K = bnd len hi cap fun h => bnd 0 lo h fun l => nv (.slice none (h - l) (cap - l)) K := rdop_slice_nil Try.underlying22 (by rw [sz_53]; simp)
@[go_sem] theorem sl_23 {H : AH} {b o len cap : Nat} {lo hi : Option Value} {K : Value → Prop} : rdop Try.prog H (Instr.sliceAt 23 (.slice (some ⟨b, o, none⟩) len cap) lo hi none) K = bnd len hi cap fun h => bnd 0 lo h fun l => nv (.slice (some ⟨b, if cap = l then o else o + l * Try.prog.cellsOf 38, none⟩) (h - l) (cap - l)) K := rdop_slice_sl Try.underlying23 (by rw [sz_38]; simp)
@[go_sem] theorem sc_23 {H : AH} {a : Option Addr} {len cap : Nat} {hi mx : Value} {K : Value → Prop} : rdop Try.prog H (Instr.sliceAt 23 (.slice a len cap) none (some hi) (some mx)) K = bnd cap (some mx) cap fun m => bnd len (some hi) m fun h => nv (.slice a h m) K := rdop_clip Try.underlying23 (by rw [sz_38]; simp)
@[go_sem] theorem sn_23 {H : AH} {len cap : Nat} {lo hi : Option Value} {K : Value → Prop} : rdop Try.prog H (Instr.sliceAt 23 (.slice none len cap) lo hi none) K = bnd len hi cap fun h => bnd 0 lo h fun l => nv (.slice none (h - l) (cap - l)) K := rdop_slice_nil Try.underlying23 (by rw [sz_38]; simp)
@[go_sem] theorem sl_33 {H : AH} {b o len cap : Nat} {lo hi : Option Value} {K : Value → Prop} : rdop Try.prog H (Instr.sliceAt 33 (.slice (some ⟨b, o, none⟩) len cap) lo hi none) K = bnd len hi cap fun h => bnd 0 lo h fun l => nv (.slice (some ⟨b, if cap = l then o else o + l * Try.prog.cellsOf 3, none⟩) (h - l) (cap - l)) K := rdop_slice_sl Try.underlying33 (by rw [sz_3]; simp)
@[go_sem] theorem sc_33 {H : AH} {a : Option Addr} {len cap : Nat} {hi mx : Value} {K : Value → Prop} : rdop Try.prog H (Instr.sliceAt 33 (.slice a len cap) none (some hi) (some mx)) K = bnd cap (some mx) cap fun m => bnd len (some hi) m fun h => nv (.slice a h m) K := rdop_clip Try.underlying33 (by rw [sz_3]; simp)
@[go_sem] theorem sn_33 {H : AH} {len cap : Nat} {lo hi : Option Value} {K : Value → Prop} : rdop Try.prog H (Instr.sliceAt 33 (.slice none len cap) lo hi none) K = bnd len hi cap fun h => bnd 0 lo h fun l => nv (.slice none (h - l) (cap - l)) K := rdop_slice_nil Try.underlying33 (by rw [sz_3]; simp)
@[go_sem] theorem sl_40 {H : AH} {b o : Nat} {lo hi : Option Value} {K : Value → Prop} : rdop Try.prog H (Instr.sliceAt 40 (.pointer (some ⟨b, o, none⟩)) lo hi none) K = bnd 11 hi 11 fun h => bnd 0 lo h fun l => nv (.slice (some ⟨b, if 11 = l then o else o + l * Try.prog.cellsOf 4, none⟩) (h - l) (11 - l)) K := rdop_slice_arr Try.underlying40 (by rw [sz_4]; simp)
@[go_sem] theorem ix_40 {H : AH} {cs : Array Value} {k : IntKind} {i : Int} {K : Value → Prop} : rdop Try.prog H (Instr.index 40 (.agg cs) (.int k i)) K = (0 ≤ i ∧ i < (11 : Nat) ∧ wo cs[i.toNat * Try.prog.cellsOf 4]? fun v => nv v K) := rdop_index_arr Try.underlying40 (by rw [sz_4]; simp) ag_4
@[go_sem] theorem sl_41 {H : AH} {b o : Nat} {lo hi : Option Value} {K : Value → Prop} : rdop Try.prog H (Instr.sliceAt 41 (.pointer (some ⟨b, o, none⟩)) lo hi none) K = bnd 11 hi 11 fun h => bnd 0 lo h fun l => nv (.slice (some ⟨b, if 11 = l then o else o + l * Try.prog.cellsOf 4, none⟩) (h - l) (11 - l)) K := rdop_slice_arr Try.underlying41 (by rw [sz_4]; simp)
@[go_sem] theorem ix_41 {H : AH} {cs : Array Value} {k : IntKind} {i : Int} {K : Value → Prop} : rdop Try.prog H (Instr.index 41 (.agg cs) (.int k i)) K = (0 ≤ i ∧ i < (11 : Nat) ∧ wo cs[i.toNat * Try.prog.cellsOf 4]? fun v => nv v K) := rdop_index_arr Try.underlying41 (by rw [sz_4]; simp) ag_4
@[go_sem] theorem sl_61 {H : AH} {b o len cap : Nat} {lo hi : Option Value} {K : Value → Prop} : rdop Try.prog H (Instr.sliceAt 61 (.slice (some ⟨b, o, none⟩) len cap) lo hi none) K = bnd len hi cap fun h => bnd 0 lo h fun l => nv (.slice (some ⟨b, if cap = l then o else o + l * Try.prog.cellsOf 22, none⟩) (h - l) (cap - l)) K := rdop_slice_sl Try.underlying61 (by rw [sz_22]; simp)
@[go_sem] theorem sc_61 {H : AH} {a : Option Addr} {len cap : Nat} {hi mx : Value} {K : Value → Prop} : rdop Try.prog H (Instr.sliceAt 61 (.slice a len cap) none (some hi) (some mx)) K = bnd cap (some mx) cap fun m => bnd len (some hi) m fun h => nv (.slice a h m) K := rdop_clip Try.underlying61 (by rw [sz_22]; simp)
@[go_sem] theorem sn_61 {H : AH} {len cap : Nat} {lo hi : Option Value} {K : Value → Prop} : rdop Try.prog H (Instr.sliceAt 61 (.slice none len cap) lo hi none) K = bnd len hi cap fun h => bnd 0 lo h fun l => nv (.slice none (h - l) (cap - l)) K := rdop_slice_nil Try.underlying61 (by rw [sz_22]; simp)
@[go_sem] theorem sl_67 {H : AH} {b o len cap : Nat} {lo hi : Option Value} {K : Value → Prop} : rdop Try.prog H (Instr.sliceAt 67 (.slice (some ⟨b, o, none⟩) len cap) lo hi none) K = bnd len hi cap fun h => bnd 0 lo h fun l => nv (.slice (some ⟨b, if cap = l then o else o + l * Try.prog.cellsOf 4, none⟩) (h - l) (cap - l)) K := rdop_slice_sl Try.underlying67 (by rw [sz_4]; simp)
@[go_sem] theorem sc_67 {H : AH} {a : Option Addr} {len cap : Nat} {hi mx : Value} {K : Value → Prop} : rdop Try.prog H (Instr.sliceAt 67 (.slice a len cap) none (some hi) (some mx)) K = bnd cap (some mx) cap fun m => bnd len (some hi) m fun h => nv (.slice a h m) K := rdop_clip Try.underlying67 (by rw [sz_4]; simp)
@[go_sem] theorem sn_67 {H : AH} {len cap : Nat} {lo hi : Option Value} {K : Value → Prop} : rdop Try.prog H (Instr.sliceAt 67 (.slice none len cap) lo hi none) K = bnd len hi cap fun h => bnd 0 lo h fun l => nv (.slice none (h - l) (cap - l)) K := rdop_slice_nil Try.underlying67 (by rw [sz_4]; simp)
@[go_sem] theorem fd_7_0 {H : AH} {cs : Array Value} {K : Value → Prop} : rdop Try.prog H (Instr.field 7 (.agg cs) 0) K = wo cs[0]? fun v => nv v K := rdop_fieldF (show fdOf Try.prog 7 0 = some (0, 1, false) by kernel_rfl)
@[go_sem] theorem fd_7_1 {H : AH} {cs : Array Value} {K : Value → Prop} : rdop Try.prog H (Instr.field 7 (.agg cs) 1) K = wo cs[1]? fun v => nv v K := rdop_fieldF (show fdOf Try.prog 7 1 = some (1, 1, false) by kernel_rfl)
@[go_sem] theorem fd_7_2 {H : AH} {cs : Array Value} {K : Value → Prop} : rdop Try.prog H (Instr.field 7 (.agg cs) 2) K = wo cs[2]? fun v => nv v K := rdop_fieldF (show fdOf Try.prog 7 2 = some (2, 1, false) by kernel_rfl)
@[go_sem] theorem fd_7_3 {H : AH} {cs : Array Value} {K : Value → Prop} : rdop Try.prog H (Instr.field 7 (.agg cs) 3) K = wo cs[3]? fun v => nv v K := rdop_fieldF (show fdOf Try.prog 7 3 = some (3, 1, false) by kernel_rfl)
@[go_sem] theorem fd_8_0 {H : AH} {cs : Array Value} {K : Value → Prop} : rdop Try.prog H (Instr.field 8 (.agg cs) 0) K = wo cs[0]? fun v => nv v K := rdop_fieldF (show fdOf Try.prog 8 0 = some (0, 1, false) by kernel_rfl)
@[go_sem] theorem fd_8_1 {H : AH} {cs : Array Value} {K : Value → Prop} : rdop Try.prog H (Instr.field 8 (.agg cs) 1) K = wo cs[1]? fun v => nv v K := rdop_fieldF (show fdOf Try.prog 8 1 = some (1, 1, false) by kernel_rfl)
@[go_sem] theorem fd_8_2 {H : AH} {cs : Array Value} {K : Value → Prop} : rdop Try.prog H (Instr.field 8 (.agg cs) 2) K = wo cs[2]? fun v => nv v K := rdop_fieldF (show fdOf Try.prog 8 2 = some (2, 1, false) by kernel_rfl)
@[go_sem] theorem fd_8_3 {H : AH} {cs : Array Value} {K : Value → Prop} : rdop Try.prog H (Instr.field 8 (.agg cs) 3) K = wo cs[3]? fun v => nv v K := rdop_fieldF (show fdOf Try.prog 8 3 = some (3, 1, false) by kernel_rfl)
@[go_sem] theorem fd_13_0 {H : AH} {cs : Array Value} {K : Value → Prop} : rdop Try.prog H (Instr.field 13 (.agg cs) 0) K = wo cs[0]? fun v => nv v K := rdop_fieldF (show fdOf Try.prog 13 0 = some (0, 1, false) by kernel_rfl)
@[go_sem] theorem fd_13_1 {H : AH} {cs : Array Value} {K : Value → Prop} : rdop Try.prog H (Instr.field 13 (.agg cs) 1) K = wo cs[1]? fun v => nv v K := rdop_fieldF (show fdOf Try.prog 13 1 = some (1, 1, false) by kernel_rfl)
@[go_sem] theorem fd_14_0 {H : AH} {cs : Array Value} {K : Value → Prop} : rdop Try.prog H (Instr.field 14 (.agg cs) 0) K = wo cs[0]? fun v => nv v K := rdop_fieldF (show fdOf Try.prog 14 0 = some (0, 1, false) by kernel_rfl)
@[go_sem] theorem fd_14_1 {H : AH} {cs : Array Value} {K : Value → Prop} : rdop Try.prog H (Instr.field 14 (.agg cs) 1) K = wo cs[1]? fun v => nv v K := rdop_fieldF (show fdOf Try.prog 14 1 = some (1, 1, false) by kernel_rfl)
@[go_sem] theorem fd_18_0 {H : AH} {cs : Array Value} {K : Value → Prop} : rdop Try.prog H (Instr.field 18 (.agg cs) 0) K = wo cs[0]? fun v => nv v K := rdop_fieldF (show fdOf Try.prog 18 0 = some (0, 1, false) by kernel_rfl)
@[go_sem] theorem fd_19_0 {H : AH} {cs : Array Value} {K : Value → Prop} : rdop Try.prog H (Instr.field 19 (.agg cs) 0) K = wo cs[0]? fun v => nv v K := rdop_fieldF (show fdOf Try.prog 19 0 = some (0, 1, false) by kernel_rfl)
@[go_sem ↓] theorem se_22 : slE Try.prog 22 = some (53, 2, [(.int .i64 0), (.int .i64 0)], 16) := by kernel_rfl
@[go_sem ↓] theorem se_23 : slE Try.prog 23 = some (38, 2, [(.int .i64 0), (.int .i64 0)], 16) := by kernel_rfl
@[go_sem ↓] theorem se_33 : slE Try.prog 33 = some (3, 1, [(.int .i64 0)], 8) := by kernel_rfl
@[go_sem] theorem fd_37_0 {H : AH} {cs : Array Value} {K : Value → Prop} : rdop Try.prog H (Instr.field 37 (.agg cs) 0) K = wo cs[0]? fun v => nv v K := rdop_fieldF (show fdOf Try.prog 37 0 = some (0, 1, false) by kernel_rfl)
@[go_sem] theorem fd_37_1 {H : AH} {cs : Array Value} {K : Value → Prop} : rdop Try.prog H (Instr.field 37 (.agg cs) 1) K = wo cs[1]? fun v => nv v K := rdop_fieldF (show fdOf Try.prog 37 1 = some (1, 1, false) by kernel_rfl)
@[go_sem] theorem fd_38_0 {H : AH} {cs : Array Value} {K : Value → Prop} : rdop Try.prog H (Instr.field 38 (.agg cs) 0) K = wo cs[0]? fun v => nv v K := rdop_fieldF (show fdOf Try.prog 38 0 = some (0, 1, false) by kernel_rfl)
@[go_sem] theorem fd_38_1 {H : AH} {cs : Array Value} {K : Value → Prop} : rdop Try.prog H (Instr.field 38 (.agg cs) 1) K = wo cs[1]? fun v => nv v K := rdop_fieldF (show fdOf Try.prog 38 1 = some (1, 1, false) by kernel_rfl)
@[go_sem] theorem fd_52_0 {H : AH} {cs : Array Value} {K : Value → Prop} : rdop Try.prog H (Instr.field 52 (.agg cs) 0) K = wo cs[0]? fun v => nv v K := rdop_fieldF (show fdOf Try.prog 52 0 = some (0, 1, false) by kernel_rfl)
@[go_sem] theorem fd_52_1 {H : AH} {cs : Array Value} {K : Value → Prop} : rdop Try.prog H (Instr.field 52 (.agg cs) 1) K = wo cs[1]? fun v => nv v K := rdop_fieldF (show fdOf Try.prog 52 1 = some (1, 1, false) by kernel_rfl)
@[go_sem] theorem fd_53_0 {H : AH} {cs : Array Value} {K : Value → Prop} : rdop Try.prog H (Instr.field 53 (.agg cs) 0) K = wo cs[0]? fun v => nv v K := rdop_fieldF (show fdOf Try.prog 53 0 = some (0, 1, false) by kernel_rfl)
@[go_sem] theorem fd_53_1 {H : AH} {cs : Array Value} {K : Value → Prop} : rdop Try.prog H (Instr.field 53 (.agg cs) 1) K = wo cs[1]? fun v => nv v K := rdop_fieldF (show fdOf Try.prog 53 1 = some (1, 1, false) by kernel_rfl)
@[go_sem ↓] theorem se_61 : slE Try.prog 61 = some (22, 1, [(.slice none 0 0)], 24) := by kernel_rfl
@[go_sem ↓] theorem se_67 : slE Try.prog 67 = some (4, 1, [(.bool false)], 1) := by kernel_rfl
@[go_sem] theorem fd_93_0 {H : AH} {cs : Array Value} {K : Value → Prop} : rdop Try.prog H (Instr.field 93 (.agg cs) 0) K = wo cs[0]? fun v => nv v K := rdop_fieldF (show fdOf Try.prog 93 0 = some (0, 1, false) by kernel_rfl)
@[go_sem] theorem fd_93_1 {H : AH} {cs : Array Value} {K : Value → Prop} : rdop Try.prog H (Instr.field 93 (.agg cs) 1) K = wo cs[1]? fun v => nv v K := rdop_fieldF (show fdOf Try.prog 93 1 = some (1, 1, false) by kernel_rfl)
@[go_sem] theorem fd_93_2 {H : AH} {cs : Array Value} {K : Value → Prop} : rdop Try.prog H (Instr.field 93 (.agg cs) 2) K = wo cs[2]? fun v => nv v K := rdop_fieldF (show fdOf Try.prog 93 2 = some (2, 1, false) by kernel_rfl)
@[go_sem] theorem fd_93_3 {H : AH} {cs : Array Value} {K : Value → Prop} : rdop Try.prog H (Instr.field 93 (.agg cs) 3) K = wo cs[3]? fun v => nv v K := rdop_fieldF (show fdOf Try.prog 93 3 = some (3, 1, false) by kernel_rfl)
@[go_sem] theorem fd_94_0 {H : AH} {cs : Array Value} {K : Value → Prop} : rdop Try.prog H (Instr.field 94 (.agg cs) 0) K = wo cs[0]? fun v => nv v K := rdop_fieldF (show fdOf Try.prog 94 0 = some (0, 1, false) by kernel_rfl)
@[go_sem] theorem fd_94_1 {H : AH} {cs : Array Value} {K : Value → Prop} : rdop Try.prog H (Instr.field 94 (.agg cs) 1) K = wo cs[1]? fun v => nv v K := rdop_fieldF (show fdOf Try.prog 94 1 = some (1, 1, false) by kernel_rfl)
@[go_sem] theorem fd_94_2 {H : AH} {cs : Array Value} {K : Value → Prop} : rdop Try.prog H (Instr.field 94 (.agg cs) 2) K = wo cs[2]? fun v => nv v K := rdop_fieldF (show fdOf Try.prog 94 2 = some (2, 1, false) by kernel_rfl)
@[go_sem] theorem fd_94_3 {H : AH} {cs : Array Value} {K : Value → Prop} : rdop Try.prog H (Instr.field 94 (.agg cs) 3) K = wo cs[3]? fun v => nv v K := rdop_fieldF (show fdOf Try.prog 94 3 = some (3, 1, false) by kernel_rfl)
@[go_sem] theorem fd_105_0 {H : AH} {cs : Array Value} {K : Value → Prop} : rdop Try.prog H (Instr.field 105 (.agg cs) 0) K = wo cs[0]? fun v => nv v K := rdop_fieldF (show fdOf Try.prog 105 0 = some (0, 1, false) by kernel_rfl)
@[go_sem] theorem fd_105_1 {H : AH} {cs : Array Value} {K : Value → Prop} : rdop Try.prog H (Instr.field 105 (.agg cs) 1) K = wo cs[1]? fun v => nv v K := rdop_fieldF (show fdOf Try.prog 105 1 = some (1, 1, false) by kernel_rfl)
@[go_sem] theorem fd_105_2 {H : AH} {cs : Array Value} {K : Value → Prop} : rdop Try.prog H (Instr.field 105 (.agg cs) 2) K = wo cs[2]? fun v => nv v K := rdop_fieldF (show fdOf Try.prog 105 2 = some (2, 1, false) by kernel_rfl)
@[go_sem] theorem fd_105_3 {H : AH} {cs : Array Value} {K : Value → Prop} : rdop Try.prog H (Instr.field 105 (.agg cs) 3) K = wo cs[3]? fun v => nv v K := rdop_fieldF (show fdOf Try.prog 105 3 = some (3, 1, false) by kernel_rfl)
@[go_sem] theorem fd_105_4 {H : AH} {cs : Array Value} {K : Value → Prop} : rdop Try.prog H (Instr.field 105 (.agg cs) 4) K = wo cs[4]? fun v => nv v K := rdop_fieldF (show fdOf Try.prog 105 4 = some (4, 1, false) by kernel_rfl)
@[go_sem] theorem fd_105_5 {H : AH} {cs : Array Value} {K : Value → Prop} : rdop Try.prog H (Instr.field 105 (.agg cs) 5) K = wo cs[5]? fun v => nv v K := rdop_fieldF (show fdOf Try.prog 105 5 = some (5, 1, false) by kernel_rfl)
@[go_sem] theorem fd_105_6 {H : AH} {cs : Array Value} {K : Value → Prop} : rdop Try.prog H (Instr.field 105 (.agg cs) 6) K = wo cs[6]? fun v => nv v K := rdop_fieldF (show fdOf Try.prog 105 6 = some (6, 1, false) by kernel_rfl)
@[go_sem] theorem fd_105_7 {H : AH} {cs : Array Value} {K : Value → Prop} : rdop Try.prog H (Instr.field 105 (.agg cs) 7) K = wo cs[7]? fun v => nv v K := rdop_fieldF (show fdOf Try.prog 105 7 = some (7, 1, false) by kernel_rfl)
@[go_sem] theorem fd_105_8 {H : AH} {cs : Array Value} {K : Value → Prop} : rdop Try.prog H (Instr.field 105 (.agg cs) 8) K = wo cs[8]? fun v => nv v K := rdop_fieldF (show fdOf Try.prog 105 8 = some (8, 1, false) by kernel_rfl)
@[go_sem] theorem fd_105_9 {H : AH} {cs : Array Value} {K : Value → Prop} : rdop Try.prog H (Instr.field 105 (.agg cs) 9) K = wo cs[9]? fun v => nv v K := rdop_fieldF (show fdOf Try.prog 105 9 = some (9, 1, false) by kernel_rfl)
@[go_sem] theorem fd_105_10 {H : AH} {cs : Array Value} {K : Value → Prop} : rdop Try.prog H (Instr.field 105 (.agg cs) 10) K = wo cs[10]? fun v => nv v K := rdop_fieldF (show fdOf Try.prog 105 10 = some (10, 1, false) by kernel_rfl)
@[go_sem] theorem fd_106_0 {H : AH} {cs : Array Value} {K : Value → Prop} : rdop Try.prog H (Instr.field 106 (.agg cs) 0) K = wo cs[0]? fun v => nv v K := rdop_fieldF (show fdOf Try.prog 106 0 = some (0, 1, false) by kernel_rfl)
@[go_sem] theorem fd_106_1 {H : AH} {cs : Array Value} {K : Value → Prop} : rdop Try.prog H (Instr.field 106 (.agg cs) 1) K = wo cs[1]? fun v => nv v K := rdop_fieldF (show fdOf Try.prog 106 1 = some (1, 1, false) by kernel_rfl)
@[go_sem] theorem fd_106_2 {H : AH} {cs : Array Value} {K : Value → Prop} : rdop Try.prog H (Instr.field 106 (.agg cs) 2) K = wo cs[2]? fun v => nv v K := rdop_fieldF (show fdOf Try.prog 106 2 = some (2, 1, false) by kernel_rfl)
@[go_sem] theorem fd_106_3 {H : AH} {cs : Array Value} {K : Value → Prop} : rdop Try.prog H (Instr.field 106 (.agg cs) 3) K = wo cs[3]? fun v => nv v K := rdop_fieldF (show fdOf Try.prog 106 3 = some (3, 1, false) by kernel_rfl)
@[go_sem] theorem fd_106_4 {H : AH} {cs : Array Value} {K : Value → Prop} : rdop Try.prog H (Instr.field 106 (.agg cs) 4) K = wo cs[4]? fun v => nv v K := rdop_fieldF (show fdOf Try.prog 106 4 = some (4, 1, false) by kernel_rfl)
@[go_sem] theorem fd_106_5 {H : AH} {cs : Array Value} {K : Value → Prop} : rdop Try.prog H (Instr.field 106 (.agg cs) 5) K = wo cs[5]? fun v => nv v K := rdop_fieldF (show fdOf Try.prog 106 5 = some (5, 1, false) by kernel_rfl)
@[go_sem] theorem fd_106_6 {H : AH} {cs : Array Value} {K : Value → Prop} : rdop Try.prog H (Instr.field 106 (.agg cs) 6) K = wo cs[6]? fun v => nv v K := rdop_fieldF (show fdOf Try.prog 106 6 = some (6, 1, false) by kernel_rfl)
@[go_sem] theorem fd_106_7 {H : AH} {cs : Array Value} {K : Value → Prop} : rdop Try.prog H (Instr.field 106 (.agg cs) 7) K = wo cs[7]? fun v => nv v K := rdop_fieldF (show fdOf Try.prog 106 7 = some (7, 1, false) by kernel_rfl)
@[go_sem] theorem fd_106_8 {H : AH} {cs : Array Value} {K : Value → Prop} : rdop Try.prog H (Instr.field 106 (.agg cs) 8) K = wo cs[8]? fun v => nv v K := rdop_fieldF (show fdOf Try.prog 106 8 = some (8, 1, false) by kernel_rfl)
@[go_sem] theorem fd_106_9 {H : AH} {cs : Array Value} {K : Value → Prop} : rdop Try.prog H (Instr.field 106 (.agg cs) 9) K = wo cs[9]? fun v => nv v K := rdop_fieldF (show fdOf Try.prog 106 9 = some (9, 1, false) by kernel_rfl)
@[go_sem] theorem fd_106_10 {H : AH} {cs : Array Value} {K : Value → Prop} : rdop Try.prog H (Instr.field 106 (.agg cs) 10) K = wo cs[10]? fun v => nv v K := rdop_fieldF (show fdOf Try.prog 106 10 = some (10, 1, false) by kernel_rfl)
theorem eg_7 : Try.prog.eqGuardType Try.prog.depth 7 = false := by kernel_rfl
theorem st_7 : Try.prog.stoodInHeld 7 = false := by kernel_rfl
theorem eqi_7 {H : AH} {m : Nat} (a0 b0 : Int) (a1 b1 : Int) (a2 b2 : Bool) (a3 b3 : Int) : qrun Try.prog (Op.equalIn (m + 2) 7 (.agg #[.int .i64 a0, .int .i64 a1, .bool a2, .int .u8 a3]) (.agg #[.int .i64 b0, .int .i64 b1, .bool b2, .int .u8 b3])) H = some ((a0 == b0) && ((a1 == b1) && ((a2 == b2) && (a3 == b3)))) := by
  have h := eqIn_struct (P := Try.prog) (H := H) (m := m + 1) (xs := #[.int .i64 a0, .int .i64 a1, .bool a2, .int .u8 a3]) (ys := #[.int .i64 b0, .int .i64 b1, .bool b2, .int .u8 b3]) (T := fun f => if f.offset = 0 then (a0 == b0) else if f.offset = 1 then (a1 == b1) else if f.offset = 2 then (a2 == b2) else if f.offset = 3 then (a3 == b3) else true) Try.underlying7 st_7 (by
    simp only [List.mem_cons, List.not_mem_nil, or_false]
    rintro f (rfl | rfl | rfl | rfl)
    · exact ⟨by decide, (.int .i64 a0), (.int .i64 b0), part_scal ag_2 rfl, part_scal ag_2 rfl, eqIn_int Try.underlying2⟩
    · exact ⟨by decide, (.int .i64 a1), (.int .i64 b1), part_scal ag_3 rfl, part_scal ag_3 rfl, eqIn_int Try.underlying3⟩
    · exact ⟨by decide, (.bool a2), (.bool b2), part_scal ag_4 rfl, part_scal ag_4 rfl, eqIn_bool Try.underlying4⟩
    · exact ⟨by decide, (.int .u8 a3), (.int .u8 b3), part_scal ag_6 rfl, part_scal ag_6 rfl, eqIn_int Try.underlying6⟩)
  rw [h]; simp [Bool.and_assoc]
@[go_sem] theorem eql_7 {H : AH} {u : Option TypeDesc} {x y : Operand} {kk : Value → Prop} {a0 b0 : Int} {a1 b1 : Int} {a2 b2 : Bool} {a3 b3 : Int} : bin u Try.prog H .eql 7 x y (.agg #[.int .i64 a0, .int .i64 a1, .bool a2, .int .u8 a3]) (.agg #[.int .i64 b0, .int .i64 b1, .bool b2, .int .u8 b3]) kk = (u = Try.prog.underlying 7 ∧ nv (.bool ((a0 == b0) && ((a1 == b1) && ((a2 == b2) && (a3 == b3))))) kk) := bin_eql_of (eqg_agg eg_7) rfl fun _ => eqi_7 (m := 9998) a0 b0 a1 b1 a2 b2 a3 b3
@[go_sem] theorem neq_7 {H : AH} {u : Option TypeDesc} {x y : Operand} {kk : Value → Prop} {a0 b0 : Int} {a1 b1 : Int} {a2 b2 : Bool} {a3 b3 : Int} : bin u Try.prog H .neq 7 x y (.agg #[.int .i64 a0, .int .i64 a1, .bool a2, .int .u8 a3]) (.agg #[.int .i64 b0, .int .i64 b1, .bool b2, .int .u8 b3]) kk = (u = Try.prog.underlying 7 ∧ nv (.bool (!((a0 == b0) && ((a1 == b1) && ((a2 == b2) && (a3 == b3)))))) kk) := bin_neq_of (eqg_agg eg_7) rfl fun _ => eqi_7 (m := 9998) a0 b0 a1 b1 a2 b2 a3 b3
theorem eg_8 : Try.prog.eqGuardType Try.prog.depth 8 = false := by kernel_rfl
theorem st_8 : Try.prog.stoodInHeld 8 = false := by kernel_rfl
theorem eqi_8 {H : AH} {m : Nat} (a0 b0 : Int) (a1 b1 : Int) (a2 b2 : Bool) (a3 b3 : Int) : qrun Try.prog (Op.equalIn (m + 2) 8 (.agg #[.int .i64 a0, .int .i64 a1, .bool a2, .int .u8 a3]) (.agg #[.int .i64 b0, .int .i64 b1, .bool b2, .int .u8 b3])) H = some ((a0 == b0) && ((a1 == b1) && ((a2 == b2) && (a3 == b3)))) := by
  have h := eqIn_struct (P := Try.prog) (H := H) (m := m + 1) (xs := #[.int .i64 a0, .int .i64 a1, .bool a2, .int .u8 a3]) (ys := #[.int .i64 b0, .int .i64 b1, .bool b2, .int .u8 b3]) (T := fun f => if f.offset = 0 then (a0 == b0) else if f.offset = 1 then (a1 == b1) else if f.offset = 2 then (a2 == b2) else if f.offset = 3 then (a3 == b3) else true) Try.underlying8 st_8 (by
    simp only [List.mem_cons, List.not_mem_nil, or_false]
    rintro f (rfl | rfl | rfl | rfl)
    · exact ⟨by decide, (.int .i64 a0), (.int .i64 b0), part_scal ag_2 rfl, part_scal ag_2 rfl, eqIn_int Try.underlying2⟩
    · exact ⟨by decide, (.int .i64 a1), (.int .i64 b1), part_scal ag_3 rfl, part_scal ag_3 rfl, eqIn_int Try.underlying3⟩
    · exact ⟨by decide, (.bool a2), (.bool b2), part_scal ag_4 rfl, part_scal ag_4 rfl, eqIn_bool Try.underlying4⟩
    · exact ⟨by decide, (.int .u8 a3), (.int .u8 b3), part_scal ag_6 rfl, part_scal ag_6 rfl, eqIn_int Try.underlying6⟩)
  rw [h]; simp [Bool.and_assoc]
@[go_sem] theorem eql_8 {H : AH} {u : Option TypeDesc} {x y : Operand} {kk : Value → Prop} {a0 b0 : Int} {a1 b1 : Int} {a2 b2 : Bool} {a3 b3 : Int} : bin u Try.prog H .eql 8 x y (.agg #[.int .i64 a0, .int .i64 a1, .bool a2, .int .u8 a3]) (.agg #[.int .i64 b0, .int .i64 b1, .bool b2, .int .u8 b3]) kk = (u = Try.prog.underlying 8 ∧ nv (.bool ((a0 == b0) && ((a1 == b1) && ((a2 == b2) && (a3 == b3))))) kk) := bin_eql_of (eqg_agg eg_8) rfl fun _ => eqi_8 (m := 9998) a0 b0 a1 b1 a2 b2 a3 b3
@[go_sem] theorem neq_8 {H : AH} {u : Option TypeDesc} {x y : Operand} {kk : Value → Prop} {a0 b0 : Int} {a1 b1 : Int} {a2 b2 : Bool} {a3 b3 : Int} : bin u Try.prog H .neq 8 x y (.agg #[.int .i64 a0, .int .i64 a1, .bool a2, .int .u8 a3]) (.agg #[.int .i64 b0, .int .i64 b1, .bool b2, .int .u8 b3]) kk = (u = Try.prog.underlying 8 ∧ nv (.bool (!((a0 == b0) && ((a1 == b1) && ((a2 == b2) && (a3 == b3)))))) kk) := bin_neq_of (eqg_agg eg_8) rfl fun _ => eqi_8 (m := 9998) a0 b0 a1 b1 a2 b2 a3 b3
theorem eg_37 : Try.prog.eqGuardType Try.prog.depth 37 = false := by kernel_rfl
theorem st_37 : Try.prog.stoodInHeld 37 = false := by kernel_rfl
theorem eqi_37 {H : AH} {m : Nat} (a0 b0 : Int) (a1 b1 : Int) : qrun Try.prog (Op.equalIn (m + 2) 37 (.agg #[.int .i64 a0, .int .i64 a1]) (.agg #[.int .i64 b0, .int .i64 b1])) H = some ((a0 == b0) && (a1 == b1)) := by
  have h := eqIn_struct (P := Try.prog) (H := H) (m := m + 1) (xs := #[.int .i64 a0, .int .i64 a1]) (ys := #[.int .i64 b0, .int .i64 b1]) (T := fun f => if f.offset = 0 then (a0 == b0) else if f.offset = 1 then (a1 == b1) else true) Try.underlying37 st_37 (by
    simp only [List.mem_cons, List.not_mem_nil, or_false]
    rintro f (rfl | rfl)
    · exact ⟨by decide, (.int .i64 a0), (.int .i64 b0), part_scal ag_3 rfl, part_scal ag_3 rfl, eqIn_int Try.underlying3⟩
    · exact ⟨by decide, (.int .i64 a1), (.int .i64 b1), part_scal ag_3 rfl, part_scal ag_3 rfl, eqIn_int Try.underlying3⟩)
  rw [h]; simp [Bool.and_assoc]
@[go_sem] theorem eql_37 {H : AH} {u : Option TypeDesc} {x y : Operand} {kk : Value → Prop} {a0 b0 : Int} {a1 b1 : Int} : bin u Try.prog H .eql 37 x y (.agg #[.int .i64 a0, .int .i64 a1]) (.agg #[.int .i64 b0, .int .i64 b1]) kk = (u = Try.prog.underlying 37 ∧ nv (.bool ((a0 == b0) && (a1 == b1))) kk) := bin_eql_of (eqg_agg eg_37) rfl fun _ => eqi_37 (m := 9998) a0 b0 a1 b1
@[go_sem] theorem neq_37 {H : AH} {u : Option TypeDesc} {x y : Operand} {kk : Value → Prop} {a0 b0 : Int} {a1 b1 : Int} : bin u Try.prog H .neq 37 x y (.agg #[.int .i64 a0, .int .i64 a1]) (.agg #[.int .i64 b0, .int .i64 b1]) kk = (u = Try.prog.underlying 37 ∧ nv (.bool (!((a0 == b0) && (a1 == b1)))) kk) := bin_neq_of (eqg_agg eg_37) rfl fun _ => eqi_37 (m := 9998) a0 b0 a1 b1
theorem eg_38 : Try.prog.eqGuardType Try.prog.depth 38 = false := by kernel_rfl
theorem st_38 : Try.prog.stoodInHeld 38 = false := by kernel_rfl
theorem eqi_38 {H : AH} {m : Nat} (a0 b0 : Int) (a1 b1 : Int) : qrun Try.prog (Op.equalIn (m + 2) 38 (.agg #[.int .i64 a0, .int .i64 a1]) (.agg #[.int .i64 b0, .int .i64 b1])) H = some ((a0 == b0) && (a1 == b1)) := by
  have h := eqIn_struct (P := Try.prog) (H := H) (m := m + 1) (xs := #[.int .i64 a0, .int .i64 a1]) (ys := #[.int .i64 b0, .int .i64 b1]) (T := fun f => if f.offset = 0 then (a0 == b0) else if f.offset = 1 then (a1 == b1) else true) Try.underlying38 st_38 (by
    simp only [List.mem_cons, List.not_mem_nil, or_false]
    rintro f (rfl | rfl)
    · exact ⟨by decide, (.int .i64 a0), (.int .i64 b0), part_scal ag_3 rfl, part_scal ag_3 rfl, eqIn_int Try.underlying3⟩
    · exact ⟨by decide, (.int .i64 a1), (.int .i64 b1), part_scal ag_3 rfl, part_scal ag_3 rfl, eqIn_int Try.underlying3⟩)
  rw [h]; simp [Bool.and_assoc]
@[go_sem] theorem eql_38 {H : AH} {u : Option TypeDesc} {x y : Operand} {kk : Value → Prop} {a0 b0 : Int} {a1 b1 : Int} : bin u Try.prog H .eql 38 x y (.agg #[.int .i64 a0, .int .i64 a1]) (.agg #[.int .i64 b0, .int .i64 b1]) kk = (u = Try.prog.underlying 38 ∧ nv (.bool ((a0 == b0) && (a1 == b1))) kk) := bin_eql_of (eqg_agg eg_38) rfl fun _ => eqi_38 (m := 9998) a0 b0 a1 b1
@[go_sem] theorem neq_38 {H : AH} {u : Option TypeDesc} {x y : Operand} {kk : Value → Prop} {a0 b0 : Int} {a1 b1 : Int} : bin u Try.prog H .neq 38 x y (.agg #[.int .i64 a0, .int .i64 a1]) (.agg #[.int .i64 b0, .int .i64 b1]) kk = (u = Try.prog.underlying 38 ∧ nv (.bool (!((a0 == b0) && (a1 == b1)))) kk) := bin_neq_of (eqg_agg eg_38) rfl fun _ => eqi_38 (m := 9998) a0 b0 a1 b1
theorem eg_40 : Try.prog.eqGuardType Try.prog.depth 40 = false := by kernel_rfl
theorem eqi_40 {H : AH} {m : Nat} (a0 b0 : Bool) (a1 b1 : Bool) (a2 b2 : Bool) (a3 b3 : Bool) (a4 b4 : Bool) (a5 b5 : Bool) (a6 b6 : Bool) (a7 b7 : Bool) (a8 b8 : Bool) (a9 b9 : Bool) (a10 b10 : Bool) : qrun Try.prog (Op.equalIn (m + 2) 40 (.agg #[.bool a0, .bool a1, .bool a2, .bool a3, .bool a4, .bool a5, .bool a6, .bool a7, .bool a8, .bool a9, .bool a10]) (.agg #[.bool b0, .bool b1, .bool b2, .bool b3, .bool b4, .bool b5, .bool b6, .bool b7, .bool b8, .bool b9, .bool b10])) H = some ((a0 == b0) && ((a1 == b1) && ((a2 == b2) && ((a3 == b3) && ((a4 == b4) && ((a5 == b5) && ((a6 == b6) && ((a7 == b7) && ((a8 == b8) && ((a9 == b9) && (a10 == b10))))))))))) := by
  have h := eqIn_array (P := Try.prog) (H := H) (m := m + 1) (xs := #[.bool a0, .bool a1, .bool a2, .bool a3, .bool a4, .bool a5, .bool a6, .bool a7, .bool a8, .bool a9, .bool a10]) (ys := #[.bool b0, .bool b1, .bool b2, .bool b3, .bool b4, .bool b5, .bool b6, .bool b7, .bool b8, .bool b9, .bool b10]) (T := fun i => ([(a0 == b0), (a1 == b1), (a2 == b2), (a3 == b3), (a4 == b4), (a5 == b5), (a6 == b6), (a7 == b7), (a8 == b8), (a9 == b9), (a10 == b10)] : List Bool).getD i false) Try.underlying40 (info_sz sz_4 (by simp)) (fun i hi => by
    match i, hi with
    | 0, _ => exact ⟨(.bool a0), (.bool b0), part_scal ag_4 rfl, part_scal ag_4 rfl, eqIn_bool Try.underlying4⟩
    | 1, _ => exact ⟨(.bool a1), (.bool b1), part_scal ag_4 rfl, part_scal ag_4 rfl, eqIn_bool Try.underlying4⟩
    | 2, _ => exact ⟨(.bool a2), (.bool b2), part_scal ag_4 rfl, part_scal ag_4 rfl, eqIn_bool Try.underlying4⟩
    | 3, _ => exact ⟨(.bool a3), (.bool b3), part_scal ag_4 rfl, part_scal ag_4 rfl, eqIn_bool Try.underlying4⟩
    | 4, _ => exact ⟨(.bool a4), (.bool b4), part_scal ag_4 rfl, part_scal ag_4 rfl, eqIn_bool Try.underlying4⟩
    | 5, _ => exact ⟨(.bool a5), (.bool b5), part_scal ag_4 rfl, part_scal ag_4 rfl, eqIn_bool Try.underlying4⟩
    | 6, _ => exact ⟨(.bool a6), (.bool b6), part_scal ag_4 rfl, part_scal ag_4 rfl, eqIn_bool Try.underlying4⟩
    | 7, _ => exact ⟨(.bool a7), (.bool b7), part_scal ag_4 rfl, part_scal ag_4 rfl, eqIn_bool Try.underlying4⟩
    | 8, _ => exact ⟨(.bool a8), (.bool b8), part_scal ag_4 rfl, part_scal ag_4 rfl, eqIn_bool Try.underlying4⟩
    | 9, _ => exact ⟨(.bool a9), (.bool b9), part_scal ag_4 rfl, part_scal ag_4 rfl, eqIn_bool Try.underlying4⟩
    | 10, _ => exact ⟨(.bool a10), (.bool b10), part_scal ag_4 rfl, part_scal ag_4 rfl, eqIn_bool Try.underlying4⟩
    | _ + 11, hi => omega)
  rw [h]; simp [List.range_succ, Bool.and_assoc]
@[go_sem] theorem eql_40 {H : AH} {u : Option TypeDesc} {x y : Operand} {kk : Value → Prop} {a0 b0 : Bool} {a1 b1 : Bool} {a2 b2 : Bool} {a3 b3 : Bool} {a4 b4 : Bool} {a5 b5 : Bool} {a6 b6 : Bool} {a7 b7 : Bool} {a8 b8 : Bool} {a9 b9 : Bool} {a10 b10 : Bool} : bin u Try.prog H .eql 40 x y (.agg #[.bool a0, .bool a1, .bool a2, .bool a3, .bool a4, .bool a5, .bool a6, .bool a7, .bool a8, .bool a9, .bool a10]) (.agg #[.bool b0, .bool b1, .bool b2, .bool b3, .bool b4, .bool b5, .bool b6, .bool b7, .bool b8, .bool b9, .bool b10]) kk = (u = Try.prog.underlying 40 ∧ nv (.bool ((a0 == b0) && ((a1 == b1) && ((a2 == b2) && ((a3 == b3) && ((a4 == b4) && ((a5 == b5) && ((a6 == b6) && ((a7 == b7) && ((a8 == b8) && ((a9 == b9) && (a10 == b10)))))))))))) kk) := bin_eql_of (eqg_agg eg_40) rfl fun _ => eqi_40 (m := 9998) a0 b0 a1 b1 a2 b2 a3 b3 a4 b4 a5 b5 a6 b6 a7 b7 a8 b8 a9 b9 a10 b10
@[go_sem] theorem neq_40 {H : AH} {u : Option TypeDesc} {x y : Operand} {kk : Value → Prop} {a0 b0 : Bool} {a1 b1 : Bool} {a2 b2 : Bool} {a3 b3 : Bool} {a4 b4 : Bool} {a5 b5 : Bool} {a6 b6 : Bool} {a7 b7 : Bool} {a8 b8 : Bool} {a9 b9 : Bool} {a10 b10 : Bool} : bin u Try.prog H .neq 40 x y (.agg #[.bool a0, .bool a1, .bool a2, .bool a3, .bool a4, .bool a5, .bool a6, .bool a7, .bool a8, .bool a9, .bool a10]) (.agg #[.bool b0, .bool b1, .bool b2, .bool b3, .bool b4, .bool b5, .bool b6, .bool b7, .bool b8, .bool b9, .bool b10]) kk = (u = Try.prog.underlying 40 ∧ nv (.bool (!((a0 == b0) && ((a1 == b1) && ((a2 == b2) && ((a3 == b3) && ((a4 == b4) && ((a5 == b5) && ((a6 == b6) && ((a7 == b7) && ((a8 == b8) && ((a9 == b9) && (a10 == b10))))))))))))) kk) := bin_neq_of (eqg_agg eg_40) rfl fun _ => eqi_40 (m := 9998) a0 b0 a1 b1 a2 b2 a3 b3 a4 b4 a5 b5 a6 b6 a7 b7 a8 b8 a9 b9 a10 b10
theorem eg_41 : Try.prog.eqGuardType Try.prog.depth 41 = false := by kernel_rfl
theorem eqi_41 {H : AH} {m : Nat} (a0 b0 : Bool) (a1 b1 : Bool) (a2 b2 : Bool) (a3 b3 : Bool) (a4 b4 : Bool) (a5 b5 : Bool) (a6 b6 : Bool) (a7 b7 : Bool) (a8 b8 : Bool) (a9 b9 : Bool) (a10 b10 : Bool) : qrun Try.prog (Op.equalIn (m + 2) 41 (.agg #[.bool a0, .bool a1, .bool a2, .bool a3, .bool a4, .bool a5, .bool a6, .bool a7, .bool a8, .bool a9, .bool a10]) (.agg #[.bool b0, .bool b1, .bool b2, .bool b3, .bool b4, .bool b5, .bool b6, .bool b7, .bool b8, .bool b9, .bool b10])) H = some ((a0 == b0) && ((a1 == b1) && ((a2 == b2) && ((a3 == b3) && ((a4 == b4) && ((a5 == b5) && ((a6 == b6) && ((a7 == b7) && ((a8 == b8) && ((a9 == b9) && (a10 == b10))))))))))) := by
  have h := eqIn_array (P := Try.prog) (H := H) (m := m + 1) (xs := #[.bool a0, .bool a1, .bool a2, .bool a3, .bool a4, .bool a5, .bool a6, .bool a7, .bool a8, .bool a9, .bool a10]) (ys := #[.bool b0, .bool b1, .bool b2, .bool b3, .bool b4, .bool b5, .bool b6, .bool b7, .bool b8, .bool b9, .bool b10]) (T := fun i => ([(a0 == b0), (a1 == b1), (a2 == b2), (a3 == b3), (a4 == b4), (a5 == b5), (a6 == b6), (a7 == b7), (a8 == b8), (a9 == b9), (a10 == b10)] : List Bool).getD i false) Try.underlying41 (info_sz sz_4 (by simp)) (fun i hi => by
    match i, hi with
    | 0, _ => exact ⟨(.bool a0), (.bool b0), part_scal ag_4 rfl, part_scal ag_4 rfl, eqIn_bool Try.underlying4⟩
    | 1, _ => exact ⟨(.bool a1), (.bool b1), part_scal ag_4 rfl, part_scal ag_4 rfl, eqIn_bool Try.underlying4⟩
    | 2, _ => exact ⟨(.bool a2), (.bool b2), part_scal ag_4 rfl, part_scal ag_4 rfl, eqIn_bool Try.underlying4⟩
    | 3, _ => exact ⟨(.bool a3), (.bool b3), part_scal ag_4 rfl, part_scal ag_4 rfl, eqIn_bool Try.underlying4⟩
    | 4, _ => exact ⟨(.bool a4), (.bool b4), part_scal ag_4 rfl, part_scal ag_4 rfl, eqIn_bool Try.underlying4⟩
    | 5, _ => exact ⟨(.bool a5), (.bool b5), part_scal ag_4 rfl, part_scal ag_4 rfl, eqIn_bool Try.underlying4⟩
    | 6, _ => exact ⟨(.bool a6), (.bool b6), part_scal ag_4 rfl, part_scal ag_4 rfl, eqIn_bool Try.underlying4⟩
    | 7, _ => exact ⟨(.bool a7), (.bool b7), part_scal ag_4 rfl, part_scal ag_4 rfl, eqIn_bool Try.underlying4⟩
    | 8, _ => exact ⟨(.bool a8), (.bool b8), part_scal ag_4 rfl, part_scal ag_4 rfl, eqIn_bool Try.underlying4⟩
    | 9, _ => exact ⟨(.bool a9), (.bool b9), part_scal ag_4 rfl, part_scal ag_4 rfl, eqIn_bool Try.underlying4⟩
    | 10, _ => exact ⟨(.bool a10), (.bool b10), part_scal ag_4 rfl, part_scal ag_4 rfl, eqIn_bool Try.underlying4⟩
    | _ + 11, hi => omega)
  rw [h]; simp [List.range_succ, Bool.and_assoc]
@[go_sem] theorem eql_41 {H : AH} {u : Option TypeDesc} {x y : Operand} {kk : Value → Prop} {a0 b0 : Bool} {a1 b1 : Bool} {a2 b2 : Bool} {a3 b3 : Bool} {a4 b4 : Bool} {a5 b5 : Bool} {a6 b6 : Bool} {a7 b7 : Bool} {a8 b8 : Bool} {a9 b9 : Bool} {a10 b10 : Bool} : bin u Try.prog H .eql 41 x y (.agg #[.bool a0, .bool a1, .bool a2, .bool a3, .bool a4, .bool a5, .bool a6, .bool a7, .bool a8, .bool a9, .bool a10]) (.agg #[.bool b0, .bool b1, .bool b2, .bool b3, .bool b4, .bool b5, .bool b6, .bool b7, .bool b8, .bool b9, .bool b10]) kk = (u = Try.prog.underlying 41 ∧ nv (.bool ((a0 == b0) && ((a1 == b1) && ((a2 == b2) && ((a3 == b3) && ((a4 == b4) && ((a5 == b5) && ((a6 == b6) && ((a7 == b7) && ((a8 == b8) && ((a9 == b9) && (a10 == b10)))))))))))) kk) := bin_eql_of (eqg_agg eg_41) rfl fun _ => eqi_41 (m := 9998) a0 b0 a1 b1 a2 b2 a3 b3 a4 b4 a5 b5 a6 b6 a7 b7 a8 b8 a9 b9 a10 b10
@[go_sem] theorem neq_41 {H : AH} {u : Option TypeDesc} {x y : Operand} {kk : Value → Prop} {a0 b0 : Bool} {a1 b1 : Bool} {a2 b2 : Bool} {a3 b3 : Bool} {a4 b4 : Bool} {a5 b5 : Bool} {a6 b6 : Bool} {a7 b7 : Bool} {a8 b8 : Bool} {a9 b9 : Bool} {a10 b10 : Bool} : bin u Try.prog H .neq 41 x y (.agg #[.bool a0, .bool a1, .bool a2, .bool a3, .bool a4, .bool a5, .bool a6, .bool a7, .bool a8, .bool a9, .bool a10]) (.agg #[.bool b0, .bool b1, .bool b2, .bool b3, .bool b4, .bool b5, .bool b6, .bool b7, .bool b8, .bool b9, .bool b10]) kk = (u = Try.prog.underlying 41 ∧ nv (.bool (!((a0 == b0) && ((a1 == b1) && ((a2 == b2) && ((a3 == b3) && ((a4 == b4) && ((a5 == b5) && ((a6 == b6) && ((a7 == b7) && ((a8 == b8) && ((a9 == b9) && (a10 == b10))))))))))))) kk) := bin_neq_of (eqg_agg eg_41) rfl fun _ => eqi_41 (m := 9998) a0 b0 a1 b1 a2 b2 a3 b3 a4 b4 a5 b5 a6 b6 a7 b7 a8 b8 a9 b9 a10 b10
theorem eg_52 : Try.prog.eqGuardType Try.prog.depth 52 = false := by kernel_rfl
theorem st_52 : Try.prog.stoodInHeld 52 = false := by kernel_rfl
theorem eqi_52 {H : AH} {m : Nat} (a0 b0 : Int) (a1 b1 : Int) : qrun Try.prog (Op.equalIn (m + 2) 52 (.agg #[.int .i64 a0, .int .i64 a1]) (.agg #[.int .i64 b0, .int .i64 b1])) H = some ((a0 == b0) && (a1 == b1)) := by
  have h := eqIn_struct (P := Try.prog) (H := H) (m := m + 1) (xs := #[.int .i64 a0, .int .i64 a1]) (ys := #[.int .i64 b0, .int .i64 b1]) (T := fun f => if f.offset = 0 then (a0 == b0) else if f.offset = 1 then (a1 == b1) else true) Try.underlying52 st_52 (by
    simp only [List.mem_cons, List.not_mem_nil, or_false]
    rintro f (rfl | rfl)
    · exact ⟨by decide, (.int .i64 a0), (.int .i64 b0), part_scal ag_3 rfl, part_scal ag_3 rfl, eqIn_int Try.underlying3⟩
    · exact ⟨by decide, (.int .i64 a1), (.int .i64 b1), part_scal ag_3 rfl, part_scal ag_3 rfl, eqIn_int Try.underlying3⟩)
  rw [h]; simp [Bool.and_assoc]
@[go_sem] theorem eql_52 {H : AH} {u : Option TypeDesc} {x y : Operand} {kk : Value → Prop} {a0 b0 : Int} {a1 b1 : Int} : bin u Try.prog H .eql 52 x y (.agg #[.int .i64 a0, .int .i64 a1]) (.agg #[.int .i64 b0, .int .i64 b1]) kk = (u = Try.prog.underlying 52 ∧ nv (.bool ((a0 == b0) && (a1 == b1))) kk) := bin_eql_of (eqg_agg eg_52) rfl fun _ => eqi_52 (m := 9998) a0 b0 a1 b1
@[go_sem] theorem neq_52 {H : AH} {u : Option TypeDesc} {x y : Operand} {kk : Value → Prop} {a0 b0 : Int} {a1 b1 : Int} : bin u Try.prog H .neq 52 x y (.agg #[.int .i64 a0, .int .i64 a1]) (.agg #[.int .i64 b0, .int .i64 b1]) kk = (u = Try.prog.underlying 52 ∧ nv (.bool (!((a0 == b0) && (a1 == b1)))) kk) := bin_neq_of (eqg_agg eg_52) rfl fun _ => eqi_52 (m := 9998) a0 b0 a1 b1
theorem eg_53 : Try.prog.eqGuardType Try.prog.depth 53 = false := by kernel_rfl
theorem st_53 : Try.prog.stoodInHeld 53 = false := by kernel_rfl
theorem eqi_53 {H : AH} {m : Nat} (a0 b0 : Int) (a1 b1 : Int) : qrun Try.prog (Op.equalIn (m + 2) 53 (.agg #[.int .i64 a0, .int .i64 a1]) (.agg #[.int .i64 b0, .int .i64 b1])) H = some ((a0 == b0) && (a1 == b1)) := by
  have h := eqIn_struct (P := Try.prog) (H := H) (m := m + 1) (xs := #[.int .i64 a0, .int .i64 a1]) (ys := #[.int .i64 b0, .int .i64 b1]) (T := fun f => if f.offset = 0 then (a0 == b0) else if f.offset = 1 then (a1 == b1) else true) Try.underlying53 st_53 (by
    simp only [List.mem_cons, List.not_mem_nil, or_false]
    rintro f (rfl | rfl)
    · exact ⟨by decide, (.int .i64 a0), (.int .i64 b0), part_scal ag_3 rfl, part_scal ag_3 rfl, eqIn_int Try.underlying3⟩
    · exact ⟨by decide, (.int .i64 a1), (.int .i64 b1), part_scal ag_3 rfl, part_scal ag_3 rfl, eqIn_int Try.underlying3⟩)
  rw [h]; simp [Bool.and_assoc]
@[go_sem] theorem eql_53 {H : AH} {u : Option TypeDesc} {x y : Operand} {kk : Value → Prop} {a0 b0 : Int} {a1 b1 : Int} : bin u Try.prog H .eql 53 x y (.agg #[.int .i64 a0, .int .i64 a1]) (.agg #[.int .i64 b0, .int .i64 b1]) kk = (u = Try.prog.underlying 53 ∧ nv (.bool ((a0 == b0) && (a1 == b1))) kk) := bin_eql_of (eqg_agg eg_53) rfl fun _ => eqi_53 (m := 9998) a0 b0 a1 b1
@[go_sem] theorem neq_53 {H : AH} {u : Option TypeDesc} {x y : Operand} {kk : Value → Prop} {a0 b0 : Int} {a1 b1 : Int} : bin u Try.prog H .neq 53 x y (.agg #[.int .i64 a0, .int .i64 a1]) (.agg #[.int .i64 b0, .int .i64 b1]) kk = (u = Try.prog.underlying 53 ∧ nv (.bool (!((a0 == b0) && (a1 == b1)))) kk) := bin_neq_of (eqg_agg eg_53) rfl fun _ => eqi_53 (m := 9998) a0 b0 a1 b1
@[go_sem] theorem ok_2 : fnOk Try.prog 2 = true := by kernel_rfl
@[go_sem] theorem ok_3 : fnOk Try.prog 3 = true := by kernel_rfl
@[go_sem] theorem ok_4 : fnOk Try.prog 4 = true := by kernel_rfl
@[go_sem] theorem ok_5 : fnOk Try.prog 5 = true := by kernel_rfl
@[go_sem] theorem ok_6 : fnOk Try.prog 6 = true := by kernel_rfl
@[go_sem] theorem ok_7 : fnOk Try.prog 7 = true := by kernel_rfl
@[go_sem] theorem ok_8 : fnOk Try.prog 8 = true := by kernel_rfl
@[go_sem] theorem ok_9 : fnOk Try.prog 9 = true := by kernel_rfl
@[go_sem] theorem ok_10 : fnOk Try.prog 10 = true := by kernel_rfl
@[go_sem] theorem ok_11 : fnOk Try.prog 11 = true := by kernel_rfl
@[go_sem] theorem ok_12 : fnOk Try.prog 12 = true := by kernel_rfl
@[go_sem] theorem ok_13 : fnOk Try.prog 13 = true := by kernel_rfl
@[go_sem] theorem ok_14 : fnOk Try.prog 14 = true := by kernel_rfl
@[go_sem] theorem ok_15 : fnOk Try.prog 15 = true := by kernel_rfl
@[go_sem] theorem ok_16 : fnOk Try.prog 16 = true := by kernel_rfl
@[go_sem] theorem ok_17 : fnOk Try.prog 17 = true := by kernel_rfl
@[go_sem] theorem ok_18 : fnOk Try.prog 18 = true := by kernel_rfl
@[go_sem] theorem ok_19 : fnOk Try.prog 19 = true := by kernel_rfl
@[go_sem] theorem ok_20 : fnOk Try.prog 20 = true := by kernel_rfl
@[go_sem] theorem ok_21 : fnOk Try.prog 21 = true := by kernel_rfl
@[go_sem] theorem ok_22 : fnOk Try.prog 22 = true := by kernel_rfl
@[go_sem] theorem ok_23 : fnOk Try.prog 23 = true := by kernel_rfl
@[go_sem] theorem ok_24 : fnOk Try.prog 24 = true := by kernel_rfl
@[go_sem] theorem ok_25 : fnOk Try.prog 25 = true := by kernel_rfl
@[go_sem] theorem ok_26 : fnOk Try.prog 26 = true := by kernel_rfl
@[go_sem] theorem ok_27 : fnOk Try.prog 27 = true := by kernel_rfl
@[go_sem] theorem ok_28 : fnOk Try.prog 28 = true := by kernel_rfl
@[go_sem] theorem ok_29 : fnOk Try.prog 29 = true := by kernel_rfl
@[go_sem] theorem ok_30 : fnOk Try.prog 30 = true := by kernel_rfl
@[go_sem] theorem ok_31 : fnOk Try.prog 31 = true := by kernel_rfl
@[go_sem] theorem ok_32 : fnOk Try.prog 32 = true := by kernel_rfl
@[go_sem] theorem ok_33 : fnOk Try.prog 33 = true := by kernel_rfl
@[go_sem] theorem ok_34 : fnOk Try.prog 34 = true := by kernel_rfl
@[go_sem] theorem ok_35 : fnOk Try.prog 35 = true := by kernel_rfl
@[go_sem] theorem ok_36 : fnOk Try.prog 36 = true := by kernel_rfl
@[go_sem] theorem ok_37 : fnOk Try.prog 37 = true := by kernel_rfl
@[go_sem] theorem ok_38 : fnOk Try.prog 38 = true := by kernel_rfl
@[go_sem] theorem ok_39 : fnOk Try.prog 39 = true := by kernel_rfl
@[go_sem] theorem ok_40 : fnOk Try.prog 40 = true := by kernel_rfl
@[go_sem] theorem ok_41 : fnOk Try.prog 41 = true := by kernel_rfl
@[go_sem] theorem ok_42 : fnOk Try.prog 42 = true := by kernel_rfl
@[go_sem] theorem ok_43 : fnOk Try.prog 43 = true := by kernel_rfl
@[go_sem] theorem ok_44 : fnOk Try.prog 44 = true := by kernel_rfl
@[go_sem] theorem ok_45 : fnOk Try.prog 45 = true := by kernel_rfl
@[go_sem] theorem ok_46 : fnOk Try.prog 46 = true := by kernel_rfl
@[go_sem] theorem ok_47 : fnOk Try.prog 47 = true := by kernel_rfl
@[go_sem] theorem ok_48 : fnOk Try.prog 48 = true := by kernel_rfl
@[go_sem] theorem ok_49 : fnOk Try.prog 49 = true := by kernel_rfl
@[go_sem] theorem ok_50 : fnOk Try.prog 50 = true := by kernel_rfl
@[go_sem] theorem ok_51 : fnOk Try.prog 51 = true := by kernel_rfl
@[go_sem] theorem ok_52 : fnOk Try.prog 52 = true := by kernel_rfl
@[go_sem] theorem ok_53 : fnOk Try.prog 53 = true := by kernel_rfl
@[go_sem] theorem ok_54 : fnOk Try.prog 54 = true := by kernel_rfl
@[go_sem] theorem ok_55 : fnOk Try.prog 55 = true := by kernel_rfl
@[go_sem] theorem ok_56 : fnOk Try.prog 56 = true := by kernel_rfl
@[go_sem] theorem ok_57 : fnOk Try.prog 57 = true := by kernel_rfl
@[go_sem] theorem ok_58 : fnOk Try.prog 58 = true := by kernel_rfl
@[go_sem] theorem ok_59 : fnOk Try.prog 59 = true := by kernel_rfl
@[go_sem] theorem ok_60 : fnOk Try.prog 60 = true := by kernel_rfl
@[go_sem] theorem ok_61 : fnOk Try.prog 61 = true := by kernel_rfl
@[go_sem] theorem ok_62 : fnOk Try.prog 62 = true := by kernel_rfl
@[go_sem] theorem ok_63 : fnOk Try.prog 63 = true := by kernel_rfl
@[go_sem] theorem ok_64 : fnOk Try.prog 64 = true := by kernel_rfl
@[go_sem] theorem ok_65 : fnOk Try.prog 65 = true := by kernel_rfl
@[go_sem] theorem ok_66 : fnOk Try.prog 66 = true := by kernel_rfl
@[go_sem] theorem ok_67 : fnOk Try.prog 67 = true := by kernel_rfl
@[go_sem] theorem ok_68 : fnOk Try.prog 68 = true := by kernel_rfl
theorem mixed : Try.prog.follows .mixedOrders = true := by kernel_rfl
attribute [go_sem] Try.underlying0 Try.underlying1 Try.underlying2 Try.underlying3 Try.underlying4 Try.underlying5 Try.underlying6 Try.underlying7 Try.underlying8 Try.underlying9 Try.underlying10 Try.underlying11 Try.underlying12 Try.underlying13 Try.underlying14 Try.underlying15
attribute [go_sem] Try.underlying16 Try.underlying17 Try.underlying18 Try.underlying19 Try.underlying20 Try.underlying21 Try.underlying22 Try.underlying23 Try.underlying24 Try.underlying25 Try.underlying26 Try.underlying27 Try.underlying28 Try.underlying29 Try.underlying30 Try.underlying31
attribute [go_sem] Try.underlying32 Try.underlying33 Try.underlying34 Try.underlying35 Try.underlying36 Try.underlying37 Try.underlying38 Try.underlying39 Try.underlying40 Try.underlying41 Try.underlying42 Try.underlying43 Try.underlying44 Try.underlying45 Try.underlying46 Try.underlying47
attribute [go_sem] Try.underlying48 Try.underlying49 Try.underlying50 Try.underlying51 Try.underlying52 Try.underlying53 Try.underlying54 Try.underlying55 Try.underlying56 Try.underlying57 Try.underlying58 Try.underlying59 Try.underlying60 Try.underlying61 Try.underlying62 Try.underlying63
attribute [go_sem] Try.underlying64 Try.underlying65 Try.underlying66 Try.underlying67 Try.underlying68 Try.underlying69 Try.underlying70 Try.underlying71 Try.underlying72 Try.underlying73 Try.underlying74 Try.underlying75 Try.underlying76 Try.underlying77 Try.underlying78 Try.underlying79
attribute [go_sem] Try.underlying80 Try.underlying81 Try.underlying82 Try.underlying83 Try.underlying84 Try.underlying85 Try.underlying86 Try.underlying87 Try.underlying88 Try.underlying89 Try.underlying90 Try.underlying91 Try.underlying92 Try.underlying93 Try.underlying94 Try.underlying95
attribute [go_sem] Try.underlying96 Try.underlying97 Try.underlying98 Try.underlying99 Try.underlying100 Try.underlying101 Try.underlying102 Try.underlying103 Try.underlying104 Try.underlying105 Try.underlying106 Try.underlying107
attribute [go_sem] Try.ntmps0 Try.results0 Try.ntmps1 Try.results1 Try.ntmps2 Try.results2 Try.ntmps3 Try.results3 Try.ntmps4 Try.results4 Try.ntmps5 Try.results5 Try.ntmps6 Try.results6 Try.ntmps7 Try.results7
attribute [go_sem] Try.ntmps8 Try.results8 Try.ntmps9 Try.results9 Try.ntmps10 Try.results10 Try.ntmps11 Try.results11 Try.ntmps12 Try.results12 Try.ntmps13 Try.results13 Try.ntmps14 Try.results14 Try.ntmps15 Try.results15
attribute [go_sem] Try.ntmps16 Try.results16 Try.ntmps17 Try.results17 Try.ntmps18 Try.results18 Try.ntmps19 Try.results19 Try.ntmps20 Try.results20 Try.ntmps21 Try.results21 Try.ntmps22 Try.results22 Try.ntmps23 Try.results23
attribute [go_sem] Try.ntmps24 Try.results24 Try.ntmps25 Try.results25 Try.ntmps26 Try.results26 Try.ntmps27 Try.results27 Try.ntmps28 Try.results28 Try.ntmps29 Try.results29 Try.ntmps30 Try.results30 Try.ntmps31 Try.results31
attribute [go_sem] Try.ntmps32 Try.results32 Try.ntmps33 Try.results33 Try.ntmps34 Try.results34 Try.ntmps35 Try.results35 Try.ntmps36 Try.results36 Try.ntmps37 Try.results37 Try.ntmps38 Try.results38 Try.ntmps39 Try.results39
attribute [go_sem] Try.ntmps40 Try.results40 Try.ntmps41 Try.results41 Try.ntmps42 Try.results42 Try.ntmps43 Try.results43 Try.ntmps44 Try.results44 Try.ntmps45 Try.results45 Try.ntmps46 Try.results46 Try.ntmps47 Try.results47
attribute [go_sem] Try.ntmps48 Try.results48 Try.ntmps49 Try.results49 Try.ntmps50 Try.results50 Try.ntmps51 Try.results51 Try.ntmps52 Try.results52 Try.ntmps53 Try.results53 Try.ntmps54 Try.results54 Try.ntmps55 Try.results55
attribute [go_sem] Try.ntmps56 Try.results56 Try.ntmps57 Try.results57 Try.ntmps58 Try.results58 Try.ntmps59 Try.results59 Try.ntmps60 Try.results60 Try.ntmps61 Try.results61 Try.ntmps62 Try.results62 Try.ntmps63 Try.results63
attribute [go_sem] Try.ntmps64 Try.results64 Try.ntmps65 Try.results65 Try.ntmps66 Try.results66 Try.ntmps67 Try.results67 Try.ntmps68 Try.results68 Try.ntmps69 Try.results69 Try.ntmps70 Try.results70 Try.ntmps71 Try.results71
attribute [go_sem] Try.ntmps72 Try.results72 Try.ntmps73 Try.results73 Try.ntmps74 Try.results74 Try.ntmps75 Try.results75 Try.ntmps76 Try.results76 Try.ntmps77 Try.results77 Try.ntmps78 Try.results78 Try.ntmps79 Try.results79
attribute [go_sem] Try.ntmps80 Try.results80 Try.ntmps81 Try.results81 Try.ntmps82 Try.results82 Try.ntmps83 Try.results83 Try.ntmps84 Try.results84 Try.ntmps85 Try.results85
end Go.Proofs.Ytapfabjmooagaaa.Ty

/- Closed facts on the types and functions of the translation, reckoned by the kernel. Written by a program of this session. -/
import Derived.Test.YtgikjbfpckjkoaaAx17
import Derived.Test.YtgikjbfpckjkoaaProg
import Derived.KernelRfl
namespace Go.Proofs.Ytgikjbfpckjkoaa.Ty
set_option linter.unusedSimpArgs false
set_option linter.unusedVariables false
open Go Go.AX Go.Proofs
@[go_sem ↓] theorem sz_1 : Try.prog.cellsOf 1 = 1 := by kernel_rfl
@[go_sem ↓] theorem ag_1 : isAggU (Try.prog.underlying 1) = some false := by kernel_rfl
@[go_sem ↓] theorem zr_1 : zrOf Try.prog 1 = some [.nilFunc] := by kernel_rfl
@[go_sem ↓] theorem sz_2 : Try.prog.cellsOf 2 = 1 := by kernel_rfl
@[go_sem ↓] theorem ag_2 : isAggU (Try.prog.underlying 2) = some false := by kernel_rfl
@[go_sem ↓] theorem zr_2 : zrOf Try.prog 2 = some [(.int .i64 0)] := by kernel_rfl
@[go_sem ↓] theorem sz_3 : Try.prog.cellsOf 3 = 1 := by kernel_rfl
@[go_sem ↓] theorem ag_3 : isAggU (Try.prog.underlying 3) = some false := by kernel_rfl
@[go_sem ↓] theorem zr_3 : zrOf Try.prog 3 = some [(.int .i64 0)] := by kernel_rfl
@[go_sem ↓] theorem sz_4 : Try.prog.cellsOf 4 = 1 := by kernel_rfl
@[go_sem ↓] theorem ag_4 : isAggU (Try.prog.underlying 4) = some false := by kernel_rfl
@[go_sem ↓] theorem zr_4 : zrOf Try.prog 4 = some [(.bool false)] := by kernel_rfl
@[go_sem ↓] theorem sz_5 : Try.prog.cellsOf 5 = 1 := by kernel_rfl
@[go_sem ↓] theorem ag_5 : isAggU (Try.prog.underlying 5) = some false := by kernel_rfl
@[go_sem ↓] theorem zr_5 : zrOf Try.prog 5 = some [(.int .u8 0)] := by kernel_rfl
@[go_sem ↓] theorem sz_6 : Try.prog.cellsOf 6 = 1 := by kernel_rfl
@[go_sem ↓] theorem ag_6 : isAggU (Try.prog.underlying 6) = some false := by kernel_rfl
@[go_sem ↓] theorem zr_6 : zrOf Try.prog 6 = some [(.int .u8 0)] := by kernel_rfl
@[go_sem ↓] theorem sz_7 : Try.prog.cellsOf 7 = 4 := by kernel_rfl
@[go_sem ↓] theorem ag_7 : isAggU (Try.prog.underlying 7) = some true := by kernel_rfl
@[go_sem ↓] theorem zr_7 : zrOf Try.prog 7 = some [(.int .i64 0), (.int .i64 0), (.bool false), (.int .u8 0)] := by kernel_rfl
@[go_sem ↓] theorem fo_7_0 : foOf Try.prog 7 0 = some 0 := by kernel_rfl
@[go_sem ↓] theorem pl_7_0 : plOf Try.prog 7 0 = some (0, 1) := by kernel_rfl
@[go_sem ↓] theorem fo_7_1 : foOf Try.prog 7 1 = some 1 := by kernel_rfl
@[go_sem ↓] theorem pl_7_1 : plOf Try.prog 7 1 = some (1, 1) := by kernel_rfl
@[go_sem ↓] theorem fo_7_2 : foOf Try.prog 7 2 = some 2 := by kernel_rfl
@[go_sem ↓] theorem pl_7_2 : plOf Try.prog 7 2 = some (2, 1) := by kernel_rfl
@[go_sem ↓] theorem fo_7_3 : foOf Try.prog 7 3 = some 3 := by kernel_rfl
@[go_sem ↓] theorem pl_7_3 : plOf Try.prog 7 3 = some (3, 1) := by kernel_rfl
@[go_sem ↓] theorem fl_7 : plOf1 Try.prog 7 = true := by kernel_rfl
@[go_sem ↓] theorem sz_8 : Try.prog.cellsOf 8 = 4 := by kernel_rfl
@[go_sem ↓] theorem ag_8 : isAggU (Try.prog.underlying 8) = some true := by kernel_rfl
@[go_sem ↓] theorem zr_8 : zrOf Try.prog 8 = some [(.int .i64 0), (.int .i64 0), (.bool false), (.int .u8 0)] := by kernel_rfl
@[go_sem ↓] theorem fo_8_0 : foOf Try.prog 8 0 = some 0 := by kernel_rfl
@[go_sem ↓] theorem pl_8_0 : plOf Try.prog 8 0 = some (0, 1) := by kernel_rfl
@[go_sem ↓] theorem fo_8_1 : foOf Try.prog 8 1 = some 1 := by kernel_rfl
@[go_sem ↓] theorem pl_8_1 : plOf Try.prog 8 1 = some (1, 1) := by kernel_rfl
@[go_sem ↓] theorem fo_8_2 : foOf Try.prog 8 2 = some 2 := by kernel_rfl
@[go_sem ↓] theorem pl_8_2 : plOf Try.prog 8 2 = some (2, 1) := by kernel_rfl
@[go_sem ↓] theorem fo_8_3 : foOf Try.prog 8 3 = some 3 := by kernel_rfl
@[go_sem ↓] theorem pl_8_3 : plOf Try.prog 8 3 = some (3, 1) := by kernel_rfl
@[go_sem ↓] theorem fl_8 : plOf1 Try.prog 8 = true := by kernel_rfl
@[go_sem ↓] theorem sz_9 : Try.prog.cellsOf 9 = 1 := by kernel_rfl
@[go_sem ↓] theorem ag_9 : isAggU (Try.prog.underlying 9) = some false := by kernel_rfl
@[go_sem ↓] theorem zr_9 : zrOf Try.prog 9 = some [(.string ⟨#[]⟩)] := by kernel_rfl
@[go_sem ↓] theorem sz_10 : Try.prog.cellsOf 10 = 1 := by kernel_rfl
@[go_sem ↓] theorem ag_10 : isAggU (Try.prog.underlying 10) = some false := by kernel_rfl
@[go_sem ↓] theorem zr_10 : zrOf Try.prog 10 = some [(.string ⟨#[]⟩)] := by kernel_rfl
@[go_sem ↓] theorem sz_11 : Try.prog.cellsOf 11 = 1 := by kernel_rfl
@[go_sem ↓] theorem ag_11 : isAggU (Try.prog.underlying 11) = some false := by kernel_rfl
@[go_sem ↓] theorem zr_11 : zrOf Try.prog 11 = some [(.string ⟨#[]⟩)] := by kernel_rfl
@[go_sem ↓] theorem sz_12 : Try.prog.cellsOf 12 = 1 := by kernel_rfl
@[go_sem ↓] theorem ag_12 : isAggU (Try.prog.underlying 12) = some false := by kernel_rfl
@[go_sem ↓] theorem zr_12 : zrOf Try.prog 12 = some [(.int .u64 0)] := by kernel_rfl
@[go_sem ↓] theorem sz_13 : Try.prog.cellsOf 13 = 2 := by kernel_rfl
@[go_sem ↓] theorem ag_13 : isAggU (Try.prog.underlying 13) = some true := by kernel_rfl
@[go_sem ↓] theorem zr_13 : zrOf Try.prog 13 = some [(.string ⟨#[]⟩), (.int .u64 0)] := by kernel_rfl
@[go_sem ↓] theorem fo_13_0 : foOf Try.prog 13 0 = some 0 := by kernel_rfl
@[go_sem ↓] theorem pl_13_0 : plOf Try.prog 13 0 = some (0, 1) := by kernel_rfl
@[go_sem ↓] theorem fo_13_1 : foOf Try.prog 13 1 = some 1 := by kernel_rfl
@[go_sem ↓] theorem pl_13_1 : plOf Try.prog 13 1 = some (1, 1) := by kernel_rfl
@[go_sem ↓] theorem fl_13 : plOf1 Try.prog 13 = true := by kernel_rfl
@[go_sem ↓] theorem sz_14 : Try.prog.cellsOf 14 = 2 := by kernel_rfl
@[go_sem ↓] theorem ag_14 : isAggU (Try.prog.underlying 14) = some true := by kernel_rfl
@[go_sem ↓] theorem zr_14 : zrOf Try.prog 14 = some [(.string ⟨#[]⟩), (.int .u64 0)] := by kernel_rfl
@[go_sem ↓] theorem fo_14_0 : foOf Try.prog 14 0 = some 0 := by kernel_rfl
@[go_sem ↓] theorem pl_14_0 : plOf Try.prog 14 0 = some (0, 1) := by kernel_rfl
@[go_sem ↓] theorem fo_14_1 : foOf Try.prog 14 1 = some 1 := by kernel_rfl
@[go_sem ↓] theorem pl_14_1 : plOf Try.prog 14 1 = some (1, 1) := by kernel_rfl
@[go_sem ↓] theorem fl_14 : plOf1 Try.prog 14 = true := by kernel_rfl
@[go_sem ↓] theorem sz_15 : Try.prog.cellsOf 15 = 1 := by kernel_rfl
@[go_sem ↓] theorem ag_15 : isAggU (Try.prog.underlying 15) = some false := by kernel_rfl
@[go_sem ↓] theorem zr_15 : zrOf Try.prog 15 = some [(.pointer none)] := by kernel_rfl
@[go_sem ↓] theorem sz_16 : Try.prog.cellsOf 16 = 1 := by kernel_rfl
@[go_sem ↓] theorem ag_16 : isAggU (Try.prog.underlying 16) = some false := by kernel_rfl
@[go_sem ↓] theorem zr_16 : zrOf Try.prog 16 = some [(.pointer none)] := by kernel_rfl
@[go_sem ↓] theorem sz_17 : Try.prog.cellsOf 17 = 1 := by kernel_rfl
@[go_sem ↓] theorem ag_17 : isAggU (Try.prog.underlying 17) = some false := by kernel_rfl
@[go_sem ↓] theorem zr_17 : zrOf Try.prog 17 = some [(.pointer none)] := by kernel_rfl
@[go_sem ↓] theorem sz_18 : Try.prog.cellsOf 18 = 1 := by kernel_rfl
@[go_sem ↓] theorem ag_18 : isAggU (Try.prog.underlying 18) = some true := by kernel_rfl
@[go_sem ↓] theorem zr_18 : zrOf Try.prog 18 = some [(.pointer none)] := by kernel_rfl
@[go_sem ↓] theorem fo_18_0 : foOf Try.prog 18 0 = some 0 := by kernel_rfl
@[go_sem ↓] theorem pl_18_0 : plOf Try.prog 18 0 = some (0, 1) := by kernel_rfl
@[go_sem ↓] theorem fl_18 : plOf1 Try.prog 18 = true := by kernel_rfl
@[go_sem ↓] theorem sz_19 : Try.prog.cellsOf 19 = 1 := by kernel_rfl
@[go_sem ↓] theorem ag_19 : isAggU (Try.prog.underlying 19) = some true := by kernel_rfl
@[go_sem ↓] theorem zr_19 : zrOf Try.prog 19 = some [(.pointer none)] := by kernel_rfl
@[go_sem ↓] theorem fo_19_0 : foOf Try.prog 19 0 = some 0 := by kernel_rfl
@[go_sem ↓] theorem pl_19_0 : plOf Try.prog 19 0 = some (0, 1) := by kernel_rfl
@[go_sem ↓] theorem fl_19 : plOf1 Try.prog 19 = true := by kernel_rfl
@[go_sem ↓] theorem sz_20 : Try.prog.cellsOf 20 = 1 := by kernel_rfl
@[go_sem ↓] theorem ag_20 : isAggU (Try.prog.underlying 20) = some false := by kernel_rfl
@[go_sem ↓] theorem zr_20 : zrOf Try.prog 20 = some [.nilIface] := by kernel_rfl
@[go_sem ↓] theorem sz_21 : Try.prog.cellsOf 21 = 1 := by kernel_rfl
@[go_sem ↓] theorem ag_21 : isAggU (Try.prog.underlying 21) = some false := by kernel_rfl
@[go_sem ↓] theorem zr_21 : zrOf Try.prog 21 = some [(.int .i32 0)] := by kernel_rfl
@[go_sem ↓] theorem sz_22 : Try.prog.cellsOf 22 = 1 := by kernel_rfl
@[go_sem ↓] theorem ag_22 : isAggU (Try.prog.underlying 22) = some false := by kernel_rfl
@[go_sem ↓] theorem es_22 : elSz Try.prog 22 = 2 := by kernel_rfl
@[go_sem ↓] theorem zr_22 : zrOf Try.prog 22 = some [(.slice none 0 0)] := by kernel_rfl
@[go_sem ↓] theorem sz_23 : Try.prog.cellsOf 23 = 1 := by kernel_rfl
@[go_sem ↓] theorem ag_23 : isAggU (Try.prog.underlying 23) = some false := by kernel_rfl
@[go_sem ↓] theorem es_23 : elSz Try.prog 23 = 1 := by kernel_rfl
@[go_sem ↓] theorem zr_23 : zrOf Try.prog 23 = some [(.slice none 0 0)] := by kernel_rfl
@[go_sem ↓] theorem sz_24 : Try.prog.cellsOf 24 = 1 := by kernel_rfl
@[go_sem ↓] theorem ag_24 : isAggU (Try.prog.underlying 24) = some false := by kernel_rfl
@[go_sem ↓] theorem zr_24 : zrOf Try.prog 24 = some [(.int .u64 0)] := by kernel_rfl
@[go_sem ↓] theorem sz_25 : Try.prog.cellsOf 25 = 1 := by kernel_rfl
@[go_sem ↓] theorem ag_25 : isAggU (Try.prog.underlying 25) = some false := by kernel_rfl
@[go_sem ↓] theorem zr_25 : zrOf Try.prog 25 = some [.nilFunc] := by kernel_rfl
@[go_sem ↓] theorem sz_26 : Try.prog.cellsOf 26 = 1 := by kernel_rfl
@[go_sem ↓] theorem ag_26 : isAggU (Try.prog.underlying 26) = some false := by kernel_rfl
@[go_sem ↓] theorem zr_26 : zrOf Try.prog 26 = some [.nilFunc] := by kernel_rfl
@[go_sem ↓] theorem sz_27 : Try.prog.cellsOf 27 = 1 := by kernel_rfl
@[go_sem ↓] theorem ag_27 : isAggU (Try.prog.underlying 27) = some false := by kernel_rfl
@[go_sem ↓] theorem zr_27 : zrOf Try.prog 27 = some [.nilFunc] := by kernel_rfl
@[go_sem ↓] theorem sz_28 : Try.prog.cellsOf 28 = 1 := by kernel_rfl
@[go_sem ↓] theorem ag_28 : isAggU (Try.prog.underlying 28) = some false := by kernel_rfl
@[go_sem ↓] theorem zr_28 : zrOf Try.prog 28 = some [(.int .i64 0)] := by kernel_rfl
@[go_sem ↓] theorem sz_30 : Try.prog.cellsOf 30 = 1 := by kernel_rfl
@[go_sem ↓] theorem ag_30 : isAggU (Try.prog.underlying 30) = some false := by kernel_rfl
@[go_sem ↓] theorem zr_30 : zrOf Try.prog 30 = some [.nilFunc] := by kernel_rfl
@[go_sem ↓] theorem sz_31 : Try.prog.cellsOf 31 = 1 := by kernel_rfl
@[go_sem ↓] theorem ag_31 : isAggU (Try.prog.underlying 31) = some false := by kernel_rfl
@[go_sem ↓] theorem zr_31 : zrOf Try.prog 31 = some [.nilFunc] := by kernel_rfl
@[go_sem ↓] theorem sz_33 : Try.prog.cellsOf 33 = 1 := by kernel_rfl
@[go_sem ↓] theorem ag_33 : isAggU (Try.prog.underlying 33) = some false := by kernel_rfl
@[go_sem ↓] theorem zr_33 : zrOf Try.prog 33 = some [.nilFunc] := by kernel_rfl
@[go_sem ↓] theorem sz_35 : Try.prog.cellsOf 35 = 1 := by kernel_rfl
@[go_sem ↓] theorem ag_35 : isAggU (Try.prog.underlying 35) = some false := by kernel_rfl
@[go_sem ↓] theorem zr_35 : zrOf Try.prog 35 = some [.nilFunc] := by kernel_rfl
@[go_sem ↓] theorem sz_36 : Try.prog.cellsOf 36 = 1 := by kernel_rfl
@[go_sem ↓] theorem ag_36 : isAggU (Try.prog.underlying 36) = some false := by kernel_rfl
@[go_sem ↓] theorem zr_36 : zrOf Try.prog 36 = some [.nilFunc] := by kernel_rfl
@[go_sem ↓] theorem sz_37 : Try.prog.cellsOf 37 = 1 := by kernel_rfl
@[go_sem ↓] theorem ag_37 : isAggU (Try.prog.underlying 37) = some false := by kernel_rfl
@[go_sem ↓] theorem zr_37 : zrOf Try.prog 37 = some [.nilFunc] := by kernel_rfl
@[go_sem ↓] theorem sz_38 : Try.prog.cellsOf 38 = 1 := by kernel_rfl
@[go_sem ↓] theorem ag_38 : isAggU (Try.prog.underlying 38) = some false := by kernel_rfl
@[go_sem ↓] theorem zr_38 : zrOf Try.prog 38 = some [.nilFunc] := by kernel_rfl
@[go_sem ↓] theorem sz_39 : Try.prog.cellsOf 39 = 1 := by kernel_rfl
@[go_sem ↓] theorem ag_39 : isAggU (Try.prog.underlying 39) = some false := by kernel_rfl
@[go_sem ↓] theorem zr_39 : zrOf Try.prog 39 = some [.nilFunc] := by kernel_rfl
@[go_sem ↓] theorem sz_40 : Try.prog.cellsOf 40 = 4 := by kernel_rfl
@[go_sem ↓] theorem ag_40 : isAggU (Try.prog.underlying 40) = some true := by kernel_rfl
@[go_sem ↓] theorem es_40 : elSz Try.prog 40 = 1 := by kernel_rfl
@[go_sem ↓] theorem zr_40 : zrOf Try.prog 40 = some [(.int .u8 0), (.int .u8 0), (.int .u8 0), (.int .u8 0)] := by kernel_rfl
@[go_sem ↓] theorem fl_40 : plOf1 Try.prog 40 = true := by kernel_rfl
@[go_sem ↓] theorem pl_40_0 : plOf Try.prog 40 0 = some (0, 1) := by kernel_rfl
@[go_sem ↓] theorem pl_40_1 : plOf Try.prog 40 1 = some (1, 1) := by kernel_rfl
@[go_sem ↓] theorem pl_40_2 : plOf Try.prog 40 2 = some (2, 1) := by kernel_rfl
@[go_sem ↓] theorem pl_40_3 : plOf Try.prog 40 3 = some (3, 1) := by kernel_rfl
@[go_sem ↓] theorem sz_41 : Try.prog.cellsOf 41 = 4 := by kernel_rfl
@[go_sem ↓] theorem ag_41 : isAggU (Try.prog.underlying 41) = some true := by kernel_rfl
@[go_sem ↓] theorem es_41 : elSz Try.prog 41 = 1 := by kernel_rfl
@[go_sem ↓] theorem zr_41 : zrOf Try.prog 41 = some [(.int .u8 0), (.int .u8 0), (.int .u8 0), (.int .u8 0)] := by kernel_rfl
@[go_sem ↓] theorem fl_41 : plOf1 Try.prog 41 = true := by kernel_rfl
@[go_sem ↓] theorem pl_41_0 : plOf Try.prog 41 0 = some (0, 1) := by kernel_rfl
@[go_sem ↓] theorem pl_41_1 : plOf Try.prog 41 1 = some (1, 1) := by kernel_rfl
@[go_sem ↓] theorem pl_41_2 : plOf Try.prog 41 2 = some (2, 1) := by kernel_rfl
@[go_sem ↓] theorem pl_41_3 : plOf Try.prog 41 3 = some (3, 1) := by kernel_rfl
@[go_sem ↓] theorem sz_42 : Try.prog.cellsOf 42 = 10 := by kernel_rfl
@[go_sem ↓] theorem ag_42 : isAggU (Try.prog.underlying 42) = some true := by kernel_rfl
@[go_sem ↓] theorem zr_42 : zrOf Try.prog 42 = some [(.int .i64 0), (.int .i64 0), (.int .i64 0), (.int .i64 0), (.int .i64 0), (.int .u8 0), (.int .u8 0), (.int .u8 0), (.int .u8 0), (.int .i64 0)] := by kernel_rfl
@[go_sem ↓] theorem fo_42_0 : foOf Try.prog 42 0 = some 0 := by kernel_rfl
@[go_sem ↓] theorem pl_42_0 : plOf Try.prog 42 0 = some (0, 1) := by kernel_rfl
@[go_sem ↓] theorem fo_42_1 : foOf Try.prog 42 1 = some 1 := by kernel_rfl
@[go_sem ↓] theorem pl_42_1 : plOf Try.prog 42 1 = some (1, 1) := by kernel_rfl
@[go_sem ↓] theorem fo_42_2 : foOf Try.prog 42 2 = some 2 := by kernel_rfl
@[go_sem ↓] theorem pl_42_2 : plOf Try.prog 42 2 = some (2, 1) := by kernel_rfl
@[go_sem ↓] theorem fo_42_3 : foOf Try.prog 42 3 = some 3 := by kernel_rfl
@[go_sem ↓] theorem pl_42_3 : plOf Try.prog 42 3 = some (3, 1) := by kernel_rfl
@[go_sem ↓] theorem fo_42_4 : foOf Try.prog 42 4 = some 4 := by kernel_rfl
@[go_sem ↓] theorem pl_42_4 : plOf Try.prog 42 4 = some (4, 1) := by kernel_rfl
@[go_sem ↓] theorem fo_42_5 : foOf Try.prog 42 5 = some 5 := by kernel_rfl
@[go_sem ↓] theorem pl_42_5 : plOf Try.prog 42 5 = some (5, 4) := by kernel_rfl
@[go_sem ↓] theorem fo_42_6 : foOf Try.prog 42 6 = some 9 := by kernel_rfl
@[go_sem ↓] theorem pl_42_6 : plOf Try.prog 42 6 = some (9, 1) := by kernel_rfl
@[go_sem ↓] theorem fl_42 : plOf1 Try.prog 42 = true := by kernel_rfl
@[go_sem ↓] theorem sz_43 : Try.prog.cellsOf 43 = 10 := by kernel_rfl
@[go_sem ↓] theorem ag_43 : isAggU (Try.prog.underlying 43) = some true := by kernel_rfl
@[go_sem ↓] theorem zr_43 : zrOf Try.prog 43 = some [(.int .i64 0), (.int .i64 0), (.int .i64 0), (.int .i64 0), (.int .i64 0), (.int .u8 0), (.int .u8 0), (.int .u8 0), (.int .u8 0), (.int .i64 0)] := by kernel_rfl
@[go_sem ↓] theorem fo_43_0 : foOf Try.prog 43 0 = some 0 := by kernel_rfl
@[go_sem ↓] theorem pl_43_0 : plOf Try.prog 43 0 = some (0, 1) := by kernel_rfl
@[go_sem ↓] theorem fo_43_1 : foOf Try.prog 43 1 = some 1 := by kernel_rfl
@[go_sem ↓] theorem pl_43_1 : plOf Try.prog 43 1 = some (1, 1) := by kernel_rfl
@[go_sem ↓] theorem fo_43_2 : foOf Try.prog 43 2 = some 2 := by kernel_rfl
@[go_sem ↓] theorem pl_43_2 : plOf Try.prog 43 2 = some (2, 1) := by kernel_rfl
@[go_sem ↓] theorem fo_43_3 : foOf Try.prog 43 3 = some 3 := by kernel_rfl
@[go_sem ↓] theorem pl_43_3 : plOf Try.prog 43 3 = some (3, 1) := by kernel_rfl
@[go_sem ↓] theorem fo_43_4 : foOf Try.prog 43 4 = some 4 := by kernel_rfl
@[go_sem ↓] theorem pl_43_4 : plOf Try.prog 43 4 = some (4, 1) := by kernel_rfl
@[go_sem ↓] theorem fo_43_5 : foOf Try.prog 43 5 = some 5 := by kernel_rfl
@[go_sem ↓] theorem pl_43_5 : plOf Try.prog 43 5 = some (5, 4) := by kernel_rfl
@[go_sem ↓] theorem fo_43_6 : foOf Try.prog 43 6 = some 9 := by kernel_rfl
@[go_sem ↓] theorem pl_43_6 : plOf Try.prog 43 6 = some (9, 1) := by kernel_rfl
@[go_sem ↓] theorem fl_43 : plOf1 Try.prog 43 = true := by kernel_rfl
@[go_sem ↓] theorem sz_44 : Try.prog.cellsOf 44 = 1 := by kernel_rfl
@[go_sem ↓] theorem ag_44 : isAggU (Try.prog.underlying 44) = some false := by kernel_rfl
@[go_sem ↓] theorem es_44 : elSz Try.prog 44 = 1 := by kernel_rfl
@[go_sem ↓] theorem zr_44 : zrOf Try.prog 44 = some [(.slice none 0 0)] := by kernel_rfl
@[go_sem ↓] theorem sz_46 : Try.prog.cellsOf 46 = 1 := by kernel_rfl
@[go_sem ↓] theorem ag_46 : isAggU (Try.prog.underlying 46) = some false := by kernel_rfl
@[go_sem ↓] theorem zr_46 : zrOf Try.prog 46 = some [.nilFunc] := by kernel_rfl
@[go_sem ↓] theorem sz_48 : Try.prog.cellsOf 48 = 1 := by kernel_rfl
@[go_sem ↓] theorem ag_48 : isAggU (Try.prog.underlying 48) = some false := by kernel_rfl
@[go_sem ↓] theorem zr_48 : zrOf Try.prog 48 = some [.nilFunc] := by kernel_rfl
@[go_sem ↓] theorem sz_50 : Try.prog.cellsOf 50 = 1 := by kernel_rfl
@[go_sem ↓] theorem ag_50 : isAggU (Try.prog.underlying 50) = some false := by kernel_rfl
@[go_sem ↓] theorem zr_50 : zrOf Try.prog 50 = some [.nilFunc] := by kernel_rfl
@[go_sem ↓] theorem sz_52 : Try.prog.cellsOf 52 = 1 := by kernel_rfl
@[go_sem ↓] theorem ag_52 : isAggU (Try.prog.underlying 52) = some false := by kernel_rfl
@[go_sem ↓] theorem zr_52 : zrOf Try.prog 52 = some [.nilFunc] := by kernel_rfl
@[go_sem ↓] theorem sz_53 : Try.prog.cellsOf 53 = 1 := by kernel_rfl
@[go_sem ↓] theorem ag_53 : isAggU (Try.prog.underlying 53) = some false := by kernel_rfl
@[go_sem ↓] theorem zr_53 : zrOf Try.prog 53 = some [.nilFunc] := by kernel_rfl
@[go_sem ↓] theorem sz_54 : Try.prog.cellsOf 54 = 1 := by kernel_rfl
@[go_sem ↓] theorem ag_54 : isAggU (Try.prog.underlying 54) = some false := by kernel_rfl
@[go_sem ↓] theorem zr_54 : zrOf Try.prog 54 = some [.nilFunc] := by kernel_rfl
@[go_sem ↓] theorem sz_55 : Try.prog.cellsOf 55 = 6 := by kernel_rfl
@[go_sem ↓] theorem ag_55 : isAggU (Try.prog.underlying 55) = some true := by kernel_rfl
@[go_sem ↓] theorem zr_55 : zrOf Try.prog 55 = some [(.int .i64 0), (.int .i64 0), (.int .u8 0), (.int .u8 0), (.int .u8 0), (.int .u8 0)] := by kernel_rfl
@[go_sem ↓] theorem fo_55_0 : foOf Try.prog 55 0 = some 0 := by kernel_rfl
@[go_sem ↓] theorem pl_55_0 : plOf Try.prog 55 0 = some (0, 1) := by kernel_rfl
@[go_sem ↓] theorem fo_55_1 : foOf Try.prog 55 1 = some 1 := by kernel_rfl
@[go_sem ↓] theorem pl_55_1 : plOf Try.prog 55 1 = some (1, 1) := by kernel_rfl
@[go_sem ↓] theorem fo_55_2 : foOf Try.prog 55 2 = some 2 := by kernel_rfl
@[go_sem ↓] theorem pl_55_2 : plOf Try.prog 55 2 = some (2, 4) := by kernel_rfl
@[go_sem ↓] theorem fl_55 : plOf1 Try.prog 55 = true := by kernel_rfl
@[go_sem ↓] theorem sz_56 : Try.prog.cellsOf 56 = 6 := by kernel_rfl
@[go_sem ↓] theorem ag_56 : isAggU (Try.prog.underlying 56) = some true := by kernel_rfl
@[go_sem ↓] theorem zr_56 : zrOf Try.prog 56 = some [(.int .i64 0), (.int .i64 0), (.int .u8 0), (.int .u8 0), (.int .u8 0), (.int .u8 0)] := by kernel_rfl
@[go_sem ↓] theorem fo_56_0 : foOf Try.prog 56 0 = some 0 := by kernel_rfl
@[go_sem ↓] theorem pl_56_0 : plOf Try.prog 56 0 = some (0, 1) := by kernel_rfl
@[go_sem ↓] theorem fo_56_1 : foOf Try.prog 56 1 = some 1 := by kernel_rfl
@[go_sem ↓] theorem pl_56_1 : plOf Try.prog 56 1 = some (1, 1) := by kernel_rfl
@[go_sem ↓] theorem fo_56_2 : foOf Try.prog 56 2 = some 2 := by kernel_rfl
@[go_sem ↓] theorem pl_56_2 : plOf Try.prog 56 2 = some (2, 4) := by kernel_rfl
@[go_sem ↓] theorem fl_56 : plOf1 Try.prog 56 = true := by kernel_rfl
@[go_sem ↓] theorem sz_57 : Try.prog.cellsOf 57 = 1 := by kernel_rfl
@[go_sem ↓] theorem ag_57 : isAggU (Try.prog.underlying 57) = some false := by kernel_rfl
@[go_sem ↓] theorem zr_57 : zrOf Try.prog 57 = some [.nilFunc] := by kernel_rfl
@[go_sem ↓] theorem sz_58 : Try.prog.cellsOf 58 = 1 := by kernel_rfl
@[go_sem ↓] theorem ag_58 : isAggU (Try.prog.underlying 58) = some false := by kernel_rfl
@[go_sem ↓] theorem zr_58 : zrOf Try.prog 58 = some [.nilFunc] := by kernel_rfl
@[go_sem ↓] theorem sz_60 : Try.prog.cellsOf 60 = 1 := by kernel_rfl
@[go_sem ↓] theorem ag_60 : isAggU (Try.prog.underlying 60) = some false := by kernel_rfl
@[go_sem ↓] theorem zr_60 : zrOf Try.prog 60 = some [.nilFunc] := by kernel_rfl
@[go_sem ↓] theorem sz_62 : Try.prog.cellsOf 62 = 1 := by kernel_rfl
@[go_sem ↓] theorem ag_62 : isAggU (Try.prog.underlying 62) = some false := by kernel_rfl
@[go_sem ↓] theorem zr_62 : zrOf Try.prog 62 = some [.nilFunc] := by kernel_rfl
@[go_sem ↓] theorem sz_63 : Try.prog.cellsOf 63 = 1 := by kernel_rfl
@[go_sem ↓] theorem ag_63 : isAggU (Try.prog.underlying 63) = some false := by kernel_rfl
@[go_sem ↓] theorem zr_63 : zrOf Try.prog 63 = some [.nilFunc] := by kernel_rfl
@[go_sem ↓] theorem sz_64 : Try.prog.cellsOf 64 = 1 := by kernel_rfl
@[go_sem ↓] theorem ag_64 : isAggU (Try.prog.underlying 64) = some false := by kernel_rfl
@[go_sem ↓] theorem zr_64 : zrOf Try.prog 64 = some [.nilFunc] := by kernel_rfl
@[go_sem ↓] theorem sz_65 : Try.prog.cellsOf 65 = 2 := by kernel_rfl
@[go_sem ↓] theorem ag_65 : isAggU (Try.prog.underlying 65) = some true := by kernel_rfl
@[go_sem ↓] theorem zr_65 : zrOf Try.prog 65 = some [(.int .u64 0), (.int .i64 0)] := by kernel_rfl
@[go_sem ↓] theorem fo_65_0 : foOf Try.prog 65 0 = some 0 := by kernel_rfl
@[go_sem ↓] theorem pl_65_0 : plOf Try.prog 65 0 = some (0, 1) := by kernel_rfl
@[go_sem ↓] theorem fo_65_1 : foOf Try.prog 65 1 = some 1 := by kernel_rfl
@[go_sem ↓] theorem pl_65_1 : plOf Try.prog 65 1 = some (1, 1) := by kernel_rfl
@[go_sem ↓] theorem fl_65 : plOf1 Try.prog 65 = true := by kernel_rfl
@[go_sem ↓] theorem sz_66 : Try.prog.cellsOf 66 = 2 := by kernel_rfl
@[go_sem ↓] theorem ag_66 : isAggU (Try.prog.underlying 66) = some true := by kernel_rfl
@[go_sem ↓] theorem zr_66 : zrOf Try.prog 66 = some [(.int .u64 0), (.int .i64 0)] := by kernel_rfl
@[go_sem ↓] theorem fo_66_0 : foOf Try.prog 66 0 = some 0 := by kernel_rfl
@[go_sem ↓] theorem pl_66_0 : plOf Try.prog 66 0 = some (0, 1) := by kernel_rfl
@[go_sem ↓] theorem fo_66_1 : foOf Try.prog 66 1 = some 1 := by kernel_rfl
@[go_sem ↓] theorem pl_66_1 : plOf Try.prog 66 1 = some (1, 1) := by kernel_rfl
@[go_sem ↓] theorem fl_66 : plOf1 Try.prog 66 = true := by kernel_rfl
@[go_sem ↓] theorem sz_67 : Try.prog.cellsOf 67 = 1 := by kernel_rfl
@[go_sem ↓] theorem ag_67 : isAggU (Try.prog.underlying 67) = some false := by kernel_rfl
@[go_sem ↓] theorem zr_67 : zrOf Try.prog 67 = some [.nilFunc] := by kernel_rfl
@[go_sem ↓] theorem sz_68 : Try.prog.cellsOf 68 = 1 := by kernel_rfl
@[go_sem ↓] theorem ag_68 : isAggU (Try.prog.underlying 68) = some false := by kernel_rfl
@[go_sem ↓] theorem es_68 : elSz Try.prog 68 = 1 := by kernel_rfl
@[go_sem ↓] theorem zr_68 : zrOf Try.prog 68 = some [(.slice none 0 0)] := by kernel_rfl
@[go_sem ↓] theorem sz_70 : Try.prog.cellsOf 70 = 1 := by kernel_rfl
@[go_sem ↓] theorem ag_70 : isAggU (Try.prog.underlying 70) = some false := by kernel_rfl
@[go_sem ↓] theorem zr_70 : zrOf Try.prog 70 = some [.nilFunc] := by kernel_rfl
@[go_sem ↓] theorem sz_71 : Try.prog.cellsOf 71 = 1 := by kernel_rfl
@[go_sem ↓] theorem ag_71 : isAggU (Try.prog.underlying 71) = some false := by kernel_rfl
@[go_sem ↓] theorem zr_71 : zrOf Try.prog 71 = some [.nilFunc] := by kernel_rfl
@[go_sem ↓] theorem sz_73 : Try.prog.cellsOf 73 = 1 := by kernel_rfl
@[go_sem ↓] theorem ag_73 : isAggU (Try.prog.underlying 73) = some false := by kernel_rfl
@[go_sem ↓] theorem zr_73 : zrOf Try.prog 73 = some [.nilFunc] := by kernel_rfl
@[go_sem ↓] theorem sz_74 : Try.prog.cellsOf 74 = 5 := by kernel_rfl
@[go_sem ↓] theorem ag_74 : isAggU (Try.prog.underlying 74) = some true := by kernel_rfl
@[go_sem ↓] theorem zr_74 : zrOf Try.prog 74 = some [(.int .i64 0), (.int .i64 0), (.int .i64 0), (.int .i64 0), (.int .i64 0)] := by kernel_rfl
@[go_sem ↓] theorem fo_74_0 : foOf Try.prog 74 0 = some 0 := by kernel_rfl
@[go_sem ↓] theorem pl_74_0 : plOf Try.prog 74 0 = some (0, 1) := by kernel_rfl
@[go_sem ↓] theorem fo_74_1 : foOf Try.prog 74 1 = some 1 := by kernel_rfl
@[go_sem ↓] theorem pl_74_1 : plOf Try.prog 74 1 = some (1, 1) := by kernel_rfl
@[go_sem ↓] theorem fo_74_2 : foOf Try.prog 74 2 = some 2 := by kernel_rfl
@[go_sem ↓] theorem pl_74_2 : plOf Try.prog 74 2 = some (2, 1) := by kernel_rfl
@[go_sem ↓] theorem fo_74_3 : foOf Try.prog 74 3 = some 3 := by kernel_rfl
@[go_sem ↓] theorem pl_74_3 : plOf Try.prog 74 3 = some (3, 1) := by kernel_rfl
@[go_sem ↓] theorem fo_74_4 : foOf Try.prog 74 4 = some 4 := by kernel_rfl
@[go_sem ↓] theorem pl_74_4 : plOf Try.prog 74 4 = some (4, 1) := by kernel_rfl
@[go_sem ↓] theorem fl_74 : plOf1 Try.prog 74 = true := by kernel_rfl
@[go_sem ↓] theorem sz_75 : Try.prog.cellsOf 75 = 5 := by kernel_rfl
@[go_sem ↓] theorem ag_75 : isAggU (Try.prog.underlying 75) = some true := by kernel_rfl
@[go_sem ↓] theorem zr_75 : zrOf Try.prog 75 = some [(.int .i64 0), (.int .i64 0), (.int .i64 0), (.int .i64 0), (.int .i64 0)] := by kernel_rfl
@[go_sem ↓] theorem fo_75_0 : foOf Try.prog 75 0 = some 0 := by kernel_rfl
@[go_sem ↓] theorem pl_75_0 : plOf Try.prog 75 0 = some (0, 1) := by kernel_rfl
@[go_sem ↓] theorem fo_75_1 : foOf Try.prog 75 1 = some 1 := by kernel_rfl
@[go_sem ↓] theorem pl_75_1 : plOf Try.prog 75 1 = some (1, 1) := by kernel_rfl
@[go_sem ↓] theorem fo_75_2 : foOf Try.prog 75 2 = some 2 := by kernel_rfl
@[go_sem ↓] theorem pl_75_2 : plOf Try.prog 75 2 = some (2, 1) := by kernel_rfl
@[go_sem ↓] theorem fo_75_3 : foOf Try.prog 75 3 = some 3 := by kernel_rfl
@[go_sem ↓] theorem pl_75_3 : plOf Try.prog 75 3 = some (3, 1) := by kernel_rfl
@[go_sem ↓] theorem fo_75_4 : foOf Try.prog 75 4 = some 4 := by kernel_rfl
@[go_sem ↓] theorem pl_75_4 : plOf Try.prog 75 4 = some (4, 1) := by kernel_rfl
@[go_sem ↓] theorem fl_75 : plOf1 Try.prog 75 = true := by kernel_rfl
@[go_sem ↓] theorem sz_77 : Try.prog.cellsOf 77 = 1 := by kernel_rfl
@[go_sem ↓] theorem ag_77 : isAggU (Try.prog.underlying 77) = some false := by kernel_rfl
@[go_sem ↓] theorem zr_77 : zrOf Try.prog 77 = some [.nilFunc] := by kernel_rfl
@[go_sem ↓] theorem sz_78 : Try.prog.cellsOf 78 = 1 := by kernel_rfl
@[go_sem ↓] theorem ag_78 : isAggU (Try.prog.underlying 78) = some false := by kernel_rfl
@[go_sem ↓] theorem zr_78 : zrOf Try.prog 78 = some [.nilFunc] := by kernel_rfl
@[go_sem ↓] theorem sz_79 : Try.prog.cellsOf 79 = 1 := by kernel_rfl
@[go_sem ↓] theorem ag_79 : isAggU (Try.prog.underlying 79) = some false := by kernel_rfl
@[go_sem ↓] theorem es_79 : elSz Try.prog 79 = 5 := by kernel_rfl
@[go_sem ↓] theorem zr_79 : zrOf Try.prog 79 = some [(.slice none 0 0)] := by kernel_rfl
@[go_sem ↓] theorem sz_80 : Try.prog.cellsOf 80 = 1 := by kernel_rfl
@[go_sem ↓] theorem ag_80 : isAggU (Try.prog.underlying 80) = some false := by kernel_rfl
@[go_sem ↓] theorem zr_80 : zrOf Try.prog 80 = some [.nilFunc] := by kernel_rfl
@[go_sem ↓] theorem sz_81 : Try.prog.cellsOf 81 = 1 := by kernel_rfl
@[go_sem ↓] theorem ag_81 : isAggU (Try.prog.underlying 81) = some false := by kernel_rfl
@[go_sem ↓] theorem es_81 : elSz Try.prog 81 = 2 := by kernel_rfl
@[go_sem ↓] theorem zr_81 : zrOf Try.prog 81 = some [(.slice none 0 0)] := by kernel_rfl
@[go_sem ↓] theorem sz_82 : Try.prog.cellsOf 82 = 1 := by kernel_rfl
@[go_sem ↓] theorem ag_82 : isAggU (Try.prog.underlying 82) = some false := by kernel_rfl
@[go_sem ↓] theorem zr_82 : zrOf Try.prog 82 = some [.nilFunc] := by kernel_rfl
@[go_sem ↓] theorem sz_83 : Try.prog.cellsOf 83 = 1 := by kernel_rfl
@[go_sem ↓] theorem ag_83 : isAggU (Try.prog.underlying 83) = some false := by kernel_rfl
@[go_sem ↓] theorem zr_83 : zrOf Try.prog 83 = some [.nilFunc] := by kernel_rfl
@[go_sem ↓] theorem sz_84 : Try.prog.cellsOf 84 = 1 := by kernel_rfl
@[go_sem ↓] theorem ag_84 : isAggU (Try.prog.underlying 84) = some false := by kernel_rfl
@[go_sem ↓] theorem zr_84 : zrOf Try.prog 84 = some [.nilFunc] := by kernel_rfl
@[go_sem ↓] theorem sz_86 : Try.prog.cellsOf 86 = 1 := by kernel_rfl
@[go_sem ↓] theorem ag_86 : isAggU (Try.prog.underlying 86) = some false := by kernel_rfl
@[go_sem ↓] theorem zr_86 : zrOf Try.prog 86 = some [.nilFunc] := by kernel_rfl
@[go_sem ↓] theorem sz_87 : Try.prog.cellsOf 87 = 1 := by kernel_rfl
@[go_sem ↓] theorem ag_87 : isAggU (Try.prog.underlying 87) = some false := by kernel_rfl
@[go_sem ↓] theorem zr_87 : zrOf Try.prog 87 = some [.nilFunc] := by kernel_rfl
@[go_sem ↓] theorem sz_88 : Try.prog.cellsOf 88 = 1 := by kernel_rfl
@[go_sem ↓] theorem ag_88 : isAggU (Try.prog.underlying 88) = some false := by kernel_rfl
@[go_sem ↓] theorem zr_88 : zrOf Try.prog 88 = some [.nilFunc] := by kernel_rfl
@[go_sem ↓] theorem sz_89 : Try.prog.cellsOf 89 = 1 := by kernel_rfl
@[go_sem ↓] theorem ag_89 : isAggU (Try.prog.underlying 89) = some false := by kernel_rfl
@[go_sem ↓] theorem zr_89 : zrOf Try.prog 89 = some [.nilFunc] := by kernel_rfl
@[go_sem ↓] theorem sz_90 : Try.prog.cellsOf 90 = 2 := by kernel_rfl
@[go_sem ↓] theorem ag_90 : isAggU (Try.prog.underlying 90) = some true := by kernel_rfl
@[go_sem ↓] theorem zr_90 : zrOf Try.prog 90 = some [(.int .i64 0), (.int .i64 0)] := by kernel_rfl
@[go_sem ↓] theorem fo_90_0 : foOf Try.prog 90 0 = some 0 := by kernel_rfl
@[go_sem ↓] theorem pl_90_0 : plOf Try.prog 90 0 = some (0, 1) := by kernel_rfl
@[go_sem ↓] theorem fo_90_1 : foOf Try.prog 90 1 = some 1 := by kernel_rfl
@[go_sem ↓] theorem pl_90_1 : plOf Try.prog 90 1 = some (1, 1) := by kernel_rfl
@[go_sem ↓] theorem fl_90 : plOf1 Try.prog 90 = true := by kernel_rfl
@[go_sem ↓] theorem sz_91 : Try.prog.cellsOf 91 = 2 := by kernel_rfl
@[go_sem ↓] theorem ag_91 : isAggU (Try.prog.underlying 91) = some true := by kernel_rfl
@[go_sem ↓] theorem zr_91 : zrOf Try.prog 91 = some [(.int .i64 0), (.int .i64 0)] := by kernel_rfl
@[go_sem ↓] theorem fo_91_0 : foOf Try.prog 91 0 = some 0 := by kernel_rfl
@[go_sem ↓] theorem pl_91_0 : plOf Try.prog 91 0 = some (0, 1) := by kernel_rfl
@[go_sem ↓] theorem fo_91_1 : foOf Try.prog 91 1 = some 1 := by kernel_rfl
@[go_sem ↓] theorem pl_91_1 : plOf Try.prog 91 1 = some (1, 1) := by kernel_rfl
@[go_sem ↓] theorem fl_91 : plOf1 Try.prog 91 = true := by kernel_rfl
@[go_sem ↓] theorem sz_92 : Try.prog.cellsOf 92 = 1 := by kernel_rfl
@[go_sem ↓] theorem ag_92 : isAggU (Try.prog.underlying 92) = some false := by kernel_rfl
@[go_sem ↓] theorem zr_92 : zrOf Try.prog 92 = some [.nilFunc] := by kernel_rfl
@[go_sem ↓] theorem sz_93 : Try.prog.cellsOf 93 = 1 := by kernel_rfl
@[go_sem ↓] theorem ag_93 : isAggU (Try.prog.underlying 93) = some false := by kernel_rfl
@[go_sem ↓] theorem es_93 : elSz Try.prog 93 = 2 := by kernel_rfl
@[go_sem ↓] theorem zr_93 : zrOf Try.prog 93 = some [(.slice none 0 0)] := by kernel_rfl
@[go_sem ↓] theorem sz_94 : Try.prog.cellsOf 94 = 1 := by kernel_rfl
@[go_sem ↓] theorem ag_94 : isAggU (Try.prog.underlying 94) = some false := by kernel_rfl
@[go_sem ↓] theorem zr_94 : zrOf Try.prog 94 = some [(.int .u32 0)] := by kernel_rfl
@[go_sem ↓] theorem sz_95 : Try.prog.cellsOf 95 = 11 := by kernel_rfl
@[go_sem ↓] theorem ag_95 : isAggU (Try.prog.underlying 95) = some true := by kernel_rfl
@[go_sem ↓] theorem es_95 : elSz Try.prog 95 = 1 := by kernel_rfl
@[go_sem ↓] theorem zr_95 : zrOf Try.prog 95 = some [(.bool false), (.bool false), (.bool false), (.bool false), (.bool false), (.bool false), (.bool false), (.bool false), (.bool false), (.bool false), (.bool false)] := by kernel_rfl
@[go_sem ↓] theorem fl_95 : plOf1 Try.prog 95 = true := by kernel_rfl
@[go_sem ↓] theorem pl_95_0 : plOf Try.prog 95 0 = some (0, 1) := by kernel_rfl
@[go_sem ↓] theorem pl_95_1 : plOf Try.prog 95 1 = some (1, 1) := by kernel_rfl
@[go_sem ↓] theorem pl_95_2 : plOf Try.prog 95 2 = some (2, 1) := by kernel_rfl
@[go_sem ↓] theorem pl_95_3 : plOf Try.prog 95 3 = some (3, 1) := by kernel_rfl
@[go_sem ↓] theorem pl_95_4 : plOf Try.prog 95 4 = some (4, 1) := by kernel_rfl
@[go_sem ↓] theorem pl_95_5 : plOf Try.prog 95 5 = some (5, 1) := by kernel_rfl
@[go_sem ↓] theorem pl_95_6 : plOf Try.prog 95 6 = some (6, 1) := by kernel_rfl
@[go_sem ↓] theorem pl_95_7 : plOf Try.prog 95 7 = some (7, 1) := by kernel_rfl
@[go_sem ↓] theorem pl_95_8 : plOf Try.prog 95 8 = some (8, 1) := by kernel_rfl
@[go_sem ↓] theorem pl_95_9 : plOf Try.prog 95 9 = some (9, 1) := by kernel_rfl
@[go_sem ↓] theorem pl_95_10 : plOf Try.prog 95 10 = some (10, 1) := by kernel_rfl
@[go_sem ↓] theorem sz_96 : Try.prog.cellsOf 96 = 11 := by kernel_rfl
@[go_sem ↓] theorem ag_96 : isAggU (Try.prog.underlying 96) = some true := by kernel_rfl
@[go_sem ↓] theorem es_96 : elSz Try.prog 96 = 1 := by kernel_rfl
@[go_sem ↓] theorem zr_96 : zrOf Try.prog 96 = some [(.bool false), (.bool false), (.bool false), (.bool false), (.bool false), (.bool false), (.bool false), (.bool false), (.bool false), (.bool false), (.bool false)] := by kernel_rfl
@[go_sem ↓] theorem fl_96 : plOf1 Try.prog 96 = true := by kernel_rfl
@[go_sem ↓] theorem pl_96_0 : plOf Try.prog 96 0 = some (0, 1) := by kernel_rfl
@[go_sem ↓] theorem pl_96_1 : plOf Try.prog 96 1 = some (1, 1) := by kernel_rfl
@[go_sem ↓] theorem pl_96_2 : plOf Try.prog 96 2 = some (2, 1) := by kernel_rfl
@[go_sem ↓] theorem pl_96_3 : plOf Try.prog 96 3 = some (3, 1) := by kernel_rfl
@[go_sem ↓] theorem pl_96_4 : plOf Try.prog 96 4 = some (4, 1) := by kernel_rfl
@[go_sem ↓] theorem pl_96_5 : plOf Try.prog 96 5 = some (5, 1) := by kernel_rfl
@[go_sem ↓] theorem pl_96_6 : plOf Try.prog 96 6 = some (6, 1) := by kernel_rfl
@[go_sem ↓] theorem pl_96_7 : plOf Try.prog 96 7 = some (7, 1) := by kernel_rfl
@[go_sem ↓] theorem pl_96_8 : plOf Try.prog 96 8 = some (8, 1) := by kernel_rfl
@[go_sem ↓] theorem pl_96_9 : plOf Try.prog 96 9 = some (9, 1) := by kernel_rfl
@[go_sem ↓] theorem pl_96_10 : plOf Try.prog 96 10 = some (10, 1) := by kernel_rfl
@[go_sem ↓] theorem sz_97 : Try.prog.cellsOf 97 = 1 := by kernel_rfl
@[go_sem ↓] theorem ag_97 : isAggU (Try.prog.underlying 97) = some false := by kernel_rfl
@[go_sem ↓] theorem zr_97 : zrOf Try.prog 97 = some [(.int .u16 0)] := by kernel_rfl
@[go_sem ↓] theorem sz_98 : Try.prog.cellsOf 98 = 1 := by kernel_rfl
@[go_sem ↓] theorem ag_98 : isAggU (Try.prog.underlying 98) = some false := by kernel_rfl
@[go_sem ↓] theorem zr_98 : zrOf Try.prog 98 = some [.nilFunc] := by kernel_rfl
@[go_sem ↓] theorem sz_99 : Try.prog.cellsOf 99 = 1 := by kernel_rfl
@[go_sem ↓] theorem ag_99 : isAggU (Try.prog.underlying 99) = some false := by kernel_rfl
@[go_sem ↓] theorem zr_99 : zrOf Try.prog 99 = some [.nilFunc] := by kernel_rfl
@[go_sem ↓] theorem sz_100 : Try.prog.cellsOf 100 = 1 := by kernel_rfl
@[go_sem ↓] theorem ag_100 : isAggU (Try.prog.underlying 100) = some false := by kernel_rfl
@[go_sem ↓] theorem zr_100 : zrOf Try.prog 100 = some [.nilFunc] := by kernel_rfl
@[go_sem ↓] theorem sz_101 : Try.prog.cellsOf 101 = 1 := by kernel_rfl
@[go_sem ↓] theorem ag_101 : isAggU (Try.prog.underlying 101) = some false := by kernel_rfl
@[go_sem ↓] theorem zr_101 : zrOf Try.prog 101 = some [.nilFunc] := by kernel_rfl
@[go_sem ↓] theorem sz_102 : Try.prog.cellsOf 102 = 1 := by kernel_rfl
@[go_sem ↓] theorem ag_102 : isAggU (Try.prog.underlying 102) = some false := by kernel_rfl
@[go_sem ↓] theorem zr_102 : zrOf Try.prog 102 = some [.nilFunc] := by kernel_rfl
@[go_sem ↓] theorem sz_103 : Try.prog.cellsOf 103 = 1 := by kernel_rfl
@[go_sem ↓] theorem ag_103 : isAggU (Try.prog.underlying 103) = some false := by kernel_rfl
@[go_sem ↓] theorem zr_103 : zrOf Try.prog 103 = some [.nilFunc] := by kernel_rfl
@[go_sem ↓] theorem sz_104 : Try.prog.cellsOf 104 = 1 := by kernel_rfl
@[go_sem ↓] theorem ag_104 : isAggU (Try.prog.underlying 104) = some false := by kernel_rfl
@[go_sem ↓] theorem zr_104 : zrOf Try.prog 104 = some [(.pointer none)] := by kernel_rfl
@[go_sem ↓] theorem sz_105 : Try.prog.cellsOf 105 = 3 := by kernel_rfl
@[go_sem ↓] theorem ag_105 : isAggU (Try.prog.underlying 105) = some true := by kernel_rfl
@[go_sem ↓] theorem zr_105 : zrOf Try.prog 105 = some [(.slice none 0 0), (.slice none 0 0), (.int .i64 0)] := by kernel_rfl
@[go_sem ↓] theorem fo_105_0 : foOf Try.prog 105 0 = some 0 := by kernel_rfl
@[go_sem ↓] theorem pl_105_0 : plOf Try.prog 105 0 = some (0, 1) := by kernel_rfl
@[go_sem ↓] theorem fo_105_1 : foOf Try.prog 105 1 = some 1 := by kernel_rfl
@[go_sem ↓] theorem pl_105_1 : plOf Try.prog 105 1 = some (1, 1) := by kernel_rfl
@[go_sem ↓] theorem fo_105_2 : foOf Try.prog 105 2 = some 2 := by kernel_rfl
@[go_sem ↓] theorem pl_105_2 : plOf Try.prog 105 2 = some (2, 1) := by kernel_rfl
@[go_sem ↓] theorem fl_105 : plOf1 Try.prog 105 = true := by kernel_rfl
@[go_sem ↓] theorem sz_106 : Try.prog.cellsOf 106 = 3 := by kernel_rfl
@[go_sem ↓] theorem ag_106 : isAggU (Try.prog.underlying 106) = some true := by kernel_rfl
@[go_sem ↓] theorem zr_106 : zrOf Try.prog 106 = some [(.slice none 0 0), (.slice none 0 0), (.int .i64 0)] := by kernel_rfl
@[go_sem ↓] theorem fo_106_0 : foOf Try.prog 106 0 = some 0 := by kernel_rfl
@[go_sem ↓] theorem pl_106_0 : plOf Try.prog 106 0 = some (0, 1) := by kernel_rfl
@[go_sem ↓] theorem fo_106_1 : foOf Try.prog 106 1 = some 1 := by kernel_rfl
@[go_sem ↓] theorem pl_106_1 : plOf Try.prog 106 1 = some (1, 1) := by kernel_rfl
@[go_sem ↓] theorem fo_106_2 : foOf Try.prog 106 2 = some 2 := by kernel_rfl
@[go_sem ↓] theorem pl_106_2 : plOf Try.prog 106 2 = some (2, 1) := by kernel_rfl
@[go_sem ↓] theorem fl_106 : plOf1 Try.prog 106 = true := by kernel_rfl
@[go_sem ↓] theorem sz_108 : Try.prog.cellsOf 108 = 1 := by kernel_rfl
@[go_sem ↓] theorem ag_108 : isAggU (Try.prog.underlying 108) = some false := by kernel_rfl
@[go_sem ↓] theorem zr_108 : zrOf Try.prog 108 = some [.nilFunc] := by kernel_rfl
@[go_sem ↓] theorem sz_109 : Try.prog.cellsOf 109 = 1 := by kernel_rfl
@[go_sem ↓] theorem ag_109 : isAggU (Try.prog.underlying 109) = some false := by kernel_rfl
@[go_sem ↓] theorem zr_109 : zrOf Try.prog 109 = some [.nilFunc] := by kernel_rfl
@[go_sem ↓] theorem sz_110 : Try.prog.cellsOf 110 = 1 := by kernel_rfl
@[go_sem ↓] theorem ag_110 : isAggU (Try.prog.underlying 110) = some false := by kernel_rfl
@[go_sem ↓] theorem zr_110 : zrOf Try.prog 110 = some [.nilFunc] := by kernel_rfl
@[go_sem ↓] theorem sz_111 : Try.prog.cellsOf 111 = 1 := by kernel_rfl
@[go_sem ↓] theorem ag_111 : isAggU (Try.prog.underlying 111) = some false := by kernel_rfl
@[go_sem ↓] theorem zr_111 : zrOf Try.prog 111 = some [.nilFunc] := by kernel_rfl
@[go_sem ↓] theorem sz_112 : Try.prog.cellsOf 112 = 1 := by kernel_rfl
@[go_sem ↓] theorem ag_112 : isAggU (Try.prog.underlying 112) = some false := by kernel_rfl
@[go_sem ↓] theorem zr_112 : zrOf Try.prog 112 = some [.nilFunc] := by kernel_rfl
@[go_sem ↓] theorem sz_114 : Try.prog.cellsOf 114 = 1 := by kernel_rfl
@[go_sem ↓] theorem ag_114 : isAggU (Try.prog.underlying 114) = some false := by kernel_rfl
@[go_sem ↓] theorem zr_114 : zrOf Try.prog 114 = some [.nilFunc] := by kernel_rfl
@[go_sem ↓] theorem sz_115 : Try.prog.cellsOf 115 = 1 := by kernel_rfl
@[go_sem ↓] theorem ag_115 : isAggU (Try.prog.underlying 115) = some false := by kernel_rfl
@[go_sem ↓] theorem zr_115 : zrOf Try.prog 115 = some [.nilFunc] := by kernel_rfl
@[go_sem ↓] theorem sz_116 : Try.prog.cellsOf 116 = 1 := by kernel_rfl
@[go_sem ↓] theorem ag_116 : isAggU (Try.prog.underlying 116) = some false := by kernel_rfl
@[go_sem ↓] theorem zr_116 : zrOf Try.prog 116 = some [.nilFunc] := by kernel_rfl
@[go_sem ↓] theorem sz_117 : Try.prog.cellsOf 117 = 1 := by kernel_rfl
@[go_sem ↓] theorem ag_117 : isAggU (Try.prog.underlying 117) = some false := by kernel_rfl
@[go_sem ↓] theorem zr_117 : zrOf Try.prog 117 = some [.nilFunc] := by kernel_rfl
@[go_sem ↓] theorem sz_118 : Try.prog.cellsOf 118 = 1 := by kernel_rfl
@[go_sem ↓] theorem ag_118 : isAggU (Try.prog.underlying 118) = some false := by kernel_rfl
@[go_sem ↓] theorem zr_118 : zrOf Try.prog 118 = some [.nilFunc] := by kernel_rfl
@[go_sem ↓] theorem sz_119 : Try.prog.cellsOf 119 = 1 := by kernel_rfl
@[go_sem ↓] theorem ag_119 : isAggU (Try.prog.underlying 119) = some false := by kernel_rfl
@[go_sem ↓] theorem zr_119 : zrOf Try.prog 119 = some [(.int .u64 0)] := by kernel_rfl
@[go_sem ↓] theorem sz_120 : Try.prog.cellsOf 120 = 1 := by kernel_rfl
@[go_sem ↓] theorem ag_120 : isAggU (Try.prog.underlying 120) = some false := by kernel_rfl
@[go_sem ↓] theorem zr_120 : zrOf Try.prog 120 = some [.nilFunc] := by kernel_rfl
@[go_sem ↓] theorem sz_121 : Try.prog.cellsOf 121 = 1 := by kernel_rfl
@[go_sem ↓] theorem ag_121 : isAggU (Try.prog.underlying 121) = some false := by kernel_rfl
@[go_sem ↓] theorem zr_121 : zrOf Try.prog 121 = some [.nilFunc] := by kernel_rfl
@[go_sem ↓] theorem sz_122 : Try.prog.cellsOf 122 = 1 := by kernel_rfl
@[go_sem ↓] theorem ag_122 : isAggU (Try.prog.underlying 122) = some false := by kernel_rfl
@[go_sem ↓] theorem zr_122 : zrOf Try.prog 122 = some [.nilFunc] := by kernel_rfl
@[go_sem ↓] theorem sz_123 : Try.prog.cellsOf 123 = 1 := by kernel_rfl
@[go_sem ↓] theorem ag_123 : isAggU (Try.prog.underlying 123) = some false := by kernel_rfl
@[go_sem ↓] theorem zr_123 : zrOf Try.prog 123 = some [.nilFunc] := by kernel_rfl
@[go_sem ↓] theorem sz_124 : Try.prog.cellsOf 124 = 1 := by kernel_rfl
@[go_sem ↓] theorem ag_124 : isAggU (Try.prog.underlying 124) = some false := by kernel_rfl
@[go_sem ↓] theorem zr_124 : zrOf Try.prog 124 = some [(.map none)] := by kernel_rfl
@[go_sem ↓] theorem sz_125 : Try.prog.cellsOf 125 = 1 := by kernel_rfl
@[go_sem ↓] theorem ag_125 : isAggU (Try.prog.underlying 125) = some false := by kernel_rfl
@[go_sem ↓] theorem zr_125 : zrOf Try.prog 125 = some [(.map none)] := by kernel_rfl
@[go_sem ↓] theorem sz_126 : Try.prog.cellsOf 126 = 1 := by kernel_rfl
@[go_sem ↓] theorem ag_126 : isAggU (Try.prog.underlying 126) = some false := by kernel_rfl
@[go_sem ↓] theorem es_126 : elSz Try.prog 126 = 1 := by kernel_rfl
@[go_sem ↓] theorem zr_126 : zrOf Try.prog 126 = some [(.slice none 0 0)] := by kernel_rfl
@[go_sem ↓] theorem sz_127 : Try.prog.cellsOf 127 = 1 := by kernel_rfl
@[go_sem ↓] theorem ag_127 : isAggU (Try.prog.underlying 127) = some false := by kernel_rfl
@[go_sem ↓] theorem zr_127 : zrOf Try.prog 127 = some [.nilFunc] := by kernel_rfl
@[go_sem ↓] theorem sz_128 : Try.prog.cellsOf 128 = 1 := by kernel_rfl
@[go_sem ↓] theorem ag_128 : isAggU (Try.prog.underlying 128) = some false := by kernel_rfl
@[go_sem ↓] theorem zr_128 : zrOf Try.prog 128 = some [.nilFunc] := by kernel_rfl
@[go_sem ↓] theorem sz_129 : Try.prog.cellsOf 129 = 1 := by kernel_rfl
@[go_sem ↓] theorem ag_129 : isAggU (Try.prog.underlying 129) = some false := by kernel_rfl
@[go_sem ↓] theorem zr_129 : zrOf Try.prog 129 = some [.nilFunc] := by kernel_rfl
@[go_sem ↓] theorem sz_130 : Try.prog.cellsOf 130 = 1 := by kernel_rfl
@[go_sem ↓] theorem ag_130 : isAggU (Try.prog.underlying 130) = some false := by kernel_rfl
@[go_sem ↓] theorem zr_130 : zrOf Try.prog 130 = some [.nilFunc] := by kernel_rfl
@[go_sem ↓] theorem sz_131 : Try.prog.cellsOf 131 = 1 := by kernel_rfl
@[go_sem ↓] theorem ag_131 : isAggU (Try.prog.underlying 131) = some false := by kernel_rfl
@[go_sem ↓] theorem zr_131 : zrOf Try.prog 131 = some [.nilFunc] := by kernel_rfl
@[go_sem ↓] theorem sz_132 : Try.prog.cellsOf 132 = 1 := by kernel_rfl
@[go_sem ↓] theorem ag_132 : isAggU (Try.prog.underlying 132) = some false := by kernel_rfl
@[go_sem ↓] theorem es_132 : elSz Try.prog 132 = 1 := by kernel_rfl
@[go_sem ↓] theorem zr_132 : zrOf Try.prog 132 = some [(.slice none 0 0)] := by kernel_rfl
@[go_sem ↓] theorem sz_133 : Try.prog.cellsOf 133 = 1 := by kernel_rfl
@[go_sem ↓] theorem ag_133 : isAggU (Try.prog.underlying 133) = some false := by kernel_rfl
@[go_sem ↓] theorem zr_133 : zrOf Try.prog 133 = some [.nilFunc] := by kernel_rfl
@[go_sem ↓] theorem sz_134 : Try.prog.cellsOf 134 = 1 := by kernel_rfl
@[go_sem ↓] theorem ag_134 : isAggU (Try.prog.underlying 134) = some false := by kernel_rfl
@[go_sem ↓] theorem zr_134 : zrOf Try.prog 134 = some [.nilFunc] := by kernel_rfl
@[go_sem ↓] theorem sz_135 : Try.prog.cellsOf 135 = 1 := by kernel_rfl
@[go_sem ↓] theorem ag_135 : isAggU (Try.prog.underlying 135) = some false := by kernel_rfl
@[go_sem ↓] theorem zr_135 : zrOf Try.prog 135 = some [.nilFunc] := by kernel_rfl
@[go_sem ↓] theorem sz_136 : Try.prog.cellsOf 136 = 1 := by kernel_rfl
@[go_sem ↓] theorem ag_136 : isAggU (Try.prog.underlying 136) = some false := by kernel_rfl
@[go_sem ↓] theorem zr_136 : zrOf Try.prog 136 = some [.nilFunc] := by kernel_rfl
@[go_sem ↓] theorem sz_137 : Try.prog.cellsOf 137 = 1 := by kernel_rfl
@[go_sem ↓] theorem ag_137 : isAggU (Try.prog.underlying 137) = some false := by kernel_rfl
@[go_sem ↓] theorem zr_137 : zrOf Try.prog 137 = some [.nilFunc] := by kernel_rfl
@[go_sem ↓] theorem sz_138 : Try.prog.cellsOf 138 = 1 := by kernel_rfl
@[go_sem ↓] theorem ag_138 : isAggU (Try.prog.underlying 138) = some false := by kernel_rfl
@[go_sem ↓] theorem zr_138 : zrOf Try.prog 138 = some [.nilFunc] := by kernel_rfl
@[go_sem ↓] theorem sz_139 : Try.prog.cellsOf 139 = 2 := by kernel_rfl
@[go_sem ↓] theorem ag_139 : isAggU (Try.prog.underlying 139) = some true := by kernel_rfl
@[go_sem ↓] theorem zr_139 : zrOf Try.prog 139 = some [(.int .i64 0), (.int .i64 0)] := by kernel_rfl
@[go_sem ↓] theorem fo_139_0 : foOf Try.prog 139 0 = some 0 := by kernel_rfl
@[go_sem ↓] theorem pl_139_0 : plOf Try.prog 139 0 = some (0, 1) := by kernel_rfl
@[go_sem ↓] theorem fo_139_1 : foOf Try.prog 139 1 = some 1 := by kernel_rfl
@[go_sem ↓] theorem pl_139_1 : plOf Try.prog 139 1 = some (1, 1) := by kernel_rfl
@[go_sem ↓] theorem fl_139 : plOf1 Try.prog 139 = true := by kernel_rfl
@[go_sem ↓] theorem sz_140 : Try.prog.cellsOf 140 = 2 := by kernel_rfl
@[go_sem ↓] theorem ag_140 : isAggU (Try.prog.underlying 140) = some true := by kernel_rfl
@[go_sem ↓] theorem zr_140 : zrOf Try.prog 140 = some [(.int .i64 0), (.int .i64 0)] := by kernel_rfl
@[go_sem ↓] theorem fo_140_0 : foOf Try.prog 140 0 = some 0 := by kernel_rfl
@[go_sem ↓] theorem pl_140_0 : plOf Try.prog 140 0 = some (0, 1) := by kernel_rfl
@[go_sem ↓] theorem fo_140_1 : foOf Try.prog 140 1 = some 1 := by kernel_rfl
@[go_sem ↓] theorem pl_140_1 : plOf Try.prog 140 1 = some (1, 1) := by kernel_rfl
@[go_sem ↓] theorem fl_140 : plOf1 Try.prog 140 = true := by kernel_rfl
@[go_sem ↓] theorem sz_141 : Try.prog.cellsOf 141 = 1 := by kernel_rfl
@[go_sem ↓] theorem ag_141 : isAggU (Try.prog.underlying 141) = some false := by kernel_rfl
@[go_sem ↓] theorem zr_141 : zrOf Try.prog 141 = some [.nilFunc] := by kernel_rfl
@[go_sem ↓] theorem sz_142 : Try.prog.cellsOf 142 = 1 := by kernel_rfl
@[go_sem ↓] theorem ag_142 : isAggU (Try.prog.underlying 142) = some false := by kernel_rfl
@[go_sem ↓] theorem zr_142 : zrOf Try.prog 142 = some [.nilFunc] := by kernel_rfl
@[go_sem ↓] theorem sz_143 : Try.prog.cellsOf 143 = 1 := by kernel_rfl
@[go_sem ↓] theorem ag_143 : isAggU (Try.prog.underlying 143) = some false := by kernel_rfl
@[go_sem ↓] theorem zr_143 : zrOf Try.prog 143 = some [.nilFunc] := by kernel_rfl
@[go_sem ↓] theorem sz_144 : Try.prog.cellsOf 144 = 1 := by kernel_rfl
@[go_sem ↓] theorem ag_144 : isAggU (Try.prog.underlying 144) = some false := by kernel_rfl
@[go_sem ↓] theorem zr_144 : zrOf Try.prog 144 = some [.nilFunc] := by kernel_rfl
@[go_sem ↓] theorem sz_145 : Try.prog.cellsOf 145 = 1 := by kernel_rfl
@[go_sem ↓] theorem ag_145 : isAggU (Try.prog.underlying 145) = some false := by kernel_rfl
@[go_sem ↓] theorem zr_145 : zrOf Try.prog 145 = some [.nilFunc] := by kernel_rfl
@[go_sem ↓] theorem sz_146 : Try.prog.cellsOf 146 = 1 := by kernel_rfl
@[go_sem ↓] theorem ag_146 : isAggU (Try.prog.underlying 146) = some false := by kernel_rfl
@[go_sem ↓] theorem es_146 : elSz Try.prog 146 = 4 := by kernel_rfl
@[go_sem ↓] theorem zr_146 : zrOf Try.prog 146 = some [(.slice none 0 0)] := by kernel_rfl
@[go_sem ↓] theorem sz_147 : Try.prog.cellsOf 147 = 2 := by kernel_rfl
@[go_sem ↓] theorem ag_147 : isAggU (Try.prog.underlying 147) = some true := by kernel_rfl
@[go_sem ↓] theorem zr_147 : zrOf Try.prog 147 = some [(.int .i64 0), (.slice none 0 0)] := by kernel_rfl
@[go_sem ↓] theorem fo_147_0 : foOf Try.prog 147 0 = some 0 := by kernel_rfl
@[go_sem ↓] theorem pl_147_0 : plOf Try.prog 147 0 = some (0, 1) := by kernel_rfl
@[go_sem ↓] theorem fo_147_1 : foOf Try.prog 147 1 = some 1 := by kernel_rfl
@[go_sem ↓] theorem pl_147_1 : plOf Try.prog 147 1 = some (1, 1) := by kernel_rfl
@[go_sem ↓] theorem fl_147 : plOf1 Try.prog 147 = true := by kernel_rfl
@[go_sem ↓] theorem sz_148 : Try.prog.cellsOf 148 = 2 := by kernel_rfl
@[go_sem ↓] theorem ag_148 : isAggU (Try.prog.underlying 148) = some true := by kernel_rfl
@[go_sem ↓] theorem zr_148 : zrOf Try.prog 148 = some [(.int .i64 0), (.slice none 0 0)] := by kernel_rfl
@[go_sem ↓] theorem fo_148_0 : foOf Try.prog 148 0 = some 0 := by kernel_rfl
@[go_sem ↓] theorem pl_148_0 : plOf Try.prog 148 0 = some (0, 1) := by kernel_rfl
@[go_sem ↓] theorem fo_148_1 : foOf Try.prog 148 1 = some 1 := by kernel_rfl
@[go_sem ↓] theorem pl_148_1 : plOf Try.prog 148 1 = some (1, 1) := by kernel_rfl
@[go_sem ↓] theorem fl_148 : plOf1 Try.prog 148 = true := by kernel_rfl
@[go_sem ↓] theorem sz_150 : Try.prog.cellsOf 150 = 1 := by kernel_rfl
@[go_sem ↓] theorem ag_150 : isAggU (Try.prog.underlying 150) = some false := by kernel_rfl
@[go_sem ↓] theorem zr_150 : zrOf Try.prog 150 = some [.nilFunc] := by kernel_rfl
@[go_sem ↓] theorem sz_151 : Try.prog.cellsOf 151 = 1 := by kernel_rfl
@[go_sem ↓] theorem ag_151 : isAggU (Try.prog.underlying 151) = some false := by kernel_rfl
@[go_sem ↓] theorem zr_151 : zrOf Try.prog 151 = some [.nilFunc] := by kernel_rfl
@[go_sem ↓] theorem sz_152 : Try.prog.cellsOf 152 = 1 := by kernel_rfl
@[go_sem ↓] theorem ag_152 : isAggU (Try.prog.underlying 152) = some false := by kernel_rfl
@[go_sem ↓] theorem zr_152 : zrOf Try.prog 152 = some [.nilFunc] := by kernel_rfl
@[go_sem ↓] theorem sz_153 : Try.prog.cellsOf 153 = 1 := by kernel_rfl
@[go_sem ↓] theorem ag_153 : isAggU (Try.prog.underlying 153) = some false := by kernel_rfl
@[go_sem ↓] theorem zr_153 : zrOf Try.prog 153 = some [.nilFunc] := by kernel_rfl
@[go_sem ↓] theorem sz_154 : Try.prog.cellsOf 154 = 1 := by kernel_rfl
@[go_sem ↓] theorem ag_154 : isAggU (Try.prog.underlying 154) = some false := by kernel_rfl
@[go_sem ↓] theorem zr_154 : zrOf Try.prog 154 = some [.nilFunc] := by kernel_rfl
@[go_sem ↓] theorem sz_155 : Try.prog.cellsOf 155 = 1 := by kernel_rfl
@[go_sem ↓] theorem ag_155 : isAggU (Try.prog.underlying 155) = some false := by kernel_rfl
@[go_sem ↓] theorem zr_155 : zrOf Try.prog 155 = some [.nilFunc] := by kernel_rfl
@[go_sem ↓] theorem sz_156 : Try.prog.cellsOf 156 = 1 := by kernel_rfl
@[go_sem ↓] theorem ag_156 : isAggU (Try.prog.underlying 156) = some false := by kernel_rfl
@[go_sem ↓] theorem zr_156 : zrOf Try.prog 156 = some [.nilFunc] := by kernel_rfl
@[go_sem ↓] theorem sz_157 : Try.prog.cellsOf 157 = 1 := by kernel_rfl
@[go_sem ↓] theorem ag_157 : isAggU (Try.prog.underlying 157) = some false := by kernel_rfl
@[go_sem ↓] theorem zr_157 : zrOf Try.prog 157 = some [.nilFunc] := by kernel_rfl
@[go_sem ↓] theorem sz_158 : Try.prog.cellsOf 158 = 1 := by kernel_rfl
@[go_sem ↓] theorem ag_158 : isAggU (Try.prog.underlying 158) = some false := by kernel_rfl
@[go_sem ↓] theorem es_158 : elSz Try.prog 158 = 1 := by kernel_rfl
@[go_sem ↓] theorem zr_158 : zrOf Try.prog 158 = some [(.slice none 0 0)] := by kernel_rfl
@[go_sem ↓] theorem sz_159 : Try.prog.cellsOf 159 = 1 := by kernel_rfl
@[go_sem ↓] theorem ag_159 : isAggU (Try.prog.underlying 159) = some false := by kernel_rfl
@[go_sem ↓] theorem zr_159 : zrOf Try.prog 159 = some [.nilFunc] := by kernel_rfl
@[go_sem ↓] theorem sz_160 : Try.prog.cellsOf 160 = 1 := by kernel_rfl
@[go_sem ↓] theorem ag_160 : isAggU (Try.prog.underlying 160) = some false := by kernel_rfl
@[go_sem ↓] theorem zr_160 : zrOf Try.prog 160 = some [.nilFunc] := by kernel_rfl
@[go_sem ↓] theorem sz_162 : Try.prog.cellsOf 162 = 1 := by kernel_rfl
@[go_sem ↓] theorem ag_162 : isAggU (Try.prog.underlying 162) = some false := by kernel_rfl
@[go_sem ↓] theorem zr_162 : zrOf Try.prog 162 = some [.nilFunc] := by kernel_rfl
@[go_sem ↓] theorem sz_163 : Try.prog.cellsOf 163 = 1 := by kernel_rfl
@[go_sem ↓] theorem ag_163 : isAggU (Try.prog.underlying 163) = some false := by kernel_rfl
@[go_sem ↓] theorem zr_163 : zrOf Try.prog 163 = some [.nilFunc] := by kernel_rfl
@[go_sem ↓] theorem sz_164 : Try.prog.cellsOf 164 = 1 := by kernel_rfl
@[go_sem ↓] theorem ag_164 : isAggU (Try.prog.underlying 164) = some false := by kernel_rfl
@[go_sem ↓] theorem zr_164 : zrOf Try.prog 164 = some [(.int .i64 0)] := by kernel_rfl
@[go_sem ↓] theorem sz_166 : Try.prog.cellsOf 166 = 1 := by kernel_rfl
@[go_sem ↓] theorem ag_166 : isAggU (Try.prog.underlying 166) = some false := by kernel_rfl
@[go_sem ↓] theorem zr_166 : zrOf Try.prog 166 = some [.nilFunc] := by kernel_rfl
@[go_sem ↓] theorem sz_167 : Try.prog.cellsOf 167 = 1 := by kernel_rfl
@[go_sem ↓] theorem ag_167 : isAggU (Try.prog.underlying 167) = some false := by kernel_rfl
@[go_sem ↓] theorem zr_167 : zrOf Try.prog 167 = some [.nilFunc] := by kernel_rfl
@[go_sem ↓] theorem sz_168 : Try.prog.cellsOf 168 = 1 := by kernel_rfl
@[go_sem ↓] theorem ag_168 : isAggU (Try.prog.underlying 168) = some false := by kernel_rfl
@[go_sem ↓] theorem zr_168 : zrOf Try.prog 168 = some [.nilFunc] := by kernel_rfl
@[go_sem ↓] theorem sz_169 : Try.prog.cellsOf 169 = 1 := by kernel_rfl
@[go_sem ↓] theorem ag_169 : isAggU (Try.prog.underlying 169) = some false := by kernel_rfl
@[go_sem ↓] theorem zr_169 : zrOf Try.prog 169 = some [.nilFunc] := by kernel_rfl
@[go_sem ↓] theorem sz_170 : Try.prog.cellsOf 170 = 1 := by kernel_rfl
@[go_sem ↓] theorem ag_170 : isAggU (Try.prog.underlying 170) = some false := by kernel_rfl
@[go_sem ↓] theorem zr_170 : zrOf Try.prog 170 = some [.nilFunc] := by kernel_rfl
@[go_sem ↓] theorem sz_171 : Try.prog.cellsOf 171 = 1 := by kernel_rfl
@[go_sem ↓] theorem ag_171 : isAggU (Try.prog.underlying 171) = some false := by kernel_rfl
@[go_sem ↓] theorem zr_171 : zrOf Try.prog 171 = some [.nilFunc] := by kernel_rfl
@[go_sem ↓] theorem sz_172 : Try.prog.cellsOf 172 = 1 := by kernel_rfl
@[go_sem ↓] theorem ag_172 : isAggU (Try.prog.underlying 172) = some false := by kernel_rfl
@[go_sem ↓] theorem zr_172 : zrOf Try.prog 172 = some [.nilFunc] := by kernel_rfl
@[go_sem ↓] theorem sz_173 : Try.prog.cellsOf 173 = 1 := by kernel_rfl
@[go_sem ↓] theorem ag_173 : isAggU (Try.prog.underlying 173) = some false := by kernel_rfl
@[go_sem ↓] theorem zr_173 : zrOf Try.prog 173 = some [(.int .u64 0)] := by kernel_rfl
@[go_sem ↓] theorem sz_174 : Try.prog.cellsOf 174 = 1 := by kernel_rfl
@[go_sem ↓] theorem ag_174 : isAggU (Try.prog.underlying 174) = some false := by kernel_rfl
@[go_sem ↓] theorem zr_174 : zrOf Try.prog 174 = some [.nilFunc] := by kernel_rfl
@[go_sem ↓] theorem sz_175 : Try.prog.cellsOf 175 = 1 := by kernel_rfl
@[go_sem ↓] theorem ag_175 : isAggU (Try.prog.underlying 175) = some false := by kernel_rfl
@[go_sem ↓] theorem zr_175 : zrOf Try.prog 175 = some [.nilFunc] := by kernel_rfl
@[go_sem ↓] theorem sz_176 : Try.prog.cellsOf 176 = 1 := by kernel_rfl
@[go_sem ↓] theorem ag_176 : isAggU (Try.prog.underlying 176) = some false := by kernel_rfl
@[go_sem ↓] theorem zr_176 : zrOf Try.prog 176 = some [.nilFunc] := by kernel_rfl
@[go_sem ↓] theorem sz_177 : Try.prog.cellsOf 177 = 1 := by kernel_rfl
@[go_sem ↓] theorem ag_177 : isAggU (Try.prog.underlying 177) = some false := by kernel_rfl
@[go_sem ↓] theorem zr_177 : zrOf Try.prog 177 = some [(.pointer none)] := by kernel_rfl
@[go_sem ↓] theorem sz_178 : Try.prog.cellsOf 178 = 1 := by kernel_rfl
@[go_sem ↓] theorem ag_178 : isAggU (Try.prog.underlying 178) = some false := by kernel_rfl
@[go_sem ↓] theorem zr_178 : zrOf Try.prog 178 = some [.nilFunc] := by kernel_rfl
@[go_sem ↓] theorem sz_179 : Try.prog.cellsOf 179 = 1 := by kernel_rfl
@[go_sem ↓] theorem ag_179 : isAggU (Try.prog.underlying 179) = some false := by kernel_rfl
@[go_sem ↓] theorem zr_179 : zrOf Try.prog 179 = some [(.pointer none)] := by kernel_rfl
@[go_sem ↓] theorem sz_180 : Try.prog.cellsOf 180 = 1 := by kernel_rfl
@[go_sem ↓] theorem ag_180 : isAggU (Try.prog.underlying 180) = some false := by kernel_rfl
@[go_sem ↓] theorem zr_180 : zrOf Try.prog 180 = some [.nilFunc] := by kernel_rfl
@[go_sem ↓] theorem sz_181 : Try.prog.cellsOf 181 = 1 := by kernel_rfl
@[go_sem ↓] theorem ag_181 : isAggU (Try.prog.underlying 181) = some false := by kernel_rfl
@[go_sem ↓] theorem zr_181 : zrOf Try.prog 181 = some [.nilFunc] := by kernel_rfl
@[go_sem ↓] theorem sz_182 : Try.prog.cellsOf 182 = 4 := by kernel_rfl
@[go_sem ↓] theorem ag_182 : isAggU (Try.prog.underlying 182) = some true := by kernel_rfl
@[go_sem ↓] theorem zr_182 : zrOf Try.prog 182 = some [(.pointer none), (.pointer none), (.pointer none), (.string ⟨#[]⟩)] := by kernel_rfl
@[go_sem ↓] theorem fo_182_0 : foOf Try.prog 182 0 = some 0 := by kernel_rfl
@[go_sem ↓] theorem pl_182_0 : plOf Try.prog 182 0 = some (0, 1) := by kernel_rfl
@[go_sem ↓] theorem fo_182_1 : foOf Try.prog 182 1 = some 1 := by kernel_rfl
@[go_sem ↓] theorem pl_182_1 : plOf Try.prog 182 1 = some (1, 1) := by kernel_rfl
@[go_sem ↓] theorem fo_182_2 : foOf Try.prog 182 2 = some 2 := by kernel_rfl
@[go_sem ↓] theorem pl_182_2 : plOf Try.prog 182 2 = some (2, 1) := by kernel_rfl
@[go_sem ↓] theorem fo_182_3 : foOf Try.prog 182 3 = some 3 := by kernel_rfl
@[go_sem ↓] theorem pl_182_3 : plOf Try.prog 182 3 = some (3, 1) := by kernel_rfl
@[go_sem ↓] theorem fl_182 : plOf1 Try.prog 182 = true := by kernel_rfl
@[go_sem ↓] theorem sz_183 : Try.prog.cellsOf 183 = 4 := by kernel_rfl
@[go_sem ↓] theorem ag_183 : isAggU (Try.prog.underlying 183) = some true := by kernel_rfl
@[go_sem ↓] theorem zr_183 : zrOf Try.prog 183 = some [(.pointer none), (.pointer none), (.pointer none), (.string ⟨#[]⟩)] := by kernel_rfl
@[go_sem ↓] theorem fo_183_0 : foOf Try.prog 183 0 = some 0 := by kernel_rfl
@[go_sem ↓] theorem pl_183_0 : plOf Try.prog 183 0 = some (0, 1) := by kernel_rfl
@[go_sem ↓] theorem fo_183_1 : foOf Try.prog 183 1 = some 1 := by kernel_rfl
@[go_sem ↓] theorem pl_183_1 : plOf Try.prog 183 1 = some (1, 1) := by kernel_rfl
@[go_sem ↓] theorem fo_183_2 : foOf Try.prog 183 2 = some 2 := by kernel_rfl
@[go_sem ↓] theorem pl_183_2 : plOf Try.prog 183 2 = some (2, 1) := by kernel_rfl
@[go_sem ↓] theorem fo_183_3 : foOf Try.prog 183 3 = some 3 := by kernel_rfl
@[go_sem ↓] theorem pl_183_3 : plOf Try.prog 183 3 = some (3, 1) := by kernel_rfl
@[go_sem ↓] theorem fl_183 : plOf1 Try.prog 183 = true := by kernel_rfl
@[go_sem ↓] theorem sz_184 : Try.prog.cellsOf 184 = 0 := by kernel_rfl
@[go_sem ↓] theorem ag_184 : isAggU (Try.prog.underlying 184) = some true := by kernel_rfl
@[go_sem ↓] theorem es_184 : elSz Try.prog 184 = 1 := by kernel_rfl
@[go_sem ↓] theorem zr_184 : zrOf Try.prog 184 = some [] := by kernel_rfl
@[go_sem ↓] theorem fl_184 : plOf1 Try.prog 184 = true := by kernel_rfl
@[go_sem ↓] theorem sz_185 : Try.prog.cellsOf 185 = 0 := by kernel_rfl
@[go_sem ↓] theorem ag_185 : isAggU (Try.prog.underlying 185) = some true := by kernel_rfl
@[go_sem ↓] theorem zr_185 : zrOf Try.prog 185 = some [] := by kernel_rfl
@[go_sem ↓] theorem pl_185_0 : plOf Try.prog 185 0 = some (0, 0) := by kernel_rfl
@[go_sem ↓] theorem fl_185 : plOf1 Try.prog 185 = true := by kernel_rfl
@[go_sem ↓] theorem sz_186 : Try.prog.cellsOf 186 = 0 := by kernel_rfl
@[go_sem ↓] theorem ag_186 : isAggU (Try.prog.underlying 186) = some true := by kernel_rfl
@[go_sem ↓] theorem zr_186 : zrOf Try.prog 186 = some [] := by kernel_rfl
@[go_sem ↓] theorem pl_186_0 : plOf Try.prog 186 0 = some (0, 0) := by kernel_rfl
@[go_sem ↓] theorem fl_186 : plOf1 Try.prog 186 = true := by kernel_rfl
@[go_sem ↓] theorem sz_187 : Try.prog.cellsOf 187 = 1 := by kernel_rfl
@[go_sem ↓] theorem ag_187 : isAggU (Try.prog.underlying 187) = some false := by kernel_rfl
@[go_sem ↓] theorem zr_187 : zrOf Try.prog 187 = some [.nilFunc] := by kernel_rfl
@[go_sem ↓] theorem sz_188 : Try.prog.cellsOf 188 = 1 := by kernel_rfl
@[go_sem ↓] theorem ag_188 : isAggU (Try.prog.underlying 188) = some false := by kernel_rfl
@[go_sem ↓] theorem zr_188 : zrOf Try.prog 188 = some [(.int .u8 0)] := by kernel_rfl
@[go_sem ↓] theorem sz_189 : Try.prog.cellsOf 189 = 1 := by kernel_rfl
@[go_sem ↓] theorem ag_189 : isAggU (Try.prog.underlying 189) = some false := by kernel_rfl
@[go_sem ↓] theorem zr_189 : zrOf Try.prog 189 = some [(.int .u8 0)] := by kernel_rfl
@[go_sem ↓] theorem sz_190 : Try.prog.cellsOf 190 = 1 := by kernel_rfl
@[go_sem ↓] theorem ag_190 : isAggU (Try.prog.underlying 190) = some false := by kernel_rfl
@[go_sem ↓] theorem zr_190 : zrOf Try.prog 190 = some [.nilFunc] := by kernel_rfl
@[go_sem ↓] theorem sz_191 : Try.prog.cellsOf 191 = 1 := by kernel_rfl
@[go_sem ↓] theorem ag_191 : isAggU (Try.prog.underlying 191) = some false := by kernel_rfl
@[go_sem ↓] theorem zr_191 : zrOf Try.prog 191 = some [(.pointer none)] := by kernel_rfl
@[go_sem ↓] theorem sz_192 : Try.prog.cellsOf 192 = 1 := by kernel_rfl
@[go_sem ↓] theorem ag_192 : isAggU (Try.prog.underlying 192) = some false := by kernel_rfl
@[go_sem ↓] theorem zr_192 : zrOf Try.prog 192 = some [(.int .i32 0)] := by kernel_rfl
@[go_sem ↓] theorem sz_193 : Try.prog.cellsOf 193 = 1 := by kernel_rfl
@[go_sem ↓] theorem ag_193 : isAggU (Try.prog.underlying 193) = some false := by kernel_rfl
@[go_sem ↓] theorem zr_193 : zrOf Try.prog 193 = some [(.int .i32 0)] := by kernel_rfl
@[go_sem ↓] theorem sz_194 : Try.prog.cellsOf 194 = 11 := by kernel_rfl
@[go_sem ↓] theorem ag_194 : isAggU (Try.prog.underlying 194) = some true := by kernel_rfl
@[go_sem ↓] theorem zr_194 : zrOf Try.prog 194 = some [(.int .u64 0), (.int .u64 0), (.int .u32 0), (.int .u8 0), (.int .u8 0), (.int .u8 0), (.int .u8 0), .nilFunc, (.pointer none), (.int .i32 0), (.int .i32 0)] := by kernel_rfl
@[go_sem ↓] theorem fo_194_0 : foOf Try.prog 194 0 = some 0 := by kernel_rfl
@[go_sem ↓] theorem pl_194_0 : plOf Try.prog 194 0 = some (0, 1) := by kernel_rfl
@[go_sem ↓] theorem fo_194_1 : foOf Try.prog 194 1 = some 1 := by kernel_rfl
@[go_sem ↓] theorem pl_194_1 : plOf Try.prog 194 1 = some (1, 1) := by kernel_rfl
@[go_sem ↓] theorem fo_194_2 : foOf Try.prog 194 2 = some 2 := by kernel_rfl
@[go_sem ↓] theorem pl_194_2 : plOf Try.prog 194 2 = some (2, 1) := by kernel_rfl
@[go_sem ↓] theorem fo_194_3 : foOf Try.prog 194 3 = some 3 := by kernel_rfl
@[go_sem ↓] theorem pl_194_3 : plOf Try.prog 194 3 = some (3, 1) := by kernel_rfl
@[go_sem ↓] theorem fo_194_4 : foOf Try.prog 194 4 = some 4 := by kernel_rfl
@[go_sem ↓] theorem pl_194_4 : plOf Try.prog 194 4 = some (4, 1) := by kernel_rfl
@[go_sem ↓] theorem fo_194_5 : foOf Try.prog 194 5 = some 5 := by kernel_rfl
@[go_sem ↓] theorem pl_194_5 : plOf Try.prog 194 5 = some (5, 1) := by kernel_rfl
@[go_sem ↓] theorem fo_194_6 : foOf Try.prog 194 6 = some 6 := by kernel_rfl
@[go_sem ↓] theorem pl_194_6 : plOf Try.prog 194 6 = some (6, 1) := by kernel_rfl
@[go_sem ↓] theorem fo_194_7 : foOf Try.prog 194 7 = some 7 := by kernel_rfl
@[go_sem ↓] theorem pl_194_7 : plOf Try.prog 194 7 = some (7, 1) := by kernel_rfl
@[go_sem ↓] theorem fo_194_8 : foOf Try.prog 194 8 = some 8 := by kernel_rfl
@[go_sem ↓] theorem pl_194_8 : plOf Try.prog 194 8 = some (8, 1) := by kernel_rfl
@[go_sem ↓] theorem fo_194_9 : foOf Try.prog 194 9 = some 9 := by kernel_rfl
@[go_sem ↓] theorem pl_194_9 : plOf Try.prog 194 9 = some (9, 1) := by kernel_rfl
@[go_sem ↓] theorem fo_194_10 : foOf Try.prog 194 10 = some 10 := by kernel_rfl
@[go_sem ↓] theorem pl_194_10 : plOf Try.prog 194 10 = some (10, 1) := by kernel_rfl
@[go_sem ↓] theorem fl_194 : plOf1 Try.prog 194 = true := by kernel_rfl
@[go_sem ↓] theorem sz_195 : Try.prog.cellsOf 195 = 11 := by kernel_rfl
@[go_sem ↓] theorem ag_195 : isAggU (Try.prog.underlying 195) = some true := by kernel_rfl
@[go_sem ↓] theorem zr_195 : zrOf Try.prog 195 = some [(.int .u64 0), (.int .u64 0), (.int .u32 0), (.int .u8 0), (.int .u8 0), (.int .u8 0), (.int .u8 0), .nilFunc, (.pointer none), (.int .i32 0), (.int .i32 0)] := by kernel_rfl
@[go_sem ↓] theorem fo_195_0 : foOf Try.prog 195 0 = some 0 := by kernel_rfl
@[go_sem ↓] theorem pl_195_0 : plOf Try.prog 195 0 = some (0, 1) := by kernel_rfl
@[go_sem ↓] theorem fo_195_1 : foOf Try.prog 195 1 = some 1 := by kernel_rfl
@[go_sem ↓] theorem pl_195_1 : plOf Try.prog 195 1 = some (1, 1) := by kernel_rfl
@[go_sem ↓] theorem fo_195_2 : foOf Try.prog 195 2 = some 2 := by kernel_rfl
@[go_sem ↓] theorem pl_195_2 : plOf Try.prog 195 2 = some (2, 1) := by kernel_rfl
@[go_sem ↓] theorem fo_195_3 : foOf Try.prog 195 3 = some 3 := by kernel_rfl
@[go_sem ↓] theorem pl_195_3 : plOf Try.prog 195 3 = some (3, 1) := by kernel_rfl
@[go_sem ↓] theorem fo_195_4 : foOf Try.prog 195 4 = some 4 := by kernel_rfl
@[go_sem ↓] theorem pl_195_4 : plOf Try.prog 195 4 = some (4, 1) := by kernel_rfl
@[go_sem ↓] theorem fo_195_5 : foOf Try.prog 195 5 = some 5 := by kernel_rfl
@[go_sem ↓] theorem pl_195_5 : plOf Try.prog 195 5 = some (5, 1) := by kernel_rfl
@[go_sem ↓] theorem fo_195_6 : foOf Try.prog 195 6 = some 6 := by kernel_rfl
@[go_sem ↓] theorem pl_195_6 : plOf Try.prog 195 6 = some (6, 1) := by kernel_rfl
@[go_sem ↓] theorem fo_195_7 : foOf Try.prog 195 7 = some 7 := by kernel_rfl
@[go_sem ↓] theorem pl_195_7 : plOf Try.prog 195 7 = some (7, 1) := by kernel_rfl
@[go_sem ↓] theorem fo_195_8 : foOf Try.prog 195 8 = some 8 := by kernel_rfl
@[go_sem ↓] theorem pl_195_8 : plOf Try.prog 195 8 = some (8, 1) := by kernel_rfl
@[go_sem ↓] theorem fo_195_9 : foOf Try.prog 195 9 = some 9 := by kernel_rfl
@[go_sem ↓] theorem pl_195_9 : plOf Try.prog 195 9 = some (9, 1) := by kernel_rfl
@[go_sem ↓] theorem fo_195_10 : foOf Try.prog 195 10 = some 10 := by kernel_rfl
@[go_sem ↓] theorem pl_195_10 : plOf Try.prog 195 10 = some (10, 1) := by kernel_rfl
@[go_sem ↓] theorem fl_195 : plOf1 Try.prog 195 = true := by kernel_rfl
@[go_sem ↓] theorem sz_196 : Try.prog.cellsOf 196 = 1 := by kernel_rfl
@[go_sem ↓] theorem ag_196 : isAggU (Try.prog.underlying 196) = some false := by kernel_rfl
@[go_sem ↓] theorem zr_196 : zrOf Try.prog 196 = some [(.pointer none)] := by kernel_rfl
@[go_sem] theorem sl_22 {H : AH} {b o len cap : Nat} {lo hi : Option Value} {K : Value → Prop} : rdop Try.prog H (Instr.sliceAt 22 (.slice (some ⟨b, o, none⟩) len cap) lo hi none) K = bnd len hi cap fun h => bnd 0 lo h fun l => nv (.slice (some ⟨b, if cap = l then o else o + l * Try.prog.cellsOf 66, none⟩) (h - l) (cap - l)) K := rdop_slice_sl Try.underlying22 (by rw [sz_66]; simp)
@[go_sem] theorem sc_22 {H : AH} {a : Option Addr} {len cap : Nat} {hi mx : Value} {K : Value → Prop} : rdop Try.prog H (Instr.sliceAt 22 (.slice a len cap) none (some hi) (some mx)) K = bnd cap (some mx) cap fun m => bnd len (some hi) m fun h => nv (.slice a h m) K := rdop_clip Try.underlying22 (by rw [sz_66]; simp)
@[go_sem] theorem sn_22 {H : AH} {len cap : Nat} {lo hi : Option Value} {K : Value → Prop} : rdop Try.prog H (Instr.sliceAt 22 (.slice none len cap) lo hi none) K = bnd len hi cap fun h => bnd 0 lo h fun l => nv (.slice none (h - l) (cap - l)) K := rdop_slice_nil Try.underlying22 (by rw [sz_66]; simp)
@[go_sem] theorem sl_23 {H : AH} {b o len cap : Nat} {lo hi : Option Value} {K : Value → Prop} : rdop Try.prog H (Instr.sliceAt 23 (.slice (some ⟨b, o, none⟩) len cap) lo hi none) K = bnd len hi cap fun h => bnd 0 lo h fun l => nv (.slice (some ⟨b, if cap = l then o else o + l * Try.prog.cellsOf 4, none⟩) (h - l) (cap - l)) K := rdop_slice_sl Try.underlying23 (by rw [sz_4]; simp)
@[go_sem] theorem sc_23 {H : AH} {a : Option Addr} {len cap : Nat} {hi mx : Value} {K : Value → Prop} : rdop Try.prog H (Instr.sliceAt 23 (.slice a len cap) none (some hi) (some mx)) K = bnd cap (some mx) cap fun m => bnd len (some hi) m fun h => nv (.slice a h m) K := rdop_clip Try.underlying23 (by rw [sz_4]; simp)
@[go_sem] theorem sn_23 {H : AH} {len cap : Nat} {lo hi : Option Value} {K : Value → Prop} : rdop Try.prog H (Instr.sliceAt 23 (.slice none len cap) lo hi none) K = bnd len hi cap fun h => bnd 0 lo h fun l => nv (.slice none (h - l) (cap - l)) K := rdop_slice_nil Try.underlying23 (by rw [sz_4]; simp)
@[go_sem] theorem sl_40 {H : AH} {b o : Nat} {lo hi : Option Value} {K : Value → Prop} : rdop Try.prog H (Instr.sliceAt 40 (.pointer (some ⟨b, o, none⟩)) lo hi none) K = bnd 4 hi 4 fun h => bnd 0 lo h fun l => nv (.slice (some ⟨b, if 4 = l then o else o + l * Try.prog.cellsOf 5, none⟩) (h - l) (4 - l)) K := rdop_slice_arr Try.underlying40 (by rw [sz_5]; simp)
@[go_sem] theorem ix_40 {H : AH} {cs : Array Value} {k : IntKind} {i : Int} {K : Value → Prop} : rdop Try.prog H (Instr.index 40 (.agg cs) (.int k i)) K = (0 ≤ i ∧ i < (4 : Nat) ∧ wo cs[i.toNat * Try.prog.cellsOf 5]? fun v => nv v K) := rdop_index_arr Try.underlying40 (by rw [sz_5]; simp) ag_5
@[go_sem] theorem sl_41 {H : AH} {b o : Nat} {lo hi : Option Value} {K : Value → Prop} : rdop Try.prog H (Instr.sliceAt 41 (.pointer (some ⟨b, o, none⟩)) lo hi none) K = bnd 4 hi 4 fun h => bnd 0 lo h fun l => nv (.slice (some ⟨b, if 4 = l then o else o + l * Try.prog.cellsOf 5, none⟩) (h - l) (4 - l)) K := rdop_slice_arr Try.underlying41 (by rw [sz_5]; simp)
@[go_sem] theorem ix_41 {H : AH} {cs : Array Value} {k : IntKind} {i : Int} {K : Value → Prop} : rdop Try.prog H (Instr.index 41 (.agg cs) (.int k i)) K = (0 ≤ i ∧ i < (4 : Nat) ∧ wo cs[i.toNat * Try.prog.cellsOf 5]? fun v => nv v K) := rdop_index_arr Try.underlying41 (by rw [sz_5]; simp) ag_5
@[go_sem] theorem sl_44 {H : AH} {b o len cap : Nat} {lo hi : Option Value} {K : Value → Prop} : rdop Try.prog H (Instr.sliceAt 44 (.slice (some ⟨b, o, none⟩) len cap) lo hi none) K = bnd len hi cap fun h => bnd 0 lo h fun l => nv (.slice (some ⟨b, if cap = l then o else o + l * Try.prog.cellsOf 5, none⟩) (h - l) (cap - l)) K := rdop_slice_sl Try.underlying44 (by rw [sz_5]; simp)
@[go_sem] theorem sc_44 {H : AH} {a : Option Addr} {len cap : Nat} {hi mx : Value} {K : Value → Prop} : rdop Try.prog H (Instr.sliceAt 44 (.slice a len cap) none (some hi) (some mx)) K = bnd cap (some mx) cap fun m => bnd len (some hi) m fun h => nv (.slice a h m) K := rdop_clip Try.underlying44 (by rw [sz_5]; simp)
@[go_sem] theorem sn_44 {H : AH} {len cap : Nat} {lo hi : Option Value} {K : Value → Prop} : rdop Try.prog H (Instr.sliceAt 44 (.slice none len cap) lo hi none) K = bnd len hi cap fun h => bnd 0 lo h fun l => nv (.slice none (h - l) (cap - l)) K := rdop_slice_nil Try.underlying44 (by rw [sz_5]; simp)
@[go_sem] theorem sl_68 {H : AH} {b o len cap : Nat} {lo hi : Option Value} {K : Value → Prop} : rdop Try.prog H (Instr.sliceAt 68 (.slice (some ⟨b, o, none⟩) len cap) lo hi none) K = bnd len hi cap fun h => bnd 0 lo h fun l => nv (.slice (some ⟨b, if cap = l then o else o + l * Try.prog.cellsOf 79, none⟩) (h - l) (cap - l)) K := rdop_slice_sl Try.underlying68 (by rw [sz_79]; simp)
@[go_sem] theorem sc_68 {H : AH} {a : Option Addr} {len cap : Nat} {hi mx : Value} {K : Value → Prop} : rdop Try.prog H (Instr.sliceAt 68 (.slice a len cap) none (some hi) (some mx)) K = bnd cap (some mx) cap fun m => bnd len (some hi) m fun h => nv (.slice a h m) K := rdop_clip Try.underlying68 (by rw [sz_79]; simp)
@[go_sem] theorem sn_68 {H : AH} {len cap : Nat} {lo hi : Option Value} {K : Value → Prop} : rdop Try.prog H (Instr.sliceAt 68 (.slice none len cap) lo hi none) K = bnd len hi cap fun h => bnd 0 lo h fun l => nv (.slice none (h - l) (cap - l)) K := rdop_slice_nil Try.underlying68 (by rw [sz_79]; simp)
@[go_sem] theorem sl_79 {H : AH} {b o len cap : Nat} {lo hi : Option Value} {K : Value → Prop} : rdop Try.prog H (Instr.sliceAt 79 (.slice (some ⟨b, o, none⟩) len cap) lo hi none) K = bnd len hi cap fun h => bnd 0 lo h fun l => nv (.slice (some ⟨b, if cap = l then o else o + l * Try.prog.cellsOf 75, none⟩) (h - l) (cap - l)) K := rdop_slice_sl Try.underlying79 (by rw [sz_75]; simp)
@[go_sem] theorem sc_79 {H : AH} {a : Option Addr} {len cap : Nat} {hi mx : Value} {K : Value → Prop} : rdop Try.prog H (Instr.sliceAt 79 (.slice a len cap) none (some hi) (some mx)) K = bnd cap (some mx) cap fun m => bnd len (some hi) m fun h => nv (.slice a h m) K := rdop_clip Try.underlying79 (by rw [sz_75]; simp)
@[go_sem] theorem sn_79 {H : AH} {len cap : Nat} {lo hi : Option Value} {K : Value → Prop} : rdop Try.prog H (Instr.sliceAt 79 (.slice none len cap) lo hi none) K = bnd len hi cap fun h => bnd 0 lo h fun l => nv (.slice none (h - l) (cap - l)) K := rdop_slice_nil Try.underlying79 (by rw [sz_75]; simp)
@[go_sem] theorem sl_81 {H : AH} {b o len cap : Nat} {lo hi : Option Value} {K : Value → Prop} : rdop Try.prog H (Instr.sliceAt 81 (.slice (some ⟨b, o, none⟩) len cap) lo hi none) K = bnd len hi cap fun h => bnd 0 lo h fun l => nv (.slice (some ⟨b, if cap = l then o else o + l * Try.prog.cellsOf 91, none⟩) (h - l) (cap - l)) K := rdop_slice_sl Try.underlying81 (by rw [sz_91]; simp)
@[go_sem] theorem sc_81 {H : AH} {a : Option Addr} {len cap : Nat} {hi mx : Value} {K : Value → Prop} : rdop Try.prog H (Instr.sliceAt 81 (.slice a len cap) none (some hi) (some mx)) K = bnd cap (some mx) cap fun m => bnd len (some hi) m fun h => nv (.slice a h m) K := rdop_clip Try.underlying81 (by rw [sz_91]; simp)
@[go_sem] theorem sn_81 {H : AH} {len cap : Nat} {lo hi : Option Value} {K : Value → Prop} : rdop Try.prog H (Instr.sliceAt 81 (.slice none len cap) lo hi none) K = bnd len hi cap fun h => bnd 0 lo h fun l => nv (.slice none (h - l) (cap - l)) K := rdop_slice_nil Try.underlying81 (by rw [sz_91]; simp)
@[go_sem] theorem sl_93 {H : AH} {b o len cap : Nat} {lo hi : Option Value} {K : Value → Prop} : rdop Try.prog H (Instr.sliceAt 93 (.slice (some ⟨b, o, none⟩) len cap) lo hi none) K = bnd len hi cap fun h => bnd 0 lo h fun l => nv (.slice (some ⟨b, if cap = l then o else o + l * Try.prog.cellsOf 140, none⟩) (h - l) (cap - l)) K := rdop_slice_sl Try.underlying93 (by rw [sz_140]; simp)
@[go_sem] theorem sc_93 {H : AH} {a : Option Addr} {len cap : Nat} {hi mx : Value} {K : Value → Prop} : rdop Try.prog H (Instr.sliceAt 93 (.slice a len cap) none (some hi) (some mx)) K = bnd cap (some mx) cap fun m => bnd len (some hi) m fun h => nv (.slice a h m) K := rdop_clip Try.underlying93 (by rw [sz_140]; simp)
@[go_sem] theorem sn_93 {H : AH} {len cap : Nat} {lo hi : Option Value} {K : Value → Prop} : rdop Try.prog H (Instr.sliceAt 93 (.slice none len cap) lo hi none) K = bnd len hi cap fun h => bnd 0 lo h fun l => nv (.slice none (h - l) (cap - l)) K := rdop_slice_nil Try.underlying93 (by rw [sz_140]; simp)
@[go_sem] theorem sl_95 {H : AH} {b o : Nat} {lo hi : Option Value} {K : Value → Prop} : rdop Try.prog H (Instr.sliceAt 95 (.pointer (some ⟨b, o, none⟩)) lo hi none) K = bnd 11 hi 11 fun h => bnd 0 lo h fun l => nv (.slice (some ⟨b, if 11 = l then o else o + l * Try.prog.cellsOf 4, none⟩) (h - l) (11 - l)) K := rdop_slice_arr Try.underlying95 (by rw [sz_4]; simp)
@[go_sem] theorem ix_95 {H : AH} {cs : Array Value} {k : IntKind} {i : Int} {K : Value → Prop} : rdop Try.prog H (Instr.index 95 (.agg cs) (.int k i)) K = (0 ≤ i ∧ i < (11 : Nat) ∧ wo cs[i.toNat * Try.prog.cellsOf 4]? fun v => nv v K) := rdop_index_arr Try.underlying95 (by rw [sz_4]; simp) ag_4
@[go_sem] theorem sl_96 {H : AH} {b o : Nat} {lo hi : Option Value} {K : Value → Prop} : rdop Try.prog H (Instr.sliceAt 96 (.pointer (some ⟨b, o, none⟩)) lo hi none) K = bnd 11 hi 11 fun h => bnd 0 lo h fun l => nv (.slice (some ⟨b, if 11 = l then o else o + l * Try.prog.cellsOf 4, none⟩) (h - l) (11 - l)) K := rdop_slice_arr Try.underlying96 (by rw [sz_4]; simp)
@[go_sem] theorem ix_96 {H : AH} {cs : Array Value} {k : IntKind} {i : Int} {K : Value → Prop} : rdop Try.prog H (Instr.index 96 (.agg cs) (.int k i)) K = (0 ≤ i ∧ i < (11 : Nat) ∧ wo cs[i.toNat * Try.prog.cellsOf 4]? fun v => nv v K) := rdop_index_arr Try.underlying96 (by rw [sz_4]; simp) ag_4
@[go_sem] theorem sl_126 {H : AH} {b o len cap : Nat} {lo hi : Option Value} {K : Value → Prop} : rdop Try.prog H (Instr.sliceAt 126 (.slice (some ⟨b, o, none⟩) len cap) lo hi none) K = bnd len hi cap fun h => bnd 0 lo h fun l => nv (.slice (some ⟨b, if cap = l then o else o + l * Try.prog.cellsOf 28, none⟩) (h - l) (cap - l)) K := rdop_slice_sl Try.underlying126 (by rw [sz_28]; simp)
@[go_sem] theorem sc_126 {H : AH} {a : Option Addr} {len cap : Nat} {hi mx : Value} {K : Value → Prop} : rdop Try.prog H (Instr.sliceAt 126 (.slice a len cap) none (some hi) (some mx)) K = bnd cap (some mx) cap fun m => bnd len (some hi) m fun h => nv (.slice a h m) K := rdop_clip Try.underlying126 (by rw [sz_28]; simp)
@[go_sem] theorem sn_126 {H : AH} {len cap : Nat} {lo hi : Option Value} {K : Value → Prop} : rdop Try.prog H (Instr.sliceAt 126 (.slice none len cap) lo hi none) K = bnd len hi cap fun h => bnd 0 lo h fun l => nv (.slice none (h - l) (cap - l)) K := rdop_slice_nil Try.underlying126 (by rw [sz_28]; simp)
@[go_sem] theorem sl_132 {H : AH} {b o len cap : Nat} {lo hi : Option Value} {K : Value → Prop} : rdop Try.prog H (Instr.sliceAt 132 (.slice (some ⟨b, o, none⟩) len cap) lo hi none) K = bnd len hi cap fun h => bnd 0 lo h fun l => nv (.slice (some ⟨b, if cap = l then o else o + l * Try.prog.cellsOf 81, none⟩) (h - l) (cap - l)) K := rdop_slice_sl Try.underlying132 (by rw [sz_81]; simp)
@[go_sem] theorem sc_132 {H : AH} {a : Option Addr} {len cap : Nat} {hi mx : Value} {K : Value → Prop} : rdop Try.prog H (Instr.sliceAt 132 (.slice a len cap) none (some hi) (some mx)) K = bnd cap (some mx) cap fun m => bnd len (some hi) m fun h => nv (.slice a h m) K := rdop_clip Try.underlying132 (by rw [sz_81]; simp)
@[go_sem] theorem sn_132 {H : AH} {len cap : Nat} {lo hi : Option Value} {K : Value → Prop} : rdop Try.prog H (Instr.sliceAt 132 (.slice none len cap) lo hi none) K = bnd len hi cap fun h => bnd 0 lo h fun l => nv (.slice none (h - l) (cap - l)) K := rdop_slice_nil Try.underlying132 (by rw [sz_81]; simp)
@[go_sem] theorem sl_146 {H : AH} {b o len cap : Nat} {lo hi : Option Value} {K : Value → Prop} : rdop Try.prog H (Instr.sliceAt 146 (.slice (some ⟨b, o, none⟩) len cap) lo hi none) K = bnd len hi cap fun h => bnd 0 lo h fun l => nv (.slice (some ⟨b, if cap = l then o else o + l * Try.prog.cellsOf 41, none⟩) (h - l) (cap - l)) K := rdop_slice_sl Try.underlying146 (by rw [sz_41]; simp)
@[go_sem] theorem sc_146 {H : AH} {a : Option Addr} {len cap : Nat} {hi mx : Value} {K : Value → Prop} : rdop Try.prog H (Instr.sliceAt 146 (.slice a len cap) none (some hi) (some mx)) K = bnd cap (some mx) cap fun m => bnd len (some hi) m fun h => nv (.slice a h m) K := rdop_clip Try.underlying146 (by rw [sz_41]; simp)
@[go_sem] theorem sn_146 {H : AH} {len cap : Nat} {lo hi : Option Value} {K : Value → Prop} : rdop Try.prog H (Instr.sliceAt 146 (.slice none len cap) lo hi none) K = bnd len hi cap fun h => bnd 0 lo h fun l => nv (.slice none (h - l) (cap - l)) K := rdop_slice_nil Try.underlying146 (by rw [sz_41]; simp)
@[go_sem] theorem sl_158 {H : AH} {b o len cap : Nat} {lo hi : Option Value} {K : Value → Prop} : rdop Try.prog H (Instr.sliceAt 158 (.slice (some ⟨b, o, none⟩) len cap) lo hi none) K = bnd len hi cap fun h => bnd 0 lo h fun l => nv (.slice (some ⟨b, if cap = l then o else o + l * Try.prog.cellsOf 44, none⟩) (h - l) (cap - l)) K := rdop_slice_sl Try.underlying158 (by rw [sz_44]; simp)
@[go_sem] theorem sc_158 {H : AH} {a : Option Addr} {len cap : Nat} {hi mx : Value} {K : Value → Prop} : rdop Try.prog H (Instr.sliceAt 158 (.slice a len cap) none (some hi) (some mx)) K = bnd cap (some mx) cap fun m => bnd len (some hi) m fun h => nv (.slice a h m) K := rdop_clip Try.underlying158 (by rw [sz_44]; simp)
@[go_sem] theorem sn_158 {H : AH} {len cap : Nat} {lo hi : Option Value} {K : Value → Prop} : rdop Try.prog H (Instr.sliceAt 158 (.slice none len cap) lo hi none) K = bnd len hi cap fun h => bnd 0 lo h fun l => nv (.slice none (h - l) (cap - l)) K := rdop_slice_nil Try.underlying158 (by rw [sz_44]; simp)
@[go_sem] theorem fd_7_0 {H : AH} {cs : Array Value} {K : Value → Prop} : rdop Try.prog H (Instr.field 7 (.agg cs) 0) K = wo cs[0]? fun v => nv v K := rdop_fieldF (show fdOf Try.prog 7 0 = some (0, 1, false) by kernel_rfl)
@[go_sem] theorem fd_7_1 {H : AH} {cs : Array Value} {K : Value → Prop} : rdop Try.prog H (Instr.field 7 (.agg cs) 1) K = wo cs[1]? fun v => nv v K := rdop_fieldF (show fdOf Try.prog 7 1 = some (1, 1, false) by kernel_rfl)
@[go_sem] theorem fd_7_2 {H : AH} {cs : Array Value} {K : Value → Prop} : rdop Try.prog H (Instr.field 7 (.agg cs) 2) K = wo cs[2]? fun v => nv v K := rdop_fieldF (show fdOf Try.prog 7 2 = some (2, 1, false) by kernel_rfl)
@[go_sem] theorem fd_7_3 {H : AH} {cs : Array Value} {K : Value → Prop} : rdop Try.prog H (Instr.field 7 (.agg cs) 3) K = wo cs[3]? fun v => nv v K := rdop_fieldF (show fdOf Try.prog 7 3 = some (3, 1, false) by kernel_rfl)
@[go_sem] theorem fd_8_0 {H : AH} {cs : Array Value} {K : Value → Prop} : rdop Try.prog H (Instr.field 8 (.agg cs) 0) K = wo cs[0]? fun v => nv v K := rdop_fieldF (show fdOf Try.prog 8 0 = some (0, 1, false) by kernel_rfl)
@[go_sem] theorem fd_8_1 {H : AH} {cs : Array Value} {K : Value → Prop} : rdop Try.prog H (Instr.field 8 (.agg cs) 1) K = wo cs[1]? fun v => nv v K := rdop_fieldF (show fdOf Try.prog 8 1 = some (1, 1, false) by kernel_rfl)
@[go_sem] theorem fd_8_2 {H : AH} {cs : Array Value} {K : Value → Prop} : rdop Try.prog H (Instr.field 8 (.agg cs) 2) K = wo cs[2]? fun v => nv v K := rdop_fieldF (show fdOf Try.prog 8 2 = some (2, 1, false) by kernel_rfl)
@[go_sem] theorem fd_8_3 {H : AH} {cs : Array Value} {K : Value → Prop} : rdop Try.prog H (Instr.field 8 (.agg cs) 3) K = wo cs[3]? fun v => nv v K := rdop_fieldF (show fdOf Try.prog 8 3 = some (3, 1, false) by kernel_rfl)
@[go_sem] theorem fd_13_0 {H : AH} {cs : Array Value} {K : Value → Prop} : rdop Try.prog H (Instr.field 13 (.agg cs) 0) K = wo cs[0]? fun v => nv v K := rdop_fieldF (show fdOf Try.prog 13 0 = some (0, 1, false) by kernel_rfl)
@[go_sem] theorem fd_13_1 {H : AH} {cs : Array Value} {K : Value → Prop} : rdop Try.prog H (Instr.field 13 (.agg cs) 1) K = wo cs[1]? fun v => nv v K := rdop_fieldF (show fdOf Try.prog 13 1 = some (1, 1, false) by kernel_rfl)
@[go_sem] theorem fd_14_0 {H : AH} {cs : Array Value} {K : Value → Prop} : rdop Try.prog H (Instr.field 14 (.agg cs) 0) K = wo cs[0]? fun v => nv v K := rdop_fieldF (show fdOf Try.prog 14 0 = some (0, 1, false) by kernel_rfl)
@[go_sem] theorem fd_14_1 {H : AH} {cs : Array Value} {K : Value → Prop} : rdop Try.prog H (Instr.field 14 (.agg cs) 1) K = wo cs[1]? fun v => nv v K := rdop_fieldF (show fdOf Try.prog 14 1 = some (1, 1, false) by kernel_rfl)
@[go_sem] theorem fd_18_0 {H : AH} {cs : Array Value} {K : Value → Prop} : rdop Try.prog H (Instr.field 18 (.agg cs) 0) K = wo cs[0]? fun v => nv v K := rdop_fieldF (show fdOf Try.prog 18 0 = some (0, 1, false) by kernel_rfl)
@[go_sem] theorem fd_19_0 {H : AH} {cs : Array Value} {K : Value → Prop} : rdop Try.prog H (Instr.field 19 (.agg cs) 0) K = wo cs[0]? fun v => nv v K := rdop_fieldF (show fdOf Try.prog 19 0 = some (0, 1, false) by kernel_rfl)
@[go_sem ↓] theorem se_22 : slE Try.prog 22 = some (66, 2, [(.int .u64 0), (.int .i64 0)], 16) := by kernel_rfl
@[go_sem ↓] theorem se_23 : slE Try.prog 23 = some (4, 1, [(.bool false)], 1) := by kernel_rfl
@[go_sem] theorem fd_42_0 {H : AH} {cs : Array Value} {K : Value → Prop} : rdop Try.prog H (Instr.field 42 (.agg cs) 0) K = wo cs[0]? fun v => nv v K := rdop_fieldF (show fdOf Try.prog 42 0 = some (0, 1, false) by kernel_rfl)
@[go_sem] theorem fd_42_1 {H : AH} {cs : Array Value} {K : Value → Prop} : rdop Try.prog H (Instr.field 42 (.agg cs) 1) K = wo cs[1]? fun v => nv v K := rdop_fieldF (show fdOf Try.prog 42 1 = some (1, 1, false) by kernel_rfl)
@[go_sem] theorem fd_42_2 {H : AH} {cs : Array Value} {K : Value → Prop} : rdop Try.prog H (Instr.field 42 (.agg cs) 2) K = wo cs[2]? fun v => nv v K := rdop_fieldF (show fdOf Try.prog 42 2 = some (2, 1, false) by kernel_rfl)
@[go_sem] theorem fd_42_3 {H : AH} {cs : Array Value} {K : Value → Prop} : rdop Try.prog H (Instr.field 42 (.agg cs) 3) K = wo cs[3]? fun v => nv v K := rdop_fieldF (show fdOf Try.prog 42 3 = some (3, 1, false) by kernel_rfl)
@[go_sem] theorem fd_42_4 {H : AH} {cs : Array Value} {K : Value → Prop} : rdop Try.prog H (Instr.field 42 (.agg cs) 4) K = wo cs[4]? fun v => nv v K := rdop_fieldF (show fdOf Try.prog 42 4 = some (4, 1, false) by kernel_rfl)
@[go_sem] theorem fd_42_5 {H : AH} {cs : Array Value} {K : Value → Prop} : rdop Try.prog H (Instr.field 42 (.agg cs) 5) K = nv (.agg (cs.extract 5 9)) K := rdop_fieldT (show fdOf Try.prog 42 5 = some (5, 4, true) by kernel_rfl) (by simp)
@[go_sem] theorem fd_42_6 {H : AH} {cs : Array Value} {K : Value → Prop} : rdop Try.prog H (Instr.field 42 (.agg cs) 6) K = wo cs[9]? fun v => nv v K := rdop_fieldF (show fdOf Try.prog 42 6 = some (9, 1, false) by kernel_rfl)
@[go_sem] theorem fd_43_0 {H : AH} {cs : Array Value} {K : Value → Prop} : rdop Try.prog H (Instr.field 43 (.agg cs) 0) K = wo cs[0]? fun v => nv v K := rdop_fieldF (show fdOf Try.prog 43 0 = some (0, 1, false) by kernel_rfl)
@[go_sem] theorem fd_43_1 {H : AH} {cs : Array Value} {K : Value → Prop} : rdop Try.prog H (Instr.field 43 (.agg cs) 1) K = wo cs[1]? fun v => nv v K := rdop_fieldF (show fdOf Try.prog 43 1 = some (1, 1, false) by kernel_rfl)
@[go_sem] theorem fd_43_2 {H : AH} {cs : Array Value} {K : Value → Prop} : rdop Try.prog H (Instr.field 43 (.agg cs) 2) K = wo cs[2]? fun v => nv v K := rdop_fieldF (show fdOf Try.prog 43 2 = some (2, 1, false) by kernel_rfl)
@[go_sem] theorem fd_43_3 {H : AH} {cs : Array Value} {K : Value → Prop} : rdop Try.prog H (Instr.field 43 (.agg cs) 3) K = wo cs[3]? fun v => nv v K := rdop_fieldF (show fdOf Try.prog 43 3 = some (3, 1, false) by kernel_rfl)
@[go_sem] theorem fd_43_4 {H : AH} {cs : Array Value} {K : Value → Prop} : rdop Try.prog H (Instr.field 43 (.agg cs) 4) K = wo cs[4]? fun v => nv v K := rdop_fieldF (show fdOf Try.prog 43 4 = some (4, 1, false) by kernel_rfl)
@[go_sem] theorem fd_43_5 {H : AH} {cs : Array Value} {K : Value → Prop} : rdop Try.prog H (Instr.field 43 (.agg cs) 5) K = nv (.agg (cs.extract 5 9)) K := rdop_fieldT (show fdOf Try.prog 43 5 = some (5, 4, true) by kernel_rfl) (by simp)
@[go_sem] theorem fd_43_6 {H : AH} {cs : Array Value} {K : Value → Prop} : rdop Try.prog H (Instr.field 43 (.agg cs) 6) K = wo cs[9]? fun v => nv v K := rdop_fieldF (show fdOf Try.prog 43 6 = some (9, 1, false) by kernel_rfl)
@[go_sem ↓] theorem se_44 : slE Try.prog 44 = some (5, 1, [(.int .u8 0)], 1) := by kernel_rfl
@[go_sem] theorem fd_55_0 {H : AH} {cs : Array Value} {K : Value → Prop} : rdop Try.prog H (Instr.field 55 (.agg cs) 0) K = wo cs[0]? fun v => nv v K := rdop_fieldF (show fdOf Try.prog 55 0 = some (0, 1, false) by kernel_rfl)
@[go_sem] theorem fd_55_1 {H : AH} {cs : Array Value} {K : Value → Prop} : rdop Try.prog H (Instr.field 55 (.agg cs) 1) K = wo cs[1]? fun v => nv v K := rdop_fieldF (show fdOf Try.prog 55 1 = some (1, 1, false) by kernel_rfl)
@[go_sem] theorem fd_55_2 {H : AH} {cs : Array Value} {K : Value → Prop} : rdop Try.prog H (Instr.field 55 (.agg cs) 2) K = nv (.agg (cs.extract 2 6)) K := rdop_fieldT (show fdOf Try.prog 55 2 = some (2, 4, true) by kernel_rfl) (by simp)
@[go_sem] theorem fd_56_0 {H : AH} {cs : Array Value} {K : Value → Prop} : rdop Try.prog H (Instr.field 56 (.agg cs) 0) K = wo cs[0]? fun v => nv v K := rdop_fieldF (show fdOf Try.prog 56 0 = some (0, 1, false) by kernel_rfl)
@[go_sem] theorem fd_56_1 {H : AH} {cs : Array Value} {K : Value → Prop} : rdop Try.prog H (Instr.field 56 (.agg cs) 1) K = wo cs[1]? fun v => nv v K := rdop_fieldF (show fdOf Try.prog 56 1 = some (1, 1, false) by kernel_rfl)
@[go_sem] theorem fd_56_2 {H : AH} {cs : Array Value} {K : Value → Prop} : rdop Try.prog H (Instr.field 56 (.agg cs) 2) K = nv (.agg (cs.extract 2 6)) K := rdop_fieldT (show fdOf Try.prog 56 2 = some (2, 4, true) by kernel_rfl) (by simp)
@[go_sem] theorem fd_65_0 {H : AH} {cs : Array Value} {K : Value → Prop} : rdop Try.prog H (Instr.field 65 (.agg cs) 0) K = wo cs[0]? fun v => nv v K := rdop_fieldF (show fdOf Try.prog 65 0 = some (0, 1, false) by kernel_rfl)
@[go_sem] theorem fd_65_1 {H : AH} {cs : Array Value} {K : Value → Prop} : rdop Try.prog H (Instr.field 65 (.agg cs) 1) K = wo cs[1]? fun v => nv v K := rdop_fieldF (show fdOf Try.prog 65 1 = some (1, 1, false) by kernel_rfl)
@[go_sem] theorem fd_66_0 {H : AH} {cs : Array Value} {K : Value → Prop} : rdop Try.prog H (Instr.field 66 (.agg cs) 0) K = wo cs[0]? fun v => nv v K := rdop_fieldF (show fdOf Try.prog 66 0 = some (0, 1, false) by kernel_rfl)
@[go_sem] theorem fd_66_1 {H : AH} {cs : Array Value} {K : Value → Prop} : rdop Try.prog H (Instr.field 66 (.agg cs) 1) K = wo cs[1]? fun v => nv v K := rdop_fieldF (show fdOf Try.prog 66 1 = some (1, 1, false) by kernel_rfl)
@[go_sem ↓] theorem se_68 : slE Try.prog 68 = some (79, 1, [(.slice none 0 0)], 24) := by kernel_rfl
@[go_sem] theorem fd_74_0 {H : AH} {cs : Array Value} {K : Value → Prop} : rdop Try.prog H (Instr.field 74 (.agg cs) 0) K = wo cs[0]? fun v => nv v K := rdop_fieldF (show fdOf Try.prog 74 0 = some (0, 1, false) by kernel_rfl)
@[go_sem] theorem fd_74_1 {H : AH} {cs : Array Value} {K : Value → Prop} : rdop Try.prog H (Instr.field 74 (.agg cs) 1) K = wo cs[1]? fun v => nv v K := rdop_fieldF (show fdOf Try.prog 74 1 = some (1, 1, false) by kernel_rfl)
@[go_sem] theorem fd_74_2 {H : AH} {cs : Array Value} {K : Value → Prop} : rdop Try.prog H (Instr.field 74 (.agg cs) 2) K = wo cs[2]? fun v => nv v K := rdop_fieldF (show fdOf Try.prog 74 2 = some (2, 1, false) by kernel_rfl)
@[go_sem] theorem fd_74_3 {H : AH} {cs : Array Value} {K : Value → Prop} : rdop Try.prog H (Instr.field 74 (.agg cs) 3) K = wo cs[3]? fun v => nv v K := rdop_fieldF (show fdOf Try.prog 74 3 = some (3, 1, false) by kernel_rfl)
@[go_sem] theorem fd_74_4 {H : AH} {cs : Array Value} {K : Value → Prop} : rdop Try.prog H (Instr.field 74 (.agg cs) 4) K = wo cs[4]? fun v => nv v K := rdop_fieldF (show fdOf Try.prog 74 4 = some (4, 1, false) by kernel_rfl)
@[go_sem] theorem fd_75_0 {H : AH} {cs : Array Value} {K : Value → Prop} : rdop Try.prog H (Instr.field 75 (.agg cs) 0) K = wo cs[0]? fun v => nv v K := rdop_fieldF (show fdOf Try.prog 75 0 = some (0, 1, false) by kernel_rfl)
@[go_sem] theorem fd_75_1 {H : AH} {cs : Array Value} {K : Value → Prop} : rdop Try.prog H (Instr.field 75 (.agg cs) 1) K = wo cs[1]? fun v => nv v K := rdop_fieldF (show fdOf Try.prog 75 1 = some (1, 1, false) by kernel_rfl)
@[go_sem] theorem fd_75_2 {H : AH} {cs : Array Value} {K : Value → Prop} : rdop Try.prog H (Instr.field 75 (.agg cs) 2) K = wo cs[2]? fun v => nv v K := rdop_fieldF (show fdOf Try.prog 75 2 = some (2, 1, false) by kernel_rfl)
@[go_sem] theorem fd_75_3 {H : AH} {cs : Array Value} {K : Value → Prop} : rdop Try.prog H (Instr.field 75 (.agg cs) 3) K = wo cs[3]? fun v => nv v K := rdop_fieldF (show fdOf Try.prog 75 3 = some (3, 1, false) by kernel_rfl)
@[go_sem] theorem fd_75_4 {H : AH} {cs : Array Value} {K : Value → Prop} : rdop Try.prog H (Instr.field 75 (.agg cs) 4) K = wo cs[4]? fun v => nv v K := rdop_fieldF (show fdOf Try.prog 75 4 = some (4, 1, false) by kernel_rfl)
@[go_sem ↓] theorem se_79 : slE Try.prog 79 = some (75, 5, [(.int .i64 0), (.int .i64 0), (.int .i64 0), (.int .i64 0), (.int .i64 0)], 40) := by kernel_rfl
@[go_sem ↓] theorem se_81 : slE Try.prog 81 = some (91, 2, [(.int .i64 0), (.int .i64 0)], 16) := by kernel_rfl
@[go_sem] theorem fd_90_0 {H : AH} {cs : Array Value} {K : Value → Prop} : rdop Try.prog H (Instr.field 90 (.agg cs) 0) K = wo cs[0]? fun v => nv v K := rdop_fieldF (show fdOf Try.prog 90 0 = some (0, 1, false) by kernel_rfl)
@[go_sem] theorem fd_90_1 {H : AH} {cs : Array Value} {K : Value → Prop} : rdop Try.prog H (Instr.field 90 (.agg cs) 1) K = wo cs[1]? fun v => nv v K := rdop_fieldF (show fdOf Try.prog 90 1 = some (1, 1, false) by kernel_rfl)
@[go_sem] theorem fd_91_0 {H : AH} {cs : Array Value} {K : Value → Prop} : rdop Try.prog H (Instr.field 91 (.agg cs) 0) K = wo cs[0]? fun v => nv v K := rdop_fieldF (show fdOf Try.prog 91 0 = some (0, 1, false) by kernel_rfl)
@[go_sem] theorem fd_91_1 {H : AH} {cs : Array Value} {K : Value → Prop} : rdop Try.prog H (Instr.field 91 (.agg cs) 1) K = wo cs[1]? fun v => nv v K := rdop_fieldF (show fdOf Try.prog 91 1 = some (1, 1, false) by kernel_rfl)
@[go_sem ↓] theorem se_93 : slE Try.prog 93 = some (140, 2, [(.int .i64 0), (.int .i64 0)], 16) := by kernel_rfl
@[go_sem] theorem fd_105_0 {H : AH} {cs : Array Value} {K : Value → Prop} : rdop Try.prog H (Instr.field 105 (.agg cs) 0) K = wo cs[0]? fun v => nv v K := rdop_fieldF (show fdOf Try.prog 105 0 = some (0, 1, false) by kernel_rfl)
@[go_sem] theorem fd_105_1 {H : AH} {cs : Array Value} {K : Value → Prop} : rdop Try.prog H (Instr.field 105 (.agg cs) 1) K = wo cs[1]? fun v => nv v K := rdop_fieldF (show fdOf Try.prog 105 1 = some (1, 1, false) by kernel_rfl)
@[go_sem] theorem fd_105_2 {H : AH} {cs : Array Value} {K : Value → Prop} : rdop Try.prog H (Instr.field 105 (.agg cs) 2) K = wo cs[2]? fun v => nv v K := rdop_fieldF (show fdOf Try.prog 105 2 = some (2, 1, false) by kernel_rfl)
@[go_sem] theorem fd_106_0 {H : AH} {cs : Array Value} {K : Value → Prop} : rdop Try.prog H (Instr.field 106 (.agg cs) 0) K = wo cs[0]? fun v => nv v K := rdop_fieldF (show fdOf Try.prog 106 0 = some (0, 1, false) by kernel_rfl)
@[go_sem] theorem fd_106_1 {H : AH} {cs : Array Value} {K : Value → Prop} : rdop Try.prog H (Instr.field 106 (.agg cs) 1) K = wo cs[1]? fun v => nv v K := rdop_fieldF (show fdOf Try.prog 106 1 = some (1, 1, false) by kernel_rfl)
@[go_sem] theorem fd_106_2 {H : AH} {cs : Array Value} {K : Value → Prop} : rdop Try.prog H (Instr.field 106 (.agg cs) 2) K = wo cs[2]? fun v => nv v K := rdop_fieldF (show fdOf Try.prog 106 2 = some (2, 1, false) by kernel_rfl)
@[go_sem ↓] theorem me_124 : mpE Try.prog 124 = some (.int .u64, (.bool false)) := by kernel_rfl
@[go_sem ↓] theorem me_125 : mpE Try.prog 125 = some (.int .i64, (.bool false)) := by kernel_rfl
@[go_sem ↓] theorem se_126 : slE Try.prog 126 = some (28, 1, [(.int .i64 0)], 8) := by kernel_rfl
@[go_sem ↓] theorem se_132 : slE Try.prog 132 = some (81, 1, [(.slice none 0 0)], 24) := by kernel_rfl
@[go_sem] theorem fd_139_0 {H : AH} {cs : Array Value} {K : Value → Prop} : rdop Try.prog H (Instr.field 139 (.agg cs) 0) K = wo cs[0]? fun v => nv v K := rdop_fieldF (show fdOf Try.prog 139 0 = some (0, 1, false) by kernel_rfl)
@[go_sem] theorem fd_139_1 {H : AH} {cs : Array Value} {K : Value → Prop} : rdop Try.prog H (Instr.field 139 (.agg cs) 1) K = wo cs[1]? fun v => nv v K := rdop_fieldF (show fdOf Try.prog 139 1 = some (1, 1, false) by kernel_rfl)
@[go_sem] theorem fd_140_0 {H : AH} {cs : Array Value} {K : Value → Prop} : rdop Try.prog H (Instr.field 140 (.agg cs) 0) K = wo cs[0]? fun v => nv v K := rdop_fieldF (show fdOf Try.prog 140 0 = some (0, 1, false) by kernel_rfl)
@[go_sem] theorem fd_140_1 {H : AH} {cs : Array Value} {K : Value → Prop} : rdop Try.prog H (Instr.field 140 (.agg cs) 1) K = wo cs[1]? fun v => nv v K := rdop_fieldF (show fdOf Try.prog 140 1 = some (1, 1, false) by kernel_rfl)
@[go_sem ↓] theorem se_146 : slE Try.prog 146 = some (41, 4, [(.int .u8 0), (.int .u8 0), (.int .u8 0), (.int .u8 0)], 4) := by kernel_rfl
@[go_sem] theorem fd_147_0 {H : AH} {cs : Array Value} {K : Value → Prop} : rdop Try.prog H (Instr.field 147 (.agg cs) 0) K = wo cs[0]? fun v => nv v K := rdop_fieldF (show fdOf Try.prog 147 0 = some (0, 1, false) by kernel_rfl)
@[go_sem] theorem fd_147_1 {H : AH} {cs : Array Value} {K : Value → Prop} : rdop Try.prog H (Instr.field 147 (.agg cs) 1) K = wo cs[1]? fun v => nv v K := rdop_fieldF (show fdOf Try.prog 147 1 = some (1, 1, false) by kernel_rfl)
@[go_sem] theorem fd_148_0 {H : AH} {cs : Array Value} {K : Value → Prop} : rdop Try.prog H (Instr.field 148 (.agg cs) 0) K = wo cs[0]? fun v => nv v K := rdop_fieldF (show fdOf Try.prog 148 0 = some (0, 1, false) by kernel_rfl)
@[go_sem] theorem fd_148_1 {H : AH} {cs : Array Value} {K : Value → Prop} : rdop Try.prog H (Instr.field 148 (.agg cs) 1) K = wo cs[1]? fun v => nv v K := rdop_fieldF (show fdOf Try.prog 148 1 = some (1, 1, false) by kernel_rfl)
@[go_sem ↓] theorem se_158 : slE Try.prog 158 = some (44, 1, [(.slice none 0 0)], 24) := by kernel_rfl
@[go_sem] theorem fd_182_0 {H : AH} {cs : Array Value} {K : Value → Prop} : rdop Try.prog H (Instr.field 182 (.agg cs) 0) K = wo cs[0]? fun v => nv v K := rdop_fieldF (show fdOf Try.prog 182 0 = some (0, 1, false) by kernel_rfl)
@[go_sem] theorem fd_182_1 {H : AH} {cs : Array Value} {K : Value → Prop} : rdop Try.prog H (Instr.field 182 (.agg cs) 1) K = wo cs[1]? fun v => nv v K := rdop_fieldF (show fdOf Try.prog 182 1 = some (1, 1, false) by kernel_rfl)
@[go_sem] theorem fd_182_2 {H : AH} {cs : Array Value} {K : Value → Prop} : rdop Try.prog H (Instr.field 182 (.agg cs) 2) K = wo cs[2]? fun v => nv v K := rdop_fieldF (show fdOf Try.prog 182 2 = some (2, 1, false) by kernel_rfl)
@[go_sem] theorem fd_182_3 {H : AH} {cs : Array Value} {K : Value → Prop} : rdop Try.prog H (Instr.field 182 (.agg cs) 3) K = wo cs[3]? fun v => nv v K := rdop_fieldF (show fdOf Try.prog 182 3 = some (3, 1, false) by kernel_rfl)
@[go_sem] theorem fd_183_0 {H : AH} {cs : Array Value} {K : Value → Prop} : rdop Try.prog H (Instr.field 183 (.agg cs) 0) K = wo cs[0]? fun v => nv v K := rdop_fieldF (show fdOf Try.prog 183 0 = some (0, 1, false) by kernel_rfl)
@[go_sem] theorem fd_183_1 {H : AH} {cs : Array Value} {K : Value → Prop} : rdop Try.prog H (Instr.field 183 (.agg cs) 1) K = wo cs[1]? fun v => nv v K := rdop_fieldF (show fdOf Try.prog 183 1 = some (1, 1, false) by kernel_rfl)
@[go_sem] theorem fd_183_2 {H : AH} {cs : Array Value} {K : Value → Prop} : rdop Try.prog H (Instr.field 183 (.agg cs) 2) K = wo cs[2]? fun v => nv v K := rdop_fieldF (show fdOf Try.prog 183 2 = some (2, 1, false) by kernel_rfl)
@[go_sem] theorem fd_183_3 {H : AH} {cs : Array Value} {K : Value → Prop} : rdop Try.prog H (Instr.field 183 (.agg cs) 3) K = wo cs[3]? fun v => nv v K := rdop_fieldF (show fdOf Try.prog 183 3 = some (3, 1, false) by kernel_rfl)
@[go_sem] theorem fd_194_0 {H : AH} {cs : Array Value} {K : Value → Prop} : rdop Try.prog H (Instr.field 194 (.agg cs) 0) K = wo cs[0]? fun v => nv v K := rdop_fieldF (show fdOf Try.prog 194 0 = some (0, 1, false) by kernel_rfl)
@[go_sem] theorem fd_194_1 {H : AH} {cs : Array Value} {K : Value → Prop} : rdop Try.prog H (Instr.field 194 (.agg cs) 1) K = wo cs[1]? fun v => nv v K := rdop_fieldF (show fdOf Try.prog 194 1 = some (1, 1, false) by kernel_rfl)
@[go_sem] theorem fd_194_2 {H : AH} {cs : Array Value} {K : Value → Prop} : rdop Try.prog H (Instr.field 194 (.agg cs) 2) K = wo cs[2]? fun v => nv v K := rdop_fieldF (show fdOf Try.prog 194 2 = some (2, 1, false) by kernel_rfl)
@[go_sem] theorem fd_194_3 {H : AH} {cs : Array Value} {K : Value → Prop} : rdop Try.prog H (Instr.field 194 (.agg cs) 3) K = wo cs[3]? fun v => nv v K := rdop_fieldF (show fdOf Try.prog 194 3 = some (3, 1, false) by kernel_rfl)
@[go_sem] theorem fd_194_4 {H : AH} {cs : Array Value} {K : Value → Prop} : rdop Try.prog H (Instr.field 194 (.agg cs) 4) K = wo cs[4]? fun v => nv v K := rdop_fieldF (show fdOf Try.prog 194 4 = some (4, 1, false) by kernel_rfl)
@[go_sem] theorem fd_194_5 {H : AH} {cs : Array Value} {K : Value → Prop} : rdop Try.prog H (Instr.field 194 (.agg cs) 5) K = wo cs[5]? fun v => nv v K := rdop_fieldF (show fdOf Try.prog 194 5 = some (5, 1, false) by kernel_rfl)
@[go_sem] theorem fd_194_6 {H : AH} {cs : Array Value} {K : Value → Prop} : rdop Try.prog H (Instr.field 194 (.agg cs) 6) K = wo cs[6]? fun v => nv v K := rdop_fieldF (show fdOf Try.prog 194 6 = some (6, 1, false) by kernel_rfl)
@[go_sem] theorem fd_194_7 {H : AH} {cs : Array Value} {K : Value → Prop} : rdop Try.prog H (Instr.field 194 (.agg cs) 7) K = wo cs[7]? fun v => nv v K := rdop_fieldF (show fdOf Try.prog 194 7 = some (7, 1, false) by kernel_rfl)
@[go_sem] theorem fd_194_8 {H : AH} {cs : Array Value} {K : Value → Prop} : rdop Try.prog H (Instr.field 194 (.agg cs) 8) K = wo cs[8]? fun v => nv v K := rdop_fieldF (show fdOf Try.prog 194 8 = some (8, 1, false) by kernel_rfl)
@[go_sem] theorem fd_194_9 {H : AH} {cs : Array Value} {K : Value → Prop} : rdop Try.prog H (Instr.field 194 (.agg cs) 9) K = wo cs[9]? fun v => nv v K := rdop_fieldF (show fdOf Try.prog 194 9 = some (9, 1, false) by kernel_rfl)
@[go_sem] theorem fd_194_10 {H : AH} {cs : Array Value} {K : Value → Prop} : rdop Try.prog H (Instr.field 194 (.agg cs) 10) K = wo cs[10]? fun v => nv v K := rdop_fieldF (show fdOf Try.prog 194 10 = some (10, 1, false) by kernel_rfl)
@[go_sem] theorem fd_195_0 {H : AH} {cs : Array Value} {K : Value → Prop} : rdop Try.prog H (Instr.field 195 (.agg cs) 0) K = wo cs[0]? fun v => nv v K := rdop_fieldF (show fdOf Try.prog 195 0 = some (0, 1, false) by kernel_rfl)
@[go_sem] theorem fd_195_1 {H : AH} {cs : Array Value} {K : Value → Prop} : rdop Try.prog H (Instr.field 195 (.agg cs) 1) K = wo cs[1]? fun v => nv v K := rdop_fieldF (show fdOf Try.prog 195 1 = some (1, 1, false) by kernel_rfl)
@[go_sem] theorem fd_195_2 {H : AH} {cs : Array Value} {K : Value → Prop} : rdop Try.prog H (Instr.field 195 (.agg cs) 2) K = wo cs[2]? fun v => nv v K := rdop_fieldF (show fdOf Try.prog 195 2 = some (2, 1, false) by kernel_rfl)
@[go_sem] theorem fd_195_3 {H : AH} {cs : Array Value} {K : Value → Prop} : rdop Try.prog H (Instr.field 195 (.agg cs) 3) K = wo cs[3]? fun v => nv v K := rdop_fieldF (show fdOf Try.prog 195 3 = some (3, 1, false) by kernel_rfl)
@[go_sem] theorem fd_195_4 {H : AH} {cs : Array Value} {K : Value → Prop} : rdop Try.prog H (Instr.field 195 (.agg cs) 4) K = wo cs[4]? fun v => nv v K := rdop_fieldF (show fdOf Try.prog 195 4 = some (4, 1, false) by kernel_rfl)
@[go_sem] theorem fd_195_5 {H : AH} {cs : Array Value} {K : Value → Prop} : rdop Try.prog H (Instr.field 195 (.agg cs) 5) K = wo cs[5]? fun v => nv v K := rdop_fieldF (show fdOf Try.prog 195 5 = some (5, 1, false) by kernel_rfl)
@[go_sem] theorem fd_195_6 {H : AH} {cs : Array Value} {K : Value → Prop} : rdop Try.prog H (Instr.field 195 (.agg cs) 6) K = wo cs[6]? fun v => nv v K := rdop_fieldF (show fdOf Try.prog 195 6 = some (6, 1, false) by kernel_rfl)
@[go_sem] theorem fd_195_7 {H : AH} {cs : Array Value} {K : Value → Prop} : rdop Try.prog H (Instr.field 195 (.agg cs) 7) K = wo cs[7]? fun v => nv v K := rdop_fieldF (show fdOf Try.prog 195 7 = some (7, 1, false) by kernel_rfl)
@[go_sem] theorem fd_195_8 {H : AH} {cs : Array Value} {K : Value → Prop} : rdop Try.prog H (Instr.field 195 (.agg cs) 8) K = wo cs[8]? fun v => nv v K := rdop_fieldF (show fdOf Try.prog 195 8 = some (8, 1, false) by kernel_rfl)
@[go_sem] theorem fd_195_9 {H : AH} {cs : Array Value} {K : Value → Prop} : rdop Try.prog H (Instr.field 195 (.agg cs) 9) K = wo cs[9]? fun v => nv v K := rdop_fieldF (show fdOf Try.prog 195 9 = some (9, 1, false) by kernel_rfl)
@[go_sem] theorem fd_195_10 {H : AH} {cs : Array Value} {K : Value → Prop} : rdop Try.prog H (Instr.field 195 (.agg cs) 10) K = wo cs[10]? fun v => nv v K := rdop_fieldF (show fdOf Try.prog 195 10 = some (10, 1, false) by kernel_rfl)
theorem eg_7 : Try.prog.eqGuardType Try.prog.depth 7 = false := by kernel_rfl
theorem st_7 : Try.prog.stoodInHeld 7 = false := by kernel_rfl
theorem eqi_7 {H : AH} {m : Nat} (a0 b0 : Int) (a1 b1 : Int) (a2 b2 : Bool) (a3 b3 : Int) : qrun Try.prog (Op.equalIn (m + 2) 7 (.agg #[.int .i64 a0, .int .i64 a1, .bool a2, .int .u8 a3]) (.agg #[.int .i64 b0, .int .i64 b1, .bool b2, .int .u8 b3])) H = some ((a0 == b0) && ((a1 == b1) && ((a2 == b2) && (a3 == b3)))) := by
  have h := eqIn_struct (P := Try.prog) (H := H) (m := m + 1) (xs := #[.int .i64 a0, .int .i64 a1, .bool a2, .int .u8 a3]) (ys := #[.int .i64 b0, .int .i64 b1, .bool b2, .int .u8 b3]) (T := fun f => if f.offset = 0 then (a0 == b0) else if f.offset = 1 then (a1 == b1) else if f.offset = 2 then (a2 == b2) else if f.offset = 3 then (a3 == b3) else true) Try.underlying7 st_7 (by
    simp only [List.mem_cons, List.not_mem_nil, or_false]
    rintro f (rfl | rfl | rfl | rfl)
    · exact ⟨by decide, (.int .i64 a0), (.int .i64 b0), part_scal ag_2 rfl, part_scal ag_2 rfl, eqIn_int Try.underlying2⟩
    · exact ⟨by decide, (.int .i64 a1), (.int .i64 b1), part_scal ag_3 rfl, part_scal ag_3 rfl, eqIn_int Try.underlying3⟩
    · exact ⟨by decide, (.bool a2), (.bool b2), part_scal ag_4 rfl, part_scal ag_4 rfl, eqIn_bool Try.underlying4⟩
    · exact ⟨by decide, (.int .u8 a3), (.int .u8 b3), part_scal ag_6 rfl, part_scal ag_6 rfl, eqIn_int Try.underlying6⟩)
  rw [h]; simp [Bool.and_assoc]
@[go_sem] theorem eql_7 {H : AH} {u : Option TypeDesc} {x y : Operand} {kk : Value → Prop} {a0 b0 : Int} {a1 b1 : Int} {a2 b2 : Bool} {a3 b3 : Int} : bin u Try.prog H .eql 7 x y (.agg #[.int .i64 a0, .int .i64 a1, .bool a2, .int .u8 a3]) (.agg #[.int .i64 b0, .int .i64 b1, .bool b2, .int .u8 b3]) kk = (u = Try.prog.underlying 7 ∧ nv (.bool ((a0 == b0) && ((a1 == b1) && ((a2 == b2) && (a3 == b3))))) kk) := bin_eql_of (eqg_agg eg_7) rfl fun _ => eqi_7 (m := 9998) a0 b0 a1 b1 a2 b2 a3 b3
@[go_sem] theorem neq_7 {H : AH} {u : Option TypeDesc} {x y : Operand} {kk : Value → Prop} {a0 b0 : Int} {a1 b1 : Int} {a2 b2 : Bool} {a3 b3 : Int} : bin u Try.prog H .neq 7 x y (.agg #[.int .i64 a0, .int .i64 a1, .bool a2, .int .u8 a3]) (.agg #[.int .i64 b0, .int .i64 b1, .bool b2, .int .u8 b3]) kk = (u = Try.prog.underlying 7 ∧ nv (.bool (!((a0 == b0) && ((a1 == b1) && ((a2 == b2) && (a3 == b3)))))) kk) := bin_neq_of (eqg_agg eg_7) rfl fun _ => eqi_7 (m := 9998) a0 b0 a1 b1 a2 b2 a3 b3
theorem eg_8 : Try.prog.eqGuardType Try.prog.depth 8 = false := by kernel_rfl
theorem st_8 : Try.prog.stoodInHeld 8 = false := by kernel_rfl
theorem eqi_8 {H : AH} {m : Nat} (a0 b0 : Int) (a1 b1 : Int) (a2 b2 : Bool) (a3 b3 : Int) : qrun Try.prog (Op.equalIn (m + 2) 8 (.agg #[.int .i64 a0, .int .i64 a1, .bool a2, .int .u8 a3]) (.agg #[.int .i64 b0, .int .i64 b1, .bool b2, .int .u8 b3])) H = some ((a0 == b0) && ((a1 == b1) && ((a2 == b2) && (a3 == b3)))) := by
  have h := eqIn_struct (P := Try.prog) (H := H) (m := m + 1) (xs := #[.int .i64 a0, .int .i64 a1, .bool a2, .int .u8 a3]) (ys := #[.int .i64 b0, .int .i64 b1, .bool b2, .int .u8 b3]) (T := fun f => if f.offset = 0 then (a0 == b0) else if f.offset = 1 then (a1 == b1) else if f.offset = 2 then (a2 == b2) else if f.offset = 3 then (a3 == b3) else true) Try.underlying8 st_8 (by
    simp only [List.mem_cons, List.not_mem_nil, or_false]
    rintro f (rfl | rfl | rfl | rfl)
    · exact ⟨by decide, (.int .i64 a0), (.int .i64 b0), part_scal ag_2 rfl, part_scal ag_2 rfl, eqIn_int Try.underlying2⟩
    · exact ⟨by decide, (.int .i64 a1), (.int .i64 b1), part_scal ag_3 rfl, part_scal ag_3 rfl, eqIn_int Try.underlying3⟩
    · exact ⟨by decide, (.bool a2), (.bool b2), part_scal ag_4 rfl, part_scal ag_4 rfl, eqIn_bool Try.underlying4⟩
    · exact ⟨by decide, (.int .u8 a3), (.int .u8 b3), part_scal ag_6 rfl, part_scal ag_6 rfl, eqIn_int Try.underlying6⟩)
  rw [h]; simp [Bool.and_assoc]
@[go_sem] theorem eql_8 {H : AH} {u : Option TypeDesc} {x y : Operand} {kk : Value → Prop} {a0 b0 : Int} {a1 b1 : Int} {a2 b2 : Bool} {a3 b3 : Int} : bin u Try.prog H .eql 8 x y (.agg #[.int .i64 a0, .int .i64 a1, .bool a2, .int .u8 a3]) (.agg #[.int .i64 b0, .int .i64 b1, .bool b2, .int .u8 b3]) kk = (u = Try.prog.underlying 8 ∧ nv (.bool ((a0 == b0) && ((a1 == b1) && ((a2 == b2) && (a3 == b3))))) kk) := bin_eql_of (eqg_agg eg_8) rfl fun _ => eqi_8 (m := 9998) a0 b0 a1 b1 a2 b2 a3 b3
@[go_sem] theorem neq_8 {H : AH} {u : Option TypeDesc} {x y : Operand} {kk : Value → Prop} {a0 b0 : Int} {a1 b1 : Int} {a2 b2 : Bool} {a3 b3 : Int} : bin u Try.prog H .neq 8 x y (.agg #[.int .i64 a0, .int .i64 a1, .bool a2, .int .u8 a3]) (.agg #[.int .i64 b0, .int .i64 b1, .bool b2, .int .u8 b3]) kk = (u = Try.prog.underlying 8 ∧ nv (.bool (!((a0 == b0) && ((a1 == b1) && ((a2 == b2) && (a3 == b3)))))) kk) := bin_neq_of (eqg_agg eg_8) rfl fun _ => eqi_8 (m := 9998) a0 b0 a1 b1 a2 b2 a3 b3
theorem eg_40 : Try.prog.eqGuardType Try.prog.depth 40 = false := by kernel_rfl
theorem eqi_40 {H : AH} {m : Nat} (a0 b0 : Int) (a1 b1 : Int) (a2 b2 : Int) (a3 b3 : Int) : qrun Try.prog (Op.equalIn (m + 2) 40 (.agg #[.int .u8 a0, .int .u8 a1, .int .u8 a2, .int .u8 a3]) (.agg #[.int .u8 b0, .int .u8 b1, .int .u8 b2, .int .u8 b3])) H = some ((a0 == b0) && ((a1 == b1) && ((a2 == b2) && (a3 == b3)))) := by
  have h := eqIn_array (P := Try.prog) (H := H) (m := m + 1) (xs := #[.int .u8 a0, .int .u8 a1, .int .u8 a2, .int .u8 a3]) (ys := #[.int .u8 b0, .int .u8 b1, .int .u8 b2, .int .u8 b3]) (T := fun i => ([(a0 == b0), (a1 == b1), (a2 == b2), (a3 == b3)] : List Bool).getD i false) Try.underlying40 (info_sz sz_5 (by simp)) (fun i hi => by
    match i, hi with
    | 0, _ => exact ⟨(.int .u8 a0), (.int .u8 b0), part_scal ag_5 rfl, part_scal ag_5 rfl, eqIn_int Try.underlying5⟩
    | 1, _ => exact ⟨(.int .u8 a1), (.int .u8 b1), part_scal ag_5 rfl, part_scal ag_5 rfl, eqIn_int Try.underlying5⟩
    | 2, _ => exact ⟨(.int .u8 a2), (.int .u8 b2), part_scal ag_5 rfl, part_scal ag_5 rfl, eqIn_int Try.underlying5⟩
    | 3, _ => exact ⟨(.int .u8 a3), (.int .u8 b3), part_scal ag_5 rfl, part_scal ag_5 rfl, eqIn_int Try.underlying5⟩
    | _ + 4, hi => omega)
  rw [h]; simp [List.range_succ, Bool.and_assoc]
@[go_sem] theorem eql_40 {H : AH} {u : Option TypeDesc} {x y : Operand} {kk : Value → Prop} {a0 b0 : Int} {a1 b1 : Int} {a2 b2 : Int} {a3 b3 : Int} : bin u Try.prog H .eql 40 x y (.agg #[.int .u8 a0, .int .u8 a1, .int .u8 a2, .int .u8 a3]) (.agg #[.int .u8 b0, .int .u8 b1, .int .u8 b2, .int .u8 b3]) kk = (u = Try.prog.underlying 40 ∧ nv (.bool ((a0 == b0) && ((a1 == b1) && ((a2 == b2) && (a3 == b3))))) kk) := bin_eql_of (eqg_agg eg_40) rfl fun _ => eqi_40 (m := 9998) a0 b0 a1 b1 a2 b2 a3 b3
@[go_sem] theorem neq_40 {H : AH} {u : Option TypeDesc} {x y : Operand} {kk : Value → Prop} {a0 b0 : Int} {a1 b1 : Int} {a2 b2 : Int} {a3 b3 : Int} : bin u Try.prog H .neq 40 x y (.agg #[.int .u8 a0, .int .u8 a1, .int .u8 a2, .int .u8 a3]) (.agg #[.int .u8 b0, .int .u8 b1, .int .u8 b2, .int .u8 b3]) kk = (u = Try.prog.underlying 40 ∧ nv (.bool (!((a0 == b0) && ((a1 == b1) && ((a2 == b2) && (a3 == b3)))))) kk) := bin_neq_of (eqg_agg eg_40) rfl fun _ => eqi_40 (m := 9998) a0 b0 a1 b1 a2 b2 a3 b3
theorem eg_41 : Try.prog.eqGuardType Try.prog.depth 41 = false := by kernel_rfl
theorem eqi_41 {H : AH} {m : Nat} (a0 b0 : Int) (a1 b1 : Int) (a2 b2 : Int) (a3 b3 : Int) : qrun Try.prog (Op.equalIn (m + 2) 41 (.agg #[.int .u8 a0, .int .u8 a1, .int .u8 a2, .int .u8 a3]) (.agg #[.int .u8 b0, .int .u8 b1, .int .u8 b2, .int .u8 b3])) H = some ((a0 == b0) && ((a1 == b1) && ((a2 == b2) && (a3 == b3)))) := by
  have h := eqIn_array (P := Try.prog) (H := H) (m := m + 1) (xs := #[.int .u8 a0, .int .u8 a1, .int .u8 a2, .int .u8 a3]) (ys := #[.int .u8 b0, .int .u8 b1, .int .u8 b2, .int .u8 b3]) (T := fun i => ([(a0 == b0), (a1 == b1), (a2 == b2), (a3 == b3)] : List Bool).getD i false) Try.underlying41 (info_sz sz_5 (by simp)) (fun i hi => by
    match i, hi with
    | 0, _ => exact ⟨(.int .u8 a0), (.int .u8 b0), part_scal ag_5 rfl, part_scal ag_5 rfl, eqIn_int Try.underlying5⟩
    | 1, _ => exact ⟨(.int .u8 a1), (.int .u8 b1), part_scal ag_5 rfl, part_scal ag_5 rfl, eqIn_int Try.underlying5⟩
    | 2, _ => exact ⟨(.int .u8 a2), (.int .u8 b2), part_scal ag_5 rfl, part_scal ag_5 rfl, eqIn_int Try.underlying5⟩
    | 3, _ => exact ⟨(.int .u8 a3), (.int .u8 b3), part_scal ag_5 rfl, part_scal ag_5 rfl, eqIn_int Try.underlying5⟩
    | _ + 4, hi => omega)
  rw [h]; simp [List.range_succ, Bool.and_assoc]
@[go_sem] theorem eql_41 {H : AH} {u : Option TypeDesc} {x y : Operand} {kk : Value → Prop} {a0 b0 : Int} {a1 b1 : Int} {a2 b2 : Int} {a3 b3 : Int} : bin u Try.prog H .eql 41 x y (.agg #[.int .u8 a0, .int .u8 a1, .int .u8 a2, .int .u8 a3]) (.agg #[.int .u8 b0, .int .u8 b1, .int .u8 b2, .int .u8 b3]) kk = (u = Try.prog.underlying 41 ∧ nv (.bool ((a0 == b0) && ((a1 == b1) && ((a2 == b2) && (a3 == b3))))) kk) := bin_eql_of (eqg_agg eg_41) rfl fun _ => eqi_41 (m := 9998) a0 b0 a1 b1 a2 b2 a3 b3
@[go_sem] theorem neq_41 {H : AH} {u : Option TypeDesc} {x y : Operand} {kk : Value → Prop} {a0 b0 : Int} {a1 b1 : Int} {a2 b2 : Int} {a3 b3 : Int} : bin u Try.prog H .neq 41 x y (.agg #[.int .u8 a0, .int .u8 a1, .int .u8 a2, .int .u8 a3]) (.agg #[.int .u8 b0, .int .u8 b1, .int .u8 b2, .int .u8 b3]) kk = (u = Try.prog.underlying 41 ∧ nv (.bool (!((a0 == b0) && ((a1 == b1) && ((a2 == b2) && (a3 == b3)))))) kk) := bin_neq_of (eqg_agg eg_41) rfl fun _ => eqi_41 (m := 9998) a0 b0 a1 b1 a2 b2 a3 b3
theorem eg_42 : Try.prog.eqGuardType Try.prog.depth 42 = false := by kernel_rfl
theorem st_42 : Try.prog.stoodInHeld 42 = false := by kernel_rfl
theorem eqi_42 {H : AH} {m : Nat} (a0 b0 : Int) (a1 b1 : Int) (a2 b2 : Int) (a3 b3 : Int) (a4 b4 : Int) (a5 b5 : Int) (a6 b6 : Int) (a7 b7 : Int) (a8 b8 : Int) (a9 b9 : Int) : qrun Try.prog (Op.equalIn (m + 3) 42 (.agg #[.int .i64 a0, .int .i64 a1, .int .i64 a2, .int .i64 a3, .int .i64 a4, .int .u8 a5, .int .u8 a6, .int .u8 a7, .int .u8 a8, .int .i64 a9]) (.agg #[.int .i64 b0, .int .i64 b1, .int .i64 b2, .int .i64 b3, .int .i64 b4, .int .u8 b5, .int .u8 b6, .int .u8 b7, .int .u8 b8, .int .i64 b9])) H = some ((a0 == b0) && ((a1 == b1) && ((a2 == b2) && ((a3 == b3) && ((a4 == b4) && ((a5 == b5) && ((a6 == b6) && ((a7 == b7) && ((a8 == b8) && (a9 == b9)))))))))) := by
  have h := eqIn_struct (P := Try.prog) (H := H) (m := m + 2) (xs := #[.int .i64 a0, .int .i64 a1, .int .i64 a2, .int .i64 a3, .int .i64 a4, .int .u8 a5, .int .u8 a6, .int .u8 a7, .int .u8 a8, .int .i64 a9]) (ys := #[.int .i64 b0, .int .i64 b1, .int .i64 b2, .int .i64 b3, .int .i64 b4, .int .u8 b5, .int .u8 b6, .int .u8 b7, .int .u8 b8, .int .i64 b9]) (T := fun f => if f.offset = 0 then (a0 == b0) else if f.offset = 1 then (a1 == b1) else if f.offset = 2 then (a2 == b2) else if f.offset = 3 then (a3 == b3) else if f.offset = 4 then (a4 == b4) else if f.offset = 5 then ((a5 == b5) && ((a6 == b6) && ((a7 == b7) && (a8 == b8)))) else if f.offset = 9 then (a9 == b9) else true) Try.underlying42 st_42 (by
    simp only [List.mem_cons, List.not_mem_nil, or_false]
    rintro f (rfl | rfl | rfl | rfl | rfl | rfl | rfl)
    · exact ⟨by decide, (.int .i64 a0), (.int .i64 b0), part_scal ag_3 rfl, part_scal ag_3 rfl, eqIn_int Try.underlying3⟩
    · exact ⟨by decide, (.int .i64 a1), (.int .i64 b1), part_scal ag_3 rfl, part_scal ag_3 rfl, eqIn_int Try.underlying3⟩
    · exact ⟨by decide, (.int .i64 a2), (.int .i64 b2), part_scal ag_3 rfl, part_scal ag_3 rfl, eqIn_int Try.underlying3⟩
    · exact ⟨by decide, (.int .i64 a3), (.int .i64 b3), part_scal ag_3 rfl, part_scal ag_3 rfl, eqIn_int Try.underlying3⟩
    · exact ⟨by decide, (.int .i64 a4), (.int .i64 b4), part_scal ag_3 rfl, part_scal ag_3 rfl, eqIn_int Try.underlying3⟩
    · exact ⟨by decide, (.agg #[.int .u8 a5, .int .u8 a6, .int .u8 a7, .int .u8 a8]), (.agg #[.int .u8 b5, .int .u8 b6, .int .u8 b7, .int .u8 b8]), part_agg ag_41 (info_sz sz_41 (by simp)), part_agg ag_41 (info_sz sz_41 (by simp)), eqi_41 (m := m + 0) a5 b5 a6 b6 a7 b7 a8 b8⟩
    · exact ⟨by decide, (.int .i64 a9), (.int .i64 b9), part_scal ag_3 rfl, part_scal ag_3 rfl, eqIn_int Try.underlying3⟩)
  rw [h]; simp [Bool.and_assoc]
@[go_sem] theorem eql_42 {H : AH} {u : Option TypeDesc} {x y : Operand} {kk : Value → Prop} {a0 b0 : Int} {a1 b1 : Int} {a2 b2 : Int} {a3 b3 : Int} {a4 b4 : Int} {a5 b5 : Int} {a6 b6 : Int} {a7 b7 : Int} {a8 b8 : Int} {a9 b9 : Int} : bin u Try.prog H .eql 42 x y (.agg #[.int .i64 a0, .int .i64 a1, .int .i64 a2, .int .i64 a3, .int .i64 a4, .int .u8 a5, .int .u8 a6, .int .u8 a7, .int .u8 a8, .int .i64 a9]) (.agg #[.int .i64 b0, .int .i64 b1, .int .i64 b2, .int .i64 b3, .int .i64 b4, .int .u8 b5, .int .u8 b6, .int .u8 b7, .int .u8 b8, .int .i64 b9]) kk = (u = Try.prog.underlying 42 ∧ nv (.bool ((a0 == b0) && ((a1 == b1) && ((a2 == b2) && ((a3 == b3) && ((a4 == b4) && ((a5 == b5) && ((a6 == b6) && ((a7 == b7) && ((a8 == b8) && (a9 == b9))))))))))) kk) := bin_eql_of (eqg_agg eg_42) rfl fun _ => eqi_42 (m := 9997) a0 b0 a1 b1 a2 b2 a3 b3 a4 b4 a5 b5 a6 b6 a7 b7 a8 b8 a9 b9
@[go_sem] theorem neq_42 {H : AH} {u : Option TypeDesc} {x y : Operand} {kk : Value → Prop} {a0 b0 : Int} {a1 b1 : Int} {a2 b2 : Int} {a3 b3 : Int} {a4 b4 : Int} {a5 b5 : Int} {a6 b6 : Int} {a7 b7 : Int} {a8 b8 : Int} {a9 b9 : Int} : bin u Try.prog H .neq 42 x y (.agg #[.int .i64 a0, .int .i64 a1, .int .i64 a2, .int .i64 a3, .int .i64 a4, .int .u8 a5, .int .u8 a6, .int .u8 a7, .int .u8 a8, .int .i64 a9]) (.agg #[.int .i64 b0, .int .i64 b1, .int .i64 b2, .int .i64 b3, .int .i64 b4, .int .u8 b5, .int .u8 b6, .int .u8 b7, .int .u8 b8, .int .i64 b9]) kk = (u = Try.prog.underlying 42 ∧ nv (.bool (!((a0 == b0) && ((a1 == b1) && ((a2 == b2) && ((a3 == b3) && ((a4 == b4) && ((a5 == b5) && ((a6 == b6) && ((a7 == b7) && ((a8 == b8) && (a9 == b9)))))))))))) kk) := bin_neq_of (eqg_agg eg_42) rfl fun _ => eqi_42 (m := 9997) a0 b0 a1 b1 a2 b2 a3 b3 a4 b4 a5 b5 a6 b6 a7 b7 a8 b8 a9 b9
theorem eg_43 : Try.prog.eqGuardType Try.prog.depth 43 = false := by kernel_rfl
theorem st_43 : Try.prog.stoodInHeld 43 = false := by kernel_rfl
theorem eqi_43 {H : AH} {m : Nat} (a0 b0 : Int) (a1 b1 : Int) (a2 b2 : Int) (a3 b3 : Int) (a4 b4 : Int) (a5 b5 : Int) (a6 b6 : Int) (a7 b7 : Int) (a8 b8 : Int) (a9 b9 : Int) : qrun Try.prog (Op.equalIn (m + 3) 43 (.agg #[.int .i64 a0, .int .i64 a1, .int .i64 a2, .int .i64 a3, .int .i64 a4, .int .u8 a5, .int .u8 a6, .int .u8 a7, .int .u8 a8, .int .i64 a9]) (.agg #[.int .i64 b0, .int .i64 b1, .int .i64 b2, .int .i64 b3, .int .i64 b4, .int .u8 b5, .int .u8 b6, .int .u8 b7, .int .u8 b8, .int .i64 b9])) H = some ((a0 == b0) && ((a1 == b1) && ((a2 == b2) && ((a3 == b3) && ((a4 == b4) && ((a5 == b5) && ((a6 == b6) && ((a7 == b7) && ((a8 == b8) && (a9 == b9)))))))))) := by
  have h := eqIn_struct (P := Try.prog) (H := H) (m := m + 2) (xs := #[.int .i64 a0, .int .i64 a1, .int .i64 a2, .int .i64 a3, .int .i64 a4, .int .u8 a5, .int .u8 a6, .int .u8 a7, .int .u8 a8, .int .i64 a9]) (ys := #[.int .i64 b0, .int .i64 b1, .int .i64 b2, .int .i64 b3, .int .i64 b4, .int .u8 b5, .int .u8 b6, .int .u8 b7, .int .u8 b8, .int .i64 b9]) (T := fun f => if f.offset = 0 then (a0 == b0) else if f.offset = 1 then (a1 == b1) else if f.offset = 2 then (a2 == b2) else if f.offset = 3 then (a3 == b3) else if f.offset = 4 then (a4 == b4) else if f.offset = 5 then ((a5 == b5) && ((a6 == b6) && ((a7 == b7) && (a8 == b8)))) else if f.offset = 9 then (a9 == b9) else true) Try.underlying43 st_43 (by
    simp only [List.mem_cons, List.not_mem_nil, or_false]
    rintro f (rfl | rfl | rfl | rfl | rfl | rfl | rfl)
    · exact ⟨by decide, (.int .i64 a0), (.int .i64 b0), part_scal ag_3 rfl, part_scal ag_3 rfl, eqIn_int Try.underlying3⟩
    · exact ⟨by decide, (.int .i64 a1), (.int .i64 b1), part_scal ag_3 rfl, part_scal ag_3 rfl, eqIn_int Try.underlying3⟩
    · exact ⟨by decide, (.int .i64 a2), (.int .i64 b2), part_scal ag_3 rfl, part_scal ag_3 rfl, eqIn_int Try.underlying3⟩
    · exact ⟨by decide, (.int .i64 a3), (.int .i64 b3), part_scal ag_3 rfl, part_scal ag_3 rfl, eqIn_int Try.underlying3⟩
    · exact ⟨by decide, (.int .i64 a4), (.int .i64 b4), part_scal ag_3 rfl, part_scal ag_3 rfl, eqIn_int Try.underlying3⟩
    · exact ⟨by decide, (.agg #[.int .u8 a5, .int .u8 a6, .int .u8 a7, .int .u8 a8]), (.agg #[.int .u8 b5, .int .u8 b6, .int .u8 b7, .int .u8 b8]), part_agg ag_41 (info_sz sz_41 (by simp)), part_agg ag_41 (info_sz sz_41 (by simp)), eqi_41 (m := m + 0) a5 b5 a6 b6 a7 b7 a8 b8⟩
    · exact ⟨by decide, (.int .i64 a9), (.int .i64 b9), part_scal ag_3 rfl, part_scal ag_3 rfl, eqIn_int Try.underlying3⟩)
  rw [h]; simp [Bool.and_assoc]
@[go_sem] theorem eql_43 {H : AH} {u : Option TypeDesc} {x y : Operand} {kk : Value → Prop} {a0 b0 : Int} {a1 b1 : Int} {a2 b2 : Int} {a3 b3 : Int} {a4 b4 : Int} {a5 b5 : Int} {a6 b6 : Int} {a7 b7 : Int} {a8 b8 : Int} {a9 b9 : Int} : bin u Try.prog H .eql 43 x y (.agg #[.int .i64 a0, .int .i64 a1, .int .i64 a2, .int .i64 a3, .int .i64 a4, .int .u8 a5, .int .u8 a6, .int .u8 a7, .int .u8 a8, .int .i64 a9]) (.agg #[.int .i64 b0, .int .i64 b1, .int .i64 b2, .int .i64 b3, .int .i64 b4, .int .u8 b5, .int .u8 b6, .int .u8 b7, .int .u8 b8, .int .i64 b9]) kk = (u = Try.prog.underlying 43 ∧ nv (.bool ((a0 == b0) && ((a1 == b1) && ((a2 == b2) && ((a3 == b3) && ((a4 == b4) && ((a5 == b5) && ((a6 == b6) && ((a7 == b7) && ((a8 == b8) && (a9 == b9))))))))))) kk) := bin_eql_of (eqg_agg eg_43) rfl fun _ => eqi_43 (m := 9997) a0 b0 a1 b1 a2 b2 a3 b3 a4 b4 a5 b5 a6 b6 a7 b7 a8 b8 a9 b9
@[go_sem] theorem neq_43 {H : AH} {u : Option TypeDesc} {x y : Operand} {kk : Value → Prop} {a0 b0 : Int} {a1 b1 : Int} {a2 b2 : Int} {a3 b3 : Int} {a4 b4 : Int} {a5 b5 : Int} {a6 b6 : Int} {a7 b7 : Int} {a8 b8 : Int} {a9 b9 : Int} : bin u Try.prog H .neq 43 x y (.agg #[.int .i64 a0, .int .i64 a1, .int .i64 a2, .int .i64 a3, .int .i64 a4, .int .u8 a5, .int .u8 a6, .int .u8 a7, .int .u8 a8, .int .i64 a9]) (.agg #[.int .i64 b0, .int .i64 b1, .int .i64 b2, .int .i64 b3, .int .i64 b4, .int .u8 b5, .int .u8 b6, .int .u8 b7, .int .u8 b8, .int .i64 b9]) kk = (u = Try.prog.underlying 43 ∧ nv (.bool (!((a0 == b0) && ((a1 == b1) && ((a2 == b2) && ((a3 == b3) && ((a4 == b4) && ((a5 == b5) && ((a6 == b6) && ((a7 == b7) && ((a8 == b8) && (a9 == b9)))))))))))) kk) := bin_neq_of (eqg_agg eg_43) rfl fun _ => eqi_43 (m := 9997) a0 b0 a1 b1 a2 b2 a3 b3 a4 b4 a5 b5 a6 b6 a7 b7 a8 b8 a9 b9
theorem eg_55 : Try.prog.eqGuardType Try.prog.depth 55 = false := by kernel_rfl
theorem st_55 : Try.prog.stoodInHeld 55 = false := by kernel_rfl
theorem eqi_55 {H : AH} {m : Nat} (a0 b0 : Int) (a1 b1 : Int) (a2 b2 : Int) (a3 b3 : Int) (a4 b4 : Int) (a5 b5 : Int) : qrun Try.prog (Op.equalIn (m + 3) 55 (.agg #[.int .i64 a0, .int .i64 a1, .int .u8 a2, .int .u8 a3, .int .u8 a4, .int .u8 a5]) (.agg #[.int .i64 b0, .int .i64 b1, .int .u8 b2, .int .u8 b3, .int .u8 b4, .int .u8 b5])) H = some ((a0 == b0) && ((a1 == b1) && ((a2 == b2) && ((a3 == b3) && ((a4 == b4) && (a5 == b5)))))) := by
  have h := eqIn_struct (P := Try.prog) (H := H) (m := m + 2) (xs := #[.int .i64 a0, .int .i64 a1, .int .u8 a2, .int .u8 a3, .int .u8 a4, .int .u8 a5]) (ys := #[.int .i64 b0, .int .i64 b1, .int .u8 b2, .int .u8 b3, .int .u8 b4, .int .u8 b5]) (T := fun f => if f.offset = 0 then (a0 == b0) else if f.offset = 1 then (a1 == b1) else if f.offset = 2 then ((a2 == b2) && ((a3 == b3) && ((a4 == b4) && (a5 == b5)))) else true) Try.underlying55 st_55 (by
    simp only [List.mem_cons, List.not_mem_nil, or_false]
    rintro f (rfl | rfl | rfl)
    · exact ⟨by decide, (.int .i64 a0), (.int .i64 b0), part_scal ag_3 rfl, part_scal ag_3 rfl, eqIn_int Try.underlying3⟩
    · exact ⟨by decide, (.int .i64 a1), (.int .i64 b1), part_scal ag_28 rfl, part_scal ag_28 rfl, eqIn_int Try.underlying28⟩
    · exact ⟨by decide, (.agg #[.int .u8 a2, .int .u8 a3, .int .u8 a4, .int .u8 a5]), (.agg #[.int .u8 b2, .int .u8 b3, .int .u8 b4, .int .u8 b5]), part_agg ag_41 (info_sz sz_41 (by simp)), part_agg ag_41 (info_sz sz_41 (by simp)), eqi_41 (m := m + 0) a2 b2 a3 b3 a4 b4 a5 b5⟩)
  rw [h]; simp [Bool.and_assoc]
@[go_sem] theorem eql_55 {H : AH} {u : Option TypeDesc} {x y : Operand} {kk : Value → Prop} {a0 b0 : Int} {a1 b1 : Int} {a2 b2 : Int} {a3 b3 : Int} {a4 b4 : Int} {a5 b5 : Int} : bin u Try.prog H .eql 55 x y (.agg #[.int .i64 a0, .int .i64 a1, .int .u8 a2, .int .u8 a3, .int .u8 a4, .int .u8 a5]) (.agg #[.int .i64 b0, .int .i64 b1, .int .u8 b2, .int .u8 b3, .int .u8 b4, .int .u8 b5]) kk = (u = Try.prog.underlying 55 ∧ nv (.bool ((a0 == b0) && ((a1 == b1) && ((a2 == b2) && ((a3 == b3) && ((a4 == b4) && (a5 == b5))))))) kk) := bin_eql_of (eqg_agg eg_55) rfl fun _ => eqi_55 (m := 9997) a0 b0 a1 b1 a2 b2 a3 b3 a4 b4 a5 b5
@[go_sem] theorem neq_55 {H : AH} {u : Option TypeDesc} {x y : Operand} {kk : Value → Prop} {a0 b0 : Int} {a1 b1 : Int} {a2 b2 : Int} {a3 b3 : Int} {a4 b4 : Int} {a5 b5 : Int} : bin u Try.prog H .neq 55 x y (.agg #[.int .i64 a0, .int .i64 a1, .int .u8 a2, .int .u8 a3, .int .u8 a4, .int .u8 a5]) (.agg #[.int .i64 b0, .int .i64 b1, .int .u8 b2, .int .u8 b3, .int .u8 b4, .int .u8 b5]) kk = (u = Try.prog.underlying 55 ∧ nv (.bool (!((a0 == b0) && ((a1 == b1) && ((a2 == b2) && ((a3 == b3) && ((a4 == b4) && (a5 == b5)))))))) kk) := bin_neq_of (eqg_agg eg_55) rfl fun _ => eqi_55 (m := 9997) a0 b0 a1 b1 a2 b2 a3 b3 a4 b4 a5 b5
theorem eg_56 : Try.prog.eqGuardType Try.prog.depth 56 = false := by kernel_rfl
theorem st_56 : Try.prog.stoodInHeld 56 = false := by kernel_rfl
theorem eqi_56 {H : AH} {m : Nat} (a0 b0 : Int) (a1 b1 : Int) (a2 b2 : Int) (a3 b3 : Int) (a4 b4 : Int) (a5 b5 : Int) : qrun Try.prog (Op.equalIn (m + 3) 56 (.agg #[.int .i64 a0, .int .i64 a1, .int .u8 a2, .int .u8 a3, .int .u8 a4, .int .u8 a5]) (.agg #[.int .i64 b0, .int .i64 b1, .int .u8 b2, .int .u8 b3, .int .u8 b4, .int .u8 b5])) H = some ((a0 == b0) && ((a1 == b1) && ((a2 == b2) && ((a3 == b3) && ((a4 == b4) && (a5 == b5)))))) := by
  have h := eqIn_struct (P := Try.prog) (H := H) (m := m + 2) (xs := #[.int .i64 a0, .int .i64 a1, .int .u8 a2, .int .u8 a3, .int .u8 a4, .int .u8 a5]) (ys := #[.int .i64 b0, .int .i64 b1, .int .u8 b2, .int .u8 b3, .int .u8 b4, .int .u8 b5]) (T := fun f => if f.offset = 0 then (a0 == b0) else if f.offset = 1 then (a1 == b1) else if f.offset = 2 then ((a2 == b2) && ((a3 == b3) && ((a4 == b4) && (a5 == b5)))) else true) Try.underlying56 st_56 (by
    simp only [List.mem_cons, List.not_mem_nil, or_false]
    rintro f (rfl | rfl | rfl)
    · exact ⟨by decide, (.int .i64 a0), (.int .i64 b0), part_scal ag_3 rfl, part_scal ag_3 rfl, eqIn_int Try.underlying3⟩
    · exact ⟨by decide, (.int .i64 a1), (.int .i64 b1), part_scal ag_28 rfl, part_scal ag_28 rfl, eqIn_int Try.underlying28⟩
    · exact ⟨by decide, (.agg #[.int .u8 a2, .int .u8 a3, .int .u8 a4, .int .u8 a5]), (.agg #[.int .u8 b2, .int .u8 b3, .int .u8 b4, .int .u8 b5]), part_agg ag_41 (info_sz sz_41 (by simp)), part_agg ag_41 (info_sz sz_41 (by simp)), eqi_41 (m := m + 0) a2 b2 a3 b3 a4 b4 a5 b5⟩)
  rw [h]; simp [Bool.and_assoc]
@[go_sem] theorem eql_56 {H : AH} {u : Option TypeDesc} {x y : Operand} {kk : Value → Prop} {a0 b0 : Int} {a1 b1 : Int} {a2 b2 : Int} {a3 b3 : Int} {a4 b4 : Int} {a5 b5 : Int} : bin u Try.prog H .eql 56 x y (.agg #[.int .i64 a0, .int .i64 a1, .int .u8 a2, .int .u8 a3, .int .u8 a4, .int .u8 a5]) (.agg #[.int .i64 b0, .int .i64 b1, .int .u8 b2, .int .u8 b3, .int .u8 b4, .int .u8 b5]) kk = (u = Try.prog.underlying 56 ∧ nv (.bool ((a0 == b0) && ((a1 == b1) && ((a2 == b2) && ((a3 == b3) && ((a4 == b4) && (a5 == b5))))))) kk) := bin_eql_of (eqg_agg eg_56) rfl fun _ => eqi_56 (m := 9997) a0 b0 a1 b1 a2 b2 a3 b3 a4 b4 a5 b5
@[go_sem] theorem neq_56 {H : AH} {u : Option TypeDesc} {x y : Operand} {kk : Value → Prop} {a0 b0 : Int} {a1 b1 : Int} {a2 b2 : Int} {a3 b3 : Int} {a4 b4 : Int} {a5 b5 : Int} : bin u Try.prog H .neq 56 x y (.agg #[.int .i64 a0, .int .i64 a1, .int .u8 a2, .int .u8 a3, .int .u8 a4, .int .u8 a5]) (.agg #[.int .i64 b0, .int .i64 b1, .int .u8 b2, .int .u8 b3, .int .u8 b4, .int .u8 b5]) kk = (u = Try.prog.underlying 56 ∧ nv (.bool (!((a0 == b0) && ((a1 == b1) && ((a2 == b2) && ((a3 == b3) && ((a4 == b4) && (a5 == b5)))))))) kk) := bin_neq_of (eqg_agg eg_56) rfl fun _ => eqi_56 (m := 9997) a0 b0 a1 b1 a2 b2 a3 b3 a4 b4 a5 b5
theorem eg_65 : Try.prog.eqGuardType Try.prog.depth 65 = false := by kernel_rfl
theorem st_65 : Try.prog.stoodInHeld 65 = false := by kernel_rfl
theorem eqi_65 {H : AH} {m : Nat} (a0 b0 : Int) (a1 b1 : Int) : qrun Try.prog (Op.equalIn (m + 2) 65 (.agg #[.int .u64 a0, .int .i64 a1]) (.agg #[.int .u64 b0, .int .i64 b1])) H = some ((a0 == b0) && (a1 == b1)) := by
  have h := eqIn_struct (P := Try.prog) (H := H) (m := m + 1) (xs := #[.int .u64 a0, .int .i64 a1]) (ys := #[.int .u64 b0, .int .i64 b1]) (T := fun f => if f.offset = 0 then (a0 == b0) else if f.offset = 1 then (a1 == b1) else true) Try.underlying65 st_65 (by
    simp only [List.mem_cons, List.not_mem_nil, or_false]
    rintro f (rfl | rfl)
    · exact ⟨by decide, (.int .u64 a0), (.int .u64 b0), part_scal ag_24 rfl, part_scal ag_24 rfl, eqIn_int Try.underlying24⟩
    · exact ⟨by decide, (.int .i64 a1), (.int .i64 b1), part_scal ag_3 rfl, part_scal ag_3 rfl, eqIn_int Try.underlying3⟩)
  rw [h]; simp [Bool.and_assoc]
@[go_sem] theorem eql_65 {H : AH} {u : Option TypeDesc} {x y : Operand} {kk : Value → Prop} {a0 b0 : Int} {a1 b1 : Int} : bin u Try.prog H .eql 65 x y (.agg #[.int .u64 a0, .int .i64 a1]) (.agg #[.int .u64 b0, .int .i64 b1]) kk = (u = Try.prog.underlying 65 ∧ nv (.bool ((a0 == b0) && (a1 == b1))) kk) := bin_eql_of (eqg_agg eg_65) rfl fun _ => eqi_65 (m := 9998) a0 b0 a1 b1
@[go_sem] theorem neq_65 {H : AH} {u : Option TypeDesc} {x y : Operand} {kk : Value → Prop} {a0 b0 : Int} {a1 b1 : Int} : bin u Try.prog H .neq 65 x y (.agg #[.int .u64 a0, .int .i64 a1]) (.agg #[.int .u64 b0, .int .i64 b1]) kk = (u = Try.prog.underlying 65 ∧ nv (.bool (!((a0 == b0) && (a1 == b1)))) kk) := bin_neq_of (eqg_agg eg_65) rfl fun _ => eqi_65 (m := 9998) a0 b0 a1 b1
theorem eg_66 : Try.prog.eqGuardType Try.prog.depth 66 = false := by kernel_rfl
theorem st_66 : Try.prog.stoodInHeld 66 = false := by kernel_rfl
theorem eqi_66 {H : AH} {m : Nat} (a0 b0 : Int) (a1 b1 : Int) : qrun Try.prog (Op.equalIn (m + 2) 66 (.agg #[.int .u64 a0, .int .i64 a1]) (.agg #[.int .u64 b0, .int .i64 b1])) H = some ((a0 == b0) && (a1 == b1)) := by
  have h := eqIn_struct (P := Try.prog) (H := H) (m := m + 1) (xs := #[.int .u64 a0, .int .i64 a1]) (ys := #[.int .u64 b0, .int .i64 b1]) (T := fun f => if f.offset = 0 then (a0 == b0) else if f.offset = 1 then (a1 == b1) else true) Try.underlying66 st_66 (by
    simp only [List.mem_cons, List.not_mem_nil, or_false]
    rintro f (rfl | rfl)
    · exact ⟨by decide, (.int .u64 a0), (.int .u64 b0), part_scal ag_24 rfl, part_scal ag_24 rfl, eqIn_int Try.underlying24⟩
    · exact ⟨by decide, (.int .i64 a1), (.int .i64 b1), part_scal ag_3 rfl, part_scal ag_3 rfl, eqIn_int Try.underlying3⟩)
  rw [h]; simp [Bool.and_assoc]
@[go_sem] theorem eql_66 {H : AH} {u : Option TypeDesc} {x y : Operand} {kk : Value → Prop} {a0 b0 : Int} {a1 b1 : Int} : bin u Try.prog H .eql 66 x y (.agg #[.int .u64 a0, .int .i64 a1]) (.agg #[.int .u64 b0, .int .i64 b1]) kk = (u = Try.prog.underlying 66 ∧ nv (.bool ((a0 == b0) && (a1 == b1))) kk) := bin_eql_of (eqg_agg eg_66) rfl fun _ => eqi_66 (m := 9998) a0 b0 a1 b1
@[go_sem] theorem neq_66 {H : AH} {u : Option TypeDesc} {x y : Operand} {kk : Value → Prop} {a0 b0 : Int} {a1 b1 : Int} : bin u Try.prog H .neq 66 x y (.agg #[.int .u64 a0, .int .i64 a1]) (.agg #[.int .u64 b0, .int .i64 b1]) kk = (u = Try.prog.underlying 66 ∧ nv (.bool (!((a0 == b0) && (a1 == b1)))) kk) := bin_neq_of (eqg_agg eg_66) rfl fun _ => eqi_66 (m := 9998) a0 b0 a1 b1
theorem eg_74 : Try.prog.eqGuardType Try.prog.depth 74 = false := by kernel_rfl
theorem st_74 : Try.prog.stoodInHeld 74 = false := by kernel_rfl
theorem eqi_74 {H : AH} {m : Nat} (a0 b0 : Int) (a1 b1 : Int) (a2 b2 : Int) (a3 b3 : Int) (a4 b4 : Int) : qrun Try.prog (Op.equalIn (m + 2) 74 (.agg #[.int .i64 a0, .int .i64 a1, .int .i64 a2, .int .i64 a3, .int .i64 a4]) (.agg #[.int .i64 b0, .int .i64 b1, .int .i64 b2, .int .i64 b3, .int .i64 b4])) H = some ((a0 == b0) && ((a1 == b1) && ((a2 == b2) && ((a3 == b3) && (a4 == b4))))) := by
  have h := eqIn_struct (P := Try.prog) (H := H) (m := m + 1) (xs := #[.int .i64 a0, .int .i64 a1, .int .i64 a2, .int .i64 a3, .int .i64 a4]) (ys := #[.int .i64 b0, .int .i64 b1, .int .i64 b2, .int .i64 b3, .int .i64 b4]) (T := fun f => if f.offset = 0 then (a0 == b0) else if f.offset = 1 then (a1 == b1) else if f.offset = 2 then (a2 == b2) else if f.offset = 3 then (a3 == b3) else if f.offset = 4 then (a4 == b4) else true) Try.underlying74 st_74 (by
    simp only [List.mem_cons, List.not_mem_nil, or_false]
    rintro f (rfl | rfl | rfl | rfl | rfl)
    · exact ⟨by decide, (.int .i64 a0), (.int .i64 b0), part_scal ag_3 rfl, part_scal ag_3 rfl, eqIn_int Try.underlying3⟩
    · exact ⟨by decide, (.int .i64 a1), (.int .i64 b1), part_scal ag_3 rfl, part_scal ag_3 rfl, eqIn_int Try.underlying3⟩
    · exact ⟨by decide, (.int .i64 a2), (.int .i64 b2), part_scal ag_3 rfl, part_scal ag_3 rfl, eqIn_int Try.underlying3⟩
    · exact ⟨by decide, (.int .i64 a3), (.int .i64 b3), part_scal ag_3 rfl, part_scal ag_3 rfl, eqIn_int Try.underlying3⟩
    · exact ⟨by decide, (.int .i64 a4), (.int .i64 b4), part_scal ag_3 rfl, part_scal ag_3 rfl, eqIn_int Try.underlying3⟩)
  rw [h]; simp [Bool.and_assoc]
@[go_sem] theorem eql_74 {H : AH} {u : Option TypeDesc} {x y : Operand} {kk : Value → Prop} {a0 b0 : Int} {a1 b1 : Int} {a2 b2 : Int} {a3 b3 : Int} {a4 b4 : Int} : bin u Try.prog H .eql 74 x y (.agg #[.int .i64 a0, .int .i64 a1, .int .i64 a2, .int .i64 a3, .int .i64 a4]) (.agg #[.int .i64 b0, .int .i64 b1, .int .i64 b2, .int .i64 b3, .int .i64 b4]) kk = (u = Try.prog.underlying 74 ∧ nv (.bool ((a0 == b0) && ((a1 == b1) && ((a2 == b2) && ((a3 == b3) && (a4 == b4)))))) kk) := bin_eql_of (eqg_agg eg_74) rfl fun _ => eqi_74 (m := 9998) a0 b0 a1 b1 a2 b2 a3 b3 a4 b4
@[go_sem] theorem neq_74 {H : AH} {u : Option TypeDesc} {x y : Operand} {kk : Value → Prop} {a0 b0 : Int} {a1 b1 : Int} {a2 b2 : Int} {a3 b3 : Int} {a4 b4 : Int} : bin u Try.prog H .neq 74 x y (.agg #[.int .i64 a0, .int .i64 a1, .int .i64 a2, .int .i64 a3, .int .i64 a4]) (.agg #[.int .i64 b0, .int .i64 b1, .int .i64 b2, .int .i64 b3, .int .i64 b4]) kk = (u = Try.prog.underlying 74 ∧ nv (.bool (!((a0 == b0) && ((a1 == b1) && ((a2 == b2) && ((a3 == b3) && (a4 == b4))))))) kk) := bin_neq_of (eqg_agg eg_74) rfl fun _ => eqi_74 (m := 9998) a0 b0 a1 b1 a2 b2 a3 b3 a4 b4
theorem eg_75 : Try.prog.eqGuardType Try.prog.depth 75 = false := by kernel_rfl
theorem st_75 : Try.prog.stoodInHeld 75 = false := by kernel_rfl
theorem eqi_75 {H : AH} {m : Nat} (a0 b0 : Int) (a1 b1 : Int) (a2 b2 : Int) (a3 b3 : Int) (a4 b4 : Int) : qrun Try.prog (Op.equalIn (m + 2) 75 (.agg #[.int .i64 a0, .int .i64 a1, .int .i64 a2, .int .i64 a3, .int .i64 a4]) (.agg #[.int .i64 b0, .int .i64 b1, .int .i64 b2, .int .i64 b3, .int .i64 b4])) H = some ((a0 == b0) && ((a1 == b1) && ((a2 == b2) && ((a3 == b3) && (a4 == b4))))) := by
  have h := eqIn_struct (P := Try.prog) (H := H) (m := m + 1) (xs := #[.int .i64 a0, .int .i64 a1, .int .i64 a2, .int .i64 a3, .int .i64 a4]) (ys := #[.int .i64 b0, .int .i64 b1, .int .i64 b2, .int .i64 b3, .int .i64 b4]) (T := fun f => if f.offset = 0 then (a0 == b0) else if f.offset = 1 then (a1 == b1) else if f.offset = 2 then (a2 == b2) else if f.offset = 3 then (a3 == b3) else if f.offset = 4 then (a4 == b4) else true) Try.underlying75 st_75 (by
    simp only [List.mem_cons, List.not_mem_nil, or_false]
    rintro f (rfl | rfl | rfl | rfl | rfl)
    · exact ⟨by decide, (.int .i64 a0), (.int .i64 b0), part_scal ag_3 rfl, part_scal ag_3 rfl, eqIn_int Try.underlying3⟩
    · exact ⟨by decide, (.int .i64 a1), (.int .i64 b1), part_scal ag_3 rfl, part_scal ag_3 rfl, eqIn_int Try.underlying3⟩
    · exact ⟨by decide, (.int .i64 a2), (.int .i64 b2), part_scal ag_3 rfl, part_scal ag_3 rfl, eqIn_int Try.underlying3⟩
    · exact ⟨by decide, (.int .i64 a3), (.int .i64 b3), part_scal ag_3 rfl, part_scal ag_3 rfl, eqIn_int Try.underlying3⟩
    · exact ⟨by decide, (.int .i64 a4), (.int .i64 b4), part_scal ag_3 rfl, part_scal ag_3 rfl, eqIn_int Try.underlying3⟩)
  rw [h]; simp [Bool.and_assoc]
@[go_sem] theorem eql_75 {H : AH} {u : Option TypeDesc} {x y : Operand} {kk : Value → Prop} {a0 b0 : Int} {a1 b1 : Int} {a2 b2 : Int} {a3 b3 : Int} {a4 b4 : Int} : bin u Try.prog H .eql 75 x y (.agg #[.int .i64 a0, .int .i64 a1, .int .i64 a2, .int .i64 a3, .int .i64 a4]) (.agg #[.int .i64 b0, .int .i64 b1, .int .i64 b2, .int .i64 b3, .int .i64 b4]) kk = (u = Try.prog.underlying 75 ∧ nv (.bool ((a0 == b0) && ((a1 == b1) && ((a2 == b2) && ((a3 == b3) && (a4 == b4)))))) kk) := bin_eql_of (eqg_agg eg_75) rfl fun _ => eqi_75 (m := 9998) a0 b0 a1 b1 a2 b2 a3 b3 a4 b4
@[go_sem] theorem neq_75 {H : AH} {u : Option TypeDesc} {x y : Operand} {kk : Value → Prop} {a0 b0 : Int} {a1 b1 : Int} {a2 b2 : Int} {a3 b3 : Int} {a4 b4 : Int} : bin u Try.prog H .neq 75 x y (.agg #[.int .i64 a0, .int .i64 a1, .int .i64 a2, .int .i64 a3, .int .i64 a4]) (.agg #[.int .i64 b0, .int .i64 b1, .int .i64 b2, .int .i64 b3, .int .i64 b4]) kk = (u = Try.prog.underlying 75 ∧ nv (.bool (!((a0 == b0) && ((a1 == b1) && ((a2 == b2) && ((a3 == b3) && (a4 == b4))))))) kk) := bin_neq_of (eqg_agg eg_75) rfl fun _ => eqi_75 (m := 9998) a0 b0 a1 b1 a2 b2 a3 b3 a4 b4
theorem eg_90 : Try.prog.eqGuardType Try.prog.depth 90 = false := by kernel_rfl
theorem st_90 : Try.prog.stoodInHeld 90 = false := by kernel_rfl
theorem eqi_90 {H : AH} {m : Nat} (a0 b0 : Int) (a1 b1 : Int) : qrun Try.prog (Op.equalIn (m + 2) 90 (.agg #[.int .i64 a0, .int .i64 a1]) (.agg #[.int .i64 b0, .int .i64 b1])) H = some ((a0 == b0) && (a1 == b1)) := by
  have h := eqIn_struct (P := Try.prog) (H := H) (m := m + 1) (xs := #[.int .i64 a0, .int .i64 a1]) (ys := #[.int .i64 b0, .int .i64 b1]) (T := fun f => if f.offset = 0 then (a0 == b0) else if f.offset = 1 then (a1 == b1) else true) Try.underlying90 st_90 (by
    simp only [List.mem_cons, List.not_mem_nil, or_false]
    rintro f (rfl | rfl)
    · exact ⟨by decide, (.int .i64 a0), (.int .i64 b0), part_scal ag_3 rfl, part_scal ag_3 rfl, eqIn_int Try.underlying3⟩
    · exact ⟨by decide, (.int .i64 a1), (.int .i64 b1), part_scal ag_3 rfl, part_scal ag_3 rfl, eqIn_int Try.underlying3⟩)
  rw [h]; simp [Bool.and_assoc]
@[go_sem] theorem eql_90 {H : AH} {u : Option TypeDesc} {x y : Operand} {kk : Value → Prop} {a0 b0 : Int} {a1 b1 : Int} : bin u Try.prog H .eql 90 x y (.agg #[.int .i64 a0, .int .i64 a1]) (.agg #[.int .i64 b0, .int .i64 b1]) kk = (u = Try.prog.underlying 90 ∧ nv (.bool ((a0 == b0) && (a1 == b1))) kk) := bin_eql_of (eqg_agg eg_90) rfl fun _ => eqi_90 (m := 9998) a0 b0 a1 b1
@[go_sem] theorem neq_90 {H : AH} {u : Option TypeDesc} {x y : Operand} {kk : Value → Prop} {a0 b0 : Int} {a1 b1 : Int} : bin u Try.prog H .neq 90 x y (.agg #[.int .i64 a0, .int .i64 a1]) (.agg #[.int .i64 b0, .int .i64 b1]) kk = (u = Try.prog.underlying 90 ∧ nv (.bool (!((a0 == b0) && (a1 == b1)))) kk) := bin_neq_of (eqg_agg eg_90) rfl fun _ => eqi_90 (m := 9998) a0 b0 a1 b1
theorem eg_91 : Try.prog.eqGuardType Try.prog.depth 91 = false := by kernel_rfl
theorem st_91 : Try.prog.stoodInHeld 91 = false := by kernel_rfl
theorem eqi_91 {H : AH} {m : Nat} (a0 b0 : Int) (a1 b1 : Int) : qrun Try.prog (Op.equalIn (m + 2) 91 (.agg #[.int .i64 a0, .int .i64 a1]) (.agg #[.int .i64 b0, .int .i64 b1])) H = some ((a0 == b0) && (a1 == b1)) := by
  have h := eqIn_struct (P := Try.prog) (H := H) (m := m + 1) (xs := #[.int .i64 a0, .int .i64 a1]) (ys := #[.int .i64 b0, .int .i64 b1]) (T := fun f => if f.offset = 0 then (a0 == b0) else if f.offset = 1 then (a1 == b1) else true) Try.underlying91 st_91 (by
    simp only [List.mem_cons, List.not_mem_nil, or_false]
    rintro f (rfl | rfl)
    · exact ⟨by decide, (.int .i64 a0), (.int .i64 b0), part_scal ag_3 rfl, part_scal ag_3 rfl, eqIn_int Try.underlying3⟩
    · exact ⟨by decide, (.int .i64 a1), (.int .i64 b1), part_scal ag_3 rfl, part_scal ag_3 rfl, eqIn_int Try.underlying3⟩)
  rw [h]; simp [Bool.and_assoc]
@[go_sem] theorem eql_91 {H : AH} {u : Option TypeDesc} {x y : Operand} {kk : Value → Prop} {a0 b0 : Int} {a1 b1 : Int} : bin u Try.prog H .eql 91 x y (.agg #[.int .i64 a0, .int .i64 a1]) (.agg #[.int .i64 b0, .int .i64 b1]) kk = (u = Try.prog.underlying 91 ∧ nv (.bool ((a0 == b0) && (a1 == b1))) kk) := bin_eql_of (eqg_agg eg_91) rfl fun _ => eqi_91 (m := 9998) a0 b0 a1 b1
@[go_sem] theorem neq_91 {H : AH} {u : Option TypeDesc} {x y : Operand} {kk : Value → Prop} {a0 b0 : Int} {a1 b1 : Int} : bin u Try.prog H .neq 91 x y (.agg #[.int .i64 a0, .int .i64 a1]) (.agg #[.int .i64 b0, .int .i64 b1]) kk = (u = Try.prog.underlying 91 ∧ nv (.bool (!((a0 == b0) && (a1 == b1)))) kk) := bin_neq_of (eqg_agg eg_91) rfl fun _ => eqi_91 (m := 9998) a0 b0 a1 b1
theorem eg_95 : Try.prog.eqGuardType Try.prog.depth 95 = false := by kernel_rfl
theorem eqi_95 {H : AH} {m : Nat} (a0 b0 : Bool) (a1 b1 : Bool) (a2 b2 : Bool) (a3 b3 : Bool) (a4 b4 : Bool) (a5 b5 : Bool) (a6 b6 : Bool) (a7 b7 : Bool) (a8 b8 : Bool) (a9 b9 : Bool) (a10 b10 : Bool) : qrun Try.prog (Op.equalIn (m + 2) 95 (.agg #[.bool a0, .bool a1, .bool a2, .bool a3, .bool a4, .bool a5, .bool a6, .bool a7, .bool a8, .bool a9, .bool a10]) (.agg #[.bool b0, .bool b1, .bool b2, .bool b3, .bool b4, .bool b5, .bool b6, .bool b7, .bool b8, .bool b9, .bool b10])) H = some ((a0 == b0) && ((a1 == b1) && ((a2 == b2) && ((a3 == b3) && ((a4 == b4) && ((a5 == b5) && ((a6 == b6) && ((a7 == b7) && ((a8 == b8) && ((a9 == b9) && (a10 == b10))))))))))) := by
  have h := eqIn_array (P := Try.prog) (H := H) (m := m + 1) (xs := #[.bool a0, .bool a1, .bool a2, .bool a3, .bool a4, .bool a5, .bool a6, .bool a7, .bool a8, .bool a9, .bool a10]) (ys := #[.bool b0, .bool b1, .bool b2, .bool b3, .bool b4, .bool b5, .bool b6, .bool b7, .bool b8, .bool b9, .bool b10]) (T := fun i => ([(a0 == b0), (a1 == b1), (a2 == b2), (a3 == b3), (a4 == b4), (a5 == b5), (a6 == b6), (a7 == b7), (a8 == b8), (a9 == b9), (a10 == b10)] : List Bool).getD i false) Try.underlying95 (info_sz sz_4 (by simp)) (fun i hi => by
    match i, hi with
    | 0, _ => exact ⟨(.bool a0), (.bool b0), part_scal ag_4 rfl, part_scal ag_4 rfl, eqIn_bool Try.underlying4⟩
    | 1, _ => exact ⟨(.bool a1), (.bool b1), part_scal ag_4 rfl, part_scal ag_4 rfl, eqIn_bool Try.underlying4⟩
    | 2, _ => exact ⟨(.bool a2), (.bool b2), part_scal ag_4 rfl, part_scal ag_4 rfl, eqIn_bool Try.underlying4⟩
    | 3, _ => exact ⟨(.bool a3), (.bool b3), part_scal ag_4 rfl, part_scal ag_4 rfl, eqIn_bool Try.underlying4⟩
    | 4, _ => exact ⟨(.bool a4), (.bool b4), part_scal ag_4 rfl, part_scal ag_4 rfl, eqIn_bool Try.underlying4⟩
    | 5, _ => exact ⟨(.bool a5), (.bool b5), part_scal ag_4 rfl, part_scal ag_4 rfl, eqIn_bool Try.underlying4⟩
    | 6, _ => exact ⟨(.bool a6), (.bool b6), part_scal ag_4 rfl, part_scal ag_4 rfl, eqIn_bool Try.underlying4⟩
    | 7, _ => exact ⟨(.bool a7), (.bool b7), part_scal ag_4 rfl, part_scal ag_4 rfl, eqIn_bool Try.underlying4⟩
    | 8, _ => exact ⟨(.bool a8), (.bool b8), part_scal ag_4 rfl, part_scal ag_4 rfl, eqIn_bool Try.underlying4⟩
    | 9, _ => exact ⟨(.bool a9), (.bool b9), part_scal ag_4 rfl, part_scal ag_4 rfl, eqIn_bool Try.underlying4⟩
    | 10, _ => exact ⟨(.bool a10), (.bool b10), part_scal ag_4 rfl, part_scal ag_4 rfl, eqIn_bool Try.underlying4⟩
    | _ + 11, hi => omega)
  rw [h]; simp [List.range_succ, Bool.and_assoc]
@[go_sem] theorem eql_95 {H : AH} {u : Option TypeDesc} {x y : Operand} {kk : Value → Prop} {a0 b0 : Bool} {a1 b1 : Bool} {a2 b2 : Bool} {a3 b3 : Bool} {a4 b4 : Bool} {a5 b5 : Bool} {a6 b6 : Bool} {a7 b7 : Bool} {a8 b8 : Bool} {a9 b9 : Bool} {a10 b10 : Bool} : bin u Try.prog H .eql 95 x y (.agg #[.bool a0, .bool a1, .bool a2, .bool a3, .bool a4, .bool a5, .bool a6, .bool a7, .bool a8, .bool a9, .bool a10]) (.agg #[.bool b0, .bool b1, .bool b2, .bool b3, .bool b4, .bool b5, .bool b6, .bool b7, .bool b8, .bool b9, .bool b10]) kk = (u = Try.prog.underlying 95 ∧ nv (.bool ((a0 == b0) && ((a1 == b1) && ((a2 == b2) && ((a3 == b3) && ((a4 == b4) && ((a5 == b5) && ((a6 == b6) && ((a7 == b7) && ((a8 == b8) && ((a9 == b9) && (a10 == b10)))))))))))) kk) := bin_eql_of (eqg_agg eg_95) rfl fun _ => eqi_95 (m := 9998) a0 b0 a1 b1 a2 b2 a3 b3 a4 b4 a5 b5 a6 b6 a7 b7 a8 b8 a9 b9 a10 b10
@[go_sem] theorem neq_95 {H : AH} {u : Option TypeDesc} {x y : Operand} {kk : Value → Prop} {a0 b0 : Bool} {a1 b1 : Bool} {a2 b2 : Bool} {a3 b3 : Bool} {a4 b4 : Bool} {a5 b5 : Bool} {a6 b6 : Bool} {a7 b7 : Bool} {a8 b8 : Bool} {a9 b9 : Bool} {a10 b10 : Bool} : bin u Try.prog H .neq 95 x y (.agg #[.bool a0, .bool a1, .bool a2, .bool a3, .bool a4, .bool a5, .bool a6, .bool a7, .bool a8, .bool a9, .bool a10]) (.agg #[.bool b0, .bool b1, .bool b2, .bool b3, .bool b4, .bool b5, .bool b6, .bool b7, .bool b8, .bool b9, .bool b10]) kk = (u = Try.prog.underlying 95 ∧ nv (.bool (!((a0 == b0) && ((a1 == b1) && ((a2 == b2) && ((a3 == b3) && ((a4 == b4) && ((a5 == b5) && ((a6 == b6) && ((a7 == b7) && ((a8 == b8) && ((a9 == b9) && (a10 == b10))))))))))))) kk) := bin_neq_of (eqg_agg eg_95) rfl fun _ => eqi_95 (m := 9998) a0 b0 a1 b1 a2 b2 a3 b3 a4 b4 a5 b5 a6 b6 a7 b7 a8 b8 a9 b9 a10 b10
theorem eg_96 : Try.prog.eqGuardType Try.prog.depth 96 = false := by kernel_rfl
theorem eqi_96 {H : AH} {m : Nat} (a0 b0 : Bool) (a1 b1 : Bool) (a2 b2 : Bool) (a3 b3 : Bool) (a4 b4 : Bool) (a5 b5 : Bool) (a6 b6 : Bool) (a7 b7 : Bool) (a8 b8 : Bool) (a9 b9 : Bool) (a10 b10 : Bool) : qrun Try.prog (Op.equalIn (m + 2) 96 (.agg #[.bool a0, .bool a1, .bool a2, .bool a3, .bool a4, .bool a5, .bool a6, .bool a7, .bool a8, .bool a9, .bool a10]) (.agg #[.bool b0, .bool b1, .bool b2, .bool b3, .bool b4, .bool b5, .bool b6, .bool b7, .bool b8, .bool b9, .bool b10])) H = some ((a0 == b0) && ((a1 == b1) && ((a2 == b2) && ((a3 == b3) && ((a4 == b4) && ((a5 == b5) && ((a6 == b6) && ((a7 == b7) && ((a8 == b8) && ((a9 == b9) && (a10 == b10))))))))))) := by
  have h := eqIn_array (P := Try.prog) (H := H) (m := m + 1) (xs := #[.bool a0, .bool a1, .bool a2, .bool a3, .bool a4, .bool a5, .bool a6, .bool a7, .bool a8, .bool a9, .bool a10]) (ys := #[.bool b0, .bool b1, .bool b2, .bool b3, .bool b4, .bool b5, .bool b6, .bool b7, .bool b8, .bool b9, .bool b10]) (T := fun i => ([(a0 == b0), (a1 == b1), (a2 == b2), (a3 == b3), (a4 == b4), (a5 == b5), (a6 == b6), (a7 == b7), (a8 == b8), (a9 == b9), (a10 == b10)] : List Bool).getD i false) Try.underlying96 (info_sz sz_4 (by simp)) (fun i hi => by
    match i, hi with
    | 0, _ => exact ⟨(.bool a0), (.bool b0), part_scal ag_4 rfl, part_scal ag_4 rfl, eqIn_bool Try.underlying4⟩
    | 1, _ => exact ⟨(.bool a1), (.bool b1), part_scal ag_4 rfl, part_scal ag_4 rfl, eqIn_bool Try.underlying4⟩
    | 2, _ => exact ⟨(.bool a2), (.bool b2), part_scal ag_4 rfl, part_scal ag_4 rfl, eqIn_bool Try.underlying4⟩
    | 3, _ => exact ⟨(.bool a3), (.bool b3), part_scal ag_4 rfl, part_scal ag_4 rfl, eqIn_bool Try.underlying4⟩
    | 4, _ => exact ⟨(.bool a4), (.bool b4), part_scal ag_4 rfl, part_scal ag_4 rfl, eqIn_bool Try.underlying4⟩
    | 5, _ => exact ⟨(.bool a5), (.bool b5), part_scal ag_4 rfl, part_scal ag_4 rfl, eqIn_bool Try.underlying4⟩
    | 6, _ => exact ⟨(.bool a6), (.bool b6), part_scal ag_4 rfl, part_scal ag_4 rfl, eqIn_bool Try.underlying4⟩
    | 7, _ => exact ⟨(.bool a7), (.bool b7), part_scal ag_4 rfl, part_scal ag_4 rfl, eqIn_bool Try.underlying4⟩
    | 8, _ => exact ⟨(.bool a8), (.bool b8), part_scal ag_4 rfl, part_scal ag_4 rfl, eqIn_bool Try.underlying4⟩
    | 9, _ => exact ⟨(.bool a9), (.bool b9), part_scal ag_4 rfl, part_scal ag_4 rfl, eqIn_bool Try.underlying4⟩
    | 10, _ => exact ⟨(.bool a10), (.bool b10), part_scal ag_4 rfl, part_scal ag_4 rfl, eqIn_bool Try.underlying4⟩
    | _ + 11, hi => omega)
  rw [h]; simp [List.range_succ, Bool.and_assoc]
@[go_sem] theorem eql_96 {H : AH} {u : Option TypeDesc} {x y : Operand} {kk : Value → Prop} {a0 b0 : Bool} {a1 b1 : Bool} {a2 b2 : Bool} {a3 b3 : Bool} {a4 b4 : Bool} {a5 b5 : Bool} {a6 b6 : Bool} {a7 b7 : Bool} {a8 b8 : Bool} {a9 b9 : Bool} {a10 b10 : Bool} : bin u Try.prog H .eql 96 x y (.agg #[.bool a0, .bool a1, .bool a2, .bool a3, .bool a4, .bool a5, .bool a6, .bool a7, .bool a8, .bool a9, .bool a10]) (.agg #[.bool b0, .bool b1, .bool b2, .bool b3, .bool b4, .bool b5, .bool b6, .bool b7, .bool b8, .bool b9, .bool b10]) kk = (u = Try.prog.underlying 96 ∧ nv (.bool ((a0 == b0) && ((a1 == b1) && ((a2 == b2) && ((a3 == b3) && ((a4 == b4) && ((a5 == b5) && ((a6 == b6) && ((a7 == b7) && ((a8 == b8) && ((a9 == b9) && (a10 == b10)))))))))))) kk) := bin_eql_of (eqg_agg eg_96) rfl fun _ => eqi_96 (m := 9998) a0 b0 a1 b1 a2 b2 a3 b3 a4 b4 a5 b5 a6 b6 a7 b7 a8 b8 a9 b9 a10 b10
@[go_sem] theorem neq_96 {H : AH} {u : Option TypeDesc} {x y : Operand} {kk : Value → Prop} {a0 b0 : Bool} {a1 b1 : Bool} {a2 b2 : Bool} {a3 b3 : Bool} {a4 b4 : Bool} {a5 b5 : Bool} {a6 b6 : Bool} {a7 b7 : Bool} {a8 b8 : Bool} {a9 b9 : Bool} {a10 b10 : Bool} : bin u Try.prog H .neq 96 x y (.agg #[.bool a0, .bool a1, .bool a2, .bool a3, .bool a4, .bool a5, .bool a6, .bool a7, .bool a8, .bool a9, .bool a10]) (.agg #[.bool b0, .bool b1, .bool b2, .bool b3, .bool b4, .bool b5, .bool b6, .bool b7, .bool b8, .bool b9, .bool b10]) kk = (u = Try.prog.underlying 96 ∧ nv (.bool (!((a0 == b0) && ((a1 == b1) && ((a2 == b2) && ((a3 == b3) && ((a4 == b4) && ((a5 == b5) && ((a6 == b6) && ((a7 == b7) && ((a8 == b8) && ((a9 == b9) && (a10 == b10))))))))))))) kk) := bin_neq_of (eqg_agg eg_96) rfl fun _ => eqi_96 (m := 9998) a0 b0 a1 b1 a2 b2 a3 b3 a4 b4 a5 b5 a6 b6 a7 b7 a8 b8 a9 b9 a10 b10
theorem eg_139 : Try.prog.eqGuardType Try.prog.depth 139 = false := by kernel_rfl
theorem st_139 : Try.prog.stoodInHeld 139 = false := by kernel_rfl
theorem eqi_139 {H : AH} {m : Nat} (a0 b0 : Int) (a1 b1 : Int) : qrun Try.prog (Op.equalIn (m + 2) 139 (.agg #[.int .i64 a0, .int .i64 a1]) (.agg #[.int .i64 b0, .int .i64 b1])) H = some ((a0 == b0) && (a1 == b1)) := by
  have h := eqIn_struct (P := Try.prog) (H := H) (m := m + 1) (xs := #[.int .i64 a0, .int .i64 a1]) (ys := #[.int .i64 b0, .int .i64 b1]) (T := fun f => if f.offset = 0 then (a0 == b0) else if f.offset = 1 then (a1 == b1) else true) Try.underlying139 st_139 (by
    simp only [List.mem_cons, List.not_mem_nil, or_false]
    rintro f (rfl | rfl)
    · exact ⟨by decide, (.int .i64 a0), (.int .i64 b0), part_scal ag_3 rfl, part_scal ag_3 rfl, eqIn_int Try.underlying3⟩
    · exact ⟨by decide, (.int .i64 a1), (.int .i64 b1), part_scal ag_3 rfl, part_scal ag_3 rfl, eqIn_int Try.underlying3⟩)
  rw [h]; simp [Bool.and_assoc]
@[go_sem] theorem eql_139 {H : AH} {u : Option TypeDesc} {x y : Operand} {kk : Value → Prop} {a0 b0 : Int} {a1 b1 : Int} : bin u Try.prog H .eql 139 x y (.agg #[.int .i64 a0, .int .i64 a1]) (.agg #[.int .i64 b0, .int .i64 b1]) kk = (u = Try.prog.underlying 139 ∧ nv (.bool ((a0 == b0) && (a1 == b1))) kk) := bin_eql_of (eqg_agg eg_139) rfl fun _ => eqi_139 (m := 9998) a0 b0 a1 b1
@[go_sem] theorem neq_139 {H : AH} {u : Option TypeDesc} {x y : Operand} {kk : Value → Prop} {a0 b0 : Int} {a1 b1 : Int} : bin u Try.prog H .neq 139 x y (.agg #[.int .i64 a0, .int .i64 a1]) (.agg #[.int .i64 b0, .int .i64 b1]) kk = (u = Try.prog.underlying 139 ∧ nv (.bool (!((a0 == b0) && (a1 == b1)))) kk) := bin_neq_of (eqg_agg eg_139) rfl fun _ => eqi_139 (m := 9998) a0 b0 a1 b1
theorem eg_140 : Try.prog.eqGuardType Try.prog.depth 140 = false := by kernel_rfl
theorem st_140 : Try.prog.stoodInHeld 140 = false := by kernel_rfl
theorem eqi_140 {H : AH} {m : Nat} (a0 b0 : Int) (a1 b1 : Int) : qrun Try.prog (Op.equalIn (m + 2) 140 (.agg #[.int .i64 a0, .int .i64 a1]) (.agg #[.int .i64 b0, .int .i64 b1])) H = some ((a0 == b0) && (a1 == b1)) := by
  have h := eqIn_struct (P := Try.prog) (H := H) (m := m + 1) (xs := #[.int .i64 a0, .int .i64 a1]) (ys := #[.int .i64 b0, .int .i64 b1]) (T := fun f => if f.offset = 0 then (a0 == b0) else if f.offset = 1 then (a1 == b1) else true) Try.underlying140 st_140 (by
    simp only [List.mem_cons, List.not_mem_nil, or_false]
    rintro f (rfl | rfl)
    · exact ⟨by decide, (.int .i64 a0), (.int .i64 b0), part_scal ag_3 rfl, part_scal ag_3 rfl, eqIn_int Try.underlying3⟩
    · exact ⟨by decide, (.int .i64 a1), (.int .i64 b1), part_scal ag_3 rfl, part_scal ag_3 rfl, eqIn_int Try.underlying3⟩)
  rw [h]; simp [Bool.and_assoc]
@[go_sem] theorem eql_140 {H : AH} {u : Option TypeDesc} {x y : Operand} {kk : Value → Prop} {a0 b0 : Int} {a1 b1 : Int} : bin u Try.prog H .eql 140 x y (.agg #[.int .i64 a0, .int .i64 a1]) (.agg #[.int .i64 b0, .int .i64 b1]) kk = (u = Try.prog.underlying 140 ∧ nv (.bool ((a0 == b0) && (a1 == b1))) kk) := bin_eql_of (eqg_agg eg_140) rfl fun _ => eqi_140 (m := 9998) a0 b0 a1 b1
@[go_sem] theorem neq_140 {H : AH} {u : Option TypeDesc} {x y : Operand} {kk : Value → Prop} {a0 b0 : Int} {a1 b1 : Int} : bin u Try.prog H .neq 140 x y (.agg #[.int .i64 a0, .int .i64 a1]) (.agg #[.int .i64 b0, .int .i64 b1]) kk = (u = Try.prog.underlying 140 ∧ nv (.bool (!((a0 == b0) && (a1 == b1)))) kk) := bin_neq_of (eqg_agg eg_140) rfl fun _ => eqi_140 (m := 9998) a0 b0 a1 b1
@[go_sem] theorem ok_2 : fnOk Try.prog 2 = true := by kernel_rfl
@[go_sem] theorem ok_3 : fnOk Try.prog 3 = true := by kernel_rfl
@[go_sem] theorem ok_4 : fnOk Try.prog 4 = true := by kernel_rfl
@[go_sem] theorem ok_5 : fnOk Try.prog 5 = true := by kernel_rfl
@[go_sem] theorem ok_6 : fnOk Try.prog 6 = true := by kernel_rfl
@[go_sem] theorem ok_7 : fnOk Try.prog 7 = true := by kernel_rfl
@[go_sem] theorem ok_8 : fnOk Try.prog 8 = true := by kernel_rfl
@[go_sem] theorem ok_9 : fnOk Try.prog 9 = true := by kernel_rfl
@[go_sem] theorem ok_10 : fnOk Try.prog 10 = true := by kernel_rfl
@[go_sem] theorem ok_11 : fnOk Try.prog 11 = true := by kernel_rfl
@[go_sem] theorem ok_12 : fnOk Try.prog 12 = true := by kernel_rfl
@[go_sem] theorem ok_13 : fnOk Try.prog 13 = true := by kernel_rfl
@[go_sem] theorem ok_14 : fnOk Try.prog 14 = true := by kernel_rfl
@[go_sem] theorem ok_15 : fnOk Try.prog 15 = true := by kernel_rfl
@[go_sem] theorem ok_16 : fnOk Try.prog 16 = true := by kernel_rfl
@[go_sem] theorem ok_17 : fnOk Try.prog 17 = true := by kernel_rfl
@[go_sem] theorem ok_18 : fnOk Try.prog 18 = true := by kernel_rfl
@[go_sem] theorem ok_19 : fnOk Try.prog 19 = true := by kernel_rfl
@[go_sem] theorem ok_20 : fnOk Try.prog 20 = true := by kernel_rfl
@[go_sem] theorem ok_21 : fnOk Try.prog 21 = true := by kernel_rfl
@[go_sem] theorem ok_22 : fnOk Try.prog 22 = true := by kernel_rfl
@[go_sem] theorem ok_23 : fnOk Try.prog 23 = true := by kernel_rfl
@[go_sem] theorem ok_24 : fnOk Try.prog 24 = true := by kernel_rfl
@[go_sem] theorem ok_25 : fnOk Try.prog 25 = true := by kernel_rfl
@[go_sem] theorem ok_26 : fnOk Try.prog 26 = true := by kernel_rfl
@[go_sem] theorem ok_27 : fnOk Try.prog 27 = true := by kernel_rfl
@[go_sem] theorem ok_28 : fnOk Try.prog 28 = true := by kernel_rfl
@[go_sem] theorem ok_29 : fnOk Try.prog 29 = true := by kernel_rfl
@[go_sem] theorem ok_30 : fnOk Try.prog 30 = true := by kernel_rfl
@[go_sem] theorem ok_31 : fnOk Try.prog 31 = true := by kernel_rfl
@[go_sem] theorem ok_32 : fnOk Try.prog 32 = true := by kernel_rfl
@[go_sem] theorem ok_33 : fnOk Try.prog 33 = true := by kernel_rfl
@[go_sem] theorem ok_34 : fnOk Try.prog 34 = true := by kernel_rfl
@[go_sem] theorem ok_35 : fnOk Try.prog 35 = true := by kernel_rfl
@[go_sem] theorem ok_36 : fnOk Try.prog 36 = true := by kernel_rfl
@[go_sem] theorem ok_37 : fnOk Try.prog 37 = true := by kernel_rfl
@[go_sem] theorem ok_38 : fnOk Try.prog 38 = true := by kernel_rfl
@[go_sem] theorem ok_39 : fnOk Try.prog 39 = true := by kernel_rfl
@[go_sem] theorem ok_40 : fnOk Try.prog 40 = true := by kernel_rfl
@[go_sem] theorem ok_41 : fnOk Try.prog 41 = true := by kernel_rfl
@[go_sem] theorem ok_42 : fnOk Try.prog 42 = true := by kernel_rfl
@[go_sem] theorem ok_43 : fnOk Try.prog 43 = true := by kernel_rfl
@[go_sem] theorem ok_44 : fnOk Try.prog 44 = true := by kernel_rfl
@[go_sem] theorem ok_45 : fnOk Try.prog 45 = true := by kernel_rfl
@[go_sem] theorem ok_46 : fnOk Try.prog 46 = true := by kernel_rfl
@[go_sem] theorem ok_47 : fnOk Try.prog 47 = true := by kernel_rfl
@[go_sem] theorem ok_48 : fnOk Try.prog 48 = true := by kernel_rfl
@[go_sem] theorem ok_49 : fnOk Try.prog 49 = true := by kernel_rfl
@[go_sem] theorem ok_50 : fnOk Try.prog 50 = true := by kernel_rfl
@[go_sem] theorem ok_51 : fnOk Try.prog 51 = true := by kernel_rfl
@[go_sem] theorem ok_52 : fnOk Try.prog 52 = true := by kernel_rfl
@[go_sem] theorem ok_53 : fnOk Try.prog 53 = true := by kernel_rfl
@[go_sem] theorem ok_54 : fnOk Try.prog 54 = true := by kernel_rfl
@[go_sem] theorem ok_55 : fnOk Try.prog 55 = true := by kernel_rfl
@[go_sem] theorem ok_56 : fnOk Try.prog 56 = true := by kernel_rfl
@[go_sem] theorem ok_57 : fnOk Try.prog 57 = true := by kernel_rfl
@[go_sem] theorem ok_58 : fnOk Try.prog 58 = true := by kernel_rfl
@[go_sem] theorem ok_59 : fnOk Try.prog 59 = true := by kernel_rfl
@[go_sem] theorem ok_60 : fnOk Try.prog 60 = true := by kernel_rfl
@[go_sem] theorem ok_61 : fnOk Try.prog 61 = true := by kernel_rfl
@[go_sem] theorem ok_62 : fnOk Try.prog 62 = true := by kernel_rfl
@[go_sem] theorem ok_63 : fnOk Try.prog 63 = true := by kernel_rfl
@[go_sem] theorem ok_64 : fnOk Try.prog 64 = true := by kernel_rfl
@[go_sem] theorem ok_65 : fnOk Try.prog 65 = true := by kernel_rfl
@[go_sem] theorem ok_66 : fnOk Try.prog 66 = true := by kernel_rfl
@[go_sem] theorem ok_67 : fnOk Try.prog 67 = true := by kernel_rfl
@[go_sem] theorem ok_68 : fnOk Try.prog 68 = true := by kernel_rfl
@[go_sem] theorem ok_69 : fnOk Try.prog 69 = true := by kernel_rfl
@[go_sem] theorem ok_70 : fnOk Try.prog 70 = true := by kernel_rfl
@[go_sem] theorem ok_71 : fnOk Try.prog 71 = true := by kernel_rfl
@[go_sem] theorem ok_72 : fnOk Try.prog 72 = true := by kernel_rfl
@[go_sem] theorem ok_73 : fnOk Try.prog 73 = true := by kernel_rfl
@[go_sem] theorem ok_74 : fnOk Try.prog 74 = true := by kernel_rfl
@[go_sem] theorem ok_75 : fnOk Try.prog 75 = true := by kernel_rfl
@[go_sem] theorem ok_76 : fnOk Try.prog 76 = true := by kernel_rfl
@[go_sem] theorem ok_77 : fnOk Try.prog 77 = true := by kernel_rfl
@[go_sem] theorem ok_78 : fnOk Try.prog 78 = true := by kernel_rfl
@[go_sem] theorem ok_79 : fnOk Try.prog 79 = true := by kernel_rfl
@[go_sem] theorem ok_80 : fnOk Try.prog 80 = true := by kernel_rfl
@[go_sem] theorem ok_81 : fnOk Try.prog 81 = true := by kernel_rfl
@[go_sem] theorem ok_82 : fnOk Try.prog 82 = true := by kernel_rfl
@[go_sem] theorem ok_83 : fnOk Try.prog 83 = true := by kernel_rfl
@[go_sem] theorem ok_84 : fnOk Try.prog 84 = true := by kernel_rfl
@[go_sem] theorem ok_85 : fnOk Try.prog 85 = true := by kernel_rfl
@[go_sem] theorem ok_86 : fnOk Try.prog 86 = true := by kernel_rfl
@[go_sem] theorem ok_87 : fnOk Try.prog 87 = true := by kernel_rfl
@[go_sem] theorem ok_88 : fnOk Try.prog 88 = true := by kernel_rfl
@[go_sem] theorem ok_89 : fnOk Try.prog 89 = true := by kernel_rfl
@[go_sem] theorem ok_90 : fnOk Try.prog 90 = true := by kernel_rfl
@[go_sem] theorem ok_91 : fnOk Try.prog 91 = true := by kernel_rfl
@[go_sem] theorem ok_92 : fnOk Try.prog 92 = true := by kernel_rfl
@[go_sem] theorem ok_93 : fnOk Try.prog 93 = true := by kernel_rfl
@[go_sem] theorem ok_94 : fnOk Try.prog 94 = true := by kernel_rfl
@[go_sem] theorem ok_95 : fnOk Try.prog 95 = true := by kernel_rfl
@[go_sem] theorem ok_96 : fnOk Try.prog 96 = true := by kernel_rfl
@[go_sem] theorem ok_97 : fnOk Try.prog 97 = true := by kernel_rfl
@[go_sem] theorem ok_98 : fnOk Try.prog 98 = true := by kernel_rfl
@[go_sem] theorem ok_99 : fnOk Try.prog 99 = true := by kernel_rfl
@[go_sem] theorem ok_100 : fnOk Try.prog 100 = true := by kernel_rfl
@[go_sem] theorem ok_101 : fnOk Try.prog 101 = true := by kernel_rfl
@[go_sem] theorem ok_102 : fnOk Try.prog 102 = true := by kernel_rfl
@[go_sem] theorem ok_103 : fnOk Try.prog 103 = true := by kernel_rfl
@[go_sem] theorem ok_104 : fnOk Try.prog 104 = true := by kernel_rfl
@[go_sem] theorem ok_105 : fnOk Try.prog 105 = true := by kernel_rfl
@[go_sem] theorem ok_106 : fnOk Try.prog 106 = true := by kernel_rfl
@[go_sem] theorem ok_107 : fnOk Try.prog 107 = true := by kernel_rfl
@[go_sem] theorem ok_108 : fnOk Try.prog 108 = true := by kernel_rfl
@[go_sem] theorem ok_109 : fnOk Try.prog 109 = true := by kernel_rfl
@[go_sem] theorem ok_110 : fnOk Try.prog 110 = true := by kernel_rfl
@[go_sem] theorem ok_111 : fnOk Try.prog 111 = true := by kernel_rfl
@[go_sem] theorem ok_112 : fnOk Try.prog 112 = true := by kernel_rfl
@[go_sem] theorem ok_113 : fnOk Try.prog 113 = true := by kernel_rfl
@[go_sem] theorem ok_114 : fnOk Try.prog 114 = true := by kernel_rfl
@[go_sem] theorem ok_115 : fnOk Try.prog 115 = true := by kernel_rfl
@[go_sem] theorem ok_116 : fnOk Try.prog 116 = true := by kernel_rfl
@[go_sem] theorem ok_117 : fnOk Try.prog 117 = true := by kernel_rfl
@[go_sem] theorem ok_118 : fnOk Try.prog 118 = true := by kernel_rfl
@[go_sem] theorem ok_119 : fnOk Try.prog 119 = true := by kernel_rfl
@[go_sem] theorem ok_120 : fnOk Try.prog 120 = true := by kernel_rfl
@[go_sem] theorem ok_121 : fnOk Try.prog 121 = true := by kernel_rfl
@[go_sem] theorem ok_122 : fnOk Try.prog 122 = true := by kernel_rfl
@[go_sem] theorem ok_123 : fnOk Try.prog 123 = true := by kernel_rfl
@[go_sem] theorem ok_124 : fnOk Try.prog 124 = true := by kernel_rfl
@[go_sem] theorem ok_125 : fnOk Try.prog 125 = true := by kernel_rfl
@[go_sem] theorem ok_126 : fnOk Try.prog 126 = true := by kernel_rfl
@[go_sem] theorem ok_127 : fnOk Try.prog 127 = true := by kernel_rfl
@[go_sem] theorem ok_128 : fnOk Try.prog 128 = true := by kernel_rfl
@[go_sem] theorem ok_129 : fnOk Try.prog 129 = true := by kernel_rfl
@[go_sem] theorem ok_130 : fnOk Try.prog 130 = true := by kernel_rfl
@[go_sem] theorem ok_131 : fnOk Try.prog 131 = true := by kernel_rfl
@[go_sem] theorem ok_132 : fnOk Try.prog 132 = true := by kernel_rfl
@[go_sem] theorem ok_133 : fnOk Try.prog 133 = true := by kernel_rfl
@[go_sem] theorem ok_134 : fnOk Try.prog 134 = true := by kernel_rfl
@[go_sem] theorem ok_135 : fnOk Try.prog 135 = true := by kernel_rfl
@[go_sem] theorem ok_136 : fnOk Try.prog 136 = true := by kernel_rfl
@[go_sem] theorem ok_137 : fnOk Try.prog 137 = true := by kernel_rfl
@[go_sem] theorem ok_138 : fnOk Try.prog 138 = true := by kernel_rfl
@[go_sem] theorem ok_139 : fnOk Try.prog 139 = true := by kernel_rfl
@[go_sem] theorem ok_140 : fnOk Try.prog 140 = true := by kernel_rfl
theorem mixed : Try.prog.follows .mixedOrders = true := by kernel_rfl
attribute [go_sem] Try.underlying0 Try.underlying1 Try.underlying2 Try.underlying3 Try.underlying4 Try.underlying5 Try.underlying6 Try.underlying7 Try.underlying8 Try.underlying9 Try.underlying10 Try.underlying11 Try.underlying12 Try.underlying13 Try.underlying14 Try.underlying15
attribute [go_sem] Try.underlying16 Try.underlying17 Try.underlying18 Try.underlying19 Try.underlying20 Try.underlying21 Try.underlying22 Try.underlying23 Try.underlying24 Try.underlying25 Try.underlying26 Try.underlying27 Try.underlying28 Try.underlying29 Try.underlying30 Try.underlying31
attribute [go_sem] Try.underlying32 Try.underlying33 Try.underlying34 Try.underlying35 Try.underlying36 Try.underlying37 Try.underlying38 Try.underlying39 Try.underlying40 Try.underlying41 Try.underlying42 Try.underlying43 Try.underlying44 Try.underlying45 Try.underlying46 Try.underlying47
attribute [go_sem] Try.underlying48 Try.underlying49 Try.underlying50 Try.underlying51 Try.underlying52 Try.underlying53 Try.underlying54 Try.underlying55 Try.underlying56 Try.underlying57 Try.underlying58 Try.underlying59 Try.underlying60 Try.underlying61 Try.underlying62 Try.underlying63
attribute [go_sem] Try.underlying64 Try.underlying65 Try.underlying66 Try.underlying67 Try.underlying68 Try.underlying69 Try.underlying70 Try.underlying71 Try.underlying72 Try.underlying73 Try.underlying74 Try.underlying75 Try.underlying76 Try.underlying77 Try.underlying78 Try.underlying79
attribute [go_sem] Try.underlying80 Try.underlying81 Try.underlying82 Try.underlying83 Try.underlying84 Try.underlying85 Try.underlying86 Try.underlying87 Try.underlying88 Try.underlying89 Try.underlying90 Try.underlying91 Try.underlying92 Try.underlying93 Try.underlying94 Try.underlying95
attribute [go_sem] Try.underlying96 Try.underlying97 Try.underlying98 Try.underlying99 Try.underlying100 Try.underlying101 Try.underlying102 Try.underlying103 Try.underlying104 Try.underlying105 Try.underlying106 Try.underlying107 Try.underlying108 Try.underlying109 Try.underlying110 Try.underlying111
attribute [go_sem] Try.underlying112 Try.underlying113 Try.underlying114 Try.underlying115 Try.underlying116 Try.underlying117 Try.underlying118 Try.underlying119 Try.underlying120 Try.underlying121 Try.underlying122 Try.underlying123 Try.underlying124 Try.underlying125 Try.underlying126 Try.underlying127
attribute [go_sem] Try.underlying128 Try.underlying129 Try.underlying130 Try.underlying131 Try.underlying132 Try.underlying133 Try.underlying134 Try.underlying135 Try.underlying136 Try.underlying137 Try.underlying138 Try.underlying139 Try.underlying140 Try.underlying141 Try.underlying142 Try.underlying143
attribute [go_sem] Try.underlying144 Try.underlying145 Try.underlying146 Try.underlying147 Try.underlying148 Try.underlying149 Try.underlying150 Try.underlying151 Try.underlying152 Try.underlying153 Try.underlying154 Try.underlying155 Try.underlying156 Try.underlying157 Try.underlying158 Try.underlying159
attribute [go_sem] Try.underlying160 Try.underlying161 Try.underlying162 Try.underlying163 Try.underlying164 Try.underlying165 Try.underlying166 Try.underlying167 Try.underlying168 Try.underlying169 Try.underlying170 Try.underlying171 Try.underlying172 Try.underlying173 Try.underlying174 Try.underlying175
attribute [go_sem] Try.underlying176 Try.underlying177 Try.underlying178 Try.underlying179 Try.underlying180 Try.underlying181 Try.underlying182 Try.underlying183 Try.underlying184 Try.underlying185 Try.underlying186 Try.underlying187 Try.underlying188 Try.underlying189 Try.underlying190 Try.underlying191
attribute [go_sem] Try.underlying192 Try.underlying193 Try.underlying194 Try.underlying195 Try.underlying196
attribute [go_sem] Try.ntmps0 Try.results0 Try.ntmps1 Try.results1 Try.ntmps2 Try.results2 Try.ntmps3 Try.results3 Try.ntmps4 Try.results4 Try.ntmps5 Try.results5 Try.ntmps6 Try.results6 Try.ntmps7 Try.results7
attribute [go_sem] Try.ntmps8 Try.results8 Try.ntmps9 Try.results9 Try.ntmps10 Try.results10 Try.ntmps11 Try.results11 Try.ntmps12 Try.results12 Try.ntmps13 Try.results13 Try.ntmps14 Try.results14 Try.ntmps15 Try.results15
attribute [go_sem] Try.ntmps16 Try.results16 Try.ntmps17 Try.results17 Try.ntmps18 Try.results18 Try.ntmps19 Try.results19 Try.ntmps20 Try.results20 Try.ntmps21 Try.results21 Try.ntmps22 Try.results22 Try.ntmps23 Try.results23
attribute [go_sem] Try.ntmps24 Try.results24 Try.ntmps25 Try.results25 Try.ntmps26 Try.results26 Try.ntmps27 Try.results27 Try.ntmps28 Try.results28 Try.ntmps29 Try.results29 Try.ntmps30 Try.results30 Try.ntmps31 Try.results31
attribute [go_sem] Try.ntmps32 Try.results32 Try.ntmps33 Try.results33 Try.ntmps34 Try.results34 Try.ntmps35 Try.results35 Try.ntmps36 Try.results36 Try.ntmps37 Try.results37 Try.ntmps38 Try.results38 Try.ntmps39 Try.results39
attribute [go_sem] Try.ntmps40 Try.results40 Try.ntmps41 Try.results41 Try.ntmps42 Try.results42 Try.ntmps43 Try.results43 Try.ntmps44 Try.results44 Try.ntmps45 Try.results45 Try.ntmps46 Try.results46 Try.ntmps47 Try.results47
attribute [go_sem] Try.ntmps48 Try.results48 Try.ntmps49 Try.results49 Try.ntmps50 Try.results50 Try.ntmps51 Try.results51 Try.ntmps52 Try.results52 Try.ntmps53 Try.results53 Try.ntmps54 Try.results54 Try.ntmps55 Try.results55
attribute [go_sem] Try.ntmps56 Try.results56 Try.ntmps57 Try.results57 Try.ntmps58 Try.results58 Try.ntmps59 Try.results59 Try.ntmps60 Try.results60 Try.ntmps61 Try.results61 Try.ntmps62 Try.results62 Try.ntmps63 Try.results63
attribute [go_sem] Try.ntmps64 Try.results64 Try.ntmps65 Try.results65 Try.ntmps66 Try.results66 Try.ntmps67 Try.results67 Try.ntmps68 Try.results68 Try.ntmps69 Try.results69 Try.ntmps70 Try.results70 Try.ntmps71 Try.results71
attribute [go_sem] Try.ntmps72 Try.results72 Try.ntmps73 Try.results73 Try.ntmps74 Try.results74 Try.ntmps75 Try.results75 Try.ntmps76 Try.results76 Try.ntmps77 Try.results77 Try.ntmps78 Try.results78 Try.ntmps79 Try.results79
attribute [go_sem] Try.ntmps80 Try.results80 Try.ntmps81 Try.results81 Try.ntmps82 Try.results82 Try.ntmps83 Try.results83 Try.ntmps84 Try.results84 Try.ntmps85 Try.results85 Try.ntmps86 Try.results86 Try.ntmps87 Try.results87
attribute [go_sem] Try.ntmps88 Try.results88 Try.ntmps89 Try.results89 Try.ntmps90 Try.results90 Try.ntmps91 Try.results91 Try.ntmps92 Try.results92 Try.ntmps93 Try.results93 Try.ntmps94 Try.results94 Try.ntmps95 Try.results95
attribute [go_sem] Try.ntmps96 Try.results96 Try.ntmps97 Try.results97 Try.ntmps98 Try.results98 Try.ntmps99 Try.results99 Try.ntmps100 Try.results100 Try.ntmps101 Try.results101 Try.ntmps102 Try.results102 Try.ntmps103 Try.results103
attribute [go_sem] Try.ntmps104 Try.results104 Try.ntmps105 Try.results105 Try.ntmps106 Try.results106 Try.ntmps107 Try.results107 Try.ntmps108 Try.results108 Try.ntmps109 Try.results109 Try.ntmps110 Try.results110 Try.ntmps111 Try.results111
attribute [go_sem] Try.ntmps112 Try.results112 Try.ntmps113 Try.results113 Try.ntmps114 Try.results114 Try.ntmps115 Try.results115 Try.ntmps116 Try.results116 Try.ntmps117 Try.results117 Try.ntmps118 Try.results118 Try.ntmps119 Try.results119
attribute [go_sem] Try.ntmps120 Try.results120 Try.ntmps121 Try.results121 Try.ntmps122 Try.results122 Try.ntmps123 Try.results123 Try.ntmps124 Try.results124 Try.ntmps125 Try.results125 Try.ntmps126 Try.results126 Try.ntmps127 Try.results127
attribute [go_sem] Try.ntmps128 Try.results128 Try.ntmps129 Try.results129 Try.ntmps130 Try.results130 Try.ntmps131 Try.results131 Try.ntmps132 Try.results132 Try.ntmps133 Try.results133 Try.ntmps134 Try.results134 Try.ntmps135 Try.results135
attribute [go_sem] Try.ntmps136 Try.results136 Try.ntmps137 Try.results137 Try.ntmps138 Try.results138 Try.ntmps139 Try.results139 Try.ntmps140 Try.results140 Try.ntmps141 Try.results141 Try.ntmps142 Try.results142 Try.ntmps143 Try.results143
attribute [go_sem] Try.ntmps144 Try.results144 Try.ntmps145 Try.results145 Try.ntmps146 Try.results146 Try.ntmps147 Try.results147 Try.ntmps148 Try.results148 Try.ntmps149 Try.results149 Try.ntmps150 Try.results150 Try.ntmps151 Try.results151
attribute [go_sem] Try.ntmps152 Try.results152 Try.ntmps153 Try.results153 Try.ntmps154 Try.results154 Try.ntmps155 Try.results155 Try.ntmps156 Try.results156 Try.ntmps157 Try.results157
end Go.Proofs.Ytgikjbfpckjkoaa.Ty

/- Closed facts on the types and functions of the translation, reckoned by the kernel. Written by a program of this session. -/
import Derived.Test.YthinfokelgcipaaAx17
import Derived.Test.YthinfokelgcipaaProg
import Derived.KernelRfl
namespace Go.Proofs.Ythinfokelgcipaa.Ty
set_option linter.unusedSimpArgs false
set_option linter.unusedVariables false
open Go Go.AX Go.Proofs
@[go_sem ↓] theorem sz_1 : Try.prog.cellsOf 1 = 1 := by kernel_rfl
@[go_sem ↓] theorem ag_1 : isAggU (Try.prog.underlying 1) = some false := by kernel_rfl
@[go_sem ↓] theorem zr_1 : zrOf Try.prog 1 = some [.nilFunc] := by kernel_rfl
@[go_sem ↓] theorem sz_2 : Try.prog.cellsOf 2 = 1 := by kernel_rfl
@[go_sem ↓] theorem ag_2 : isAggU (Try.prog.underlying 2) = some false := by kernel_rfl
@[go_sem ↓] theorem zr_2 : zrOf Try.prog 2 = some [(.int .i64 0)] := by kernel_rfl
@[go_sem ↓] theorem sz_3 : Try.prog.cellsOf 3 = 1 := by kernel_rfl
@[go_sem ↓] theorem ag_3 : isAggU (Try.prog.underlying 3) = some false := by kernel_rfl
@[go_sem ↓] theorem zr_3 : zrOf Try.prog 3 = some [(.int .i64 0)] := by kernel_rfl
@[go_sem ↓] theorem sz_4 : Try.prog.cellsOf 4 = 1 := by kernel_rfl
@[go_sem ↓] theorem ag_4 : isAggU (Try.prog.underlying 4) = some false := by kernel_rfl
@[go_sem ↓] theorem zr_4 : zrOf Try.prog 4 = some [(.bool false)] := by kernel_rfl
@[go_sem ↓] theorem sz_5 : Try.prog.cellsOf 5 = 1 := by kernel_rfl
@[go_sem ↓] theorem ag_5 : isAggU (Try.prog.underlying 5) = some false := by kernel_rfl
@[go_sem ↓] theorem zr_5 : zrOf Try.prog 5 = some [(.int .u8 0)] := by kernel_rfl
@[go_sem ↓] theorem sz_6 : Try.prog.cellsOf 6 = 1 := by kernel_rfl
@[go_sem ↓] theorem ag_6 : isAggU (Try.prog.underlying 6) = some false := by kernel_rfl
@[go_sem ↓] theorem zr_6 : zrOf Try.prog 6 = some [(.int .u8 0)] := by kernel_rfl
@[go_sem ↓] theorem sz_7 : Try.prog.cellsOf 7 = 4 := by kernel_rfl
@[go_sem ↓] theorem ag_7 : isAggU (Try.prog.underlying 7) = some true := by kernel_rfl
@[go_sem ↓] theorem zr_7 : zrOf Try.prog 7 = some [(.int .i64 0), (.int .i64 0), (.bool false), (.int .u8 0)] := by kernel_rfl
@[go_sem ↓] theorem fo_7_0 : foOf Try.prog 7 0 = some 0 := by kernel_rfl
@[go_sem ↓] theorem pl_7_0 : plOf Try.prog 7 0 = some (0, 1) := by kernel_rfl
@[go_sem ↓] theorem fo_7_1 : foOf Try.prog 7 1 = some 1 := by kernel_rfl
@[go_sem ↓] theorem pl_7_1 : plOf Try.prog 7 1 = some (1, 1) := by kernel_rfl
@[go_sem ↓] theorem fo_7_2 : foOf Try.prog 7 2 = some 2 := by kernel_rfl
@[go_sem ↓] theorem pl_7_2 : plOf Try.prog 7 2 = some (2, 1) := by kernel_rfl
@[go_sem ↓] theorem fo_7_3 : foOf Try.prog 7 3 = some 3 := by kernel_rfl
@[go_sem ↓] theorem pl_7_3 : plOf Try.prog 7 3 = some (3, 1) := by kernel_rfl
@[go_sem ↓] theorem fl_7 : plOf1 Try.prog 7 = true := by kernel_rfl
@[go_sem ↓] theorem sz_8 : Try.prog.cellsOf 8 = 4 := by kernel_rfl
@[go_sem ↓] theorem ag_8 : isAggU (Try.prog.underlying 8) = some true := by kernel_rfl
@[go_sem ↓] theorem zr_8 : zrOf Try.prog 8 = some [(.int .i64 0), (.int .i64 0), (.bool false), (.int .u8 0)] := by kernel_rfl
@[go_sem ↓] theorem fo_8_0 : foOf Try.prog 8 0 = some 0 := by kernel_rfl
@[go_sem ↓] theorem pl_8_0 : plOf Try.prog 8 0 = some (0, 1) := by kernel_rfl
@[go_sem ↓] theorem fo_8_1 : foOf Try.prog 8 1 = some 1 := by kernel_rfl
@[go_sem ↓] theorem pl_8_1 : plOf Try.prog 8 1 = some (1, 1) := by kernel_rfl
@[go_sem ↓] theorem fo_8_2 : foOf Try.prog 8 2 = some 2 := by kernel_rfl
@[go_sem ↓] theorem pl_8_2 : plOf Try.prog 8 2 = some (2, 1) := by kernel_rfl
@[go_sem ↓] theorem fo_8_3 : foOf Try.prog 8 3 = some 3 := by kernel_rfl
@[go_sem ↓] theorem pl_8_3 : plOf Try.prog 8 3 = some (3, 1) := by kernel_rfl
@[go_sem ↓] theorem fl_8 : plOf1 Try.prog 8 = true := by kernel_rfl
@[go_sem ↓] theorem sz_9 : Try.prog.cellsOf 9 = 1 := by kernel_rfl
@[go_sem ↓] theorem ag_9 : isAggU (Try.prog.underlying 9) = some false := by kernel_rfl
@[go_sem ↓] theorem zr_9 : zrOf Try.prog 9 = some [(.string ⟨#[]⟩)] := by kernel_rfl
@[go_sem ↓] theorem sz_10 : Try.prog.cellsOf 10 = 1 := by kernel_rfl
@[go_sem ↓] theorem ag_10 : isAggU (Try.prog.underlying 10) = some false := by kernel_rfl
@[go_sem ↓] theorem zr_10 : zrOf Try.prog 10 = some [(.string ⟨#[]⟩)] := by kernel_rfl
@[go_sem ↓] theorem sz_11 : Try.prog.cellsOf 11 = 1 := by kernel_rfl
@[go_sem ↓] theorem ag_11 : isAggU (Try.prog.underlying 11) = some false := by kernel_rfl
@[go_sem ↓] theorem zr_11 : zrOf Try.prog 11 = some [(.string ⟨#[]⟩)] := by kernel_rfl
@[go_sem ↓] theorem sz_12 : Try.prog.cellsOf 12 = 1 := by kernel_rfl
@[go_sem ↓] theorem ag_12 : isAggU (Try.prog.underlying 12) = some false := by kernel_rfl
@[go_sem ↓] theorem zr_12 : zrOf Try.prog 12 = some [(.int .u64 0)] := by kernel_rfl
@[go_sem ↓] theorem sz_13 : Try.prog.cellsOf 13 = 2 := by kernel_rfl
@[go_sem ↓] theorem ag_13 : isAggU (Try.prog.underlying 13) = some true := by kernel_rfl
@[go_sem ↓] theorem zr_13 : zrOf Try.prog 13 = some [(.string ⟨#[]⟩), (.int .u64 0)] := by kernel_rfl
@[go_sem ↓] theorem fo_13_0 : foOf Try.prog 13 0 = some 0 := by kernel_rfl
@[go_sem ↓] theorem pl_13_0 : plOf Try.prog 13 0 = some (0, 1) := by kernel_rfl
@[go_sem ↓] theorem fo_13_1 : foOf Try.prog 13 1 = some 1 := by kernel_rfl
@[go_sem ↓] theorem pl_13_1 : plOf Try.prog 13 1 = some (1, 1) := by kernel_rfl
@[go_sem ↓] theorem fl_13 : plOf1 Try.prog 13 = true := by kernel_rfl
@[go_sem ↓] theorem sz_14 : Try.prog.cellsOf 14 = 2 := by kernel_rfl
@[go_sem ↓] theorem ag_14 : isAggU (Try.prog.underlying 14) = some true := by kernel_rfl
@[go_sem ↓] theorem zr_14 : zrOf Try.prog 14 = some [(.string ⟨#[]⟩), (.int .u64 0)] := by kernel_rfl
@[go_sem ↓] theorem fo_14_0 : foOf Try.prog 14 0 = some 0 := by kernel_rfl
@[go_sem ↓] theorem pl_14_0 : plOf Try.prog 14 0 = some (0, 1) := by kernel_rfl
@[go_sem ↓] theorem fo_14_1 : foOf Try.prog 14 1 = some 1 := by kernel_rfl
@[go_sem ↓] theorem pl_14_1 : plOf Try.prog 14 1 = some (1, 1) := by kernel_rfl
@[go_sem ↓] theorem fl_14 : plOf1 Try.prog 14 = true := by kernel_rfl
@[go_sem ↓] theorem sz_15 : Try.prog.cellsOf 15 = 1 := by kernel_rfl
@[go_sem ↓] theorem ag_15 : isAggU (Try.prog.underlying 15) = some false := by kernel_rfl
@[go_sem ↓] theorem zr_15 : zrOf Try.prog 15 = some [(.pointer none)] := by kernel_rfl
@[go_sem ↓] theorem sz_16 : Try.prog.cellsOf 16 = 1 := by kernel_rfl
@[go_sem ↓] theorem ag_16 : isAggU (Try.prog.underlying 16) = some false := by kernel_rfl
@[go_sem ↓] theorem zr_16 : zrOf Try.prog 16 = some [(.pointer none)] := by kernel_rfl
@[go_sem ↓] theorem sz_17 : Try.prog.cellsOf 17 = 1 := by kernel_rfl
@[go_sem ↓] theorem ag_17 : isAggU (Try.prog.underlying 17) = some false := by kernel_rfl
@[go_sem ↓] theorem zr_17 : zrOf Try.prog 17 = some [(.pointer none)] := by kernel_rfl
@[go_sem ↓] theorem sz_18 : Try.prog.cellsOf 18 = 1 := by kernel_rfl
@[go_sem ↓] theorem ag_18 : isAggU (Try.prog.underlying 18) = some true := by kernel_rfl
@[go_sem ↓] theorem zr_18 : zrOf Try.prog 18 = some [(.pointer none)] := by kernel_rfl
@[go_sem ↓] theorem fo_18_0 : foOf Try.prog 18 0 = some 0 := by kernel_rfl
@[go_sem ↓] theorem pl_18_0 : plOf Try.prog 18 0 = some (0, 1) := by kernel_rfl
@[go_sem ↓] theorem fl_18 : plOf1 Try.prog 18 = true := by kernel_rfl
@[go_sem ↓] theorem sz_19 : Try.prog.cellsOf 19 = 1 := by kernel_rfl
@[go_sem ↓] theorem ag_19 : isAggU (Try.prog.underlying 19) = some true := by kernel_rfl
@[go_sem ↓] theorem zr_19 : zrOf Try.prog 19 = some [(.pointer none)] := by kernel_rfl
@[go_sem ↓] theorem fo_19_0 : foOf Try.prog 19 0 = some 0 := by kernel_rfl
@[go_sem ↓] theorem pl_19_0 : plOf Try.prog 19 0 = some (0, 1) := by kernel_rfl
@[go_sem ↓] theorem fl_19 : plOf1 Try.prog 19 = true := by kernel_rfl
@[go_sem ↓] theorem sz_20 : Try.prog.cellsOf 20 = 1 := by kernel_rfl
@[go_sem ↓] theorem ag_20 : isAggU (Try.prog.underlying 20) = some false := by kernel_rfl
@[go_sem ↓] theorem zr_20 : zrOf Try.prog 20 = some [.nilIface] := by kernel_rfl
@[go_sem ↓] theorem sz_21 : Try.prog.cellsOf 21 = 1 := by kernel_rfl
@[go_sem ↓] theorem ag_21 : isAggU (Try.prog.underlying 21) = some false := by kernel_rfl
@[go_sem ↓] theorem zr_21 : zrOf Try.prog 21 = some [(.int .i32 0)] := by kernel_rfl
@[go_sem ↓] theorem sz_22 : Try.prog.cellsOf 22 = 3 := by kernel_rfl
@[go_sem ↓] theorem ag_22 : isAggU (Try.prog.underlying 22) = some true := by kernel_rfl
@[go_sem ↓] theorem zr_22 : zrOf Try.prog 22 = some [(.int .i64 0), (.int .i64 0), (.int .i64 0)] := by kernel_rfl
@[go_sem ↓] theorem fo_22_0 : foOf Try.prog 22 0 = some 0 := by kernel_rfl
@[go_sem ↓] theorem pl_22_0 : plOf Try.prog 22 0 = some (0, 1) := by kernel_rfl
@[go_sem ↓] theorem fo_22_1 : foOf Try.prog 22 1 = some 1 := by kernel_rfl
@[go_sem ↓] theorem pl_22_1 : plOf Try.prog 22 1 = some (1, 1) := by kernel_rfl
@[go_sem ↓] theorem fo_22_2 : foOf Try.prog 22 2 = some 2 := by kernel_rfl
@[go_sem ↓] theorem pl_22_2 : plOf Try.prog 22 2 = some (2, 1) := by kernel_rfl
@[go_sem ↓] theorem fl_22 : plOf1 Try.prog 22 = true := by kernel_rfl
@[go_sem ↓] theorem sz_23 : Try.prog.cellsOf 23 = 3 := by kernel_rfl
@[go_sem ↓] theorem ag_23 : isAggU (Try.prog.underlying 23) = some true := by kernel_rfl
@[go_sem ↓] theorem zr_23 : zrOf Try.prog 23 = some [(.int .i64 0), (.int .i64 0), (.int .i64 0)] := by kernel_rfl
@[go_sem ↓] theorem fo_23_0 : foOf Try.prog 23 0 = some 0 := by kernel_rfl
@[go_sem ↓] theorem pl_23_0 : plOf Try.prog 23 0 = some (0, 1) := by kernel_rfl
@[go_sem ↓] theorem fo_23_1 : foOf Try.prog 23 1 = some 1 := by kernel_rfl
@[go_sem ↓] theorem pl_23_1 : plOf Try.prog 23 1 = some (1, 1) := by kernel_rfl
@[go_sem ↓] theorem fo_23_2 : foOf Try.prog 23 2 = some 2 := by kernel_rfl
@[go_sem ↓] theorem pl_23_2 : plOf Try.prog 23 2 = some (2, 1) := by kernel_rfl
@[go_sem ↓] theorem fl_23 : plOf1 Try.prog 23 = true := by kernel_rfl
@[go_sem ↓] theorem sz_24 : Try.prog.cellsOf 24 = 2 := by kernel_rfl
@[go_sem ↓] theorem ag_24 : isAggU (Try.prog.underlying 24) = some true := by kernel_rfl
@[go_sem ↓] theorem es_24 : elSz Try.prog 24 = 1 := by kernel_rfl
@[go_sem ↓] theorem zr_24 : zrOf Try.prog 24 = some [(.int .u8 0), (.int .u8 0)] := by kernel_rfl
@[go_sem ↓] theorem fl_24 : plOf1 Try.prog 24 = true := by kernel_rfl
@[go_sem ↓] theorem pl_24_0 : plOf Try.prog 24 0 = some (0, 1) := by kernel_rfl
@[go_sem ↓] theorem pl_24_1 : plOf Try.prog 24 1 = some (1, 1) := by kernel_rfl
@[go_sem ↓] theorem sz_25 : Try.prog.cellsOf 25 = 1 := by kernel_rfl
@[go_sem ↓] theorem ag_25 : isAggU (Try.prog.underlying 25) = some false := by kernel_rfl
@[go_sem ↓] theorem zr_25 : zrOf Try.prog 25 = some [(.int .i64 0)] := by kernel_rfl
@[go_sem ↓] theorem sz_27 : Try.prog.cellsOf 27 = 1 := by kernel_rfl
@[go_sem ↓] theorem ag_27 : isAggU (Try.prog.underlying 27) = some false := by kernel_rfl
@[go_sem ↓] theorem zr_27 : zrOf Try.prog 27 = some [.nilFunc] := by kernel_rfl
@[go_sem ↓] theorem sz_29 : Try.prog.cellsOf 29 = 1 := by kernel_rfl
@[go_sem ↓] theorem ag_29 : isAggU (Try.prog.underlying 29) = some false := by kernel_rfl
@[go_sem ↓] theorem zr_29 : zrOf Try.prog 29 = some [.nilFunc] := by kernel_rfl
@[go_sem ↓] theorem sz_31 : Try.prog.cellsOf 31 = 1 := by kernel_rfl
@[go_sem ↓] theorem ag_31 : isAggU (Try.prog.underlying 31) = some false := by kernel_rfl
@[go_sem ↓] theorem zr_31 : zrOf Try.prog 31 = some [.nilFunc] := by kernel_rfl
@[go_sem ↓] theorem sz_33 : Try.prog.cellsOf 33 = 1 := by kernel_rfl
@[go_sem ↓] theorem ag_33 : isAggU (Try.prog.underlying 33) = some false := by kernel_rfl
@[go_sem ↓] theorem zr_33 : zrOf Try.prog 33 = some [.nilFunc] := by kernel_rfl
@[go_sem ↓] theorem sz_34 : Try.prog.cellsOf 34 = 1 := by kernel_rfl
@[go_sem ↓] theorem ag_34 : isAggU (Try.prog.underlying 34) = some false := by kernel_rfl
@[go_sem ↓] theorem zr_34 : zrOf Try.prog 34 = some [.nilFunc] := by kernel_rfl
@[go_sem ↓] theorem sz_35 : Try.prog.cellsOf 35 = 1 := by kernel_rfl
@[go_sem ↓] theorem ag_35 : isAggU (Try.prog.underlying 35) = some false := by kernel_rfl
@[go_sem ↓] theorem zr_35 : zrOf Try.prog 35 = some [.nilFunc] := by kernel_rfl
@[go_sem ↓] theorem sz_36 : Try.prog.cellsOf 36 = 1 := by kernel_rfl
@[go_sem ↓] theorem ag_36 : isAggU (Try.prog.underlying 36) = some false := by kernel_rfl
@[go_sem ↓] theorem zr_36 : zrOf Try.prog 36 = some [.nilFunc] := by kernel_rfl
@[go_sem ↓] theorem sz_37 : Try.prog.cellsOf 37 = 11 := by kernel_rfl
@[go_sem ↓] theorem ag_37 : isAggU (Try.prog.underlying 37) = some true := by kernel_rfl
@[go_sem ↓] theorem es_37 : elSz Try.prog 37 = 1 := by kernel_rfl
@[go_sem ↓] theorem zr_37 : zrOf Try.prog 37 = some [(.bool false), (.bool false), (.bool false), (.bool false), (.bool false), (.bool false), (.bool false), (.bool false), (.bool false), (.bool false), (.bool false)] := by kernel_rfl
@[go_sem ↓] theorem fl_37 : plOf1 Try.prog 37 = true := by kernel_rfl
@[go_sem ↓] theorem pl_37_0 : plOf Try.prog 37 0 = some (0, 1) := by kernel_rfl
@[go_sem ↓] theorem pl_37_1 : plOf Try.prog 37 1 = some (1, 1) := by kernel_rfl
@[go_sem ↓] theorem pl_37_2 : plOf Try.prog 37 2 = some (2, 1) := by kernel_rfl
@[go_sem ↓] theorem pl_37_3 : plOf Try.prog 37 3 = some (3, 1) := by kernel_rfl
@[go_sem ↓] theorem pl_37_4 : plOf Try.prog 37 4 = some (4, 1) := by kernel_rfl
@[go_sem ↓] theorem pl_37_5 : plOf Try.prog 37 5 = some (5, 1) := by kernel_rfl
@[go_sem ↓] theorem pl_37_6 : plOf Try.prog 37 6 = some (6, 1) := by kernel_rfl
@[go_sem ↓] theorem pl_37_7 : plOf Try.prog 37 7 = some (7, 1) := by kernel_rfl
@[go_sem ↓] theorem pl_37_8 : plOf Try.prog 37 8 = some (8, 1) := by kernel_rfl
@[go_sem ↓] theorem pl_37_9 : plOf Try.prog 37 9 = some (9, 1) := by kernel_rfl
@[go_sem ↓] theorem pl_37_10 : plOf Try.prog 37 10 = some (10, 1) := by kernel_rfl
@[go_sem ↓] theorem sz_38 : Try.prog.cellsOf 38 = 11 := by kernel_rfl
@[go_sem ↓] theorem ag_38 : isAggU (Try.prog.underlying 38) = some true := by kernel_rfl
@[go_sem ↓] theorem es_38 : elSz Try.prog 38 = 1 := by kernel_rfl
@[go_sem ↓] theorem zr_38 : zrOf Try.prog 38 = some [(.bool false), (.bool false), (.bool false), (.bool false), (.bool false), (.bool false), (.bool false), (.bool false), (.bool false), (.bool false), (.bool false)] := by kernel_rfl
@[go_sem ↓] theorem fl_38 : plOf1 Try.prog 38 = true := by kernel_rfl
@[go_sem ↓] theorem pl_38_0 : plOf Try.prog 38 0 = some (0, 1) := by kernel_rfl
@[go_sem ↓] theorem pl_38_1 : plOf Try.prog 38 1 = some (1, 1) := by kernel_rfl
@[go_sem ↓] theorem pl_38_2 : plOf Try.prog 38 2 = some (2, 1) := by kernel_rfl
@[go_sem ↓] theorem pl_38_3 : plOf Try.prog 38 3 = some (3, 1) := by kernel_rfl
@[go_sem ↓] theorem pl_38_4 : plOf Try.prog 38 4 = some (4, 1) := by kernel_rfl
@[go_sem ↓] theorem pl_38_5 : plOf Try.prog 38 5 = some (5, 1) := by kernel_rfl
@[go_sem ↓] theorem pl_38_6 : plOf Try.prog 38 6 = some (6, 1) := by kernel_rfl
@[go_sem ↓] theorem pl_38_7 : plOf Try.prog 38 7 = some (7, 1) := by kernel_rfl
@[go_sem ↓] theorem pl_38_8 : plOf Try.prog 38 8 = some (8, 1) := by kernel_rfl
@[go_sem ↓] theorem pl_38_9 : plOf Try.prog 38 9 = some (9, 1) := by kernel_rfl
@[go_sem ↓] theorem pl_38_10 : plOf Try.prog 38 10 = some (10, 1) := by kernel_rfl
@[go_sem ↓] theorem sz_40 : Try.prog.cellsOf 40 = 1 := by kernel_rfl
@[go_sem ↓] theorem ag_40 : isAggU (Try.prog.underlying 40) = some false := by kernel_rfl
@[go_sem ↓] theorem zr_40 : zrOf Try.prog 40 = some [.nilFunc] := by kernel_rfl
@[go_sem ↓] theorem sz_42 : Try.prog.cellsOf 42 = 1 := by kernel_rfl
@[go_sem ↓] theorem ag_42 : isAggU (Try.prog.underlying 42) = some false := by kernel_rfl
@[go_sem ↓] theorem zr_42 : zrOf Try.prog 42 = some [.nilFunc] := by kernel_rfl
@[go_sem ↓] theorem sz_43 : Try.prog.cellsOf 43 = 1 := by kernel_rfl
@[go_sem ↓] theorem ag_43 : isAggU (Try.prog.underlying 43) = some false := by kernel_rfl
@[go_sem ↓] theorem zr_43 : zrOf Try.prog 43 = some [.nilFunc] := by kernel_rfl
@[go_sem ↓] theorem sz_44 : Try.prog.cellsOf 44 = 1 := by kernel_rfl
@[go_sem ↓] theorem ag_44 : isAggU (Try.prog.underlying 44) = some false := by kernel_rfl
@[go_sem ↓] theorem zr_44 : zrOf Try.prog 44 = some [.nilFunc] := by kernel_rfl
@[go_sem ↓] theorem sz_45 : Try.prog.cellsOf 45 = 1 := by kernel_rfl
@[go_sem ↓] theorem ag_45 : isAggU (Try.prog.underlying 45) = some false := by kernel_rfl
@[go_sem ↓] theorem zr_45 : zrOf Try.prog 45 = some [.nilFunc] := by kernel_rfl
@[go_sem ↓] theorem sz_46 : Try.prog.cellsOf 46 = 1 := by kernel_rfl
@[go_sem ↓] theorem ag_46 : isAggU (Try.prog.underlying 46) = some false := by kernel_rfl
@[go_sem ↓] theorem zr_46 : zrOf Try.prog 46 = some [(.int .u64 0)] := by kernel_rfl
@[go_sem ↓] theorem sz_47 : Try.prog.cellsOf 47 = 1 := by kernel_rfl
@[go_sem ↓] theorem ag_47 : isAggU (Try.prog.underlying 47) = some false := by kernel_rfl
@[go_sem ↓] theorem zr_47 : zrOf Try.prog 47 = some [.nilFunc] := by kernel_rfl
@[go_sem ↓] theorem sz_49 : Try.prog.cellsOf 49 = 1 := by kernel_rfl
@[go_sem ↓] theorem ag_49 : isAggU (Try.prog.underlying 49) = some false := by kernel_rfl
@[go_sem ↓] theorem zr_49 : zrOf Try.prog 49 = some [.nilFunc] := by kernel_rfl
@[go_sem ↓] theorem sz_51 : Try.prog.cellsOf 51 = 1 := by kernel_rfl
@[go_sem ↓] theorem ag_51 : isAggU (Try.prog.underlying 51) = some false := by kernel_rfl
@[go_sem ↓] theorem zr_51 : zrOf Try.prog 51 = some [.nilFunc] := by kernel_rfl
@[go_sem ↓] theorem sz_53 : Try.prog.cellsOf 53 = 1 := by kernel_rfl
@[go_sem ↓] theorem ag_53 : isAggU (Try.prog.underlying 53) = some false := by kernel_rfl
@[go_sem ↓] theorem zr_53 : zrOf Try.prog 53 = some [.nilFunc] := by kernel_rfl
@[go_sem ↓] theorem sz_55 : Try.prog.cellsOf 55 = 1 := by kernel_rfl
@[go_sem ↓] theorem ag_55 : isAggU (Try.prog.underlying 55) = some false := by kernel_rfl
@[go_sem ↓] theorem zr_55 : zrOf Try.prog 55 = some [.nilFunc] := by kernel_rfl
@[go_sem ↓] theorem sz_56 : Try.prog.cellsOf 56 = 1 := by kernel_rfl
@[go_sem ↓] theorem ag_56 : isAggU (Try.prog.underlying 56) = some false := by kernel_rfl
@[go_sem ↓] theorem zr_56 : zrOf Try.prog 56 = some [.nilFunc] := by kernel_rfl
@[go_sem ↓] theorem sz_57 : Try.prog.cellsOf 57 = 1 := by kernel_rfl
@[go_sem ↓] theorem ag_57 : isAggU (Try.prog.underlying 57) = some false := by kernel_rfl
@[go_sem ↓] theorem zr_57 : zrOf Try.prog 57 = some [.nilFunc] := by kernel_rfl
@[go_sem ↓] theorem sz_58 : Try.prog.cellsOf 58 = 1 := by kernel_rfl
@[go_sem ↓] theorem ag_58 : isAggU (Try.prog.underlying 58) = some false := by kernel_rfl
@[go_sem ↓] theorem es_58 : elSz Try.prog 58 = 11 := by kernel_rfl
@[go_sem ↓] theorem zr_58 : zrOf Try.prog 58 = some [(.slice none 0 0)] := by kernel_rfl
@[go_sem ↓] theorem sz_59 : Try.prog.cellsOf 59 = 1 := by kernel_rfl
@[go_sem ↓] theorem ag_59 : isAggU (Try.prog.underlying 59) = some false := by kernel_rfl
@[go_sem ↓] theorem zr_59 : zrOf Try.prog 59 = some [(.pointer none)] := by kernel_rfl
@[go_sem ↓] theorem sz_60 : Try.prog.cellsOf 60 = 1 := by kernel_rfl
@[go_sem ↓] theorem ag_60 : isAggU (Try.prog.underlying 60) = some false := by kernel_rfl
@[go_sem ↓] theorem zr_60 : zrOf Try.prog 60 = some [.nilFunc] := by kernel_rfl
@[go_sem ↓] theorem sz_61 : Try.prog.cellsOf 61 = 1 := by kernel_rfl
@[go_sem ↓] theorem ag_61 : isAggU (Try.prog.underlying 61) = some false := by kernel_rfl
@[go_sem ↓] theorem zr_61 : zrOf Try.prog 61 = some [(.pointer none)] := by kernel_rfl
@[go_sem ↓] theorem sz_62 : Try.prog.cellsOf 62 = 1 := by kernel_rfl
@[go_sem ↓] theorem ag_62 : isAggU (Try.prog.underlying 62) = some false := by kernel_rfl
@[go_sem ↓] theorem es_62 : elSz Try.prog 62 = 10 := by kernel_rfl
@[go_sem ↓] theorem zr_62 : zrOf Try.prog 62 = some [(.slice none 0 0)] := by kernel_rfl
@[go_sem ↓] theorem sz_63 : Try.prog.cellsOf 63 = 1 := by kernel_rfl
@[go_sem ↓] theorem ag_63 : isAggU (Try.prog.underlying 63) = some false := by kernel_rfl
@[go_sem ↓] theorem es_63 : elSz Try.prog 63 = 1 := by kernel_rfl
@[go_sem ↓] theorem zr_63 : zrOf Try.prog 63 = some [(.slice none 0 0)] := by kernel_rfl
@[go_sem ↓] theorem sz_64 : Try.prog.cellsOf 64 = 2 := by kernel_rfl
@[go_sem ↓] theorem ag_64 : isAggU (Try.prog.underlying 64) = some true := by kernel_rfl
@[go_sem ↓] theorem zr_64 : zrOf Try.prog 64 = some [(.slice none 0 0), (.slice none 0 0)] := by kernel_rfl
@[go_sem ↓] theorem fo_64_0 : foOf Try.prog 64 0 = some 0 := by kernel_rfl
@[go_sem ↓] theorem pl_64_0 : plOf Try.prog 64 0 = some (0, 1) := by kernel_rfl
@[go_sem ↓] theorem fo_64_1 : foOf Try.prog 64 1 = some 1 := by kernel_rfl
@[go_sem ↓] theorem pl_64_1 : plOf Try.prog 64 1 = some (1, 1) := by kernel_rfl
@[go_sem ↓] theorem fl_64 : plOf1 Try.prog 64 = true := by kernel_rfl
@[go_sem ↓] theorem sz_65 : Try.prog.cellsOf 65 = 2 := by kernel_rfl
@[go_sem ↓] theorem ag_65 : isAggU (Try.prog.underlying 65) = some true := by kernel_rfl
@[go_sem ↓] theorem zr_65 : zrOf Try.prog 65 = some [(.slice none 0 0), (.slice none 0 0)] := by kernel_rfl
@[go_sem ↓] theorem fo_65_0 : foOf Try.prog 65 0 = some 0 := by kernel_rfl
@[go_sem ↓] theorem pl_65_0 : plOf Try.prog 65 0 = some (0, 1) := by kernel_rfl
@[go_sem ↓] theorem fo_65_1 : foOf Try.prog 65 1 = some 1 := by kernel_rfl
@[go_sem ↓] theorem pl_65_1 : plOf Try.prog 65 1 = some (1, 1) := by kernel_rfl
@[go_sem ↓] theorem fl_65 : plOf1 Try.prog 65 = true := by kernel_rfl
@[go_sem ↓] theorem sz_66 : Try.prog.cellsOf 66 = 4 := by kernel_rfl
@[go_sem ↓] theorem ag_66 : isAggU (Try.prog.underlying 66) = some true := by kernel_rfl
@[go_sem ↓] theorem es_66 : elSz Try.prog 66 = 1 := by kernel_rfl
@[go_sem ↓] theorem zr_66 : zrOf Try.prog 66 = some [(.int .u8 0), (.int .u8 0), (.int .u8 0), (.int .u8 0)] := by kernel_rfl
@[go_sem ↓] theorem fl_66 : plOf1 Try.prog 66 = true := by kernel_rfl
@[go_sem ↓] theorem pl_66_0 : plOf Try.prog 66 0 = some (0, 1) := by kernel_rfl
@[go_sem ↓] theorem pl_66_1 : plOf Try.prog 66 1 = some (1, 1) := by kernel_rfl
@[go_sem ↓] theorem pl_66_2 : plOf Try.prog 66 2 = some (2, 1) := by kernel_rfl
@[go_sem ↓] theorem pl_66_3 : plOf Try.prog 66 3 = some (3, 1) := by kernel_rfl
@[go_sem ↓] theorem sz_67 : Try.prog.cellsOf 67 = 4 := by kernel_rfl
@[go_sem ↓] theorem ag_67 : isAggU (Try.prog.underlying 67) = some true := by kernel_rfl
@[go_sem ↓] theorem es_67 : elSz Try.prog 67 = 1 := by kernel_rfl
@[go_sem ↓] theorem zr_67 : zrOf Try.prog 67 = some [(.int .u8 0), (.int .u8 0), (.int .u8 0), (.int .u8 0)] := by kernel_rfl
@[go_sem ↓] theorem fl_67 : plOf1 Try.prog 67 = true := by kernel_rfl
@[go_sem ↓] theorem pl_67_0 : plOf Try.prog 67 0 = some (0, 1) := by kernel_rfl
@[go_sem ↓] theorem pl_67_1 : plOf Try.prog 67 1 = some (1, 1) := by kernel_rfl
@[go_sem ↓] theorem pl_67_2 : plOf Try.prog 67 2 = some (2, 1) := by kernel_rfl
@[go_sem ↓] theorem pl_67_3 : plOf Try.prog 67 3 = some (3, 1) := by kernel_rfl
@[go_sem ↓] theorem sz_68 : Try.prog.cellsOf 68 = 10 := by kernel_rfl
@[go_sem ↓] theorem ag_68 : isAggU (Try.prog.underlying 68) = some true := by kernel_rfl
@[go_sem ↓] theorem zr_68 : zrOf Try.prog 68 = some [(.int .i64 0), (.int .i64 0), (.int .i64 0), (.int .i64 0), (.int .i64 0), (.int .u8 0), (.int .u8 0), (.int .u8 0), (.int .u8 0), (.int .i64 0)] := by kernel_rfl
@[go_sem ↓] theorem fo_68_0 : foOf Try.prog 68 0 = some 0 := by kernel_rfl
@[go_sem ↓] theorem pl_68_0 : plOf Try.prog 68 0 = some (0, 1) := by kernel_rfl
@[go_sem ↓] theorem fo_68_1 : foOf Try.prog 68 1 = some 1 := by kernel_rfl
@[go_sem ↓] theorem pl_68_1 : plOf Try.prog 68 1 = some (1, 1) := by kernel_rfl
@[go_sem ↓] theorem fo_68_2 : foOf Try.prog 68 2 = some 2 := by kernel_rfl
@[go_sem ↓] theorem pl_68_2 : plOf Try.prog 68 2 = some (2, 1) := by kernel_rfl
@[go_sem ↓] theorem fo_68_3 : foOf Try.prog 68 3 = some 3 := by kernel_rfl
@[go_sem ↓] theorem pl_68_3 : plOf Try.prog 68 3 = some (3, 1) := by kernel_rfl
@[go_sem ↓] theorem fo_68_4 : foOf Try.prog 68 4 = some 4 := by kernel_rfl
@[go_sem ↓] theorem pl_68_4 : plOf Try.prog 68 4 = some (4, 1) := by kernel_rfl
@[go_sem ↓] theorem fo_68_5 : foOf Try.prog 68 5 = some 5 := by kernel_rfl
@[go_sem ↓] theorem pl_68_5 : plOf Try.prog 68 5 = some (5, 4) := by kernel_rfl
@[go_sem ↓] theorem fo_68_6 : foOf Try.prog 68 6 = some 9 := by kernel_rfl
@[go_sem ↓] theorem pl_68_6 : plOf Try.prog 68 6 = some (9, 1) := by kernel_rfl
@[go_sem ↓] theorem fl_68 : plOf1 Try.prog 68 = true := by kernel_rfl
@[go_sem ↓] theorem sz_69 : Try.prog.cellsOf 69 = 10 := by kernel_rfl
@[go_sem ↓] theorem ag_69 : isAggU (Try.prog.underlying 69) = some true := by kernel_rfl
@[go_sem ↓] theorem zr_69 : zrOf Try.prog 69 = some [(.int .i64 0), (.int .i64 0), (.int .i64 0), (.int .i64 0), (.int .i64 0), (.int .u8 0), (.int .u8 0), (.int .u8 0), (.int .u8 0), (.int .i64 0)] := by kernel_rfl
@[go_sem ↓] theorem fo_69_0 : foOf Try.prog 69 0 = some 0 := by kernel_rfl
@[go_sem ↓] theorem pl_69_0 : plOf Try.prog 69 0 = some (0, 1) := by kernel_rfl
@[go_sem ↓] theorem fo_69_1 : foOf Try.prog 69 1 = some 1 := by kernel_rfl
@[go_sem ↓] theorem pl_69_1 : plOf Try.prog 69 1 = some (1, 1) := by kernel_rfl
@[go_sem ↓] theorem fo_69_2 : foOf Try.prog 69 2 = some 2 := by kernel_rfl
@[go_sem ↓] theorem pl_69_2 : plOf Try.prog 69 2 = some (2, 1) := by kernel_rfl
@[go_sem ↓] theorem fo_69_3 : foOf Try.prog 69 3 = some 3 := by kernel_rfl
@[go_sem ↓] theorem pl_69_3 : plOf Try.prog 69 3 = some (3, 1) := by kernel_rfl
@[go_sem ↓] theorem fo_69_4 : foOf Try.prog 69 4 = some 4 := by kernel_rfl
@[go_sem ↓] theorem pl_69_4 : plOf Try.prog 69 4 = some (4, 1) := by kernel_rfl
@[go_sem ↓] theorem fo_69_5 : foOf Try.prog 69 5 = some 5 := by kernel_rfl
@[go_sem ↓] theorem pl_69_5 : plOf Try.prog 69 5 = some (5, 4) := by kernel_rfl
@[go_sem ↓] theorem fo_69_6 : foOf Try.prog 69 6 = some 9 := by kernel_rfl
@[go_sem ↓] theorem pl_69_6 : plOf Try.prog 69 6 = some (9, 1) := by kernel_rfl
@[go_sem ↓] theorem fl_69 : plOf1 Try.prog 69 = true := by kernel_rfl
@[go_sem ↓] theorem sz_70 : Try.prog.cellsOf 70 = 11 := by kernel_rfl
@[go_sem ↓] theorem ag_70 : isAggU (Try.prog.underlying 70) = some true := by kernel_rfl
@[go_sem ↓] theorem zr_70 : zrOf Try.prog 70 = some [(.int .u8 0), (.int .i64 0), (.int .i64 0), (.int .i64 0), (.int .i64 0), (.int .i64 0), (.int .u8 0), (.int .u8 0), (.int .u8 0), (.int .u8 0), (.int .i64 0)] := by kernel_rfl
@[go_sem ↓] theorem fo_70_0 : foOf Try.prog 70 0 = some 0 := by kernel_rfl
@[go_sem ↓] theorem pl_70_0 : plOf Try.prog 70 0 = some (0, 1) := by kernel_rfl
@[go_sem ↓] theorem fo_70_1 : foOf Try.prog 70 1 = some 1 := by kernel_rfl
@[go_sem ↓] theorem pl_70_1 : plOf Try.prog 70 1 = some (1, 10) := by kernel_rfl
@[go_sem ↓] theorem fl_70 : plOf1 Try.prog 70 = true := by kernel_rfl
@[go_sem ↓] theorem sz_71 : Try.prog.cellsOf 71 = 11 := by kernel_rfl
@[go_sem ↓] theorem ag_71 : isAggU (Try.prog.underlying 71) = some true := by kernel_rfl
@[go_sem ↓] theorem zr_71 : zrOf Try.prog 71 = some [(.int .u8 0), (.int .i64 0), (.int .i64 0), (.int .i64 0), (.int .i64 0), (.int .i64 0), (.int .u8 0), (.int .u8 0), (.int .u8 0), (.int .u8 0), (.int .i64 0)] := by kernel_rfl
@[go_sem ↓] theorem fo_71_0 : foOf Try.prog 71 0 = some 0 := by kernel_rfl
@[go_sem ↓] theorem pl_71_0 : plOf Try.prog 71 0 = some (0, 1) := by kernel_rfl
@[go_sem ↓] theorem fo_71_1 : foOf Try.prog 71 1 = some 1 := by kernel_rfl
@[go_sem ↓] theorem pl_71_1 : plOf Try.prog 71 1 = some (1, 10) := by kernel_rfl
@[go_sem ↓] theorem fl_71 : plOf1 Try.prog 71 = true := by kernel_rfl
@[go_sem ↓] theorem sz_73 : Try.prog.cellsOf 73 = 1 := by kernel_rfl
@[go_sem ↓] theorem ag_73 : isAggU (Try.prog.underlying 73) = some false := by kernel_rfl
@[go_sem ↓] theorem zr_73 : zrOf Try.prog 73 = some [.nilFunc] := by kernel_rfl
@[go_sem ↓] theorem sz_74 : Try.prog.cellsOf 74 = 1 := by kernel_rfl
@[go_sem ↓] theorem ag_74 : isAggU (Try.prog.underlying 74) = some false := by kernel_rfl
@[go_sem ↓] theorem zr_74 : zrOf Try.prog 74 = some [.nilFunc] := by kernel_rfl
@[go_sem ↓] theorem sz_75 : Try.prog.cellsOf 75 = 1 := by kernel_rfl
@[go_sem ↓] theorem ag_75 : isAggU (Try.prog.underlying 75) = some false := by kernel_rfl
@[go_sem ↓] theorem zr_75 : zrOf Try.prog 75 = some [.nilFunc] := by kernel_rfl
@[go_sem ↓] theorem sz_76 : Try.prog.cellsOf 76 = 1 := by kernel_rfl
@[go_sem ↓] theorem ag_76 : isAggU (Try.prog.underlying 76) = some false := by kernel_rfl
@[go_sem ↓] theorem zr_76 : zrOf Try.prog 76 = some [.nilFunc] := by kernel_rfl
@[go_sem ↓] theorem sz_77 : Try.prog.cellsOf 77 = 1 := by kernel_rfl
@[go_sem ↓] theorem ag_77 : isAggU (Try.prog.underlying 77) = some false := by kernel_rfl
@[go_sem ↓] theorem zr_77 : zrOf Try.prog 77 = some [.nilFunc] := by kernel_rfl
@[go_sem ↓] theorem sz_78 : Try.prog.cellsOf 78 = 1 := by kernel_rfl
@[go_sem ↓] theorem ag_78 : isAggU (Try.prog.underlying 78) = some false := by kernel_rfl
@[go_sem ↓] theorem es_78 : elSz Try.prog 78 = 2 := by kernel_rfl
@[go_sem ↓] theorem zr_78 : zrOf Try.prog 78 = some [(.slice none 0 0)] := by kernel_rfl
@[go_sem ↓] theorem sz_79 : Try.prog.cellsOf 79 = 1 := by kernel_rfl
@[go_sem ↓] theorem ag_79 : isAggU (Try.prog.underlying 79) = some false := by kernel_rfl
@[go_sem ↓] theorem zr_79 : zrOf Try.prog 79 = some [.nilFunc] := by kernel_rfl
@[go_sem ↓] theorem sz_80 : Try.prog.cellsOf 80 = 1 := by kernel_rfl
@[go_sem ↓] theorem ag_80 : isAggU (Try.prog.underlying 80) = some false := by kernel_rfl
@[go_sem ↓] theorem zr_80 : zrOf Try.prog 80 = some [.nilFunc] := by kernel_rfl
@[go_sem ↓] theorem sz_81 : Try.prog.cellsOf 81 = 1 := by kernel_rfl
@[go_sem ↓] theorem ag_81 : isAggU (Try.prog.underlying 81) = some false := by kernel_rfl
@[go_sem ↓] theorem zr_81 : zrOf Try.prog 81 = some [.nilFunc] := by kernel_rfl
@[go_sem ↓] theorem sz_82 : Try.prog.cellsOf 82 = 1 := by kernel_rfl
@[go_sem ↓] theorem ag_82 : isAggU (Try.prog.underlying 82) = some false := by kernel_rfl
@[go_sem ↓] theorem zr_82 : zrOf Try.prog 82 = some [(.int .u32 0)] := by kernel_rfl
@[go_sem ↓] theorem sz_83 : Try.prog.cellsOf 83 = 1 := by kernel_rfl
@[go_sem ↓] theorem ag_83 : isAggU (Try.prog.underlying 83) = some false := by kernel_rfl
@[go_sem ↓] theorem zr_83 : zrOf Try.prog 83 = some [.nilFunc] := by kernel_rfl
@[go_sem ↓] theorem sz_84 : Try.prog.cellsOf 84 = 1 := by kernel_rfl
@[go_sem ↓] theorem ag_84 : isAggU (Try.prog.underlying 84) = some false := by kernel_rfl
@[go_sem ↓] theorem zr_84 : zrOf Try.prog 84 = some [.nilFunc] := by kernel_rfl
@[go_sem ↓] theorem sz_85 : Try.prog.cellsOf 85 = 1 := by kernel_rfl
@[go_sem ↓] theorem ag_85 : isAggU (Try.prog.underlying 85) = some false := by kernel_rfl
@[go_sem ↓] theorem es_85 : elSz Try.prog 85 = 2 := by kernel_rfl
@[go_sem ↓] theorem zr_85 : zrOf Try.prog 85 = some [(.slice none 0 0)] := by kernel_rfl
@[go_sem ↓] theorem sz_86 : Try.prog.cellsOf 86 = 1 := by kernel_rfl
@[go_sem ↓] theorem ag_86 : isAggU (Try.prog.underlying 86) = some false := by kernel_rfl
@[go_sem ↓] theorem zr_86 : zrOf Try.prog 86 = some [.nilFunc] := by kernel_rfl
@[go_sem ↓] theorem sz_87 : Try.prog.cellsOf 87 = 1 := by kernel_rfl
@[go_sem ↓] theorem ag_87 : isAggU (Try.prog.underlying 87) = some false := by kernel_rfl
@[go_sem ↓] theorem zr_87 : zrOf Try.prog 87 = some [.nilFunc] := by kernel_rfl
@[go_sem ↓] theorem sz_89 : Try.prog.cellsOf 89 = 1 := by kernel_rfl
@[go_sem ↓] theorem ag_89 : isAggU (Try.prog.underlying 89) = some false := by kernel_rfl
@[go_sem ↓] theorem zr_89 : zrOf Try.prog 89 = some [.nilFunc] := by kernel_rfl
@[go_sem ↓] theorem sz_91 : Try.prog.cellsOf 91 = 1 := by kernel_rfl
@[go_sem ↓] theorem ag_91 : isAggU (Try.prog.underlying 91) = some false := by kernel_rfl
@[go_sem ↓] theorem zr_91 : zrOf Try.prog 91 = some [.nilFunc] := by kernel_rfl
@[go_sem ↓] theorem sz_93 : Try.prog.cellsOf 93 = 1 := by kernel_rfl
@[go_sem ↓] theorem ag_93 : isAggU (Try.prog.underlying 93) = some false := by kernel_rfl
@[go_sem ↓] theorem zr_93 : zrOf Try.prog 93 = some [.nilFunc] := by kernel_rfl
@[go_sem ↓] theorem sz_94 : Try.prog.cellsOf 94 = 1 := by kernel_rfl
@[go_sem ↓] theorem ag_94 : isAggU (Try.prog.underlying 94) = some false := by kernel_rfl
@[go_sem ↓] theorem zr_94 : zrOf Try.prog 94 = some [(.int .u64 0)] := by kernel_rfl
@[go_sem ↓] theorem sz_96 : Try.prog.cellsOf 96 = 1 := by kernel_rfl
@[go_sem ↓] theorem ag_96 : isAggU (Try.prog.underlying 96) = some false := by kernel_rfl
@[go_sem ↓] theorem zr_96 : zrOf Try.prog 96 = some [.nilFunc] := by kernel_rfl
@[go_sem ↓] theorem sz_98 : Try.prog.cellsOf 98 = 1 := by kernel_rfl
@[go_sem ↓] theorem ag_98 : isAggU (Try.prog.underlying 98) = some false := by kernel_rfl
@[go_sem ↓] theorem zr_98 : zrOf Try.prog 98 = some [.nilFunc] := by kernel_rfl
@[go_sem ↓] theorem sz_99 : Try.prog.cellsOf 99 = 1 := by kernel_rfl
@[go_sem ↓] theorem ag_99 : isAggU (Try.prog.underlying 99) = some false := by kernel_rfl
@[go_sem ↓] theorem zr_99 : zrOf Try.prog 99 = some [.nilFunc] := by kernel_rfl
@[go_sem ↓] theorem sz_100 : Try.prog.cellsOf 100 = 1 := by kernel_rfl
@[go_sem ↓] theorem ag_100 : isAggU (Try.prog.underlying 100) = some false := by kernel_rfl
@[go_sem ↓] theorem zr_100 : zrOf Try.prog 100 = some [.nilFunc] := by kernel_rfl
@[go_sem ↓] theorem sz_101 : Try.prog.cellsOf 101 = 2 := by kernel_rfl
@[go_sem ↓] theorem ag_101 : isAggU (Try.prog.underlying 101) = some true := by kernel_rfl
@[go_sem ↓] theorem zr_101 : zrOf Try.prog 101 = some [(.int .u64 0), (.int .i64 0)] := by kernel_rfl
@[go_sem ↓] theorem fo_101_0 : foOf Try.prog 101 0 = some 0 := by kernel_rfl
@[go_sem ↓] theorem pl_101_0 : plOf Try.prog 101 0 = some (0, 1) := by kernel_rfl
@[go_sem ↓] theorem fo_101_1 : foOf Try.prog 101 1 = some 1 := by kernel_rfl
@[go_sem ↓] theorem pl_101_1 : plOf Try.prog 101 1 = some (1, 1) := by kernel_rfl
@[go_sem ↓] theorem fl_101 : plOf1 Try.prog 101 = true := by kernel_rfl
@[go_sem ↓] theorem sz_102 : Try.prog.cellsOf 102 = 2 := by kernel_rfl
@[go_sem ↓] theorem ag_102 : isAggU (Try.prog.underlying 102) = some true := by kernel_rfl
@[go_sem ↓] theorem zr_102 : zrOf Try.prog 102 = some [(.int .u64 0), (.int .i64 0)] := by kernel_rfl
@[go_sem ↓] theorem fo_102_0 : foOf Try.prog 102 0 = some 0 := by kernel_rfl
@[go_sem ↓] theorem pl_102_0 : plOf Try.prog 102 0 = some (0, 1) := by kernel_rfl
@[go_sem ↓] theorem fo_102_1 : foOf Try.prog 102 1 = some 1 := by kernel_rfl
@[go_sem ↓] theorem pl_102_1 : plOf Try.prog 102 1 = some (1, 1) := by kernel_rfl
@[go_sem ↓] theorem fl_102 : plOf1 Try.prog 102 = true := by kernel_rfl
@[go_sem ↓] theorem sz_103 : Try.prog.cellsOf 103 = 1 := by kernel_rfl
@[go_sem ↓] theorem ag_103 : isAggU (Try.prog.underlying 103) = some false := by kernel_rfl
@[go_sem ↓] theorem es_103 : elSz Try.prog 103 = 1 := by kernel_rfl
@[go_sem ↓] theorem zr_103 : zrOf Try.prog 103 = some [(.slice none 0 0)] := by kernel_rfl
@[go_sem ↓] theorem sz_104 : Try.prog.cellsOf 104 = 1 := by kernel_rfl
@[go_sem ↓] theorem ag_104 : isAggU (Try.prog.underlying 104) = some false := by kernel_rfl
@[go_sem ↓] theorem zr_104 : zrOf Try.prog 104 = some [.nilFunc] := by kernel_rfl
@[go_sem ↓] theorem sz_105 : Try.prog.cellsOf 105 = 1 := by kernel_rfl
@[go_sem ↓] theorem ag_105 : isAggU (Try.prog.underlying 105) = some false := by kernel_rfl
@[go_sem ↓] theorem es_105 : elSz Try.prog 105 = 1 := by kernel_rfl
@[go_sem ↓] theorem zr_105 : zrOf Try.prog 105 = some [(.slice none 0 0)] := by kernel_rfl
@[go_sem ↓] theorem sz_106 : Try.prog.cellsOf 106 = 1 := by kernel_rfl
@[go_sem ↓] theorem ag_106 : isAggU (Try.prog.underlying 106) = some false := by kernel_rfl
@[go_sem ↓] theorem zr_106 : zrOf Try.prog 106 = some [.nilFunc] := by kernel_rfl
@[go_sem ↓] theorem sz_107 : Try.prog.cellsOf 107 = 8 := by kernel_rfl
@[go_sem ↓] theorem ag_107 : isAggU (Try.prog.underlying 107) = some true := by kernel_rfl
@[go_sem ↓] theorem es_107 : elSz Try.prog 107 = 1 := by kernel_rfl
@[go_sem ↓] theorem zr_107 : zrOf Try.prog 107 = some [(.int .u8 0), (.int .u8 0), (.int .u8 0), (.int .u8 0), (.int .u8 0), (.int .u8 0), (.int .u8 0), (.int .u8 0)] := by kernel_rfl
@[go_sem ↓] theorem fl_107 : plOf1 Try.prog 107 = true := by kernel_rfl
@[go_sem ↓] theorem pl_107_0 : plOf Try.prog 107 0 = some (0, 1) := by kernel_rfl
@[go_sem ↓] theorem pl_107_1 : plOf Try.prog 107 1 = some (1, 1) := by kernel_rfl
@[go_sem ↓] theorem pl_107_2 : plOf Try.prog 107 2 = some (2, 1) := by kernel_rfl
@[go_sem ↓] theorem pl_107_3 : plOf Try.prog 107 3 = some (3, 1) := by kernel_rfl
@[go_sem ↓] theorem pl_107_4 : plOf Try.prog 107 4 = some (4, 1) := by kernel_rfl
@[go_sem ↓] theorem pl_107_5 : plOf Try.prog 107 5 = some (5, 1) := by kernel_rfl
@[go_sem ↓] theorem pl_107_6 : plOf Try.prog 107 6 = some (6, 1) := by kernel_rfl
@[go_sem ↓] theorem pl_107_7 : plOf Try.prog 107 7 = some (7, 1) := by kernel_rfl
@[go_sem ↓] theorem sz_108 : Try.prog.cellsOf 108 = 1 := by kernel_rfl
@[go_sem ↓] theorem ag_108 : isAggU (Try.prog.underlying 108) = some false := by kernel_rfl
@[go_sem ↓] theorem zr_108 : zrOf Try.prog 108 = some [.nilFunc] := by kernel_rfl
@[go_sem ↓] theorem sz_109 : Try.prog.cellsOf 109 = 11 := by kernel_rfl
@[go_sem ↓] theorem ag_109 : isAggU (Try.prog.underlying 109) = some true := by kernel_rfl
@[go_sem ↓] theorem zr_109 : zrOf Try.prog 109 = some [(.int .i64 0), (.int .i64 0), (.int .i64 0), (.int .i64 0), (.int .i64 0), (.int .u8 0), (.int .u8 0), (.int .u8 0), (.int .u8 0), (.int .i64 0), (.int .i64 0)] := by kernel_rfl
@[go_sem ↓] theorem fo_109_0 : foOf Try.prog 109 0 = some 0 := by kernel_rfl
@[go_sem ↓] theorem pl_109_0 : plOf Try.prog 109 0 = some (0, 10) := by kernel_rfl
@[go_sem ↓] theorem fo_109_1 : foOf Try.prog 109 1 = some 10 := by kernel_rfl
@[go_sem ↓] theorem pl_109_1 : plOf Try.prog 109 1 = some (10, 1) := by kernel_rfl
@[go_sem ↓] theorem fl_109 : plOf1 Try.prog 109 = true := by kernel_rfl
@[go_sem ↓] theorem sz_110 : Try.prog.cellsOf 110 = 11 := by kernel_rfl
@[go_sem ↓] theorem ag_110 : isAggU (Try.prog.underlying 110) = some true := by kernel_rfl
@[go_sem ↓] theorem zr_110 : zrOf Try.prog 110 = some [(.int .i64 0), (.int .i64 0), (.int .i64 0), (.int .i64 0), (.int .i64 0), (.int .u8 0), (.int .u8 0), (.int .u8 0), (.int .u8 0), (.int .i64 0), (.int .i64 0)] := by kernel_rfl
@[go_sem ↓] theorem fo_110_0 : foOf Try.prog 110 0 = some 0 := by kernel_rfl
@[go_sem ↓] theorem pl_110_0 : plOf Try.prog 110 0 = some (0, 10) := by kernel_rfl
@[go_sem ↓] theorem fo_110_1 : foOf Try.prog 110 1 = some 10 := by kernel_rfl
@[go_sem ↓] theorem pl_110_1 : plOf Try.prog 110 1 = some (10, 1) := by kernel_rfl
@[go_sem ↓] theorem fl_110 : plOf1 Try.prog 110 = true := by kernel_rfl
@[go_sem ↓] theorem sz_111 : Try.prog.cellsOf 111 = 88 := by kernel_rfl
@[go_sem ↓] theorem ag_111 : isAggU (Try.prog.underlying 111) = some true := by kernel_rfl
@[go_sem ↓] theorem es_111 : elSz Try.prog 111 = 11 := by kernel_rfl
@[go_sem ↓] theorem zr_111 : zrOf Try.prog 111 = some [(.int .i64 0), (.int .i64 0), (.int .i64 0), (.int .i64 0), (.int .i64 0), (.int .u8 0), (.int .u8 0), (.int .u8 0), (.int .u8 0), (.int .i64 0), (.int .i64 0), (.int .i64 0), (.int .i64 0), (.int .i64 0), (.int .i64 0), (.int .i64 0), (.int .u8 0), (.int .u8 0), (.int .u8 0), (.int .u8 0), (.int .i64 0), (.int .i64 0), (.int .i64 0), (.int .i64 0), (.int .i64 0), (.int .i64 0), (.int .i64 0), (.int .u8 0), (.int .u8 0), (.int .u8 0), (.int .u8 0), (.int .i64 0), (.int .i64 0), (.int .i64 0), (.int .i64 0), (.int .i64 0), (.int .i64 0), (.int .i64 0), (.int .u8 0), (.int .u8 0), (.int .u8 0), (.int .u8 0), (.int .i64 0), (.int .i64 0), (.int .i64 0), (.int .i64 0), (.int .i64 0), (.int .i64 0), (.int .i64 0), (.int .u8 0), (.int .u8 0), (.int .u8 0), (.int .u8 0), (.int .i64 0), (.int .i64 0), (.int .i64 0), (.int .i64 0), (.int .i64 0), (.int .i64 0), (.int .i64 0), (.int .u8 0), (.int .u8 0), (.int .u8 0), (.int .u8 0), (.int .i64 0), (.int .i64 0), (.int .i64 0), (.int .i64 0), (.int .i64 0), (.int .i64 0), (.int .i64 0), (.int .u8 0), (.int .u8 0), (.int .u8 0), (.int .u8 0), (.int .i64 0), (.int .i64 0), (.int .i64 0), (.int .i64 0), (.int .i64 0), (.int .i64 0), (.int .i64 0), (.int .u8 0), (.int .u8 0), (.int .u8 0), (.int .u8 0), (.int .i64 0), (.int .i64 0)] := by kernel_rfl
@[go_sem ↓] theorem fl_111 : plOf1 Try.prog 111 = true := by kernel_rfl
@[go_sem ↓] theorem pl_111_0 : plOf Try.prog 111 0 = some (0, 11) := by kernel_rfl
@[go_sem ↓] theorem pl_111_1 : plOf Try.prog 111 1 = some (11, 11) := by kernel_rfl
@[go_sem ↓] theorem pl_111_2 : plOf Try.prog 111 2 = some (22, 11) := by kernel_rfl
@[go_sem ↓] theorem pl_111_3 : plOf Try.prog 111 3 = some (33, 11) := by kernel_rfl
@[go_sem ↓] theorem pl_111_4 : plOf Try.prog 111 4 = some (44, 11) := by kernel_rfl
@[go_sem ↓] theorem pl_111_5 : plOf Try.prog 111 5 = some (55, 11) := by kernel_rfl
@[go_sem ↓] theorem pl_111_6 : plOf Try.prog 111 6 = some (66, 11) := by kernel_rfl
@[go_sem ↓] theorem pl_111_7 : plOf Try.prog 111 7 = some (77, 11) := by kernel_rfl
@[go_sem ↓] theorem sz_112 : Try.prog.cellsOf 112 = 90 := by kernel_rfl
@[go_sem ↓] theorem ag_112 : isAggU (Try.prog.underlying 112) = some true := by kernel_rfl
@[go_sem ↓] theorem zr_112 : zrOf Try.prog 112 = some [(.int .i64 0), (.int .i64 0), (.int .i64 0), (.int .i64 0), (.int .i64 0), (.int .u8 0), (.int .u8 0), (.int .u8 0), (.int .u8 0), (.int .i64 0), (.int .i64 0), (.int .i64 0), (.int .i64 0), (.int .i64 0), (.int .i64 0), (.int .i64 0), (.int .u8 0), (.int .u8 0), (.int .u8 0), (.int .u8 0), (.int .i64 0), (.int .i64 0), (.int .i64 0), (.int .i64 0), (.int .i64 0), (.int .i64 0), (.int .i64 0), (.int .u8 0), (.int .u8 0), (.int .u8 0), (.int .u8 0), (.int .i64 0), (.int .i64 0), (.int .i64 0), (.int .i64 0), (.int .i64 0), (.int .i64 0), (.int .i64 0), (.int .u8 0), (.int .u8 0), (.int .u8 0), (.int .u8 0), (.int .i64 0), (.int .i64 0), (.int .i64 0), (.int .i64 0), (.int .i64 0), (.int .i64 0), (.int .i64 0), (.int .u8 0), (.int .u8 0), (.int .u8 0), (.int .u8 0), (.int .i64 0), (.int .i64 0), (.int .i64 0), (.int .i64 0), (.int .i64 0), (.int .i64 0), (.int .i64 0), (.int .u8 0), (.int .u8 0), (.int .u8 0), (.int .u8 0), (.int .i64 0), (.int .i64 0), (.int .i64 0), (.int .i64 0), (.int .i64 0), (.int .i64 0), (.int .i64 0), (.int .u8 0), (.int .u8 0), (.int .u8 0), (.int .u8 0), (.int .i64 0), (.int .i64 0), (.int .i64 0), (.int .i64 0), (.int .i64 0), (.int .i64 0), (.int .i64 0), (.int .u8 0), (.int .u8 0), (.int .u8 0), (.int .u8 0), (.int .i64 0), (.int .i64 0), (.int .i64 0), (.int .i64 0)] := by kernel_rfl
@[go_sem ↓] theorem fo_112_0 : foOf Try.prog 112 0 = some 0 := by kernel_rfl
@[go_sem ↓] theorem pl_112_0 : plOf Try.prog 112 0 = some (0, 88) := by kernel_rfl
@[go_sem ↓] theorem fo_112_1 : foOf Try.prog 112 1 = some 88 := by kernel_rfl
@[go_sem ↓] theorem pl_112_1 : plOf Try.prog 112 1 = some (88, 1) := by kernel_rfl
@[go_sem ↓] theorem fo_112_2 : foOf Try.prog 112 2 = some 89 := by kernel_rfl
@[go_sem ↓] theorem pl_112_2 : plOf Try.prog 112 2 = some (89, 1) := by kernel_rfl
@[go_sem ↓] theorem fl_112 : plOf1 Try.prog 112 = true := by kernel_rfl
@[go_sem ↓] theorem sz_113 : Try.prog.cellsOf 113 = 90 := by kernel_rfl
@[go_sem ↓] theorem ag_113 : isAggU (Try.prog.underlying 113) = some true := by kernel_rfl
@[go_sem ↓] theorem zr_113 : zrOf Try.prog 113 = some [(.int .i64 0), (.int .i64 0), (.int .i64 0), (.int .i64 0), (.int .i64 0), (.int .u8 0), (.int .u8 0), (.int .u8 0), (.int .u8 0), (.int .i64 0), (.int .i64 0), (.int .i64 0), (.int .i64 0), (.int .i64 0), (.int .i64 0), (.int .i64 0), (.int .u8 0), (.int .u8 0), (.int .u8 0), (.int .u8 0), (.int .i64 0), (.int .i64 0), (.int .i64 0), (.int .i64 0), (.int .i64 0), (.int .i64 0), (.int .i64 0), (.int .u8 0), (.int .u8 0), (.int .u8 0), (.int .u8 0), (.int .i64 0), (.int .i64 0), (.int .i64 0), (.int .i64 0), (.int .i64 0), (.int .i64 0), (.int .i64 0), (.int .u8 0), (.int .u8 0), (.int .u8 0), (.int .u8 0), (.int .i64 0), (.int .i64 0), (.int .i64 0), (.int .i64 0), (.int .i64 0), (.int .i64 0), (.int .i64 0), (.int .u8 0), (.int .u8 0), (.int .u8 0), (.int .u8 0), (.int .i64 0), (.int .i64 0), (.int .i64 0), (.int .i64 0), (.int .i64 0), (.int .i64 0), (.int .i64 0), (.int .u8 0), (.int .u8 0), (.int .u8 0), (.int .u8 0), (.int .i64 0), (.int .i64 0), (.int .i64 0), (.int .i64 0), (.int .i64 0), (.int .i64 0), (.int .i64 0), (.int .u8 0), (.int .u8 0), (.int .u8 0), (.int .u8 0), (.int .i64 0), (.int .i64 0), (.int .i64 0), (.int .i64 0), (.int .i64 0), (.int .i64 0), (.int .i64 0), (.int .u8 0), (.int .u8 0), (.int .u8 0), (.int .u8 0), (.int .i64 0), (.int .i64 0), (.int .i64 0), (.int .i64 0)] := by kernel_rfl
@[go_sem ↓] theorem fo_113_0 : foOf Try.prog 113 0 = some 0 := by kernel_rfl
@[go_sem ↓] theorem pl_113_0 : plOf Try.prog 113 0 = some (0, 88) := by kernel_rfl
@[go_sem ↓] theorem fo_113_1 : foOf Try.prog 113 1 = some 88 := by kernel_rfl
@[go_sem ↓] theorem pl_113_1 : plOf Try.prog 113 1 = some (88, 1) := by kernel_rfl
@[go_sem ↓] theorem fo_113_2 : foOf Try.prog 113 2 = some 89 := by kernel_rfl
@[go_sem ↓] theorem pl_113_2 : plOf Try.prog 113 2 = some (89, 1) := by kernel_rfl
@[go_sem ↓] theorem fl_113 : plOf1 Try.prog 113 = true := by kernel_rfl
@[go_sem ↓] theorem sz_114 : Try.prog.cellsOf 114 = 1 := by kernel_rfl
@[go_sem ↓] theorem ag_114 : isAggU (Try.prog.underlying 114) = some false := by kernel_rfl
@[go_sem ↓] theorem zr_114 : zrOf Try.prog 114 = some [(.pointer none)] := by kernel_rfl
@[go_sem ↓] theorem sz_115 : Try.prog.cellsOf 115 = 2 := by kernel_rfl
@[go_sem ↓] theorem ag_115 : isAggU (Try.prog.underlying 115) = some true := by kernel_rfl
@[go_sem ↓] theorem zr_115 : zrOf Try.prog 115 = some [(.int .i64 0), (.int .i64 0)] := by kernel_rfl
@[go_sem ↓] theorem fo_115_0 : foOf Try.prog 115 0 = some 0 := by kernel_rfl
@[go_sem ↓] theorem pl_115_0 : plOf Try.prog 115 0 = some (0, 1) := by kernel_rfl
@[go_sem ↓] theorem fo_115_1 : foOf Try.prog 115 1 = some 1 := by kernel_rfl
@[go_sem ↓] theorem pl_115_1 : plOf Try.prog 115 1 = some (1, 1) := by kernel_rfl
@[go_sem ↓] theorem fl_115 : plOf1 Try.prog 115 = true := by kernel_rfl
@[go_sem ↓] theorem sz_116 : Try.prog.cellsOf 116 = 2 := by kernel_rfl
@[go_sem ↓] theorem ag_116 : isAggU (Try.prog.underlying 116) = some true := by kernel_rfl
@[go_sem ↓] theorem zr_116 : zrOf Try.prog 116 = some [(.int .i64 0), (.int .i64 0)] := by kernel_rfl
@[go_sem ↓] theorem fo_116_0 : foOf Try.prog 116 0 = some 0 := by kernel_rfl
@[go_sem ↓] theorem pl_116_0 : plOf Try.prog 116 0 = some (0, 1) := by kernel_rfl
@[go_sem ↓] theorem fo_116_1 : foOf Try.prog 116 1 = some 1 := by kernel_rfl
@[go_sem ↓] theorem pl_116_1 : plOf Try.prog 116 1 = some (1, 1) := by kernel_rfl
@[go_sem ↓] theorem fl_116 : plOf1 Try.prog 116 = true := by kernel_rfl
@[go_sem ↓] theorem sz_117 : Try.prog.cellsOf 117 = 1 := by kernel_rfl
@[go_sem ↓] theorem ag_117 : isAggU (Try.prog.underlying 117) = some false := by kernel_rfl
@[go_sem ↓] theorem zr_117 : zrOf Try.prog 117 = some [.nilFunc] := by kernel_rfl
@[go_sem ↓] theorem sz_118 : Try.prog.cellsOf 118 = 1 := by kernel_rfl
@[go_sem ↓] theorem ag_118 : isAggU (Try.prog.underlying 118) = some false := by kernel_rfl
@[go_sem ↓] theorem zr_118 : zrOf Try.prog 118 = some [.nilFunc] := by kernel_rfl
@[go_sem ↓] theorem sz_119 : Try.prog.cellsOf 119 = 1 := by kernel_rfl
@[go_sem ↓] theorem ag_119 : isAggU (Try.prog.underlying 119) = some false := by kernel_rfl
@[go_sem ↓] theorem zr_119 : zrOf Try.prog 119 = some [(.map none)] := by kernel_rfl
@[go_sem ↓] theorem sz_120 : Try.prog.cellsOf 120 = 1 := by kernel_rfl
@[go_sem ↓] theorem ag_120 : isAggU (Try.prog.underlying 120) = some false := by kernel_rfl
@[go_sem ↓] theorem zr_120 : zrOf Try.prog 120 = some [(.map none)] := by kernel_rfl
@[go_sem ↓] theorem sz_121 : Try.prog.cellsOf 121 = 1 := by kernel_rfl
@[go_sem ↓] theorem ag_121 : isAggU (Try.prog.underlying 121) = some false := by kernel_rfl
@[go_sem ↓] theorem zr_121 : zrOf Try.prog 121 = some [.nilFunc] := by kernel_rfl
@[go_sem ↓] theorem sz_122 : Try.prog.cellsOf 122 = 1 := by kernel_rfl
@[go_sem ↓] theorem ag_122 : isAggU (Try.prog.underlying 122) = some false := by kernel_rfl
@[go_sem ↓] theorem zr_122 : zrOf Try.prog 122 = some [.nilFunc] := by kernel_rfl
@[go_sem ↓] theorem sz_123 : Try.prog.cellsOf 123 = 1 := by kernel_rfl
@[go_sem ↓] theorem ag_123 : isAggU (Try.prog.underlying 123) = some false := by kernel_rfl
@[go_sem ↓] theorem zr_123 : zrOf Try.prog 123 = some [.nilFunc] := by kernel_rfl
@[go_sem ↓] theorem sz_124 : Try.prog.cellsOf 124 = 1 := by kernel_rfl
@[go_sem ↓] theorem ag_124 : isAggU (Try.prog.underlying 124) = some false := by kernel_rfl
@[go_sem ↓] theorem zr_124 : zrOf Try.prog 124 = some [.nilFunc] := by kernel_rfl
@[go_sem ↓] theorem sz_125 : Try.prog.cellsOf 125 = 4 := by kernel_rfl
@[go_sem ↓] theorem ag_125 : isAggU (Try.prog.underlying 125) = some true := by kernel_rfl
@[go_sem ↓] theorem zr_125 : zrOf Try.prog 125 = some [(.pointer none), (.pointer none), (.pointer none), (.string ⟨#[]⟩)] := by kernel_rfl
@[go_sem ↓] theorem fo_125_0 : foOf Try.prog 125 0 = some 0 := by kernel_rfl
@[go_sem ↓] theorem pl_125_0 : plOf Try.prog 125 0 = some (0, 1) := by kernel_rfl
@[go_sem ↓] theorem fo_125_1 : foOf Try.prog 125 1 = some 1 := by kernel_rfl
@[go_sem ↓] theorem pl_125_1 : plOf Try.prog 125 1 = some (1, 1) := by kernel_rfl
@[go_sem ↓] theorem fo_125_2 : foOf Try.prog 125 2 = some 2 := by kernel_rfl
@[go_sem ↓] theorem pl_125_2 : plOf Try.prog 125 2 = some (2, 1) := by kernel_rfl
@[go_sem ↓] theorem fo_125_3 : foOf Try.prog 125 3 = some 3 := by kernel_rfl
@[go_sem ↓] theorem pl_125_3 : plOf Try.prog 125 3 = some (3, 1) := by kernel_rfl
@[go_sem ↓] theorem fl_125 : plOf1 Try.prog 125 = true := by kernel_rfl
@[go_sem ↓] theorem sz_126 : Try.prog.cellsOf 126 = 4 := by kernel_rfl
@[go_sem ↓] theorem ag_126 : isAggU (Try.prog.underlying 126) = some true := by kernel_rfl
@[go_sem ↓] theorem zr_126 : zrOf Try.prog 126 = some [(.pointer none), (.pointer none), (.pointer none), (.string ⟨#[]⟩)] := by kernel_rfl
@[go_sem ↓] theorem fo_126_0 : foOf Try.prog 126 0 = some 0 := by kernel_rfl
@[go_sem ↓] theorem pl_126_0 : plOf Try.prog 126 0 = some (0, 1) := by kernel_rfl
@[go_sem ↓] theorem fo_126_1 : foOf Try.prog 126 1 = some 1 := by kernel_rfl
@[go_sem ↓] theorem pl_126_1 : plOf Try.prog 126 1 = some (1, 1) := by kernel_rfl
@[go_sem ↓] theorem fo_126_2 : foOf Try.prog 126 2 = some 2 := by kernel_rfl
@[go_sem ↓] theorem pl_126_2 : plOf Try.prog 126 2 = some (2, 1) := by kernel_rfl
@[go_sem ↓] theorem fo_126_3 : foOf Try.prog 126 3 = some 3 := by kernel_rfl
@[go_sem ↓] theorem pl_126_3 : plOf Try.prog 126 3 = some (3, 1) := by kernel_rfl
@[go_sem ↓] theorem fl_126 : plOf1 Try.prog 126 = true := by kernel_rfl
@[go_sem ↓] theorem sz_127 : Try.prog.cellsOf 127 = 0 := by kernel_rfl
@[go_sem ↓] theorem ag_127 : isAggU (Try.prog.underlying 127) = some true := by kernel_rfl
@[go_sem ↓] theorem es_127 : elSz Try.prog 127 = 1 := by kernel_rfl
@[go_sem ↓] theorem zr_127 : zrOf Try.prog 127 = some [] := by kernel_rfl
@[go_sem ↓] theorem fl_127 : plOf1 Try.prog 127 = true := by kernel_rfl
@[go_sem ↓] theorem sz_128 : Try.prog.cellsOf 128 = 0 := by kernel_rfl
@[go_sem ↓] theorem ag_128 : isAggU (Try.prog.underlying 128) = some true := by kernel_rfl
@[go_sem ↓] theorem zr_128 : zrOf Try.prog 128 = some [] := by kernel_rfl
@[go_sem ↓] theorem pl_128_0 : plOf Try.prog 128 0 = some (0, 0) := by kernel_rfl
@[go_sem ↓] theorem fl_128 : plOf1 Try.prog 128 = true := by kernel_rfl
@[go_sem ↓] theorem sz_129 : Try.prog.cellsOf 129 = 0 := by kernel_rfl
@[go_sem ↓] theorem ag_129 : isAggU (Try.prog.underlying 129) = some true := by kernel_rfl
@[go_sem ↓] theorem zr_129 : zrOf Try.prog 129 = some [] := by kernel_rfl
@[go_sem ↓] theorem pl_129_0 : plOf Try.prog 129 0 = some (0, 0) := by kernel_rfl
@[go_sem ↓] theorem fl_129 : plOf1 Try.prog 129 = true := by kernel_rfl
@[go_sem ↓] theorem sz_130 : Try.prog.cellsOf 130 = 1 := by kernel_rfl
@[go_sem ↓] theorem ag_130 : isAggU (Try.prog.underlying 130) = some false := by kernel_rfl
@[go_sem ↓] theorem zr_130 : zrOf Try.prog 130 = some [(.int .u8 0)] := by kernel_rfl
@[go_sem ↓] theorem sz_131 : Try.prog.cellsOf 131 = 1 := by kernel_rfl
@[go_sem ↓] theorem ag_131 : isAggU (Try.prog.underlying 131) = some false := by kernel_rfl
@[go_sem ↓] theorem zr_131 : zrOf Try.prog 131 = some [(.int .u8 0)] := by kernel_rfl
@[go_sem ↓] theorem sz_132 : Try.prog.cellsOf 132 = 1 := by kernel_rfl
@[go_sem ↓] theorem ag_132 : isAggU (Try.prog.underlying 132) = some false := by kernel_rfl
@[go_sem ↓] theorem zr_132 : zrOf Try.prog 132 = some [.nilFunc] := by kernel_rfl
@[go_sem ↓] theorem sz_133 : Try.prog.cellsOf 133 = 1 := by kernel_rfl
@[go_sem ↓] theorem ag_133 : isAggU (Try.prog.underlying 133) = some false := by kernel_rfl
@[go_sem ↓] theorem zr_133 : zrOf Try.prog 133 = some [(.pointer none)] := by kernel_rfl
@[go_sem ↓] theorem sz_134 : Try.prog.cellsOf 134 = 1 := by kernel_rfl
@[go_sem ↓] theorem ag_134 : isAggU (Try.prog.underlying 134) = some false := by kernel_rfl
@[go_sem ↓] theorem zr_134 : zrOf Try.prog 134 = some [(.int .i32 0)] := by kernel_rfl
@[go_sem ↓] theorem sz_135 : Try.prog.cellsOf 135 = 1 := by kernel_rfl
@[go_sem ↓] theorem ag_135 : isAggU (Try.prog.underlying 135) = some false := by kernel_rfl
@[go_sem ↓] theorem zr_135 : zrOf Try.prog 135 = some [(.int .i32 0)] := by kernel_rfl
@[go_sem ↓] theorem sz_136 : Try.prog.cellsOf 136 = 11 := by kernel_rfl
@[go_sem ↓] theorem ag_136 : isAggU (Try.prog.underlying 136) = some true := by kernel_rfl
@[go_sem ↓] theorem zr_136 : zrOf Try.prog 136 = some [(.int .u64 0), (.int .u64 0), (.int .u32 0), (.int .u8 0), (.int .u8 0), (.int .u8 0), (.int .u8 0), .nilFunc, (.pointer none), (.int .i32 0), (.int .i32 0)] := by kernel_rfl
@[go_sem ↓] theorem fo_136_0 : foOf Try.prog 136 0 = some 0 := by kernel_rfl
@[go_sem ↓] theorem pl_136_0 : plOf Try.prog 136 0 = some (0, 1) := by kernel_rfl
@[go_sem ↓] theorem fo_136_1 : foOf Try.prog 136 1 = some 1 := by kernel_rfl
@[go_sem ↓] theorem pl_136_1 : plOf Try.prog 136 1 = some (1, 1) := by kernel_rfl
@[go_sem ↓] theorem fo_136_2 : foOf Try.prog 136 2 = some 2 := by kernel_rfl
@[go_sem ↓] theorem pl_136_2 : plOf Try.prog 136 2 = some (2, 1) := by kernel_rfl
@[go_sem ↓] theorem fo_136_3 : foOf Try.prog 136 3 = some 3 := by kernel_rfl
@[go_sem ↓] theorem pl_136_3 : plOf Try.prog 136 3 = some (3, 1) := by kernel_rfl
@[go_sem ↓] theorem fo_136_4 : foOf Try.prog 136 4 = some 4 := by kernel_rfl
@[go_sem ↓] theorem pl_136_4 : plOf Try.prog 136 4 = some (4, 1) := by kernel_rfl
@[go_sem ↓] theorem fo_136_5 : foOf Try.prog 136 5 = some 5 := by kernel_rfl
@[go_sem ↓] theorem pl_136_5 : plOf Try.prog 136 5 = some (5, 1) := by kernel_rfl
@[go_sem ↓] theorem fo_136_6 : foOf Try.prog 136 6 = some 6 := by kernel_rfl
@[go_sem ↓] theorem pl_136_6 : plOf Try.prog 136 6 = some (6, 1) := by kernel_rfl
@[go_sem ↓] theorem fo_136_7 : foOf Try.prog 136 7 = some 7 := by kernel_rfl
@[go_sem ↓] theorem pl_136_7 : plOf Try.prog 136 7 = some (7, 1) := by kernel_rfl
@[go_sem ↓] theorem fo_136_8 : foOf Try.prog 136 8 = some 8 := by kernel_rfl
@[go_sem ↓] theorem pl_136_8 : plOf Try.prog 136 8 = some (8, 1) := by kernel_rfl
@[go_sem ↓] theorem fo_136_9 : foOf Try.prog 136 9 = some 9 := by kernel_rfl
@[go_sem ↓] theorem pl_136_9 : plOf Try.prog 136 9 = some (9, 1) := by kernel_rfl
@[go_sem ↓] theorem fo_136_10 : foOf Try.prog 136 10 = some 10 := by kernel_rfl
@[go_sem ↓] theorem pl_136_10 : plOf Try.prog 136 10 = some (10, 1) := by kernel_rfl
@[go_sem ↓] theorem fl_136 : plOf1 Try.prog 136 = true := by kernel_rfl
@[go_sem ↓] theorem sz_137 : Try.prog.cellsOf 137 = 11 := by kernel_rfl
@[go_sem ↓] theorem ag_137 : isAggU (Try.prog.underlying 137) = some true := by kernel_rfl
@[go_sem ↓] theorem zr_137 : zrOf Try.prog 137 = some [(.int .u64 0), (.int .u64 0), (.int .u32 0), (.int .u8 0), (.int .u8 0), (.int .u8 0), (.int .u8 0), .nilFunc, (.pointer none), (.int .i32 0), (.int .i32 0)] := by kernel_rfl
@[go_sem ↓] theorem fo_137_0 : foOf Try.prog 137 0 = some 0 := by kernel_rfl
@[go_sem ↓] theorem pl_137_0 : plOf Try.prog 137 0 = some (0, 1) := by kernel_rfl
@[go_sem ↓] theorem fo_137_1 : foOf Try.prog 137 1 = some 1 := by kernel_rfl
@[go_sem ↓] theorem pl_137_1 : plOf Try.prog 137 1 = some (1, 1) := by kernel_rfl
@[go_sem ↓] theorem fo_137_2 : foOf Try.prog 137 2 = some 2 := by kernel_rfl
@[go_sem ↓] theorem pl_137_2 : plOf Try.prog 137 2 = some (2, 1) := by kernel_rfl
@[go_sem ↓] theorem fo_137_3 : foOf Try.prog 137 3 = some 3 := by kernel_rfl
@[go_sem ↓] theorem pl_137_3 : plOf Try.prog 137 3 = some (3, 1) := by kernel_rfl
@[go_sem ↓] theorem fo_137_4 : foOf Try.prog 137 4 = some 4 := by kernel_rfl
@[go_sem ↓] theorem pl_137_4 : plOf Try.prog 137 4 = some (4, 1) := by kernel_rfl
@[go_sem ↓] theorem fo_137_5 : foOf Try.prog 137 5 = some 5 := by kernel_rfl
@[go_sem ↓] theorem pl_137_5 : plOf Try.prog 137 5 = some (5, 1) := by kernel_rfl
@[go_sem ↓] theorem fo_137_6 : foOf Try.prog 137 6 = some 6 := by kernel_rfl
@[go_sem ↓] theorem pl_137_6 : plOf Try.prog 137 6 = some (6, 1) := by kernel_rfl
@[go_sem ↓] theorem fo_137_7 : foOf Try.prog 137 7 = some 7 := by kernel_rfl
@[go_sem ↓] theorem pl_137_7 : plOf Try.prog 137 7 = some (7, 1) := by kernel_rfl
@[go_sem ↓] theorem fo_137_8 : foOf Try.prog 137 8 = some 8 := by kernel_rfl
@[go_sem ↓] theorem pl_137_8 : plOf Try.prog 137 8 = some (8, 1) := by kernel_rfl
@[go_sem ↓] theorem fo_137_9 : foOf Try.prog 137 9 = some 9 := by kernel_rfl
@[go_sem ↓] theorem pl_137_9 : plOf Try.prog 137 9 = some (9, 1) := by kernel_rfl
@[go_sem ↓] theorem fo_137_10 : foOf Try.prog 137 10 = some 10 := by kernel_rfl
@[go_sem ↓] theorem pl_137_10 : plOf Try.prog 137 10 = some (10, 1) := by kernel_rfl
@[go_sem ↓] theorem fl_137 : plOf1 Try.prog 137 = true := by kernel_rfl
@[go_sem ↓] theorem sz_138 : Try.prog.cellsOf 138 = 1 := by kernel_rfl
@[go_sem ↓] theorem ag_138 : isAggU (Try.prog.underlying 138) = some false := by kernel_rfl
@[go_sem ↓] theorem zr_138 : zrOf Try.prog 138 = some [(.pointer none)] := by kernel_rfl
@[go_sem] theorem sl_24 {H : AH} {b o : Nat} {lo hi : Option Value} {K : Value → Prop} : rdop Try.prog H (Instr.sliceAt 24 (.pointer (some ⟨b, o, none⟩)) lo hi none) K = bnd 2 hi 2 fun h => bnd 0 lo h fun l => nv (.slice (some ⟨b, if 2 = l then o else o + l * Try.prog.cellsOf 5, none⟩) (h - l) (2 - l)) K := rdop_slice_arr Try.underlying24 (by rw [sz_5]; simp)
@[go_sem] theorem ix_24 {H : AH} {cs : Array Value} {k : IntKind} {i : Int} {K : Value → Prop} : rdop Try.prog H (Instr.index 24 (.agg cs) (.int k i)) K = (0 ≤ i ∧ i < (2 : Nat) ∧ wo cs[i.toNat * Try.prog.cellsOf 5]? fun v => nv v K) := rdop_index_arr Try.underlying24 (by rw [sz_5]; simp) ag_5
@[go_sem] theorem sl_37 {H : AH} {b o : Nat} {lo hi : Option Value} {K : Value → Prop} : rdop Try.prog H (Instr.sliceAt 37 (.pointer (some ⟨b, o, none⟩)) lo hi none) K = bnd 11 hi 11 fun h => bnd 0 lo h fun l => nv (.slice (some ⟨b, if 11 = l then o else o + l * Try.prog.cellsOf 4, none⟩) (h - l) (11 - l)) K := rdop_slice_arr Try.underlying37 (by rw [sz_4]; simp)
@[go_sem] theorem ix_37 {H : AH} {cs : Array Value} {k : IntKind} {i : Int} {K : Value → Prop} : rdop Try.prog H (Instr.index 37 (.agg cs) (.int k i)) K = (0 ≤ i ∧ i < (11 : Nat) ∧ wo cs[i.toNat * Try.prog.cellsOf 4]? fun v => nv v K) := rdop_index_arr Try.underlying37 (by rw [sz_4]; simp) ag_4
@[go_sem] theorem sl_38 {H : AH} {b o : Nat} {lo hi : Option Value} {K : Value → Prop} : rdop Try.prog H (Instr.sliceAt 38 (.pointer (some ⟨b, o, none⟩)) lo hi none) K = bnd 11 hi 11 fun h => bnd 0 lo h fun l => nv (.slice (some ⟨b, if 11 = l then o else o + l * Try.prog.cellsOf 4, none⟩) (h - l) (11 - l)) K := rdop_slice_arr Try.underlying38 (by rw [sz_4]; simp)
@[go_sem] theorem ix_38 {H : AH} {cs : Array Value} {k : IntKind} {i : Int} {K : Value → Prop} : rdop Try.prog H (Instr.index 38 (.agg cs) (.int k i)) K = (0 ≤ i ∧ i < (11 : Nat) ∧ wo cs[i.toNat * Try.prog.cellsOf 4]? fun v => nv v K) := rdop_index_arr Try.underlying38 (by rw [sz_4]; simp) ag_4
@[go_sem] theorem sl_58 {H : AH} {b o len cap : Nat} {lo hi : Option Value} {K : Value → Prop} : rdop Try.prog H (Instr.sliceAt 58 (.slice (some ⟨b, o, none⟩) len cap) lo hi none) K = bnd len hi cap fun h => bnd 0 lo h fun l => nv (.slice (some ⟨b, if cap = l then o else o + l * Try.prog.cellsOf 71, none⟩) (h - l) (cap - l)) K := rdop_slice_sl Try.underlying58 (by rw [sz_71]; simp)
@[go_sem] theorem sc_58 {H : AH} {a : Option Addr} {len cap : Nat} {hi mx : Value} {K : Value → Prop} : rdop Try.prog H (Instr.sliceAt 58 (.slice a len cap) none (some hi) (some mx)) K = bnd cap (some mx) cap fun m => bnd len (some hi) m fun h => nv (.slice a h m) K := rdop_clip Try.underlying58 (by rw [sz_71]; simp)
@[go_sem] theorem sn_58 {H : AH} {len cap : Nat} {lo hi : Option Value} {K : Value → Prop} : rdop Try.prog H (Instr.sliceAt 58 (.slice none len cap) lo hi none) K = bnd len hi cap fun h => bnd 0 lo h fun l => nv (.slice none (h - l) (cap - l)) K := rdop_slice_nil Try.underlying58 (by rw [sz_71]; simp)
@[go_sem] theorem sl_62 {H : AH} {b o len cap : Nat} {lo hi : Option Value} {K : Value → Prop} : rdop Try.prog H (Instr.sliceAt 62 (.slice (some ⟨b, o, none⟩) len cap) lo hi none) K = bnd len hi cap fun h => bnd 0 lo h fun l => nv (.slice (some ⟨b, if cap = l then o else o + l * Try.prog.cellsOf 69, none⟩) (h - l) (cap - l)) K := rdop_slice_sl Try.underlying62 (by rw [sz_69]; simp)
@[go_sem] theorem sc_62 {H : AH} {a : Option Addr} {len cap : Nat} {hi mx : Value} {K : Value → Prop} : rdop Try.prog H (Instr.sliceAt 62 (.slice a len cap) none (some hi) (some mx)) K = bnd cap (some mx) cap fun m => bnd len (some hi) m fun h => nv (.slice a h m) K := rdop_clip Try.underlying62 (by rw [sz_69]; simp)
@[go_sem] theorem sn_62 {H : AH} {len cap : Nat} {lo hi : Option Value} {K : Value → Prop} : rdop Try.prog H (Instr.sliceAt 62 (.slice none len cap) lo hi none) K = bnd len hi cap fun h => bnd 0 lo h fun l => nv (.slice none (h - l) (cap - l)) K := rdop_slice_nil Try.underlying62 (by rw [sz_69]; simp)
@[go_sem] theorem sl_63 {H : AH} {b o len cap : Nat} {lo hi : Option Value} {K : Value → Prop} : rdop Try.prog H (Instr.sliceAt 63 (.slice (some ⟨b, o, none⟩) len cap) lo hi none) K = bnd len hi cap fun h => bnd 0 lo h fun l => nv (.slice (some ⟨b, if cap = l then o else o + l * Try.prog.cellsOf 3, none⟩) (h - l) (cap - l)) K := rdop_slice_sl Try.underlying63 (by rw [sz_3]; simp)
@[go_sem] theorem sc_63 {H : AH} {a : Option Addr} {len cap : Nat} {hi mx : Value} {K : Value → Prop} : rdop Try.prog H (Instr.sliceAt 63 (.slice a len cap) none (some hi) (some mx)) K = bnd cap (some mx) cap fun m => bnd len (some hi) m fun h => nv (.slice a h m) K := rdop_clip Try.underlying63 (by rw [sz_3]; simp)
@[go_sem] theorem sn_63 {H : AH} {len cap : Nat} {lo hi : Option Value} {K : Value → Prop} : rdop Try.prog H (Instr.sliceAt 63 (.slice none len cap) lo hi none) K = bnd len hi cap fun h => bnd 0 lo h fun l => nv (.slice none (h - l) (cap - l)) K := rdop_slice_nil Try.underlying63 (by rw [sz_3]; simp)
@[go_sem] theorem sl_66 {H : AH} {b o : Nat} {lo hi : Option Value} {K : Value → Prop} : rdop Try.prog H (Instr.sliceAt 66 (.pointer (some ⟨b, o, none⟩)) lo hi none) K = bnd 4 hi 4 fun h => bnd 0 lo h fun l => nv (.slice (some ⟨b, if 4 = l then o else o + l * Try.prog.cellsOf 5, none⟩) (h - l) (4 - l)) K := rdop_slice_arr Try.underlying66 (by rw [sz_5]; simp)
@[go_sem] theorem ix_66 {H : AH} {cs : Array Value} {k : IntKind} {i : Int} {K : Value → Prop} : rdop Try.prog H (Instr.index 66 (.agg cs) (.int k i)) K = (0 ≤ i ∧ i < (4 : Nat) ∧ wo cs[i.toNat * Try.prog.cellsOf 5]? fun v => nv v K) := rdop_index_arr Try.underlying66 (by rw [sz_5]; simp) ag_5
@[go_sem] theorem sl_67 {H : AH} {b o : Nat} {lo hi : Option Value} {K : Value → Prop} : rdop Try.prog H (Instr.sliceAt 67 (.pointer (some ⟨b, o, none⟩)) lo hi none) K = bnd 4 hi 4 fun h => bnd 0 lo h fun l => nv (.slice (some ⟨b, if 4 = l then o else o + l * Try.prog.cellsOf 5, none⟩) (h - l) (4 - l)) K := rdop_slice_arr Try.underlying67 (by rw [sz_5]; simp)
@[go_sem] theorem ix_67 {H : AH} {cs : Array Value} {k : IntKind} {i : Int} {K : Value → Prop} : rdop Try.prog H (Instr.index 67 (.agg cs) (.int k i)) K = (0 ≤ i ∧ i < (4 : Nat) ∧ wo cs[i.toNat * Try.prog.cellsOf 5]? fun v => nv v K) := rdop_index_arr Try.underlying67 (by rw [sz_5]; simp) ag_5
@[go_sem] theorem sl_78 {H : AH} {b o len cap : Nat} {lo hi : Option Value} {K : Value → Prop} : rdop Try.prog H (Instr.sliceAt 78 (.slice (some ⟨b, o, none⟩) len cap) lo hi none) K = bnd len hi cap fun h => bnd 0 lo h fun l => nv (.slice (some ⟨b, if cap = l then o else o + l * Try.prog.cellsOf 116, none⟩) (h - l) (cap - l)) K := rdop_slice_sl Try.underlying78 (by rw [sz_116]; simp)
@[go_sem] theorem sc_78 {H : AH} {a : Option Addr} {len cap : Nat} {hi mx : Value} {K : Value → Prop} : rdop Try.prog H (Instr.sliceAt 78 (.slice a len cap) none (some hi) (some mx)) K = bnd cap (some mx) cap fun m => bnd len (some hi) m fun h => nv (.slice a h m) K := rdop_clip Try.underlying78 (by rw [sz_116]; simp)
@[go_sem] theorem sn_78 {H : AH} {len cap : Nat} {lo hi : Option Value} {K : Value → Prop} : rdop Try.prog H (Instr.sliceAt 78 (.slice none len cap) lo hi none) K = bnd len hi cap fun h => bnd 0 lo h fun l => nv (.slice none (h - l) (cap - l)) K := rdop_slice_nil Try.underlying78 (by rw [sz_116]; simp)
@[go_sem] theorem sl_85 {H : AH} {b o len cap : Nat} {lo hi : Option Value} {K : Value → Prop} : rdop Try.prog H (Instr.sliceAt 85 (.slice (some ⟨b, o, none⟩) len cap) lo hi none) K = bnd len hi cap fun h => bnd 0 lo h fun l => nv (.slice (some ⟨b, if cap = l then o else o + l * Try.prog.cellsOf 102, none⟩) (h - l) (cap - l)) K := rdop_slice_sl Try.underlying85 (by rw [sz_102]; simp)
@[go_sem] theorem sc_85 {H : AH} {a : Option Addr} {len cap : Nat} {hi mx : Value} {K : Value → Prop} : rdop Try.prog H (Instr.sliceAt 85 (.slice a len cap) none (some hi) (some mx)) K = bnd cap (some mx) cap fun m => bnd len (some hi) m fun h => nv (.slice a h m) K := rdop_clip Try.underlying85 (by rw [sz_102]; simp)
@[go_sem] theorem sn_85 {H : AH} {len cap : Nat} {lo hi : Option Value} {K : Value → Prop} : rdop Try.prog H (Instr.sliceAt 85 (.slice none len cap) lo hi none) K = bnd len hi cap fun h => bnd 0 lo h fun l => nv (.slice none (h - l) (cap - l)) K := rdop_slice_nil Try.underlying85 (by rw [sz_102]; simp)
@[go_sem] theorem sl_103 {H : AH} {b o len cap : Nat} {lo hi : Option Value} {K : Value → Prop} : rdop Try.prog H (Instr.sliceAt 103 (.slice (some ⟨b, o, none⟩) len cap) lo hi none) K = bnd len hi cap fun h => bnd 0 lo h fun l => nv (.slice (some ⟨b, if cap = l then o else o + l * Try.prog.cellsOf 4, none⟩) (h - l) (cap - l)) K := rdop_slice_sl Try.underlying103 (by rw [sz_4]; simp)
@[go_sem] theorem sc_103 {H : AH} {a : Option Addr} {len cap : Nat} {hi mx : Value} {K : Value → Prop} : rdop Try.prog H (Instr.sliceAt 103 (.slice a len cap) none (some hi) (some mx)) K = bnd cap (some mx) cap fun m => bnd len (some hi) m fun h => nv (.slice a h m) K := rdop_clip Try.underlying103 (by rw [sz_4]; simp)
@[go_sem] theorem sn_103 {H : AH} {len cap : Nat} {lo hi : Option Value} {K : Value → Prop} : rdop Try.prog H (Instr.sliceAt 103 (.slice none len cap) lo hi none) K = bnd len hi cap fun h => bnd 0 lo h fun l => nv (.slice none (h - l) (cap - l)) K := rdop_slice_nil Try.underlying103 (by rw [sz_4]; simp)
@[go_sem] theorem sl_105 {H : AH} {b o len cap : Nat} {lo hi : Option Value} {K : Value → Prop} : rdop Try.prog H (Instr.sliceAt 105 (.slice (some ⟨b, o, none⟩) len cap) lo hi none) K = bnd len hi cap fun h => bnd 0 lo h fun l => nv (.slice (some ⟨b, if cap = l then o else o + l * Try.prog.cellsOf 5, none⟩) (h - l) (cap - l)) K := rdop_slice_sl Try.underlying105 (by rw [sz_5]; simp)
@[go_sem] theorem sc_105 {H : AH} {a : Option Addr} {len cap : Nat} {hi mx : Value} {K : Value → Prop} : rdop Try.prog H (Instr.sliceAt 105 (.slice a len cap) none (some hi) (some mx)) K = bnd cap (some mx) cap fun m => bnd len (some hi) m fun h => nv (.slice a h m) K := rdop_clip Try.underlying105 (by rw [sz_5]; simp)
@[go_sem] theorem sn_105 {H : AH} {len cap : Nat} {lo hi : Option Value} {K : Value → Prop} : rdop Try.prog H (Instr.sliceAt 105 (.slice none len cap) lo hi none) K = bnd len hi cap fun h => bnd 0 lo h fun l => nv (.slice none (h - l) (cap - l)) K := rdop_slice_nil Try.underlying105 (by rw [sz_5]; simp)
@[go_sem] theorem sl_107 {H : AH} {b o : Nat} {lo hi : Option Value} {K : Value → Prop} : rdop Try.prog H (Instr.sliceAt 107 (.pointer (some ⟨b, o, none⟩)) lo hi none) K = bnd 8 hi 8 fun h => bnd 0 lo h fun l => nv (.slice (some ⟨b, if 8 = l then o else o + l * Try.prog.cellsOf 5, none⟩) (h - l) (8 - l)) K := rdop_slice_arr Try.underlying107 (by rw [sz_5]; simp)
@[go_sem] theorem ix_107 {H : AH} {cs : Array Value} {k : IntKind} {i : Int} {K : Value → Prop} : rdop Try.prog H (Instr.index 107 (.agg cs) (.int k i)) K = (0 ≤ i ∧ i < (8 : Nat) ∧ wo cs[i.toNat * Try.prog.cellsOf 5]? fun v => nv v K) := rdop_index_arr Try.underlying107 (by rw [sz_5]; simp) ag_5
@[go_sem] theorem sl_111 {H : AH} {b o : Nat} {lo hi : Option Value} {K : Value → Prop} : rdop Try.prog H (Instr.sliceAt 111 (.pointer (some ⟨b, o, none⟩)) lo hi none) K = bnd 8 hi 8 fun h => bnd 0 lo h fun l => nv (.slice (some ⟨b, if 8 = l then o else o + l * Try.prog.cellsOf 110, none⟩) (h - l) (8 - l)) K := rdop_slice_arr Try.underlying111 (by rw [sz_110]; simp)
@[go_sem] theorem ix_111 {H : AH} {cs : Array Value} {k : IntKind} {i : Int} {K : Value → Prop} : rdop Try.prog H (Instr.index 111 (.agg cs) (.int k i)) K = (0 ≤ i ∧ i < (8 : Nat) ∧ nv (.agg (cs.extract (i.toNat * Try.prog.cellsOf 110) (i.toNat * Try.prog.cellsOf 110 + Try.prog.cellsOf 110))) K) := rdop_index_arr_agg Try.underlying111 (by rw [sz_110]; simp) ag_110
@[go_sem] theorem fd_7_0 {H : AH} {cs : Array Value} {K : Value → Prop} : rdop Try.prog H (Instr.field 7 (.agg cs) 0) K = wo cs[0]? fun v => nv v K := rdop_fieldF (show fdOf Try.prog 7 0 = some (0, 1, false) by kernel_rfl)
@[go_sem] theorem fd_7_1 {H : AH} {cs : Array Value} {K : Value → Prop} : rdop Try.prog H (Instr.field 7 (.agg cs) 1) K = wo cs[1]? fun v => nv v K := rdop_fieldF (show fdOf Try.prog 7 1 = some (1, 1, false) by kernel_rfl)
@[go_sem] theorem fd_7_2 {H : AH} {cs : Array Value} {K : Value → Prop} : rdop Try.prog H (Instr.field 7 (.agg cs) 2) K = wo cs[2]? fun v => nv v K := rdop_fieldF (show fdOf Try.prog 7 2 = some (2, 1, false) by kernel_rfl)
@[go_sem] theorem fd_7_3 {H : AH} {cs : Array Value} {K : Value → Prop} : rdop Try.prog H (Instr.field 7 (.agg cs) 3) K = wo cs[3]? fun v => nv v K := rdop_fieldF (show fdOf Try.prog 7 3 = some (3, 1, false) by kernel_rfl)
@[go_sem] theorem fd_8_0 {H : AH} {cs : Array Value} {K : Value → Prop} : rdop Try.prog H (Instr.field 8 (.agg cs) 0) K = wo cs[0]? fun v => nv v K := rdop_fieldF (show fdOf Try.prog 8 0 = some (0, 1, false) by kernel_rfl)
@[go_sem] theorem fd_8_1 {H : AH} {cs : Array Value} {K : Value → Prop} : rdop Try.prog H (Instr.field 8 (.agg cs) 1) K = wo cs[1]? fun v => nv v K := rdop_fieldF (show fdOf Try.prog 8 1 = some (1, 1, false) by kernel_rfl)
@[go_sem] theorem fd_8_2 {H : AH} {cs : Array Value} {K : Value → Prop} : rdop Try.prog H (Instr.field 8 (.agg cs) 2) K = wo cs[2]? fun v => nv v K := rdop_fieldF (show fdOf Try.prog 8 2 = some (2, 1, false) by kernel_rfl)
@[go_sem] theorem fd_8_3 {H : AH} {cs : Array Value} {K : Value → Prop} : rdop Try.prog H (Instr.field 8 (.agg cs) 3) K = wo cs[3]? fun v => nv v K := rdop_fieldF (show fdOf Try.prog 8 3 = some (3, 1, false) by kernel_rfl)
@[go_sem] theorem fd_13_0 {H : AH} {cs : Array Value} {K : Value → Prop} : rdop Try.prog H (Instr.field 13 (.agg cs) 0) K = wo cs[0]? fun v => nv v K := rdop_fieldF (show fdOf Try.prog 13 0 = some (0, 1, false) by kernel_rfl)
@[go_sem] theorem fd_13_1 {H : AH} {cs : Array Value} {K : Value → Prop} : rdop Try.prog H (Instr.field 13 (.agg cs) 1) K = wo cs[1]? fun v => nv v K := rdop_fieldF (show fdOf Try.prog 13 1 = some (1, 1, false) by kernel_rfl)
@[go_sem] theorem fd_14_0 {H : AH} {cs : Array Value} {K : Value → Prop} : rdop Try.prog H (Instr.field 14 (.agg cs) 0) K = wo cs[0]? fun v => nv v K := rdop_fieldF (show fdOf Try.prog 14 0 = some (0, 1, false) by kernel_rfl)
@[go_sem] theorem fd_14_1 {H : AH} {cs : Array Value} {K : Value → Prop} : rdop Try.prog H (Instr.field 14 (.agg cs) 1) K = wo cs[1]? fun v => nv v K := rdop_fieldF (show fdOf Try.prog 14 1 = some (1, 1, false) by kernel_rfl)
@[go_sem] theorem fd_18_0 {H : AH} {cs : Array Value} {K : Value → Prop} : rdop Try.prog H (Instr.field 18 (.agg cs) 0) K = wo cs[0]? fun v => nv v K := rdop_fieldF (show fdOf Try.prog 18 0 = some (0, 1, false) by kernel_rfl)
@[go_sem] theorem fd_19_0 {H : AH} {cs : Array Value} {K : Value → Prop} : rdop Try.prog H (Instr.field 19 (.agg cs) 0) K = wo cs[0]? fun v => nv v K := rdop_fieldF (show fdOf Try.prog 19 0 = some (0, 1, false) by kernel_rfl)
@[go_sem] theorem fd_22_0 {H : AH} {cs : Array Value} {K : Value → Prop} : rdop Try.prog H (Instr.field 22 (.agg cs) 0) K = wo cs[0]? fun v => nv v K := rdop_fieldF (show fdOf Try.prog 22 0 = some (0, 1, false) by kernel_rfl)
@[go_sem] theorem fd_22_1 {H : AH} {cs : Array Value} {K : Value → Prop} : rdop Try.prog H (Instr.field 22 (.agg cs) 1) K = wo cs[1]? fun v => nv v K := rdop_fieldF (show fdOf Try.prog 22 1 = some (1, 1, false) by kernel_rfl)
@[go_sem] theorem fd_22_2 {H : AH} {cs : Array Value} {K : Value → Prop} : rdop Try.prog H (Instr.field 22 (.agg cs) 2) K = wo cs[2]? fun v => nv v K := rdop_fieldF (show fdOf Try.prog 22 2 = some (2, 1, false) by kernel_rfl)
@[go_sem] theorem fd_23_0 {H : AH} {cs : Array Value} {K : Value → Prop} : rdop Try.prog H (Instr.field 23 (.agg cs) 0) K = wo cs[0]? fun v => nv v K := rdop_fieldF (show fdOf Try.prog 23 0 = some (0, 1, false) by kernel_rfl)
@[go_sem] theorem fd_23_1 {H : AH} {cs : Array Value} {K : Value → Prop} : rdop Try.prog H (Instr.field 23 (.agg cs) 1) K = wo cs[1]? fun v => nv v K := rdop_fieldF (show fdOf Try.prog 23 1 = some (1, 1, false) by kernel_rfl)
@[go_sem] theorem fd_23_2 {H : AH} {cs : Array Value} {K : Value → Prop} : rdop Try.prog H (Instr.field 23 (.agg cs) 2) K = wo cs[2]? fun v => nv v K := rdop_fieldF (show fdOf Try.prog 23 2 = some (2, 1, false) by kernel_rfl)
@[go_sem ↓] theorem se_58 : slE Try.prog 58 = some (71, 11, [(.int .u8 0), (.int .i64 0), (.int .i64 0), (.int .i64 0), (.int .i64 0), (.int .i64 0), (.int .u8 0), (.int .u8 0), (.int .u8 0), (.int .u8 0), (.int .i64 0)], 64) := by kernel_rfl
@[go_sem ↓] theorem se_62 : slE Try.prog 62 = some (69, 10, [(.int .i64 0), (.int .i64 0), (.int .i64 0), (.int .i64 0), (.int .i64 0), (.int .u8 0), (.int .u8 0), (.int .u8 0), (.int .u8 0), (.int .i64 0)], 56) := by kernel_rfl
@[go_sem ↓] theorem se_63 : slE Try.prog 63 = some (3, 1, [(.int .i64 0)], 8) := by kernel_rfl
@[go_sem] theorem fd_64_0 {H : AH} {cs : Array Value} {K : Value → Prop} : rdop Try.prog H (Instr.field 64 (.agg cs) 0) K = wo cs[0]? fun v => nv v K := rdop_fieldF (show fdOf Try.prog 64 0 = some (0, 1, false) by kernel_rfl)
@[go_sem] theorem fd_64_1 {H : AH} {cs : Array Value} {K : Value → Prop} : rdop Try.prog H (Instr.field 64 (.agg cs) 1) K = wo cs[1]? fun v => nv v K := rdop_fieldF (show fdOf Try.prog 64 1 = some (1, 1, false) by kernel_rfl)
@[go_sem] theorem fd_65_0 {H : AH} {cs : Array Value} {K : Value → Prop} : rdop Try.prog H (Instr.field 65 (.agg cs) 0) K = wo cs[0]? fun v => nv v K := rdop_fieldF (show fdOf Try.prog 65 0 = some (0, 1, false) by kernel_rfl)
@[go_sem] theorem fd_65_1 {H : AH} {cs : Array Value} {K : Value → Prop} : rdop Try.prog H (Instr.field 65 (.agg cs) 1) K = wo cs[1]? fun v => nv v K := rdop_fieldF (show fdOf Try.prog 65 1 = some (1, 1, false) by kernel_rfl)
@[go_sem] theorem fd_68_0 {H : AH} {cs : Array Value} {K : Value → Prop} : rdop Try.prog H (Instr.field 68 (.agg cs) 0) K = wo cs[0]? fun v => nv v K := rdop_fieldF (show fdOf Try.prog 68 0 = some (0, 1, false) by kernel_rfl)
@[go_sem] theorem fd_68_1 {H : AH} {cs : Array Value} {K : Value → Prop} : rdop Try.prog H (Instr.field 68 (.agg cs) 1) K = wo cs[1]? fun v => nv v K := rdop_fieldF (show fdOf Try.prog 68 1 = some (1, 1, false) by kernel_rfl)
@[go_sem] theorem fd_68_2 {H : AH} {cs : Array Value} {K : Value → Prop} : rdop Try.prog H (Instr.field 68 (.agg cs) 2) K = wo cs[2]? fun v => nv v K := rdop_fieldF (show fdOf Try.prog 68 2 = some (2, 1, false) by kernel_rfl)
@[go_sem] theorem fd_68_3 {H : AH} {cs : Array Value} {K : Value → Prop} : rdop Try.prog H (Instr.field 68 (.agg cs) 3) K = wo cs[3]? fun v => nv v K := rdop_fieldF (show fdOf Try.prog 68 3 = some (3, 1, false) by kernel_rfl)
@[go_sem] theorem fd_68_4 {H : AH} {cs : Array Value} {K : Value → Prop} : rdop Try.prog H (Instr.field 68 (.agg cs) 4) K = wo cs[4]? fun v => nv v K := rdop_fieldF (show fdOf Try.prog 68 4 = some (4, 1, false) by kernel_rfl)
@[go_sem] theorem fd_68_5 {H : AH} {cs : Array Value} {K : Value → Prop} : rdop Try.prog H (Instr.field 68 (.agg cs) 5) K = nv (.agg (cs.extract 5 9)) K := rdop_fieldT (show fdOf Try.prog 68 5 = some (5, 4, true) by kernel_rfl) (by simp)
@[go_sem] theorem fd_68_6 {H : AH} {cs : Array Value} {K : Value → Prop} : rdop Try.prog H (Instr.field 68 (.agg cs) 6) K = wo cs[9]? fun v => nv v K := rdop_fieldF (show fdOf Try.prog 68 6 = some (9, 1, false) by kernel_rfl)
@[go_sem] theorem fd_69_0 {H : AH} {cs : Array Value} {K : Value → Prop} : rdop Try.prog H (Instr.field 69 (.agg cs) 0) K = wo cs[0]? fun v => nv v K := rdop_fieldF (show fdOf Try.prog 69 0 = some (0, 1, false) by kernel_rfl)
@[go_sem] theorem fd_69_1 {H : AH} {cs : Array Value} {K : Value → Prop} : rdop Try.prog H (Instr.field 69 (.agg cs) 1) K = wo cs[1]? fun v => nv v K := rdop_fieldF (show fdOf Try.prog 69 1 = some (1, 1, false) by kernel_rfl)
@[go_sem] theorem fd_69_2 {H : AH} {cs : Array Value} {K : Value → Prop} : rdop Try.prog H (Instr.field 69 (.agg cs) 2) K = wo cs[2]? fun v => nv v K := rdop_fieldF (show fdOf Try.prog 69 2 = some (2, 1, false) by kernel_rfl)
@[go_sem] theorem fd_69_3 {H : AH} {cs : Array Value} {K : Value → Prop} : rdop Try.prog H (Instr.field 69 (.agg cs) 3) K = wo cs[3]? fun v => nv v K := rdop_fieldF (show fdOf Try.prog 69 3 = some (3, 1, false) by kernel_rfl)
@[go_sem] theorem fd_69_4 {H : AH} {cs : Array Value} {K : Value → Prop} : rdop Try.prog H (Instr.field 69 (.agg cs) 4) K = wo cs[4]? fun v => nv v K := rdop_fieldF (show fdOf Try.prog 69 4 = some (4, 1, false) by kernel_rfl)
@[go_sem] theorem fd_69_5 {H : AH} {cs : Array Value} {K : Value → Prop} : rdop Try.prog H (Instr.field 69 (.agg cs) 5) K = nv (.agg (cs.extract 5 9)) K := rdop_fieldT (show fdOf Try.prog 69 5 = some (5, 4, true) by kernel_rfl) (by simp)
@[go_sem] theorem fd_69_6 {H : AH} {cs : Array Value} {K : Value → Prop} : rdop Try.prog H (Instr.field 69 (.agg cs) 6) K = wo cs[9]? fun v => nv v K := rdop_fieldF (show fdOf Try.prog 69 6 = some (9, 1, false) by kernel_rfl)
@[go_sem] theorem fd_70_0 {H : AH} {cs : Array Value} {K : Value → Prop} : rdop Try.prog H (Instr.field 70 (.agg cs) 0) K = wo cs[0]? fun v => nv v K := rdop_fieldF (show fdOf Try.prog 70 0 = some (0, 1, false) by kernel_rfl)
@[go_sem] theorem fd_70_1 {H : AH} {cs : Array Value} {K : Value → Prop} : rdop Try.prog H (Instr.field 70 (.agg cs) 1) K = nv (.agg (cs.extract 1 11)) K := rdop_fieldT (show fdOf Try.prog 70 1 = some (1, 10, true) by kernel_rfl) (by simp)
@[go_sem] theorem fd_71_0 {H : AH} {cs : Array Value} {K : Value → Prop} : rdop Try.prog H (Instr.field 71 (.agg cs) 0) K = wo cs[0]? fun v => nv v K := rdop_fieldF (show fdOf Try.prog 71 0 = some (0, 1, false) by kernel_rfl)
@[go_sem] theorem fd_71_1 {H : AH} {cs : Array Value} {K : Value → Prop} : rdop Try.prog H (Instr.field 71 (.agg cs) 1) K = nv (.agg (cs.extract 1 11)) K := rdop_fieldT (show fdOf Try.prog 71 1 = some (1, 10, true) by kernel_rfl) (by simp)
@[go_sem ↓] theorem se_78 : slE Try.prog 78 = some (116, 2, [(.int .i64 0), (.int .i64 0)], 16) := by kernel_rfl
@[go_sem ↓] theorem se_85 : slE Try.prog 85 = some (102, 2, [(.int .u64 0), (.int .i64 0)], 16) := by kernel_rfl
@[go_sem] theorem fd_101_0 {H : AH} {cs : Array Value} {K : Value → Prop} : rdop Try.prog H (Instr.field 101 (.agg cs) 0) K = wo cs[0]? fun v => nv v K := rdop_fieldF (show fdOf Try.prog 101 0 = some (0, 1, false) by kernel_rfl)
@[go_sem] theorem fd_101_1 {H : AH} {cs : Array Value} {K : Value → Prop} : rdop Try.prog H (Instr.field 101 (.agg cs) 1) K = wo cs[1]? fun v => nv v K := rdop_fieldF (show fdOf Try.prog 101 1 = some (1, 1, false) by kernel_rfl)
@[go_sem] theorem fd_102_0 {H : AH} {cs : Array Value} {K : Value → Prop} : rdop Try.prog H (Instr.field 102 (.agg cs) 0) K = wo cs[0]? fun v => nv v K := rdop_fieldF (show fdOf Try.prog 102 0 = some (0, 1, false) by kernel_rfl)
@[go_sem] theorem fd_102_1 {H : AH} {cs : Array Value} {K : Value → Prop} : rdop Try.prog H (Instr.field 102 (.agg cs) 1) K = wo cs[1]? fun v => nv v K := rdop_fieldF (show fdOf Try.prog 102 1 = some (1, 1, false) by kernel_rfl)
@[go_sem ↓] theorem se_103 : slE Try.prog 103 = some (4, 1, [(.bool false)], 1) := by kernel_rfl
@[go_sem ↓] theorem se_105 : slE Try.prog 105 = some (5, 1, [(.int .u8 0)], 1) := by kernel_rfl
@[go_sem] theorem fd_109_0 {H : AH} {cs : Array Value} {K : Value → Prop} : rdop Try.prog H (Instr.field 109 (.agg cs) 0) K = nv (.agg (cs.extract 0 10)) K := rdop_fieldT (show fdOf Try.prog 109 0 = some (0, 10, true) by kernel_rfl) (by simp)
@[go_sem] theorem fd_109_1 {H : AH} {cs : Array Value} {K : Value → Prop} : rdop Try.prog H (Instr.field 109 (.agg cs) 1) K = wo cs[10]? fun v => nv v K := rdop_fieldF (show fdOf Try.prog 109 1 = some (10, 1, false) by kernel_rfl)
@[go_sem] theorem fd_110_0 {H : AH} {cs : Array Value} {K : Value → Prop} : rdop Try.prog H (Instr.field 110 (.agg cs) 0) K = nv (.agg (cs.extract 0 10)) K := rdop_fieldT (show fdOf Try.prog 110 0 = some (0, 10, true) by kernel_rfl) (by simp)
@[go_sem] theorem fd_110_1 {H : AH} {cs : Array Value} {K : Value → Prop} : rdop Try.prog H (Instr.field 110 (.agg cs) 1) K = wo cs[10]? fun v => nv v K := rdop_fieldF (show fdOf Try.prog 110 1 = some (10, 1, false) by kernel_rfl)
@[go_sem] theorem fd_112_0 {H : AH} {cs : Array Value} {K : Value → Prop} : rdop Try.prog H (Instr.field 112 (.agg cs) 0) K = nv (.agg (cs.extract 0 88)) K := rdop_fieldT (show fdOf Try.prog 112 0 = some (0, 88, true) by kernel_rfl) (by simp)
@[go_sem] theorem fd_112_1 {H : AH} {cs : Array Value} {K : Value → Prop} : rdop Try.prog H (Instr.field 112 (.agg cs) 1) K = wo cs[88]? fun v => nv v K := rdop_fieldF (show fdOf Try.prog 112 1 = some (88, 1, false) by kernel_rfl)
@[go_sem] theorem fd_112_2 {H : AH} {cs : Array Value} {K : Value → Prop} : rdop Try.prog H (Instr.field 112 (.agg cs) 2) K = wo cs[89]? fun v => nv v K := rdop_fieldF (show fdOf Try.prog 112 2 = some (89, 1, false) by kernel_rfl)
@[go_sem] theorem fd_113_0 {H : AH} {cs : Array Value} {K : Value → Prop} : rdop Try.prog H (Instr.field 113 (.agg cs) 0) K = nv (.agg (cs.extract 0 88)) K := rdop_fieldT (show fdOf Try.prog 113 0 = some (0, 88, true) by kernel_rfl) (by simp)
@[go_sem] theorem fd_113_1 {H : AH} {cs : Array Value} {K : Value → Prop} : rdop Try.prog H (Instr.field 113 (.agg cs) 1) K = wo cs[88]? fun v => nv v K := rdop_fieldF (show fdOf Try.prog 113 1 = some (88, 1, false) by kernel_rfl)
@[go_sem] theorem fd_113_2 {H : AH} {cs : Array Value} {K : Value → Prop} : rdop Try.prog H (Instr.field 113 (.agg cs) 2) K = wo cs[89]? fun v => nv v K := rdop_fieldF (show fdOf Try.prog 113 2 = some (89, 1, false) by kernel_rfl)
@[go_sem] theorem fd_115_0 {H : AH} {cs : Array Value} {K : Value → Prop} : rdop Try.prog H (Instr.field 115 (.agg cs) 0) K = wo cs[0]? fun v => nv v K := rdop_fieldF (show fdOf Try.prog 115 0 = some (0, 1, false) by kernel_rfl)
@[go_sem] theorem fd_115_1 {H : AH} {cs : Array Value} {K : Value → Prop} : rdop Try.prog H (Instr.field 115 (.agg cs) 1) K = wo cs[1]? fun v => nv v K := rdop_fieldF (show fdOf Try.prog 115 1 = some (1, 1, false) by kernel_rfl)
@[go_sem] theorem fd_116_0 {H : AH} {cs : Array Value} {K : Value → Prop} : rdop Try.prog H (Instr.field 116 (.agg cs) 0) K = wo cs[0]? fun v => nv v K := rdop_fieldF (show fdOf Try.prog 116 0 = some (0, 1, false) by kernel_rfl)
@[go_sem] theorem fd_116_1 {H : AH} {cs : Array Value} {K : Value → Prop} : rdop Try.prog H (Instr.field 116 (.agg cs) 1) K = wo cs[1]? fun v => nv v K := rdop_fieldF (show fdOf Try.prog 116 1 = some (1, 1, false) by kernel_rfl)
@[go_sem ↓] theorem me_119 : mpE Try.prog 119 = some (.int .u64, (.bool false)) := by kernel_rfl
@[go_sem ↓] theorem me_120 : mpE Try.prog 120 = some (.int .i64, (.bool false)) := by kernel_rfl
@[go_sem] theorem fd_125_0 {H : AH} {cs : Array Value} {K : Value → Prop} : rdop Try.prog H (Instr.field 125 (.agg cs) 0) K = wo cs[0]? fun v => nv v K := rdop_fieldF (show fdOf Try.prog 125 0 = some (0, 1, false) by kernel_rfl)
@[go_sem] theorem fd_125_1 {H : AH} {cs : Array Value} {K : Value → Prop} : rdop Try.prog H (Instr.field 125 (.agg cs) 1) K = wo cs[1]? fun v => nv v K := rdop_fieldF (show fdOf Try.prog 125 1 = some (1, 1, false) by kernel_rfl)
@[go_sem] theorem fd_125_2 {H : AH} {cs : Array Value} {K : Value → Prop} : rdop Try.prog H (Instr.field 125 (.agg cs) 2) K = wo cs[2]? fun v => nv v K := rdop_fieldF (show fdOf Try.prog 125 2 = some (2, 1, false) by kernel_rfl)
@[go_sem] theorem fd_125_3 {H : AH} {cs : Array Value} {K : Value → Prop} : rdop Try.prog H (Instr.field 125 (.agg cs) 3) K = wo cs[3]? fun v => nv v K := rdop_fieldF (show fdOf Try.prog 125 3 = some (3, 1, false) by kernel_rfl)
@[go_sem] theorem fd_126_0 {H : AH} {cs : Array Value} {K : Value → Prop} : rdop Try.prog H (Instr.field 126 (.agg cs) 0) K = wo cs[0]? fun v => nv v K := rdop_fieldF (show fdOf Try.prog 126 0 = some (0, 1, false) by kernel_rfl)
@[go_sem] theorem fd_126_1 {H : AH} {cs : Array Value} {K : Value → Prop} : rdop Try.prog H (Instr.field 126 (.agg cs) 1) K = wo cs[1]? fun v => nv v K := rdop_fieldF (show fdOf Try.prog 126 1 = some (1, 1, false) by kernel_rfl)
@[go_sem] theorem fd_126_2 {H : AH} {cs : Array Value} {K : Value → Prop} : rdop Try.prog H (Instr.field 126 (.agg cs) 2) K = wo cs[2]? fun v => nv v K := rdop_fieldF (show fdOf Try.prog 126 2 = some (2, 1, false) by kernel_rfl)
@[go_sem] theorem fd_126_3 {H : AH} {cs : Array Value} {K : Value → Prop} : rdop Try.prog H (Instr.field 126 (.agg cs) 3) K = wo cs[3]? fun v => nv v K := rdop_fieldF (show fdOf Try.prog 126 3 = some (3, 1, false) by kernel_rfl)
@[go_sem] theorem fd_136_0 {H : AH} {cs : Array Value} {K : Value → Prop} : rdop Try.prog H (Instr.field 136 (.agg cs) 0) K = wo cs[0]? fun v => nv v K := rdop_fieldF (show fdOf Try.prog 136 0 = some (0, 1, false) by kernel_rfl)
@[go_sem] theorem fd_136_1 {H : AH} {cs : Array Value} {K : Value → Prop} : rdop Try.prog H (Instr.field 136 (.agg cs) 1) K = wo cs[1]? fun v => nv v K := rdop_fieldF (show fdOf Try.prog 136 1 = some (1, 1, false) by kernel_rfl)
@[go_sem] theorem fd_136_2 {H : AH} {cs : Array Value} {K : Value → Prop} : rdop Try.prog H (Instr.field 136 (.agg cs) 2) K = wo cs[2]? fun v => nv v K := rdop_fieldF (show fdOf Try.prog 136 2 = some (2, 1, false) by kernel_rfl)
@[go_sem] theorem fd_136_3 {H : AH} {cs : Array Value} {K : Value → Prop} : rdop Try.prog H (Instr.field 136 (.agg cs) 3) K = wo cs[3]? fun v => nv v K := rdop_fieldF (show fdOf Try.prog 136 3 = some (3, 1, false) by kernel_rfl)
@[go_sem] theorem fd_136_4 {H : AH} {cs : Array Value} {K : Value → Prop} : rdop Try.prog H (Instr.field 136 (.agg cs) 4) K = wo cs[4]? fun v => nv v K := rdop_fieldF (show fdOf Try.prog 136 4 = some (4, 1, false) by kernel_rfl)
@[go_sem] theorem fd_136_5 {H : AH} {cs : Array Value} {K : Value → Prop} : rdop Try.prog H (Instr.field 136 (.agg cs) 5) K = wo cs[5]? fun v => nv v K := rdop_fieldF (show fdOf Try.prog 136 5 = some (5, 1, false) by kernel_rfl)
@[go_sem] theorem fd_136_6 {H : AH} {cs : Array Value} {K : Value → Prop} : rdop Try.prog H (Instr.field 136 (.agg cs) 6) K = wo cs[6]? fun v => nv v K := rdop_fieldF (show fdOf Try.prog 136 6 = some (6, 1, false) by kernel_rfl)
@[go_sem] theorem fd_136_7 {H : AH} {cs : Array Value} {K : Value → Prop} : rdop Try.prog H (Instr.field 136 (.agg cs) 7) K = wo cs[7]? fun v => nv v K := rdop_fieldF (show fdOf Try.prog 136 7 = some (7, 1, false) by kernel_rfl)
@[go_sem] theorem fd_136_8 {H : AH} {cs : Array Value} {K : Value → Prop} : rdop Try.prog H (Instr.field 136 (.agg cs) 8) K = wo cs[8]? fun v => nv v K := rdop_fieldF (show fdOf Try.prog 136 8 = some (8, 1, false) by kernel_rfl)
@[go_sem] theorem fd_136_9 {H : AH} {cs : Array Value} {K : Value → Prop} : rdop Try.prog H (Instr.field 136 (.agg cs) 9) K = wo cs[9]? fun v => nv v K := rdop_fieldF (show fdOf Try.prog 136 9 = some (9, 1, false) by kernel_rfl)
@[go_sem] theorem fd_136_10 {H : AH} {cs : Array Value} {K : Value → Prop} : rdop Try.prog H (Instr.field 136 (.agg cs) 10) K = wo cs[10]? fun v => nv v K := rdop_fieldF (show fdOf Try.prog 136 10 = some (10, 1, false) by kernel_rfl)
@[go_sem] theorem fd_137_0 {H : AH} {cs : Array Value} {K : Value → Prop} : rdop Try.prog H (Instr.field 137 (.agg cs) 0) K = wo cs[0]? fun v => nv v K := rdop_fieldF (show fdOf Try.prog 137 0 = some (0, 1, false) by kernel_rfl)
@[go_sem] theorem fd_137_1 {H : AH} {cs : Array Value} {K : Value → Prop} : rdop Try.prog H (Instr.field 137 (.agg cs) 1) K = wo cs[1]? fun v => nv v K := rdop_fieldF (show fdOf Try.prog 137 1 = some (1, 1, false) by kernel_rfl)
@[go_sem] theorem fd_137_2 {H : AH} {cs : Array Value} {K : Value → Prop} : rdop Try.prog H (Instr.field 137 (.agg cs) 2) K = wo cs[2]? fun v => nv v K := rdop_fieldF (show fdOf Try.prog 137 2 = some (2, 1, false) by kernel_rfl)
@[go_sem] theorem fd_137_3 {H : AH} {cs : Array Value} {K : Value → Prop} : rdop Try.prog H (Instr.field 137 (.agg cs) 3) K = wo cs[3]? fun v => nv v K := rdop_fieldF (show fdOf Try.prog 137 3 = some (3, 1, false) by kernel_rfl)
@[go_sem] theorem fd_137_4 {H : AH} {cs : Array Value} {K : Value → Prop} : rdop Try.prog H (Instr.field 137 (.agg cs) 4) K = wo cs[4]? fun v => nv v K := rdop_fieldF (show fdOf Try.prog 137 4 = some (4, 1, false) by kernel_rfl)
@[go_sem] theorem fd_137_5 {H : AH} {cs : Array Value} {K : Value → Prop} : rdop Try.prog H (Instr.field 137 (.agg cs) 5) K = wo cs[5]? fun v => nv v K := rdop_fieldF (show fdOf Try.prog 137 5 = some (5, 1, false) by kernel_rfl)
@[go_sem] theorem fd_137_6 {H : AH} {cs : Array Value} {K : Value → Prop} : rdop Try.prog H (Instr.field 137 (.agg cs) 6) K = wo cs[6]? fun v => nv v K := rdop_fieldF (show fdOf Try.prog 137 6 = some (6, 1, false) by kernel_rfl)
@[go_sem] theorem fd_137_7 {H : AH} {cs : Array Value} {K : Value → Prop} : rdop Try.prog H (Instr.field 137 (.agg cs) 7) K = wo cs[7]? fun v => nv v K := rdop_fieldF (show fdOf Try.prog 137 7 = some (7, 1, false) by kernel_rfl)
@[go_sem] theorem fd_137_8 {H : AH} {cs : Array Value} {K : Value → Prop} : rdop Try.prog H (Instr.field 137 (.agg cs) 8) K = wo cs[8]? fun v => nv v K := rdop_fieldF (show fdOf Try.prog 137 8 = some (8, 1, false) by kernel_rfl)
@[go_sem] theorem fd_137_9 {H : AH} {cs : Array Value} {K : Value → Prop} : rdop Try.prog H (Instr.field 137 (.agg cs) 9) K = wo cs[9]? fun v => nv v K := rdop_fieldF (show fdOf Try.prog 137 9 = some (9, 1, false) by kernel_rfl)
@[go_sem] theorem fd_137_10 {H : AH} {cs : Array Value} {K : Value → Prop} : rdop Try.prog H (Instr.field 137 (.agg cs) 10) K = wo cs[10]? fun v => nv v K := rdop_fieldF (show fdOf Try.prog 137 10 = some (10, 1, false) by kernel_rfl)
theorem eg_7 : Try.prog.eqGuardType Try.prog.depth 7 = false := by kernel_rfl
theorem st_7 : Try.prog.stoodInHeld 7 = false := by kernel_rfl
theorem eqi_7 {H : AH} {m : Nat} (a0 b0 : Int) (a1 b1 : Int) (a2 b2 : Bool) (a3 b3 : Int) : qrun Try.prog (Op.equalIn (m + 2) 7 (.agg #[.int .i64 a0, .int .i64 a1, .bool a2, .int .u8 a3]) (.agg #[.int .i64 b0, .int .i64 b1, .bool b2, .int .u8 b3])) H = some ((a0 == b0) && ((a1 == b1) && ((a2 == b2) && (a3 == b3)))) := by
  have h := eqIn_struct (P := Try.prog) (H := H) (m := m + 1) (xs := #[.int .i64 a0, .int .i64 a1, .bool a2, .int .u8 a3]) (ys := #[.int .i64 b0, .int .i64 b1, .bool b2, .int .u8 b3]) (T := fun f => if f.offset = 0 then (a0 == b0) else if f.offset = 1 then (a1 == b1) else if f.offset = 2 then (a2 == b2) else if f.offset = 3 then (a3 == b3) else true) Try.underlying7 st_7 (by
    simp only [List.mem_cons, List.not_mem_nil, or_false]
    rintro f (rfl | rfl | rfl | rfl)
    · exact ⟨by decide, (.int .i64 a0), (.int .i64 b0), part_scal ag_2 rfl, part_scal ag_2 rfl, eqIn_int Try.underlying2⟩
    · exact ⟨by decide, (.int .i64 a1), (.int .i64 b1), part_scal ag_3 rfl, part_scal ag_3 rfl, eqIn_int Try.underlying3⟩
    · exact ⟨by decide, (.bool a2), (.bool b2), part_scal ag_4 rfl, part_scal ag_4 rfl, eqIn_bool Try.underlying4⟩
    · exact ⟨by decide, (.int .u8 a3), (.int .u8 b3), part_scal ag_6 rfl, part_scal ag_6 rfl, eqIn_int Try.underlying6⟩)
  rw [h]; simp [Bool.and_assoc]
@[go_sem] theorem eql_7 {H : AH} {u : Option TypeDesc} {x y : Operand} {kk : Value → Prop} {a0 b0 : Int} {a1 b1 : Int} {a2 b2 : Bool} {a3 b3 : Int} : bin u Try.prog H .eql 7 x y (.agg #[.int .i64 a0, .int .i64 a1, .bool a2, .int .u8 a3]) (.agg #[.int .i64 b0, .int .i64 b1, .bool b2, .int .u8 b3]) kk = (u = Try.prog.underlying 7 ∧ nv (.bool ((a0 == b0) && ((a1 == b1) && ((a2 == b2) && (a3 == b3))))) kk) := bin_eql_of (eqg_agg eg_7) rfl fun _ => eqi_7 (m := 9998) a0 b0 a1 b1 a2 b2 a3 b3
@[go_sem] theorem neq_7 {H : AH} {u : Option TypeDesc} {x y : Operand} {kk : Value → Prop} {a0 b0 : Int} {a1 b1 : Int} {a2 b2 : Bool} {a3 b3 : Int} : bin u Try.prog H .neq 7 x y (.agg #[.int .i64 a0, .int .i64 a1, .bool a2, .int .u8 a3]) (.agg #[.int .i64 b0, .int .i64 b1, .bool b2, .int .u8 b3]) kk = (u = Try.prog.underlying 7 ∧ nv (.bool (!((a0 == b0) && ((a1 == b1) && ((a2 == b2) && (a3 == b3)))))) kk) := bin_neq_of (eqg_agg eg_7) rfl fun _ => eqi_7 (m := 9998) a0 b0 a1 b1 a2 b2 a3 b3
theorem eg_8 : Try.prog.eqGuardType Try.prog.depth 8 = false := by kernel_rfl
theorem st_8 : Try.prog.stoodInHeld 8 = false := by kernel_rfl
theorem eqi_8 {H : AH} {m : Nat} (a0 b0 : Int) (a1 b1 : Int) (a2 b2 : Bool) (a3 b3 : Int) : qrun Try.prog (Op.equalIn (m + 2) 8 (.agg #[.int .i64 a0, .int .i64 a1, .bool a2, .int .u8 a3]) (.agg #[.int .i64 b0, .int .i64 b1, .bool b2, .int .u8 b3])) H = some ((a0 == b0) && ((a1 == b1) && ((a2 == b2) && (a3 == b3)))) := by
  have h := eqIn_struct (P := Try.prog) (H := H) (m := m + 1) (xs := #[.int .i64 a0, .int .i64 a1, .bool a2, .int .u8 a3]) (ys := #[.int .i64 b0, .int .i64 b1, .bool b2, .int .u8 b3]) (T := fun f => if f.offset = 0 then (a0 == b0) else if f.offset = 1 then (a1 == b1) else if f.offset = 2 then (a2 == b2) else if f.offset = 3 then (a3 == b3) else true) Try.underlying8 st_8 (by
    simp only [List.mem_cons, List.not_mem_nil, or_false]
    rintro f (rfl | rfl | rfl | rfl)
    · exact ⟨by decide, (.int .i64 a0), (.int .i64 b0), part_scal ag_2 rfl, part_scal ag_2 rfl, eqIn_int Try.underlying2⟩
    · exact ⟨by decide, (.int .i64 a1), (.int .i64 b1), part_scal ag_3 rfl, part_scal ag_3 rfl, eqIn_int Try.underlying3⟩
    · exact ⟨by decide, (.bool a2), (.bool b2), part_scal ag_4 rfl, part_scal ag_4 rfl, eqIn_bool Try.underlying4⟩
    · exact ⟨by decide, (.int .u8 a3), (.int .u8 b3), part_scal ag_6 rfl, part_scal ag_6 rfl, eqIn_int Try.underlying6⟩)
  rw [h]; simp [Bool.and_assoc]
@[go_sem] theorem eql_8 {H : AH} {u : Option TypeDesc} {x y : Operand} {kk : Value → Prop} {a0 b0 : Int} {a1 b1 : Int} {a2 b2 : Bool} {a3 b3 : Int} : bin u Try.prog H .eql 8 x y (.agg #[.int .i64 a0, .int .i64 a1, .bool a2, .int .u8 a3]) (.agg #[.int .i64 b0, .int .i64 b1, .bool b2, .int .u8 b3]) kk = (u = Try.prog.underlying 8 ∧ nv (.bool ((a0 == b0) && ((a1 == b1) && ((a2 == b2) && (a3 == b3))))) kk) := bin_eql_of (eqg_agg eg_8) rfl fun _ => eqi_8 (m := 9998) a0 b0 a1 b1 a2 b2 a3 b3
@[go_sem] theorem neq_8 {H : AH} {u : Option TypeDesc} {x y : Operand} {kk : Value → Prop} {a0 b0 : Int} {a1 b1 : Int} {a2 b2 : Bool} {a3 b3 : Int} : bin u Try.prog H .neq 8 x y (.agg #[.int .i64 a0, .int .i64 a1, .bool a2, .int .u8 a3]) (.agg #[.int .i64 b0, .int .i64 b1, .bool b2, .int .u8 b3]) kk = (u = Try.prog.underlying 8 ∧ nv (.bool (!((a0 == b0) && ((a1 == b1) && ((a2 == b2) && (a3 == b3)))))) kk) := bin_neq_of (eqg_agg eg_8) rfl fun _ => eqi_8 (m := 9998) a0 b0 a1 b1 a2 b2 a3 b3
theorem eg_22 : Try.prog.eqGuardType Try.prog.depth 22 = false := by kernel_rfl
theorem st_22 : Try.prog.stoodInHeld 22 = false := by kernel_rfl
theorem eqi_22 {H : AH} {m : Nat} (a0 b0 : Int) (a1 b1 : Int) (a2 b2 : Int) : qrun Try.prog (Op.equalIn (m + 2) 22 (.agg #[.int .i64 a0, .int .i64 a1, .int .i64 a2]) (.agg #[.int .i64 b0, .int .i64 b1, .int .i64 b2])) H = some ((a0 == b0) && ((a1 == b1) && (a2 == b2))) := by
  have h := eqIn_struct (P := Try.prog) (H := H) (m := m + 1) (xs := #[.int .i64 a0, .int .i64 a1, .int .i64 a2]) (ys := #[.int .i64 b0, .int .i64 b1, .int .i64 b2]) (T := fun f => if f.offset = 0 then (a0 == b0) else if f.offset = 1 then (a1 == b1) else if f.offset = 2 then (a2 == b2) else true) Try.underlying22 st_22 (by
    simp only [List.mem_cons, List.not_mem_nil, or_false]
    rintro f (rfl | rfl | rfl)
    · exact ⟨by decide, (.int .i64 a0), (.int .i64 b0), part_scal ag_3 rfl, part_scal ag_3 rfl, eqIn_int Try.underlying3⟩
    · exact ⟨by decide, (.int .i64 a1), (.int .i64 b1), part_scal ag_3 rfl, part_scal ag_3 rfl, eqIn_int Try.underlying3⟩
    · exact ⟨by decide, (.int .i64 a2), (.int .i64 b2), part_scal ag_3 rfl, part_scal ag_3 rfl, eqIn_int Try.underlying3⟩)
  rw [h]; simp [Bool.and_assoc]
@[go_sem] theorem eql_22 {H : AH} {u : Option TypeDesc} {x y : Operand} {kk : Value → Prop} {a0 b0 : Int} {a1 b1 : Int} {a2 b2 : Int} : bin u Try.prog H .eql 22 x y (.agg #[.int .i64 a0, .int .i64 a1, .int .i64 a2]) (.agg #[.int .i64 b0, .int .i64 b1, .int .i64 b2]) kk = (u = Try.prog.underlying 22 ∧ nv (.bool ((a0 == b0) && ((a1 == b1) && (a2 == b2)))) kk) := bin_eql_of (eqg_agg eg_22) rfl fun _ => eqi_22 (m := 9998) a0 b0 a1 b1 a2 b2
@[go_sem] theorem neq_22 {H : AH} {u : Option TypeDesc} {x y : Operand} {kk : Value → Prop} {a0 b0 : Int} {a1 b1 : Int} {a2 b2 : Int} : bin u Try.prog H .neq 22 x y (.agg #[.int .i64 a0, .int .i64 a1, .int .i64 a2]) (.agg #[.int .i64 b0, .int .i64 b1, .int .i64 b2]) kk = (u = Try.prog.underlying 22 ∧ nv (.bool (!((a0 == b0) && ((a1 == b1) && (a2 == b2))))) kk) := bin_neq_of (eqg_agg eg_22) rfl fun _ => eqi_22 (m := 9998) a0 b0 a1 b1 a2 b2
theorem eg_23 : Try.prog.eqGuardType Try.prog.depth 23 = false := by kernel_rfl
theorem st_23 : Try.prog.stoodInHeld 23 = false := by kernel_rfl
theorem eqi_23 {H : AH} {m : Nat} (a0 b0 : Int) (a1 b1 : Int) (a2 b2 : Int) : qrun Try.prog (Op.equalIn (m + 2) 23 (.agg #[.int .i64 a0, .int .i64 a1, .int .i64 a2]) (.agg #[.int .i64 b0, .int .i64 b1, .int .i64 b2])) H = some ((a0 == b0) && ((a1 == b1) && (a2 == b2))) := by
  have h := eqIn_struct (P := Try.prog) (H := H) (m := m + 1) (xs := #[.int .i64 a0, .int .i64 a1, .int .i64 a2]) (ys := #[.int .i64 b0, .int .i64 b1, .int .i64 b2]) (T := fun f => if f.offset = 0 then (a0 == b0) else if f.offset = 1 then (a1 == b1) else if f.offset = 2 then (a2 == b2) else true) Try.underlying23 st_23 (by
    simp only [List.mem_cons, List.not_mem_nil, or_false]
    rintro f (rfl | rfl | rfl)
    · exact ⟨by decide, (.int .i64 a0), (.int .i64 b0), part_scal ag_3 rfl, part_scal ag_3 rfl, eqIn_int Try.underlying3⟩
    · exact ⟨by decide, (.int .i64 a1), (.int .i64 b1), part_scal ag_3 rfl, part_scal ag_3 rfl, eqIn_int Try.underlying3⟩
    · exact ⟨by decide, (.int .i64 a2), (.int .i64 b2), part_scal ag_3 rfl, part_scal ag_3 rfl, eqIn_int Try.underlying3⟩)
  rw [h]; simp [Bool.and_assoc]
@[go_sem] theorem eql_23 {H : AH} {u : Option TypeDesc} {x y : Operand} {kk : Value → Prop} {a0 b0 : Int} {a1 b1 : Int} {a2 b2 : Int} : bin u Try.prog H .eql 23 x y (.agg #[.int .i64 a0, .int .i64 a1, .int .i64 a2]) (.agg #[.int .i64 b0, .int .i64 b1, .int .i64 b2]) kk = (u = Try.prog.underlying 23 ∧ nv (.bool ((a0 == b0) && ((a1 == b1) && (a2 == b2)))) kk) := bin_eql_of (eqg_agg eg_23) rfl fun _ => eqi_23 (m := 9998) a0 b0 a1 b1 a2 b2
@[go_sem] theorem neq_23 {H : AH} {u : Option TypeDesc} {x y : Operand} {kk : Value → Prop} {a0 b0 : Int} {a1 b1 : Int} {a2 b2 : Int} : bin u Try.prog H .neq 23 x y (.agg #[.int .i64 a0, .int .i64 a1, .int .i64 a2]) (.agg #[.int .i64 b0, .int .i64 b1, .int .i64 b2]) kk = (u = Try.prog.underlying 23 ∧ nv (.bool (!((a0 == b0) && ((a1 == b1) && (a2 == b2))))) kk) := bin_neq_of (eqg_agg eg_23) rfl fun _ => eqi_23 (m := 9998) a0 b0 a1 b1 a2 b2
theorem eg_24 : Try.prog.eqGuardType Try.prog.depth 24 = false := by kernel_rfl
theorem eqi_24 {H : AH} {m : Nat} (a0 b0 : Int) (a1 b1 : Int) : qrun Try.prog (Op.equalIn (m + 2) 24 (.agg #[.int .u8 a0, .int .u8 a1]) (.agg #[.int .u8 b0, .int .u8 b1])) H = some ((a0 == b0) && (a1 == b1)) := by
  have h := eqIn_array (P := Try.prog) (H := H) (m := m + 1) (xs := #[.int .u8 a0, .int .u8 a1]) (ys := #[.int .u8 b0, .int .u8 b1]) (T := fun i => ([(a0 == b0), (a1 == b1)] : List Bool).getD i false) Try.underlying24 (info_sz sz_5 (by simp)) (fun i hi => by
    match i, hi with
    | 0, _ => exact ⟨(.int .u8 a0), (.int .u8 b0), part_scal ag_5 rfl, part_scal ag_5 rfl, eqIn_int Try.underlying5⟩
    | 1, _ => exact ⟨(.int .u8 a1), (.int .u8 b1), part_scal ag_5 rfl, part_scal ag_5 rfl, eqIn_int Try.underlying5⟩
    | _ + 2, hi => omega)
  rw [h]; simp [List.range_succ, Bool.and_assoc]
@[go_sem] theorem eql_24 {H : AH} {u : Option TypeDesc} {x y : Operand} {kk : Value → Prop} {a0 b0 : Int} {a1 b1 : Int} : bin u Try.prog H .eql 24 x y (.agg #[.int .u8 a0, .int .u8 a1]) (.agg #[.int .u8 b0, .int .u8 b1]) kk = (u = Try.prog.underlying 24 ∧ nv (.bool ((a0 == b0) && (a1 == b1))) kk) := bin_eql_of (eqg_agg eg_24) rfl fun _ => eqi_24 (m := 9998) a0 b0 a1 b1
@[go_sem] theorem neq_24 {H : AH} {u : Option TypeDesc} {x y : Operand} {kk : Value → Prop} {a0 b0 : Int} {a1 b1 : Int} : bin u Try.prog H .neq 24 x y (.agg #[.int .u8 a0, .int .u8 a1]) (.agg #[.int .u8 b0, .int .u8 b1]) kk = (u = Try.prog.underlying 24 ∧ nv (.bool (!((a0 == b0) && (a1 == b1)))) kk) := bin_neq_of (eqg_agg eg_24) rfl fun _ => eqi_24 (m := 9998) a0 b0 a1 b1
theorem eg_37 : Try.prog.eqGuardType Try.prog.depth 37 = false := by kernel_rfl
theorem eqi_37 {H : AH} {m : Nat} (a0 b0 : Bool) (a1 b1 : Bool) (a2 b2 : Bool) (a3 b3 : Bool) (a4 b4 : Bool) (a5 b5 : Bool) (a6 b6 : Bool) (a7 b7 : Bool) (a8 b8 : Bool) (a9 b9 : Bool) (a10 b10 : Bool) : qrun Try.prog (Op.equalIn (m + 2) 37 (.agg #[.bool a0, .bool a1, .bool a2, .bool a3, .bool a4, .bool a5, .bool a6, .bool a7, .bool a8, .bool a9, .bool a10]) (.agg #[.bool b0, .bool b1, .bool b2, .bool b3, .bool b4, .bool b5, .bool b6, .bool b7, .bool b8, .bool b9, .bool b10])) H = some ((a0 == b0) && ((a1 == b1) && ((a2 == b2) && ((a3 == b3) && ((a4 == b4) && ((a5 == b5) && ((a6 == b6) && ((a7 == b7) && ((a8 == b8) && ((a9 == b9) && (a10 == b10))))))))))) := by
  have h := eqIn_array (P := Try.prog) (H := H) (m := m + 1) (xs := #[.bool a0, .bool a1, .bool a2, .bool a3, .bool a4, .bool a5, .bool a6, .bool a7, .bool a8, .bool a9, .bool a10]) (ys := #[.bool b0, .bool b1, .bool b2, .bool b3, .bool b4, .bool b5, .bool b6, .bool b7, .bool b8, .bool b9, .bool b10]) (T := fun i => ([(a0 == b0), (a1 == b1), (a2 == b2), (a3 == b3), (a4 == b4), (a5 == b5), (a6 == b6), (a7 == b7), (a8 == b8), (a9 == b9), (a10 == b10)] : List Bool).getD i false) Try.underlying37 (info_sz sz_4 (by simp)) (fun i hi => by
    match i, hi with
    | 0, _ => exact ⟨(.bool a0), (.bool b0), part_scal ag_4 rfl, part_scal ag_4 rfl, eqIn_bool Try.underlying4⟩
    | 1, _ => exact ⟨(.bool a1), (.bool b1), part_scal ag_4 rfl, part_scal ag_4 rfl, eqIn_bool Try.underlying4⟩
    | 2, _ => exact ⟨(.bool a2), (.bool b2), part_scal ag_4 rfl, part_scal ag_4 rfl, eqIn_bool Try.underlying4⟩
    | 3, _ => exact ⟨(.bool a3), (.bool b3), part_scal ag_4 rfl, part_scal ag_4 rfl, eqIn_bool Try.underlying4⟩
    | 4, _ => exact ⟨(.bool a4), (.bool b4), part_scal ag_4 rfl, part_scal ag_4 rfl, eqIn_bool Try.underlying4⟩
    | 5, _ => exact ⟨(.bool a5), (.bool b5), part_scal ag_4 rfl, part_scal ag_4 rfl, eqIn_bool Try.underlying4⟩
    | 6, _ => exact ⟨(.bool a6), (.bool b6), part_scal ag_4 rfl, part_scal ag_4 rfl, eqIn_bool Try.underlying4⟩
    | 7, _ => exact ⟨(.bool a7), (.bool b7), part_scal ag_4 rfl, part_scal ag_4 rfl, eqIn_bool Try.underlying4⟩
    | 8, _ => exact ⟨(.bool a8), (.bool b8), part_scal ag_4 rfl, part_scal ag_4 rfl, eqIn_bool Try.underlying4⟩
    | 9, _ => exact ⟨(.bool a9), (.bool b9), part_scal ag_4 rfl, part_scal ag_4 rfl, eqIn_bool Try.underlying4⟩
    | 10, _ => exact ⟨(.bool a10), (.bool b10), part_scal ag_4 rfl, part_scal ag_4 rfl, eqIn_bool Try.underlying4⟩
    | _ + 11, hi => omega)
  rw [h]; simp [List.range_succ, Bool.and_assoc]
@[go_sem] theorem eql_37 {H : AH} {u : Option TypeDesc} {x y : Operand} {kk : Value → Prop} {a0 b0 : Bool} {a1 b1 : Bool} {a2 b2 : Bool} {a3 b3 : Bool} {a4 b4 : Bool} {a5 b5 : Bool} {a6 b6 : Bool} {a7 b7 : Bool} {a8 b8 : Bool} {a9 b9 : Bool} {a10 b10 : Bool} : bin u Try.prog H .eql 37 x y (.agg #[.bool a0, .bool a1, .bool a2, .bool a3, .bool a4, .bool a5, .bool a6, .bool a7, .bool a8, .bool a9, .bool a10]) (.agg #[.bool b0, .bool b1, .bool b2, .bool b3, .bool b4, .bool b5, .bool b6, .bool b7, .bool b8, .bool b9, .bool b10]) kk = (u = Try.prog.underlying 37 ∧ nv (.bool ((a0 == b0) && ((a1 == b1) && ((a2 == b2) && ((a3 == b3) && ((a4 == b4) && ((a5 == b5) && ((a6 == b6) && ((a7 == b7) && ((a8 == b8) && ((a9 == b9) && (a10 == b10)))))))))))) kk) := bin_eql_of (eqg_agg eg_37) rfl fun _ => eqi_37 (m := 9998) a0 b0 a1 b1 a2 b2 a3 b3 a4 b4 a5 b5 a6 b6 a7 b7 a8 b8 a9 b9 a10 b10
@[go_sem] theorem neq_37 {H : AH} {u : Option TypeDesc} {x y : Operand} {kk : Value → Prop} {a0 b0 : Bool} {a1 b1 : Bool} {a2 b2 : Bool} {a3 b3 : Bool} {a4 b4 : Bool} {a5 b5 : Bool} {a6 b6 : Bool} {a7 b7 : Bool} {a8 b8 : Bool} {a9 b9 : Bool} {a10 b10 : Bool} : bin u Try.prog H .neq 37 x y (.agg #[.bool a0, .bool a1, .bool a2, .bool a3, .bool a4, .bool a5, .bool a6, .bool a7, .bool a8, .bool a9, .bool a10]) (.agg #[.bool b0, .bool b1, .bool b2, .bool b3, .bool b4, .bool b5, .bool b6, .bool b7, .bool b8, .bool b9, .bool b10]) kk = (u = Try.prog.underlying 37 ∧ nv (.bool (!((a0 == b0) && ((a1 == b1) && ((a2 == b2) && ((a3 == b3) && ((a4 == b4) && ((a5 == b5) && ((a6 == b6) && ((a7 == b7) && ((a8 == b8) && ((a9 == b9) && (a10 == b10))))))))))))) kk) := bin_neq_of (eqg_agg eg_37) rfl fun _ => eqi_37 (m := 9998) a0 b0 a1 b1 a2 b2 a3 b3 a4 b4 a5 b5 a6 b6 a7 b7 a8 b8 a9 b9 a10 b10
theorem eg_38 : Try.prog.eqGuardType Try.prog.depth 38 = false := by kernel_rfl
theorem eqi_38 {H : AH} {m : Nat} (a0 b0 : Bool) (a1 b1 : Bool) (a2 b2 : Bool) (a3 b3 : Bool) (a4 b4 : Bool) (a5 b5 : Bool) (a6 b6 : Bool) (a7 b7 : Bool) (a8 b8 : Bool) (a9 b9 : Bool) (a10 b10 : Bool) : qrun Try.prog (Op.equalIn (m + 2) 38 (.agg #[.bool a0, .bool a1, .bool a2, .bool a3, .bool a4, .bool a5, .bool a6, .bool a7, .bool a8, .bool a9, .bool a10]) (.agg #[.bool b0, .bool b1, .bool b2, .bool b3, .bool b4, .bool b5, .bool b6, .bool b7, .bool b8, .bool b9, .bool b10])) H = some ((a0 == b0) && ((a1 == b1) && ((a2 == b2) && ((a3 == b3) && ((a4 == b4) && ((a5 == b5) && ((a6 == b6) && ((a7 == b7) && ((a8 == b8) && ((a9 == b9) && (a10 == b10))))))))))) := by
  have h := eqIn_array (P := Try.prog) (H := H) (m := m + 1) (xs := #[.bool a0, .bool a1, .bool a2, .bool a3, .bool a4, .bool a5, .bool a6, .bool a7, .bool a8, .bool a9, .bool a10]) (ys := #[.bool b0, .bool b1, .bool b2, .bool b3, .bool b4, .bool b5, .bool b6, .bool b7, .bool b8, .bool b9, .bool b10]) (T := fun i => ([(a0 == b0), (a1 == b1), (a2 == b2), (a3 == b3), (a4 == b4), (a5 == b5), (a6 == b6), (a7 == b7), (a8 == b8), (a9 == b9), (a10 == b10)] : List Bool).getD i false) Try.underlying38 (info_sz sz_4 (by simp)) (fun i hi => by
    match i, hi with
    | 0, _ => exact ⟨(.bool a0), (.bool b0), part_scal ag_4 rfl, part_scal ag_4 rfl, eqIn_bool Try.underlying4⟩
    | 1, _ => exact ⟨(.bool a1), (.bool b1), part_scal ag_4 rfl, part_scal ag_4 rfl, eqIn_bool Try.underlying4⟩
    | 2, _ => exact ⟨(.bool a2), (.bool b2), part_scal ag_4 rfl, part_scal ag_4 rfl, eqIn_bool Try.underlying4⟩
    | 3, _ => exact ⟨(.bool a3), (.bool b3), part_scal ag_4 rfl, part_scal ag_4 rfl, eqIn_bool Try.underlying4⟩
    | 4, _ => exact ⟨(.bool a4), (.bool b4), part_scal ag_4 rfl, part_scal ag_4 rfl, eqIn_bool Try.underlying4⟩
    | 5, _ => exact ⟨(.bool a5), (.bool b5), part_scal ag_4 rfl, part_scal ag_4 rfl, eqIn_bool Try.underlying4⟩
    | 6, _ => exact ⟨(.bool a6), (.bool b6), part_scal ag_4 rfl, part_scal ag_4 rfl, eqIn_bool Try.underlying4⟩
    | 7, _ => exact ⟨(.bool a7), (.bool b7), part_scal ag_4 rfl, part_scal ag_4 rfl, eqIn_bool Try.underlying4⟩
    | 8, _ => exact ⟨(.bool a8), (.bool b8), part_scal ag_4 rfl, part_scal ag_4 rfl, eqIn_bool Try.underlying4⟩
    | 9, _ => exact ⟨(.bool a9), (.bool b9), part_scal ag_4 rfl, part_scal ag_4 rfl, eqIn_bool Try.underlying4⟩
    | 10, _ => exact ⟨(.bool a10), (.bool b10), part_scal ag_4 rfl, part_scal ag_4 rfl, eqIn_bool Try.underlying4⟩
    | _ + 11, hi => omega)
  rw [h]; simp [List.range_succ, Bool.and_assoc]
@[go_sem] theorem eql_38 {H : AH} {u : Option TypeDesc} {x y : Operand} {kk : Value → Prop} {a0 b0 : Bool} {a1 b1 : Bool} {a2 b2 : Bool} {a3 b3 : Bool} {a4 b4 : Bool} {a5 b5 : Bool} {a6 b6 : Bool} {a7 b7 : Bool} {a8 b8 : Bool} {a9 b9 : Bool} {a10 b10 : Bool} : bin u Try.prog H .eql 38 x y (.agg #[.bool a0, .bool a1, .bool a2, .bool a3, .bool a4, .bool a5, .bool a6, .bool a7, .bool a8, .bool a9, .bool a10]) (.agg #[.bool b0, .bool b1, .bool b2, .bool b3, .bool b4, .bool b5, .bool b6, .bool b7, .bool b8, .bool b9, .bool b10]) kk = (u = Try.prog.underlying 38 ∧ nv (.bool ((a0 == b0) && ((a1 == b1) && ((a2 == b2) && ((a3 == b3) && ((a4 == b4) && ((a5 == b5) && ((a6 == b6) && ((a7 == b7) && ((a8 == b8) && ((a9 == b9) && (a10 == b10)))))))))))) kk) := bin_eql_of (eqg_agg eg_38) rfl fun _ => eqi_38 (m := 9998) a0 b0 a1 b1 a2 b2 a3 b3 a4 b4 a5 b5 a6 b6 a7 b7 a8 b8 a9 b9 a10 b10
@[go_sem] theorem neq_38 {H : AH} {u : Option TypeDesc} {x y : Operand} {kk : Value → Prop} {a0 b0 : Bool} {a1 b1 : Bool} {a2 b2 : Bool} {a3 b3 : Bool} {a4 b4 : Bool} {a5 b5 : Bool} {a6 b6 : Bool} {a7 b7 : Bool} {a8 b8 : Bool} {a9 b9 : Bool} {a10 b10 : Bool} : bin u Try.prog H .neq 38 x y (.agg #[.bool a0, .bool a1, .bool a2, .bool a3, .bool a4, .bool a5, .bool a6, .bool a7, .bool a8, .bool a9, .bool a10]) (.agg #[.bool b0, .bool b1, .bool b2, .bool b3, .bool b4, .bool b5, .bool b6, .bool b7, .bool b8, .bool b9, .bool b10]) kk = (u = Try.prog.underlying 38 ∧ nv (.bool (!((a0 == b0) && ((a1 == b1) && ((a2 == b2) && ((a3 == b3) && ((a4 == b4) && ((a5 == b5) && ((a6 == b6) && ((a7 == b7) && ((a8 == b8) && ((a9 == b9) && (a10 == b10))))))))))))) kk) := bin_neq_of (eqg_agg eg_38) rfl fun _ => eqi_38 (m := 9998) a0 b0 a1 b1 a2 b2 a3 b3 a4 b4 a5 b5 a6 b6 a7 b7 a8 b8 a9 b9 a10 b10
theorem eg_66 : Try.prog.eqGuardType Try.prog.depth 66 = false := by kernel_rfl
theorem eqi_66 {H : AH} {m : Nat} (a0 b0 : Int) (a1 b1 : Int) (a2 b2 : Int) (a3 b3 : Int) : qrun Try.prog (Op.equalIn (m + 2) 66 (.agg #[.int .u8 a0, .int .u8 a1, .int .u8 a2, .int .u8 a3]) (.agg #[.int .u8 b0, .int .u8 b1, .int .u8 b2, .int .u8 b3])) H = some ((a0 == b0) && ((a1 == b1) && ((a2 == b2) && (a3 == b3)))) := by
  have h := eqIn_array (P := Try.prog) (H := H) (m := m + 1) (xs := #[.int .u8 a0, .int .u8 a1, .int .u8 a2, .int .u8 a3]) (ys := #[.int .u8 b0, .int .u8 b1, .int .u8 b2, .int .u8 b3]) (T := fun i => ([(a0 == b0), (a1 == b1), (a2 == b2), (a3 == b3)] : List Bool).getD i false) Try.underlying66 (info_sz sz_5 (by simp)) (fun i hi => by
    match i, hi with
    | 0, _ => exact ⟨(.int .u8 a0), (.int .u8 b0), part_scal ag_5 rfl, part_scal ag_5 rfl, eqIn_int Try.underlying5⟩
    | 1, _ => exact ⟨(.int .u8 a1), (.int .u8 b1), part_scal ag_5 rfl, part_scal ag_5 rfl, eqIn_int Try.underlying5⟩
    | 2, _ => exact ⟨(.int .u8 a2), (.int .u8 b2), part_scal ag_5 rfl, part_scal ag_5 rfl, eqIn_int Try.underlying5⟩
    | 3, _ => exact ⟨(.int .u8 a3), (.int .u8 b3), part_scal ag_5 rfl, part_scal ag_5 rfl, eqIn_int Try.underlying5⟩
    | _ + 4, hi => omega)
  rw [h]; simp [List.range_succ, Bool.and_assoc]
@[go_sem] theorem eql_66 {H : AH} {u : Option TypeDesc} {x y : Operand} {kk : Value → Prop} {a0 b0 : Int} {a1 b1 : Int} {a2 b2 : Int} {a3 b3 : Int} : bin u Try.prog H .eql 66 x y (.agg #[.int .u8 a0, .int .u8 a1, .int .u8 a2, .int .u8 a3]) (.agg #[.int .u8 b0, .int .u8 b1, .int .u8 b2, .int .u8 b3]) kk = (u = Try.prog.underlying 66 ∧ nv (.bool ((a0 == b0) && ((a1 == b1) && ((a2 == b2) && (a3 == b3))))) kk) := bin_eql_of (eqg_agg eg_66) rfl fun _ => eqi_66 (m := 9998) a0 b0 a1 b1 a2 b2 a3 b3
@[go_sem] theorem neq_66 {H : AH} {u : Option TypeDesc} {x y : Operand} {kk : Value → Prop} {a0 b0 : Int} {a1 b1 : Int} {a2 b2 : Int} {a3 b3 : Int} : bin u Try.prog H .neq 66 x y (.agg #[.int .u8 a0, .int .u8 a1, .int .u8 a2, .int .u8 a3]) (.agg #[.int .u8 b0, .int .u8 b1, .int .u8 b2, .int .u8 b3]) kk = (u = Try.prog.underlying 66 ∧ nv (.bool (!((a0 == b0) && ((a1 == b1) && ((a2 == b2) && (a3 == b3)))))) kk) := bin_neq_of (eqg_agg eg_66) rfl fun _ => eqi_66 (m := 9998) a0 b0 a1 b1 a2 b2 a3 b3
theorem eg_67 : Try.prog.eqGuardType Try.prog.depth 67 = false := by kernel_rfl
theorem eqi_67 {H : AH} {m : Nat} (a0 b0 : Int) (a1 b1 : Int) (a2 b2 : Int) (a3 b3 : Int) : qrun Try.prog (Op.equalIn (m + 2) 67 (.agg #[.int .u8 a0, .int .u8 a1, .int .u8 a2, .int .u8 a3]) (.agg #[.int .u8 b0, .int .u8 b1, .int .u8 b2, .int .u8 b3])) H = some ((a0 == b0) && ((a1 == b1) && ((a2 == b2) && (a3 == b3)))) := by
  have h := eqIn_array (P := Try.prog) (H := H) (m := m + 1) (xs := #[.int .u8 a0, .int .u8 a1, .int .u8 a2, .int .u8 a3]) (ys := #[.int .u8 b0, .int .u8 b1, .int .u8 b2, .int .u8 b3]) (T := fun i => ([(a0 == b0), (a1 == b1), (a2 == b2), (a3 == b3)] : List Bool).getD i false) Try.underlying67 (info_sz sz_5 (by simp)) (fun i hi => by
    match i, hi with
    | 0, _ => exact ⟨(.int .u8 a0), (.int .u8 b0), part_scal ag_5 rfl, part_scal ag_5 rfl, eqIn_int Try.underlying5⟩
    | 1, _ => exact ⟨(.int .u8 a1), (.int .u8 b1), part_scal ag_5 rfl, part_scal ag_5 rfl, eqIn_int Try.underlying5⟩
    | 2, _ => exact ⟨(.int .u8 a2), (.int .u8 b2), part_scal ag_5 rfl, part_scal ag_5 rfl, eqIn_int Try.underlying5⟩
    | 3, _ => exact ⟨(.int .u8 a3), (.int .u8 b3), part_scal ag_5 rfl, part_scal ag_5 rfl, eqIn_int Try.underlying5⟩
    | _ + 4, hi => omega)
  rw [h]; simp [List.range_succ, Bool.and_assoc]
@[go_sem] theorem eql_67 {H : AH} {u : Option TypeDesc} {x y : Operand} {kk : Value → Prop} {a0 b0 : Int} {a1 b1 : Int} {a2 b2 : Int} {a3 b3 : Int} : bin u Try.prog H .eql 67 x y (.agg #[.int .u8 a0, .int .u8 a1, .int .u8 a2, .int .u8 a3]) (.agg #[.int .u8 b0, .int .u8 b1, .int .u8 b2, .int .u8 b3]) kk = (u = Try.prog.underlying 67 ∧ nv (.bool ((a0 == b0) && ((a1 == b1) && ((a2 == b2) && (a3 == b3))))) kk) := bin_eql_of (eqg_agg eg_67) rfl fun _ => eqi_67 (m := 9998) a0 b0 a1 b1 a2 b2 a3 b3
@[go_sem] theorem neq_67 {H : AH} {u : Option TypeDesc} {x y : Operand} {kk : Value → Prop} {a0 b0 : Int} {a1 b1 : Int} {a2 b2 : Int} {a3 b3 : Int} : bin u Try.prog H .neq 67 x y (.agg #[.int .u8 a0, .int .u8 a1, .int .u8 a2, .int .u8 a3]) (.agg #[.int .u8 b0, .int .u8 b1, .int .u8 b2, .int .u8 b3]) kk = (u = Try.prog.underlying 67 ∧ nv (.bool (!((a0 == b0) && ((a1 == b1) && ((a2 == b2) && (a3 == b3)))))) kk) := bin_neq_of (eqg_agg eg_67) rfl fun _ => eqi_67 (m := 9998) a0 b0 a1 b1 a2 b2 a3 b3
theorem eg_68 : Try.prog.eqGuardType Try.prog.depth 68 = false := by kernel_rfl
theorem st_68 : Try.prog.stoodInHeld 68 = false := by kernel_rfl
theorem eqi_68 {H : AH} {m : Nat} (a0 b0 : Int) (a1 b1 : Int) (a2 b2 : Int) (a3 b3 : Int) (a4 b4 : Int) (a5 b5 : Int) (a6 b6 : Int) (a7 b7 : Int) (a8 b8 : Int) (a9 b9 : Int) : qrun Try.prog (Op.equalIn (m + 3) 68 (.agg #[.int .i64 a0, .int .i64 a1, .int .i64 a2, .int .i64 a3, .int .i64 a4, .int .u8 a5, .int .u8 a6, .int .u8 a7, .int .u8 a8, .int .i64 a9]) (.agg #[.int .i64 b0, .int .i64 b1, .int .i64 b2, .int .i64 b3, .int .i64 b4, .int .u8 b5, .int .u8 b6, .int .u8 b7, .int .u8 b8, .int .i64 b9])) H = some ((a0 == b0) && ((a1 == b1) && ((a2 == b2) && ((a3 == b3) && ((a4 == b4) && ((a5 == b5) && ((a6 == b6) && ((a7 == b7) && ((a8 == b8) && (a9 == b9)))))))))) := by
  have h := eqIn_struct (P := Try.prog) (H := H) (m := m + 2) (xs := #[.int .i64 a0, .int .i64 a1, .int .i64 a2, .int .i64 a3, .int .i64 a4, .int .u8 a5, .int .u8 a6, .int .u8 a7, .int .u8 a8, .int .i64 a9]) (ys := #[.int .i64 b0, .int .i64 b1, .int .i64 b2, .int .i64 b3, .int .i64 b4, .int .u8 b5, .int .u8 b6, .int .u8 b7, .int .u8 b8, .int .i64 b9]) (T := fun f => if f.offset = 0 then (a0 == b0) else if f.offset = 1 then (a1 == b1) else if f.offset = 2 then (a2 == b2) else if f.offset = 3 then (a3 == b3) else if f.offset = 4 then (a4 == b4) else if f.offset = 5 then ((a5 == b5) && ((a6 == b6) && ((a7 == b7) && (a8 == b8)))) else if f.offset = 9 then (a9 == b9) else true) Try.underlying68 st_68 (by
    simp only [List.mem_cons, List.not_mem_nil, or_false]
    rintro f (rfl | rfl | rfl | rfl | rfl | rfl | rfl)
    · exact ⟨by decide, (.int .i64 a0), (.int .i64 b0), part_scal ag_3 rfl, part_scal ag_3 rfl, eqIn_int Try.underlying3⟩
    · exact ⟨by decide, (.int .i64 a1), (.int .i64 b1), part_scal ag_3 rfl, part_scal ag_3 rfl, eqIn_int Try.underlying3⟩
    · exact ⟨by decide, (.int .i64 a2), (.int .i64 b2), part_scal ag_3 rfl, part_scal ag_3 rfl, eqIn_int Try.underlying3⟩
    · exact ⟨by decide, (.int .i64 a3), (.int .i64 b3), part_scal ag_3 rfl, part_scal ag_3 rfl, eqIn_int Try.underlying3⟩
    · exact ⟨by decide, (.int .i64 a4), (.int .i64 b4), part_scal ag_3 rfl, part_scal ag_3 rfl, eqIn_int Try.underlying3⟩
    · exact ⟨by decide, (.agg #[.int .u8 a5, .int .u8 a6, .int .u8 a7, .int .u8 a8]), (.agg #[.int .u8 b5, .int .u8 b6, .int .u8 b7, .int .u8 b8]), part_agg ag_67 (info_sz sz_67 (by simp)), part_agg ag_67 (info_sz sz_67 (by simp)), eqi_67 (m := m + 0) a5 b5 a6 b6 a7 b7 a8 b8⟩
    · exact ⟨by decide, (.int .i64 a9), (.int .i64 b9), part_scal ag_3 rfl, part_scal ag_3 rfl, eqIn_int Try.underlying3⟩)
  rw [h]; simp [Bool.and_assoc]
@[go_sem] theorem eql_68 {H : AH} {u : Option TypeDesc} {x y : Operand} {kk : Value → Prop} {a0 b0 : Int} {a1 b1 : Int} {a2 b2 : Int} {a3 b3 : Int} {a4 b4 : Int} {a5 b5 : Int} {a6 b6 : Int} {a7 b7 : Int} {a8 b8 : Int} {a9 b9 : Int} : bin u Try.prog H .eql 68 x y (.agg #[.int .i64 a0, .int .i64 a1, .int .i64 a2, .int .i64 a3, .int .i64 a4, .int .u8 a5, .int .u8 a6, .int .u8 a7, .int .u8 a8, .int .i64 a9]) (.agg #[.int .i64 b0, .int .i64 b1, .int .i64 b2, .int .i64 b3, .int .i64 b4, .int .u8 b5, .int .u8 b6, .int .u8 b7, .int .u8 b8, .int .i64 b9]) kk = (u = Try.prog.underlying 68 ∧ nv (.bool ((a0 == b0) && ((a1 == b1) && ((a2 == b2) && ((a3 == b3) && ((a4 == b4) && ((a5 == b5) && ((a6 == b6) && ((a7 == b7) && ((a8 == b8) && (a9 == b9))))))))))) kk) := bin_eql_of (eqg_agg eg_68) rfl fun _ => eqi_68 (m := 9997) a0 b0 a1 b1 a2 b2 a3 b3 a4 b4 a5 b5 a6 b6 a7 b7 a8 b8 a9 b9
@[go_sem] theorem neq_68 {H : AH} {u : Option TypeDesc} {x y : Operand} {kk : Value → Prop} {a0 b0 : Int} {a1 b1 : Int} {a2 b2 : Int} {a3 b3 : Int} {a4 b4 : Int} {a5 b5 : Int} {a6 b6 : Int} {a7 b7 : Int} {a8 b8 : Int} {a9 b9 : Int} : bin u Try.prog H .neq 68 x y (.agg #[.int .i64 a0, .int .i64 a1, .int .i64 a2, .int .i64 a3, .int .i64 a4, .int .u8 a5, .int .u8 a6, .int .u8 a7, .int .u8 a8, .int .i64 a9]) (.agg #[.int .i64 b0, .int .i64 b1, .int .i64 b2, .int .i64 b3, .int .i64 b4, .int .u8 b5, .int .u8 b6, .int .u8 b7, .int .u8 b8, .int .i64 b9]) kk = (u = Try.prog.underlying 68 ∧ nv (.bool (!((a0 == b0) && ((a1 == b1) && ((a2 == b2) && ((a3 == b3) && ((a4 == b4) && ((a5 == b5) && ((a6 == b6) && ((a7 == b7) && ((a8 == b8) && (a9 == b9)))))))))))) kk) := bin_neq_of (eqg_agg eg_68) rfl fun _ => eqi_68 (m := 9997) a0 b0 a1 b1 a2 b2 a3 b3 a4 b4 a5 b5 a6 b6 a7 b7 a8 b8 a9 b9
theorem eg_69 : Try.prog.eqGuardType Try.prog.depth 69 = false := by kernel_rfl
theorem st_69 : Try.prog.stoodInHeld 69 = false := by kernel_rfl
theorem eqi_69 {H : AH} {m : Nat} (a0 b0 : Int) (a1 b1 : Int) (a2 b2 : Int) (a3 b3 : Int) (a4 b4 : Int) (a5 b5 : Int) (a6 b6 : Int) (a7 b7 : Int) (a8 b8 : Int) (a9 b9 : Int) : qrun Try.prog (Op.equalIn (m + 3) 69 (.agg #[.int .i64 a0, .int .i64 a1, .int .i64 a2, .int .i64 a3, .int .i64 a4, .int .u8 a5, .int .u8 a6, .int .u8 a7, .int .u8 a8, .int .i64 a9]) (.agg #[.int .i64 b0, .int .i64 b1, .int .i64 b2, .int .i64 b3, .int .i64 b4, .int .u8 b5, .int .u8 b6, .int .u8 b7, .int .u8 b8, .int .i64 b9])) H = some ((a0 == b0) && ((a1 == b1) && ((a2 == b2) && ((a3 == b3) && ((a4 == b4) && ((a5 == b5) && ((a6 == b6) && ((a7 == b7) && ((a8 == b8) && (a9 == b9)))))))))) := by
  have h := eqIn_struct (P := Try.prog) (H := H) (m := m + 2) (xs := #[.int .i64 a0, .int .i64 a1, .int .i64 a2, .int .i64 a3, .int .i64 a4, .int .u8 a5, .int .u8 a6, .int .u8 a7, .int .u8 a8, .int .i64 a9]) (ys := #[.int .i64 b0, .int .i64 b1, .int .i64 b2, .int .i64 b3, .int .i64 b4, .int .u8 b5, .int .u8 b6, .int .u8 b7, .int .u8 b8, .int .i64 b9]) (T := fun f => if f.offset = 0 then (a0 == b0) else if f.offset = 1 then (a1 == b1) else if f.offset = 2 then (a2 == b2) else if f.offset = 3 then (a3 == b3) else if f.offset = 4 then (a4 == b4) else if f.offset = 5 then ((a5 == b5) && ((a6 == b6) && ((a7 == b7) && (a8 == b8)))) else if f.offset = 9 then (a9 == b9) else true) Try.underlying69 st_69 (by
    simp only [List.mem_cons, List.not_mem_nil, or_false]
    rintro f (rfl | rfl | rfl | rfl | rfl | rfl | rfl)
    · exact ⟨by decide, (.int .i64 a0), (.int .i64 b0), part_scal ag_3 rfl, part_scal ag_3 rfl, eqIn_int Try.underlying3⟩
    · exact ⟨by decide, (.int .i64 a1), (.int .i64 b1), part_scal ag_3 rfl, part_scal ag_3 rfl, eqIn_int Try.underlying3⟩
    · exact ⟨by decide, (.int .i64 a2), (.int .i64 b2), part_scal ag_3 rfl, part_scal ag_3 rfl, eqIn_int Try.underlying3⟩
    · exact ⟨by decide, (.int .i64 a3), (.int .i64 b3), part_scal ag_3 rfl, part_scal ag_3 rfl, eqIn_int Try.underlying3⟩
    · exact ⟨by decide, (.int .i64 a4), (.int .i64 b4), part_scal ag_3 rfl, part_scal ag_3 rfl, eqIn_int Try.underlying3⟩
    · exact ⟨by decide, (.agg #[.int .u8 a5, .int .u8 a6, .int .u8 a7, .int .u8 a8]), (.agg #[.int .u8 b5, .int .u8 b6, .int .u8 b7, .int .u8 b8]), part_agg ag_67 (info_sz sz_67 (by simp)), part_agg ag_67 (info_sz sz_67 (by simp)), eqi_67 (m := m + 0) a5 b5 a6 b6 a7 b7 a8 b8⟩
    · exact ⟨by decide, (.int .i64 a9), (.int .i64 b9), part_scal ag_3 rfl, part_scal ag_3 rfl, eqIn_int Try.underlying3⟩)
  rw [h]; simp [Bool.and_assoc]
@[go_sem] theorem eql_69 {H : AH} {u : Option TypeDesc} {x y : Operand} {kk : Value → Prop} {a0 b0 : Int} {a1 b1 : Int} {a2 b2 : Int} {a3 b3 : Int} {a4 b4 : Int} {a5 b5 : Int} {a6 b6 : Int} {a7 b7 : Int} {a8 b8 : Int} {a9 b9 : Int} : bin u Try.prog H .eql 69 x y (.agg #[.int .i64 a0, .int .i64 a1, .int .i64 a2, .int .i64 a3, .int .i64 a4, .int .u8 a5, .int .u8 a6, .int .u8 a7, .int .u8 a8, .int .i64 a9]) (.agg #[.int .i64 b0, .int .i64 b1, .int .i64 b2, .int .i64 b3, .int .i64 b4, .int .u8 b5, .int .u8 b6, .int .u8 b7, .int .u8 b8, .int .i64 b9]) kk = (u = Try.prog.underlying 69 ∧ nv (.bool ((a0 == b0) && ((a1 == b1) && ((a2 == b2) && ((a3 == b3) && ((a4 == b4) && ((a5 == b5) && ((a6 == b6) && ((a7 == b7) && ((a8 == b8) && (a9 == b9))))))))))) kk) := bin_eql_of (eqg_agg eg_69) rfl fun _ => eqi_69 (m := 9997) a0 b0 a1 b1 a2 b2 a3 b3 a4 b4 a5 b5 a6 b6 a7 b7 a8 b8 a9 b9
@[go_sem] theorem neq_69 {H : AH} {u : Option TypeDesc} {x y : Operand} {kk : Value → Prop} {a0 b0 : Int} {a1 b1 : Int} {a2 b2 : Int} {a3 b3 : Int} {a4 b4 : Int} {a5 b5 : Int} {a6 b6 : Int} {a7 b7 : Int} {a8 b8 : Int} {a9 b9 : Int} : bin u Try.prog H .neq 69 x y (.agg #[.int .i64 a0, .int .i64 a1, .int .i64 a2, .int .i64 a3, .int .i64 a4, .int .u8 a5, .int .u8 a6, .int .u8 a7, .int .u8 a8, .int .i64 a9]) (.agg #[.int .i64 b0, .int .i64 b1, .int .i64 b2, .int .i64 b3, .int .i64 b4, .int .u8 b5, .int .u8 b6, .int .u8 b7, .int .u8 b8, .int .i64 b9]) kk = (u = Try.prog.underlying 69 ∧ nv (.bool (!((a0 == b0) && ((a1 == b1) && ((a2 == b2) && ((a3 == b3) && ((a4 == b4) && ((a5 == b5) && ((a6 == b6) && ((a7 == b7) && ((a8 == b8) && (a9 == b9)))))))))))) kk) := bin_neq_of (eqg_agg eg_69) rfl fun _ => eqi_69 (m := 9997) a0 b0 a1 b1 a2 b2 a3 b3 a4 b4 a5 b5 a6 b6 a7 b7 a8 b8 a9 b9
theorem eg_70 : Try.prog.eqGuardType Try.prog.depth 70 = false := by kernel_rfl
theorem st_70 : Try.prog.stoodInHeld 70 = false := by kernel_rfl
theorem eqi_70 {H : AH} {m : Nat} (a0 b0 : Int) (a1 b1 : Int) (a2 b2 : Int) (a3 b3 : Int) (a4 b4 : Int) (a5 b5 : Int) (a6 b6 : Int) (a7 b7 : Int) (a8 b8 : Int) (a9 b9 : Int) (a10 b10 : Int) : qrun Try.prog (Op.equalIn (m + 4) 70 (.agg #[.int .u8 a0, .int .i64 a1, .int .i64 a2, .int .i64 a3, .int .i64 a4, .int .i64 a5, .int .u8 a6, .int .u8 a7, .int .u8 a8, .int .u8 a9, .int .i64 a10]) (.agg #[.int .u8 b0, .int .i64 b1, .int .i64 b2, .int .i64 b3, .int .i64 b4, .int .i64 b5, .int .u8 b6, .int .u8 b7, .int .u8 b8, .int .u8 b9, .int .i64 b10])) H = some ((a0 == b0) && ((a1 == b1) && ((a2 == b2) && ((a3 == b3) && ((a4 == b4) && ((a5 == b5) && ((a6 == b6) && ((a7 == b7) && ((a8 == b8) && ((a9 == b9) && (a10 == b10))))))))))) := by
  have h := eqIn_struct (P := Try.prog) (H := H) (m := m + 3) (xs := #[.int .u8 a0, .int .i64 a1, .int .i64 a2, .int .i64 a3, .int .i64 a4, .int .i64 a5, .int .u8 a6, .int .u8 a7, .int .u8 a8, .int .u8 a9, .int .i64 a10]) (ys := #[.int .u8 b0, .int .i64 b1, .int .i64 b2, .int .i64 b3, .int .i64 b4, .int .i64 b5, .int .u8 b6, .int .u8 b7, .int .u8 b8, .int .u8 b9, .int .i64 b10]) (T := fun f => if f.offset = 0 then (a0 == b0) else if f.offset = 1 then ((a1 == b1) && ((a2 == b2) && ((a3 == b3) && ((a4 == b4) && ((a5 == b5) && ((a6 == b6) && ((a7 == b7) && ((a8 == b8) && ((a9 == b9) && (a10 == b10)))))))))) else true) Try.underlying70 st_70 (by
    simp only [List.mem_cons, List.not_mem_nil, or_false]
    rintro f (rfl | rfl)
    · exact ⟨by decide, (.int .u8 a0), (.int .u8 b0), part_scal ag_5 rfl, part_scal ag_5 rfl, eqIn_int Try.underlying5⟩
    · exact ⟨by decide, (.agg #[.int .i64 a1, .int .i64 a2, .int .i64 a3, .int .i64 a4, .int .i64 a5, .int .u8 a6, .int .u8 a7, .int .u8 a8, .int .u8 a9, .int .i64 a10]), (.agg #[.int .i64 b1, .int .i64 b2, .int .i64 b3, .int .i64 b4, .int .i64 b5, .int .u8 b6, .int .u8 b7, .int .u8 b8, .int .u8 b9, .int .i64 b10]), part_agg ag_69 (info_sz sz_69 (by simp)), part_agg ag_69 (info_sz sz_69 (by simp)), eqi_69 (m := m + 0) a1 b1 a2 b2 a3 b3 a4 b4 a5 b5 a6 b6 a7 b7 a8 b8 a9 b9 a10 b10⟩)
  rw [h]; simp [Bool.and_assoc]
@[go_sem] theorem eql_70 {H : AH} {u : Option TypeDesc} {x y : Operand} {kk : Value → Prop} {a0 b0 : Int} {a1 b1 : Int} {a2 b2 : Int} {a3 b3 : Int} {a4 b4 : Int} {a5 b5 : Int} {a6 b6 : Int} {a7 b7 : Int} {a8 b8 : Int} {a9 b9 : Int} {a10 b10 : Int} : bin u Try.prog H .eql 70 x y (.agg #[.int .u8 a0, .int .i64 a1, .int .i64 a2, .int .i64 a3, .int .i64 a4, .int .i64 a5, .int .u8 a6, .int .u8 a7, .int .u8 a8, .int .u8 a9, .int .i64 a10]) (.agg #[.int .u8 b0, .int .i64 b1, .int .i64 b2, .int .i64 b3, .int .i64 b4, .int .i64 b5, .int .u8 b6, .int .u8 b7, .int .u8 b8, .int .u8 b9, .int .i64 b10]) kk = (u = Try.prog.underlying 70 ∧ nv (.bool ((a0 == b0) && ((a1 == b1) && ((a2 == b2) && ((a3 == b3) && ((a4 == b4) && ((a5 == b5) && ((a6 == b6) && ((a7 == b7) && ((a8 == b8) && ((a9 == b9) && (a10 == b10)))))))))))) kk) := bin_eql_of (eqg_agg eg_70) rfl fun _ => eqi_70 (m := 9996) a0 b0 a1 b1 a2 b2 a3 b3 a4 b4 a5 b5 a6 b6 a7 b7 a8 b8 a9 b9 a10 b10
@[go_sem] theorem neq_70 {H : AH} {u : Option TypeDesc} {x y : Operand} {kk : Value → Prop} {a0 b0 : Int} {a1 b1 : Int} {a2 b2 : Int} {a3 b3 : Int} {a4 b4 : Int} {a5 b5 : Int} {a6 b6 : Int} {a7 b7 : Int} {a8 b8 : Int} {a9 b9 : Int} {a10 b10 : Int} : bin u Try.prog H .neq 70 x y (.agg #[.int .u8 a0, .int .i64 a1, .int .i64 a2, .int .i64 a3, .int .i64 a4, .int .i64 a5, .int .u8 a6, .int .u8 a7, .int .u8 a8, .int .u8 a9, .int .i64 a10]) (.agg #[.int .u8 b0, .int .i64 b1, .int .i64 b2, .int .i64 b3, .int .i64 b4, .int .i64 b5, .int .u8 b6, .int .u8 b7, .int .u8 b8, .int .u8 b9, .int .i64 b10]) kk = (u = Try.prog.underlying 70 ∧ nv (.bool (!((a0 == b0) && ((a1 == b1) && ((a2 == b2) && ((a3 == b3) && ((a4 == b4) && ((a5 == b5) && ((a6 == b6) && ((a7 == b7) && ((a8 == b8) && ((a9 == b9) && (a10 == b10))))))))))))) kk) := bin_neq_of (eqg_agg eg_70) rfl fun _ => eqi_70 (m := 9996) a0 b0 a1 b1 a2 b2 a3 b3 a4 b4 a5 b5 a6 b6 a7 b7 a8 b8 a9 b9 a10 b10
theorem eg_71 : Try.prog.eqGuardType Try.prog.depth 71 = false := by kernel_rfl
theorem st_71 : Try.prog.stoodInHeld 71 = false := by kernel_rfl
theorem eqi_71 {H : AH} {m : Nat} (a0 b0 : Int) (a1 b1 : Int) (a2 b2 : Int) (a3 b3 : Int) (a4 b4 : Int) (a5 b5 : Int) (a6 b6 : Int) (a7 b7 : Int) (a8 b8 : Int) (a9 b9 : Int) (a10 b10 : Int) : qrun Try.prog (Op.equalIn (m + 4) 71 (.agg #[.int .u8 a0, .int .i64 a1, .int .i64 a2, .int .i64 a3, .int .i64 a4, .int .i64 a5, .int .u8 a6, .int .u8 a7, .int .u8 a8, .int .u8 a9, .int .i64 a10]) (.agg #[.int .u8 b0, .int .i64 b1, .int .i64 b2, .int .i64 b3, .int .i64 b4, .int .i64 b5, .int .u8 b6, .int .u8 b7, .int .u8 b8, .int .u8 b9, .int .i64 b10])) H = some ((a0 == b0) && ((a1 == b1) && ((a2 == b2) && ((a3 == b3) && ((a4 == b4) && ((a5 == b5) && ((a6 == b6) && ((a7 == b7) && ((a8 == b8) && ((a9 == b9) && (a10 == b10))))))))))) := by
  have h := eqIn_struct (P := Try.prog) (H := H) (m := m + 3) (xs := #[.int .u8 a0, .int .i64 a1, .int .i64 a2, .int .i64 a3, .int .i64 a4, .int .i64 a5, .int .u8 a6, .int .u8 a7, .int .u8 a8, .int .u8 a9, .int .i64 a10]) (ys := #[.int .u8 b0, .int .i64 b1, .int .i64 b2, .int .i64 b3, .int .i64 b4, .int .i64 b5, .int .u8 b6, .int .u8 b7, .int .u8 b8, .int .u8 b9, .int .i64 b10]) (T := fun f => if f.offset = 0 then (a0 == b0) else if f.offset = 1 then ((a1 == b1) && ((a2 == b2) && ((a3 == b3) && ((a4 == b4) && ((a5 == b5) && ((a6 == b6) && ((a7 == b7) && ((a8 == b8) && ((a9 == b9) && (a10 == b10)))))))))) else true) Try.underlying71 st_71 (by
    simp only [List.mem_cons, List.not_mem_nil, or_false]
    rintro f (rfl | rfl)
    · exact ⟨by decide, (.int .u8 a0), (.int .u8 b0), part_scal ag_5 rfl, part_scal ag_5 rfl, eqIn_int Try.underlying5⟩
    · exact ⟨by decide, (.agg #[.int .i64 a1, .int .i64 a2, .int .i64 a3, .int .i64 a4, .int .i64 a5, .int .u8 a6, .int .u8 a7, .int .u8 a8, .int .u8 a9, .int .i64 a10]), (.agg #[.int .i64 b1, .int .i64 b2, .int .i64 b3, .int .i64 b4, .int .i64 b5, .int .u8 b6, .int .u8 b7, .int .u8 b8, .int .u8 b9, .int .i64 b10]), part_agg ag_69 (info_sz sz_69 (by simp)), part_agg ag_69 (info_sz sz_69 (by simp)), eqi_69 (m := m + 0) a1 b1 a2 b2 a3 b3 a4 b4 a5 b5 a6 b6 a7 b7 a8 b8 a9 b9 a10 b10⟩)
  rw [h]; simp [Bool.and_assoc]
@[go_sem] theorem eql_71 {H : AH} {u : Option TypeDesc} {x y : Operand} {kk : Value → Prop} {a0 b0 : Int} {a1 b1 : Int} {a2 b2 : Int} {a3 b3 : Int} {a4 b4 : Int} {a5 b5 : Int} {a6 b6 : Int} {a7 b7 : Int} {a8 b8 : Int} {a9 b9 : Int} {a10 b10 : Int} : bin u Try.prog H .eql 71 x y (.agg #[.int .u8 a0, .int .i64 a1, .int .i64 a2, .int .i64 a3, .int .i64 a4, .int .i64 a5, .int .u8 a6, .int .u8 a7, .int .u8 a8, .int .u8 a9, .int .i64 a10]) (.agg #[.int .u8 b0, .int .i64 b1, .int .i64 b2, .int .i64 b3, .int .i64 b4, .int .i64 b5, .int .u8 b6, .int .u8 b7, .int .u8 b8, .int .u8 b9, .int .i64 b10]) kk = (u = Try.prog.underlying 71 ∧ nv (.bool ((a0 == b0) && ((a1 == b1) && ((a2 == b2) && ((a3 == b3) && ((a4 == b4) && ((a5 == b5) && ((a6 == b6) && ((a7 == b7) && ((a8 == b8) && ((a9 == b9) && (a10 == b10)))))))))))) kk) := bin_eql_of (eqg_agg eg_71) rfl fun _ => eqi_71 (m := 9996) a0 b0 a1 b1 a2 b2 a3 b3 a4 b4 a5 b5 a6 b6 a7 b7 a8 b8 a9 b9 a10 b10
@[go_sem] theorem neq_71 {H : AH} {u : Option TypeDesc} {x y : Operand} {kk : Value → Prop} {a0 b0 : Int} {a1 b1 : Int} {a2 b2 : Int} {a3 b3 : Int} {a4 b4 : Int} {a5 b5 : Int} {a6 b6 : Int} {a7 b7 : Int} {a8 b8 : Int} {a9 b9 : Int} {a10 b10 : Int} : bin u Try.prog H .neq 71 x y (.agg #[.int .u8 a0, .int .i64 a1, .int .i64 a2, .int .i64 a3, .int .i64 a4, .int .i64 a5, .int .u8 a6, .int .u8 a7, .int .u8 a8, .int .u8 a9, .int .i64 a10]) (.agg #[.int .u8 b0, .int .i64 b1, .int .i64 b2, .int .i64 b3, .int .i64 b4, .int .i64 b5, .int .u8 b6, .int .u8 b7, .int .u8 b8, .int .u8 b9, .int .i64 b10]) kk = (u = Try.prog.underlying 71 ∧ nv (.bool (!((a0 == b0) && ((a1 == b1) && ((a2 == b2) && ((a3 == b3) && ((a4 == b4) && ((a5 == b5) && ((a6 == b6) && ((a7 == b7) && ((a8 == b8) && ((a9 == b9) && (a10 == b10))))))))))))) kk) := bin_neq_of (eqg_agg eg_71) rfl fun _ => eqi_71 (m := 9996) a0 b0 a1 b1 a2 b2 a3 b3 a4 b4 a5 b5 a6 b6 a7 b7 a8 b8 a9 b9 a10 b10
theorem eg_101 : Try.prog.eqGuardType Try.prog.depth 101 = false := by kernel_rfl
theorem st_101 : Try.prog.stoodInHeld 101 = false := by kernel_rfl
theorem eqi_101 {H : AH} {m : Nat} (a0 b0 : Int) (a1 b1 : Int) : qrun Try.prog (Op.equalIn (m + 2) 101 (.agg #[.int .u64 a0, .int .i64 a1]) (.agg #[.int .u64 b0, .int .i64 b1])) H = some ((a0 == b0) && (a1 == b1)) := by
  have h := eqIn_struct (P := Try.prog) (H := H) (m := m + 1) (xs := #[.int .u64 a0, .int .i64 a1]) (ys := #[.int .u64 b0, .int .i64 b1]) (T := fun f => if f.offset = 0 then (a0 == b0) else if f.offset = 1 then (a1 == b1) else true) Try.underlying101 st_101 (by
    simp only [List.mem_cons, List.not_mem_nil, or_false]
    rintro f (rfl | rfl)
    · exact ⟨by decide, (.int .u64 a0), (.int .u64 b0), part_scal ag_94 rfl, part_scal ag_94 rfl, eqIn_int Try.underlying94⟩
    · exact ⟨by decide, (.int .i64 a1), (.int .i64 b1), part_scal ag_3 rfl, part_scal ag_3 rfl, eqIn_int Try.underlying3⟩)
  rw [h]; simp [Bool.and_assoc]
@[go_sem] theorem eql_101 {H : AH} {u : Option TypeDesc} {x y : Operand} {kk : Value → Prop} {a0 b0 : Int} {a1 b1 : Int} : bin u Try.prog H .eql 101 x y (.agg #[.int .u64 a0, .int .i64 a1]) (.agg #[.int .u64 b0, .int .i64 b1]) kk = (u = Try.prog.underlying 101 ∧ nv (.bool ((a0 == b0) && (a1 == b1))) kk) := bin_eql_of (eqg_agg eg_101) rfl fun _ => eqi_101 (m := 9998) a0 b0 a1 b1
@[go_sem] theorem neq_101 {H : AH} {u : Option TypeDesc} {x y : Operand} {kk : Value → Prop} {a0 b0 : Int} {a1 b1 : Int} : bin u Try.prog H .neq 101 x y (.agg #[.int .u64 a0, .int .i64 a1]) (.agg #[.int .u64 b0, .int .i64 b1]) kk = (u = Try.prog.underlying 101 ∧ nv (.bool (!((a0 == b0) && (a1 == b1)))) kk) := bin_neq_of (eqg_agg eg_101) rfl fun _ => eqi_101 (m := 9998) a0 b0 a1 b1
theorem eg_102 : Try.prog.eqGuardType Try.prog.depth 102 = false := by kernel_rfl
theorem st_102 : Try.prog.stoodInHeld 102 = false := by kernel_rfl
theorem eqi_102 {H : AH} {m : Nat} (a0 b0 : Int) (a1 b1 : Int) : qrun Try.prog (Op.equalIn (m + 2) 102 (.agg #[.int .u64 a0, .int .i64 a1]) (.agg #[.int .u64 b0, .int .i64 b1])) H = some ((a0 == b0) && (a1 == b1)) := by
  have h := eqIn_struct (P := Try.prog) (H := H) (m := m + 1) (xs := #[.int .u64 a0, .int .i64 a1]) (ys := #[.int .u64 b0, .int .i64 b1]) (T := fun f => if f.offset = 0 then (a0 == b0) else if f.offset = 1 then (a1 == b1) else true) Try.underlying102 st_102 (by
    simp only [List.mem_cons, List.not_mem_nil, or_false]
    rintro f (rfl | rfl)
    · exact ⟨by decide, (.int .u64 a0), (.int .u64 b0), part_scal ag_94 rfl, part_scal ag_94 rfl, eqIn_int Try.underlying94⟩
    · exact ⟨by decide, (.int .i64 a1), (.int .i64 b1), part_scal ag_3 rfl, part_scal ag_3 rfl, eqIn_int Try.underlying3⟩)
  rw [h]; simp [Bool.and_assoc]
@[go_sem] theorem eql_102 {H : AH} {u : Option TypeDesc} {x y : Operand} {kk : Value → Prop} {a0 b0 : Int} {a1 b1 : Int} : bin u Try.prog H .eql 102 x y (.agg #[.int .u64 a0, .int .i64 a1]) (.agg #[.int .u64 b0, .int .i64 b1]) kk = (u = Try.prog.underlying 102 ∧ nv (.bool ((a0 == b0) && (a1 == b1))) kk) := bin_eql_of (eqg_agg eg_102) rfl fun _ => eqi_102 (m := 9998) a0 b0 a1 b1
@[go_sem] theorem neq_102 {H : AH} {u : Option TypeDesc} {x y : Operand} {kk : Value → Prop} {a0 b0 : Int} {a1 b1 : Int} : bin u Try.prog H .neq 102 x y (.agg #[.int .u64 a0, .int .i64 a1]) (.agg #[.int .u64 b0, .int .i64 b1]) kk = (u = Try.prog.underlying 102 ∧ nv (.bool (!((a0 == b0) && (a1 == b1)))) kk) := bin_neq_of (eqg_agg eg_102) rfl fun _ => eqi_102 (m := 9998) a0 b0 a1 b1
theorem eg_107 : Try.prog.eqGuardType Try.prog.depth 107 = false := by kernel_rfl
theorem eqi_107 {H : AH} {m : Nat} (a0 b0 : Int) (a1 b1 : Int) (a2 b2 : Int) (a3 b3 : Int) (a4 b4 : Int) (a5 b5 : Int) (a6 b6 : Int) (a7 b7 : Int) : qrun Try.prog (Op.equalIn (m + 2) 107 (.agg #[.int .u8 a0, .int .u8 a1, .int .u8 a2, .int .u8 a3, .int .u8 a4, .int .u8 a5, .int .u8 a6, .int .u8 a7]) (.agg #[.int .u8 b0, .int .u8 b1, .int .u8 b2, .int .u8 b3, .int .u8 b4, .int .u8 b5, .int .u8 b6, .int .u8 b7])) H = some ((a0 == b0) && ((a1 == b1) && ((a2 == b2) && ((a3 == b3) && ((a4 == b4) && ((a5 == b5) && ((a6 == b6) && (a7 == b7)))))))) := by
  have h := eqIn_array (P := Try.prog) (H := H) (m := m + 1) (xs := #[.int .u8 a0, .int .u8 a1, .int .u8 a2, .int .u8 a3, .int .u8 a4, .int .u8 a5, .int .u8 a6, .int .u8 a7]) (ys := #[.int .u8 b0, .int .u8 b1, .int .u8 b2, .int .u8 b3, .int .u8 b4, .int .u8 b5, .int .u8 b6, .int .u8 b7]) (T := fun i => ([(a0 == b0), (a1 == b1), (a2 == b2), (a3 == b3), (a4 == b4), (a5 == b5), (a6 == b6), (a7 == b7)] : List Bool).getD i false) Try.underlying107 (info_sz sz_5 (by simp)) (fun i hi => by
    match i, hi with
    | 0, _ => exact ⟨(.int .u8 a0), (.int .u8 b0), part_scal ag_5 rfl, part_scal ag_5 rfl, eqIn_int Try.underlying5⟩
    | 1, _ => exact ⟨(.int .u8 a1), (.int .u8 b1), part_scal ag_5 rfl, part_scal ag_5 rfl, eqIn_int Try.underlying5⟩
    | 2, _ => exact ⟨(.int .u8 a2), (.int .u8 b2), part_scal ag_5 rfl, part_scal ag_5 rfl, eqIn_int Try.underlying5⟩
    | 3, _ => exact ⟨(.int .u8 a3), (.int .u8 b3), part_scal ag_5 rfl, part_scal ag_5 rfl, eqIn_int Try.underlying5⟩
    | 4, _ => exact ⟨(.int .u8 a4), (.int .u8 b4), part_scal ag_5 rfl, part_scal ag_5 rfl, eqIn_int Try.underlying5⟩
    | 5, _ => exact ⟨(.int .u8 a5), (.int .u8 b5), part_scal ag_5 rfl, part_scal ag_5 rfl, eqIn_int Try.underlying5⟩
    | 6, _ => exact ⟨(.int .u8 a6), (.int .u8 b6), part_scal ag_5 rfl, part_scal ag_5 rfl, eqIn_int Try.underlying5⟩
    | 7, _ => exact ⟨(.int .u8 a7), (.int .u8 b7), part_scal ag_5 rfl, part_scal ag_5 rfl, eqIn_int Try.underlying5⟩
    | _ + 8, hi => omega)
  rw [h]; simp [List.range_succ, Bool.and_assoc]
@[go_sem] theorem eql_107 {H : AH} {u : Option TypeDesc} {x y : Operand} {kk : Value → Prop} {a0 b0 : Int} {a1 b1 : Int} {a2 b2 : Int} {a3 b3 : Int} {a4 b4 : Int} {a5 b5 : Int} {a6 b6 : Int} {a7 b7 : Int} : bin u Try.prog H .eql 107 x y (.agg #[.int .u8 a0, .int .u8 a1, .int .u8 a2, .int .u8 a3, .int .u8 a4, .int .u8 a5, .int .u8 a6, .int .u8 a7]) (.agg #[.int .u8 b0, .int .u8 b1, .int .u8 b2, .int .u8 b3, .int .u8 b4, .int .u8 b5, .int .u8 b6, .int .u8 b7]) kk = (u = Try.prog.underlying 107 ∧ nv (.bool ((a0 == b0) && ((a1 == b1) && ((a2 == b2) && ((a3 == b3) && ((a4 == b4) && ((a5 == b5) && ((a6 == b6) && (a7 == b7))))))))) kk) := bin_eql_of (eqg_agg eg_107) rfl fun _ => eqi_107 (m := 9998) a0 b0 a1 b1 a2 b2 a3 b3 a4 b4 a5 b5 a6 b6 a7 b7
@[go_sem] theorem neq_107 {H : AH} {u : Option TypeDesc} {x y : Operand} {kk : Value → Prop} {a0 b0 : Int} {a1 b1 : Int} {a2 b2 : Int} {a3 b3 : Int} {a4 b4 : Int} {a5 b5 : Int} {a6 b6 : Int} {a7 b7 : Int} : bin u Try.prog H .neq 107 x y (.agg #[.int .u8 a0, .int .u8 a1, .int .u8 a2, .int .u8 a3, .int .u8 a4, .int .u8 a5, .int .u8 a6, .int .u8 a7]) (.agg #[.int .u8 b0, .int .u8 b1, .int .u8 b2, .int .u8 b3, .int .u8 b4, .int .u8 b5, .int .u8 b6, .int .u8 b7]) kk = (u = Try.prog.underlying 107 ∧ nv (.bool (!((a0 == b0) && ((a1 == b1) && ((a2 == b2) && ((a3 == b3) && ((a4 == b4) && ((a5 == b5) && ((a6 == b6) && (a7 == b7)))))))))) kk) := bin_neq_of (eqg_agg eg_107) rfl fun _ => eqi_107 (m := 9998) a0 b0 a1 b1 a2 b2 a3 b3 a4 b4 a5 b5 a6 b6 a7 b7
theorem eg_109 : Try.prog.eqGuardType Try.prog.depth 109 = false := by kernel_rfl
theorem st_109 : Try.prog.stoodInHeld 109 = false := by kernel_rfl
theorem eqi_109 {H : AH} {m : Nat} (a0 b0 : Int) (a1 b1 : Int) (a2 b2 : Int) (a3 b3 : Int) (a4 b4 : Int) (a5 b5 : Int) (a6 b6 : Int) (a7 b7 : Int) (a8 b8 : Int) (a9 b9 : Int) (a10 b10 : Int) : qrun Try.prog (Op.equalIn (m + 4) 109 (.agg #[.int .i64 a0, .int .i64 a1, .int .i64 a2, .int .i64 a3, .int .i64 a4, .int .u8 a5, .int .u8 a6, .int .u8 a7, .int .u8 a8, .int .i64 a9, .int .i64 a10]) (.agg #[.int .i64 b0, .int .i64 b1, .int .i64 b2, .int .i64 b3, .int .i64 b4, .int .u8 b5, .int .u8 b6, .int .u8 b7, .int .u8 b8, .int .i64 b9, .int .i64 b10])) H = some ((a0 == b0) && ((a1 == b1) && ((a2 == b2) && ((a3 == b3) && ((a4 == b4) && ((a5 == b5) && ((a6 == b6) && ((a7 == b7) && ((a8 == b8) && ((a9 == b9) && (a10 == b10))))))))))) := by
  have h := eqIn_struct (P := Try.prog) (H := H) (m := m + 3) (xs := #[.int .i64 a0, .int .i64 a1, .int .i64 a2, .int .i64 a3, .int .i64 a4, .int .u8 a5, .int .u8 a6, .int .u8 a7, .int .u8 a8, .int .i64 a9, .int .i64 a10]) (ys := #[.int .i64 b0, .int .i64 b1, .int .i64 b2, .int .i64 b3, .int .i64 b4, .int .u8 b5, .int .u8 b6, .int .u8 b7, .int .u8 b8, .int .i64 b9, .int .i64 b10]) (T := fun f => if f.offset = 0 then ((a0 == b0) && ((a1 == b1) && ((a2 == b2) && ((a3 == b3) && ((a4 == b4) && ((a5 == b5) && ((a6 == b6) && ((a7 == b7) && ((a8 == b8) && (a9 == b9)))))))))) else if f.offset = 10 then (a10 == b10) else true) Try.underlying109 st_109 (by
    simp only [List.mem_cons, List.not_mem_nil, or_false]
    rintro f (rfl | rfl)
    · exact ⟨by decide, (.agg #[.int .i64 a0, .int .i64 a1, .int .i64 a2, .int .i64 a3, .int .i64 a4, .int .u8 a5, .int .u8 a6, .int .u8 a7, .int .u8 a8, .int .i64 a9]), (.agg #[.int .i64 b0, .int .i64 b1, .int .i64 b2, .int .i64 b3, .int .i64 b4, .int .u8 b5, .int .u8 b6, .int .u8 b7, .int .u8 b8, .int .i64 b9]), part_agg ag_69 (info_sz sz_69 (by simp)), part_agg ag_69 (info_sz sz_69 (by simp)), eqi_69 (m := m + 0) a0 b0 a1 b1 a2 b2 a3 b3 a4 b4 a5 b5 a6 b6 a7 b7 a8 b8 a9 b9⟩
    · exact ⟨by decide, (.int .i64 a10), (.int .i64 b10), part_scal ag_3 rfl, part_scal ag_3 rfl, eqIn_int Try.underlying3⟩)
  rw [h]; simp [Bool.and_assoc]
@[go_sem] theorem eql_109 {H : AH} {u : Option TypeDesc} {x y : Operand} {kk : Value → Prop} {a0 b0 : Int} {a1 b1 : Int} {a2 b2 : Int} {a3 b3 : Int} {a4 b4 : Int} {a5 b5 : Int} {a6 b6 : Int} {a7 b7 : Int} {a8 b8 : Int} {a9 b9 : Int} {a10 b10 : Int} : bin u Try.prog H .eql 109 x y (.agg #[.int .i64 a0, .int .i64 a1, .int .i64 a2, .int .i64 a3, .int .i64 a4, .int .u8 a5, .int .u8 a6, .int .u8 a7, .int .u8 a8, .int .i64 a9, .int .i64 a10]) (.agg #[.int .i64 b0, .int .i64 b1, .int .i64 b2, .int .i64 b3, .int .i64 b4, .int .u8 b5, .int .u8 b6, .int .u8 b7, .int .u8 b8, .int .i64 b9, .int .i64 b10]) kk = (u = Try.prog.underlying 109 ∧ nv (.bool ((a0 == b0) && ((a1 == b1) && ((a2 == b2) && ((a3 == b3) && ((a4 == b4) && ((a5 == b5) && ((a6 == b6) && ((a7 == b7) && ((a8 == b8) && ((a9 == b9) && (a10 == b10)))))))))))) kk) := bin_eql_of (eqg_agg eg_109) rfl fun _ => eqi_109 (m := 9996) a0 b0 a1 b1 a2 b2 a3 b3 a4 b4 a5 b5 a6 b6 a7 b7 a8 b8 a9 b9 a10 b10
@[go_sem] theorem neq_109 {H : AH} {u : Option TypeDesc} {x y : Operand} {kk : Value → Prop} {a0 b0 : Int} {a1 b1 : Int} {a2 b2 : Int} {a3 b3 : Int} {a4 b4 : Int} {a5 b5 : Int} {a6 b6 : Int} {a7 b7 : Int} {a8 b8 : Int} {a9 b9 : Int} {a10 b10 : Int} : bin u Try.prog H .neq 109 x y (.agg #[.int .i64 a0, .int .i64 a1, .int .i64 a2, .int .i64 a3, .int .i64 a4, .int .u8 a5, .int .u8 a6, .int .u8 a7, .int .u8 a8, .int .i64 a9, .int .i64 a10]) (.agg #[.int .i64 b0, .int .i64 b1, .int .i64 b2, .int .i64 b3, .int .i64 b4, .int .u8 b5, .int .u8 b6, .int .u8 b7, .int .u8 b8, .int .i64 b9, .int .i64 b10]) kk = (u = Try.prog.underlying 109 ∧ nv (.bool (!((a0 == b0) && ((a1 == b1) && ((a2 == b2) && ((a3 == b3) && ((a4 == b4) && ((a5 == b5) && ((a6 == b6) && ((a7 == b7) && ((a8 == b8) && ((a9 == b9) && (a10 == b10))))))))))))) kk) := bin_neq_of (eqg_agg eg_109) rfl fun _ => eqi_109 (m := 9996) a0 b0 a1 b1 a2 b2 a3 b3 a4 b4 a5 b5 a6 b6 a7 b7 a8 b8 a9 b9 a10 b10
theorem eg_110 : Try.prog.eqGuardType Try.prog.depth 110 = false := by kernel_rfl
theorem st_110 : Try.prog.stoodInHeld 110 = false := by kernel_rfl
theorem eqi_110 {H : AH} {m : Nat} (a0 b0 : Int) (a1 b1 : Int) (a2 b2 : Int) (a3 b3 : Int) (a4 b4 : Int) (a5 b5 : Int) (a6 b6 : Int) (a7 b7 : Int) (a8 b8 : Int) (a9 b9 : Int) (a10 b10 : Int) : qrun Try.prog (Op.equalIn (m + 4) 110 (.agg #[.int .i64 a0, .int .i64 a1, .int .i64 a2, .int .i64 a3, .int .i64 a4, .int .u8 a5, .int .u8 a6, .int .u8 a7, .int .u8 a8, .int .i64 a9, .int .i64 a10]) (.agg #[.int .i64 b0, .int .i64 b1, .int .i64 b2, .int .i64 b3, .int .i64 b4, .int .u8 b5, .int .u8 b6, .int .u8 b7, .int .u8 b8, .int .i64 b9, .int .i64 b10])) H = some ((a0 == b0) && ((a1 == b1) && ((a2 == b2) && ((a3 == b3) && ((a4 == b4) && ((a5 == b5) && ((a6 == b6) && ((a7 == b7) && ((a8 == b8) && ((a9 == b9) && (a10 == b10))))))))))) := by
  have h := eqIn_struct (P := Try.prog) (H := H) (m := m + 3) (xs := #[.int .i64 a0, .int .i64 a1, .int .i64 a2, .int .i64 a3, .int .i64 a4, .int .u8 a5, .int .u8 a6, .int .u8 a7, .int .u8 a8, .int .i64 a9, .int .i64 a10]) (ys := #[.int .i64 b0, .int .i64 b1, .int .i64 b2, .int .i64 b3, .int .i64 b4, .int .u8 b5, .int .u8 b6, .int .u8 b7, .int .u8 b8, .int .i64 b9, .int .i64 b10]) (T := fun f => if f.offset = 0 then ((a0 == b0) && ((a1 == b1) && ((a2 == b2) && ((a3 == b3) && ((a4 == b4) && ((a5 == b5) && ((a6 == b6) && ((a7 == b7) && ((a8 == b8) && (a9 == b9)))))))))) else if f.offset = 10 then (a10 == b10) else true) Try.underlying110 st_110 (by
    simp only [List.mem_cons, List.not_mem_nil, or_false]
    rintro f (rfl | rfl)
    · exact ⟨by decide, (.agg #[.int .i64 a0, .int .i64 a1, .int .i64 a2, .int .i64 a3, .int .i64 a4, .int .u8 a5, .int .u8 a6, .int .u8 a7, .int .u8 a8, .int .i64 a9]), (.agg #[.int .i64 b0, .int .i64 b1, .int .i64 b2, .int .i64 b3, .int .i64 b4, .int .u8 b5, .int .u8 b6, .int .u8 b7, .int .u8 b8, .int .i64 b9]), part_agg ag_69 (info_sz sz_69 (by simp)), part_agg ag_69 (info_sz sz_69 (by simp)), eqi_69 (m := m + 0) a0 b0 a1 b1 a2 b2 a3 b3 a4 b4 a5 b5 a6 b6 a7 b7 a8 b8 a9 b9⟩
    · exact ⟨by decide, (.int .i64 a10), (.int .i64 b10), part_scal ag_3 rfl, part_scal ag_3 rfl, eqIn_int Try.underlying3⟩)
  rw [h]; simp [Bool.and_assoc]
@[go_sem] theorem eql_110 {H : AH} {u : Option TypeDesc} {x y : Operand} {kk : Value → Prop} {a0 b0 : Int} {a1 b1 : Int} {a2 b2 : Int} {a3 b3 : Int} {a4 b4 : Int} {a5 b5 : Int} {a6 b6 : Int} {a7 b7 : Int} {a8 b8 : Int} {a9 b9 : Int} {a10 b10 : Int} : bin u Try.prog H .eql 110 x y (.agg #[.int .i64 a0, .int .i64 a1, .int .i64 a2, .int .i64 a3, .int .i64 a4, .int .u8 a5, .int .u8 a6, .int .u8 a7, .int .u8 a8, .int .i64 a9, .int .i64 a10]) (.agg #[.int .i64 b0, .int .i64 b1, .int .i64 b2, .int .i64 b3, .int .i64 b4, .int .u8 b5, .int .u8 b6, .int .u8 b7, .int .u8 b8, .int .i64 b9, .int .i64 b10]) kk = (u = Try.prog.underlying 110 ∧ nv (.bool ((a0 == b0) && ((a1 == b1) && ((a2 == b2) && ((a3 == b3) && ((a4 == b4) && ((a5 == b5) && ((a6 == b6) && ((a7 == b7) && ((a8 == b8) && ((a9 == b9) && (a10 == b10)))))))))))) kk) := bin_eql_of (eqg_agg eg_110) rfl fun _ => eqi_110 (m := 9996) a0 b0 a1 b1 a2 b2 a3 b3 a4 b4 a5 b5 a6 b6 a7 b7 a8 b8 a9 b9 a10 b10
@[go_sem] theorem neq_110 {H : AH} {u : Option TypeDesc} {x y : Operand} {kk : Value → Prop} {a0 b0 : Int} {a1 b1 : Int} {a2 b2 : Int} {a3 b3 : Int} {a4 b4 : Int} {a5 b5 : Int} {a6 b6 : Int} {a7 b7 : Int} {a8 b8 : Int} {a9 b9 : Int} {a10 b10 : Int} : bin u Try.prog H .neq 110 x y (.agg #[.int .i64 a0, .int .i64 a1, .int .i64 a2, .int .i64 a3, .int .i64 a4, .int .u8 a5, .int .u8 a6, .int .u8 a7, .int .u8 a8, .int .i64 a9, .int .i64 a10]) (.agg #[.int .i64 b0, .int .i64 b1, .int .i64 b2, .int .i64 b3, .int .i64 b4, .int .u8 b5, .int .u8 b6, .int .u8 b7, .int .u8 b8, .int .i64 b9, .int .i64 b10]) kk = (u = Try.prog.underlying 110 ∧ nv (.bool (!((a0 == b0) && ((a1 == b1) && ((a2 == b2) && ((a3 == b3) && ((a4 == b4) && ((a5 == b5) && ((a6 == b6) && ((a7 == b7) && ((a8 == b8) && ((a9 == b9) && (a10 == b10))))))))))))) kk) := bin_neq_of (eqg_agg eg_110) rfl fun _ => eqi_110 (m := 9996) a0 b0 a1 b1 a2 b2 a3 b3 a4 b4 a5 b5 a6 b6 a7 b7 a8 b8 a9 b9 a10 b10
theorem eg_115 : Try.prog.eqGuardType Try.prog.depth 115 = false := by kernel_rfl
theorem st_115 : Try.prog.stoodInHeld 115 = false := by kernel_rfl
theorem eqi_115 {H : AH} {m : Nat} (a0 b0 : Int) (a1 b1 : Int) : qrun Try.prog (Op.equalIn (m + 2) 115 (.agg #[.int .i64 a0, .int .i64 a1]) (.agg #[.int .i64 b0, .int .i64 b1])) H = some ((a0 == b0) && (a1 == b1)) := by
  have h := eqIn_struct (P := Try.prog) (H := H) (m := m + 1) (xs := #[.int .i64 a0, .int .i64 a1]) (ys := #[.int .i64 b0, .int .i64 b1]) (T := fun f => if f.offset = 0 then (a0 == b0) else if f.offset = 1 then (a1 == b1) else true) Try.underlying115 st_115 (by
    simp only [List.mem_cons, List.not_mem_nil, or_false]
    rintro f (rfl | rfl)
    · exact ⟨by decide, (.int .i64 a0), (.int .i64 b0), part_scal ag_3 rfl, part_scal ag_3 rfl, eqIn_int Try.underlying3⟩
    · exact ⟨by decide, (.int .i64 a1), (.int .i64 b1), part_scal ag_3 rfl, part_scal ag_3 rfl, eqIn_int Try.underlying3⟩)
  rw [h]; simp [Bool.and_assoc]
@[go_sem] theorem eql_115 {H : AH} {u : Option TypeDesc} {x y : Operand} {kk : Value → Prop} {a0 b0 : Int} {a1 b1 : Int} : bin u Try.prog H .eql 115 x y (.agg #[.int .i64 a0, .int .i64 a1]) (.agg #[.int .i64 b0, .int .i64 b1]) kk = (u = Try.prog.underlying 115 ∧ nv (.bool ((a0 == b0) && (a1 == b1))) kk) := bin_eql_of (eqg_agg eg_115) rfl fun _ => eqi_115 (m := 9998) a0 b0 a1 b1
@[go_sem] theorem neq_115 {H : AH} {u : Option TypeDesc} {x y : Operand} {kk : Value → Prop} {a0 b0 : Int} {a1 b1 : Int} : bin u Try.prog H .neq 115 x y (.agg #[.int .i64 a0, .int .i64 a1]) (.agg #[.int .i64 b0, .int .i64 b1]) kk = (u = Try.prog.underlying 115 ∧ nv (.bool (!((a0 == b0) && (a1 == b1)))) kk) := bin_neq_of (eqg_agg eg_115) rfl fun _ => eqi_115 (m := 9998) a0 b0 a1 b1
theorem eg_116 : Try.prog.eqGuardType Try.prog.depth 116 = false := by kernel_rfl
theorem st_116 : Try.prog.stoodInHeld 116 = false := by kernel_rfl
theorem eqi_116 {H : AH} {m : Nat} (a0 b0 : Int) (a1 b1 : Int) : qrun Try.prog (Op.equalIn (m + 2) 116 (.agg #[.int .i64 a0, .int .i64 a1]) (.agg #[.int .i64 b0, .int .i64 b1])) H = some ((a0 == b0) && (a1 == b1)) := by
  have h := eqIn_struct (P := Try.prog) (H := H) (m := m + 1) (xs := #[.int .i64 a0, .int .i64 a1]) (ys := #[.int .i64 b0, .int .i64 b1]) (T := fun f => if f.offset = 0 then (a0 == b0) else if f.offset = 1 then (a1 == b1) else true) Try.underlying116 st_116 (by
    simp only [List.mem_cons, List.not_mem_nil, or_false]
    rintro f (rfl | rfl)
    · exact ⟨by decide, (.int .i64 a0), (.int .i64 b0), part_scal ag_3 rfl, part_scal ag_3 rfl, eqIn_int Try.underlying3⟩
    · exact ⟨by decide, (.int .i64 a1), (.int .i64 b1), part_scal ag_3 rfl, part_scal ag_3 rfl, eqIn_int Try.underlying3⟩)
  rw [h]; simp [Bool.and_assoc]
@[go_sem] theorem eql_116 {H : AH} {u : Option TypeDesc} {x y : Operand} {kk : Value → Prop} {a0 b0 : Int} {a1 b1 : Int} : bin u Try.prog H .eql 116 x y (.agg #[.int .i64 a0, .int .i64 a1]) (.agg #[.int .i64 b0, .int .i64 b1]) kk = (u = Try.prog.underlying 116 ∧ nv (.bool ((a0 == b0) && (a1 == b1))) kk) := bin_eql_of (eqg_agg eg_116) rfl fun _ => eqi_116 (m := 9998) a0 b0 a1 b1
@[go_sem] theorem neq_116 {H : AH} {u : Option TypeDesc} {x y : Operand} {kk : Value → Prop} {a0 b0 : Int} {a1 b1 : Int} : bin u Try.prog H .neq 116 x y (.agg #[.int .i64 a0, .int .i64 a1]) (.agg #[.int .i64 b0, .int .i64 b1]) kk = (u = Try.prog.underlying 116 ∧ nv (.bool (!((a0 == b0) && (a1 == b1)))) kk) := bin_neq_of (eqg_agg eg_116) rfl fun _ => eqi_116 (m := 9998) a0 b0 a1 b1
@[go_sem] theorem ok_2 : fnOk Try.prog 2 = true := by kernel_rfl
@[go_sem] theorem ok_3 : fnOk Try.prog 3 = true := by kernel_rfl
@[go_sem] theorem ok_4 : fnOk Try.prog 4 = true := by kernel_rfl
@[go_sem] theorem ok_5 : fnOk Try.prog 5 = true := by kernel_rfl
@[go_sem] theorem ok_6 : fnOk Try.prog 6 = true := by kernel_rfl
@[go_sem] theorem ok_7 : fnOk Try.prog 7 = true := by kernel_rfl
@[go_sem] theorem ok_8 : fnOk Try.prog 8 = true := by kernel_rfl
@[go_sem] theorem ok_9 : fnOk Try.prog 9 = true := by kernel_rfl
@[go_sem] theorem ok_10 : fnOk Try.prog 10 = true := by kernel_rfl
@[go_sem] theorem ok_11 : fnOk Try.prog 11 = true := by kernel_rfl
@[go_sem] theorem ok_12 : fnOk Try.prog 12 = true := by kernel_rfl
@[go_sem] theorem ok_13 : fnOk Try.prog 13 = true := by kernel_rfl
@[go_sem] theorem ok_14 : fnOk Try.prog 14 = true := by kernel_rfl
@[go_sem] theorem ok_15 : fnOk Try.prog 15 = true := by kernel_rfl
@[go_sem] theorem ok_16 : fnOk Try.prog 16 = true := by kernel_rfl
@[go_sem] theorem ok_17 : fnOk Try.prog 17 = true := by kernel_rfl
@[go_sem] theorem ok_18 : fnOk Try.prog 18 = true := by kernel_rfl
@[go_sem] theorem ok_19 : fnOk Try.prog 19 = true := by kernel_rfl
@[go_sem] theorem ok_20 : fnOk Try.prog 20 = true := by kernel_rfl
@[go_sem] theorem ok_21 : fnOk Try.prog 21 = true := by kernel_rfl
@[go_sem] theorem ok_22 : fnOk Try.prog 22 = true := by kernel_rfl
@[go_sem] theorem ok_23 : fnOk Try.prog 23 = true := by kernel_rfl
@[go_sem] theorem ok_24 : fnOk Try.prog 24 = true := by kernel_rfl
@[go_sem] theorem ok_25 : fnOk Try.prog 25 = true := by kernel_rfl
@[go_sem] theorem ok_26 : fnOk Try.prog 26 = true := by kernel_rfl
@[go_sem] theorem ok_27 : fnOk Try.prog 27 = true := by kernel_rfl
@[go_sem] theorem ok_28 : fnOk Try.prog 28 = true := by kernel_rfl
@[go_sem] theorem ok_29 : fnOk Try.prog 29 = true := by kernel_rfl
@[go_sem] theorem ok_30 : fnOk Try.prog 30 = true := by kernel_rfl
@[go_sem] theorem ok_31 : fnOk Try.prog 31 = true := by kernel_rfl
@[go_sem] theorem ok_32 : fnOk Try.prog 32 = true := by kernel_rfl
@[go_sem] theorem ok_33 : fnOk Try.prog 33 = true := by kernel_rfl
@[go_sem] theorem ok_34 : fnOk Try.prog 34 = true := by kernel_rfl
@[go_sem] theorem ok_35 : fnOk Try.prog 35 = true := by kernel_rfl
@[go_sem] theorem ok_36 : fnOk Try.prog 36 = true := by kernel_rfl
@[go_sem] theorem ok_37 : fnOk Try.prog 37 = true := by kernel_rfl
@[go_sem] theorem ok_38 : fnOk Try.prog 38 = true := by kernel_rfl
@[go_sem] theorem ok_39 : fnOk Try.prog 39 = true := by kernel_rfl
@[go_sem] theorem ok_40 : fnOk Try.prog 40 = true := by kernel_rfl
@[go_sem] theorem ok_41 : fnOk Try.prog 41 = true := by kernel_rfl
@[go_sem] theorem ok_42 : fnOk Try.prog 42 = true := by kernel_rfl
@[go_sem] theorem ok_43 : fnOk Try.prog 43 = true := by kernel_rfl
@[go_sem] theorem ok_44 : fnOk Try.prog 44 = true := by kernel_rfl
@[go_sem] theorem ok_45 : fnOk Try.prog 45 = true := by kernel_rfl
@[go_sem] theorem ok_46 : fnOk Try.prog 46 = true := by kernel_rfl
@[go_sem] theorem ok_47 : fnOk Try.prog 47 = true := by kernel_rfl
@[go_sem] theorem ok_48 : fnOk Try.prog 48 = true := by kernel_rfl
@[go_sem] theorem ok_49 : fnOk Try.prog 49 = true := by kernel_rfl
@[go_sem] theorem ok_50 : fnOk Try.prog 50 = true := by kernel_rfl
@[go_sem] theorem ok_51 : fnOk Try.prog 51 = true := by kernel_rfl
@[go_sem] theorem ok_52 : fnOk Try.prog 52 = true := by kernel_rfl
@[go_sem] theorem ok_53 : fnOk Try.prog 53 = true := by kernel_rfl
@[go_sem] theorem ok_54 : fnOk Try.prog 54 = true := by kernel_rfl
@[go_sem] theorem ok_55 : fnOk Try.prog 55 = true := by kernel_rfl
@[go_sem] theorem ok_56 : fnOk Try.prog 56 = true := by kernel_rfl
@[go_sem] theorem ok_57 : fnOk Try.prog 57 = true := by kernel_rfl
@[go_sem] theorem ok_58 : fnOk Try.prog 58 = true := by kernel_rfl
@[go_sem] theorem ok_59 : fnOk Try.prog 59 = true := by kernel_rfl
@[go_sem] theorem ok_60 : fnOk Try.prog 60 = true := by kernel_rfl
@[go_sem] theorem ok_61 : fnOk Try.prog 61 = true := by kernel_rfl
@[go_sem] theorem ok_62 : fnOk Try.prog 62 = true := by kernel_rfl
@[go_sem] theorem ok_63 : fnOk Try.prog 63 = true := by kernel_rfl
@[go_sem] theorem ok_64 : fnOk Try.prog 64 = true := by kernel_rfl
@[go_sem] theorem ok_65 : fnOk Try.prog 65 = true := by kernel_rfl
@[go_sem] theorem ok_66 : fnOk Try.prog 66 = true := by kernel_rfl
@[go_sem] theorem ok_67 : fnOk Try.prog 67 = true := by kernel_rfl
@[go_sem] theorem ok_68 : fnOk Try.prog 68 = true := by kernel_rfl
@[go_sem] theorem ok_69 : fnOk Try.prog 69 = true := by kernel_rfl
@[go_sem] theorem ok_70 : fnOk Try.prog 70 = true := by kernel_rfl
@[go_sem] theorem ok_71 : fnOk Try.prog 71 = true := by kernel_rfl
@[go_sem] theorem ok_72 : fnOk Try.prog 72 = true := by kernel_rfl
@[go_sem] theorem ok_73 : fnOk Try.prog 73 = true := by kernel_rfl
@[go_sem] theorem ok_74 : fnOk Try.prog 74 = true := by kernel_rfl
@[go_sem] theorem ok_75 : fnOk Try.prog 75 = true := by kernel_rfl
@[go_sem] theorem ok_76 : fnOk Try.prog 76 = true := by kernel_rfl
theorem mixed : Try.prog.follows .mixedOrders = true := by kernel_rfl
attribute [go_sem] Try.underlying0 Try.underlying1 Try.underlying2 Try.underlying3 Try.underlying4 Try.underlying5 Try.underlying6 Try.underlying7 Try.underlying8 Try.underlying9 Try.underlying10 Try.underlying11 Try.underlying12 Try.underlying13 Try.underlying14 Try.underlying15
attribute [go_sem] Try.underlying16 Try.underlying17 Try.underlying18 Try.underlying19 Try.underlying20 Try.underlying21 Try.underlying22 Try.underlying23 Try.underlying24 Try.underlying25 Try.underlying26 Try.underlying27 Try.underlying28 Try.underlying29 Try.underlying30 Try.underlying31
attribute [go_sem] Try.underlying32 Try.underlying33 Try.underlying34 Try.underlying35 Try.underlying36 Try.underlying37 Try.underlying38 Try.underlying39 Try.underlying40 Try.underlying41 Try.underlying42 Try.underlying43 Try.underlying44 Try.underlying45 Try.underlying46 Try.underlying47
attribute [go_sem] Try.underlying48 Try.underlying49 Try.underlying50 Try.underlying51 Try.underlying52 Try.underlying53 Try.underlying54 Try.underlying55 Try.underlying56 Try.underlying57 Try.underlying58 Try.underlying59 Try.underlying60 Try.underlying61 Try.underlying62 Try.underlying63
attribute [go_sem] Try.underlying64 Try.underlying65 Try.underlying66 Try.underlying67 Try.underlying68 Try.underlying69 Try.underlying70 Try.underlying71 Try.underlying72 Try.underlying73 Try.underlying74 Try.underlying75 Try.underlying76 Try.underlying77 Try.underlying78 Try.underlying79
attribute [go_sem] Try.underlying80 Try.underlying81 Try.underlying82 Try.underlying83 Try.underlying84 Try.underlying85 Try.underlying86 Try.underlying87 Try.underlying88 Try.underlying89 Try.underlying90 Try.underlying91 Try.underlying92 Try.underlying93 Try.underlying94 Try.underlying95
attribute [go_sem] Try.underlying96 Try.underlying97 Try.underlying98 Try.underlying99 Try.underlying100 Try.underlying101 Try.underlying102 Try.underlying103 Try.underlying104 Try.underlying105 Try.underlying106 Try.underlying107 Try.underlying108 Try.underlying109 Try.underlying110 Try.underlying111
attribute [go_sem] Try.underlying112 Try.underlying113 Try.underlying114 Try.underlying115 Try.underlying116 Try.underlying117 Try.underlying118 Try.underlying119 Try.underlying120 Try.underlying121 Try.underlying122 Try.underlying123 Try.underlying124 Try.underlying125 Try.underlying126 Try.underlying127
attribute [go_sem] Try.underlying128 Try.underlying129 Try.underlying130 Try.underlying131 Try.underlying132 Try.underlying133 Try.underlying134 Try.underlying135 Try.underlying136 Try.underlying137 Try.underlying138
attribute [go_sem] Try.ntmps0 Try.results0 Try.ntmps1 Try.results1 Try.ntmps2 Try.results2 Try.ntmps3 Try.results3 Try.ntmps4 Try.results4 Try.ntmps5 Try.results5 Try.ntmps6 Try.results6 Try.ntmps7 Try.results7
attribute [go_sem] Try.ntmps8 Try.results8 Try.ntmps9 Try.results9 Try.ntmps10 Try.results10 Try.ntmps11 Try.results11 Try.ntmps12 Try.results12 Try.ntmps13 Try.results13 Try.ntmps14 Try.results14 Try.ntmps15 Try.results15
attribute [go_sem] Try.ntmps16 Try.results16 Try.ntmps17 Try.results17 Try.ntmps18 Try.results18 Try.ntmps19 Try.results19 Try.ntmps20 Try.results20 Try.ntmps21 Try.results21 Try.ntmps22 Try.results22 Try.ntmps23 Try.results23
attribute [go_sem] Try.ntmps24 Try.results24 Try.ntmps25 Try.results25 Try.ntmps26 Try.results26 Try.ntmps27 Try.results27 Try.ntmps28 Try.results28 Try.ntmps29 Try.results29 Try.ntmps30 Try.results30 Try.ntmps31 Try.results31
attribute [go_sem] Try.ntmps32 Try.results32 Try.ntmps33 Try.results33 Try.ntmps34 Try.results34 Try.ntmps35 Try.results35 Try.ntmps36 Try.results36 Try.ntmps37 Try.results37 Try.ntmps38 Try.results38 Try.ntmps39 Try.results39
attribute [go_sem] Try.ntmps40 Try.results40 Try.ntmps41 Try.results41 Try.ntmps42 Try.results42 Try.ntmps43 Try.results43 Try.ntmps44 Try.results44 Try.ntmps45 Try.results45 Try.ntmps46 Try.results46 Try.ntmps47 Try.results47
attribute [go_sem] Try.ntmps48 Try.results48 Try.ntmps49 Try.results49 Try.ntmps50 Try.results50 Try.ntmps51 Try.results51 Try.ntmps52 Try.results52 Try.ntmps53 Try.results53 Try.ntmps54 Try.results54 Try.ntmps55 Try.results55
attribute [go_sem] Try.ntmps56 Try.results56 Try.ntmps57 Try.results57 Try.ntmps58 Try.results58 Try.ntmps59 Try.results59 Try.ntmps60 Try.results60 Try.ntmps61 Try.results61 Try.ntmps62 Try.results62 Try.ntmps63 Try.results63
attribute [go_sem] Try.ntmps64 Try.results64 Try.ntmps65 Try.results65 Try.ntmps66 Try.results66 Try.ntmps67 Try.results67 Try.ntmps68 Try.results68 Try.ntmps69 Try.results69 Try.ntmps70 Try.results70 Try.ntmps71 Try.results71
attribute [go_sem] Try.ntmps72 Try.results72 Try.ntmps73 Try.results73 Try.ntmps74 Try.results74 Try.ntmps75 Try.results75 Try.ntmps76 Try.results76 Try.ntmps77 Try.results77 Try.ntmps78 Try.results78 Try.ntmps79 Try.results79
attribute [go_sem] Try.ntmps80 Try.results80 Try.ntmps81 Try.results81 Try.ntmps82 Try.results82 Try.ntmps83 Try.results83 Try.ntmps84 Try.results84 Try.ntmps85 Try.results85 Try.ntmps86 Try.results86 Try.ntmps87 Try.results87
attribute [go_sem] Try.ntmps88 Try.results88 Try.ntmps89 Try.results89 Try.ntmps90 Try.results90 Try.ntmps91 Try.results91 Try.ntmps92 Try.results92 Try.ntmps93 Try.results93
end Go.Proofs.Ythinfokelgcipaa.Ty

/- Closed facts on the types and functions of the translation, reckoned by the kernel. Written by a program of this session. -/
import Derived.Test.YtadbmmdmibiikaaAx17
import Derived.Test.YtadbmmdmibiikaaProg
import Derived.KernelRfl
namespace Go.Proofs.Ytadbmmdmibiikaa.Ty
set_option linter.unusedSimpArgs false
set_option linter.unusedVariables false
open Go Go.AX Go.Proofs
@[go_sem ↓] theorem sz_1 : Try.prog.cellsOf 1 = 1 := by kernel_rfl
@[go_sem ↓] theorem ag_1 : isAggU (Try.prog.underlying 1) = some false := by kernel_rfl
@[go_sem ↓] theorem zr_1 : zrOf Try.prog 1 = some [.nilFunc] := by kernel_rfl
@[go_sem ↓] theorem sz_2 : Try.prog.cellsOf 2 = 1 := by kernel_rfl
@[go_sem ↓] theorem ag_2 : isAggU (Try.prog.underlying 2) = some false := by kernel_rfl
@[go_sem ↓] theorem zr_2 : zrOf Try.prog 2 = some [(.int .i64 0)] := by kernel_rfl
@[go_sem ↓] theorem sz_3 : Try.prog.cellsOf 3 = 1 := by kernel_rfl
@[go_sem ↓] theorem ag_3 : isAggU (Try.prog.underlying 3) = some false := by kernel_rfl
@[go_sem ↓] theorem zr_3 : zrOf Try.prog 3 = some [(.int .i64 0)] := by kernel_rfl
@[go_sem ↓] theorem sz_4 : Try.prog.cellsOf 4 = 1 := by kernel_rfl
@[go_sem ↓] theorem ag_4 : isAggU (Try.prog.underlying 4) = some false := by kernel_rfl
@[go_sem ↓] theorem zr_4 : zrOf Try.prog 4 = some [(.bool false)] := by kernel_rfl
@[go_sem ↓] theorem sz_5 : Try.prog.cellsOf 5 = 1 := by kernel_rfl
@[go_sem ↓] theorem ag_5 : isAggU (Try.prog.underlying 5) = some false := by kernel_rfl
@[go_sem ↓] theorem zr_5 : zrOf Try.prog 5 = some [(.int .u8 0)] := by kernel_rfl
@[go_sem ↓] theorem sz_6 : Try.prog.cellsOf 6 = 1 := by kernel_rfl
@[go_sem ↓] theorem ag_6 : isAggU (Try.prog.underlying 6) = some false := by kernel_rfl
@[go_sem ↓] theorem zr_6 : zrOf Try.prog 6 = some [(.int .u8 0)] := by kernel_rfl
@[go_sem ↓] theorem sz_7 : Try.prog.cellsOf 7 = 4 := by kernel_rfl
@[go_sem ↓] theorem ag_7 : isAggU (Try.prog.underlying 7) = some true := by kernel_rfl
@[go_sem ↓] theorem zr_7 : zrOf Try.prog 7 = some [(.int .i64 0), (.int .i64 0), (.bool false), (.int .u8 0)] := by kernel_rfl
@[go_sem ↓] theorem fo_7_0 : foOf Try.prog 7 0 = some 0 := by kernel_rfl
@[go_sem ↓] theorem pl_7_0 : plOf Try.prog 7 0 = some (0, 1) := by kernel_rfl
@[go_sem ↓] theorem fo_7_1 : foOf Try.prog 7 1 = some 1 := by kernel_rfl
@[go_sem ↓] theorem pl_7_1 : plOf Try.prog 7 1 = some (1, 1) := by kernel_rfl
@[go_sem ↓] theorem fo_7_2 : foOf Try.prog 7 2 = some 2 := by kernel_rfl
@[go_sem ↓] theorem pl_7_2 : plOf Try.prog 7 2 = some (2, 1) := by kernel_rfl
@[go_sem ↓] theorem fo_7_3 : foOf Try.prog 7 3 = some 3 := by kernel_rfl
@[go_sem ↓] theorem pl_7_3 : plOf Try.prog 7 3 = some (3, 1) := by kernel_rfl
@[go_sem ↓] theorem fl_7 : plOf1 Try.prog 7 = true := by kernel_rfl
@[go_sem ↓] theorem sz_8 : Try.prog.cellsOf 8 = 4 := by kernel_rfl
@[go_sem ↓] theorem ag_8 : isAggU (Try.prog.underlying 8) = some true := by kernel_rfl
@[go_sem ↓] theorem zr_8 : zrOf Try.prog 8 = some [(.int .i64 0), (.int .i64 0), (.bool false), (.int .u8 0)] := by kernel_rfl
@[go_sem ↓] theorem fo_8_0 : foOf Try.prog 8 0 = some 0 := by kernel_rfl
@[go_sem ↓] theorem pl_8_0 : plOf Try.prog 8 0 = some (0, 1) := by kernel_rfl
@[go_sem ↓] theorem fo_8_1 : foOf Try.prog 8 1 = some 1 := by kernel_rfl
@[go_sem ↓] theorem pl_8_1 : plOf Try.prog 8 1 = some (1, 1) := by kernel_rfl
@[go_sem ↓] theorem fo_8_2 : foOf Try.prog 8 2 = some 2 := by kernel_rfl
@[go_sem ↓] theorem pl_8_2 : plOf Try.prog 8 2 = some (2, 1) := by kernel_rfl
@[go_sem ↓] theorem fo_8_3 : foOf Try.prog 8 3 = some 3 := by kernel_rfl
@[go_sem ↓] theorem pl_8_3 : plOf Try.prog 8 3 = some (3, 1) := by kernel_rfl
@[go_sem ↓] theorem fl_8 : plOf1 Try.prog 8 = true := by kernel_rfl
@[go_sem ↓] theorem sz_9 : Try.prog.cellsOf 9 = 1 := by kernel_rfl
@[go_sem ↓] theorem ag_9 : isAggU (Try.prog.underlying 9) = some false := by kernel_rfl
@[go_sem ↓] theorem zr_9 : zrOf Try.prog 9 = some [(.string ⟨#[]⟩)] := by kernel_rfl
@[go_sem ↓] theorem sz_10 : Try.prog.cellsOf 10 = 1 := by kernel_rfl
@[go_sem ↓] theorem ag_10 : isAggU (Try.prog.underlying 10) = some false := by kernel_rfl
@[go_sem ↓] theorem zr_10 : zrOf Try.prog 10 = some [(.string ⟨#[]⟩)] := by kernel_rfl
@[go_sem ↓] theorem sz_11 : Try.prog.cellsOf 11 = 1 := by kernel_rfl
@[go_sem ↓] theorem ag_11 : isAggU (Try.prog.underlying 11) = some false := by kernel_rfl
@[go_sem ↓] theorem zr_11 : zrOf Try.prog 11 = some [(.string ⟨#[]⟩)] := by kernel_rfl
@[go_sem ↓] theorem sz_12 : Try.prog.cellsOf 12 = 1 := by kernel_rfl
@[go_sem ↓] theorem ag_12 : isAggU (Try.prog.underlying 12) = some false := by kernel_rfl
@[go_sem ↓] theorem zr_12 : zrOf Try.prog 12 = some [(.int .u64 0)] := by kernel_rfl
@[go_sem ↓] theorem sz_13 : Try.prog.cellsOf 13 = 2 := by kernel_rfl
@[go_sem ↓] theorem ag_13 : isAggU (Try.prog.underlying 13) = some true := by kernel_rfl
@[go_sem ↓] theorem zr_13 : zrOf Try.prog 13 = some [(.string ⟨#[]⟩), (.int .u64 0)] := by kernel_rfl
@[go_sem ↓] theorem fo_13_0 : foOf Try.prog 13 0 = some 0 := by kernel_rfl
@[go_sem ↓] theorem pl_13_0 : plOf Try.prog 13 0 = some (0, 1) := by kernel_rfl
@[go_sem ↓] theorem fo_13_1 : foOf Try.prog 13 1 = some 1 := by kernel_rfl
@[go_sem ↓] theorem pl_13_1 : plOf Try.prog 13 1 = some (1, 1) := by kernel_rfl
@[go_sem ↓] theorem fl_13 : plOf1 Try.prog 13 = true := by kernel_rfl
@[go_sem ↓] theorem sz_14 : Try.prog.cellsOf 14 = 2 := by kernel_rfl
@[go_sem ↓] theorem ag_14 : isAggU (Try.prog.underlying 14) = some true := by kernel_rfl
@[go_sem ↓] theorem zr_14 : zrOf Try.prog 14 = some [(.string ⟨#[]⟩), (.int .u64 0)] := by kernel_rfl
@[go_sem ↓] theorem fo_14_0 : foOf Try.prog 14 0 = some 0 := by kernel_rfl
@[go_sem ↓] theorem pl_14_0 : plOf Try.prog 14 0 = some (0, 1) := by kernel_rfl
@[go_sem ↓] theorem fo_14_1 : foOf Try.prog 14 1 = some 1 := by kernel_rfl
@[go_sem ↓] theorem pl_14_1 : plOf Try.prog 14 1 = some (1, 1) := by kernel_rfl
@[go_sem ↓] theorem fl_14 : plOf1 Try.prog 14 = true := by kernel_rfl
@[go_sem ↓] theorem sz_15 : Try.prog.cellsOf 15 = 1 := by kernel_rfl
@[go_sem ↓] theorem ag_15 : isAggU (Try.prog.underlying 15) = some false := by kernel_rfl
@[go_sem ↓] theorem zr_15 : zrOf Try.prog 15 = some [(.pointer none)] := by kernel_rfl
@[go_sem ↓] theorem sz_16 : Try.prog.cellsOf 16 = 1 := by kernel_rfl
@[go_sem ↓] theorem ag_16 : isAggU (Try.prog.underlying 16) = some false := by kernel_rfl
@[go_sem ↓] theorem zr_16 : zrOf Try.prog 16 = some [(.pointer none)] := by kernel_rfl
@[go_sem ↓] theorem sz_17 : Try.prog.cellsOf 17 = 1 := by kernel_rfl
@[go_sem ↓] theorem ag_17 : isAggU (Try.prog.underlying 17) = some false := by kernel_rfl
@[go_sem ↓] theorem zr_17 : zrOf Try.prog 17 = some [(.pointer none)] := by kernel_rfl
@[go_sem ↓] theorem sz_18 : Try.prog.cellsOf 18 = 1 := by kernel_rfl
@[go_sem ↓] theorem ag_18 : isAggU (Try.prog.underlying 18) = some true := by kernel_rfl
@[go_sem ↓] theorem zr_18 : zrOf Try.prog 18 = some [(.pointer none)] := by kernel_rfl
@[go_sem ↓] theorem fo_18_0 : foOf Try.prog 18 0 = some 0 := by kernel_rfl
@[go_sem ↓] theorem pl_18_0 : plOf Try.prog 18 0 = some (0, 1) := by kernel_rfl
@[go_sem ↓] theorem fl_18 : plOf1 Try.prog 18 = true := by kernel_rfl
@[go_sem ↓] theorem sz_19 : Try.prog.cellsOf 19 = 1 := by kernel_rfl
@[go_sem ↓] theorem ag_19 : isAggU (Try.prog.underlying 19) = some true := by kernel_rfl
@[go_sem ↓] theorem zr_19 : zrOf Try.prog 19 = some [(.pointer none)] := by kernel_rfl
@[go_sem ↓] theorem fo_19_0 : foOf Try.prog 19 0 = some 0 := by kernel_rfl
@[go_sem ↓] theorem pl_19_0 : plOf Try.prog 19 0 = some (0, 1) := by kernel_rfl
@[go_sem ↓] theorem fl_19 : plOf1 Try.prog 19 = true := by kernel_rfl
@[go_sem ↓] theorem sz_20 : Try.prog.cellsOf 20 = 1 := by kernel_rfl
@[go_sem ↓] theorem ag_20 : isAggU (Try.prog.underlying 20) = some false := by kernel_rfl
@[go_sem ↓] theorem zr_20 : zrOf Try.prog 20 = some [.nilIface] := by kernel_rfl
@[go_sem ↓] theorem sz_21 : Try.prog.cellsOf 21 = 1 := by kernel_rfl
@[go_sem ↓] theorem ag_21 : isAggU (Try.prog.underlying 21) = some false := by kernel_rfl
@[go_sem ↓] theorem zr_21 : zrOf Try.prog 21 = some [(.int .i32 0)] := by kernel_rfl
@[go_sem ↓] theorem sz_22 : Try.prog.cellsOf 22 = 1 := by kernel_rfl
@[go_sem ↓] theorem ag_22 : isAggU (Try.prog.underlying 22) = some false := by kernel_rfl
@[go_sem ↓] theorem es_22 : elSz Try.prog 22 = 1 := by kernel_rfl
@[go_sem ↓] theorem zr_22 : zrOf Try.prog 22 = some [(.slice none 0 0)] := by kernel_rfl
@[go_sem ↓] theorem sz_23 : Try.prog.cellsOf 23 = 1 := by kernel_rfl
@[go_sem ↓] theorem ag_23 : isAggU (Try.prog.underlying 23) = some false := by kernel_rfl
@[go_sem ↓] theorem es_23 : elSz Try.prog 23 = 4 := by kernel_rfl
@[go_sem ↓] theorem zr_23 : zrOf Try.prog 23 = some [(.slice none 0 0)] := by kernel_rfl
@[go_sem ↓] theorem sz_24 : Try.prog.cellsOf 24 = 2 := by kernel_rfl
@[go_sem ↓] theorem ag_24 : isAggU (Try.prog.underlying 24) = some true := by kernel_rfl
@[go_sem ↓] theorem zr_24 : zrOf Try.prog 24 = some [(.int .i64 0), (.slice none 0 0)] := by kernel_rfl
@[go_sem ↓] theorem fo_24_0 : foOf Try.prog 24 0 = some 0 := by kernel_rfl
@[go_sem ↓] theorem pl_24_0 : plOf Try.prog 24 0 = some (0, 1) := by kernel_rfl
@[go_sem ↓] theorem fo_24_1 : foOf Try.prog 24 1 = some 1 := by kernel_rfl
@[go_sem ↓] theorem pl_24_1 : plOf Try.prog 24 1 = some (1, 1) := by kernel_rfl
@[go_sem ↓] theorem fl_24 : plOf1 Try.prog 24 = true := by kernel_rfl
@[go_sem ↓] theorem sz_25 : Try.prog.cellsOf 25 = 2 := by kernel_rfl
@[go_sem ↓] theorem ag_25 : isAggU (Try.prog.underlying 25) = some true := by kernel_rfl
@[go_sem ↓] theorem zr_25 : zrOf Try.prog 25 = some [(.int .i64 0), (.slice none 0 0)] := by kernel_rfl
@[go_sem ↓] theorem fo_25_0 : foOf Try.prog 25 0 = some 0 := by kernel_rfl
@[go_sem ↓] theorem pl_25_0 : plOf Try.prog 25 0 = some (0, 1) := by kernel_rfl
@[go_sem ↓] theorem fo_25_1 : foOf Try.prog 25 1 = some 1 := by kernel_rfl
@[go_sem ↓] theorem pl_25_1 : plOf Try.prog 25 1 = some (1, 1) := by kernel_rfl
@[go_sem ↓] theorem fl_25 : plOf1 Try.prog 25 = true := by kernel_rfl
@[go_sem ↓] theorem sz_26 : Try.prog.cellsOf 26 = 1 := by kernel_rfl
@[go_sem ↓] theorem ag_26 : isAggU (Try.prog.underlying 26) = some false := by kernel_rfl
@[go_sem ↓] theorem zr_26 : zrOf Try.prog 26 = some [(.int .i64 0)] := by kernel_rfl
@[go_sem ↓] theorem sz_28 : Try.prog.cellsOf 28 = 1 := by kernel_rfl
@[go_sem ↓] theorem ag_28 : isAggU (Try.prog.underlying 28) = some false := by kernel_rfl
@[go_sem ↓] theorem zr_28 : zrOf Try.prog 28 = some [.nilFunc] := by kernel_rfl
@[go_sem ↓] theorem sz_29 : Try.prog.cellsOf 29 = 1 := by kernel_rfl
@[go_sem ↓] theorem ag_29 : isAggU (Try.prog.underlying 29) = some false := by kernel_rfl
@[go_sem ↓] theorem zr_29 : zrOf Try.prog 29 = some [.nilFunc] := by kernel_rfl
@[go_sem ↓] theorem sz_31 : Try.prog.cellsOf 31 = 1 := by kernel_rfl
@[go_sem ↓] theorem ag_31 : isAggU (Try.prog.underlying 31) = some false := by kernel_rfl
@[go_sem ↓] theorem zr_31 : zrOf Try.prog 31 = some [.nilFunc] := by kernel_rfl
@[go_sem ↓] theorem sz_33 : Try.prog.cellsOf 33 = 1 := by kernel_rfl
@[go_sem ↓] theorem ag_33 : isAggU (Try.prog.underlying 33) = some false := by kernel_rfl
@[go_sem ↓] theorem zr_33 : zrOf Try.prog 33 = some [.nilFunc] := by kernel_rfl
@[go_sem ↓] theorem sz_35 : Try.prog.cellsOf 35 = 1 := by kernel_rfl
@[go_sem ↓] theorem ag_35 : isAggU (Try.prog.underlying 35) = some false := by kernel_rfl
@[go_sem ↓] theorem zr_35 : zrOf Try.prog 35 = some [.nilFunc] := by kernel_rfl
@[go_sem ↓] theorem sz_37 : Try.prog.cellsOf 37 = 1 := by kernel_rfl
@[go_sem ↓] theorem ag_37 : isAggU (Try.prog.underlying 37) = some false := by kernel_rfl
@[go_sem ↓] theorem zr_37 : zrOf Try.prog 37 = some [.nilFunc] := by kernel_rfl
@[go_sem ↓] theorem sz_39 : Try.prog.cellsOf 39 = 1 := by kernel_rfl
@[go_sem ↓] theorem ag_39 : isAggU (Try.prog.underlying 39) = some false := by kernel_rfl
@[go_sem ↓] theorem zr_39 : zrOf Try.prog 39 = some [.nilFunc] := by kernel_rfl
@[go_sem ↓] theorem sz_40 : Try.prog.cellsOf 40 = 1 := by kernel_rfl
@[go_sem ↓] theorem ag_40 : isAggU (Try.prog.underlying 40) = some false := by kernel_rfl
@[go_sem ↓] theorem zr_40 : zrOf Try.prog 40 = some [.nilFunc] := by kernel_rfl
@[go_sem ↓] theorem sz_41 : Try.prog.cellsOf 41 = 1 := by kernel_rfl
@[go_sem ↓] theorem ag_41 : isAggU (Try.prog.underlying 41) = some false := by kernel_rfl
@[go_sem ↓] theorem zr_41 : zrOf Try.prog 41 = some [.nilFunc] := by kernel_rfl
@[go_sem ↓] theorem sz_42 : Try.prog.cellsOf 42 = 1 := by kernel_rfl
@[go_sem ↓] theorem ag_42 : isAggU (Try.prog.underlying 42) = some false := by kernel_rfl
@[go_sem ↓] theorem zr_42 : zrOf Try.prog 42 = some [.nilFunc] := by kernel_rfl
@[go_sem ↓] theorem sz_43 : Try.prog.cellsOf 43 = 1 := by kernel_rfl
@[go_sem ↓] theorem ag_43 : isAggU (Try.prog.underlying 43) = some false := by kernel_rfl
@[go_sem ↓] theorem zr_43 : zrOf Try.prog 43 = some [.nilFunc] := by kernel_rfl
@[go_sem ↓] theorem sz_44 : Try.prog.cellsOf 44 = 1 := by kernel_rfl
@[go_sem ↓] theorem ag_44 : isAggU (Try.prog.underlying 44) = some false := by kernel_rfl
@[go_sem ↓] theorem zr_44 : zrOf Try.prog 44 = some [.nilFunc] := by kernel_rfl
@[go_sem ↓] theorem sz_45 : Try.prog.cellsOf 45 = 1 := by kernel_rfl
@[go_sem ↓] theorem ag_45 : isAggU (Try.prog.underlying 45) = some false := by kernel_rfl
@[go_sem ↓] theorem es_45 : elSz Try.prog 45 = 2 := by kernel_rfl
@[go_sem ↓] theorem zr_45 : zrOf Try.prog 45 = some [(.slice none 0 0)] := by kernel_rfl
@[go_sem ↓] theorem sz_46 : Try.prog.cellsOf 46 = 1 := by kernel_rfl
@[go_sem ↓] theorem ag_46 : isAggU (Try.prog.underlying 46) = some false := by kernel_rfl
@[go_sem ↓] theorem zr_46 : zrOf Try.prog 46 = some [(.pointer none)] := by kernel_rfl
@[go_sem ↓] theorem sz_48 : Try.prog.cellsOf 48 = 1 := by kernel_rfl
@[go_sem ↓] theorem ag_48 : isAggU (Try.prog.underlying 48) = some false := by kernel_rfl
@[go_sem ↓] theorem zr_48 : zrOf Try.prog 48 = some [.nilFunc] := by kernel_rfl
@[go_sem ↓] theorem sz_49 : Try.prog.cellsOf 49 = 1 := by kernel_rfl
@[go_sem ↓] theorem ag_49 : isAggU (Try.prog.underlying 49) = some false := by kernel_rfl
@[go_sem ↓] theorem zr_49 : zrOf Try.prog 49 = some [(.pointer none)] := by kernel_rfl
@[go_sem ↓] theorem sz_51 : Try.prog.cellsOf 51 = 1 := by kernel_rfl
@[go_sem ↓] theorem ag_51 : isAggU (Try.prog.underlying 51) = some false := by kernel_rfl
@[go_sem ↓] theorem zr_51 : zrOf Try.prog 51 = some [.nilFunc] := by kernel_rfl
@[go_sem ↓] theorem sz_52 : Try.prog.cellsOf 52 = 1 := by kernel_rfl
@[go_sem ↓] theorem ag_52 : isAggU (Try.prog.underlying 52) = some false := by kernel_rfl
@[go_sem ↓] theorem es_52 : elSz Try.prog 52 = 1 := by kernel_rfl
@[go_sem ↓] theorem zr_52 : zrOf Try.prog 52 = some [(.slice none 0 0)] := by kernel_rfl
@[go_sem ↓] theorem sz_53 : Try.prog.cellsOf 53 = 1 := by kernel_rfl
@[go_sem ↓] theorem ag_53 : isAggU (Try.prog.underlying 53) = some false := by kernel_rfl
@[go_sem ↓] theorem zr_53 : zrOf Try.prog 53 = some [(.int .u32 0)] := by kernel_rfl
@[go_sem ↓] theorem sz_54 : Try.prog.cellsOf 54 = 2 := by kernel_rfl
@[go_sem ↓] theorem ag_54 : isAggU (Try.prog.underlying 54) = some true := by kernel_rfl
@[go_sem ↓] theorem zr_54 : zrOf Try.prog 54 = some [(.slice none 0 0), (.int .u32 0)] := by kernel_rfl
@[go_sem ↓] theorem fo_54_0 : foOf Try.prog 54 0 = some 0 := by kernel_rfl
@[go_sem ↓] theorem pl_54_0 : plOf Try.prog 54 0 = some (0, 1) := by kernel_rfl
@[go_sem ↓] theorem fo_54_1 : foOf Try.prog 54 1 = some 1 := by kernel_rfl
@[go_sem ↓] theorem pl_54_1 : plOf Try.prog 54 1 = some (1, 1) := by kernel_rfl
@[go_sem ↓] theorem fl_54 : plOf1 Try.prog 54 = true := by kernel_rfl
@[go_sem ↓] theorem sz_55 : Try.prog.cellsOf 55 = 2 := by kernel_rfl
@[go_sem ↓] theorem ag_55 : isAggU (Try.prog.underlying 55) = some true := by kernel_rfl
@[go_sem ↓] theorem zr_55 : zrOf Try.prog 55 = some [(.slice none 0 0), (.int .u32 0)] := by kernel_rfl
@[go_sem ↓] theorem fo_55_0 : foOf Try.prog 55 0 = some 0 := by kernel_rfl
@[go_sem ↓] theorem pl_55_0 : plOf Try.prog 55 0 = some (0, 1) := by kernel_rfl
@[go_sem ↓] theorem fo_55_1 : foOf Try.prog 55 1 = some 1 := by kernel_rfl
@[go_sem ↓] theorem pl_55_1 : plOf Try.prog 55 1 = some (1, 1) := by kernel_rfl
@[go_sem ↓] theorem fl_55 : plOf1 Try.prog 55 = true := by kernel_rfl
@[go_sem ↓] theorem sz_56 : Try.prog.cellsOf 56 = 1 := by kernel_rfl
@[go_sem ↓] theorem ag_56 : isAggU (Try.prog.underlying 56) = some false := by kernel_rfl
@[go_sem ↓] theorem zr_56 : zrOf Try.prog 56 = some [.nilFunc] := by kernel_rfl
@[go_sem ↓] theorem sz_57 : Try.prog.cellsOf 57 = 1 := by kernel_rfl
@[go_sem ↓] theorem ag_57 : isAggU (Try.prog.underlying 57) = some false := by kernel_rfl
@[go_sem ↓] theorem zr_57 : zrOf Try.prog 57 = some [(.map none)] := by kernel_rfl
@[go_sem ↓] theorem sz_58 : Try.prog.cellsOf 58 = 1 := by kernel_rfl
@[go_sem ↓] theorem ag_58 : isAggU (Try.prog.underlying 58) = some false := by kernel_rfl
@[go_sem ↓] theorem zr_58 : zrOf Try.prog 58 = some [.nilFunc] := by kernel_rfl
@[go_sem ↓] theorem sz_59 : Try.prog.cellsOf 59 = 1 := by kernel_rfl
@[go_sem ↓] theorem ag_59 : isAggU (Try.prog.underlying 59) = some false := by kernel_rfl
@[go_sem ↓] theorem es_59 : elSz Try.prog 59 = 1 := by kernel_rfl
@[go_sem ↓] theorem zr_59 : zrOf Try.prog 59 = some [(.slice none 0 0)] := by kernel_rfl
@[go_sem ↓] theorem sz_60 : Try.prog.cellsOf 60 = 2 := by kernel_rfl
@[go_sem ↓] theorem ag_60 : isAggU (Try.prog.underlying 60) = some true := by kernel_rfl
@[go_sem ↓] theorem zr_60 : zrOf Try.prog 60 = some [(.slice none 0 0), (.slice none 0 0)] := by kernel_rfl
@[go_sem ↓] theorem fo_60_0 : foOf Try.prog 60 0 = some 0 := by kernel_rfl
@[go_sem ↓] theorem pl_60_0 : plOf Try.prog 60 0 = some (0, 1) := by kernel_rfl
@[go_sem ↓] theorem fo_60_1 : foOf Try.prog 60 1 = some 1 := by kernel_rfl
@[go_sem ↓] theorem pl_60_1 : plOf Try.prog 60 1 = some (1, 1) := by kernel_rfl
@[go_sem ↓] theorem fl_60 : plOf1 Try.prog 60 = true := by kernel_rfl
@[go_sem ↓] theorem sz_61 : Try.prog.cellsOf 61 = 2 := by kernel_rfl
@[go_sem ↓] theorem ag_61 : isAggU (Try.prog.underlying 61) = some true := by kernel_rfl
@[go_sem ↓] theorem zr_61 : zrOf Try.prog 61 = some [(.slice none 0 0), (.slice none 0 0)] := by kernel_rfl
@[go_sem ↓] theorem fo_61_0 : foOf Try.prog 61 0 = some 0 := by kernel_rfl
@[go_sem ↓] theorem pl_61_0 : plOf Try.prog 61 0 = some (0, 1) := by kernel_rfl
@[go_sem ↓] theorem fo_61_1 : foOf Try.prog 61 1 = some 1 := by kernel_rfl
@[go_sem ↓] theorem pl_61_1 : plOf Try.prog 61 1 = some (1, 1) := by kernel_rfl
@[go_sem ↓] theorem fl_61 : plOf1 Try.prog 61 = true := by kernel_rfl
@[go_sem ↓] theorem sz_62 : Try.prog.cellsOf 62 = 1 := by kernel_rfl
@[go_sem ↓] theorem ag_62 : isAggU (Try.prog.underlying 62) = some false := by kernel_rfl
@[go_sem ↓] theorem zr_62 : zrOf Try.prog 62 = some [.nilFunc] := by kernel_rfl
@[go_sem ↓] theorem sz_63 : Try.prog.cellsOf 63 = 4 := by kernel_rfl
@[go_sem ↓] theorem ag_63 : isAggU (Try.prog.underlying 63) = some true := by kernel_rfl
@[go_sem ↓] theorem es_63 : elSz Try.prog 63 = 1 := by kernel_rfl
@[go_sem ↓] theorem zr_63 : zrOf Try.prog 63 = some [(.int .u8 0), (.int .u8 0), (.int .u8 0), (.int .u8 0)] := by kernel_rfl
@[go_sem ↓] theorem fl_63 : plOf1 Try.prog 63 = true := by kernel_rfl
@[go_sem ↓] theorem pl_63_0 : plOf Try.prog 63 0 = some (0, 1) := by kernel_rfl
@[go_sem ↓] theorem pl_63_1 : plOf Try.prog 63 1 = some (1, 1) := by kernel_rfl
@[go_sem ↓] theorem pl_63_2 : plOf Try.prog 63 2 = some (2, 1) := by kernel_rfl
@[go_sem ↓] theorem pl_63_3 : plOf Try.prog 63 3 = some (3, 1) := by kernel_rfl
@[go_sem ↓] theorem sz_64 : Try.prog.cellsOf 64 = 4 := by kernel_rfl
@[go_sem ↓] theorem ag_64 : isAggU (Try.prog.underlying 64) = some true := by kernel_rfl
@[go_sem ↓] theorem es_64 : elSz Try.prog 64 = 1 := by kernel_rfl
@[go_sem ↓] theorem zr_64 : zrOf Try.prog 64 = some [(.int .u8 0), (.int .u8 0), (.int .u8 0), (.int .u8 0)] := by kernel_rfl
@[go_sem ↓] theorem fl_64 : plOf1 Try.prog 64 = true := by kernel_rfl
@[go_sem ↓] theorem pl_64_0 : plOf Try.prog 64 0 = some (0, 1) := by kernel_rfl
@[go_sem ↓] theorem pl_64_1 : plOf Try.prog 64 1 = some (1, 1) := by kernel_rfl
@[go_sem ↓] theorem pl_64_2 : plOf Try.prog 64 2 = some (2, 1) := by kernel_rfl
@[go_sem ↓] theorem pl_64_3 : plOf Try.prog 64 3 = some (3, 1) := by kernel_rfl
@[go_sem ↓] theorem sz_65 : Try.prog.cellsOf 65 = 1 := by kernel_rfl
@[go_sem ↓] theorem ag_65 : isAggU (Try.prog.underlying 65) = some false := by kernel_rfl
@[go_sem ↓] theorem zr_65 : zrOf Try.prog 65 = some [.nilFunc] := by kernel_rfl
@[go_sem ↓] theorem sz_66 : Try.prog.cellsOf 66 = 1 := by kernel_rfl
@[go_sem ↓] theorem ag_66 : isAggU (Try.prog.underlying 66) = some false := by kernel_rfl
@[go_sem ↓] theorem zr_66 : zrOf Try.prog 66 = some [.nilFunc] := by kernel_rfl
@[go_sem ↓] theorem sz_67 : Try.prog.cellsOf 67 = 1 := by kernel_rfl
@[go_sem ↓] theorem ag_67 : isAggU (Try.prog.underlying 67) = some false := by kernel_rfl
@[go_sem ↓] theorem es_67 : elSz Try.prog 67 = 2 := by kernel_rfl
@[go_sem ↓] theorem zr_67 : zrOf Try.prog 67 = some [(.slice none 0 0)] := by kernel_rfl
@[go_sem ↓] theorem sz_68 : Try.prog.cellsOf 68 = 1 := by kernel_rfl
@[go_sem ↓] theorem ag_68 : isAggU (Try.prog.underlying 68) = some false := by kernel_rfl
@[go_sem ↓] theorem zr_68 : zrOf Try.prog 68 = some [(.pointer none)] := by kernel_rfl
@[go_sem ↓] theorem sz_69 : Try.prog.cellsOf 69 = 1 := by kernel_rfl
@[go_sem ↓] theorem ag_69 : isAggU (Try.prog.underlying 69) = some false := by kernel_rfl
@[go_sem ↓] theorem zr_69 : zrOf Try.prog 69 = some [.nilFunc] := by kernel_rfl
@[go_sem ↓] theorem sz_70 : Try.prog.cellsOf 70 = 1 := by kernel_rfl
@[go_sem ↓] theorem ag_70 : isAggU (Try.prog.underlying 70) = some false := by kernel_rfl
@[go_sem ↓] theorem zr_70 : zrOf Try.prog 70 = some [(.pointer none)] := by kernel_rfl
@[go_sem ↓] theorem sz_71 : Try.prog.cellsOf 71 = 1 := by kernel_rfl
@[go_sem ↓] theorem ag_71 : isAggU (Try.prog.underlying 71) = some false := by kernel_rfl
@[go_sem ↓] theorem zr_71 : zrOf Try.prog 71 = some [.nilFunc] := by kernel_rfl
@[go_sem ↓] theorem sz_72 : Try.prog.cellsOf 72 = 2 := by kernel_rfl
@[go_sem ↓] theorem ag_72 : isAggU (Try.prog.underlying 72) = some true := by kernel_rfl
@[go_sem ↓] theorem zr_72 : zrOf Try.prog 72 = some [(.int .u8 0), (.int .i64 0)] := by kernel_rfl
@[go_sem ↓] theorem fo_72_0 : foOf Try.prog 72 0 = some 0 := by kernel_rfl
@[go_sem ↓] theorem pl_72_0 : plOf Try.prog 72 0 = some (0, 1) := by kernel_rfl
@[go_sem ↓] theorem fo_72_1 : foOf Try.prog 72 1 = some 1 := by kernel_rfl
@[go_sem ↓] theorem pl_72_1 : plOf Try.prog 72 1 = some (1, 1) := by kernel_rfl
@[go_sem ↓] theorem fl_72 : plOf1 Try.prog 72 = true := by kernel_rfl
@[go_sem ↓] theorem sz_73 : Try.prog.cellsOf 73 = 2 := by kernel_rfl
@[go_sem ↓] theorem ag_73 : isAggU (Try.prog.underlying 73) = some true := by kernel_rfl
@[go_sem ↓] theorem zr_73 : zrOf Try.prog 73 = some [(.int .u8 0), (.int .i64 0)] := by kernel_rfl
@[go_sem ↓] theorem fo_73_0 : foOf Try.prog 73 0 = some 0 := by kernel_rfl
@[go_sem ↓] theorem pl_73_0 : plOf Try.prog 73 0 = some (0, 1) := by kernel_rfl
@[go_sem ↓] theorem fo_73_1 : foOf Try.prog 73 1 = some 1 := by kernel_rfl
@[go_sem ↓] theorem pl_73_1 : plOf Try.prog 73 1 = some (1, 1) := by kernel_rfl
@[go_sem ↓] theorem fl_73 : plOf1 Try.prog 73 = true := by kernel_rfl
@[go_sem ↓] theorem sz_74 : Try.prog.cellsOf 74 = 1 := by kernel_rfl
@[go_sem ↓] theorem ag_74 : isAggU (Try.prog.underlying 74) = some false := by kernel_rfl
@[go_sem ↓] theorem zr_74 : zrOf Try.prog 74 = some [.nilFunc] := by kernel_rfl
@[go_sem ↓] theorem sz_75 : Try.prog.cellsOf 75 = 1 := by kernel_rfl
@[go_sem ↓] theorem ag_75 : isAggU (Try.prog.underlying 75) = some false := by kernel_rfl
@[go_sem ↓] theorem zr_75 : zrOf Try.prog 75 = some [.nilFunc] := by kernel_rfl
@[go_sem ↓] theorem sz_76 : Try.prog.cellsOf 76 = 1 := by kernel_rfl
@[go_sem ↓] theorem ag_76 : isAggU (Try.prog.underlying 76) = some false := by kernel_rfl
@[go_sem ↓] theorem zr_76 : zrOf Try.prog 76 = some [.nilFunc] := by kernel_rfl
@[go_sem ↓] theorem sz_77 : Try.prog.cellsOf 77 = 2 := by kernel_rfl
@[go_sem ↓] theorem ag_77 : isAggU (Try.prog.underlying 77) = some true := by kernel_rfl
@[go_sem ↓] theorem es_77 : elSz Try.prog 77 = 1 := by kernel_rfl
@[go_sem ↓] theorem zr_77 : zrOf Try.prog 77 = some [(.int .i64 0), (.int .i64 0)] := by kernel_rfl
@[go_sem ↓] theorem fl_77 : plOf1 Try.prog 77 = true := by kernel_rfl
@[go_sem ↓] theorem pl_77_0 : plOf Try.prog 77 0 = some (0, 1) := by kernel_rfl
@[go_sem ↓] theorem pl_77_1 : plOf Try.prog 77 1 = some (1, 1) := by kernel_rfl
@[go_sem ↓] theorem sz_78 : Try.prog.cellsOf 78 = 6 := by kernel_rfl
@[go_sem ↓] theorem ag_78 : isAggU (Try.prog.underlying 78) = some true := by kernel_rfl
@[go_sem ↓] theorem zr_78 : zrOf Try.prog 78 = some [(.int .i64 0), (.int .i64 0), (.int .i64 0), (.int .i64 0), (.int .i64 0), (.int .i64 0)] := by kernel_rfl
@[go_sem ↓] theorem fo_78_0 : foOf Try.prog 78 0 = some 0 := by kernel_rfl
@[go_sem ↓] theorem pl_78_0 : plOf Try.prog 78 0 = some (0, 2) := by kernel_rfl
@[go_sem ↓] theorem fo_78_1 : foOf Try.prog 78 1 = some 2 := by kernel_rfl
@[go_sem ↓] theorem pl_78_1 : plOf Try.prog 78 1 = some (2, 2) := by kernel_rfl
@[go_sem ↓] theorem fo_78_2 : foOf Try.prog 78 2 = some 4 := by kernel_rfl
@[go_sem ↓] theorem pl_78_2 : plOf Try.prog 78 2 = some (4, 1) := by kernel_rfl
@[go_sem ↓] theorem fo_78_3 : foOf Try.prog 78 3 = some 5 := by kernel_rfl
@[go_sem ↓] theorem pl_78_3 : plOf Try.prog 78 3 = some (5, 1) := by kernel_rfl
@[go_sem ↓] theorem fl_78 : plOf1 Try.prog 78 = true := by kernel_rfl
@[go_sem ↓] theorem sz_79 : Try.prog.cellsOf 79 = 6 := by kernel_rfl
@[go_sem ↓] theorem ag_79 : isAggU (Try.prog.underlying 79) = some true := by kernel_rfl
@[go_sem ↓] theorem zr_79 : zrOf Try.prog 79 = some [(.int .i64 0), (.int .i64 0), (.int .i64 0), (.int .i64 0), (.int .i64 0), (.int .i64 0)] := by kernel_rfl
@[go_sem ↓] theorem fo_79_0 : foOf Try.prog 79 0 = some 0 := by kernel_rfl
@[go_sem ↓] theorem pl_79_0 : plOf Try.prog 79 0 = some (0, 2) := by kernel_rfl
@[go_sem ↓] theorem fo_79_1 : foOf Try.prog 79 1 = some 2 := by kernel_rfl
@[go_sem ↓] theorem pl_79_1 : plOf Try.prog 79 1 = some (2, 2) := by kernel_rfl
@[go_sem ↓] theorem fo_79_2 : foOf Try.prog 79 2 = some 4 := by kernel_rfl
@[go_sem ↓] theorem pl_79_2 : plOf Try.prog 79 2 = some (4, 1) := by kernel_rfl
@[go_sem ↓] theorem fo_79_3 : foOf Try.prog 79 3 = some 5 := by kernel_rfl
@[go_sem ↓] theorem pl_79_3 : plOf Try.prog 79 3 = some (5, 1) := by kernel_rfl
@[go_sem ↓] theorem fl_79 : plOf1 Try.prog 79 = true := by kernel_rfl
@[go_sem ↓] theorem sz_80 : Try.prog.cellsOf 80 = 1 := by kernel_rfl
@[go_sem ↓] theorem ag_80 : isAggU (Try.prog.underlying 80) = some false := by kernel_rfl
@[go_sem ↓] theorem zr_80 : zrOf Try.prog 80 = some [.nilFunc] := by kernel_rfl
@[go_sem ↓] theorem sz_81 : Try.prog.cellsOf 81 = 2 := by kernel_rfl
@[go_sem ↓] theorem ag_81 : isAggU (Try.prog.underlying 81) = some true := by kernel_rfl
@[go_sem ↓] theorem es_81 : elSz Try.prog 81 = 1 := by kernel_rfl
@[go_sem ↓] theorem zr_81 : zrOf Try.prog 81 = some [(.bool false), (.bool false)] := by kernel_rfl
@[go_sem ↓] theorem fl_81 : plOf1 Try.prog 81 = true := by kernel_rfl
@[go_sem ↓] theorem pl_81_0 : plOf Try.prog 81 0 = some (0, 1) := by kernel_rfl
@[go_sem ↓] theorem pl_81_1 : plOf Try.prog 81 1 = some (1, 1) := by kernel_rfl
@[go_sem ↓] theorem sz_83 : Try.prog.cellsOf 83 = 1 := by kernel_rfl
@[go_sem ↓] theorem ag_83 : isAggU (Try.prog.underlying 83) = some false := by kernel_rfl
@[go_sem ↓] theorem zr_83 : zrOf Try.prog 83 = some [.nilFunc] := by kernel_rfl
@[go_sem ↓] theorem sz_84 : Try.prog.cellsOf 84 = 1 := by kernel_rfl
@[go_sem ↓] theorem ag_84 : isAggU (Try.prog.underlying 84) = some false := by kernel_rfl
@[go_sem ↓] theorem zr_84 : zrOf Try.prog 84 = some [.nilFunc] := by kernel_rfl
@[go_sem ↓] theorem sz_86 : Try.prog.cellsOf 86 = 1 := by kernel_rfl
@[go_sem ↓] theorem ag_86 : isAggU (Try.prog.underlying 86) = some false := by kernel_rfl
@[go_sem ↓] theorem zr_86 : zrOf Try.prog 86 = some [.nilFunc] := by kernel_rfl
@[go_sem ↓] theorem sz_87 : Try.prog.cellsOf 87 = 1 := by kernel_rfl
@[go_sem ↓] theorem ag_87 : isAggU (Try.prog.underlying 87) = some false := by kernel_rfl
@[go_sem ↓] theorem zr_87 : zrOf Try.prog 87 = some [.nilFunc] := by kernel_rfl
@[go_sem ↓] theorem sz_88 : Try.prog.cellsOf 88 = 1 := by kernel_rfl
@[go_sem ↓] theorem ag_88 : isAggU (Try.prog.underlying 88) = some false := by kernel_rfl
@[go_sem ↓] theorem zr_88 : zrOf Try.prog 88 = some [.nilFunc] := by kernel_rfl
@[go_sem ↓] theorem sz_89 : Try.prog.cellsOf 89 = 5 := by kernel_rfl
@[go_sem ↓] theorem ag_89 : isAggU (Try.prog.underlying 89) = some true := by kernel_rfl
@[go_sem ↓] theorem zr_89 : zrOf Try.prog 89 = some [(.int .i64 0), (.int .i64 0), (.int .i64 0), (.int .i64 0), (.int .i64 0)] := by kernel_rfl
@[go_sem ↓] theorem fo_89_0 : foOf Try.prog 89 0 = some 0 := by kernel_rfl
@[go_sem ↓] theorem pl_89_0 : plOf Try.prog 89 0 = some (0, 1) := by kernel_rfl
@[go_sem ↓] theorem fo_89_1 : foOf Try.prog 89 1 = some 1 := by kernel_rfl
@[go_sem ↓] theorem pl_89_1 : plOf Try.prog 89 1 = some (1, 1) := by kernel_rfl
@[go_sem ↓] theorem fo_89_2 : foOf Try.prog 89 2 = some 2 := by kernel_rfl
@[go_sem ↓] theorem pl_89_2 : plOf Try.prog 89 2 = some (2, 1) := by kernel_rfl
@[go_sem ↓] theorem fo_89_3 : foOf Try.prog 89 3 = some 3 := by kernel_rfl
@[go_sem ↓] theorem pl_89_3 : plOf Try.prog 89 3 = some (3, 1) := by kernel_rfl
@[go_sem ↓] theorem fo_89_4 : foOf Try.prog 89 4 = some 4 := by kernel_rfl
@[go_sem ↓] theorem pl_89_4 : plOf Try.prog 89 4 = some (4, 1) := by kernel_rfl
@[go_sem ↓] theorem fl_89 : plOf1 Try.prog 89 = true := by kernel_rfl
@[go_sem ↓] theorem sz_90 : Try.prog.cellsOf 90 = 5 := by kernel_rfl
@[go_sem ↓] theorem ag_90 : isAggU (Try.prog.underlying 90) = some true := by kernel_rfl
@[go_sem ↓] theorem zr_90 : zrOf Try.prog 90 = some [(.int .i64 0), (.int .i64 0), (.int .i64 0), (.int .i64 0), (.int .i64 0)] := by kernel_rfl
@[go_sem ↓] theorem fo_90_0 : foOf Try.prog 90 0 = some 0 := by kernel_rfl
@[go_sem ↓] theorem pl_90_0 : plOf Try.prog 90 0 = some (0, 1) := by kernel_rfl
@[go_sem ↓] theorem fo_90_1 : foOf Try.prog 90 1 = some 1 := by kernel_rfl
@[go_sem ↓] theorem pl_90_1 : plOf Try.prog 90 1 = some (1, 1) := by kernel_rfl
@[go_sem ↓] theorem fo_90_2 : foOf Try.prog 90 2 = some 2 := by kernel_rfl
@[go_sem ↓] theorem pl_90_2 : plOf Try.prog 90 2 = some (2, 1) := by kernel_rfl
@[go_sem ↓] theorem fo_90_3 : foOf Try.prog 90 3 = some 3 := by kernel_rfl
@[go_sem ↓] theorem pl_90_3 : plOf Try.prog 90 3 = some (3, 1) := by kernel_rfl
@[go_sem ↓] theorem fo_90_4 : foOf Try.prog 90 4 = some 4 := by kernel_rfl
@[go_sem ↓] theorem pl_90_4 : plOf Try.prog 90 4 = some (4, 1) := by kernel_rfl
@[go_sem ↓] theorem fl_90 : plOf1 Try.prog 90 = true := by kernel_rfl
@[go_sem ↓] theorem sz_92 : Try.prog.cellsOf 92 = 1 := by kernel_rfl
@[go_sem ↓] theorem ag_92 : isAggU (Try.prog.underlying 92) = some false := by kernel_rfl
@[go_sem ↓] theorem zr_92 : zrOf Try.prog 92 = some [.nilFunc] := by kernel_rfl
@[go_sem ↓] theorem sz_94 : Try.prog.cellsOf 94 = 1 := by kernel_rfl
@[go_sem ↓] theorem ag_94 : isAggU (Try.prog.underlying 94) = some false := by kernel_rfl
@[go_sem ↓] theorem zr_94 : zrOf Try.prog 94 = some [.nilFunc] := by kernel_rfl
@[go_sem ↓] theorem sz_96 : Try.prog.cellsOf 96 = 1 := by kernel_rfl
@[go_sem ↓] theorem ag_96 : isAggU (Try.prog.underlying 96) = some false := by kernel_rfl
@[go_sem ↓] theorem zr_96 : zrOf Try.prog 96 = some [.nilFunc] := by kernel_rfl
@[go_sem ↓] theorem sz_98 : Try.prog.cellsOf 98 = 1 := by kernel_rfl
@[go_sem ↓] theorem ag_98 : isAggU (Try.prog.underlying 98) = some false := by kernel_rfl
@[go_sem ↓] theorem zr_98 : zrOf Try.prog 98 = some [.nilFunc] := by kernel_rfl
@[go_sem ↓] theorem sz_99 : Try.prog.cellsOf 99 = 1 := by kernel_rfl
@[go_sem ↓] theorem ag_99 : isAggU (Try.prog.underlying 99) = some false := by kernel_rfl
@[go_sem ↓] theorem zr_99 : zrOf Try.prog 99 = some [.nilFunc] := by kernel_rfl
@[go_sem ↓] theorem sz_100 : Try.prog.cellsOf 100 = 1 := by kernel_rfl
@[go_sem ↓] theorem ag_100 : isAggU (Try.prog.underlying 100) = some false := by kernel_rfl
@[go_sem ↓] theorem zr_100 : zrOf Try.prog 100 = some [.nilFunc] := by kernel_rfl
@[go_sem ↓] theorem sz_101 : Try.prog.cellsOf 101 = 1 := by kernel_rfl
@[go_sem ↓] theorem ag_101 : isAggU (Try.prog.underlying 101) = some false := by kernel_rfl
@[go_sem ↓] theorem es_101 : elSz Try.prog 101 = 5 := by kernel_rfl
@[go_sem ↓] theorem zr_101 : zrOf Try.prog 101 = some [(.slice none 0 0)] := by kernel_rfl
@[go_sem ↓] theorem sz_103 : Try.prog.cellsOf 103 = 1 := by kernel_rfl
@[go_sem ↓] theorem ag_103 : isAggU (Try.prog.underlying 103) = some false := by kernel_rfl
@[go_sem ↓] theorem zr_103 : zrOf Try.prog 103 = some [.nilFunc] := by kernel_rfl
@[go_sem ↓] theorem sz_105 : Try.prog.cellsOf 105 = 1 := by kernel_rfl
@[go_sem ↓] theorem ag_105 : isAggU (Try.prog.underlying 105) = some false := by kernel_rfl
@[go_sem ↓] theorem zr_105 : zrOf Try.prog 105 = some [.nilFunc] := by kernel_rfl
@[go_sem ↓] theorem sz_106 : Try.prog.cellsOf 106 = 1 := by kernel_rfl
@[go_sem ↓] theorem ag_106 : isAggU (Try.prog.underlying 106) = some false := by kernel_rfl
@[go_sem ↓] theorem zr_106 : zrOf Try.prog 106 = some [.nilFunc] := by kernel_rfl
@[go_sem ↓] theorem sz_107 : Try.prog.cellsOf 107 = 1 := by kernel_rfl
@[go_sem ↓] theorem ag_107 : isAggU (Try.prog.underlying 107) = some false := by kernel_rfl
@[go_sem ↓] theorem zr_107 : zrOf Try.prog 107 = some [.nilFunc] := by kernel_rfl
@[go_sem ↓] theorem sz_108 : Try.prog.cellsOf 108 = 1 := by kernel_rfl
@[go_sem ↓] theorem ag_108 : isAggU (Try.prog.underlying 108) = some false := by kernel_rfl
@[go_sem ↓] theorem zr_108 : zrOf Try.prog 108 = some [.nilFunc] := by kernel_rfl
@[go_sem ↓] theorem sz_109 : Try.prog.cellsOf 109 = 1 := by kernel_rfl
@[go_sem ↓] theorem ag_109 : isAggU (Try.prog.underlying 109) = some false := by kernel_rfl
@[go_sem ↓] theorem zr_109 : zrOf Try.prog 109 = some [.nilFunc] := by kernel_rfl
@[go_sem ↓] theorem sz_110 : Try.prog.cellsOf 110 = 1 := by kernel_rfl
@[go_sem ↓] theorem ag_110 : isAggU (Try.prog.underlying 110) = some false := by kernel_rfl
@[go_sem ↓] theorem zr_110 : zrOf Try.prog 110 = some [.nilFunc] := by kernel_rfl
@[go_sem ↓] theorem sz_111 : Try.prog.cellsOf 111 = 1 := by kernel_rfl
@[go_sem ↓] theorem ag_111 : isAggU (Try.prog.underlying 111) = some false := by kernel_rfl
@[go_sem ↓] theorem zr_111 : zrOf Try.prog 111 = some [.nilFunc] := by kernel_rfl
@[go_sem ↓] theorem sz_112 : Try.prog.cellsOf 112 = 1 := by kernel_rfl
@[go_sem ↓] theorem ag_112 : isAggU (Try.prog.underlying 112) = some false := by kernel_rfl
@[go_sem ↓] theorem zr_112 : zrOf Try.prog 112 = some [.nilFunc] := by kernel_rfl
@[go_sem ↓] theorem sz_113 : Try.prog.cellsOf 113 = 1 := by kernel_rfl
@[go_sem ↓] theorem ag_113 : isAggU (Try.prog.underlying 113) = some false := by kernel_rfl
@[go_sem ↓] theorem zr_113 : zrOf Try.prog 113 = some [.nilFunc] := by kernel_rfl
@[go_sem ↓] theorem sz_114 : Try.prog.cellsOf 114 = 1 := by kernel_rfl
@[go_sem ↓] theorem ag_114 : isAggU (Try.prog.underlying 114) = some false := by kernel_rfl
@[go_sem ↓] theorem zr_114 : zrOf Try.prog 114 = some [.nilFunc] := by kernel_rfl
@[go_sem ↓] theorem sz_115 : Try.prog.cellsOf 115 = 1 := by kernel_rfl
@[go_sem ↓] theorem ag_115 : isAggU (Try.prog.underlying 115) = some false := by kernel_rfl
@[go_sem ↓] theorem zr_115 : zrOf Try.prog 115 = some [.nilFunc] := by kernel_rfl
@[go_sem ↓] theorem sz_116 : Try.prog.cellsOf 116 = 1 := by kernel_rfl
@[go_sem ↓] theorem ag_116 : isAggU (Try.prog.underlying 116) = some true := by kernel_rfl
@[go_sem ↓] theorem zr_116 : zrOf Try.prog 116 = some [(.slice none 0 0)] := by kernel_rfl
@[go_sem ↓] theorem fo_116_0 : foOf Try.prog 116 0 = some 0 := by kernel_rfl
@[go_sem ↓] theorem pl_116_0 : plOf Try.prog 116 0 = some (0, 1) := by kernel_rfl
@[go_sem ↓] theorem fl_116 : plOf1 Try.prog 116 = true := by kernel_rfl
@[go_sem ↓] theorem sz_117 : Try.prog.cellsOf 117 = 1 := by kernel_rfl
@[go_sem ↓] theorem ag_117 : isAggU (Try.prog.underlying 117) = some true := by kernel_rfl
@[go_sem ↓] theorem zr_117 : zrOf Try.prog 117 = some [(.slice none 0 0)] := by kernel_rfl
@[go_sem ↓] theorem fo_117_0 : foOf Try.prog 117 0 = some 0 := by kernel_rfl
@[go_sem ↓] theorem pl_117_0 : plOf Try.prog 117 0 = some (0, 1) := by kernel_rfl
@[go_sem ↓] theorem fl_117 : plOf1 Try.prog 117 = true := by kernel_rfl
@[go_sem ↓] theorem sz_118 : Try.prog.cellsOf 118 = 1 := by kernel_rfl
@[go_sem ↓] theorem ag_118 : isAggU (Try.prog.underlying 118) = some false := by kernel_rfl
@[go_sem ↓] theorem zr_118 : zrOf Try.prog 118 = some [.nilFunc] := by kernel_rfl
@[go_sem ↓] theorem sz_120 : Try.prog.cellsOf 120 = 1 := by kernel_rfl
@[go_sem ↓] theorem ag_120 : isAggU (Try.prog.underlying 120) = some false := by kernel_rfl
@[go_sem ↓] theorem zr_120 : zrOf Try.prog 120 = some [.nilFunc] := by kernel_rfl
@[go_sem ↓] theorem sz_121 : Try.prog.cellsOf 121 = 1 := by kernel_rfl
@[go_sem ↓] theorem ag_121 : isAggU (Try.prog.underlying 121) = some false := by kernel_rfl
@[go_sem ↓] theorem zr_121 : zrOf Try.prog 121 = some [(.int .u64 0)] := by kernel_rfl
@[go_sem ↓] theorem sz_122 : Try.prog.cellsOf 122 = 1 := by kernel_rfl
@[go_sem ↓] theorem ag_122 : isAggU (Try.prog.underlying 122) = some false := by kernel_rfl
@[go_sem ↓] theorem zr_122 : zrOf Try.prog 122 = some [(.int .u64 0)] := by kernel_rfl
@[go_sem ↓] theorem sz_123 : Try.prog.cellsOf 123 = 2 := by kernel_rfl
@[go_sem ↓] theorem ag_123 : isAggU (Try.prog.underlying 123) = some true := by kernel_rfl
@[go_sem ↓] theorem zr_123 : zrOf Try.prog 123 = some [(.int .i64 0), (.int .i64 0)] := by kernel_rfl
@[go_sem ↓] theorem fo_123_0 : foOf Try.prog 123 0 = some 0 := by kernel_rfl
@[go_sem ↓] theorem pl_123_0 : plOf Try.prog 123 0 = some (0, 1) := by kernel_rfl
@[go_sem ↓] theorem fo_123_1 : foOf Try.prog 123 1 = some 1 := by kernel_rfl
@[go_sem ↓] theorem pl_123_1 : plOf Try.prog 123 1 = some (1, 1) := by kernel_rfl
@[go_sem ↓] theorem fl_123 : plOf1 Try.prog 123 = true := by kernel_rfl
@[go_sem ↓] theorem sz_124 : Try.prog.cellsOf 124 = 2 := by kernel_rfl
@[go_sem ↓] theorem ag_124 : isAggU (Try.prog.underlying 124) = some true := by kernel_rfl
@[go_sem ↓] theorem zr_124 : zrOf Try.prog 124 = some [(.int .i64 0), (.int .i64 0)] := by kernel_rfl
@[go_sem ↓] theorem fo_124_0 : foOf Try.prog 124 0 = some 0 := by kernel_rfl
@[go_sem ↓] theorem pl_124_0 : plOf Try.prog 124 0 = some (0, 1) := by kernel_rfl
@[go_sem ↓] theorem fo_124_1 : foOf Try.prog 124 1 = some 1 := by kernel_rfl
@[go_sem ↓] theorem pl_124_1 : plOf Try.prog 124 1 = some (1, 1) := by kernel_rfl
@[go_sem ↓] theorem fl_124 : plOf1 Try.prog 124 = true := by kernel_rfl
@[go_sem ↓] theorem sz_125 : Try.prog.cellsOf 125 = 4 := by kernel_rfl
@[go_sem ↓] theorem ag_125 : isAggU (Try.prog.underlying 125) = some true := by kernel_rfl
@[go_sem ↓] theorem es_125 : elSz Try.prog 125 = 2 := by kernel_rfl
@[go_sem ↓] theorem zr_125 : zrOf Try.prog 125 = some [(.int .i64 0), (.int .i64 0), (.int .i64 0), (.int .i64 0)] := by kernel_rfl
@[go_sem ↓] theorem fl_125 : plOf1 Try.prog 125 = true := by kernel_rfl
@[go_sem ↓] theorem pl_125_0 : plOf Try.prog 125 0 = some (0, 2) := by kernel_rfl
@[go_sem ↓] theorem pl_125_1 : plOf Try.prog 125 1 = some (2, 2) := by kernel_rfl
@[go_sem ↓] theorem sz_126 : Try.prog.cellsOf 126 = 4 := by kernel_rfl
@[go_sem ↓] theorem ag_126 : isAggU (Try.prog.underlying 126) = some true := by kernel_rfl
@[go_sem ↓] theorem zr_126 : zrOf Try.prog 126 = some [(.int .i64 0), (.int .i64 0), (.int .i64 0), (.int .i64 0)] := by kernel_rfl
@[go_sem ↓] theorem fo_126_0 : foOf Try.prog 126 0 = some 0 := by kernel_rfl
@[go_sem ↓] theorem pl_126_0 : plOf Try.prog 126 0 = some (0, 4) := by kernel_rfl
@[go_sem ↓] theorem fl_126 : plOf1 Try.prog 126 = true := by kernel_rfl
@[go_sem ↓] theorem sz_127 : Try.prog.cellsOf 127 = 4 := by kernel_rfl
@[go_sem ↓] theorem ag_127 : isAggU (Try.prog.underlying 127) = some true := by kernel_rfl
@[go_sem ↓] theorem zr_127 : zrOf Try.prog 127 = some [(.int .i64 0), (.int .i64 0), (.int .i64 0), (.int .i64 0)] := by kernel_rfl
@[go_sem ↓] theorem fo_127_0 : foOf Try.prog 127 0 = some 0 := by kernel_rfl
@[go_sem ↓] theorem pl_127_0 : plOf Try.prog 127 0 = some (0, 4) := by kernel_rfl
@[go_sem ↓] theorem fl_127 : plOf1 Try.prog 127 = true := by kernel_rfl
@[go_sem ↓] theorem sz_128 : Try.prog.cellsOf 128 = 1 := by kernel_rfl
@[go_sem ↓] theorem ag_128 : isAggU (Try.prog.underlying 128) = some false := by kernel_rfl
@[go_sem ↓] theorem zr_128 : zrOf Try.prog 128 = some [(.pointer none)] := by kernel_rfl
@[go_sem ↓] theorem sz_129 : Try.prog.cellsOf 129 = 1 := by kernel_rfl
@[go_sem ↓] theorem ag_129 : isAggU (Try.prog.underlying 129) = some false := by kernel_rfl
@[go_sem ↓] theorem zr_129 : zrOf Try.prog 129 = some [.nilFunc] := by kernel_rfl
@[go_sem ↓] theorem sz_130 : Try.prog.cellsOf 130 = 1 := by kernel_rfl
@[go_sem ↓] theorem ag_130 : isAggU (Try.prog.underlying 130) = some false := by kernel_rfl
@[go_sem ↓] theorem zr_130 : zrOf Try.prog 130 = some [.nilFunc] := by kernel_rfl
@[go_sem ↓] theorem sz_131 : Try.prog.cellsOf 131 = 1 := by kernel_rfl
@[go_sem ↓] theorem ag_131 : isAggU (Try.prog.underlying 131) = some false := by kernel_rfl
@[go_sem ↓] theorem zr_131 : zrOf Try.prog 131 = some [.nilFunc] := by kernel_rfl
@[go_sem ↓] theorem sz_132 : Try.prog.cellsOf 132 = 1 := by kernel_rfl
@[go_sem ↓] theorem ag_132 : isAggU (Try.prog.underlying 132) = some false := by kernel_rfl
@[go_sem ↓] theorem zr_132 : zrOf Try.prog 132 = some [.nilFunc] := by kernel_rfl
@[go_sem ↓] theorem sz_133 : Try.prog.cellsOf 133 = 1 := by kernel_rfl
@[go_sem ↓] theorem ag_133 : isAggU (Try.prog.underlying 133) = some false := by kernel_rfl
@[go_sem ↓] theorem zr_133 : zrOf Try.prog 133 = some [.nilFunc] := by kernel_rfl
@[go_sem ↓] theorem sz_134 : Try.prog.cellsOf 134 = 1 := by kernel_rfl
@[go_sem ↓] theorem ag_134 : isAggU (Try.prog.underlying 134) = some false := by kernel_rfl
@[go_sem ↓] theorem zr_134 : zrOf Try.prog 134 = some [.nilFunc] := by kernel_rfl
@[go_sem ↓] theorem sz_135 : Try.prog.cellsOf 135 = 1 := by kernel_rfl
@[go_sem ↓] theorem ag_135 : isAggU (Try.prog.underlying 135) = some false := by kernel_rfl
@[go_sem ↓] theorem zr_135 : zrOf Try.prog 135 = some [.nilFunc] := by kernel_rfl
@[go_sem ↓] theorem sz_136 : Try.prog.cellsOf 136 = 1 := by kernel_rfl
@[go_sem ↓] theorem ag_136 : isAggU (Try.prog.underlying 136) = some false := by kernel_rfl
@[go_sem ↓] theorem zr_136 : zrOf Try.prog 136 = some [.nilFunc] := by kernel_rfl
@[go_sem ↓] theorem sz_137 : Try.prog.cellsOf 137 = 1 := by kernel_rfl
@[go_sem ↓] theorem ag_137 : isAggU (Try.prog.underlying 137) = some false := by kernel_rfl
@[go_sem ↓] theorem zr_137 : zrOf Try.prog 137 = some [.nilFunc] := by kernel_rfl
@[go_sem ↓] theorem sz_138 : Try.prog.cellsOf 138 = 1 := by kernel_rfl
@[go_sem ↓] theorem ag_138 : isAggU (Try.prog.underlying 138) = some false := by kernel_rfl
@[go_sem ↓] theorem zr_138 : zrOf Try.prog 138 = some [.nilFunc] := by kernel_rfl
@[go_sem ↓] theorem sz_139 : Try.prog.cellsOf 139 = 1 := by kernel_rfl
@[go_sem ↓] theorem ag_139 : isAggU (Try.prog.underlying 139) = some false := by kernel_rfl
@[go_sem ↓] theorem zr_139 : zrOf Try.prog 139 = some [.nilFunc] := by kernel_rfl
@[go_sem ↓] theorem sz_140 : Try.prog.cellsOf 140 = 1 := by kernel_rfl
@[go_sem ↓] theorem ag_140 : isAggU (Try.prog.underlying 140) = some false := by kernel_rfl
@[go_sem ↓] theorem es_140 : elSz Try.prog 140 = 1 := by kernel_rfl
@[go_sem ↓] theorem zr_140 : zrOf Try.prog 140 = some [(.slice none 0 0)] := by kernel_rfl
@[go_sem ↓] theorem sz_141 : Try.prog.cellsOf 141 = 1 := by kernel_rfl
@[go_sem ↓] theorem ag_141 : isAggU (Try.prog.underlying 141) = some false := by kernel_rfl
@[go_sem ↓] theorem zr_141 : zrOf Try.prog 141 = some [.nilFunc] := by kernel_rfl
@[go_sem ↓] theorem sz_142 : Try.prog.cellsOf 142 = 1 := by kernel_rfl
@[go_sem ↓] theorem ag_142 : isAggU (Try.prog.underlying 142) = some false := by kernel_rfl
@[go_sem ↓] theorem zr_142 : zrOf Try.prog 142 = some [.nilFunc] := by kernel_rfl
@[go_sem ↓] theorem sz_143 : Try.prog.cellsOf 143 = 1 := by kernel_rfl
@[go_sem ↓] theorem ag_143 : isAggU (Try.prog.underlying 143) = some false := by kernel_rfl
@[go_sem ↓] theorem zr_143 : zrOf Try.prog 143 = some [.nilFunc] := by kernel_rfl
@[go_sem ↓] theorem sz_144 : Try.prog.cellsOf 144 = 4 := by kernel_rfl
@[go_sem ↓] theorem ag_144 : isAggU (Try.prog.underlying 144) = some true := by kernel_rfl
@[go_sem ↓] theorem zr_144 : zrOf Try.prog 144 = some [(.pointer none), (.pointer none), (.pointer none), (.string ⟨#[]⟩)] := by kernel_rfl
@[go_sem ↓] theorem fo_144_0 : foOf Try.prog 144 0 = some 0 := by kernel_rfl
@[go_sem ↓] theorem pl_144_0 : plOf Try.prog 144 0 = some (0, 1) := by kernel_rfl
@[go_sem ↓] theorem fo_144_1 : foOf Try.prog 144 1 = some 1 := by kernel_rfl
@[go_sem ↓] theorem pl_144_1 : plOf Try.prog 144 1 = some (1, 1) := by kernel_rfl
@[go_sem ↓] theorem fo_144_2 : foOf Try.prog 144 2 = some 2 := by kernel_rfl
@[go_sem ↓] theorem pl_144_2 : plOf Try.prog 144 2 = some (2, 1) := by kernel_rfl
@[go_sem ↓] theorem fo_144_3 : foOf Try.prog 144 3 = some 3 := by kernel_rfl
@[go_sem ↓] theorem pl_144_3 : plOf Try.prog 144 3 = some (3, 1) := by kernel_rfl
@[go_sem ↓] theorem fl_144 : plOf1 Try.prog 144 = true := by kernel_rfl
@[go_sem ↓] theorem sz_145 : Try.prog.cellsOf 145 = 4 := by kernel_rfl
@[go_sem ↓] theorem ag_145 : isAggU (Try.prog.underlying 145) = some true := by kernel_rfl
@[go_sem ↓] theorem zr_145 : zrOf Try.prog 145 = some [(.pointer none), (.pointer none), (.pointer none), (.string ⟨#[]⟩)] := by kernel_rfl
@[go_sem ↓] theorem fo_145_0 : foOf Try.prog 145 0 = some 0 := by kernel_rfl
@[go_sem ↓] theorem pl_145_0 : plOf Try.prog 145 0 = some (0, 1) := by kernel_rfl
@[go_sem ↓] theorem fo_145_1 : foOf Try.prog 145 1 = some 1 := by kernel_rfl
@[go_sem ↓] theorem pl_145_1 : plOf Try.prog 145 1 = some (1, 1) := by kernel_rfl
@[go_sem ↓] theorem fo_145_2 : foOf Try.prog 145 2 = some 2 := by kernel_rfl
@[go_sem ↓] theorem pl_145_2 : plOf Try.prog 145 2 = some (2, 1) := by kernel_rfl
@[go_sem ↓] theorem fo_145_3 : foOf Try.prog 145 3 = some 3 := by kernel_rfl
@[go_sem ↓] theorem pl_145_3 : plOf Try.prog 145 3 = some (3, 1) := by kernel_rfl
@[go_sem ↓] theorem fl_145 : plOf1 Try.prog 145 = true := by kernel_rfl
@[go_sem ↓] theorem sz_146 : Try.prog.cellsOf 146 = 0 := by kernel_rfl
@[go_sem ↓] theorem ag_146 : isAggU (Try.prog.underlying 146) = some true := by kernel_rfl
@[go_sem ↓] theorem es_146 : elSz Try.prog 146 = 1 := by kernel_rfl
@[go_sem ↓] theorem zr_146 : zrOf Try.prog 146 = some [] := by kernel_rfl
@[go_sem ↓] theorem fl_146 : plOf1 Try.prog 146 = true := by kernel_rfl
@[go_sem ↓] theorem sz_147 : Try.prog.cellsOf 147 = 0 := by kernel_rfl
@[go_sem ↓] theorem ag_147 : isAggU (Try.prog.underlying 147) = some true := by kernel_rfl
@[go_sem ↓] theorem zr_147 : zrOf Try.prog 147 = some [] := by kernel_rfl
@[go_sem ↓] theorem pl_147_0 : plOf Try.prog 147 0 = some (0, 0) := by kernel_rfl
@[go_sem ↓] theorem fl_147 : plOf1 Try.prog 147 = true := by kernel_rfl
@[go_sem ↓] theorem sz_148 : Try.prog.cellsOf 148 = 0 := by kernel_rfl
@[go_sem ↓] theorem ag_148 : isAggU (Try.prog.underlying 148) = some true := by kernel_rfl
@[go_sem ↓] theorem zr_148 : zrOf Try.prog 148 = some [] := by kernel_rfl
@[go_sem ↓] theorem pl_148_0 : plOf Try.prog 148 0 = some (0, 0) := by kernel_rfl
@[go_sem ↓] theorem fl_148 : plOf1 Try.prog 148 = true := by kernel_rfl
@[go_sem ↓] theorem sz_149 : Try.prog.cellsOf 149 = 1 := by kernel_rfl
@[go_sem ↓] theorem ag_149 : isAggU (Try.prog.underlying 149) = some false := by kernel_rfl
@[go_sem ↓] theorem zr_149 : zrOf Try.prog 149 = some [(.int .u8 0)] := by kernel_rfl
@[go_sem ↓] theorem sz_150 : Try.prog.cellsOf 150 = 1 := by kernel_rfl
@[go_sem ↓] theorem ag_150 : isAggU (Try.prog.underlying 150) = some false := by kernel_rfl
@[go_sem ↓] theorem zr_150 : zrOf Try.prog 150 = some [(.int .u8 0)] := by kernel_rfl
@[go_sem ↓] theorem sz_151 : Try.prog.cellsOf 151 = 1 := by kernel_rfl
@[go_sem ↓] theorem ag_151 : isAggU (Try.prog.underlying 151) = some false := by kernel_rfl
@[go_sem ↓] theorem zr_151 : zrOf Try.prog 151 = some [.nilFunc] := by kernel_rfl
@[go_sem ↓] theorem sz_152 : Try.prog.cellsOf 152 = 1 := by kernel_rfl
@[go_sem ↓] theorem ag_152 : isAggU (Try.prog.underlying 152) = some false := by kernel_rfl
@[go_sem ↓] theorem zr_152 : zrOf Try.prog 152 = some [(.pointer none)] := by kernel_rfl
@[go_sem ↓] theorem sz_153 : Try.prog.cellsOf 153 = 1 := by kernel_rfl
@[go_sem ↓] theorem ag_153 : isAggU (Try.prog.underlying 153) = some false := by kernel_rfl
@[go_sem ↓] theorem zr_153 : zrOf Try.prog 153 = some [(.int .i32 0)] := by kernel_rfl
@[go_sem ↓] theorem sz_154 : Try.prog.cellsOf 154 = 1 := by kernel_rfl
@[go_sem ↓] theorem ag_154 : isAggU (Try.prog.underlying 154) = some false := by kernel_rfl
@[go_sem ↓] theorem zr_154 : zrOf Try.prog 154 = some [(.int .i32 0)] := by kernel_rfl
@[go_sem ↓] theorem sz_155 : Try.prog.cellsOf 155 = 11 := by kernel_rfl
@[go_sem ↓] theorem ag_155 : isAggU (Try.prog.underlying 155) = some true := by kernel_rfl
@[go_sem ↓] theorem zr_155 : zrOf Try.prog 155 = some [(.int .u64 0), (.int .u64 0), (.int .u32 0), (.int .u8 0), (.int .u8 0), (.int .u8 0), (.int .u8 0), .nilFunc, (.pointer none), (.int .i32 0), (.int .i32 0)] := by kernel_rfl
@[go_sem ↓] theorem fo_155_0 : foOf Try.prog 155 0 = some 0 := by kernel_rfl
@[go_sem ↓] theorem pl_155_0 : plOf Try.prog 155 0 = some (0, 1) := by kernel_rfl
@[go_sem ↓] theorem fo_155_1 : foOf Try.prog 155 1 = some 1 := by kernel_rfl
@[go_sem ↓] theorem pl_155_1 : plOf Try.prog 155 1 = some (1, 1) := by kernel_rfl
@[go_sem ↓] theorem fo_155_2 : foOf Try.prog 155 2 = some 2 := by kernel_rfl
@[go_sem ↓] theorem pl_155_2 : plOf Try.prog 155 2 = some (2, 1) := by kernel_rfl
@[go_sem ↓] theorem fo_155_3 : foOf Try.prog 155 3 = some 3 := by kernel_rfl
@[go_sem ↓] theorem pl_155_3 : plOf Try.prog 155 3 = some (3, 1) := by kernel_rfl
@[go_sem ↓] theorem fo_155_4 : foOf Try.prog 155 4 = some 4 := by kernel_rfl
@[go_sem ↓] theorem pl_155_4 : plOf Try.prog 155 4 = some (4, 1) := by kernel_rfl
@[go_sem ↓] theorem fo_155_5 : foOf Try.prog 155 5 = some 5 := by kernel_rfl
@[go_sem ↓] theorem pl_155_5 : plOf Try.prog 155 5 = some (5, 1) := by kernel_rfl
@[go_sem ↓] theorem fo_155_6 : foOf Try.prog 155 6 = some 6 := by kernel_rfl
@[go_sem ↓] theorem pl_155_6 : plOf Try.prog 155 6 = some (6, 1) := by kernel_rfl
@[go_sem ↓] theorem fo_155_7 : foOf Try.prog 155 7 = some 7 := by kernel_rfl
@[go_sem ↓] theorem pl_155_7 : plOf Try.prog 155 7 = some (7, 1) := by kernel_rfl
@[go_sem ↓] theorem fo_155_8 : foOf Try.prog 155 8 = some 8 := by kernel_rfl
@[go_sem ↓] theorem pl_155_8 : plOf Try.prog 155 8 = some (8, 1) := by kernel_rfl
@[go_sem ↓] theorem fo_155_9 : foOf Try.prog 155 9 = some 9 := by kernel_rfl
@[go_sem ↓] theorem pl_155_9 : plOf Try.prog 155 9 = some (9, 1) := by kernel_rfl
@[go_sem ↓] theorem fo_155_10 : foOf Try.prog 155 10 = some 10 := by kernel_rfl
@[go_sem ↓] theorem pl_155_10 : plOf Try.prog 155 10 = some (10, 1) := by kernel_rfl
@[go_sem ↓] theorem fl_155 : plOf1 Try.prog 155 = true := by kernel_rfl
@[go_sem ↓] theorem sz_156 : Try.prog.cellsOf 156 = 11 := by kernel_rfl
@[go_sem ↓] theorem ag_156 : isAggU (Try.prog.underlying 156) = some true := by kernel_rfl
@[go_sem ↓] theorem zr_156 : zrOf Try.prog 156 = some [(.int .u64 0), (.int .u64 0), (.int .u32 0), (.int .u8 0), (.int .u8 0), (.int .u8 0), (.int .u8 0), .nilFunc, (.pointer none), (.int .i32 0), (.int .i32 0)] := by kernel_rfl
@[go_sem ↓] theorem fo_156_0 : foOf Try.prog 156 0 = some 0 := by kernel_rfl
@[go_sem ↓] theorem pl_156_0 : plOf Try.prog 156 0 = some (0, 1) := by kernel_rfl
@[go_sem ↓] theorem fo_156_1 : foOf Try.prog 156 1 = some 1 := by kernel_rfl
@[go_sem ↓] theorem pl_156_1 : plOf Try.prog 156 1 = some (1, 1) := by kernel_rfl
@[go_sem ↓] theorem fo_156_2 : foOf Try.prog 156 2 = some 2 := by kernel_rfl
@[go_sem ↓] theorem pl_156_2 : plOf Try.prog 156 2 = some (2, 1) := by kernel_rfl
@[go_sem ↓] theorem fo_156_3 : foOf Try.prog 156 3 = some 3 := by kernel_rfl
@[go_sem ↓] theorem pl_156_3 : plOf Try.prog 156 3 = some (3, 1) := by kernel_rfl
@[go_sem ↓] theorem fo_156_4 : foOf Try.prog 156 4 = some 4 := by kernel_rfl
@[go_sem ↓] theorem pl_156_4 : plOf Try.prog 156 4 = some (4, 1) := by kernel_rfl
@[go_sem ↓] theorem fo_156_5 : foOf Try.prog 156 5 = some 5 := by kernel_rfl
@[go_sem ↓] theorem pl_156_5 : plOf Try.prog 156 5 = some (5, 1) := by kernel_rfl
@[go_sem ↓] theorem fo_156_6 : foOf Try.prog 156 6 = some 6 := by kernel_rfl
@[go_sem ↓] theorem pl_156_6 : plOf Try.prog 156 6 = some (6, 1) := by kernel_rfl
@[go_sem ↓] theorem fo_156_7 : foOf Try.prog 156 7 = some 7 := by kernel_rfl
@[go_sem ↓] theorem pl_156_7 : plOf Try.prog 156 7 = some (7, 1) := by kernel_rfl
@[go_sem ↓] theorem fo_156_8 : foOf Try.prog 156 8 = some 8 := by kernel_rfl
@[go_sem ↓] theorem pl_156_8 : plOf Try.prog 156 8 = some (8, 1) := by kernel_rfl
@[go_sem ↓] theorem fo_156_9 : foOf Try.prog 156 9 = some 9 := by kernel_rfl
@[go_sem ↓] theorem pl_156_9 : plOf Try.prog 156 9 = some (9, 1) := by kernel_rfl
@[go_sem ↓] theorem fo_156_10 : foOf Try.prog 156 10 = some 10 := by kernel_rfl
@[go_sem ↓] theorem pl_156_10 : plOf Try.prog 156 10 = some (10, 1) := by kernel_rfl
@[go_sem ↓] theorem fl_156 : plOf1 Try.prog 156 = true := by kernel_rfl
@[go_sem ↓] theorem sz_157 : Try.prog.cellsOf 157 = 1 := by kernel_rfl
@[go_sem ↓] theorem ag_157 : isAggU (Try.prog.underlying 157) = some false := by kernel_rfl
@[go_sem ↓] theorem zr_157 : zrOf Try.prog 157 = some [(.pointer none)] := by kernel_rfl
@[go_sem] theorem sl_22 {H : AH} {b o len cap : Nat} {lo hi : Option Value} {K : Value → Prop} : rdop Try.prog H (Instr.sliceAt 22 (.slice (some ⟨b, o, none⟩) len cap) lo hi none) K = bnd len hi cap fun h => bnd 0 lo h fun l => nv (.slice (some ⟨b, if cap = l then o else o + l * Try.prog.cellsOf 3, none⟩) (h - l) (cap - l)) K := rdop_slice_sl Try.underlying22 (by rw [sz_3]; simp)
@[go_sem] theorem sc_22 {H : AH} {a : Option Addr} {len cap : Nat} {hi mx : Value} {K : Value → Prop} : rdop Try.prog H (Instr.sliceAt 22 (.slice a len cap) none (some hi) (some mx)) K = bnd cap (some mx) cap fun m => bnd len (some hi) m fun h => nv (.slice a h m) K := rdop_clip Try.underlying22 (by rw [sz_3]; simp)
@[go_sem] theorem sn_22 {H : AH} {len cap : Nat} {lo hi : Option Value} {K : Value → Prop} : rdop Try.prog H (Instr.sliceAt 22 (.slice none len cap) lo hi none) K = bnd len hi cap fun h => bnd 0 lo h fun l => nv (.slice none (h - l) (cap - l)) K := rdop_slice_nil Try.underlying22 (by rw [sz_3]; simp)
@[go_sem] theorem sl_23 {H : AH} {b o len cap : Nat} {lo hi : Option Value} {K : Value → Prop} : rdop Try.prog H (Instr.sliceAt 23 (.slice (some ⟨b, o, none⟩) len cap) lo hi none) K = bnd len hi cap fun h => bnd 0 lo h fun l => nv (.slice (some ⟨b, if cap = l then o else o + l * Try.prog.cellsOf 64, none⟩) (h - l) (cap - l)) K := rdop_slice_sl Try.underlying23 (by rw [sz_64]; simp)
@[go_sem] theorem sc_23 {H : AH} {a : Option Addr} {len cap : Nat} {hi mx : Value} {K : Value → Prop} : rdop Try.prog H (Instr.sliceAt 23 (.slice a len cap) none (some hi) (some mx)) K = bnd cap (some mx) cap fun m => bnd len (some hi) m fun h => nv (.slice a h m) K := rdop_clip Try.underlying23 (by rw [sz_64]; simp)
@[go_sem] theorem sn_23 {H : AH} {len cap : Nat} {lo hi : Option Value} {K : Value → Prop} : rdop Try.prog H (Instr.sliceAt 23 (.slice none len cap) lo hi none) K = bnd len hi cap fun h => bnd 0 lo h fun l => nv (.slice none (h - l) (cap - l)) K := rdop_slice_nil Try.underlying23 (by rw [sz_64]; simp)
@[go_sem] theorem sl_45 {H : AH} {b o len cap : Nat} {lo hi : Option Value} {K : Value → Prop} : rdop Try.prog H (Instr.sliceAt 45 (.slice (some ⟨b, o, none⟩) len cap) lo hi none) K = bnd len hi cap fun h => bnd 0 lo h fun l => nv (.slice (some ⟨b, if cap = l then o else o + l * Try.prog.cellsOf 55, none⟩) (h - l) (cap - l)) K := rdop_slice_sl Try.underlying45 (by rw [sz_55]; simp)
@[go_sem] theorem sc_45 {H : AH} {a : Option Addr} {len cap : Nat} {hi mx : Value} {K : Value → Prop} : rdop Try.prog H (Instr.sliceAt 45 (.slice a len cap) none (some hi) (some mx)) K = bnd cap (some mx) cap fun m => bnd len (some hi) m fun h => nv (.slice a h m) K := rdop_clip Try.underlying45 (by rw [sz_55]; simp)
@[go_sem] theorem sn_45 {H : AH} {len cap : Nat} {lo hi : Option Value} {K : Value → Prop} : rdop Try.prog H (Instr.sliceAt 45 (.slice none len cap) lo hi none) K = bnd len hi cap fun h => bnd 0 lo h fun l => nv (.slice none (h - l) (cap - l)) K := rdop_slice_nil Try.underlying45 (by rw [sz_55]; simp)
@[go_sem] theorem sl_52 {H : AH} {b o len cap : Nat} {lo hi : Option Value} {K : Value → Prop} : rdop Try.prog H (Instr.sliceAt 52 (.slice (some ⟨b, o, none⟩) len cap) lo hi none) K = bnd len hi cap fun h => bnd 0 lo h fun l => nv (.slice (some ⟨b, if cap = l then o else o + l * Try.prog.cellsOf 101, none⟩) (h - l) (cap - l)) K := rdop_slice_sl Try.underlying52 (by rw [sz_101]; simp)
@[go_sem] theorem sc_52 {H : AH} {a : Option Addr} {len cap : Nat} {hi mx : Value} {K : Value → Prop} : rdop Try.prog H (Instr.sliceAt 52 (.slice a len cap) none (some hi) (some mx)) K = bnd cap (some mx) cap fun m => bnd len (some hi) m fun h => nv (.slice a h m) K := rdop_clip Try.underlying52 (by rw [sz_101]; simp)
@[go_sem] theorem sn_52 {H : AH} {len cap : Nat} {lo hi : Option Value} {K : Value → Prop} : rdop Try.prog H (Instr.sliceAt 52 (.slice none len cap) lo hi none) K = bnd len hi cap fun h => bnd 0 lo h fun l => nv (.slice none (h - l) (cap - l)) K := rdop_slice_nil Try.underlying52 (by rw [sz_101]; simp)
@[go_sem] theorem sl_59 {H : AH} {b o len cap : Nat} {lo hi : Option Value} {K : Value → Prop} : rdop Try.prog H (Instr.sliceAt 59 (.slice (some ⟨b, o, none⟩) len cap) lo hi none) K = bnd len hi cap fun h => bnd 0 lo h fun l => nv (.slice (some ⟨b, if cap = l then o else o + l * Try.prog.cellsOf 4, none⟩) (h - l) (cap - l)) K := rdop_slice_sl Try.underlying59 (by rw [sz_4]; simp)
@[go_sem] theorem sc_59 {H : AH} {a : Option Addr} {len cap : Nat} {hi mx : Value} {K : Value → Prop} : rdop Try.prog H (Instr.sliceAt 59 (.slice a len cap) none (some hi) (some mx)) K = bnd cap (some mx) cap fun m => bnd len (some hi) m fun h => nv (.slice a h m) K := rdop_clip Try.underlying59 (by rw [sz_4]; simp)
@[go_sem] theorem sn_59 {H : AH} {len cap : Nat} {lo hi : Option Value} {K : Value → Prop} : rdop Try.prog H (Instr.sliceAt 59 (.slice none len cap) lo hi none) K = bnd len hi cap fun h => bnd 0 lo h fun l => nv (.slice none (h - l) (cap - l)) K := rdop_slice_nil Try.underlying59 (by rw [sz_4]; simp)
@[go_sem] theorem sl_63 {H : AH} {b o : Nat} {lo hi : Option Value} {K : Value → Prop} : rdop Try.prog H (Instr.sliceAt 63 (.pointer (some ⟨b, o, none⟩)) lo hi none) K = bnd 4 hi 4 fun h => bnd 0 lo h fun l => nv (.slice (some ⟨b, if 4 = l then o else o + l * Try.prog.cellsOf 5, none⟩) (h - l) (4 - l)) K := rdop_slice_arr Try.underlying63 (by rw [sz_5]; simp)
@[go_sem] theorem ix_63 {H : AH} {cs : Array Value} {k : IntKind} {i : Int} {K : Value → Prop} : rdop Try.prog H (Instr.index 63 (.agg cs) (.int k i)) K = (0 ≤ i ∧ i < (4 : Nat) ∧ wo cs[i.toNat * Try.prog.cellsOf 5]? fun v => nv v K) := rdop_index_arr Try.underlying63 (by rw [sz_5]; simp) ag_5
@[go_sem] theorem sl_64 {H : AH} {b o : Nat} {lo hi : Option Value} {K : Value → Prop} : rdop Try.prog H (Instr.sliceAt 64 (.pointer (some ⟨b, o, none⟩)) lo hi none) K = bnd 4 hi 4 fun h => bnd 0 lo h fun l => nv (.slice (some ⟨b, if 4 = l then o else o + l * Try.prog.cellsOf 5, none⟩) (h - l) (4 - l)) K := rdop_slice_arr Try.underlying64 (by rw [sz_5]; simp)
@[go_sem] theorem ix_64 {H : AH} {cs : Array Value} {k : IntKind} {i : Int} {K : Value → Prop} : rdop Try.prog H (Instr.index 64 (.agg cs) (.int k i)) K = (0 ≤ i ∧ i < (4 : Nat) ∧ wo cs[i.toNat * Try.prog.cellsOf 5]? fun v => nv v K) := rdop_index_arr Try.underlying64 (by rw [sz_5]; simp) ag_5
@[go_sem] theorem sl_67 {H : AH} {b o len cap : Nat} {lo hi : Option Value} {K : Value → Prop} : rdop Try.prog H (Instr.sliceAt 67 (.slice (some ⟨b, o, none⟩) len cap) lo hi none) K = bnd len hi cap fun h => bnd 0 lo h fun l => nv (.slice (some ⟨b, if cap = l then o else o + l * Try.prog.cellsOf 73, none⟩) (h - l) (cap - l)) K := rdop_slice_sl Try.underlying67 (by rw [sz_73]; simp)
@[go_sem] theorem sc_67 {H : AH} {a : Option Addr} {len cap : Nat} {hi mx : Value} {K : Value → Prop} : rdop Try.prog H (Instr.sliceAt 67 (.slice a len cap) none (some hi) (some mx)) K = bnd cap (some mx) cap fun m => bnd len (some hi) m fun h => nv (.slice a h m) K := rdop_clip Try.underlying67 (by rw [sz_73]; simp)
@[go_sem] theorem sn_67 {H : AH} {len cap : Nat} {lo hi : Option Value} {K : Value → Prop} : rdop Try.prog H (Instr.sliceAt 67 (.slice none len cap) lo hi none) K = bnd len hi cap fun h => bnd 0 lo h fun l => nv (.slice none (h - l) (cap - l)) K := rdop_slice_nil Try.underlying67 (by rw [sz_73]; simp)
@[go_sem] theorem sl_77 {H : AH} {b o : Nat} {lo hi : Option Value} {K : Value → Prop} : rdop Try.prog H (Instr.sliceAt 77 (.pointer (some ⟨b, o, none⟩)) lo hi none) K = bnd 2 hi 2 fun h => bnd 0 lo h fun l => nv (.slice (some ⟨b, if 2 = l then o else o + l * Try.prog.cellsOf 3, none⟩) (h - l) (2 - l)) K := rdop_slice_arr Try.underlying77 (by rw [sz_3]; simp)
@[go_sem] theorem ix_77 {H : AH} {cs : Array Value} {k : IntKind} {i : Int} {K : Value → Prop} : rdop Try.prog H (Instr.index 77 (.agg cs) (.int k i)) K = (0 ≤ i ∧ i < (2 : Nat) ∧ wo cs[i.toNat * Try.prog.cellsOf 3]? fun v => nv v K) := rdop_index_arr Try.underlying77 (by rw [sz_3]; simp) ag_3
@[go_sem] theorem sl_81 {H : AH} {b o : Nat} {lo hi : Option Value} {K : Value → Prop} : rdop Try.prog H (Instr.sliceAt 81 (.pointer (some ⟨b, o, none⟩)) lo hi none) K = bnd 2 hi 2 fun h => bnd 0 lo h fun l => nv (.slice (some ⟨b, if 2 = l then o else o + l * Try.prog.cellsOf 4, none⟩) (h - l) (2 - l)) K := rdop_slice_arr Try.underlying81 (by rw [sz_4]; simp)
@[go_sem] theorem ix_81 {H : AH} {cs : Array Value} {k : IntKind} {i : Int} {K : Value → Prop} : rdop Try.prog H (Instr.index 81 (.agg cs) (.int k i)) K = (0 ≤ i ∧ i < (2 : Nat) ∧ wo cs[i.toNat * Try.prog.cellsOf 4]? fun v => nv v K) := rdop_index_arr Try.underlying81 (by rw [sz_4]; simp) ag_4
@[go_sem] theorem sl_101 {H : AH} {b o len cap : Nat} {lo hi : Option Value} {K : Value → Prop} : rdop Try.prog H (Instr.sliceAt 101 (.slice (some ⟨b, o, none⟩) len cap) lo hi none) K = bnd len hi cap fun h => bnd 0 lo h fun l => nv (.slice (some ⟨b, if cap = l then o else o + l * Try.prog.cellsOf 90, none⟩) (h - l) (cap - l)) K := rdop_slice_sl Try.underlying101 (by rw [sz_90]; simp)
@[go_sem] theorem sc_101 {H : AH} {a : Option Addr} {len cap : Nat} {hi mx : Value} {K : Value → Prop} : rdop Try.prog H (Instr.sliceAt 101 (.slice a len cap) none (some hi) (some mx)) K = bnd cap (some mx) cap fun m => bnd len (some hi) m fun h => nv (.slice a h m) K := rdop_clip Try.underlying101 (by rw [sz_90]; simp)
@[go_sem] theorem sn_101 {H : AH} {len cap : Nat} {lo hi : Option Value} {K : Value → Prop} : rdop Try.prog H (Instr.sliceAt 101 (.slice none len cap) lo hi none) K = bnd len hi cap fun h => bnd 0 lo h fun l => nv (.slice none (h - l) (cap - l)) K := rdop_slice_nil Try.underlying101 (by rw [sz_90]; simp)
@[go_sem] theorem sl_125 {H : AH} {b o : Nat} {lo hi : Option Value} {K : Value → Prop} : rdop Try.prog H (Instr.sliceAt 125 (.pointer (some ⟨b, o, none⟩)) lo hi none) K = bnd 2 hi 2 fun h => bnd 0 lo h fun l => nv (.slice (some ⟨b, if 2 = l then o else o + l * Try.prog.cellsOf 124, none⟩) (h - l) (2 - l)) K := rdop_slice_arr Try.underlying125 (by rw [sz_124]; simp)
@[go_sem] theorem ix_125 {H : AH} {cs : Array Value} {k : IntKind} {i : Int} {K : Value → Prop} : rdop Try.prog H (Instr.index 125 (.agg cs) (.int k i)) K = (0 ≤ i ∧ i < (2 : Nat) ∧ nv (.agg (cs.extract (i.toNat * Try.prog.cellsOf 124) (i.toNat * Try.prog.cellsOf 124 + Try.prog.cellsOf 124))) K) := rdop_index_arr_agg Try.underlying125 (by rw [sz_124]; simp) ag_124
@[go_sem] theorem sl_140 {H : AH} {b o len cap : Nat} {lo hi : Option Value} {K : Value → Prop} : rdop Try.prog H (Instr.sliceAt 140 (.slice (some ⟨b, o, none⟩) len cap) lo hi none) K = bnd len hi cap fun h => bnd 0 lo h fun l => nv (.slice (some ⟨b, if cap = l then o else o + l * Try.prog.cellsOf 5, none⟩) (h - l) (cap - l)) K := rdop_slice_sl Try.underlying140 (by rw [sz_5]; simp)
@[go_sem] theorem sc_140 {H : AH} {a : Option Addr} {len cap : Nat} {hi mx : Value} {K : Value → Prop} : rdop Try.prog H (Instr.sliceAt 140 (.slice a len cap) none (some hi) (some mx)) K = bnd cap (some mx) cap fun m => bnd len (some hi) m fun h => nv (.slice a h m) K := rdop_clip Try.underlying140 (by rw [sz_5]; simp)
@[go_sem] theorem sn_140 {H : AH} {len cap : Nat} {lo hi : Option Value} {K : Value → Prop} : rdop Try.prog H (Instr.sliceAt 140 (.slice none len cap) lo hi none) K = bnd len hi cap fun h => bnd 0 lo h fun l => nv (.slice none (h - l) (cap - l)) K := rdop_slice_nil Try.underlying140 (by rw [sz_5]; simp)
@[go_sem] theorem fd_7_0 {H : AH} {cs : Array Value} {K : Value → Prop} : rdop Try.prog H (Instr.field 7 (.agg cs) 0) K = wo cs[0]? fun v => nv v K := rdop_fieldF (show fdOf Try.prog 7 0 = some (0, 1, false) by kernel_rfl)
@[go_sem] theorem fd_7_1 {H : AH} {cs : Array Value} {K : Value → Prop} : rdop Try.prog H (Instr.field 7 (.agg cs) 1) K = wo cs[1]? fun v => nv v K := rdop_fieldF (show fdOf Try.prog 7 1 = some (1, 1, false) by kernel_rfl)
@[go_sem] theorem fd_7_2 {H : AH} {cs : Array Value} {K : Value → Prop} : rdop Try.prog H (Instr.field 7 (.agg cs) 2) K = wo cs[2]? fun v => nv v K := rdop_fieldF (show fdOf Try.prog 7 2 = some (2, 1, false) by kernel_rfl)
@[go_sem] theorem fd_7_3 {H : AH} {cs : Array Value} {K : Value → Prop} : rdop Try.prog H (Instr.field 7 (.agg cs) 3) K = wo cs[3]? fun v => nv v K := rdop_fieldF (show fdOf Try.prog 7 3 = some (3, 1, false) by kernel_rfl)
@[go_sem] theorem fd_8_0 {H : AH} {cs : Array Value} {K : Value → Prop} : rdop Try.prog H (Instr.field 8 (.agg cs) 0) K = wo cs[0]? fun v => nv v K := rdop_fieldF (show fdOf Try.prog 8 0 = some (0, 1, false) by kernel_rfl)
@[go_sem] theorem fd_8_1 {H : AH} {cs : Array Value} {K : Value → Prop} : rdop Try.prog H (Instr.field 8 (.agg cs) 1) K = wo cs[1]? fun v => nv v K := rdop_fieldF (show fdOf Try.prog 8 1 = some (1, 1, false) by kernel_rfl)
@[go_sem] theorem fd_8_2 {H : AH} {cs : Array Value} {K : Value → Prop} : rdop Try.prog H (Instr.field 8 (.agg cs) 2) K = wo cs[2]? fun v => nv v K := rdop_fieldF (show fdOf Try.prog 8 2 = some (2, 1, false) by kernel_rfl)
@[go_sem] theorem fd_8_3 {H : AH} {cs : Array Value} {K : Value → Prop} : rdop Try.prog H (Instr.field 8 (.agg cs) 3) K = wo cs[3]? fun v => nv v K := rdop_fieldF (show fdOf Try.prog 8 3 = some (3, 1, false) by kernel_rfl)
@[go_sem] theorem fd_13_0 {H : AH} {cs : Array Value} {K : Value → Prop} : rdop Try.prog H (Instr.field 13 (.agg cs) 0) K = wo cs[0]? fun v => nv v K := rdop_fieldF (show fdOf Try.prog 13 0 = some (0, 1, false) by kernel_rfl)
@[go_sem] theorem fd_13_1 {H : AH} {cs : Array Value} {K : Value → Prop} : rdop Try.prog H (Instr.field 13 (.agg cs) 1) K = wo cs[1]? fun v => nv v K := rdop_fieldF (show fdOf Try.prog 13 1 = some (1, 1, false) by kernel_rfl)
@[go_sem] theorem fd_14_0 {H : AH} {cs : Array Value} {K : Value → Prop} : rdop Try.prog H (Instr.field 14 (.agg cs) 0) K = wo cs[0]? fun v => nv v K := rdop_fieldF (show fdOf Try.prog 14 0 = some (0, 1, false) by kernel_rfl)
@[go_sem] theorem fd_14_1 {H : AH} {cs : Array Value} {K : Value → Prop} : rdop Try.prog H (Instr.field 14 (.agg cs) 1) K = wo cs[1]? fun v => nv v K := rdop_fieldF (show fdOf Try.prog 14 1 = some (1, 1, false) by kernel_rfl)
@[go_sem] theorem fd_18_0 {H : AH} {cs : Array Value} {K : Value → Prop} : rdop Try.prog H (Instr.field 18 (.agg cs) 0) K = wo cs[0]? fun v => nv v K := rdop_fieldF (show fdOf Try.prog 18 0 = some (0, 1, false) by kernel_rfl)
@[go_sem] theorem fd_19_0 {H : AH} {cs : Array Value} {K : Value → Prop} : rdop Try.prog H (Instr.field 19 (.agg cs) 0) K = wo cs[0]? fun v => nv v K := rdop_fieldF (show fdOf Try.prog 19 0 = some (0, 1, false) by kernel_rfl)
@[go_sem ↓] theorem se_22 : slE Try.prog 22 = some (3, 1, [(.int .i64 0)], 8) := by kernel_rfl
@[go_sem ↓] theorem se_23 : slE Try.prog 23 = some (64, 4, [(.int .u8 0), (.int .u8 0), (.int .u8 0), (.int .u8 0)], 4) := by kernel_rfl
@[go_sem] theorem fd_24_0 {H : AH} {cs : Array Value} {K : Value → Prop} : rdop Try.prog H (Instr.field 24 (.agg cs) 0) K = wo cs[0]? fun v => nv v K := rdop_fieldF (show fdOf Try.prog 24 0 = some (0, 1, false) by kernel_rfl)
@[go_sem] theorem fd_24_1 {H : AH} {cs : Array Value} {K : Value → Prop} : rdop Try.prog H (Instr.field 24 (.agg cs) 1) K = wo cs[1]? fun v => nv v K := rdop_fieldF (show fdOf Try.prog 24 1 = some (1, 1, false) by kernel_rfl)
@[go_sem] theorem fd_25_0 {H : AH} {cs : Array Value} {K : Value → Prop} : rdop Try.prog H (Instr.field 25 (.agg cs) 0) K = wo cs[0]? fun v => nv v K := rdop_fieldF (show fdOf Try.prog 25 0 = some (0, 1, false) by kernel_rfl)
@[go_sem] theorem fd_25_1 {H : AH} {cs : Array Value} {K : Value → Prop} : rdop Try.prog H (Instr.field 25 (.agg cs) 1) K = wo cs[1]? fun v => nv v K := rdop_fieldF (show fdOf Try.prog 25 1 = some (1, 1, false) by kernel_rfl)
@[go_sem ↓] theorem se_45 : slE Try.prog 45 = some (55, 2, [(.slice none 0 0), (.int .u32 0)], 32) := by kernel_rfl
@[go_sem ↓] theorem se_52 : slE Try.prog 52 = some (101, 1, [(.slice none 0 0)], 24) := by kernel_rfl
@[go_sem] theorem fd_54_0 {H : AH} {cs : Array Value} {K : Value → Prop} : rdop Try.prog H (Instr.field 54 (.agg cs) 0) K = wo cs[0]? fun v => nv v K := rdop_fieldF (show fdOf Try.prog 54 0 = some (0, 1, false) by kernel_rfl)
@[go_sem] theorem fd_54_1 {H : AH} {cs : Array Value} {K : Value → Prop} : rdop Try.prog H (Instr.field 54 (.agg cs) 1) K = wo cs[1]? fun v => nv v K := rdop_fieldF (show fdOf Try.prog 54 1 = some (1, 1, false) by kernel_rfl)
@[go_sem] theorem fd_55_0 {H : AH} {cs : Array Value} {K : Value → Prop} : rdop Try.prog H (Instr.field 55 (.agg cs) 0) K = wo cs[0]? fun v => nv v K := rdop_fieldF (show fdOf Try.prog 55 0 = some (0, 1, false) by kernel_rfl)
@[go_sem] theorem fd_55_1 {H : AH} {cs : Array Value} {K : Value → Prop} : rdop Try.prog H (Instr.field 55 (.agg cs) 1) K = wo cs[1]? fun v => nv v K := rdop_fieldF (show fdOf Try.prog 55 1 = some (1, 1, false) by kernel_rfl)
@[go_sem ↓] theorem me_57 : mpE Try.prog 57 = some (.int .i64, (.int .u8 0)) := by kernel_rfl
@[go_sem ↓] theorem se_59 : slE Try.prog 59 = some (4, 1, [(.bool false)], 1) := by kernel_rfl
@[go_sem] theorem fd_60_0 {H : AH} {cs : Array Value} {K : Value → Prop} : rdop Try.prog H (Instr.field 60 (.agg cs) 0) K = wo cs[0]? fun v => nv v K := rdop_fieldF (show fdOf Try.prog 60 0 = some (0, 1, false) by kernel_rfl)
@[go_sem] theorem fd_60_1 {H : AH} {cs : Array Value} {K : Value → Prop} : rdop Try.prog H (Instr.field 60 (.agg cs) 1) K = wo cs[1]? fun v => nv v K := rdop_fieldF (show fdOf Try.prog 60 1 = some (1, 1, false) by kernel_rfl)
@[go_sem] theorem fd_61_0 {H : AH} {cs : Array Value} {K : Value → Prop} : rdop Try.prog H (Instr.field 61 (.agg cs) 0) K = wo cs[0]? fun v => nv v K := rdop_fieldF (show fdOf Try.prog 61 0 = some (0, 1, false) by kernel_rfl)
@[go_sem] theorem fd_61_1 {H : AH} {cs : Array Value} {K : Value → Prop} : rdop Try.prog H (Instr.field 61 (.agg cs) 1) K = wo cs[1]? fun v => nv v K := rdop_fieldF (show fdOf Try.prog 61 1 = some (1, 1, false) by kernel_rfl)
@[go_sem ↓] theorem se_67 : slE Try.prog 67 = some (73, 2, [(.int .u8 0), (.int .i64 0)], 16) := by kernel_rfl
@[go_sem] theorem fd_72_0 {H : AH} {cs : Array Value} {K : Value → Prop} : rdop Try.prog H (Instr.field 72 (.agg cs) 0) K = wo cs[0]? fun v => nv v K := rdop_fieldF (show fdOf Try.prog 72 0 = some (0, 1, false) by kernel_rfl)
@[go_sem] theorem fd_72_1 {H : AH} {cs : Array Value} {K : Value → Prop} : rdop Try.prog H (Instr.field 72 (.agg cs) 1) K = wo cs[1]? fun v => nv v K := rdop_fieldF (show fdOf Try.prog 72 1 = some (1, 1, false) by kernel_rfl)
@[go_sem] theorem fd_73_0 {H : AH} {cs : Array Value} {K : Value → Prop} : rdop Try.prog H (Instr.field 73 (.agg cs) 0) K = wo cs[0]? fun v => nv v K := rdop_fieldF (show fdOf Try.prog 73 0 = some (0, 1, false) by kernel_rfl)
@[go_sem] theorem fd_73_1 {H : AH} {cs : Array Value} {K : Value → Prop} : rdop Try.prog H (Instr.field 73 (.agg cs) 1) K = wo cs[1]? fun v => nv v K := rdop_fieldF (show fdOf Try.prog 73 1 = some (1, 1, false) by kernel_rfl)
@[go_sem] theorem fd_78_0 {H : AH} {cs : Array Value} {K : Value → Prop} : rdop Try.prog H (Instr.field 78 (.agg cs) 0) K = nv (.agg (cs.extract 0 2)) K := rdop_fieldT (show fdOf Try.prog 78 0 = some (0, 2, true) by kernel_rfl) (by simp)
@[go_sem] theorem fd_78_1 {H : AH} {cs : Array Value} {K : Value → Prop} : rdop Try.prog H (Instr.field 78 (.agg cs) 1) K = nv (.agg (cs.extract 2 4)) K := rdop_fieldT (show fdOf Try.prog 78 1 = some (2, 2, true) by kernel_rfl) (by simp)
@[go_sem] theorem fd_78_2 {H : AH} {cs : Array Value} {K : Value → Prop} : rdop Try.prog H (Instr.field 78 (.agg cs) 2) K = wo cs[4]? fun v => nv v K := rdop_fieldF (show fdOf Try.prog 78 2 = some (4, 1, false) by kernel_rfl)
@[go_sem] theorem fd_78_3 {H : AH} {cs : Array Value} {K : Value → Prop} : rdop Try.prog H (Instr.field 78 (.agg cs) 3) K = wo cs[5]? fun v => nv v K := rdop_fieldF (show fdOf Try.prog 78 3 = some (5, 1, false) by kernel_rfl)
@[go_sem] theorem fd_79_0 {H : AH} {cs : Array Value} {K : Value → Prop} : rdop Try.prog H (Instr.field 79 (.agg cs) 0) K = nv (.agg (cs.extract 0 2)) K := rdop_fieldT (show fdOf Try.prog 79 0 = some (0, 2, true) by kernel_rfl) (by simp)
@[go_sem] theorem fd_79_1 {H : AH} {cs : Array Value} {K : Value → Prop} : rdop Try.prog H (Instr.field 79 (.agg cs) 1) K = nv (.agg (cs.extract 2 4)) K := rdop_fieldT (show fdOf Try.prog 79 1 = some (2, 2, true) by kernel_rfl) (by simp)
@[go_sem] theorem fd_79_2 {H : AH} {cs : Array Value} {K : Value → Prop} : rdop Try.prog H (Instr.field 79 (.agg cs) 2) K = wo cs[4]? fun v => nv v K := rdop_fieldF (show fdOf Try.prog 79 2 = some (4, 1, false) by kernel_rfl)
@[go_sem] theorem fd_79_3 {H : AH} {cs : Array Value} {K : Value → Prop} : rdop Try.prog H (Instr.field 79 (.agg cs) 3) K = wo cs[5]? fun v => nv v K := rdop_fieldF (show fdOf Try.prog 79 3 = some (5, 1, false) by kernel_rfl)
@[go_sem] theorem fd_89_0 {H : AH} {cs : Array Value} {K : Value → Prop} : rdop Try.prog H (Instr.field 89 (.agg cs) 0) K = wo cs[0]? fun v => nv v K := rdop_fieldF (show fdOf Try.prog 89 0 = some (0, 1, false) by kernel_rfl)
@[go_sem] theorem fd_89_1 {H : AH} {cs : Array Value} {K : Value → Prop} : rdop Try.prog H (Instr.field 89 (.agg cs) 1) K = wo cs[1]? fun v => nv v K := rdop_fieldF (show fdOf Try.prog 89 1 = some (1, 1, false) by kernel_rfl)
@[go_sem] theorem fd_89_2 {H : AH} {cs : Array Value} {K : Value → Prop} : rdop Try.prog H (Instr.field 89 (.agg cs) 2) K = wo cs[2]? fun v => nv v K := rdop_fieldF (show fdOf Try.prog 89 2 = some (2, 1, false) by kernel_rfl)
@[go_sem] theorem fd_89_3 {H : AH} {cs : Array Value} {K : Value → Prop} : rdop Try.prog H (Instr.field 89 (.agg cs) 3) K = wo cs[3]? fun v => nv v K := rdop_fieldF (show fdOf Try.prog 89 3 = some (3, 1, false) by kernel_rfl)
@[go_sem] theorem fd_89_4 {H : AH} {cs : Array Value} {K : Value → Prop} : rdop Try.prog H (Instr.field 89 (.agg cs) 4) K = wo cs[4]? fun v => nv v K := rdop_fieldF (show fdOf Try.prog 89 4 = some (4, 1, false) by kernel_rfl)
@[go_sem] theorem fd_90_0 {H : AH} {cs : Array Value} {K : Value → Prop} : rdop Try.prog H (Instr.field 90 (.agg cs) 0) K = wo cs[0]? fun v => nv v K := rdop_fieldF (show fdOf Try.prog 90 0 = some (0, 1, false) by kernel_rfl)
@[go_sem] theorem fd_90_1 {H : AH} {cs : Array Value} {K : Value → Prop} : rdop Try.prog H (Instr.field 90 (.agg cs) 1) K = wo cs[1]? fun v => nv v K := rdop_fieldF (show fdOf Try.prog 90 1 = some (1, 1, false) by kernel_rfl)
@[go_sem] theorem fd_90_2 {H : AH} {cs : Array Value} {K : Value → Prop} : rdop Try.prog H (Instr.field 90 (.agg cs) 2) K = wo cs[2]? fun v => nv v K := rdop_fieldF (show fdOf Try.prog 90 2 = some (2, 1, false) by kernel_rfl)
@[go_sem] theorem fd_90_3 {H : AH} {cs : Array Value} {K : Value → Prop} : rdop Try.prog H (Instr.field 90 (.agg cs) 3) K = wo cs[3]? fun v => nv v K := rdop_fieldF (show fdOf Try.prog 90 3 = some (3, 1, false) by kernel_rfl)
@[go_sem] theorem fd_90_4 {H : AH} {cs : Array Value} {K : Value → Prop} : rdop Try.prog H (Instr.field 90 (.agg cs) 4) K = wo cs[4]? fun v => nv v K := rdop_fieldF (show fdOf Try.prog 90 4 = some (4, 1, false) by kernel_rfl)
@[go_sem ↓] theorem se_101 : slE Try.prog 101 = some (90, 5, [(.int .i64 0), (.int .i64 0), (.int .i64 0), (.int .i64 0), (.int .i64 0)], 40) := by kernel_rfl
@[go_sem] theorem fd_116_0 {H : AH} {cs : Array Value} {K : Value → Prop} : rdop Try.prog H (Instr.field 116 (.agg cs) 0) K = wo cs[0]? fun v => nv v K := rdop_fieldF (show fdOf Try.prog 116 0 = some (0, 1, false) by kernel_rfl)
@[go_sem] theorem fd_117_0 {H : AH} {cs : Array Value} {K : Value → Prop} : rdop Try.prog H (Instr.field 117 (.agg cs) 0) K = wo cs[0]? fun v => nv v K := rdop_fieldF (show fdOf Try.prog 117 0 = some (0, 1, false) by kernel_rfl)
@[go_sem] theorem fd_123_0 {H : AH} {cs : Array Value} {K : Value → Prop} : rdop Try.prog H (Instr.field 123 (.agg cs) 0) K = wo cs[0]? fun v => nv v K := rdop_fieldF (show fdOf Try.prog 123 0 = some (0, 1, false) by kernel_rfl)
@[go_sem] theorem fd_123_1 {H : AH} {cs : Array Value} {K : Value → Prop} : rdop Try.prog H (Instr.field 123 (.agg cs) 1) K = wo cs[1]? fun v => nv v K := rdop_fieldF (show fdOf Try.prog 123 1 = some (1, 1, false) by kernel_rfl)
@[go_sem] theorem fd_124_0 {H : AH} {cs : Array Value} {K : Value → Prop} : rdop Try.prog H (Instr.field 124 (.agg cs) 0) K = wo cs[0]? fun v => nv v K := rdop_fieldF (show fdOf Try.prog 124 0 = some (0, 1, false) by kernel_rfl)
@[go_sem] theorem fd_124_1 {H : AH} {cs : Array Value} {K : Value → Prop} : rdop Try.prog H (Instr.field 124 (.agg cs) 1) K = wo cs[1]? fun v => nv v K := rdop_fieldF (show fdOf Try.prog 124 1 = some (1, 1, false) by kernel_rfl)
@[go_sem] theorem fd_126_0 {H : AH} {cs : Array Value} {K : Value → Prop} : rdop Try.prog H (Instr.field 126 (.agg cs) 0) K = nv (.agg (cs.extract 0 4)) K := rdop_fieldT (show fdOf Try.prog 126 0 = some (0, 4, true) by kernel_rfl) (by simp)
@[go_sem] theorem fd_127_0 {H : AH} {cs : Array Value} {K : Value → Prop} : rdop Try.prog H (Instr.field 127 (.agg cs) 0) K = nv (.agg (cs.extract 0 4)) K := rdop_fieldT (show fdOf Try.prog 127 0 = some (0, 4, true) by kernel_rfl) (by simp)
@[go_sem ↓] theorem se_140 : slE Try.prog 140 = some (5, 1, [(.int .u8 0)], 1) := by kernel_rfl
@[go_sem] theorem fd_144_0 {H : AH} {cs : Array Value} {K : Value → Prop} : rdop Try.prog H (Instr.field 144 (.agg cs) 0) K = wo cs[0]? fun v => nv v K := rdop_fieldF (show fdOf Try.prog 144 0 = some (0, 1, false) by kernel_rfl)
@[go_sem] theorem fd_144_1 {H : AH} {cs : Array Value} {K : Value → Prop} : rdop Try.prog H (Instr.field 144 (.agg cs) 1) K = wo cs[1]? fun v => nv v K := rdop_fieldF (show fdOf Try.prog 144 1 = some (1, 1, false) by kernel_rfl)
@[go_sem] theorem fd_144_2 {H : AH} {cs : Array Value} {K : Value → Prop} : rdop Try.prog H (Instr.field 144 (.agg cs) 2) K = wo cs[2]? fun v => nv v K := rdop_fieldF (show fdOf Try.prog 144 2 = some (2, 1, false) by kernel_rfl)
@[go_sem] theorem fd_144_3 {H : AH} {cs : Array Value} {K : Value → Prop} : rdop Try.prog H (Instr.field 144 (.agg cs) 3) K = wo cs[3]? fun v => nv v K := rdop_fieldF (show fdOf Try.prog 144 3 = some (3, 1, false) by kernel_rfl)
@[go_sem] theorem fd_145_0 {H : AH} {cs : Array Value} {K : Value → Prop} : rdop Try.prog H (Instr.field 145 (.agg cs) 0) K = wo cs[0]? fun v => nv v K := rdop_fieldF (show fdOf Try.prog 145 0 = some (0, 1, false) by kernel_rfl)
@[go_sem] theorem fd_145_1 {H : AH} {cs : Array Value} {K : Value → Prop} : rdop Try.prog H (Instr.field 145 (.agg cs) 1) K = wo cs[1]? fun v => nv v K := rdop_fieldF (show fdOf Try.prog 145 1 = some (1, 1, false) by kernel_rfl)
@[go_sem] theorem fd_145_2 {H : AH} {cs : Array Value} {K : Value → Prop} : rdop Try.prog H (Instr.field 145 (.agg cs) 2) K = wo cs[2]? fun v => nv v K := rdop_fieldF (show fdOf Try.prog 145 2 = some (2, 1, false) by kernel_rfl)
@[go_sem] theorem fd_145_3 {H : AH} {cs : Array Value} {K : Value → Prop} : rdop Try.prog H (Instr.field 145 (.agg cs) 3) K = wo cs[3]? fun v => nv v K := rdop_fieldF (show fdOf Try.prog 145 3 = some (3, 1, false) by kernel_rfl)
@[go_sem] theorem fd_155_0 {H : AH} {cs : Array Value} {K : Value → Prop} : rdop Try.prog H (Instr.field 155 (.agg cs) 0) K = wo cs[0]? fun v => nv v K := rdop_fieldF (show fdOf Try.prog 155 0 = some (0, 1, false) by kernel_rfl)
@[go_sem] theorem fd_155_1 {H : AH} {cs : Array Value} {K : Value → Prop} : rdop Try.prog H (Instr.field 155 (.agg cs) 1) K = wo cs[1]? fun v => nv v K := rdop_fieldF (show fdOf Try.prog 155 1 = some (1, 1, false) by kernel_rfl)
@[go_sem] theorem fd_155_2 {H : AH} {cs : Array Value} {K : Value → Prop} : rdop Try.prog H (Instr.field 155 (.agg cs) 2) K = wo cs[2]? fun v => nv v K := rdop_fieldF (show fdOf Try.prog 155 2 = some (2, 1, false) by kernel_rfl)
@[go_sem] theorem fd_155_3 {H : AH} {cs : Array Value} {K : Value → Prop} : rdop Try.prog H (Instr.field 155 (.agg cs) 3) K = wo cs[3]? fun v => nv v K := rdop_fieldF (show fdOf Try.prog 155 3 = some (3, 1, false) by kernel_rfl)
@[go_sem] theorem fd_155_4 {H : AH} {cs : Array Value} {K : Value → Prop} : rdop Try.prog H (Instr.field 155 (.agg cs) 4) K = wo cs[4]? fun v => nv v K := rdop_fieldF (show fdOf Try.prog 155 4 = some (4, 1, false) by kernel_rfl)
@[go_sem] theorem fd_155_5 {H : AH} {cs : Array Value} {K : Value → Prop} : rdop Try.prog H (Instr.field 155 (.agg cs) 5) K = wo cs[5]? fun v => nv v K := rdop_fieldF (show fdOf Try.prog 155 5 = some (5, 1, false) by kernel_rfl)
@[go_sem] theorem fd_155_6 {H : AH} {cs : Array Value} {K : Value → Prop} : rdop Try.prog H (Instr.field 155 (.agg cs) 6) K = wo cs[6]? fun v => nv v K := rdop_fieldF (show fdOf Try.prog 155 6 = some (6, 1, false) by kernel_rfl)
@[go_sem] theorem fd_155_7 {H : AH} {cs : Array Value} {K : Value → Prop} : rdop Try.prog H (Instr.field 155 (.agg cs) 7) K = wo cs[7]? fun v => nv v K := rdop_fieldF (show fdOf Try.prog 155 7 = some (7, 1, false) by kernel_rfl)
@[go_sem] theorem fd_155_8 {H : AH} {cs : Array Value} {K : Value → Prop} : rdop Try.prog H (Instr.field 155 (.agg cs) 8) K = wo cs[8]? fun v => nv v K := rdop_fieldF (show fdOf Try.prog 155 8 = some (8, 1, false) by kernel_rfl)
@[go_sem] theorem fd_155_9 {H : AH} {cs : Array Value} {K : Value → Prop} : rdop Try.prog H (Instr.field 155 (.agg cs) 9) K = wo cs[9]? fun v => nv v K := rdop_fieldF (show fdOf Try.prog 155 9 = some (9, 1, false) by kernel_rfl)
@[go_sem] theorem fd_155_10 {H : AH} {cs : Array Value} {K : Value → Prop} : rdop Try.prog H (Instr.field 155 (.agg cs) 10) K = wo cs[10]? fun v => nv v K := rdop_fieldF (show fdOf Try.prog 155 10 = some (10, 1, false) by kernel_rfl)
@[go_sem] theorem fd_156_0 {H : AH} {cs : Array Value} {K : Value → Prop} : rdop Try.prog H (Instr.field 156 (.agg cs) 0) K = wo cs[0]? fun v => nv v K := rdop_fieldF (show fdOf Try.prog 156 0 = some (0, 1, false) by kernel_rfl)
@[go_sem] theorem fd_156_1 {H : AH} {cs : Array Value} {K : Value → Prop} : rdop Try.prog H (Instr.field 156 (.agg cs) 1) K = wo cs[1]? fun v => nv v K := rdop_fieldF (show fdOf Try.prog 156 1 = some (1, 1, false) by kernel_rfl)
@[go_sem] theorem fd_156_2 {H : AH} {cs : Array Value} {K : Value → Prop} : rdop Try.prog H (Instr.field 156 (.agg cs) 2) K = wo cs[2]? fun v => nv v K := rdop_fieldF (show fdOf Try.prog 156 2 = some (2, 1, false) by kernel_rfl)
@[go_sem] theorem fd_156_3 {H : AH} {cs : Array Value} {K : Value → Prop} : rdop Try.prog H (Instr.field 156 (.agg cs) 3) K = wo cs[3]? fun v => nv v K := rdop_fieldF (show fdOf Try.prog 156 3 = some (3, 1, false) by kernel_rfl)
@[go_sem] theorem fd_156_4 {H : AH} {cs : Array Value} {K : Value → Prop} : rdop Try.prog H (Instr.field 156 (.agg cs) 4) K = wo cs[4]? fun v => nv v K := rdop_fieldF (show fdOf Try.prog 156 4 = some (4, 1, false) by kernel_rfl)
@[go_sem] theorem fd_156_5 {H : AH} {cs : Array Value} {K : Value → Prop} : rdop Try.prog H (Instr.field 156 (.agg cs) 5) K = wo cs[5]? fun v => nv v K := rdop_fieldF (show fdOf Try.prog 156 5 = some (5, 1, false) by kernel_rfl)
@[go_sem] theorem fd_156_6 {H : AH} {cs : Array Value} {K : Value → Prop} : rdop Try.prog H (Instr.field 156 (.agg cs) 6) K = wo cs[6]? fun v => nv v K := rdop_fieldF (show fdOf Try.prog 156 6 = some (6, 1, false) by kernel_rfl)
@[go_sem] theorem fd_156_7 {H : AH} {cs : Array Value} {K : Value → Prop} : rdop Try.prog H (Instr.field 156 (.agg cs) 7) K = wo cs[7]? fun v => nv v K := rdop_fieldF (show fdOf Try.prog 156 7 = some (7, 1, false) by kernel_rfl)
@[go_sem] theorem fd_156_8 {H : AH} {cs : Array Value} {K : Value → Prop} : rdop Try.prog H (Instr.field 156 (.agg cs) 8) K = wo cs[8]? fun v => nv v K := rdop_fieldF (show fdOf Try.prog 156 8 = some (8, 1, false) by kernel_rfl)
@[go_sem] theorem fd_156_9 {H : AH} {cs : Array Value} {K : Value → Prop} : rdop Try.prog H (Instr.field 156 (.agg cs) 9) K = wo cs[9]? fun v => nv v K := rdop_fieldF (show fdOf Try.prog 156 9 = some (9, 1, false) by kernel_rfl)
@[go_sem] theorem fd_156_10 {H : AH} {cs : Array Value} {K : Value → Prop} : rdop Try.prog H (Instr.field 156 (.agg cs) 10) K = wo cs[10]? fun v => nv v K := rdop_fieldF (show fdOf Try.prog 156 10 = some (10, 1, false) by kernel_rfl)
theorem eg_7 : Try.prog.eqGuardType Try.prog.depth 7 = false := by kernel_rfl
theorem st_7 : Try.prog.stoodInHeld 7 = false := by kernel_rfl
theorem eqi_7 {H : AH} {m : Nat} (a0 b0 : Int) (a1 b1 : Int) (a2 b2 : Bool) (a3 b3 : Int) : qrun Try.prog (Op.equalIn (m + 2) 7 (.agg #[.int .i64 a0, .int .i64 a1, .bool a2, .int .u8 a3]) (.agg #[.int .i64 b0, .int .i64 b1, .bool b2, .int .u8 b3])) H = some ((a0 == b0) && ((a1 == b1) && ((a2 == b2) && (a3 == b3)))) := by
  have h := eqIn_struct (P := Try.prog) (H := H) (m := m + 1) (xs := #[.int .i64 a0, .int .i64 a1, .bool a2, .int .u8 a3]) (ys := #[.int .i64 b0, .int .i64 b1, .bool b2, .int .u8 b3]) (T := fun f => if f.offset = 0 then (a0 == b0) else if f.offset = 1 then (a1 == b1) else if f.offset = 2 then (a2 == b2) else if f.offset = 3 then (a3 == b3) else true) Try.underlying7 st_7 (by
    simp only [List.mem_cons, List.not_mem_nil, or_false]
    rintro f (rfl | rfl | rfl | rfl)
    · exact ⟨by decide, (.int .i64 a0), (.int .i64 b0), part_scal ag_2 rfl, part_scal ag_2 rfl, eqIn_int Try.underlying2⟩
    · exact ⟨by decide, (.int .i64 a1), (.int .i64 b1), part_scal ag_3 rfl, part_scal ag_3 rfl, eqIn_int Try.underlying3⟩
    · exact ⟨by decide, (.bool a2), (.bool b2), part_scal ag_4 rfl, part_scal ag_4 rfl, eqIn_bool Try.underlying4⟩
    · exact ⟨by decide, (.int .u8 a3), (.int .u8 b3), part_scal ag_6 rfl, part_scal ag_6 rfl, eqIn_int Try.underlying6⟩)
  rw [h]; simp [Bool.and_assoc]
@[go_sem] theorem eql_7 {H : AH} {u : Option TypeDesc} {x y : Operand} {kk : Value → Prop} {a0 b0 : Int} {a1 b1 : Int} {a2 b2 : Bool} {a3 b3 : Int} : bin u Try.prog H .eql 7 x y (.agg #[.int .i64 a0, .int .i64 a1, .bool a2, .int .u8 a3]) (.agg #[.int .i64 b0, .int .i64 b1, .bool b2, .int .u8 b3]) kk = (u = Try.prog.underlying 7 ∧ nv (.bool ((a0 == b0) && ((a1 == b1) && ((a2 == b2) && (a3 == b3))))) kk) := bin_eql_of (eqg_agg eg_7) rfl fun _ => eqi_7 (m := 9998) a0 b0 a1 b1 a2 b2 a3 b3
@[go_sem] theorem neq_7 {H : AH} {u : Option TypeDesc} {x y : Operand} {kk : Value → Prop} {a0 b0 : Int} {a1 b1 : Int} {a2 b2 : Bool} {a3 b3 : Int} : bin u Try.prog H .neq 7 x y (.agg #[.int .i64 a0, .int .i64 a1, .bool a2, .int .u8 a3]) (.agg #[.int .i64 b0, .int .i64 b1, .bool b2, .int .u8 b3]) kk = (u = Try.prog.underlying 7 ∧ nv (.bool (!((a0 == b0) && ((a1 == b1) && ((a2 == b2) && (a3 == b3)))))) kk) := bin_neq_of (eqg_agg eg_7) rfl fun _ => eqi_7 (m := 9998) a0 b0 a1 b1 a2 b2 a3 b3
theorem eg_8 : Try.prog.eqGuardType Try.prog.depth 8 = false := by kernel_rfl
theorem st_8 : Try.prog.stoodInHeld 8 = false := by kernel_rfl
theorem eqi_8 {H : AH} {m : Nat} (a0 b0 : Int) (a1 b1 : Int) (a2 b2 : Bool) (a3 b3 : Int) : qrun Try.prog (Op.equalIn (m + 2) 8 (.agg #[.int .i64 a0, .int .i64 a1, .bool a2, .int .u8 a3]) (.agg #[.int .i64 b0, .int .i64 b1, .bool b2, .int .u8 b3])) H = some ((a0 == b0) && ((a1 == b1) && ((a2 == b2) && (a3 == b3)))) := by
  have h := eqIn_struct (P := Try.prog) (H := H) (m := m + 1) (xs := #[.int .i64 a0, .int .i64 a1, .bool a2, .int .u8 a3]) (ys := #[.int .i64 b0, .int .i64 b1, .bool b2, .int .u8 b3]) (T := fun f => if f.offset = 0 then (a0 == b0) else if f.offset = 1 then (a1 == b1) else if f.offset = 2 then (a2 == b2) else if f.offset = 3 then (a3 == b3) else true) Try.underlying8 st_8 (by
    simp only [List.mem_cons, List.not_mem_nil, or_false]
    rintro f (rfl | rfl | rfl | rfl)
    · exact ⟨by decide, (.int .i64 a0), (.int .i64 b0), part_scal ag_2 rfl, part_scal ag_2 rfl, eqIn_int Try.underlying2⟩
    · exact ⟨by decide, (.int .i64 a1), (.int .i64 b1), part_scal ag_3 rfl, part_scal ag_3 rfl, eqIn_int Try.underlying3⟩
    · exact ⟨by decide, (.bool a2), (.bool b2), part_scal ag_4 rfl, part_scal ag_4 rfl, eqIn_bool Try.underlying4⟩
    · exact ⟨by decide, (.int .u8 a3), (.int .u8 b3), part_scal ag_6 rfl, part_scal ag_6 rfl, eqIn_int Try.underlying6⟩)
  rw [h]; simp [Bool.and_assoc]
@[go_sem] theorem eql_8 {H : AH} {u : Option TypeDesc} {x y : Operand} {kk : Value → Prop} {a0 b0 : Int} {a1 b1 : Int} {a2 b2 : Bool} {a3 b3 : Int} : bin u Try.prog H .eql 8 x y (.agg #[.int .i64 a0, .int .i64 a1, .bool a2, .int .u8 a3]) (.agg #[.int .i64 b0, .int .i64 b1, .bool b2, .int .u8 b3]) kk = (u = Try.prog.underlying 8 ∧ nv (.bool ((a0 == b0) && ((a1 == b1) && ((a2 == b2) && (a3 == b3))))) kk) := bin_eql_of (eqg_agg eg_8) rfl fun _ => eqi_8 (m := 9998) a0 b0 a1 b1 a2 b2 a3 b3
@[go_sem] theorem neq_8 {H : AH} {u : Option TypeDesc} {x y : Operand} {kk : Value → Prop} {a0 b0 : Int} {a1 b1 : Int} {a2 b2 : Bool} {a3 b3 : Int} : bin u Try.prog H .neq 8 x y (.agg #[.int .i64 a0, .int .i64 a1, .bool a2, .int .u8 a3]) (.agg #[.int .i64 b0, .int .i64 b1, .bool b2, .int .u8 b3]) kk = (u = Try.prog.underlying 8 ∧ nv (.bool (!((a0 == b0) && ((a1 == b1) && ((a2 == b2) && (a3 == b3)))))) kk) := bin_neq_of (eqg_agg eg_8) rfl fun _ => eqi_8 (m := 9998) a0 b0 a1 b1 a2 b2 a3 b3
theorem eg_63 : Try.prog.eqGuardType Try.prog.depth 63 = false := by kernel_rfl
theorem eqi_63 {H : AH} {m : Nat} (a0 b0 : Int) (a1 b1 : Int) (a2 b2 : Int) (a3 b3 : Int) : qrun Try.prog (Op.equalIn (m + 2) 63 (.agg #[.int .u8 a0, .int .u8 a1, .int .u8 a2, .int .u8 a3]) (.agg #[.int .u8 b0, .int .u8 b1, .int .u8 b2, .int .u8 b3])) H = some ((a0 == b0) && ((a1 == b1) && ((a2 == b2) && (a3 == b3)))) := by
  have h := eqIn_array (P := Try.prog) (H := H) (m := m + 1) (xs := #[.int .u8 a0, .int .u8 a1, .int .u8 a2, .int .u8 a3]) (ys := #[.int .u8 b0, .int .u8 b1, .int .u8 b2, .int .u8 b3]) (T := fun i => ([(a0 == b0), (a1 == b1), (a2 == b2), (a3 == b3)] : List Bool).getD i false) Try.underlying63 (info_sz sz_5 (by simp)) (fun i hi => by
    match i, hi with
    | 0, _ => exact ⟨(.int .u8 a0), (.int .u8 b0), part_scal ag_5 rfl, part_scal ag_5 rfl, eqIn_int Try.underlying5⟩
    | 1, _ => exact ⟨(.int .u8 a1), (.int .u8 b1), part_scal ag_5 rfl, part_scal ag_5 rfl, eqIn_int Try.underlying5⟩
    | 2, _ => exact ⟨(.int .u8 a2), (.int .u8 b2), part_scal ag_5 rfl, part_scal ag_5 rfl, eqIn_int Try.underlying5⟩
    | 3, _ => exact ⟨(.int .u8 a3), (.int .u8 b3), part_scal ag_5 rfl, part_scal ag_5 rfl, eqIn_int Try.underlying5⟩
    | _ + 4, hi => omega)
  rw [h]; simp [List.range_succ, Bool.and_assoc]
@[go_sem] theorem eql_63 {H : AH} {u : Option TypeDesc} {x y : Operand} {kk : Value → Prop} {a0 b0 : Int} {a1 b1 : Int} {a2 b2 : Int} {a3 b3 : Int} : bin u Try.prog H .eql 63 x y (.agg #[.int .u8 a0, .int .u8 a1, .int .u8 a2, .int .u8 a3]) (.agg #[.int .u8 b0, .int .u8 b1, .int .u8 b2, .int .u8 b3]) kk = (u = Try.prog.underlying 63 ∧ nv (.bool ((a0 == b0) && ((a1 == b1) && ((a2 == b2) && (a3 == b3))))) kk) := bin_eql_of (eqg_agg eg_63) rfl fun _ => eqi_63 (m := 9998) a0 b0 a1 b1 a2 b2 a3 b3
@[go_sem] theorem neq_63 {H : AH} {u : Option TypeDesc} {x y : Operand} {kk : Value → Prop} {a0 b0 : Int} {a1 b1 : Int} {a2 b2 : Int} {a3 b3 : Int} : bin u Try.prog H .neq 63 x y (.agg #[.int .u8 a0, .int .u8 a1, .int .u8 a2, .int .u8 a3]) (.agg #[.int .u8 b0, .int .u8 b1, .int .u8 b2, .int .u8 b3]) kk = (u = Try.prog.underlying 63 ∧ nv (.bool (!((a0 == b0) && ((a1 == b1) && ((a2 == b2) && (a3 == b3)))))) kk) := bin_neq_of (eqg_agg eg_63) rfl fun _ => eqi_63 (m := 9998) a0 b0 a1 b1 a2 b2 a3 b3
theorem eg_64 : Try.prog.eqGuardType Try.prog.depth 64 = false := by kernel_rfl
theorem eqi_64 {H : AH} {m : Nat} (a0 b0 : Int) (a1 b1 : Int) (a2 b2 : Int) (a3 b3 : Int) : qrun Try.prog (Op.equalIn (m + 2) 64 (.agg #[.int .u8 a0, .int .u8 a1, .int .u8 a2, .int .u8 a3]) (.agg #[.int .u8 b0, .int .u8 b1, .int .u8 b2, .int .u8 b3])) H = some ((a0 == b0) && ((a1 == b1) && ((a2 == b2) && (a3 == b3)))) := by
  have h := eqIn_array (P := Try.prog) (H := H) (m := m + 1) (xs := #[.int .u8 a0, .int .u8 a1, .int .u8 a2, .int .u8 a3]) (ys := #[.int .u8 b0, .int .u8 b1, .int .u8 b2, .int .u8 b3]) (T := fun i => ([(a0 == b0), (a1 == b1), (a2 == b2), (a3 == b3)] : List Bool).getD i false) Try.underlying64 (info_sz sz_5 (by simp)) (fun i hi => by
    match i, hi with
    | 0, _ => exact ⟨(.int .u8 a0), (.int .u8 b0), part_scal ag_5 rfl, part_scal ag_5 rfl, eqIn_int Try.underlying5⟩
    | 1, _ => exact ⟨(.int .u8 a1), (.int .u8 b1), part_scal ag_5 rfl, part_scal ag_5 rfl, eqIn_int Try.underlying5⟩
    | 2, _ => exact ⟨(.int .u8 a2), (.int .u8 b2), part_scal ag_5 rfl, part_scal ag_5 rfl, eqIn_int Try.underlying5⟩
    | 3, _ => exact ⟨(.int .u8 a3), (.int .u8 b3), part_scal ag_5 rfl, part_scal ag_5 rfl, eqIn_int Try.underlying5⟩
    | _ + 4, hi => omega)
  rw [h]; simp [List.range_succ, Bool.and_assoc]
@[go_sem] theorem eql_64 {H : AH} {u : Option TypeDesc} {x y : Operand} {kk : Value → Prop} {a0 b0 : Int} {a1 b1 : Int} {a2 b2 : Int} {a3 b3 : Int} : bin u Try.prog H .eql 64 x y (.agg #[.int .u8 a0, .int .u8 a1, .int .u8 a2, .int .u8 a3]) (.agg #[.int .u8 b0, .int .u8 b1, .int .u8 b2, .int .u8 b3]) kk = (u = Try.prog.underlying 64 ∧ nv (.bool ((a0 == b0) && ((a1 == b1) && ((a2 == b2) && (a3 == b3))))) kk) := bin_eql_of (eqg_agg eg_64) rfl fun _ => eqi_64 (m := 9998) a0 b0 a1 b1 a2 b2 a3 b3
@[go_sem] theorem neq_64 {H : AH} {u : Option TypeDesc} {x y : Operand} {kk : Value → Prop} {a0 b0 : Int} {a1 b1 : Int} {a2 b2 : Int} {a3 b3 : Int} : bin u Try.prog H .neq 64 x y (.agg #[.int .u8 a0, .int .u8 a1, .int .u8 a2, .int .u8 a3]) (.agg #[.int .u8 b0, .int .u8 b1, .int .u8 b2, .int .u8 b3]) kk = (u = Try.prog.underlying 64 ∧ nv (.bool (!((a0 == b0) && ((a1 == b1) && ((a2 == b2) && (a3 == b3)))))) kk) := bin_neq_of (eqg_agg eg_64) rfl fun _ => eqi_64 (m := 9998) a0 b0 a1 b1 a2 b2 a3 b3
theorem eg_72 : Try.prog.eqGuardType Try.prog.depth 72 = false := by kernel_rfl
theorem st_72 : Try.prog.stoodInHeld 72 = false := by kernel_rfl
theorem eqi_72 {H : AH} {m : Nat} (a0 b0 : Int) (a1 b1 : Int) : qrun Try.prog (Op.equalIn (m + 2) 72 (.agg #[.int .u8 a0, .int .i64 a1]) (.agg #[.int .u8 b0, .int .i64 b1])) H = some ((a0 == b0) && (a1 == b1)) := by
  have h := eqIn_struct (P := Try.prog) (H := H) (m := m + 1) (xs := #[.int .u8 a0, .int .i64 a1]) (ys := #[.int .u8 b0, .int .i64 b1]) (T := fun f => if f.offset = 0 then (a0 == b0) else if f.offset = 1 then (a1 == b1) else true) Try.underlying72 st_72 (by
    simp only [List.mem_cons, List.not_mem_nil, or_false]
    rintro f (rfl | rfl)
    · exact ⟨by decide, (.int .u8 a0), (.int .u8 b0), part_scal ag_5 rfl, part_scal ag_5 rfl, eqIn_int Try.underlying5⟩
    · exact ⟨by decide, (.int .i64 a1), (.int .i64 b1), part_scal ag_3 rfl, part_scal ag_3 rfl, eqIn_int Try.underlying3⟩)
  rw [h]; simp [Bool.and_assoc]
@[go_sem] theorem eql_72 {H : AH} {u : Option TypeDesc} {x y : Operand} {kk : Value → Prop} {a0 b0 : Int} {a1 b1 : Int} : bin u Try.prog H .eql 72 x y (.agg #[.int .u8 a0, .int .i64 a1]) (.agg #[.int .u8 b0, .int .i64 b1]) kk = (u = Try.prog.underlying 72 ∧ nv (.bool ((a0 == b0) && (a1 == b1))) kk) := bin_eql_of (eqg_agg eg_72) rfl fun _ => eqi_72 (m := 9998) a0 b0 a1 b1
@[go_sem] theorem neq_72 {H : AH} {u : Option TypeDesc} {x y : Operand} {kk : Value → Prop} {a0 b0 : Int} {a1 b1 : Int} : bin u Try.prog H .neq 72 x y (.agg #[.int .u8 a0, .int .i64 a1]) (.agg #[.int .u8 b0, .int .i64 b1]) kk = (u = Try.prog.underlying 72 ∧ nv (.bool (!((a0 == b0) && (a1 == b1)))) kk) := bin_neq_of (eqg_agg eg_72) rfl fun _ => eqi_72 (m := 9998) a0 b0 a1 b1
theorem eg_73 : Try.prog.eqGuardType Try.prog.depth 73 = false := by kernel_rfl
theorem st_73 : Try.prog.stoodInHeld 73 = false := by kernel_rfl
theorem eqi_73 {H : AH} {m : Nat} (a0 b0 : Int) (a1 b1 : Int) : qrun Try.prog (Op.equalIn (m + 2) 73 (.agg #[.int .u8 a0, .int .i64 a1]) (.agg #[.int .u8 b0, .int .i64 b1])) H = some ((a0 == b0) && (a1 == b1)) := by
  have h := eqIn_struct (P := Try.prog) (H := H) (m := m + 1) (xs := #[.int .u8 a0, .int .i64 a1]) (ys := #[.int .u8 b0, .int .i64 b1]) (T := fun f => if f.offset = 0 then (a0 == b0) else if f.offset = 1 then (a1 == b1) else true) Try.underlying73 st_73 (by
    simp only [List.mem_cons, List.not_mem_nil, or_false]
    rintro f (rfl | rfl)
    · exact ⟨by decide, (.int .u8 a0), (.int .u8 b0), part_scal ag_5 rfl, part_scal ag_5 rfl, eqIn_int Try.underlying5⟩
    · exact ⟨by decide, (.int .i64 a1), (.int .i64 b1), part_scal ag_3 rfl, part_scal ag_3 rfl, eqIn_int Try.underlying3⟩)
  rw [h]; simp [Bool.and_assoc]
@[go_sem] theorem eql_73 {H : AH} {u : Option TypeDesc} {x y : Operand} {kk : Value → Prop} {a0 b0 : Int} {a1 b1 : Int} : bin u Try.prog H .eql 73 x y (.agg #[.int .u8 a0, .int .i64 a1]) (.agg #[.int .u8 b0, .int .i64 b1]) kk = (u = Try.prog.underlying 73 ∧ nv (.bool ((a0 == b0) && (a1 == b1))) kk) := bin_eql_of (eqg_agg eg_73) rfl fun _ => eqi_73 (m := 9998) a0 b0 a1 b1
@[go_sem] theorem neq_73 {H : AH} {u : Option TypeDesc} {x y : Operand} {kk : Value → Prop} {a0 b0 : Int} {a1 b1 : Int} : bin u Try.prog H .neq 73 x y (.agg #[.int .u8 a0, .int .i64 a1]) (.agg #[.int .u8 b0, .int .i64 b1]) kk = (u = Try.prog.underlying 73 ∧ nv (.bool (!((a0 == b0) && (a1 == b1)))) kk) := bin_neq_of (eqg_agg eg_73) rfl fun _ => eqi_73 (m := 9998) a0 b0 a1 b1
theorem eg_77 : Try.prog.eqGuardType Try.prog.depth 77 = false := by kernel_rfl
theorem eqi_77 {H : AH} {m : Nat} (a0 b0 : Int) (a1 b1 : Int) : qrun Try.prog (Op.equalIn (m + 2) 77 (.agg #[.int .i64 a0, .int .i64 a1]) (.agg #[.int .i64 b0, .int .i64 b1])) H = some ((a0 == b0) && (a1 == b1)) := by
  have h := eqIn_array (P := Try.prog) (H := H) (m := m + 1) (xs := #[.int .i64 a0, .int .i64 a1]) (ys := #[.int .i64 b0, .int .i64 b1]) (T := fun i => ([(a0 == b0), (a1 == b1)] : List Bool).getD i false) Try.underlying77 (info_sz sz_3 (by simp)) (fun i hi => by
    match i, hi with
    | 0, _ => exact ⟨(.int .i64 a0), (.int .i64 b0), part_scal ag_3 rfl, part_scal ag_3 rfl, eqIn_int Try.underlying3⟩
    | 1, _ => exact ⟨(.int .i64 a1), (.int .i64 b1), part_scal ag_3 rfl, part_scal ag_3 rfl, eqIn_int Try.underlying3⟩
    | _ + 2, hi => omega)
  rw [h]; simp [List.range_succ, Bool.and_assoc]
@[go_sem] theorem eql_77 {H : AH} {u : Option TypeDesc} {x y : Operand} {kk : Value → Prop} {a0 b0 : Int} {a1 b1 : Int} : bin u Try.prog H .eql 77 x y (.agg #[.int .i64 a0, .int .i64 a1]) (.agg #[.int .i64 b0, .int .i64 b1]) kk = (u = Try.prog.underlying 77 ∧ nv (.bool ((a0 == b0) && (a1 == b1))) kk) := bin_eql_of (eqg_agg eg_77) rfl fun _ => eqi_77 (m := 9998) a0 b0 a1 b1
@[go_sem] theorem neq_77 {H : AH} {u : Option TypeDesc} {x y : Operand} {kk : Value → Prop} {a0 b0 : Int} {a1 b1 : Int} : bin u Try.prog H .neq 77 x y (.agg #[.int .i64 a0, .int .i64 a1]) (.agg #[.int .i64 b0, .int .i64 b1]) kk = (u = Try.prog.underlying 77 ∧ nv (.bool (!((a0 == b0) && (a1 == b1)))) kk) := bin_neq_of (eqg_agg eg_77) rfl fun _ => eqi_77 (m := 9998) a0 b0 a1 b1
theorem eg_78 : Try.prog.eqGuardType Try.prog.depth 78 = false := by kernel_rfl
theorem st_78 : Try.prog.stoodInHeld 78 = false := by kernel_rfl
theorem eqi_78 {H : AH} {m : Nat} (a0 b0 : Int) (a1 b1 : Int) (a2 b2 : Int) (a3 b3 : Int) (a4 b4 : Int) (a5 b5 : Int) : qrun Try.prog (Op.equalIn (m + 3) 78 (.agg #[.int .i64 a0, .int .i64 a1, .int .i64 a2, .int .i64 a3, .int .i64 a4, .int .i64 a5]) (.agg #[.int .i64 b0, .int .i64 b1, .int .i64 b2, .int .i64 b3, .int .i64 b4, .int .i64 b5])) H = some ((a0 == b0) && ((a1 == b1) && ((a2 == b2) && ((a3 == b3) && ((a4 == b4) && (a5 == b5)))))) := by
  have h := eqIn_struct (P := Try.prog) (H := H) (m := m + 2) (xs := #[.int .i64 a0, .int .i64 a1, .int .i64 a2, .int .i64 a3, .int .i64 a4, .int .i64 a5]) (ys := #[.int .i64 b0, .int .i64 b1, .int .i64 b2, .int .i64 b3, .int .i64 b4, .int .i64 b5]) (T := fun f => if f.offset = 0 then ((a0 == b0) && (a1 == b1)) else if f.offset = 2 then ((a2 == b2) && (a3 == b3)) else if f.offset = 4 then (a4 == b4) else if f.offset = 5 then (a5 == b5) else true) Try.underlying78 st_78 (by
    simp only [List.mem_cons, List.not_mem_nil, or_false]
    rintro f (rfl | rfl | rfl | rfl)
    · exact ⟨by decide, (.agg #[.int .i64 a0, .int .i64 a1]), (.agg #[.int .i64 b0, .int .i64 b1]), part_agg ag_77 (info_sz sz_77 (by simp)), part_agg ag_77 (info_sz sz_77 (by simp)), eqi_77 (m := m + 0) a0 b0 a1 b1⟩
    · exact ⟨by decide, (.agg #[.int .i64 a2, .int .i64 a3]), (.agg #[.int .i64 b2, .int .i64 b3]), part_agg ag_77 (info_sz sz_77 (by simp)), part_agg ag_77 (info_sz sz_77 (by simp)), eqi_77 (m := m + 0) a2 b2 a3 b3⟩
    · exact ⟨by decide, (.int .i64 a4), (.int .i64 b4), part_scal ag_3 rfl, part_scal ag_3 rfl, eqIn_int Try.underlying3⟩
    · exact ⟨by decide, (.int .i64 a5), (.int .i64 b5), part_scal ag_3 rfl, part_scal ag_3 rfl, eqIn_int Try.underlying3⟩)
  rw [h]; simp [Bool.and_assoc]
@[go_sem] theorem eql_78 {H : AH} {u : Option TypeDesc} {x y : Operand} {kk : Value → Prop} {a0 b0 : Int} {a1 b1 : Int} {a2 b2 : Int} {a3 b3 : Int} {a4 b4 : Int} {a5 b5 : Int} : bin u Try.prog H .eql 78 x y (.agg #[.int .i64 a0, .int .i64 a1, .int .i64 a2, .int .i64 a3, .int .i64 a4, .int .i64 a5]) (.agg #[.int .i64 b0, .int .i64 b1, .int .i64 b2, .int .i64 b3, .int .i64 b4, .int .i64 b5]) kk = (u = Try.prog.underlying 78 ∧ nv (.bool ((a0 == b0) && ((a1 == b1) && ((a2 == b2) && ((a3 == b3) && ((a4 == b4) && (a5 == b5))))))) kk) := bin_eql_of (eqg_agg eg_78) rfl fun _ => eqi_78 (m := 9997) a0 b0 a1 b1 a2 b2 a3 b3 a4 b4 a5 b5
@[go_sem] theorem neq_78 {H : AH} {u : Option TypeDesc} {x y : Operand} {kk : Value → Prop} {a0 b0 : Int} {a1 b1 : Int} {a2 b2 : Int} {a3 b3 : Int} {a4 b4 : Int} {a5 b5 : Int} : bin u Try.prog H .neq 78 x y (.agg #[.int .i64 a0, .int .i64 a1, .int .i64 a2, .int .i64 a3, .int .i64 a4, .int .i64 a5]) (.agg #[.int .i64 b0, .int .i64 b1, .int .i64 b2, .int .i64 b3, .int .i64 b4, .int .i64 b5]) kk = (u = Try.prog.underlying 78 ∧ nv (.bool (!((a0 == b0) && ((a1 == b1) && ((a2 == b2) && ((a3 == b3) && ((a4 == b4) && (a5 == b5)))))))) kk) := bin_neq_of (eqg_agg eg_78) rfl fun _ => eqi_78 (m := 9997) a0 b0 a1 b1 a2 b2 a3 b3 a4 b4 a5 b5
theorem eg_79 : Try.prog.eqGuardType Try.prog.depth 79 = false := by kernel_rfl
theorem st_79 : Try.prog.stoodInHeld 79 = false := by kernel_rfl
theorem eqi_79 {H : AH} {m : Nat} (a0 b0 : Int) (a1 b1 : Int) (a2 b2 : Int) (a3 b3 : Int) (a4 b4 : Int) (a5 b5 : Int) : qrun Try.prog (Op.equalIn (m + 3) 79 (.agg #[.int .i64 a0, .int .i64 a1, .int .i64 a2, .int .i64 a3, .int .i64 a4, .int .i64 a5]) (.agg #[.int .i64 b0, .int .i64 b1, .int .i64 b2, .int .i64 b3, .int .i64 b4, .int .i64 b5])) H = some ((a0 == b0) && ((a1 == b1) && ((a2 == b2) && ((a3 == b3) && ((a4 == b4) && (a5 == b5)))))) := by
  have h := eqIn_struct (P := Try.prog) (H := H) (m := m + 2) (xs := #[.int .i64 a0, .int .i64 a1, .int .i64 a2, .int .i64 a3, .int .i64 a4, .int .i64 a5]) (ys := #[.int .i64 b0, .int .i64 b1, .int .i64 b2, .int .i64 b3, .int .i64 b4, .int .i64 b5]) (T := fun f => if f.offset = 0 then ((a0 == b0) && (a1 == b1)) else if f.offset = 2 then ((a2 == b2) && (a3 == b3)) else if f.offset = 4 then (a4 == b4) else if f.offset = 5 then (a5 == b5) else true) Try.underlying79 st_79 (by
    simp only [List.mem_cons, List.not_mem_nil, or_false]
    rintro f (rfl | rfl | rfl | rfl)
    · exact ⟨by decide, (.agg #[.int .i64 a0, .int .i64 a1]), (.agg #[.int .i64 b0, .int .i64 b1]), part_agg ag_77 (info_sz sz_77 (by simp)), part_agg ag_77 (info_sz sz_77 (by simp)), eqi_77 (m := m + 0) a0 b0 a1 b1⟩
    · exact ⟨by decide, (.agg #[.int .i64 a2, .int .i64 a3]), (.agg #[.int .i64 b2, .int .i64 b3]), part_agg ag_77 (info_sz sz_77 (by simp)), part_agg ag_77 (info_sz sz_77 (by simp)), eqi_77 (m := m + 0) a2 b2 a3 b3⟩
    · exact ⟨by decide, (.int .i64 a4), (.int .i64 b4), part_scal ag_3 rfl, part_scal ag_3 rfl, eqIn_int Try.underlying3⟩
    · exact ⟨by decide, (.int .i64 a5), (.int .i64 b5), part_scal ag_3 rfl, part_scal ag_3 rfl, eqIn_int Try.underlying3⟩)
  rw [h]; simp [Bool.and_assoc]
@[go_sem] theorem eql_79 {H : AH} {u : Option TypeDesc} {x y : Operand} {kk : Value → Prop} {a0 b0 : Int} {a1 b1 : Int} {a2 b2 : Int} {a3 b3 : Int} {a4 b4 : Int} {a5 b5 : Int} : bin u Try.prog H .eql 79 x y (.agg #[.int .i64 a0, .int .i64 a1, .int .i64 a2, .int .i64 a3, .int .i64 a4, .int .i64 a5]) (.agg #[.int .i64 b0, .int .i64 b1, .int .i64 b2, .int .i64 b3, .int .i64 b4, .int .i64 b5]) kk = (u = Try.prog.underlying 79 ∧ nv (.bool ((a0 == b0) && ((a1 == b1) && ((a2 == b2) && ((a3 == b3) && ((a4 == b4) && (a5 == b5))))))) kk) := bin_eql_of (eqg_agg eg_79) rfl fun _ => eqi_79 (m := 9997) a0 b0 a1 b1 a2 b2 a3 b3 a4 b4 a5 b5
@[go_sem] theorem neq_79 {H : AH} {u : Option TypeDesc} {x y : Operand} {kk : Value → Prop} {a0 b0 : Int} {a1 b1 : Int} {a2 b2 : Int} {a3 b3 : Int} {a4 b4 : Int} {a5 b5 : Int} : bin u Try.prog H .neq 79 x y (.agg #[.int .i64 a0, .int .i64 a1, .int .i64 a2, .int .i64 a3, .int .i64 a4, .int .i64 a5]) (.agg #[.int .i64 b0, .int .i64 b1, .int .i64 b2, .int .i64 b3, .int .i64 b4, .int .i64 b5]) kk = (u = Try.prog.underlying 79 ∧ nv (.bool (!((a0 == b0) && ((a1 == b1) && ((a2 == b2) && ((a3 == b3) && ((a4 == b4) && (a5 == b5)))))))) kk) := bin_neq_of (eqg_agg eg_79) rfl fun _ => eqi_79 (m := 9997) a0 b0 a1 b1 a2 b2 a3 b3 a4 b4 a5 b5
theorem eg_81 : Try.prog.eqGuardType Try.prog.depth 81 = false := by kernel_rfl
theorem eqi_81 {H : AH} {m : Nat} (a0 b0 : Bool) (a1 b1 : Bool) : qrun Try.prog (Op.equalIn (m + 2) 81 (.agg #[.bool a0, .bool a1]) (.agg #[.bool b0, .bool b1])) H = some ((a0 == b0) && (a1 == b1)) := by
  have h := eqIn_array (P := Try.prog) (H := H) (m := m + 1) (xs := #[.bool a0, .bool a1]) (ys := #[.bool b0, .bool b1]) (T := fun i => ([(a0 == b0), (a1 == b1)] : List Bool).getD i false) Try.underlying81 (info_sz sz_4 (by simp)) (fun i hi => by
    match i, hi with
    | 0, _ => exact ⟨(.bool a0), (.bool b0), part_scal ag_4 rfl, part_scal ag_4 rfl, eqIn_bool Try.underlying4⟩
    | 1, _ => exact ⟨(.bool a1), (.bool b1), part_scal ag_4 rfl, part_scal ag_4 rfl, eqIn_bool Try.underlying4⟩
    | _ + 2, hi => omega)
  rw [h]; simp [List.range_succ, Bool.and_assoc]
@[go_sem] theorem eql_81 {H : AH} {u : Option TypeDesc} {x y : Operand} {kk : Value → Prop} {a0 b0 : Bool} {a1 b1 : Bool} : bin u Try.prog H .eql 81 x y (.agg #[.bool a0, .bool a1]) (.agg #[.bool b0, .bool b1]) kk = (u = Try.prog.underlying 81 ∧ nv (.bool ((a0 == b0) && (a1 == b1))) kk) := bin_eql_of (eqg_agg eg_81) rfl fun _ => eqi_81 (m := 9998) a0 b0 a1 b1
@[go_sem] theorem neq_81 {H : AH} {u : Option TypeDesc} {x y : Operand} {kk : Value → Prop} {a0 b0 : Bool} {a1 b1 : Bool} : bin u Try.prog H .neq 81 x y (.agg #[.bool a0, .bool a1]) (.agg #[.bool b0, .bool b1]) kk = (u = Try.prog.underlying 81 ∧ nv (.bool (!((a0 == b0) && (a1 == b1)))) kk) := bin_neq_of (eqg_agg eg_81) rfl fun _ => eqi_81 (m := 9998) a0 b0 a1 b1
theorem eg_89 : Try.prog.eqGuardType Try.prog.depth 89 = false := by kernel_rfl
theorem st_89 : Try.prog.stoodInHeld 89 = false := by kernel_rfl
theorem eqi_89 {H : AH} {m : Nat} (a0 b0 : Int) (a1 b1 : Int) (a2 b2 : Int) (a3 b3 : Int) (a4 b4 : Int) : qrun Try.prog (Op.equalIn (m + 2) 89 (.agg #[.int .i64 a0, .int .i64 a1, .int .i64 a2, .int .i64 a3, .int .i64 a4]) (.agg #[.int .i64 b0, .int .i64 b1, .int .i64 b2, .int .i64 b3, .int .i64 b4])) H = some ((a0 == b0) && ((a1 == b1) && ((a2 == b2) && ((a3 == b3) && (a4 == b4))))) := by
  have h := eqIn_struct (P := Try.prog) (H := H) (m := m + 1) (xs := #[.int .i64 a0, .int .i64 a1, .int .i64 a2, .int .i64 a3, .int .i64 a4]) (ys := #[.int .i64 b0, .int .i64 b1, .int .i64 b2, .int .i64 b3, .int .i64 b4]) (T := fun f => if f.offset = 0 then (a0 == b0) else if f.offset = 1 then (a1 == b1) else if f.offset = 2 then (a2 == b2) else if f.offset = 3 then (a3 == b3) else if f.offset = 4 then (a4 == b4) else true) Try.underlying89 st_89 (by
    simp only [List.mem_cons, List.not_mem_nil, or_false]
    rintro f (rfl | rfl | rfl | rfl | rfl)
    · exact ⟨by decide, (.int .i64 a0), (.int .i64 b0), part_scal ag_3 rfl, part_scal ag_3 rfl, eqIn_int Try.underlying3⟩
    · exact ⟨by decide, (.int .i64 a1), (.int .i64 b1), part_scal ag_3 rfl, part_scal ag_3 rfl, eqIn_int Try.underlying3⟩
    · exact ⟨by decide, (.int .i64 a2), (.int .i64 b2), part_scal ag_3 rfl, part_scal ag_3 rfl, eqIn_int Try.underlying3⟩
    · exact ⟨by decide, (.int .i64 a3), (.int .i64 b3), part_scal ag_3 rfl, part_scal ag_3 rfl, eqIn_int Try.underlying3⟩
    · exact ⟨by decide, (.int .i64 a4), (.int .i64 b4), part_scal ag_3 rfl, part_scal ag_3 rfl, eqIn_int Try.underlying3⟩)
  rw [h]; simp [Bool.and_assoc]
@[go_sem] theorem eql_89 {H : AH} {u : Option TypeDesc} {x y : Operand} {kk : Value → Prop} {a0 b0 : Int} {a1 b1 : Int} {a2 b2 : Int} {a3 b3 : Int} {a4 b4 : Int} : bin u Try.prog H .eql 89 x y (.agg #[.int .i64 a0, .int .i64 a1, .int .i64 a2, .int .i64 a3, .int .i64 a4]) (.agg #[.int .i64 b0, .int .i64 b1, .int .i64 b2, .int .i64 b3, .int .i64 b4]) kk = (u = Try.prog.underlying 89 ∧ nv (.bool ((a0 == b0) && ((a1 == b1) && ((a2 == b2) && ((a3 == b3) && (a4 == b4)))))) kk) := bin_eql_of (eqg_agg eg_89) rfl fun _ => eqi_89 (m := 9998) a0 b0 a1 b1 a2 b2 a3 b3 a4 b4
@[go_sem] theorem neq_89 {H : AH} {u : Option TypeDesc} {x y : Operand} {kk : Value → Prop} {a0 b0 : Int} {a1 b1 : Int} {a2 b2 : Int} {a3 b3 : Int} {a4 b4 : Int} : bin u Try.prog H .neq 89 x y (.agg #[.int .i64 a0, .int .i64 a1, .int .i64 a2, .int .i64 a3, .int .i64 a4]) (.agg #[.int .i64 b0, .int .i64 b1, .int .i64 b2, .int .i64 b3, .int .i64 b4]) kk = (u = Try.prog.underlying 89 ∧ nv (.bool (!((a0 == b0) && ((a1 == b1) && ((a2 == b2) && ((a3 == b3) && (a4 == b4))))))) kk) := bin_neq_of (eqg_agg eg_89) rfl fun _ => eqi_89 (m := 9998) a0 b0 a1 b1 a2 b2 a3 b3 a4 b4
theorem eg_90 : Try.prog.eqGuardType Try.prog.depth 90 = false := by kernel_rfl
theorem st_90 : Try.prog.stoodInHeld 90 = false := by kernel_rfl
theorem eqi_90 {H : AH} {m : Nat} (a0 b0 : Int) (a1 b1 : Int) (a2 b2 : Int) (a3 b3 : Int) (a4 b4 : Int) : qrun Try.prog (Op.equalIn (m + 2) 90 (.agg #[.int .i64 a0, .int .i64 a1, .int .i64 a2, .int .i64 a3, .int .i64 a4]) (.agg #[.int .i64 b0, .int .i64 b1, .int .i64 b2, .int .i64 b3, .int .i64 b4])) H = some ((a0 == b0) && ((a1 == b1) && ((a2 == b2) && ((a3 == b3) && (a4 == b4))))) := by
  have h := eqIn_struct (P := Try.prog) (H := H) (m := m + 1) (xs := #[.int .i64 a0, .int .i64 a1, .int .i64 a2, .int .i64 a3, .int .i64 a4]) (ys := #[.int .i64 b0, .int .i64 b1, .int .i64 b2, .int .i64 b3, .int .i64 b4]) (T := fun f => if f.offset = 0 then (a0 == b0) else if f.offset = 1 then (a1 == b1) else if f.offset = 2 then (a2 == b2) else if f.offset = 3 then (a3 == b3) else if f.offset = 4 then (a4 == b4) else true) Try.underlying90 st_90 (by
    simp only [List.mem_cons, List.not_mem_nil, or_false]
    rintro f (rfl | rfl | rfl | rfl | rfl)
    · exact ⟨by decide, (.int .i64 a0), (.int .i64 b0), part_scal ag_3 rfl, part_scal ag_3 rfl, eqIn_int Try.underlying3⟩
    · exact ⟨by decide, (.int .i64 a1), (.int .i64 b1), part_scal ag_3 rfl, part_scal ag_3 rfl, eqIn_int Try.underlying3⟩
    · exact ⟨by decide, (.int .i64 a2), (.int .i64 b2), part_scal ag_3 rfl, part_scal ag_3 rfl, eqIn_int Try.underlying3⟩
    · exact ⟨by decide, (.int .i64 a3), (.int .i64 b3), part_scal ag_3 rfl, part_scal ag_3 rfl, eqIn_int Try.underlying3⟩
    · exact ⟨by decide, (.int .i64 a4), (.int .i64 b4), part_scal ag_3 rfl, part_scal ag_3 rfl, eqIn_int Try.underlying3⟩)
  rw [h]; simp [Bool.and_assoc]
@[go_sem] theorem eql_90 {H : AH} {u : Option TypeDesc} {x y : Operand} {kk : Value → Prop} {a0 b0 : Int} {a1 b1 : Int} {a2 b2 : Int} {a3 b3 : Int} {a4 b4 : Int} : bin u Try.prog H .eql 90 x y (.agg #[.int .i64 a0, .int .i64 a1, .int .i64 a2, .int .i64 a3, .int .i64 a4]) (.agg #[.int .i64 b0, .int .i64 b1, .int .i64 b2, .int .i64 b3, .int .i64 b4]) kk = (u = Try.prog.underlying 90 ∧ nv (.bool ((a0 == b0) && ((a1 == b1) && ((a2 == b2) && ((a3 == b3) && (a4 == b4)))))) kk) := bin_eql_of (eqg_agg eg_90) rfl fun _ => eqi_90 (m := 9998) a0 b0 a1 b1 a2 b2 a3 b3 a4 b4
@[go_sem] theorem neq_90 {H : AH} {u : Option TypeDesc} {x y : Operand} {kk : Value → Prop} {a0 b0 : Int} {a1 b1 : Int} {a2 b2 : Int} {a3 b3 : Int} {a4 b4 : Int} : bin u Try.prog H .neq 90 x y (.agg #[.int .i64 a0, .int .i64 a1, .int .i64 a2, .int .i64 a3, .int .i64 a4]) (.agg #[.int .i64 b0, .int .i64 b1, .int .i64 b2, .int .i64 b3, .int .i64 b4]) kk = (u = Try.prog.underlying 90 ∧ nv (.bool (!((a0 == b0) && ((a1 == b1) && ((a2 == b2) && ((a3 == b3) && (a4 == b4))))))) kk) := bin_neq_of (eqg_agg eg_90) rfl fun _ => eqi_90 (m := 9998) a0 b0 a1 b1 a2 b2 a3 b3 a4 b4
theorem eg_123 : Try.prog.eqGuardType Try.prog.depth 123 = false := by kernel_rfl
theorem st_123 : Try.prog.stoodInHeld 123 = false := by kernel_rfl
theorem eqi_123 {H : AH} {m : Nat} (a0 b0 : Int) (a1 b1 : Int) : qrun Try.prog (Op.equalIn (m + 2) 123 (.agg #[.int .i64 a0, .int .i64 a1]) (.agg #[.int .i64 b0, .int .i64 b1])) H = some ((a0 == b0) && (a1 == b1)) := by
  have h := eqIn_struct (P := Try.prog) (H := H) (m := m + 1) (xs := #[.int .i64 a0, .int .i64 a1]) (ys := #[.int .i64 b0, .int .i64 b1]) (T := fun f => if f.offset = 0 then (a0 == b0) else if f.offset = 1 then (a1 == b1) else true) Try.underlying123 st_123 (by
    simp only [List.mem_cons, List.not_mem_nil, or_false]
    rintro f (rfl | rfl)
    · exact ⟨by decide, (.int .i64 a0), (.int .i64 b0), part_scal ag_3 rfl, part_scal ag_3 rfl, eqIn_int Try.underlying3⟩
    · exact ⟨by decide, (.int .i64 a1), (.int .i64 b1), part_scal ag_3 rfl, part_scal ag_3 rfl, eqIn_int Try.underlying3⟩)
  rw [h]; simp [Bool.and_assoc]
@[go_sem] theorem eql_123 {H : AH} {u : Option TypeDesc} {x y : Operand} {kk : Value → Prop} {a0 b0 : Int} {a1 b1 : Int} : bin u Try.prog H .eql 123 x y (.agg #[.int .i64 a0, .int .i64 a1]) (.agg #[.int .i64 b0, .int .i64 b1]) kk = (u = Try.prog.underlying 123 ∧ nv (.bool ((a0 == b0) && (a1 == b1))) kk) := bin_eql_of (eqg_agg eg_123) rfl fun _ => eqi_123 (m := 9998) a0 b0 a1 b1
@[go_sem] theorem neq_123 {H : AH} {u : Option TypeDesc} {x y : Operand} {kk : Value → Prop} {a0 b0 : Int} {a1 b1 : Int} : bin u Try.prog H .neq 123 x y (.agg #[.int .i64 a0, .int .i64 a1]) (.agg #[.int .i64 b0, .int .i64 b1]) kk = (u = Try.prog.underlying 123 ∧ nv (.bool (!((a0 == b0) && (a1 == b1)))) kk) := bin_neq_of (eqg_agg eg_123) rfl fun _ => eqi_123 (m := 9998) a0 b0 a1 b1
theorem eg_124 : Try.prog.eqGuardType Try.prog.depth 124 = false := by kernel_rfl
theorem st_124 : Try.prog.stoodInHeld 124 = false := by kernel_rfl
theorem eqi_124 {H : AH} {m : Nat} (a0 b0 : Int) (a1 b1 : Int) : qrun Try.prog (Op.equalIn (m + 2) 124 (.agg #[.int .i64 a0, .int .i64 a1]) (.agg #[.int .i64 b0, .int .i64 b1])) H = some ((a0 == b0) && (a1 == b1)) := by
  have h := eqIn_struct (P := Try.prog) (H := H) (m := m + 1) (xs := #[.int .i64 a0, .int .i64 a1]) (ys := #[.int .i64 b0, .int .i64 b1]) (T := fun f => if f.offset = 0 then (a0 == b0) else if f.offset = 1 then (a1 == b1) else true) Try.underlying124 st_124 (by
    simp only [List.mem_cons, List.not_mem_nil, or_false]
    rintro f (rfl | rfl)
    · exact ⟨by decide, (.int .i64 a0), (.int .i64 b0), part_scal ag_3 rfl, part_scal ag_3 rfl, eqIn_int Try.underlying3⟩
    · exact ⟨by decide, (.int .i64 a1), (.int .i64 b1), part_scal ag_3 rfl, part_scal ag_3 rfl, eqIn_int Try.underlying3⟩)
  rw [h]; simp [Bool.and_assoc]
@[go_sem] theorem eql_124 {H : AH} {u : Option TypeDesc} {x y : Operand} {kk : Value → Prop} {a0 b0 : Int} {a1 b1 : Int} : bin u Try.prog H .eql 124 x y (.agg #[.int .i64 a0, .int .i64 a1]) (.agg #[.int .i64 b0, .int .i64 b1]) kk = (u = Try.prog.underlying 124 ∧ nv (.bool ((a0 == b0) && (a1 == b1))) kk) := bin_eql_of (eqg_agg eg_124) rfl fun _ => eqi_124 (m := 9998) a0 b0 a1 b1
@[go_sem] theorem neq_124 {H : AH} {u : Option TypeDesc} {x y : Operand} {kk : Value → Prop} {a0 b0 : Int} {a1 b1 : Int} : bin u Try.prog H .neq 124 x y (.agg #[.int .i64 a0, .int .i64 a1]) (.agg #[.int .i64 b0, .int .i64 b1]) kk = (u = Try.prog.underlying 124 ∧ nv (.bool (!((a0 == b0) && (a1 == b1)))) kk) := bin_neq_of (eqg_agg eg_124) rfl fun _ => eqi_124 (m := 9998) a0 b0 a1 b1
theorem eg_125 : Try.prog.eqGuardType Try.prog.depth 125 = false := by kernel_rfl
theorem eqi_125 {H : AH} {m : Nat} (a0 b0 : Int) (a1 b1 : Int) (a2 b2 : Int) (a3 b3 : Int) : qrun Try.prog (Op.equalIn (m + 3) 125 (.agg #[.int .i64 a0, .int .i64 a1, .int .i64 a2, .int .i64 a3]) (.agg #[.int .i64 b0, .int .i64 b1, .int .i64 b2, .int .i64 b3])) H = some ((a0 == b0) && ((a1 == b1) && ((a2 == b2) && (a3 == b3)))) := by
  have h := eqIn_array (P := Try.prog) (H := H) (m := m + 2) (xs := #[.int .i64 a0, .int .i64 a1, .int .i64 a2, .int .i64 a3]) (ys := #[.int .i64 b0, .int .i64 b1, .int .i64 b2, .int .i64 b3]) (T := fun i => ([((a0 == b0) && (a1 == b1)), ((a2 == b2) && (a3 == b3))] : List Bool).getD i false) Try.underlying125 (info_sz sz_124 (by simp)) (fun i hi => by
    match i, hi with
    | 0, _ => exact ⟨(.agg #[.int .i64 a0, .int .i64 a1]), (.agg #[.int .i64 b0, .int .i64 b1]), part_agg ag_124 (info_sz sz_124 (by simp)), part_agg ag_124 (info_sz sz_124 (by simp)), eqi_124 (m := m + 0) a0 b0 a1 b1⟩
    | 1, _ => exact ⟨(.agg #[.int .i64 a2, .int .i64 a3]), (.agg #[.int .i64 b2, .int .i64 b3]), part_agg ag_124 (info_sz sz_124 (by simp)), part_agg ag_124 (info_sz sz_124 (by simp)), eqi_124 (m := m + 0) a2 b2 a3 b3⟩
    | _ + 2, hi => omega)
  rw [h]; simp [List.range_succ, Bool.and_assoc]
@[go_sem] theorem eql_125 {H : AH} {u : Option TypeDesc} {x y : Operand} {kk : Value → Prop} {a0 b0 : Int} {a1 b1 : Int} {a2 b2 : Int} {a3 b3 : Int} : bin u Try.prog H .eql 125 x y (.agg #[.int .i64 a0, .int .i64 a1, .int .i64 a2, .int .i64 a3]) (.agg #[.int .i64 b0, .int .i64 b1, .int .i64 b2, .int .i64 b3]) kk = (u = Try.prog.underlying 125 ∧ nv (.bool ((a0 == b0) && ((a1 == b1) && ((a2 == b2) && (a3 == b3))))) kk) := bin_eql_of (eqg_agg eg_125) rfl fun _ => eqi_125 (m := 9997) a0 b0 a1 b1 a2 b2 a3 b3
@[go_sem] theorem neq_125 {H : AH} {u : Option TypeDesc} {x y : Operand} {kk : Value → Prop} {a0 b0 : Int} {a1 b1 : Int} {a2 b2 : Int} {a3 b3 : Int} : bin u Try.prog H .neq 125 x y (.agg #[.int .i64 a0, .int .i64 a1, .int .i64 a2, .int .i64 a3]) (.agg #[.int .i64 b0, .int .i64 b1, .int .i64 b2, .int .i64 b3]) kk = (u = Try.prog.underlying 125 ∧ nv (.bool (!((a0 == b0) && ((a1 == b1) && ((a2 == b2) && (a3 == b3)))))) kk) := bin_neq_of (eqg_agg eg_125) rfl fun _ => eqi_125 (m := 9997) a0 b0 a1 b1 a2 b2 a3 b3
theorem eg_126 : Try.prog.eqGuardType Try.prog.depth 126 = false := by kernel_rfl
theorem st_126 : Try.prog.stoodInHeld 126 = false := by kernel_rfl
theorem eqi_126 {H : AH} {m : Nat} (a0 b0 : Int) (a1 b1 : Int) (a2 b2 : Int) (a3 b3 : Int) : qrun Try.prog (Op.equalIn (m + 4) 126 (.agg #[.int .i64 a0, .int .i64 a1, .int .i64 a2, .int .i64 a3]) (.agg #[.int .i64 b0, .int .i64 b1, .int .i64 b2, .int .i64 b3])) H = some ((a0 == b0) && ((a1 == b1) && ((a2 == b2) && (a3 == b3)))) := by
  have h := eqIn_struct (P := Try.prog) (H := H) (m := m + 3) (xs := #[.int .i64 a0, .int .i64 a1, .int .i64 a2, .int .i64 a3]) (ys := #[.int .i64 b0, .int .i64 b1, .int .i64 b2, .int .i64 b3]) (T := fun f => if f.offset = 0 then ((a0 == b0) && ((a1 == b1) && ((a2 == b2) && (a3 == b3)))) else true) Try.underlying126 st_126 (by
    simp only [List.mem_cons, List.not_mem_nil, or_false]
    rintro f (rfl)
    · exact ⟨by decide, (.agg #[.int .i64 a0, .int .i64 a1, .int .i64 a2, .int .i64 a3]), (.agg #[.int .i64 b0, .int .i64 b1, .int .i64 b2, .int .i64 b3]), part_agg ag_125 (info_sz sz_125 (by simp)), part_agg ag_125 (info_sz sz_125 (by simp)), eqi_125 (m := m + 0) a0 b0 a1 b1 a2 b2 a3 b3⟩)
  rw [h]; simp [Bool.and_assoc]
@[go_sem] theorem eql_126 {H : AH} {u : Option TypeDesc} {x y : Operand} {kk : Value → Prop} {a0 b0 : Int} {a1 b1 : Int} {a2 b2 : Int} {a3 b3 : Int} : bin u Try.prog H .eql 126 x y (.agg #[.int .i64 a0, .int .i64 a1, .int .i64 a2, .int .i64 a3]) (.agg #[.int .i64 b0, .int .i64 b1, .int .i64 b2, .int .i64 b3]) kk = (u = Try.prog.underlying 126 ∧ nv (.bool ((a0 == b0) && ((a1 == b1) && ((a2 == b2) && (a3 == b3))))) kk) := bin_eql_of (eqg_agg eg_126) rfl fun _ => eqi_126 (m := 9996) a0 b0 a1 b1 a2 b2 a3 b3
@[go_sem] theorem neq_126 {H : AH} {u : Option TypeDesc} {x y : Operand} {kk : Value → Prop} {a0 b0 : Int} {a1 b1 : Int} {a2 b2 : Int} {a3 b3 : Int} : bin u Try.prog H .neq 126 x y (.agg #[.int .i64 a0, .int .i64 a1, .int .i64 a2, .int .i64 a3]) (.agg #[.int .i64 b0, .int .i64 b1, .int .i64 b2, .int .i64 b3]) kk = (u = Try.prog.underlying 126 ∧ nv (.bool (!((a0 == b0) && ((a1 == b1) && ((a2 == b2) && (a3 == b3)))))) kk) := bin_neq_of (eqg_agg eg_126) rfl fun _ => eqi_126 (m := 9996) a0 b0 a1 b1 a2 b2 a3 b3
theorem eg_127 : Try.prog.eqGuardType Try.prog.depth 127 = false := by kernel_rfl
theorem st_127 : Try.prog.stoodInHeld 127 = false := by kernel_rfl
theorem eqi_127 {H : AH} {m : Nat} (a0 b0 : Int) (a1 b1 : Int) (a2 b2 : Int) (a3 b3 : Int) : qrun Try.prog (Op.equalIn (m + 4) 127 (.agg #[.int .i64 a0, .int .i64 a1, .int .i64 a2, .int .i64 a3]) (.agg #[.int .i64 b0, .int .i64 b1, .int .i64 b2, .int .i64 b3])) H = some ((a0 == b0) && ((a1 == b1) && ((a2 == b2) && (a3 == b3)))) := by
  have h := eqIn_struct (P := Try.prog) (H := H) (m := m + 3) (xs := #[.int .i64 a0, .int .i64 a1, .int .i64 a2, .int .i64 a3]) (ys := #[.int .i64 b0, .int .i64 b1, .int .i64 b2, .int .i64 b3]) (T := fun f => if f.offset = 0 then ((a0 == b0) && ((a1 == b1) && ((a2 == b2) && (a3 == b3)))) else true) Try.underlying127 st_127 (by
    simp only [List.mem_cons, List.not_mem_nil, or_false]
    rintro f (rfl)
    · exact ⟨by decide, (.agg #[.int .i64 a0, .int .i64 a1, .int .i64 a2, .int .i64 a3]), (.agg #[.int .i64 b0, .int .i64 b1, .int .i64 b2, .int .i64 b3]), part_agg ag_125 (info_sz sz_125 (by simp)), part_agg ag_125 (info_sz sz_125 (by simp)), eqi_125 (m := m + 0) a0 b0 a1 b1 a2 b2 a3 b3⟩)
  rw [h]; simp [Bool.and_assoc]
@[go_sem] theorem eql_127 {H : AH} {u : Option TypeDesc} {x y : Operand} {kk : Value → Prop} {a0 b0 : Int} {a1 b1 : Int} {a2 b2 : Int} {a3 b3 : Int} : bin u Try.prog H .eql 127 x y (.agg #[.int .i64 a0, .int .i64 a1, .int .i64 a2, .int .i64 a3]) (.agg #[.int .i64 b0, .int .i64 b1, .int .i64 b2, .int .i64 b3]) kk = (u = Try.prog.underlying 127 ∧ nv (.bool ((a0 == b0) && ((a1 == b1) && ((a2 == b2) && (a3 == b3))))) kk) := bin_eql_of (eqg_agg eg_127) rfl fun _ => eqi_127 (m := 9996) a0 b0 a1 b1 a2 b2 a3 b3
@[go_sem] theorem neq_127 {H : AH} {u : Option TypeDesc} {x y : Operand} {kk : Value → Prop} {a0 b0 : Int} {a1 b1 : Int} {a2 b2 : Int} {a3 b3 : Int} : bin u Try.prog H .neq 127 x y (.agg #[.int .i64 a0, .int .i64 a1, .int .i64 a2, .int .i64 a3]) (.agg #[.int .i64 b0, .int .i64 b1, .int .i64 b2, .int .i64 b3]) kk = (u = Try.prog.underlying 127 ∧ nv (.bool (!((a0 == b0) && ((a1 == b1) && ((a2 == b2) && (a3 == b3)))))) kk) := bin_neq_of (eqg_agg eg_127) rfl fun _ => eqi_127 (m := 9996) a0 b0 a1 b1 a2 b2 a3 b3
@[go_sem] theorem ok_2 : fnOk Try.prog 2 = true := by kernel_rfl
@[go_sem] theorem ok_3 : fnOk Try.prog 3 = true := by kernel_rfl
@[go_sem] theorem ok_4 : fnOk Try.prog 4 = true := by kernel_rfl
@[go_sem] theorem ok_5 : fnOk Try.prog 5 = true := by kernel_rfl
@[go_sem] theorem ok_6 : fnOk Try.prog 6 = true := by kernel_rfl
@[go_sem] theorem ok_7 : fnOk Try.prog 7 = true := by kernel_rfl
@[go_sem] theorem ok_8 : fnOk Try.prog 8 = true := by kernel_rfl
@[go_sem] theorem ok_9 : fnOk Try.prog 9 = true := by kernel_rfl
@[go_sem] theorem ok_10 : fnOk Try.prog 10 = true := by kernel_rfl
@[go_sem] theorem ok_11 : fnOk Try.prog 11 = true := by kernel_rfl
@[go_sem] theorem ok_12 : fnOk Try.prog 12 = true := by kernel_rfl
@[go_sem] theorem ok_13 : fnOk Try.prog 13 = true := by kernel_rfl
@[go_sem] theorem ok_14 : fnOk Try.prog 14 = true := by kernel_rfl
@[go_sem] theorem ok_15 : fnOk Try.prog 15 = true := by kernel_rfl
@[go_sem] theorem ok_16 : fnOk Try.prog 16 = true := by kernel_rfl
@[go_sem] theorem ok_17 : fnOk Try.prog 17 = true := by kernel_rfl
@[go_sem] theorem ok_18 : fnOk Try.prog 18 = true := by kernel_rfl
@[go_sem] theorem ok_19 : fnOk Try.prog 19 = true := by kernel_rfl
@[go_sem] theorem ok_20 : fnOk Try.prog 20 = true := by kernel_rfl
@[go_sem] theorem ok_21 : fnOk Try.prog 21 = true := by kernel_rfl
@[go_sem] theorem ok_22 : fnOk Try.prog 22 = true := by kernel_rfl
@[go_sem] theorem ok_23 : fnOk Try.prog 23 = true := by kernel_rfl
@[go_sem] theorem ok_24 : fnOk Try.prog 24 = true := by kernel_rfl
@[go_sem] theorem ok_25 : fnOk Try.prog 25 = true := by kernel_rfl
@[go_sem] theorem ok_26 : fnOk Try.prog 26 = true := by kernel_rfl
@[go_sem] theorem ok_27 : fnOk Try.prog 27 = true := by kernel_rfl
@[go_sem] theorem ok_28 : fnOk Try.prog 28 = true := by kernel_rfl
@[go_sem] theorem ok_29 : fnOk Try.prog 29 = true := by kernel_rfl
@[go_sem] theorem ok_30 : fnOk Try.prog 30 = true := by kernel_rfl
@[go_sem] theorem ok_31 : fnOk Try.prog 31 = true := by kernel_rfl
@[go_sem] theorem ok_32 : fnOk Try.prog 32 = true := by kernel_rfl
@[go_sem] theorem ok_33 : fnOk Try.prog 33 = true := by kernel_rfl
@[go_sem] theorem ok_34 : fnOk Try.prog 34 = true := by kernel_rfl
@[go_sem] theorem ok_35 : fnOk Try.prog 35 = true := by kernel_rfl
@[go_sem] theorem ok_36 : fnOk Try.prog 36 = true := by kernel_rfl
@[go_sem] theorem ok_37 : fnOk Try.prog 37 = true := by kernel_rfl
@[go_sem] theorem ok_38 : fnOk Try.prog 38 = true := by kernel_rfl
@[go_sem] theorem ok_39 : fnOk Try.prog 39 = true := by kernel_rfl
@[go_sem] theorem ok_40 : fnOk Try.prog 40 = true := by kernel_rfl
@[go_sem] theorem ok_41 : fnOk Try.prog 41 = true := by kernel_rfl
@[go_sem] theorem ok_42 : fnOk Try.prog 42 = true := by kernel_rfl
@[go_sem] theorem ok_43 : fnOk Try.prog 43 = true := by kernel_rfl
@[go_sem] theorem ok_44 : fnOk Try.prog 44 = true := by kernel_rfl
@[go_sem] theorem ok_45 : fnOk Try.prog 45 = true := by kernel_rfl
@[go_sem] theorem ok_46 : fnOk Try.prog 46 = true := by kernel_rfl
@[go_sem] theorem ok_47 : fnOk Try.prog 47 = true := by kernel_rfl
@[go_sem] theorem ok_48 : fnOk Try.prog 48 = true := by kernel_rfl
@[go_sem] theorem ok_49 : fnOk Try.prog 49 = true := by kernel_rfl
@[go_sem] theorem ok_50 : fnOk Try.prog 50 = true := by kernel_rfl
@[go_sem] theorem ok_51 : fnOk Try.prog 51 = true := by kernel_rfl
@[go_sem] theorem ok_52 : fnOk Try.prog 52 = true := by kernel_rfl
@[go_sem] theorem ok_53 : fnOk Try.prog 53 = true := by kernel_rfl
@[go_sem] theorem ok_54 : fnOk Try.prog 54 = true := by kernel_rfl
@[go_sem] theorem ok_55 : fnOk Try.prog 55 = true := by kernel_rfl
@[go_sem] theorem ok_56 : fnOk Try.prog 56 = true := by kernel_rfl
@[go_sem] theorem ok_57 : fnOk Try.prog 57 = true := by kernel_rfl
@[go_sem] theorem ok_58 : fnOk Try.prog 58 = true := by kernel_rfl
@[go_sem] theorem ok_59 : fnOk Try.prog 59 = true := by kernel_rfl
@[go_sem] theorem ok_60 : fnOk Try.prog 60 = true := by kernel_rfl
@[go_sem] theorem ok_61 : fnOk Try.prog 61 = true := by kernel_rfl
@[go_sem] theorem ok_62 : fnOk Try.prog 62 = true := by kernel_rfl
@[go_sem] theorem ok_63 : fnOk Try.prog 63 = true := by kernel_rfl
@[go_sem] theorem ok_64 : fnOk Try.prog 64 = true := by kernel_rfl
@[go_sem] theorem ok_65 : fnOk Try.prog 65 = true := by kernel_rfl
@[go_sem] theorem ok_66 : fnOk Try.prog 66 = true := by kernel_rfl
@[go_sem] theorem ok_67 : fnOk Try.prog 67 = true := by kernel_rfl
@[go_sem] theorem ok_68 : fnOk Try.prog 68 = true := by kernel_rfl
@[go_sem] theorem ok_69 : fnOk Try.prog 69 = true := by kernel_rfl
@[go_sem] theorem ok_70 : fnOk Try.prog 70 = true := by kernel_rfl
@[go_sem] theorem ok_71 : fnOk Try.prog 71 = true := by kernel_rfl
@[go_sem] theorem ok_72 : fnOk Try.prog 72 = true := by kernel_rfl
@[go_sem] theorem ok_73 : fnOk Try.prog 73 = true := by kernel_rfl
@[go_sem] theorem ok_74 : fnOk Try.prog 74 = true := by kernel_rfl
@[go_sem] theorem ok_75 : fnOk Try.prog 75 = true := by kernel_rfl
@[go_sem] theorem ok_76 : fnOk Try.prog 76 = true := by kernel_rfl
@[go_sem] theorem ok_77 : fnOk Try.prog 77 = true := by kernel_rfl
@[go_sem] theorem ok_78 : fnOk Try.prog 78 = true := by kernel_rfl
@[go_sem] theorem ok_79 : fnOk Try.prog 79 = true := by kernel_rfl
@[go_sem] theorem ok_80 : fnOk Try.prog 80 = true := by kernel_rfl
@[go_sem] theorem ok_81 : fnOk Try.prog 81 = true := by kernel_rfl
@[go_sem] theorem ok_82 : fnOk Try.prog 82 = true := by kernel_rfl
@[go_sem] theorem ok_83 : fnOk Try.prog 83 = true := by kernel_rfl
@[go_sem] theorem ok_84 : fnOk Try.prog 84 = true := by kernel_rfl
@[go_sem] theorem ok_85 : fnOk Try.prog 85 = true := by kernel_rfl
@[go_sem] theorem ok_86 : fnOk Try.prog 86 = true := by kernel_rfl
@[go_sem] theorem ok_87 : fnOk Try.prog 87 = true := by kernel_rfl
@[go_sem] theorem ok_88 : fnOk Try.prog 88 = true := by kernel_rfl
@[go_sem] theorem ok_89 : fnOk Try.prog 89 = true := by kernel_rfl
@[go_sem] theorem ok_90 : fnOk Try.prog 90 = true := by kernel_rfl
@[go_sem] theorem ok_91 : fnOk Try.prog 91 = true := by kernel_rfl
@[go_sem] theorem ok_92 : fnOk Try.prog 92 = true := by kernel_rfl
@[go_sem] theorem ok_93 : fnOk Try.prog 93 = true := by kernel_rfl
@[go_sem] theorem ok_94 : fnOk Try.prog 94 = true := by kernel_rfl
@[go_sem] theorem ok_95 : fnOk Try.prog 95 = true := by kernel_rfl
@[go_sem] theorem ok_96 : fnOk Try.prog 96 = true := by kernel_rfl
theorem mixed : Try.prog.follows .mixedOrders = true := by kernel_rfl
attribute [go_sem] Try.underlying0 Try.underlying1 Try.underlying2 Try.underlying3 Try.underlying4 Try.underlying5 Try.underlying6 Try.underlying7 Try.underlying8 Try.underlying9 Try.underlying10 Try.underlying11 Try.underlying12 Try.underlying13 Try.underlying14 Try.underlying15
attribute [go_sem] Try.underlying16 Try.underlying17 Try.underlying18 Try.underlying19 Try.underlying20 Try.underlying21 Try.underlying22 Try.underlying23 Try.underlying24 Try.underlying25 Try.underlying26 Try.underlying27 Try.underlying28 Try.underlying29 Try.underlying30 Try.underlying31
attribute [go_sem] Try.underlying32 Try.underlying33 Try.underlying34 Try.underlying35 Try.underlying36 Try.underlying37 Try.underlying38 Try.underlying39 Try.underlying40 Try.underlying41 Try.underlying42 Try.underlying43 Try.underlying44 Try.underlying45 Try.underlying46 Try.underlying47
attribute [go_sem] Try.underlying48 Try.underlying49 Try.underlying50 Try.underlying51 Try.underlying52 Try.underlying53 Try.underlying54 Try.underlying55 Try.underlying56 Try.underlying57 Try.underlying58 Try.underlying59 Try.underlying60 Try.underlying61 Try.underlying62 Try.underlying63
attribute [go_sem] Try.underlying64 Try.underlying65 Try.underlying66 Try.underlying67 Try.underlying68 Try.underlying69 Try.underlying70 Try.underlying71 Try.underlying72 Try.underlying73 Try.underlying74 Try.underlying75 Try.underlying76 Try.underlying77 Try.underlying78 Try.underlying79
attribute [go_sem] Try.underlying80 Try.underlying81 Try.underlying82 Try.underlying83 Try.underlying84 Try.underlying85 Try.underlying86 Try.underlying87 Try.underlying88 Try.underlying89 Try.underlying90 Try.underlying91 Try.underlying92 Try.underlying93 Try.underlying94 Try.underlying95
attribute [go_sem] Try.underlying96 Try.underlying97 Try.underlying98 Try.underlying99 Try.underlying100 Try.underlying101 Try.underlying102 Try.underlying103 Try.underlying104 Try.underlying105 Try.underlying106 Try.underlying107 Try.underlying108 Try.underlying109 Try.underlying110 Try.underlying111
attribute [go_sem] Try.underlying112 Try.underlying113 Try.underlying114 Try.underlying115 Try.underlying116 Try.underlying117 Try.underlying118 Try.underlying119 Try.underlying120 Try.underlying121 Try.underlying122 Try.underlying123 Try.underlying124 Try.underlying125 Try.underlying126 Try.underlying127
attribute [go_sem] Try.underlying128 Try.underlying129 Try.underlying130 Try.underlying131 Try.underlying132 Try.underlying133 Try.underlying134 Try.underlying135 Try.underlying136 Try.underlying137 Try.underlying138 Try.underlying139 Try.underlying140 Try.underlying141 Try.underlying142 Try.underlying143
attribute [go_sem] Try.underlying144 Try.underlying145 Try.underlying146 Try.underlying147 Try.underlying148 Try.underlying149 Try.underlying150 Try.underlying151 Try.underlying152 Try.underlying153 Try.underlying154 Try.underlying155 Try.underlying156 Try.underlying157
attribute [go_sem] Try.ntmps0 Try.results0 Try.ntmps1 Try.results1 Try.ntmps2 Try.results2 Try.ntmps3 Try.results3 Try.ntmps4 Try.results4 Try.ntmps5 Try.results5 Try.ntmps6 Try.results6 Try.ntmps7 Try.results7
attribute [go_sem] Try.ntmps8 Try.results8 Try.ntmps9 Try.results9 Try.ntmps10 Try.results10 Try.ntmps11 Try.results11 Try.ntmps12 Try.results12 Try.ntmps13 Try.results13 Try.ntmps14 Try.results14 Try.ntmps15 Try.results15
attribute [go_sem] Try.ntmps16 Try.results16 Try.ntmps17 Try.results17 Try.ntmps18 Try.results18 Try.ntmps19 Try.results19 Try.ntmps20 Try.results20 Try.ntmps21 Try.results21 Try.ntmps22 Try.results22 Try.ntmps23 Try.results23
attribute [go_sem] Try.ntmps24 Try.results24 Try.ntmps25 Try.results25 Try.ntmps26 Try.results26 Try.ntmps27 Try.results27 Try.ntmps28 Try.results28 Try.ntmps29 Try.results29 Try.ntmps30 Try.results30 Try.ntmps31 Try.results31
attribute [go_sem] Try.ntmps32 Try.results32 Try.ntmps33 Try.results33 Try.ntmps34 Try.results34 Try.ntmps35 Try.results35 Try.ntmps36 Try.results36 Try.ntmps37 Try.results37 Try.ntmps38 Try.results38 Try.ntmps39 Try.results39
attribute [go_sem] Try.ntmps40 Try.results40 Try.ntmps41 Try.results41 Try.ntmps42 Try.results42 Try.ntmps43 Try.results43 Try.ntmps44 Try.results44 Try.ntmps45 Try.results45 Try.ntmps46 Try.results46 Try.ntmps47 Try.results47
attribute [go_sem] Try.ntmps48 Try.results48 Try.ntmps49 Try.results49 Try.ntmps50 Try.results50 Try.ntmps51 Try.results51 Try.ntmps52 Try.results52 Try.ntmps53 Try.results53 Try.ntmps54 Try.results54 Try.ntmps55 Try.results55
attribute [go_sem] Try.ntmps56 Try.results56 Try.ntmps57 Try.results57 Try.ntmps58 Try.results58 Try.ntmps59 Try.results59 Try.ntmps60 Try.results60 Try.ntmps61 Try.results61 Try.ntmps62 Try.results62 Try.ntmps63 Try.results63
attribute [go_sem] Try.ntmps64 Try.results64 Try.ntmps65 Try.results65 Try.ntmps66 Try.results66 Try.ntmps67 Try.results67 Try.ntmps68 Try.results68 Try.ntmps69 Try.results69 Try.ntmps70 Try.results70 Try.ntmps71 Try.results71
attribute [go_sem] Try.ntmps72 Try.results72 Try.ntmps73 Try.results73 Try.ntmps74 Try.results74 Try.ntmps75 Try.results75 Try.ntmps76 Try.results76 Try.ntmps77 Try.results77 Try.ntmps78 Try.results78 Try.ntmps79 Try.results79
attribute [go_sem] Try.ntmps80 Try.results80 Try.ntmps81 Try.results81 Try.ntmps82 Try.results82 Try.ntmps83 Try.results83 Try.ntmps84 Try.results84 Try.ntmps85 Try.results85 Try.ntmps86 Try.results86 Try.ntmps87 Try.results87
attribute [go_sem] Try.ntmps88 Try.results88 Try.ntmps89 Try.results89 Try.ntmps90 Try.results90 Try.ntmps91 Try.results91 Try.ntmps92 Try.results92 Try.ntmps93 Try.results93 Try.ntmps94 Try.results94 Try.ntmps95 Try.results95
attribute [go_sem] Try.ntmps96 Try.results96 Try.ntmps97 Try.results97 Try.ntmps98 Try.results98 Try.ntmps99 Try.results99 Try.ntmps100 Try.results100 Try.ntmps101 Try.results101 Try.ntmps102 Try.results102 Try.ntmps103 Try.results103
attribute [go_sem] Try.ntmps104 Try.results104 Try.ntmps105 Try.results105 Try.ntmps106 Try.results106 Try.ntmps107 Try.results107 Try.ntmps108 Try.results108 Try.ntmps109 Try.results109 Try.ntmps110 Try.results110 Try.ntmps111 Try.results111
attribute [go_sem] Try.ntmps112 Try.results112 Try.ntmps113 Try.results113
end Go.Proofs.Ytadbmmdmibiikaa.Ty

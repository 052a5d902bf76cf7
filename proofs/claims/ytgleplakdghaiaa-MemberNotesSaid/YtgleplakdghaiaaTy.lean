/- Closed facts on the types and functions of the translation, reckoned by the kernel. Written by a program of this session. -/
import Derived.Test.YtgleplakdghaiaaAx17
import Derived.Test.YtgleplakdghaiaaProg
import Derived.KernelRfl
namespace Go.Proofs.Ytgleplakdghaiaa.Ty
set_option linter.unusedSimpArgs false
set_option linter.unusedVariables false
open Go Go.AX Go.Proofs
@[go_sem ↓] theorem sz_1 : Try.prog.cellsOf 1 = 1 := by kernel_rfl
@[go_sem ↓] theorem ag_1 : isAggU (Try.prog.underlying 1) = some false := by kernel_rfl
@[go_sem ↓] theorem zr_1 : zrOf Try.prog 1 = some [.nilFunc] := by kernel_rfl
@[go_sem ↓] theorem sz_2 : Try.prog.cellsOf 2 = 1 := by kernel_rfl
@[go_sem ↓] theorem ag_2 : isAggU (Try.prog.underlying 2) = some false := by kernel_rfl
@[go_sem ↓] theorem zr_2 : zrOf Try.prog 2 = some [(.int .i64 0)] := by kernel_rfl
@[go_sem ↓] theorem sz_3 : Try.prog.cellsOf 3 = 1 := by kernel_rfl
@[go_sem ↓] theorem ag_3 : isAggU (Try.prog.underlying 3) = some false := by kernel_rfl
@[go_sem ↓] theorem zr_3 : zrOf Try.prog 3 = some [(.int .i64 0)] := by kernel_rfl
@[go_sem ↓] theorem sz_4 : Try.prog.cellsOf 4 = 1 := by kernel_rfl
@[go_sem ↓] theorem ag_4 : isAggU (Try.prog.underlying 4) = some false := by kernel_rfl
@[go_sem ↓] theorem zr_4 : zrOf Try.prog 4 = some [(.bool false)] := by kernel_rfl
@[go_sem ↓] theorem sz_5 : Try.prog.cellsOf 5 = 1 := by kernel_rfl
@[go_sem ↓] theorem ag_5 : isAggU (Try.prog.underlying 5) = some false := by kernel_rfl
@[go_sem ↓] theorem zr_5 : zrOf Try.prog 5 = some [(.int .u8 0)] := by kernel_rfl
@[go_sem ↓] theorem sz_6 : Try.prog.cellsOf 6 = 1 := by kernel_rfl
@[go_sem ↓] theorem ag_6 : isAggU (Try.prog.underlying 6) = some false := by kernel_rfl
@[go_sem ↓] theorem zr_6 : zrOf Try.prog 6 = some [(.int .u8 0)] := by kernel_rfl
@[go_sem ↓] theorem sz_7 : Try.prog.cellsOf 7 = 4 := by kernel_rfl
@[go_sem ↓] theorem ag_7 : isAggU (Try.prog.underlying 7) = some true := by kernel_rfl
@[go_sem ↓] theorem zr_7 : zrOf Try.prog 7 = some [(.int .i64 0), (.int .i64 0), (.bool false), (.int .u8 0)] := by kernel_rfl
@[go_sem ↓] theorem fo_7_0 : foOf Try.prog 7 0 = some 0 := by kernel_rfl
@[go_sem ↓] theorem pl_7_0 : plOf Try.prog 7 0 = some (0, 1) := by kernel_rfl
@[go_sem ↓] theorem fo_7_1 : foOf Try.prog 7 1 = some 1 := by kernel_rfl
@[go_sem ↓] theorem pl_7_1 : plOf Try.prog 7 1 = some (1, 1) := by kernel_rfl
@[go_sem ↓] theorem fo_7_2 : foOf Try.prog 7 2 = some 2 := by kernel_rfl
@[go_sem ↓] theorem pl_7_2 : plOf Try.prog 7 2 = some (2, 1) := by kernel_rfl
@[go_sem ↓] theorem fo_7_3 : foOf Try.prog 7 3 = some 3 := by kernel_rfl
@[go_sem ↓] theorem pl_7_3 : plOf Try.prog 7 3 = some (3, 1) := by kernel_rfl
@[go_sem ↓] theorem fl_7 : plOf1 Try.prog 7 = true := by kernel_rfl
@[go_sem ↓] theorem sz_8 : Try.prog.cellsOf 8 = 4 := by kernel_rfl
@[go_sem ↓] theorem ag_8 : isAggU (Try.prog.underlying 8) = some true := by kernel_rfl
@[go_sem ↓] theorem zr_8 : zrOf Try.prog 8 = some [(.int .i64 0), (.int .i64 0), (.bool false), (.int .u8 0)] := by kernel_rfl
@[go_sem ↓] theorem fo_8_0 : foOf Try.prog 8 0 = some 0 := by kernel_rfl
@[go_sem ↓] theorem pl_8_0 : plOf Try.prog 8 0 = some (0, 1) := by kernel_rfl
@[go_sem ↓] theorem fo_8_1 : foOf Try.prog 8 1 = some 1 := by kernel_rfl
@[go_sem ↓] theorem pl_8_1 : plOf Try.prog 8 1 = some (1, 1) := by kernel_rfl
@[go_sem ↓] theorem fo_8_2 : foOf Try.prog 8 2 = some 2 := by kernel_rfl
@[go_sem ↓] theorem pl_8_2 : plOf Try.prog 8 2 = some (2, 1) := by kernel_rfl
@[go_sem ↓] theorem fo_8_3 : foOf Try.prog 8 3 = some 3 := by kernel_rfl
@[go_sem ↓] theorem pl_8_3 : plOf Try.prog 8 3 = some (3, 1) := by kernel_rfl
@[go_sem ↓] theorem fl_8 : plOf1 Try.prog 8 = true := by kernel_rfl
@[go_sem ↓] theorem sz_9 : Try.prog.cellsOf 9 = 1 := by kernel_rfl
@[go_sem ↓] theorem ag_9 : isAggU (Try.prog.underlying 9) = some false := by kernel_rfl
@[go_sem ↓] theorem zr_9 : zrOf Try.prog 9 = some [(.string ⟨#[]⟩)] := by kernel_rfl
@[go_sem ↓] theorem sz_10 : Try.prog.cellsOf 10 = 1 := by kernel_rfl
@[go_sem ↓] theorem ag_10 : isAggU (Try.prog.underlying 10) = some false := by kernel_rfl
@[go_sem ↓] theorem zr_10 : zrOf Try.prog 10 = some [(.string ⟨#[]⟩)] := by kernel_rfl
@[go_sem ↓] theorem sz_11 : Try.prog.cellsOf 11 = 1 := by kernel_rfl
@[go_sem ↓] theorem ag_11 : isAggU (Try.prog.underlying 11) = some false := by kernel_rfl
@[go_sem ↓] theorem zr_11 : zrOf Try.prog 11 = some [(.string ⟨#[]⟩)] := by kernel_rfl
@[go_sem ↓] theorem sz_12 : Try.prog.cellsOf 12 = 1 := by kernel_rfl
@[go_sem ↓] theorem ag_12 : isAggU (Try.prog.underlying 12) = some false := by kernel_rfl
@[go_sem ↓] theorem zr_12 : zrOf Try.prog 12 = some [(.int .u64 0)] := by kernel_rfl
@[go_sem ↓] theorem sz_13 : Try.prog.cellsOf 13 = 2 := by kernel_rfl
@[go_sem ↓] theorem ag_13 : isAggU (Try.prog.underlying 13) = some true := by kernel_rfl
@[go_sem ↓] theorem zr_13 : zrOf Try.prog 13 = some [(.string ⟨#[]⟩), (.int .u64 0)] := by kernel_rfl
@[go_sem ↓] theorem fo_13_0 : foOf Try.prog 13 0 = some 0 := by kernel_rfl
@[go_sem ↓] theorem pl_13_0 : plOf Try.prog 13 0 = some (0, 1) := by kernel_rfl
@[go_sem ↓] theorem fo_13_1 : foOf Try.prog 13 1 = some 1 := by kernel_rfl
@[go_sem ↓] theorem pl_13_1 : plOf Try.prog 13 1 = some (1, 1) := by kernel_rfl
@[go_sem ↓] theorem fl_13 : plOf1 Try.prog 13 = true := by kernel_rfl
@[go_sem ↓] theorem sz_14 : Try.prog.cellsOf 14 = 2 := by kernel_rfl
@[go_sem ↓] theorem ag_14 : isAggU (Try.prog.underlying 14) = some true := by kernel_rfl
@[go_sem ↓] theorem zr_14 : zrOf Try.prog 14 = some [(.string ⟨#[]⟩), (.int .u64 0)] := by kernel_rfl
@[go_sem ↓] theorem fo_14_0 : foOf Try.prog 14 0 = some 0 := by kernel_rfl
@[go_sem ↓] theorem pl_14_0 : plOf Try.prog 14 0 = some (0, 1) := by kernel_rfl
@[go_sem ↓] theorem fo_14_1 : foOf Try.prog 14 1 = some 1 := by kernel_rfl
@[go_sem ↓] theorem pl_14_1 : plOf Try.prog 14 1 = some (1, 1) := by kernel_rfl
@[go_sem ↓] theorem fl_14 : plOf1 Try.prog 14 = true := by kernel_rfl
@[go_sem ↓] theorem sz_15 : Try.prog.cellsOf 15 = 1 := by kernel_rfl
@[go_sem ↓] theorem ag_15 : isAggU (Try.prog.underlying 15) = some false := by kernel_rfl
@[go_sem ↓] theorem zr_15 : zrOf Try.prog 15 = some [(.pointer none)] := by kernel_rfl
@[go_sem ↓] theorem sz_16 : Try.prog.cellsOf 16 = 1 := by kernel_rfl
@[go_sem ↓] theorem ag_16 : isAggU (Try.prog.underlying 16) = some false := by kernel_rfl
@[go_sem ↓] theorem zr_16 : zrOf Try.prog 16 = some [(.pointer none)] := by kernel_rfl
@[go_sem ↓] theorem sz_17 : Try.prog.cellsOf 17 = 1 := by kernel_rfl
@[go_sem ↓] theorem ag_17 : isAggU (Try.prog.underlying 17) = some false := by kernel_rfl
@[go_sem ↓] theorem zr_17 : zrOf Try.prog 17 = some [(.pointer none)] := by kernel_rfl
@[go_sem ↓] theorem sz_18 : Try.prog.cellsOf 18 = 1 := by kernel_rfl
@[go_sem ↓] theorem ag_18 : isAggU (Try.prog.underlying 18) = some true := by kernel_rfl
@[go_sem ↓] theorem zr_18 : zrOf Try.prog 18 = some [(.pointer none)] := by kernel_rfl
@[go_sem ↓] theorem fo_18_0 : foOf Try.prog 18 0 = some 0 := by kernel_rfl
@[go_sem ↓] theorem pl_18_0 : plOf Try.prog 18 0 = some (0, 1) := by kernel_rfl
@[go_sem ↓] theorem fl_18 : plOf1 Try.prog 18 = true := by kernel_rfl
@[go_sem ↓] theorem sz_19 : Try.prog.cellsOf 19 = 1 := by kernel_rfl
@[go_sem ↓] theorem ag_19 : isAggU (Try.prog.underlying 19) = some true := by kernel_rfl
@[go_sem ↓] theorem zr_19 : zrOf Try.prog 19 = some [(.pointer none)] := by kernel_rfl
@[go_sem ↓] theorem fo_19_0 : foOf Try.prog 19 0 = some 0 := by kernel_rfl
@[go_sem ↓] theorem pl_19_0 : plOf Try.prog 19 0 = some (0, 1) := by kernel_rfl
@[go_sem ↓] theorem fl_19 : plOf1 Try.prog 19 = true := by kernel_rfl
@[go_sem ↓] theorem sz_20 : Try.prog.cellsOf 20 = 1 := by kernel_rfl
@[go_sem ↓] theorem ag_20 : isAggU (Try.prog.underlying 20) = some false := by kernel_rfl
@[go_sem ↓] theorem zr_20 : zrOf Try.prog 20 = some [.nilIface] := by kernel_rfl
@[go_sem ↓] theorem sz_21 : Try.prog.cellsOf 21 = 1 := by kernel_rfl
@[go_sem ↓] theorem ag_21 : isAggU (Try.prog.underlying 21) = some false := by kernel_rfl
@[go_sem ↓] theorem zr_21 : zrOf Try.prog 21 = some [(.int .i32 0)] := by kernel_rfl
@[go_sem ↓] theorem sz_22 : Try.prog.cellsOf 22 = 1 := by kernel_rfl
@[go_sem ↓] theorem ag_22 : isAggU (Try.prog.underlying 22) = some false := by kernel_rfl
@[go_sem ↓] theorem es_22 : elSz Try.prog 22 = 2 := by kernel_rfl
@[go_sem ↓] theorem zr_22 : zrOf Try.prog 22 = some [(.slice none 0 0)] := by kernel_rfl
@[go_sem ↓] theorem sz_23 : Try.prog.cellsOf 23 = 1 := by kernel_rfl
@[go_sem ↓] theorem ag_23 : isAggU (Try.prog.underlying 23) = some false := by kernel_rfl
@[go_sem ↓] theorem zr_23 : zrOf Try.prog 23 = some [(.pointer none)] := by kernel_rfl
@[go_sem ↓] theorem sz_24 : Try.prog.cellsOf 24 = 1 := by kernel_rfl
@[go_sem ↓] theorem ag_24 : isAggU (Try.prog.underlying 24) = some false := by kernel_rfl
@[go_sem ↓] theorem zr_24 : zrOf Try.prog 24 = some [(.int .i64 0)] := by kernel_rfl
@[go_sem ↓] theorem sz_26 : Try.prog.cellsOf 26 = 1 := by kernel_rfl
@[go_sem ↓] theorem ag_26 : isAggU (Try.prog.underlying 26) = some false := by kernel_rfl
@[go_sem ↓] theorem zr_26 : zrOf Try.prog 26 = some [.nilFunc] := by kernel_rfl
@[go_sem ↓] theorem sz_27 : Try.prog.cellsOf 27 = 1 := by kernel_rfl
@[go_sem ↓] theorem ag_27 : isAggU (Try.prog.underlying 27) = some false := by kernel_rfl
@[go_sem ↓] theorem zr_27 : zrOf Try.prog 27 = some [(.pointer none)] := by kernel_rfl
@[go_sem ↓] theorem sz_29 : Try.prog.cellsOf 29 = 1 := by kernel_rfl
@[go_sem ↓] theorem ag_29 : isAggU (Try.prog.underlying 29) = some false := by kernel_rfl
@[go_sem ↓] theorem zr_29 : zrOf Try.prog 29 = some [.nilFunc] := by kernel_rfl
@[go_sem ↓] theorem sz_30 : Try.prog.cellsOf 30 = 1 := by kernel_rfl
@[go_sem ↓] theorem ag_30 : isAggU (Try.prog.underlying 30) = some false := by kernel_rfl
@[go_sem ↓] theorem zr_30 : zrOf Try.prog 30 = some [.nilFunc] := by kernel_rfl
@[go_sem ↓] theorem sz_31 : Try.prog.cellsOf 31 = 1 := by kernel_rfl
@[go_sem ↓] theorem ag_31 : isAggU (Try.prog.underlying 31) = some false := by kernel_rfl
@[go_sem ↓] theorem es_31 : elSz Try.prog 31 = 1 := by kernel_rfl
@[go_sem ↓] theorem zr_31 : zrOf Try.prog 31 = some [(.slice none 0 0)] := by kernel_rfl
@[go_sem ↓] theorem sz_32 : Try.prog.cellsOf 32 = 1 := by kernel_rfl
@[go_sem ↓] theorem ag_32 : isAggU (Try.prog.underlying 32) = some false := by kernel_rfl
@[go_sem ↓] theorem zr_32 : zrOf Try.prog 32 = some [(.int .u32 0)] := by kernel_rfl
@[go_sem ↓] theorem sz_33 : Try.prog.cellsOf 33 = 2 := by kernel_rfl
@[go_sem ↓] theorem ag_33 : isAggU (Try.prog.underlying 33) = some true := by kernel_rfl
@[go_sem ↓] theorem zr_33 : zrOf Try.prog 33 = some [(.slice none 0 0), (.int .u32 0)] := by kernel_rfl
@[go_sem ↓] theorem fo_33_0 : foOf Try.prog 33 0 = some 0 := by kernel_rfl
@[go_sem ↓] theorem pl_33_0 : plOf Try.prog 33 0 = some (0, 1) := by kernel_rfl
@[go_sem ↓] theorem fo_33_1 : foOf Try.prog 33 1 = some 1 := by kernel_rfl
@[go_sem ↓] theorem pl_33_1 : plOf Try.prog 33 1 = some (1, 1) := by kernel_rfl
@[go_sem ↓] theorem fl_33 : plOf1 Try.prog 33 = true := by kernel_rfl
@[go_sem ↓] theorem sz_34 : Try.prog.cellsOf 34 = 2 := by kernel_rfl
@[go_sem ↓] theorem ag_34 : isAggU (Try.prog.underlying 34) = some true := by kernel_rfl
@[go_sem ↓] theorem zr_34 : zrOf Try.prog 34 = some [(.slice none 0 0), (.int .u32 0)] := by kernel_rfl
@[go_sem ↓] theorem fo_34_0 : foOf Try.prog 34 0 = some 0 := by kernel_rfl
@[go_sem ↓] theorem pl_34_0 : plOf Try.prog 34 0 = some (0, 1) := by kernel_rfl
@[go_sem ↓] theorem fo_34_1 : foOf Try.prog 34 1 = some 1 := by kernel_rfl
@[go_sem ↓] theorem pl_34_1 : plOf Try.prog 34 1 = some (1, 1) := by kernel_rfl
@[go_sem ↓] theorem fl_34 : plOf1 Try.prog 34 = true := by kernel_rfl
@[go_sem ↓] theorem sz_35 : Try.prog.cellsOf 35 = 1 := by kernel_rfl
@[go_sem ↓] theorem ag_35 : isAggU (Try.prog.underlying 35) = some false := by kernel_rfl
@[go_sem ↓] theorem zr_35 : zrOf Try.prog 35 = some [.nilFunc] := by kernel_rfl
@[go_sem ↓] theorem sz_36 : Try.prog.cellsOf 36 = 1 := by kernel_rfl
@[go_sem ↓] theorem ag_36 : isAggU (Try.prog.underlying 36) = some false := by kernel_rfl
@[go_sem ↓] theorem zr_36 : zrOf Try.prog 36 = some [(.map none)] := by kernel_rfl
@[go_sem ↓] theorem sz_37 : Try.prog.cellsOf 37 = 1 := by kernel_rfl
@[go_sem ↓] theorem ag_37 : isAggU (Try.prog.underlying 37) = some false := by kernel_rfl
@[go_sem ↓] theorem zr_37 : zrOf Try.prog 37 = some [.nilFunc] := by kernel_rfl
@[go_sem ↓] theorem sz_38 : Try.prog.cellsOf 38 = 1 := by kernel_rfl
@[go_sem ↓] theorem ag_38 : isAggU (Try.prog.underlying 38) = some false := by kernel_rfl
@[go_sem ↓] theorem es_38 : elSz Try.prog 38 = 1 := by kernel_rfl
@[go_sem ↓] theorem zr_38 : zrOf Try.prog 38 = some [(.slice none 0 0)] := by kernel_rfl
@[go_sem ↓] theorem sz_39 : Try.prog.cellsOf 39 = 1 := by kernel_rfl
@[go_sem ↓] theorem ag_39 : isAggU (Try.prog.underlying 39) = some false := by kernel_rfl
@[go_sem ↓] theorem es_39 : elSz Try.prog 39 = 1 := by kernel_rfl
@[go_sem ↓] theorem zr_39 : zrOf Try.prog 39 = some [(.slice none 0 0)] := by kernel_rfl
@[go_sem ↓] theorem sz_40 : Try.prog.cellsOf 40 = 2 := by kernel_rfl
@[go_sem ↓] theorem ag_40 : isAggU (Try.prog.underlying 40) = some true := by kernel_rfl
@[go_sem ↓] theorem zr_40 : zrOf Try.prog 40 = some [(.slice none 0 0), (.slice none 0 0)] := by kernel_rfl
@[go_sem ↓] theorem fo_40_0 : foOf Try.prog 40 0 = some 0 := by kernel_rfl
@[go_sem ↓] theorem pl_40_0 : plOf Try.prog 40 0 = some (0, 1) := by kernel_rfl
@[go_sem ↓] theorem fo_40_1 : foOf Try.prog 40 1 = some 1 := by kernel_rfl
@[go_sem ↓] theorem pl_40_1 : plOf Try.prog 40 1 = some (1, 1) := by kernel_rfl
@[go_sem ↓] theorem fl_40 : plOf1 Try.prog 40 = true := by kernel_rfl
@[go_sem ↓] theorem sz_41 : Try.prog.cellsOf 41 = 2 := by kernel_rfl
@[go_sem ↓] theorem ag_41 : isAggU (Try.prog.underlying 41) = some true := by kernel_rfl
@[go_sem ↓] theorem zr_41 : zrOf Try.prog 41 = some [(.slice none 0 0), (.slice none 0 0)] := by kernel_rfl
@[go_sem ↓] theorem fo_41_0 : foOf Try.prog 41 0 = some 0 := by kernel_rfl
@[go_sem ↓] theorem pl_41_0 : plOf Try.prog 41 0 = some (0, 1) := by kernel_rfl
@[go_sem ↓] theorem fo_41_1 : foOf Try.prog 41 1 = some 1 := by kernel_rfl
@[go_sem ↓] theorem pl_41_1 : plOf Try.prog 41 1 = some (1, 1) := by kernel_rfl
@[go_sem ↓] theorem fl_41 : plOf1 Try.prog 41 = true := by kernel_rfl
@[go_sem ↓] theorem sz_42 : Try.prog.cellsOf 42 = 1 := by kernel_rfl
@[go_sem ↓] theorem ag_42 : isAggU (Try.prog.underlying 42) = some false := by kernel_rfl
@[go_sem ↓] theorem zr_42 : zrOf Try.prog 42 = some [.nilFunc] := by kernel_rfl
@[go_sem ↓] theorem sz_43 : Try.prog.cellsOf 43 = 4 := by kernel_rfl
@[go_sem ↓] theorem ag_43 : isAggU (Try.prog.underlying 43) = some true := by kernel_rfl
@[go_sem ↓] theorem es_43 : elSz Try.prog 43 = 1 := by kernel_rfl
@[go_sem ↓] theorem zr_43 : zrOf Try.prog 43 = some [(.int .u8 0), (.int .u8 0), (.int .u8 0), (.int .u8 0)] := by kernel_rfl
@[go_sem ↓] theorem fl_43 : plOf1 Try.prog 43 = true := by kernel_rfl
@[go_sem ↓] theorem pl_43_0 : plOf Try.prog 43 0 = some (0, 1) := by kernel_rfl
@[go_sem ↓] theorem pl_43_1 : plOf Try.prog 43 1 = some (1, 1) := by kernel_rfl
@[go_sem ↓] theorem pl_43_2 : plOf Try.prog 43 2 = some (2, 1) := by kernel_rfl
@[go_sem ↓] theorem pl_43_3 : plOf Try.prog 43 3 = some (3, 1) := by kernel_rfl
@[go_sem ↓] theorem sz_44 : Try.prog.cellsOf 44 = 4 := by kernel_rfl
@[go_sem ↓] theorem ag_44 : isAggU (Try.prog.underlying 44) = some true := by kernel_rfl
@[go_sem ↓] theorem es_44 : elSz Try.prog 44 = 1 := by kernel_rfl
@[go_sem ↓] theorem zr_44 : zrOf Try.prog 44 = some [(.int .u8 0), (.int .u8 0), (.int .u8 0), (.int .u8 0)] := by kernel_rfl
@[go_sem ↓] theorem fl_44 : plOf1 Try.prog 44 = true := by kernel_rfl
@[go_sem ↓] theorem pl_44_0 : plOf Try.prog 44 0 = some (0, 1) := by kernel_rfl
@[go_sem ↓] theorem pl_44_1 : plOf Try.prog 44 1 = some (1, 1) := by kernel_rfl
@[go_sem ↓] theorem pl_44_2 : plOf Try.prog 44 2 = some (2, 1) := by kernel_rfl
@[go_sem ↓] theorem pl_44_3 : plOf Try.prog 44 3 = some (3, 1) := by kernel_rfl
@[go_sem ↓] theorem sz_45 : Try.prog.cellsOf 45 = 1 := by kernel_rfl
@[go_sem ↓] theorem ag_45 : isAggU (Try.prog.underlying 45) = some false := by kernel_rfl
@[go_sem ↓] theorem zr_45 : zrOf Try.prog 45 = some [.nilFunc] := by kernel_rfl
@[go_sem ↓] theorem sz_46 : Try.prog.cellsOf 46 = 1 := by kernel_rfl
@[go_sem ↓] theorem ag_46 : isAggU (Try.prog.underlying 46) = some false := by kernel_rfl
@[go_sem ↓] theorem zr_46 : zrOf Try.prog 46 = some [.nilFunc] := by kernel_rfl
@[go_sem ↓] theorem sz_47 : Try.prog.cellsOf 47 = 1 := by kernel_rfl
@[go_sem ↓] theorem ag_47 : isAggU (Try.prog.underlying 47) = some true := by kernel_rfl
@[go_sem ↓] theorem zr_47 : zrOf Try.prog 47 = some [(.slice none 0 0)] := by kernel_rfl
@[go_sem ↓] theorem fo_47_0 : foOf Try.prog 47 0 = some 0 := by kernel_rfl
@[go_sem ↓] theorem pl_47_0 : plOf Try.prog 47 0 = some (0, 1) := by kernel_rfl
@[go_sem ↓] theorem fl_47 : plOf1 Try.prog 47 = true := by kernel_rfl
@[go_sem ↓] theorem sz_48 : Try.prog.cellsOf 48 = 1 := by kernel_rfl
@[go_sem ↓] theorem ag_48 : isAggU (Try.prog.underlying 48) = some true := by kernel_rfl
@[go_sem ↓] theorem zr_48 : zrOf Try.prog 48 = some [(.slice none 0 0)] := by kernel_rfl
@[go_sem ↓] theorem fo_48_0 : foOf Try.prog 48 0 = some 0 := by kernel_rfl
@[go_sem ↓] theorem pl_48_0 : plOf Try.prog 48 0 = some (0, 1) := by kernel_rfl
@[go_sem ↓] theorem fl_48 : plOf1 Try.prog 48 = true := by kernel_rfl
@[go_sem ↓] theorem sz_49 : Try.prog.cellsOf 49 = 5 := by kernel_rfl
@[go_sem ↓] theorem ag_49 : isAggU (Try.prog.underlying 49) = some true := by kernel_rfl
@[go_sem ↓] theorem zr_49 : zrOf Try.prog 49 = some [(.int .i64 0), (.int .i64 0), (.int .i64 0), (.int .i64 0), (.int .i64 0)] := by kernel_rfl
@[go_sem ↓] theorem fo_49_0 : foOf Try.prog 49 0 = some 0 := by kernel_rfl
@[go_sem ↓] theorem pl_49_0 : plOf Try.prog 49 0 = some (0, 1) := by kernel_rfl
@[go_sem ↓] theorem fo_49_1 : foOf Try.prog 49 1 = some 1 := by kernel_rfl
@[go_sem ↓] theorem pl_49_1 : plOf Try.prog 49 1 = some (1, 1) := by kernel_rfl
@[go_sem ↓] theorem fo_49_2 : foOf Try.prog 49 2 = some 2 := by kernel_rfl
@[go_sem ↓] theorem pl_49_2 : plOf Try.prog 49 2 = some (2, 1) := by kernel_rfl
@[go_sem ↓] theorem fo_49_3 : foOf Try.prog 49 3 = some 3 := by kernel_rfl
@[go_sem ↓] theorem pl_49_3 : plOf Try.prog 49 3 = some (3, 1) := by kernel_rfl
@[go_sem ↓] theorem fo_49_4 : foOf Try.prog 49 4 = some 4 := by kernel_rfl
@[go_sem ↓] theorem pl_49_4 : plOf Try.prog 49 4 = some (4, 1) := by kernel_rfl
@[go_sem ↓] theorem fl_49 : plOf1 Try.prog 49 = true := by kernel_rfl
@[go_sem ↓] theorem sz_50 : Try.prog.cellsOf 50 = 5 := by kernel_rfl
@[go_sem ↓] theorem ag_50 : isAggU (Try.prog.underlying 50) = some true := by kernel_rfl
@[go_sem ↓] theorem zr_50 : zrOf Try.prog 50 = some [(.int .i64 0), (.int .i64 0), (.int .i64 0), (.int .i64 0), (.int .i64 0)] := by kernel_rfl
@[go_sem ↓] theorem fo_50_0 : foOf Try.prog 50 0 = some 0 := by kernel_rfl
@[go_sem ↓] theorem pl_50_0 : plOf Try.prog 50 0 = some (0, 1) := by kernel_rfl
@[go_sem ↓] theorem fo_50_1 : foOf Try.prog 50 1 = some 1 := by kernel_rfl
@[go_sem ↓] theorem pl_50_1 : plOf Try.prog 50 1 = some (1, 1) := by kernel_rfl
@[go_sem ↓] theorem fo_50_2 : foOf Try.prog 50 2 = some 2 := by kernel_rfl
@[go_sem ↓] theorem pl_50_2 : plOf Try.prog 50 2 = some (2, 1) := by kernel_rfl
@[go_sem ↓] theorem fo_50_3 : foOf Try.prog 50 3 = some 3 := by kernel_rfl
@[go_sem ↓] theorem pl_50_3 : plOf Try.prog 50 3 = some (3, 1) := by kernel_rfl
@[go_sem ↓] theorem fo_50_4 : foOf Try.prog 50 4 = some 4 := by kernel_rfl
@[go_sem ↓] theorem pl_50_4 : plOf Try.prog 50 4 = some (4, 1) := by kernel_rfl
@[go_sem ↓] theorem fl_50 : plOf1 Try.prog 50 = true := by kernel_rfl
@[go_sem ↓] theorem sz_51 : Try.prog.cellsOf 51 = 1 := by kernel_rfl
@[go_sem ↓] theorem ag_51 : isAggU (Try.prog.underlying 51) = some false := by kernel_rfl
@[go_sem ↓] theorem es_51 : elSz Try.prog 51 = 5 := by kernel_rfl
@[go_sem ↓] theorem zr_51 : zrOf Try.prog 51 = some [(.slice none 0 0)] := by kernel_rfl
@[go_sem ↓] theorem sz_52 : Try.prog.cellsOf 52 = 1 := by kernel_rfl
@[go_sem ↓] theorem ag_52 : isAggU (Try.prog.underlying 52) = some false := by kernel_rfl
@[go_sem ↓] theorem zr_52 : zrOf Try.prog 52 = some [.nilFunc] := by kernel_rfl
@[go_sem ↓] theorem sz_53 : Try.prog.cellsOf 53 = 1 := by kernel_rfl
@[go_sem ↓] theorem ag_53 : isAggU (Try.prog.underlying 53) = some false := by kernel_rfl
@[go_sem ↓] theorem zr_53 : zrOf Try.prog 53 = some [.nilFunc] := by kernel_rfl
@[go_sem ↓] theorem sz_54 : Try.prog.cellsOf 54 = 1 := by kernel_rfl
@[go_sem ↓] theorem ag_54 : isAggU (Try.prog.underlying 54) = some false := by kernel_rfl
@[go_sem ↓] theorem zr_54 : zrOf Try.prog 54 = some [.nilFunc] := by kernel_rfl
@[go_sem ↓] theorem sz_56 : Try.prog.cellsOf 56 = 1 := by kernel_rfl
@[go_sem ↓] theorem ag_56 : isAggU (Try.prog.underlying 56) = some false := by kernel_rfl
@[go_sem ↓] theorem zr_56 : zrOf Try.prog 56 = some [.nilFunc] := by kernel_rfl
@[go_sem ↓] theorem sz_57 : Try.prog.cellsOf 57 = 1 := by kernel_rfl
@[go_sem ↓] theorem ag_57 : isAggU (Try.prog.underlying 57) = some false := by kernel_rfl
@[go_sem ↓] theorem zr_57 : zrOf Try.prog 57 = some [(.int .u64 0)] := by kernel_rfl
@[go_sem ↓] theorem sz_58 : Try.prog.cellsOf 58 = 1 := by kernel_rfl
@[go_sem ↓] theorem ag_58 : isAggU (Try.prog.underlying 58) = some false := by kernel_rfl
@[go_sem ↓] theorem zr_58 : zrOf Try.prog 58 = some [(.int .u64 0)] := by kernel_rfl
@[go_sem ↓] theorem sz_59 : Try.prog.cellsOf 59 = 1 := by kernel_rfl
@[go_sem ↓] theorem ag_59 : isAggU (Try.prog.underlying 59) = some false := by kernel_rfl
@[go_sem ↓] theorem zr_59 : zrOf Try.prog 59 = some [.nilFunc] := by kernel_rfl
@[go_sem ↓] theorem sz_60 : Try.prog.cellsOf 60 = 1 := by kernel_rfl
@[go_sem ↓] theorem ag_60 : isAggU (Try.prog.underlying 60) = some false := by kernel_rfl
@[go_sem ↓] theorem zr_60 : zrOf Try.prog 60 = some [.nilFunc] := by kernel_rfl
@[go_sem ↓] theorem sz_61 : Try.prog.cellsOf 61 = 4 := by kernel_rfl
@[go_sem ↓] theorem ag_61 : isAggU (Try.prog.underlying 61) = some true := by kernel_rfl
@[go_sem ↓] theorem zr_61 : zrOf Try.prog 61 = some [(.pointer none), (.pointer none), (.pointer none), (.string ⟨#[]⟩)] := by kernel_rfl
@[go_sem ↓] theorem fo_61_0 : foOf Try.prog 61 0 = some 0 := by kernel_rfl
@[go_sem ↓] theorem pl_61_0 : plOf Try.prog 61 0 = some (0, 1) := by kernel_rfl
@[go_sem ↓] theorem fo_61_1 : foOf Try.prog 61 1 = some 1 := by kernel_rfl
@[go_sem ↓] theorem pl_61_1 : plOf Try.prog 61 1 = some (1, 1) := by kernel_rfl
@[go_sem ↓] theorem fo_61_2 : foOf Try.prog 61 2 = some 2 := by kernel_rfl
@[go_sem ↓] theorem pl_61_2 : plOf Try.prog 61 2 = some (2, 1) := by kernel_rfl
@[go_sem ↓] theorem fo_61_3 : foOf Try.prog 61 3 = some 3 := by kernel_rfl
@[go_sem ↓] theorem pl_61_3 : plOf Try.prog 61 3 = some (3, 1) := by kernel_rfl
@[go_sem ↓] theorem fl_61 : plOf1 Try.prog 61 = true := by kernel_rfl
@[go_sem ↓] theorem sz_62 : Try.prog.cellsOf 62 = 4 := by kernel_rfl
@[go_sem ↓] theorem ag_62 : isAggU (Try.prog.underlying 62) = some true := by kernel_rfl
@[go_sem ↓] theorem zr_62 : zrOf Try.prog 62 = some [(.pointer none), (.pointer none), (.pointer none), (.string ⟨#[]⟩)] := by kernel_rfl
@[go_sem ↓] theorem fo_62_0 : foOf Try.prog 62 0 = some 0 := by kernel_rfl
@[go_sem ↓] theorem pl_62_0 : plOf Try.prog 62 0 = some (0, 1) := by kernel_rfl
@[go_sem ↓] theorem fo_62_1 : foOf Try.prog 62 1 = some 1 := by kernel_rfl
@[go_sem ↓] theorem pl_62_1 : plOf Try.prog 62 1 = some (1, 1) := by kernel_rfl
@[go_sem ↓] theorem fo_62_2 : foOf Try.prog 62 2 = some 2 := by kernel_rfl
@[go_sem ↓] theorem pl_62_2 : plOf Try.prog 62 2 = some (2, 1) := by kernel_rfl
@[go_sem ↓] theorem fo_62_3 : foOf Try.prog 62 3 = some 3 := by kernel_rfl
@[go_sem ↓] theorem pl_62_3 : plOf Try.prog 62 3 = some (3, 1) := by kernel_rfl
@[go_sem ↓] theorem fl_62 : plOf1 Try.prog 62 = true := by kernel_rfl
@[go_sem ↓] theorem sz_63 : Try.prog.cellsOf 63 = 0 := by kernel_rfl
@[go_sem ↓] theorem ag_63 : isAggU (Try.prog.underlying 63) = some true := by kernel_rfl
@[go_sem ↓] theorem es_63 : elSz Try.prog 63 = 1 := by kernel_rfl
@[go_sem ↓] theorem zr_63 : zrOf Try.prog 63 = some [] := by kernel_rfl
@[go_sem ↓] theorem fl_63 : plOf1 Try.prog 63 = true := by kernel_rfl
@[go_sem ↓] theorem sz_64 : Try.prog.cellsOf 64 = 0 := by kernel_rfl
@[go_sem ↓] theorem ag_64 : isAggU (Try.prog.underlying 64) = some true := by kernel_rfl
@[go_sem ↓] theorem zr_64 : zrOf Try.prog 64 = some [] := by kernel_rfl
@[go_sem ↓] theorem pl_64_0 : plOf Try.prog 64 0 = some (0, 0) := by kernel_rfl
@[go_sem ↓] theorem fl_64 : plOf1 Try.prog 64 = true := by kernel_rfl
@[go_sem ↓] theorem sz_65 : Try.prog.cellsOf 65 = 0 := by kernel_rfl
@[go_sem ↓] theorem ag_65 : isAggU (Try.prog.underlying 65) = some true := by kernel_rfl
@[go_sem ↓] theorem zr_65 : zrOf Try.prog 65 = some [] := by kernel_rfl
@[go_sem ↓] theorem pl_65_0 : plOf Try.prog 65 0 = some (0, 0) := by kernel_rfl
@[go_sem ↓] theorem fl_65 : plOf1 Try.prog 65 = true := by kernel_rfl
@[go_sem ↓] theorem sz_66 : Try.prog.cellsOf 66 = 1 := by kernel_rfl
@[go_sem ↓] theorem ag_66 : isAggU (Try.prog.underlying 66) = some false := by kernel_rfl
@[go_sem ↓] theorem zr_66 : zrOf Try.prog 66 = some [.nilFunc] := by kernel_rfl
@[go_sem ↓] theorem sz_67 : Try.prog.cellsOf 67 = 1 := by kernel_rfl
@[go_sem ↓] theorem ag_67 : isAggU (Try.prog.underlying 67) = some false := by kernel_rfl
@[go_sem ↓] theorem zr_67 : zrOf Try.prog 67 = some [(.int .u8 0)] := by kernel_rfl
@[go_sem ↓] theorem sz_68 : Try.prog.cellsOf 68 = 1 := by kernel_rfl
@[go_sem ↓] theorem ag_68 : isAggU (Try.prog.underlying 68) = some false := by kernel_rfl
@[go_sem ↓] theorem zr_68 : zrOf Try.prog 68 = some [(.int .u8 0)] := by kernel_rfl
@[go_sem ↓] theorem sz_69 : Try.prog.cellsOf 69 = 1 := by kernel_rfl
@[go_sem ↓] theorem ag_69 : isAggU (Try.prog.underlying 69) = some false := by kernel_rfl
@[go_sem ↓] theorem zr_69 : zrOf Try.prog 69 = some [.nilFunc] := by kernel_rfl
@[go_sem ↓] theorem sz_70 : Try.prog.cellsOf 70 = 1 := by kernel_rfl
@[go_sem ↓] theorem ag_70 : isAggU (Try.prog.underlying 70) = some false := by kernel_rfl
@[go_sem ↓] theorem zr_70 : zrOf Try.prog 70 = some [(.pointer none)] := by kernel_rfl
@[go_sem ↓] theorem sz_71 : Try.prog.cellsOf 71 = 1 := by kernel_rfl
@[go_sem ↓] theorem ag_71 : isAggU (Try.prog.underlying 71) = some false := by kernel_rfl
@[go_sem ↓] theorem zr_71 : zrOf Try.prog 71 = some [(.int .i32 0)] := by kernel_rfl
@[go_sem ↓] theorem sz_72 : Try.prog.cellsOf 72 = 1 := by kernel_rfl
@[go_sem ↓] theorem ag_72 : isAggU (Try.prog.underlying 72) = some false := by kernel_rfl
@[go_sem ↓] theorem zr_72 : zrOf Try.prog 72 = some [(.int .i32 0)] := by kernel_rfl
@[go_sem ↓] theorem sz_73 : Try.prog.cellsOf 73 = 11 := by kernel_rfl
@[go_sem ↓] theorem ag_73 : isAggU (Try.prog.underlying 73) = some true := by kernel_rfl
@[go_sem ↓] theorem zr_73 : zrOf Try.prog 73 = some [(.int .u64 0), (.int .u64 0), (.int .u32 0), (.int .u8 0), (.int .u8 0), (.int .u8 0), (.int .u8 0), .nilFunc, (.pointer none), (.int .i32 0), (.int .i32 0)] := by kernel_rfl
@[go_sem ↓] theorem fo_73_0 : foOf Try.prog 73 0 = some 0 := by kernel_rfl
@[go_sem ↓] theorem pl_73_0 : plOf Try.prog 73 0 = some (0, 1) := by kernel_rfl
@[go_sem ↓] theorem fo_73_1 : foOf Try.prog 73 1 = some 1 := by kernel_rfl
@[go_sem ↓] theorem pl_73_1 : plOf Try.prog 73 1 = some (1, 1) := by kernel_rfl
@[go_sem ↓] theorem fo_73_2 : foOf Try.prog 73 2 = some 2 := by kernel_rfl
@[go_sem ↓] theorem pl_73_2 : plOf Try.prog 73 2 = some (2, 1) := by kernel_rfl
@[go_sem ↓] theorem fo_73_3 : foOf Try.prog 73 3 = some 3 := by kernel_rfl
@[go_sem ↓] theorem pl_73_3 : plOf Try.prog 73 3 = some (3, 1) := by kernel_rfl
@[go_sem ↓] theorem fo_73_4 : foOf Try.prog 73 4 = some 4 := by kernel_rfl
@[go_sem ↓] theorem pl_73_4 : plOf Try.prog 73 4 = some (4, 1) := by kernel_rfl
@[go_sem ↓] theorem fo_73_5 : foOf Try.prog 73 5 = some 5 := by kernel_rfl
@[go_sem ↓] theorem pl_73_5 : plOf Try.prog 73 5 = some (5, 1) := by kernel_rfl
@[go_sem ↓] theorem fo_73_6 : foOf Try.prog 73 6 = some 6 := by kernel_rfl
@[go_sem ↓] theorem pl_73_6 : plOf Try.prog 73 6 = some (6, 1) := by kernel_rfl
@[go_sem ↓] theorem fo_73_7 : foOf Try.prog 73 7 = some 7 := by kernel_rfl
@[go_sem ↓] theorem pl_73_7 : plOf Try.prog 73 7 = some (7, 1) := by kernel_rfl
@[go_sem ↓] theorem fo_73_8 : foOf Try.prog 73 8 = some 8 := by kernel_rfl
@[go_sem ↓] theorem pl_73_8 : plOf Try.prog 73 8 = some (8, 1) := by kernel_rfl
@[go_sem ↓] theorem fo_73_9 : foOf Try.prog 73 9 = some 9 := by kernel_rfl
@[go_sem ↓] theorem pl_73_9 : plOf Try.prog 73 9 = some (9, 1) := by kernel_rfl
@[go_sem ↓] theorem fo_73_10 : foOf Try.prog 73 10 = some 10 := by kernel_rfl
@[go_sem ↓] theorem pl_73_10 : plOf Try.prog 73 10 = some (10, 1) := by kernel_rfl
@[go_sem ↓] theorem fl_73 : plOf1 Try.prog 73 = true := by kernel_rfl
@[go_sem ↓] theorem sz_74 : Try.prog.cellsOf 74 = 11 := by kernel_rfl
@[go_sem ↓] theorem ag_74 : isAggU (Try.prog.underlying 74) = some true := by kernel_rfl
@[go_sem ↓] theorem zr_74 : zrOf Try.prog 74 = some [(.int .u64 0), (.int .u64 0), (.int .u32 0), (.int .u8 0), (.int .u8 0), (.int .u8 0), (.int .u8 0), .nilFunc, (.pointer none), (.int .i32 0), (.int .i32 0)] := by kernel_rfl
@[go_sem ↓] theorem fo_74_0 : foOf Try.prog 74 0 = some 0 := by kernel_rfl
@[go_sem ↓] theorem pl_74_0 : plOf Try.prog 74 0 = some (0, 1) := by kernel_rfl
@[go_sem ↓] theorem fo_74_1 : foOf Try.prog 74 1 = some 1 := by kernel_rfl
@[go_sem ↓] theorem pl_74_1 : plOf Try.prog 74 1 = some (1, 1) := by kernel_rfl
@[go_sem ↓] theorem fo_74_2 : foOf Try.prog 74 2 = some 2 := by kernel_rfl
@[go_sem ↓] theorem pl_74_2 : plOf Try.prog 74 2 = some (2, 1) := by kernel_rfl
@[go_sem ↓] theorem fo_74_3 : foOf Try.prog 74 3 = some 3 := by kernel_rfl
@[go_sem ↓] theorem pl_74_3 : plOf Try.prog 74 3 = some (3, 1) := by kernel_rfl
@[go_sem ↓] theorem fo_74_4 : foOf Try.prog 74 4 = some 4 := by kernel_rfl
@[go_sem ↓] theorem pl_74_4 : plOf Try.prog 74 4 = some (4, 1) := by kernel_rfl
@[go_sem ↓] theorem fo_74_5 : foOf Try.prog 74 5 = some 5 := by kernel_rfl
@[go_sem ↓] theorem pl_74_5 : plOf Try.prog 74 5 = some (5, 1) := by kernel_rfl
@[go_sem ↓] theorem fo_74_6 : foOf Try.prog 74 6 = some 6 := by kernel_rfl
@[go_sem ↓] theorem pl_74_6 : plOf Try.prog 74 6 = some (6, 1) := by kernel_rfl
@[go_sem ↓] theorem fo_74_7 : foOf Try.prog 74 7 = some 7 := by kernel_rfl
@[go_sem ↓] theorem pl_74_7 : plOf Try.prog 74 7 = some (7, 1) := by kernel_rfl
@[go_sem ↓] theorem fo_74_8 : foOf Try.prog 74 8 = some 8 := by kernel_rfl
@[go_sem ↓] theorem pl_74_8 : plOf Try.prog 74 8 = some (8, 1) := by kernel_rfl
@[go_sem ↓] theorem fo_74_9 : foOf Try.prog 74 9 = some 9 := by kernel_rfl
@[go_sem ↓] theorem pl_74_9 : plOf Try.prog 74 9 = some (9, 1) := by kernel_rfl
@[go_sem ↓] theorem fo_74_10 : foOf Try.prog 74 10 = some 10 := by kernel_rfl
@[go_sem ↓] theorem pl_74_10 : plOf Try.prog 74 10 = some (10, 1) := by kernel_rfl
@[go_sem ↓] theorem fl_74 : plOf1 Try.prog 74 = true := by kernel_rfl
@[go_sem ↓] theorem sz_75 : Try.prog.cellsOf 75 = 1 := by kernel_rfl
@[go_sem ↓] theorem ag_75 : isAggU (Try.prog.underlying 75) = some false := by kernel_rfl
@[go_sem ↓] theorem zr_75 : zrOf Try.prog 75 = some [(.pointer none)] := by kernel_rfl
@[go_sem] theorem sl_22 {H : AH} {b o len cap : Nat} {lo hi : Option Value} {K : Value → Prop} : rdop Try.prog H (Instr.sliceAt 22 (.slice (some ⟨b, o, none⟩) len cap) lo hi none) K = bnd len hi cap fun h => bnd 0 lo h fun l => nv (.slice (some ⟨b, if cap = l then o else o + l * Try.prog.cellsOf 34, none⟩) (h - l) (cap - l)) K := rdop_slice_sl Try.underlying22 (by rw [sz_34]; simp)
@[go_sem] theorem sc_22 {H : AH} {a : Option Addr} {len cap : Nat} {hi mx : Value} {K : Value → Prop} : rdop Try.prog H (Instr.sliceAt 22 (.slice a len cap) none (some hi) (some mx)) K = bnd cap (some mx) cap fun m => bnd len (some hi) m fun h => nv (.slice a h m) K := rdop_clip Try.underlying22 (by rw [sz_34]; simp)
@[go_sem] theorem sn_22 {H : AH} {len cap : Nat} {lo hi : Option Value} {K : Value → Prop} : rdop Try.prog H (Instr.sliceAt 22 (.slice none len cap) lo hi none) K = bnd len hi cap fun h => bnd 0 lo h fun l => nv (.slice none (h - l) (cap - l)) K := rdop_slice_nil Try.underlying22 (by rw [sz_34]; simp)
@[go_sem] theorem sl_31 {H : AH} {b o len cap : Nat} {lo hi : Option Value} {K : Value → Prop} : rdop Try.prog H (Instr.sliceAt 31 (.slice (some ⟨b, o, none⟩) len cap) lo hi none) K = bnd len hi cap fun h => bnd 0 lo h fun l => nv (.slice (some ⟨b, if cap = l then o else o + l * Try.prog.cellsOf 51, none⟩) (h - l) (cap - l)) K := rdop_slice_sl Try.underlying31 (by rw [sz_51]; simp)
@[go_sem] theorem sc_31 {H : AH} {a : Option Addr} {len cap : Nat} {hi mx : Value} {K : Value → Prop} : rdop Try.prog H (Instr.sliceAt 31 (.slice a len cap) none (some hi) (some mx)) K = bnd cap (some mx) cap fun m => bnd len (some hi) m fun h => nv (.slice a h m) K := rdop_clip Try.underlying31 (by rw [sz_51]; simp)
@[go_sem] theorem sn_31 {H : AH} {len cap : Nat} {lo hi : Option Value} {K : Value → Prop} : rdop Try.prog H (Instr.sliceAt 31 (.slice none len cap) lo hi none) K = bnd len hi cap fun h => bnd 0 lo h fun l => nv (.slice none (h - l) (cap - l)) K := rdop_slice_nil Try.underlying31 (by rw [sz_51]; simp)
@[go_sem] theorem sl_38 {H : AH} {b o len cap : Nat} {lo hi : Option Value} {K : Value → Prop} : rdop Try.prog H (Instr.sliceAt 38 (.slice (some ⟨b, o, none⟩) len cap) lo hi none) K = bnd len hi cap fun h => bnd 0 lo h fun l => nv (.slice (some ⟨b, if cap = l then o else o + l * Try.prog.cellsOf 4, none⟩) (h - l) (cap - l)) K := rdop_slice_sl Try.underlying38 (by rw [sz_4]; simp)
@[go_sem] theorem sc_38 {H : AH} {a : Option Addr} {len cap : Nat} {hi mx : Value} {K : Value → Prop} : rdop Try.prog H (Instr.sliceAt 38 (.slice a len cap) none (some hi) (some mx)) K = bnd cap (some mx) cap fun m => bnd len (some hi) m fun h => nv (.slice a h m) K := rdop_clip Try.underlying38 (by rw [sz_4]; simp)
@[go_sem] theorem sn_38 {H : AH} {len cap : Nat} {lo hi : Option Value} {K : Value → Prop} : rdop Try.prog H (Instr.sliceAt 38 (.slice none len cap) lo hi none) K = bnd len hi cap fun h => bnd 0 lo h fun l => nv (.slice none (h - l) (cap - l)) K := rdop_slice_nil Try.underlying38 (by rw [sz_4]; simp)
@[go_sem] theorem sl_39 {H : AH} {b o len cap : Nat} {lo hi : Option Value} {K : Value → Prop} : rdop Try.prog H (Instr.sliceAt 39 (.slice (some ⟨b, o, none⟩) len cap) lo hi none) K = bnd len hi cap fun h => bnd 0 lo h fun l => nv (.slice (some ⟨b, if cap = l then o else o + l * Try.prog.cellsOf 3, none⟩) (h - l) (cap - l)) K := rdop_slice_sl Try.underlying39 (by rw [sz_3]; simp)
@[go_sem] theorem sc_39 {H : AH} {a : Option Addr} {len cap : Nat} {hi mx : Value} {K : Value → Prop} : rdop Try.prog H (Instr.sliceAt 39 (.slice a len cap) none (some hi) (some mx)) K = bnd cap (some mx) cap fun m => bnd len (some hi) m fun h => nv (.slice a h m) K := rdop_clip Try.underlying39 (by rw [sz_3]; simp)
@[go_sem] theorem sn_39 {H : AH} {len cap : Nat} {lo hi : Option Value} {K : Value → Prop} : rdop Try.prog H (Instr.sliceAt 39 (.slice none len cap) lo hi none) K = bnd len hi cap fun h => bnd 0 lo h fun l => nv (.slice none (h - l) (cap - l)) K := rdop_slice_nil Try.underlying39 (by rw [sz_3]; simp)
@[go_sem] theorem sl_43 {H : AH} {b o : Nat} {lo hi : Option Value} {K : Value → Prop} : rdop Try.prog H (Instr.sliceAt 43 (.pointer (some ⟨b, o, none⟩)) lo hi none) K = bnd 4 hi 4 fun h => bnd 0 lo h fun l => nv (.slice (some ⟨b, if 4 = l then o else o + l * Try.prog.cellsOf 5, none⟩) (h - l) (4 - l)) K := rdop_slice_arr Try.underlying43 (by rw [sz_5]; simp)
@[go_sem] theorem ix_43 {H : AH} {cs : Array Value} {k : IntKind} {i : Int} {K : Value → Prop} : rdop Try.prog H (Instr.index 43 (.agg cs) (.int k i)) K = (0 ≤ i ∧ i < (4 : Nat) ∧ wo cs[i.toNat * Try.prog.cellsOf 5]? fun v => nv v K) := rdop_index_arr Try.underlying43 (by rw [sz_5]; simp) ag_5
@[go_sem] theorem sl_44 {H : AH} {b o : Nat} {lo hi : Option Value} {K : Value → Prop} : rdop Try.prog H (Instr.sliceAt 44 (.pointer (some ⟨b, o, none⟩)) lo hi none) K = bnd 4 hi 4 fun h => bnd 0 lo h fun l => nv (.slice (some ⟨b, if 4 = l then o else o + l * Try.prog.cellsOf 5, none⟩) (h - l) (4 - l)) K := rdop_slice_arr Try.underlying44 (by rw [sz_5]; simp)
@[go_sem] theorem ix_44 {H : AH} {cs : Array Value} {k : IntKind} {i : Int} {K : Value → Prop} : rdop Try.prog H (Instr.index 44 (.agg cs) (.int k i)) K = (0 ≤ i ∧ i < (4 : Nat) ∧ wo cs[i.toNat * Try.prog.cellsOf 5]? fun v => nv v K) := rdop_index_arr Try.underlying44 (by rw [sz_5]; simp) ag_5
@[go_sem] theorem sl_51 {H : AH} {b o len cap : Nat} {lo hi : Option Value} {K : Value → Prop} : rdop Try.prog H (Instr.sliceAt 51 (.slice (some ⟨b, o, none⟩) len cap) lo hi none) K = bnd len hi cap fun h => bnd 0 lo h fun l => nv (.slice (some ⟨b, if cap = l then o else o + l * Try.prog.cellsOf 50, none⟩) (h - l) (cap - l)) K := rdop_slice_sl Try.underlying51 (by rw [sz_50]; simp)
@[go_sem] theorem sc_51 {H : AH} {a : Option Addr} {len cap : Nat} {hi mx : Value} {K : Value → Prop} : rdop Try.prog H (Instr.sliceAt 51 (.slice a len cap) none (some hi) (some mx)) K = bnd cap (some mx) cap fun m => bnd len (some hi) m fun h => nv (.slice a h m) K := rdop_clip Try.underlying51 (by rw [sz_50]; simp)
@[go_sem] theorem sn_51 {H : AH} {len cap : Nat} {lo hi : Option Value} {K : Value → Prop} : rdop Try.prog H (Instr.sliceAt 51 (.slice none len cap) lo hi none) K = bnd len hi cap fun h => bnd 0 lo h fun l => nv (.slice none (h - l) (cap - l)) K := rdop_slice_nil Try.underlying51 (by rw [sz_50]; simp)
@[go_sem] theorem fd_7_0 {H : AH} {cs : Array Value} {K : Value → Prop} : rdop Try.prog H (Instr.field 7 (.agg cs) 0) K = wo cs[0]? fun v => nv v K := rdop_fieldF (show fdOf Try.prog 7 0 = some (0, 1, false) by kernel_rfl)
@[go_sem] theorem fd_7_1 {H : AH} {cs : Array Value} {K : Value → Prop} : rdop Try.prog H (Instr.field 7 (.agg cs) 1) K = wo cs[1]? fun v => nv v K := rdop_fieldF (show fdOf Try.prog 7 1 = some (1, 1, false) by kernel_rfl)
@[go_sem] theorem fd_7_2 {H : AH} {cs : Array Value} {K : Value → Prop} : rdop Try.prog H (Instr.field 7 (.agg cs) 2) K = wo cs[2]? fun v => nv v K := rdop_fieldF (show fdOf Try.prog 7 2 = some (2, 1, false) by kernel_rfl)
@[go_sem] theorem fd_7_3 {H : AH} {cs : Array Value} {K : Value → Prop} : rdop Try.prog H (Instr.field 7 (.agg cs) 3) K = wo cs[3]? fun v => nv v K := rdop_fieldF (show fdOf Try.prog 7 3 = some (3, 1, false) by kernel_rfl)
@[go_sem] theorem fd_8_0 {H : AH} {cs : Array Value} {K : Value → Prop} : rdop Try.prog H (Instr.field 8 (.agg cs) 0) K = wo cs[0]? fun v => nv v K := rdop_fieldF (show fdOf Try.prog 8 0 = some (0, 1, false) by kernel_rfl)
@[go_sem] theorem fd_8_1 {H : AH} {cs : Array Value} {K : Value → Prop} : rdop Try.prog H (Instr.field 8 (.agg cs) 1) K = wo cs[1]? fun v => nv v K := rdop_fieldF (show fdOf Try.prog 8 1 = some (1, 1, false) by kernel_rfl)
@[go_sem] theorem fd_8_2 {H : AH} {cs : Array Value} {K : Value → Prop} : rdop Try.prog H (Instr.field 8 (.agg cs) 2) K = wo cs[2]? fun v => nv v K := rdop_fieldF (show fdOf Try.prog 8 2 = some (2, 1, false) by kernel_rfl)
@[go_sem] theorem fd_8_3 {H : AH} {cs : Array Value} {K : Value → Prop} : rdop Try.prog H (Instr.field 8 (.agg cs) 3) K = wo cs[3]? fun v => nv v K := rdop_fieldF (show fdOf Try.prog 8 3 = some (3, 1, false) by kernel_rfl)
@[go_sem] theorem fd_13_0 {H : AH} {cs : Array Value} {K : Value → Prop} : rdop Try.prog H (Instr.field 13 (.agg cs) 0) K = wo cs[0]? fun v => nv v K := rdop_fieldF (show fdOf Try.prog 13 0 = some (0, 1, false) by kernel_rfl)
@[go_sem] theorem fd_13_1 {H : AH} {cs : Array Value} {K : Value → Prop} : rdop Try.prog H (Instr.field 13 (.agg cs) 1) K = wo cs[1]? fun v => nv v K := rdop_fieldF (show fdOf Try.prog 13 1 = some (1, 1, false) by kernel_rfl)
@[go_sem] theorem fd_14_0 {H : AH} {cs : Array Value} {K : Value → Prop} : rdop Try.prog H (Instr.field 14 (.agg cs) 0) K = wo cs[0]? fun v => nv v K := rdop_fieldF (show fdOf Try.prog 14 0 = some (0, 1, false) by kernel_rfl)
@[go_sem] theorem fd_14_1 {H : AH} {cs : Array Value} {K : Value → Prop} : rdop Try.prog H (Instr.field 14 (.agg cs) 1) K = wo cs[1]? fun v => nv v K := rdop_fieldF (show fdOf Try.prog 14 1 = some (1, 1, false) by kernel_rfl)
@[go_sem] theorem fd_18_0 {H : AH} {cs : Array Value} {K : Value → Prop} : rdop Try.prog H (Instr.field 18 (.agg cs) 0) K = wo cs[0]? fun v => nv v K := rdop_fieldF (show fdOf Try.prog 18 0 = some (0, 1, false) by kernel_rfl)
@[go_sem] theorem fd_19_0 {H : AH} {cs : Array Value} {K : Value → Prop} : rdop Try.prog H (Instr.field 19 (.agg cs) 0) K = wo cs[0]? fun v => nv v K := rdop_fieldF (show fdOf Try.prog 19 0 = some (0, 1, false) by kernel_rfl)
@[go_sem ↓] theorem se_22 : slE Try.prog 22 = some (34, 2, [(.slice none 0 0), (.int .u32 0)], 32) := by kernel_rfl
@[go_sem ↓] theorem se_31 : slE Try.prog 31 = some (51, 1, [(.slice none 0 0)], 24) := by kernel_rfl
@[go_sem] theorem fd_33_0 {H : AH} {cs : Array Value} {K : Value → Prop} : rdop Try.prog H (Instr.field 33 (.agg cs) 0) K = wo cs[0]? fun v => nv v K := rdop_fieldF (show fdOf Try.prog 33 0 = some (0, 1, false) by kernel_rfl)
@[go_sem] theorem fd_33_1 {H : AH} {cs : Array Value} {K : Value → Prop} : rdop Try.prog H (Instr.field 33 (.agg cs) 1) K = wo cs[1]? fun v => nv v K := rdop_fieldF (show fdOf Try.prog 33 1 = some (1, 1, false) by kernel_rfl)
@[go_sem] theorem fd_34_0 {H : AH} {cs : Array Value} {K : Value → Prop} : rdop Try.prog H (Instr.field 34 (.agg cs) 0) K = wo cs[0]? fun v => nv v K := rdop_fieldF (show fdOf Try.prog 34 0 = some (0, 1, false) by kernel_rfl)
@[go_sem] theorem fd_34_1 {H : AH} {cs : Array Value} {K : Value → Prop} : rdop Try.prog H (Instr.field 34 (.agg cs) 1) K = wo cs[1]? fun v => nv v K := rdop_fieldF (show fdOf Try.prog 34 1 = some (1, 1, false) by kernel_rfl)
@[go_sem ↓] theorem me_36 : mpE Try.prog 36 = some (.int .i64, (.int .u8 0)) := by kernel_rfl
@[go_sem ↓] theorem se_38 : slE Try.prog 38 = some (4, 1, [(.bool false)], 1) := by kernel_rfl
@[go_sem ↓] theorem se_39 : slE Try.prog 39 = some (3, 1, [(.int .i64 0)], 8) := by kernel_rfl
@[go_sem] theorem fd_40_0 {H : AH} {cs : Array Value} {K : Value → Prop} : rdop Try.prog H (Instr.field 40 (.agg cs) 0) K = wo cs[0]? fun v => nv v K := rdop_fieldF (show fdOf Try.prog 40 0 = some (0, 1, false) by kernel_rfl)
@[go_sem] theorem fd_40_1 {H : AH} {cs : Array Value} {K : Value → Prop} : rdop Try.prog H (Instr.field 40 (.agg cs) 1) K = wo cs[1]? fun v => nv v K := rdop_fieldF (show fdOf Try.prog 40 1 = some (1, 1, false) by kernel_rfl)
@[go_sem] theorem fd_41_0 {H : AH} {cs : Array Value} {K : Value → Prop} : rdop Try.prog H (Instr.field 41 (.agg cs) 0) K = wo cs[0]? fun v => nv v K := rdop_fieldF (show fdOf Try.prog 41 0 = some (0, 1, false) by kernel_rfl)
@[go_sem] theorem fd_41_1 {H : AH} {cs : Array Value} {K : Value → Prop} : rdop Try.prog H (Instr.field 41 (.agg cs) 1) K = wo cs[1]? fun v => nv v K := rdop_fieldF (show fdOf Try.prog 41 1 = some (1, 1, false) by kernel_rfl)
@[go_sem] theorem fd_47_0 {H : AH} {cs : Array Value} {K : Value → Prop} : rdop Try.prog H (Instr.field 47 (.agg cs) 0) K = wo cs[0]? fun v => nv v K := rdop_fieldF (show fdOf Try.prog 47 0 = some (0, 1, false) by kernel_rfl)
@[go_sem] theorem fd_48_0 {H : AH} {cs : Array Value} {K : Value → Prop} : rdop Try.prog H (Instr.field 48 (.agg cs) 0) K = wo cs[0]? fun v => nv v K := rdop_fieldF (show fdOf Try.prog 48 0 = some (0, 1, false) by kernel_rfl)
@[go_sem] theorem fd_49_0 {H : AH} {cs : Array Value} {K : Value → Prop} : rdop Try.prog H (Instr.field 49 (.agg cs) 0) K = wo cs[0]? fun v => nv v K := rdop_fieldF (show fdOf Try.prog 49 0 = some (0, 1, false) by kernel_rfl)
@[go_sem] theorem fd_49_1 {H : AH} {cs : Array Value} {K : Value → Prop} : rdop Try.prog H (Instr.field 49 (.agg cs) 1) K = wo cs[1]? fun v => nv v K := rdop_fieldF (show fdOf Try.prog 49 1 = some (1, 1, false) by kernel_rfl)
@[go_sem] theorem fd_49_2 {H : AH} {cs : Array Value} {K : Value → Prop} : rdop Try.prog H (Instr.field 49 (.agg cs) 2) K = wo cs[2]? fun v => nv v K := rdop_fieldF (show fdOf Try.prog 49 2 = some (2, 1, false) by kernel_rfl)
@[go_sem] theorem fd_49_3 {H : AH} {cs : Array Value} {K : Value → Prop} : rdop Try.prog H (Instr.field 49 (.agg cs) 3) K = wo cs[3]? fun v => nv v K := rdop_fieldF (show fdOf Try.prog 49 3 = some (3, 1, false) by kernel_rfl)
@[go_sem] theorem fd_49_4 {H : AH} {cs : Array Value} {K : Value → Prop} : rdop Try.prog H (Instr.field 49 (.agg cs) 4) K = wo cs[4]? fun v => nv v K := rdop_fieldF (show fdOf Try.prog 49 4 = some (4, 1, false) by kernel_rfl)
@[go_sem] theorem fd_50_0 {H : AH} {cs : Array Value} {K : Value → Prop} : rdop Try.prog H (Instr.field 50 (.agg cs) 0) K = wo cs[0]? fun v => nv v K := rdop_fieldF (show fdOf Try.prog 50 0 = some (0, 1, false) by kernel_rfl)
@[go_sem] theorem fd_50_1 {H : AH} {cs : Array Value} {K : Value → Prop} : rdop Try.prog H (Instr.field 50 (.agg cs) 1) K = wo cs[1]? fun v => nv v K := rdop_fieldF (show fdOf Try.prog 50 1 = some (1, 1, false) by kernel_rfl)
@[go_sem] theorem fd_50_2 {H : AH} {cs : Array Value} {K : Value → Prop} : rdop Try.prog H (Instr.field 50 (.agg cs) 2) K = wo cs[2]? fun v => nv v K := rdop_fieldF (show fdOf Try.prog 50 2 = some (2, 1, false) by kernel_rfl)
@[go_sem] theorem fd_50_3 {H : AH} {cs : Array Value} {K : Value → Prop} : rdop Try.prog H (Instr.field 50 (.agg cs) 3) K = wo cs[3]? fun v => nv v K := rdop_fieldF (show fdOf Try.prog 50 3 = some (3, 1, false) by kernel_rfl)
@[go_sem] theorem fd_50_4 {H : AH} {cs : Array Value} {K : Value → Prop} : rdop Try.prog H (Instr.field 50 (.agg cs) 4) K = wo cs[4]? fun v => nv v K := rdop_fieldF (show fdOf Try.prog 50 4 = some (4, 1, false) by kernel_rfl)
@[go_sem ↓] theorem se_51 : slE Try.prog 51 = some (50, 5, [(.int .i64 0), (.int .i64 0), (.int .i64 0), (.int .i64 0), (.int .i64 0)], 40) := by kernel_rfl
@[go_sem] theorem fd_61_0 {H : AH} {cs : Array Value} {K : Value → Prop} : rdop Try.prog H (Instr.field 61 (.agg cs) 0) K = wo cs[0]? fun v => nv v K := rdop_fieldF (show fdOf Try.prog 61 0 = some (0, 1, false) by kernel_rfl)
@[go_sem] theorem fd_61_1 {H : AH} {cs : Array Value} {K : Value → Prop} : rdop Try.prog H (Instr.field 61 (.agg cs) 1) K = wo cs[1]? fun v => nv v K := rdop_fieldF (show fdOf Try.prog 61 1 = some (1, 1, false) by kernel_rfl)
@[go_sem] theorem fd_61_2 {H : AH} {cs : Array Value} {K : Value → Prop} : rdop Try.prog H (Instr.field 61 (.agg cs) 2) K = wo cs[2]? fun v => nv v K := rdop_fieldF (show fdOf Try.prog 61 2 = some (2, 1, false) by kernel_rfl)
@[go_sem] theorem fd_61_3 {H : AH} {cs : Array Value} {K : Value → Prop} : rdop Try.prog H (Instr.field 61 (.agg cs) 3) K = wo cs[3]? fun v => nv v K := rdop_fieldF (show fdOf Try.prog 61 3 = some (3, 1, false) by kernel_rfl)
@[go_sem] theorem fd_62_0 {H : AH} {cs : Array Value} {K : Value → Prop} : rdop Try.prog H (Instr.field 62 (.agg cs) 0) K = wo cs[0]? fun v => nv v K := rdop_fieldF (show fdOf Try.prog 62 0 = some (0, 1, false) by kernel_rfl)
@[go_sem] theorem fd_62_1 {H : AH} {cs : Array Value} {K : Value → Prop} : rdop Try.prog H (Instr.field 62 (.agg cs) 1) K = wo cs[1]? fun v => nv v K := rdop_fieldF (show fdOf Try.prog 62 1 = some (1, 1, false) by kernel_rfl)
@[go_sem] theorem fd_62_2 {H : AH} {cs : Array Value} {K : Value → Prop} : rdop Try.prog H (Instr.field 62 (.agg cs) 2) K = wo cs[2]? fun v => nv v K := rdop_fieldF (show fdOf Try.prog 62 2 = some (2, 1, false) by kernel_rfl)
@[go_sem] theorem fd_62_3 {H : AH} {cs : Array Value} {K : Value → Prop} : rdop Try.prog H (Instr.field 62 (.agg cs) 3) K = wo cs[3]? fun v => nv v K := rdop_fieldF (show fdOf Try.prog 62 3 = some (3, 1, false) by kernel_rfl)
@[go_sem] theorem fd_73_0 {H : AH} {cs : Array Value} {K : Value → Prop} : rdop Try.prog H (Instr.field 73 (.agg cs) 0) K = wo cs[0]? fun v => nv v K := rdop_fieldF (show fdOf Try.prog 73 0 = some (0, 1, false) by kernel_rfl)
@[go_sem] theorem fd_73_1 {H : AH} {cs : Array Value} {K : Value → Prop} : rdop Try.prog H (Instr.field 73 (.agg cs) 1) K = wo cs[1]? fun v => nv v K := rdop_fieldF (show fdOf Try.prog 73 1 = some (1, 1, false) by kernel_rfl)
@[go_sem] theorem fd_73_2 {H : AH} {cs : Array Value} {K : Value → Prop} : rdop Try.prog H (Instr.field 73 (.agg cs) 2) K = wo cs[2]? fun v => nv v K := rdop_fieldF (show fdOf Try.prog 73 2 = some (2, 1, false) by kernel_rfl)
@[go_sem] theorem fd_73_3 {H : AH} {cs : Array Value} {K : Value → Prop} : rdop Try.prog H (Instr.field 73 (.agg cs) 3) K = wo cs[3]? fun v => nv v K := rdop_fieldF (show fdOf Try.prog 73 3 = some (3, 1, false) by kernel_rfl)
@[go_sem] theorem fd_73_4 {H : AH} {cs : Array Value} {K : Value → Prop} : rdop Try.prog H (Instr.field 73 (.agg cs) 4) K = wo cs[4]? fun v => nv v K := rdop_fieldF (show fdOf Try.prog 73 4 = some (4, 1, false) by kernel_rfl)
@[go_sem] theorem fd_73_5 {H : AH} {cs : Array Value} {K : Value → Prop} : rdop Try.prog H (Instr.field 73 (.agg cs) 5) K = wo cs[5]? fun v => nv v K := rdop_fieldF (show fdOf Try.prog 73 5 = some (5, 1, false) by kernel_rfl)
@[go_sem] theorem fd_73_6 {H : AH} {cs : Array Value} {K : Value → Prop} : rdop Try.prog H (Instr.field 73 (.agg cs) 6) K = wo cs[6]? fun v => nv v K := rdop_fieldF (show fdOf Try.prog 73 6 = some (6, 1, false) by kernel_rfl)
@[go_sem] theorem fd_73_7 {H : AH} {cs : Array Value} {K : Value → Prop} : rdop Try.prog H (Instr.field 73 (.agg cs) 7) K = wo cs[7]? fun v => nv v K := rdop_fieldF (show fdOf Try.prog 73 7 = some (7, 1, false) by kernel_rfl)
@[go_sem] theorem fd_73_8 {H : AH} {cs : Array Value} {K : Value → Prop} : rdop Try.prog H (Instr.field 73 (.agg cs) 8) K = wo cs[8]? fun v => nv v K := rdop_fieldF (show fdOf Try.prog 73 8 = some (8, 1, false) by kernel_rfl)
@[go_sem] theorem fd_73_9 {H : AH} {cs : Array Value} {K : Value → Prop} : rdop Try.prog H (Instr.field 73 (.agg cs) 9) K = wo cs[9]? fun v => nv v K := rdop_fieldF (show fdOf Try.prog 73 9 = some (9, 1, false) by kernel_rfl)
@[go_sem] theorem fd_73_10 {H : AH} {cs : Array Value} {K : Value → Prop} : rdop Try.prog H (Instr.field 73 (.agg cs) 10) K = wo cs[10]? fun v => nv v K := rdop_fieldF (show fdOf Try.prog 73 10 = some (10, 1, false) by kernel_rfl)
@[go_sem] theorem fd_74_0 {H : AH} {cs : Array Value} {K : Value → Prop} : rdop Try.prog H (Instr.field 74 (.agg cs) 0) K = wo cs[0]? fun v => nv v K := rdop_fieldF (show fdOf Try.prog 74 0 = some (0, 1, false) by kernel_rfl)
@[go_sem] theorem fd_74_1 {H : AH} {cs : Array Value} {K : Value → Prop} : rdop Try.prog H (Instr.field 74 (.agg cs) 1) K = wo cs[1]? fun v => nv v K := rdop_fieldF (show fdOf Try.prog 74 1 = some (1, 1, false) by kernel_rfl)
@[go_sem] theorem fd_74_2 {H : AH} {cs : Array Value} {K : Value → Prop} : rdop Try.prog H (Instr.field 74 (.agg cs) 2) K = wo cs[2]? fun v => nv v K := rdop_fieldF (show fdOf Try.prog 74 2 = some (2, 1, false) by kernel_rfl)
@[go_sem] theorem fd_74_3 {H : AH} {cs : Array Value} {K : Value → Prop} : rdop Try.prog H (Instr.field 74 (.agg cs) 3) K = wo cs[3]? fun v => nv v K := rdop_fieldF (show fdOf Try.prog 74 3 = some (3, 1, false) by kernel_rfl)
@[go_sem] theorem fd_74_4 {H : AH} {cs : Array Value} {K : Value → Prop} : rdop Try.prog H (Instr.field 74 (.agg cs) 4) K = wo cs[4]? fun v => nv v K := rdop_fieldF (show fdOf Try.prog 74 4 = some (4, 1, false) by kernel_rfl)
@[go_sem] theorem fd_74_5 {H : AH} {cs : Array Value} {K : Value → Prop} : rdop Try.prog H (Instr.field 74 (.agg cs) 5) K = wo cs[5]? fun v => nv v K := rdop_fieldF (show fdOf Try.prog 74 5 = some (5, 1, false) by kernel_rfl)
@[go_sem] theorem fd_74_6 {H : AH} {cs : Array Value} {K : Value → Prop} : rdop Try.prog H (Instr.field 74 (.agg cs) 6) K = wo cs[6]? fun v => nv v K := rdop_fieldF (show fdOf Try.prog 74 6 = some (6, 1, false) by kernel_rfl)
@[go_sem] theorem fd_74_7 {H : AH} {cs : Array Value} {K : Value → Prop} : rdop Try.prog H (Instr.field 74 (.agg cs) 7) K = wo cs[7]? fun v => nv v K := rdop_fieldF (show fdOf Try.prog 74 7 = some (7, 1, false) by kernel_rfl)
@[go_sem] theorem fd_74_8 {H : AH} {cs : Array Value} {K : Value → Prop} : rdop Try.prog H (Instr.field 74 (.agg cs) 8) K = wo cs[8]? fun v => nv v K := rdop_fieldF (show fdOf Try.prog 74 8 = some (8, 1, false) by kernel_rfl)
@[go_sem] theorem fd_74_9 {H : AH} {cs : Array Value} {K : Value → Prop} : rdop Try.prog H (Instr.field 74 (.agg cs) 9) K = wo cs[9]? fun v => nv v K := rdop_fieldF (show fdOf Try.prog 74 9 = some (9, 1, false) by kernel_rfl)
@[go_sem] theorem fd_74_10 {H : AH} {cs : Array Value} {K : Value → Prop} : rdop Try.prog H (Instr.field 74 (.agg cs) 10) K = wo cs[10]? fun v => nv v K := rdop_fieldF (show fdOf Try.prog 74 10 = some (10, 1, false) by kernel_rfl)
theorem eg_7 : Try.prog.eqGuardType Try.prog.depth 7 = false := by kernel_rfl
theorem st_7 : Try.prog.stoodInHeld 7 = false := by kernel_rfl
theorem eqi_7 {H : AH} {m : Nat} (a0 b0 : Int) (a1 b1 : Int) (a2 b2 : Bool) (a3 b3 : Int) : qrun Try.prog (Op.equalIn (m + 2) 7 (.agg #[.int .i64 a0, .int .i64 a1, .bool a2, .int .u8 a3]) (.agg #[.int .i64 b0, .int .i64 b1, .bool b2, .int .u8 b3])) H = some ((a0 == b0) && ((a1 == b1) && ((a2 == b2) && (a3 == b3)))) := by
  have h := eqIn_struct (P := Try.prog) (H := H) (m := m + 1) (xs := #[.int .i64 a0, .int .i64 a1, .bool a2, .int .u8 a3]) (ys := #[.int .i64 b0, .int .i64 b1, .bool b2, .int .u8 b3]) (T := fun f => if f.offset = 0 then (a0 == b0) else if f.offset = 1 then (a1 == b1) else if f.offset = 2 then (a2 == b2) else if f.offset = 3 then (a3 == b3) else true) Try.underlying7 st_7 (by
    simp only [List.mem_cons, List.not_mem_nil, or_false]
    rintro f (rfl | rfl | rfl | rfl)
    · exact ⟨by decide, (.int .i64 a0), (.int .i64 b0), part_scal ag_2 rfl, part_scal ag_2 rfl, eqIn_int Try.underlying2⟩
    · exact ⟨by decide, (.int .i64 a1), (.int .i64 b1), part_scal ag_3 rfl, part_scal ag_3 rfl, eqIn_int Try.underlying3⟩
    · exact ⟨by decide, (.bool a2), (.bool b2), part_scal ag_4 rfl, part_scal ag_4 rfl, eqIn_bool Try.underlying4⟩
    · exact ⟨by decide, (.int .u8 a3), (.int .u8 b3), part_scal ag_6 rfl, part_scal ag_6 rfl, eqIn_int Try.underlying6⟩)
  rw [h]; simp [Bool.and_assoc]
@[go_sem] theorem eql_7 {H : AH} {u : Option TypeDesc} {x y : Operand} {kk : Value → Prop} {a0 b0 : Int} {a1 b1 : Int} {a2 b2 : Bool} {a3 b3 : Int} : bin u Try.prog H .eql 7 x y (.agg #[.int .i64 a0, .int .i64 a1, .bool a2, .int .u8 a3]) (.agg #[.int .i64 b0, .int .i64 b1, .bool b2, .int .u8 b3]) kk = (u = Try.prog.underlying 7 ∧ nv (.bool ((a0 == b0) && ((a1 == b1) && ((a2 == b2) && (a3 == b3))))) kk) := bin_eql_of (eqg_agg eg_7) rfl fun _ => eqi_7 (m := 9998) a0 b0 a1 b1 a2 b2 a3 b3
@[go_sem] theorem neq_7 {H : AH} {u : Option TypeDesc} {x y : Operand} {kk : Value → Prop} {a0 b0 : Int} {a1 b1 : Int} {a2 b2 : Bool} {a3 b3 : Int} : bin u Try.prog H .neq 7 x y (.agg #[.int .i64 a0, .int .i64 a1, .bool a2, .int .u8 a3]) (.agg #[.int .i64 b0, .int .i64 b1, .bool b2, .int .u8 b3]) kk = (u = Try.prog.underlying 7 ∧ nv (.bool (!((a0 == b0) && ((a1 == b1) && ((a2 == b2) && (a3 == b3)))))) kk) := bin_neq_of (eqg_agg eg_7) rfl fun _ => eqi_7 (m := 9998) a0 b0 a1 b1 a2 b2 a3 b3
theorem eg_8 : Try.prog.eqGuardType Try.prog.depth 8 = false := by kernel_rfl
theorem st_8 : Try.prog.stoodInHeld 8 = false := by kernel_rfl
theorem eqi_8 {H : AH} {m : Nat} (a0 b0 : Int) (a1 b1 : Int) (a2 b2 : Bool) (a3 b3 : Int) : qrun Try.prog (Op.equalIn (m + 2) 8 (.agg #[.int .i64 a0, .int .i64 a1, .bool a2, .int .u8 a3]) (.agg #[.int .i64 b0, .int .i64 b1, .bool b2, .int .u8 b3])) H = some ((a0 == b0) && ((a1 == b1) && ((a2 == b2) && (a3 == b3)))) := by
  have h := eqIn_struct (P := Try.prog) (H := H) (m := m + 1) (xs := #[.int .i64 a0, .int .i64 a1, .bool a2, .int .u8 a3]) (ys := #[.int .i64 b0, .int .i64 b1, .bool b2, .int .u8 b3]) (T := fun f => if f.offset = 0 then (a0 == b0) else if f.offset = 1 then (a1 == b1) else if f.offset = 2 then (a2 == b2) else if f.offset = 3 then (a3 == b3) else true) Try.underlying8 st_8 (by
    simp only [List.mem_cons, List.not_mem_nil, or_false]
    rintro f (rfl | rfl | rfl | rfl)
    · exact ⟨by decide, (.int .i64 a0), (.int .i64 b0), part_scal ag_2 rfl, part_scal ag_2 rfl, eqIn_int Try.underlying2⟩
    · exact ⟨by decide, (.int .i64 a1), (.int .i64 b1), part_scal ag_3 rfl, part_scal ag_3 rfl, eqIn_int Try.underlying3⟩
    · exact ⟨by decide, (.bool a2), (.bool b2), part_scal ag_4 rfl, part_scal ag_4 rfl, eqIn_bool Try.underlying4⟩
    · exact ⟨by decide, (.int .u8 a3), (.int .u8 b3), part_scal ag_6 rfl, part_scal ag_6 rfl, eqIn_int Try.underlying6⟩)
  rw [h]; simp [Bool.and_assoc]
@[go_sem] theorem eql_8 {H : AH} {u : Option TypeDesc} {x y : Operand} {kk : Value → Prop} {a0 b0 : Int} {a1 b1 : Int} {a2 b2 : Bool} {a3 b3 : Int} : bin u Try.prog H .eql 8 x y (.agg #[.int .i64 a0, .int .i64 a1, .bool a2, .int .u8 a3]) (.agg #[.int .i64 b0, .int .i64 b1, .bool b2, .int .u8 b3]) kk = (u = Try.prog.underlying 8 ∧ nv (.bool ((a0 == b0) && ((a1 == b1) && ((a2 == b2) && (a3 == b3))))) kk) := bin_eql_of (eqg_agg eg_8) rfl fun _ => eqi_8 (m := 9998) a0 b0 a1 b1 a2 b2 a3 b3
@[go_sem] theorem neq_8 {H : AH} {u : Option TypeDesc} {x y : Operand} {kk : Value → Prop} {a0 b0 : Int} {a1 b1 : Int} {a2 b2 : Bool} {a3 b3 : Int} : bin u Try.prog H .neq 8 x y (.agg #[.int .i64 a0, .int .i64 a1, .bool a2, .int .u8 a3]) (.agg #[.int .i64 b0, .int .i64 b1, .bool b2, .int .u8 b3]) kk = (u = Try.prog.underlying 8 ∧ nv (.bool (!((a0 == b0) && ((a1 == b1) && ((a2 == b2) && (a3 == b3)))))) kk) := bin_neq_of (eqg_agg eg_8) rfl fun _ => eqi_8 (m := 9998) a0 b0 a1 b1 a2 b2 a3 b3
theorem eg_43 : Try.prog.eqGuardType Try.prog.depth 43 = false := by kernel_rfl
theorem eqi_43 {H : AH} {m : Nat} (a0 b0 : Int) (a1 b1 : Int) (a2 b2 : Int) (a3 b3 : Int) : qrun Try.prog (Op.equalIn (m + 2) 43 (.agg #[.int .u8 a0, .int .u8 a1, .int .u8 a2, .int .u8 a3]) (.agg #[.int .u8 b0, .int .u8 b1, .int .u8 b2, .int .u8 b3])) H = some ((a0 == b0) && ((a1 == b1) && ((a2 == b2) && (a3 == b3)))) := by
  have h := eqIn_array (P := Try.prog) (H := H) (m := m + 1) (xs := #[.int .u8 a0, .int .u8 a1, .int .u8 a2, .int .u8 a3]) (ys := #[.int .u8 b0, .int .u8 b1, .int .u8 b2, .int .u8 b3]) (T := fun i => ([(a0 == b0), (a1 == b1), (a2 == b2), (a3 == b3)] : List Bool).getD i false) Try.underlying43 (info_sz sz_5 (by simp)) (fun i hi => by
    match i, hi with
    | 0, _ => exact ⟨(.int .u8 a0), (.int .u8 b0), part_scal ag_5 rfl, part_scal ag_5 rfl, eqIn_int Try.underlying5⟩
    | 1, _ => exact ⟨(.int .u8 a1), (.int .u8 b1), part_scal ag_5 rfl, part_scal ag_5 rfl, eqIn_int Try.underlying5⟩
    | 2, _ => exact ⟨(.int .u8 a2), (.int .u8 b2), part_scal ag_5 rfl, part_scal ag_5 rfl, eqIn_int Try.underlying5⟩
    | 3, _ => exact ⟨(.int .u8 a3), (.int .u8 b3), part_scal ag_5 rfl, part_scal ag_5 rfl, eqIn_int Try.underlying5⟩
    | _ + 4, hi => omega)
  rw [h]; simp [List.range_succ, Bool.and_assoc]
@[go_sem] theorem eql_43 {H : AH} {u : Option TypeDesc} {x y : Operand} {kk : Value → Prop} {a0 b0 : Int} {a1 b1 : Int} {a2 b2 : Int} {a3 b3 : Int} : bin u Try.prog H .eql 43 x y (.agg #[.int .u8 a0, .int .u8 a1, .int .u8 a2, .int .u8 a3]) (.agg #[.int .u8 b0, .int .u8 b1, .int .u8 b2, .int .u8 b3]) kk = (u = Try.prog.underlying 43 ∧ nv (.bool ((a0 == b0) && ((a1 == b1) && ((a2 == b2) && (a3 == b3))))) kk) := bin_eql_of (eqg_agg eg_43) rfl fun _ => eqi_43 (m := 9998) a0 b0 a1 b1 a2 b2 a3 b3
@[go_sem] theorem neq_43 {H : AH} {u : Option TypeDesc} {x y : Operand} {kk : Value → Prop} {a0 b0 : Int} {a1 b1 : Int} {a2 b2 : Int} {a3 b3 : Int} : bin u Try.prog H .neq 43 x y (.agg #[.int .u8 a0, .int .u8 a1, .int .u8 a2, .int .u8 a3]) (.agg #[.int .u8 b0, .int .u8 b1, .int .u8 b2, .int .u8 b3]) kk = (u = Try.prog.underlying 43 ∧ nv (.bool (!((a0 == b0) && ((a1 == b1) && ((a2 == b2) && (a3 == b3)))))) kk) := bin_neq_of (eqg_agg eg_43) rfl fun _ => eqi_43 (m := 9998) a0 b0 a1 b1 a2 b2 a3 b3
theorem eg_44 : Try.prog.eqGuardType Try.prog.depth 44 = false := by kernel_rfl
theorem eqi_44 {H : AH} {m : Nat} (a0 b0 : Int) (a1 b1 : Int) (a2 b2 : Int) (a3 b3 : Int) : qrun Try.prog (Op.equalIn (m + 2) 44 (.agg #[.int .u8 a0, .int .u8 a1, .int .u8 a2, .int .u8 a3]) (.agg #[.int .u8 b0, .int .u8 b1, .int .u8 b2, .int .u8 b3])) H = some ((a0 == b0) && ((a1 == b1) && ((a2 == b2) && (a3 == b3)))) := by
  have h := eqIn_array (P := Try.prog) (H := H) (m := m + 1) (xs := #[.int .u8 a0, .int .u8 a1, .int .u8 a2, .int .u8 a3]) (ys := #[.int .u8 b0, .int .u8 b1, .int .u8 b2, .int .u8 b3]) (T := fun i => ([(a0 == b0), (a1 == b1), (a2 == b2), (a3 == b3)] : List Bool).getD i false) Try.underlying44 (info_sz sz_5 (by simp)) (fun i hi => by
    match i, hi with
    | 0, _ => exact ⟨(.int .u8 a0), (.int .u8 b0), part_scal ag_5 rfl, part_scal ag_5 rfl, eqIn_int Try.underlying5⟩
    | 1, _ => exact ⟨(.int .u8 a1), (.int .u8 b1), part_scal ag_5 rfl, part_scal ag_5 rfl, eqIn_int Try.underlying5⟩
    | 2, _ => exact ⟨(.int .u8 a2), (.int .u8 b2), part_scal ag_5 rfl, part_scal ag_5 rfl, eqIn_int Try.underlying5⟩
    | 3, _ => exact ⟨(.int .u8 a3), (.int .u8 b3), part_scal ag_5 rfl, part_scal ag_5 rfl, eqIn_int Try.underlying5⟩
    | _ + 4, hi => omega)
  rw [h]; simp [List.range_succ, Bool.and_assoc]
@[go_sem] theorem eql_44 {H : AH} {u : Option TypeDesc} {x y : Operand} {kk : Value → Prop} {a0 b0 : Int} {a1 b1 : Int} {a2 b2 : Int} {a3 b3 : Int} : bin u Try.prog H .eql 44 x y (.agg #[.int .u8 a0, .int .u8 a1, .int .u8 a2, .int .u8 a3]) (.agg #[.int .u8 b0, .int .u8 b1, .int .u8 b2, .int .u8 b3]) kk = (u = Try.prog.underlying 44 ∧ nv (.bool ((a0 == b0) && ((a1 == b1) && ((a2 == b2) && (a3 == b3))))) kk) := bin_eql_of (eqg_agg eg_44) rfl fun _ => eqi_44 (m := 9998) a0 b0 a1 b1 a2 b2 a3 b3
@[go_sem] theorem neq_44 {H : AH} {u : Option TypeDesc} {x y : Operand} {kk : Value → Prop} {a0 b0 : Int} {a1 b1 : Int} {a2 b2 : Int} {a3 b3 : Int} : bin u Try.prog H .neq 44 x y (.agg #[.int .u8 a0, .int .u8 a1, .int .u8 a2, .int .u8 a3]) (.agg #[.int .u8 b0, .int .u8 b1, .int .u8 b2, .int .u8 b3]) kk = (u = Try.prog.underlying 44 ∧ nv (.bool (!((a0 == b0) && ((a1 == b1) && ((a2 == b2) && (a3 == b3)))))) kk) := bin_neq_of (eqg_agg eg_44) rfl fun _ => eqi_44 (m := 9998) a0 b0 a1 b1 a2 b2 a3 b3
theorem eg_49 : Try.prog.eqGuardType Try.prog.depth 49 = false := by kernel_rfl
theorem st_49 : Try.prog.stoodInHeld 49 = false := by kernel_rfl
theorem eqi_49 {H : AH} {m : Nat} (a0 b0 : Int) (a1 b1 : Int) (a2 b2 : Int) (a3 b3 : Int) (a4 b4 : Int) : qrun Try.prog (Op.equalIn (m + 2) 49 (.agg #[.int .i64 a0, .int .i64 a1, .int .i64 a2, .int .i64 a3, .int .i64 a4]) (.agg #[.int .i64 b0, .int .i64 b1, .int .i64 b2, .int .i64 b3, .int .i64 b4])) H = some ((a0 == b0) && ((a1 == b1) && ((a2 == b2) && ((a3 == b3) && (a4 == b4))))) := by
  have h := eqIn_struct (P := Try.prog) (H := H) (m := m + 1) (xs := #[.int .i64 a0, .int .i64 a1, .int .i64 a2, .int .i64 a3, .int .i64 a4]) (ys := #[.int .i64 b0, .int .i64 b1, .int .i64 b2, .int .i64 b3, .int .i64 b4]) (T := fun f => if f.offset = 0 then (a0 == b0) else if f.offset = 1 then (a1 == b1) else if f.offset = 2 then (a2 == b2) else if f.offset = 3 then (a3 == b3) else if f.offset = 4 then (a4 == b4) else true) Try.underlying49 st_49 (by
    simp only [List.mem_cons, List.not_mem_nil, or_false]
    rintro f (rfl | rfl | rfl | rfl | rfl)
    · exact ⟨by decide, (.int .i64 a0), (.int .i64 b0), part_scal ag_3 rfl, part_scal ag_3 rfl, eqIn_int Try.underlying3⟩
    · exact ⟨by decide, (.int .i64 a1), (.int .i64 b1), part_scal ag_3 rfl, part_scal ag_3 rfl, eqIn_int Try.underlying3⟩
    · exact ⟨by decide, (.int .i64 a2), (.int .i64 b2), part_scal ag_3 rfl, part_scal ag_3 rfl, eqIn_int Try.underlying3⟩
    · exact ⟨by decide, (.int .i64 a3), (.int .i64 b3), part_scal ag_3 rfl, part_scal ag_3 rfl, eqIn_int Try.underlying3⟩
    · exact ⟨by decide, (.int .i64 a4), (.int .i64 b4), part_scal ag_3 rfl, part_scal ag_3 rfl, eqIn_int Try.underlying3⟩)
  rw [h]; simp [Bool.and_assoc]
@[go_sem] theorem eql_49 {H : AH} {u : Option TypeDesc} {x y : Operand} {kk : Value → Prop} {a0 b0 : Int} {a1 b1 : Int} {a2 b2 : Int} {a3 b3 : Int} {a4 b4 : Int} : bin u Try.prog H .eql 49 x y (.agg #[.int .i64 a0, .int .i64 a1, .int .i64 a2, .int .i64 a3, .int .i64 a4]) (.agg #[.int .i64 b0, .int .i64 b1, .int .i64 b2, .int .i64 b3, .int .i64 b4]) kk = (u = Try.prog.underlying 49 ∧ nv (.bool ((a0 == b0) && ((a1 == b1) && ((a2 == b2) && ((a3 == b3) && (a4 == b4)))))) kk) := bin_eql_of (eqg_agg eg_49) rfl fun _ => eqi_49 (m := 9998) a0 b0 a1 b1 a2 b2 a3 b3 a4 b4
@[go_sem] theorem neq_49 {H : AH} {u : Option TypeDesc} {x y : Operand} {kk : Value → Prop} {a0 b0 : Int} {a1 b1 : Int} {a2 b2 : Int} {a3 b3 : Int} {a4 b4 : Int} : bin u Try.prog H .neq 49 x y (.agg #[.int .i64 a0, .int .i64 a1, .int .i64 a2, .int .i64 a3, .int .i64 a4]) (.agg #[.int .i64 b0, .int .i64 b1, .int .i64 b2, .int .i64 b3, .int .i64 b4]) kk = (u = Try.prog.underlying 49 ∧ nv (.bool (!((a0 == b0) && ((a1 == b1) && ((a2 == b2) && ((a3 == b3) && (a4 == b4))))))) kk) := bin_neq_of (eqg_agg eg_49) rfl fun _ => eqi_49 (m := 9998) a0 b0 a1 b1 a2 b2 a3 b3 a4 b4
theorem eg_50 : Try.prog.eqGuardType Try.prog.depth 50 = false := by kernel_rfl
theorem st_50 : Try.prog.stoodInHeld 50 = false := by kernel_rfl
theorem eqi_50 {H : AH} {m : Nat} (a0 b0 : Int) (a1 b1 : Int) (a2 b2 : Int) (a3 b3 : Int) (a4 b4 : Int) : qrun Try.prog (Op.equalIn (m + 2) 50 (.agg #[.int .i64 a0, .int .i64 a1, .int .i64 a2, .int .i64 a3, .int .i64 a4]) (.agg #[.int .i64 b0, .int .i64 b1, .int .i64 b2, .int .i64 b3, .int .i64 b4])) H = some ((a0 == b0) && ((a1 == b1) && ((a2 == b2) && ((a3 == b3) && (a4 == b4))))) := by
  have h := eqIn_struct (P := Try.prog) (H := H) (m := m + 1) (xs := #[.int .i64 a0, .int .i64 a1, .int .i64 a2, .int .i64 a3, .int .i64 a4]) (ys := #[.int .i64 b0, .int .i64 b1, .int .i64 b2, .int .i64 b3, .int .i64 b4]) (T := fun f => if f.offset = 0 then (a0 == b0) else if f.offset = 1 then (a1 == b1) else if f.offset = 2 then (a2 == b2) else if f.offset = 3 then (a3 == b3) else if f.offset = 4 then (a4 == b4) else true) Try.underlying50 st_50 (by
    simp only [List.mem_cons, List.not_mem_nil, or_false]
    rintro f (rfl | rfl | rfl | rfl | rfl)
    · exact ⟨by decide, (.int .i64 a0), (.int .i64 b0), part_scal ag_3 rfl, part_scal ag_3 rfl, eqIn_int Try.underlying3⟩
    · exact ⟨by decide, (.int .i64 a1), (.int .i64 b1), part_scal ag_3 rfl, part_scal ag_3 rfl, eqIn_int Try.underlying3⟩
    · exact ⟨by decide, (.int .i64 a2), (.int .i64 b2), part_scal ag_3 rfl, part_scal ag_3 rfl, eqIn_int Try.underlying3⟩
    · exact ⟨by decide, (.int .i64 a3), (.int .i64 b3), part_scal ag_3 rfl, part_scal ag_3 rfl, eqIn_int Try.underlying3⟩
    · exact ⟨by decide, (.int .i64 a4), (.int .i64 b4), part_scal ag_3 rfl, part_scal ag_3 rfl, eqIn_int Try.underlying3⟩)
  rw [h]; simp [Bool.and_assoc]
@[go_sem] theorem eql_50 {H : AH} {u : Option TypeDesc} {x y : Operand} {kk : Value → Prop} {a0 b0 : Int} {a1 b1 : Int} {a2 b2 : Int} {a3 b3 : Int} {a4 b4 : Int} : bin u Try.prog H .eql 50 x y (.agg #[.int .i64 a0, .int .i64 a1, .int .i64 a2, .int .i64 a3, .int .i64 a4]) (.agg #[.int .i64 b0, .int .i64 b1, .int .i64 b2, .int .i64 b3, .int .i64 b4]) kk = (u = Try.prog.underlying 50 ∧ nv (.bool ((a0 == b0) && ((a1 == b1) && ((a2 == b2) && ((a3 == b3) && (a4 == b4)))))) kk) := bin_eql_of (eqg_agg eg_50) rfl fun _ => eqi_50 (m := 9998) a0 b0 a1 b1 a2 b2 a3 b3 a4 b4
@[go_sem] theorem neq_50 {H : AH} {u : Option TypeDesc} {x y : Operand} {kk : Value → Prop} {a0 b0 : Int} {a1 b1 : Int} {a2 b2 : Int} {a3 b3 : Int} {a4 b4 : Int} : bin u Try.prog H .neq 50 x y (.agg #[.int .i64 a0, .int .i64 a1, .int .i64 a2, .int .i64 a3, .int .i64 a4]) (.agg #[.int .i64 b0, .int .i64 b1, .int .i64 b2, .int .i64 b3, .int .i64 b4]) kk = (u = Try.prog.underlying 50 ∧ nv (.bool (!((a0 == b0) && ((a1 == b1) && ((a2 == b2) && ((a3 == b3) && (a4 == b4))))))) kk) := bin_neq_of (eqg_agg eg_50) rfl fun _ => eqi_50 (m := 9998) a0 b0 a1 b1 a2 b2 a3 b3 a4 b4
@[go_sem] theorem ok_2 : fnOk Try.prog 2 = true := by kernel_rfl
@[go_sem] theorem ok_3 : fnOk Try.prog 3 = true := by kernel_rfl
@[go_sem] theorem ok_4 : fnOk Try.prog 4 = true := by kernel_rfl
@[go_sem] theorem ok_5 : fnOk Try.prog 5 = true := by kernel_rfl
@[go_sem] theorem ok_6 : fnOk Try.prog 6 = true := by kernel_rfl
@[go_sem] theorem ok_7 : fnOk Try.prog 7 = true := by kernel_rfl
@[go_sem] theorem ok_8 : fnOk Try.prog 8 = true := by kernel_rfl
@[go_sem] theorem ok_9 : fnOk Try.prog 9 = true := by kernel_rfl
@[go_sem] theorem ok_10 : fnOk Try.prog 10 = true := by kernel_rfl
@[go_sem] theorem ok_11 : fnOk Try.prog 11 = true := by kernel_rfl
@[go_sem] theorem ok_12 : fnOk Try.prog 12 = true := by kernel_rfl
@[go_sem] theorem ok_13 : fnOk Try.prog 13 = true := by kernel_rfl
@[go_sem] theorem ok_14 : fnOk Try.prog 14 = true := by kernel_rfl
@[go_sem] theorem ok_15 : fnOk Try.prog 15 = true := by kernel_rfl
@[go_sem] theorem ok_16 : fnOk Try.prog 16 = true := by kernel_rfl
@[go_sem] theorem ok_17 : fnOk Try.prog 17 = true := by kernel_rfl
@[go_sem] theorem ok_18 : fnOk Try.prog 18 = true := by kernel_rfl
theorem mixed : Try.prog.follows .mixedOrders = true := by kernel_rfl
attribute [go_sem] Try.underlying0 Try.underlying1 Try.underlying2 Try.underlying3 Try.underlying4 Try.underlying5 Try.underlying6 Try.underlying7 Try.underlying8 Try.underlying9 Try.underlying10 Try.underlying11 Try.underlying12 Try.underlying13 Try.underlying14 Try.underlying15
attribute [go_sem] Try.underlying16 Try.underlying17 Try.underlying18 Try.underlying19 Try.underlying20 Try.underlying21 Try.underlying22 Try.underlying23 Try.underlying24 Try.underlying25 Try.underlying26 Try.underlying27 Try.underlying28 Try.underlying29 Try.underlying30 Try.underlying31
attribute [go_sem] Try.underlying32 Try.underlying33 Try.underlying34 Try.underlying35 Try.underlying36 Try.underlying37 Try.underlying38 Try.underlying39 Try.underlying40 Try.underlying41 Try.underlying42 Try.underlying43 Try.underlying44 Try.underlying45 Try.underlying46 Try.underlying47
attribute [go_sem] Try.underlying48 Try.underlying49 Try.underlying50 Try.underlying51 Try.underlying52 Try.underlying53 Try.underlying54 Try.underlying55 Try.underlying56 Try.underlying57 Try.underlying58 Try.underlying59 Try.underlying60 Try.underlying61 Try.underlying62 Try.underlying63
attribute [go_sem] Try.underlying64 Try.underlying65 Try.underlying66 Try.underlying67 Try.underlying68 Try.underlying69 Try.underlying70 Try.underlying71 Try.underlying72 Try.underlying73 Try.underlying74 Try.underlying75
attribute [go_sem] Try.ntmps0 Try.results0 Try.ntmps1 Try.results1 Try.ntmps2 Try.results2 Try.ntmps3 Try.results3 Try.ntmps4 Try.results4 Try.ntmps5 Try.results5 Try.ntmps6 Try.results6 Try.ntmps7 Try.results7
attribute [go_sem] Try.ntmps8 Try.results8 Try.ntmps9 Try.results9 Try.ntmps10 Try.results10 Try.ntmps11 Try.results11 Try.ntmps12 Try.results12 Try.ntmps13 Try.results13 Try.ntmps14 Try.results14 Try.ntmps15 Try.results15
attribute [go_sem] Try.ntmps16 Try.results16 Try.ntmps17 Try.results17 Try.ntmps18 Try.results18 Try.ntmps19 Try.results19 Try.ntmps20 Try.results20 Try.ntmps21 Try.results21 Try.ntmps22 Try.results22 Try.ntmps23 Try.results23
attribute [go_sem] Try.ntmps24 Try.results24 Try.ntmps25 Try.results25 Try.ntmps26 Try.results26 Try.ntmps27 Try.results27 Try.ntmps28 Try.results28 Try.ntmps29 Try.results29 Try.ntmps30 Try.results30 Try.ntmps31 Try.results31
attribute [go_sem] Try.ntmps32 Try.results32 Try.ntmps33 Try.results33 Try.ntmps34 Try.results34 Try.ntmps35 Try.results35
end Go.Proofs.Ytgleplakdghaiaa.Ty

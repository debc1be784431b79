import Derived.Test.YtdeemlgkckpedaaEnl
import Derived.Test.YtdeemlgkckpedaaX10
import Derived.Test.YtdeemlgkckpedaaX11
import Derived.Test.YtdeemlgkckpedaaProg
namespace Go.SL
open Go.Proofs
theorem a1_24 : arr1B Try.prog 24 = some 32 := by kernel_rfl
theorem ag_102 : aggB Try.prog 102 = some 33 := by kernel_rfl
theorem ag_103 : aggB Try.prog 103 = some 33 := by kernel_rfl
theorem ag_24 : aggB Try.prog 24 = some 32 := by kernel_rfl
theorem ag_51 : aggB Try.prog 51 = some 34 := by kernel_rfl
theorem ag_93 : aggB Try.prog 93 = some 4 := by kernel_rfl
theorem bB_102 : buildB Try.prog 102 = some (deltaC Delta.zero, [(0, 32), (32, 1)]) := by kernel_rfl
theorem bB_103 : buildB Try.prog 103 = some (deltaC Delta.zero, [(0, 32), (32, 1)]) := by kernel_rfl
theorem bB_114 : buildB Try.prog 114 = some ([.slice none 0 0, .map none, .int .i64 0], [(0, 1), (1, 1), (2, 1)]) := by kernel_rfl
theorem bB_116 : buildB Try.prog 116 = some ([.pointer none, .slice none 0 0, .slice none 0 0, .slice none 0 0, .slice none 0 0], [(0, 1), (1, 1), (2, 1), (3, 1), (4, 1)]) := by kernel_rfl
theorem bB_44 : buildB Try.prog 44 = some ([.slice none 0 0, .slice none 0 0, .slice none 0 0, .int .i64 0], [(0, 1), (1, 1), (2, 1), (3, 1)]) := by kernel_rfl
theorem bB_47 : buildB Try.prog 47 = some ([.pointer none, .slice none 0 0, .int .i64 0], [(0, 1), (1, 1), (2, 1)]) := by kernel_rfl
theorem bB_51 : buildB Try.prog 51 = some (nodeC Node.zero, [(0, 32), (32, 1), (33, 1)]) := by kernel_rfl
theorem bB_93 : buildB Try.prog 93 = some (pBlkC PBlk.zero, [(0, 1), (1, 1), (2, 1), (3, 1)]) := by kernel_rfl
theorem cb_106 : callB Try.prog 106 = true := by kernel_rfl
theorem cb_13 : callB Try.prog 13 = true := by kernel_rfl
theorem cb_14 : callB Try.prog 14 = true := by kernel_rfl
theorem cb_15 : callB Try.prog 15 = true := by kernel_rfl
theorem cb_16 : callB Try.prog 16 = true := by kernel_rfl
theorem cb_17 : callB Try.prog 17 = true := by kernel_rfl
theorem cb_18 : callB Try.prog 18 = true := by kernel_rfl
theorem cb_19 : callB Try.prog 19 = true := by kernel_rfl
theorem cb_20 : callB Try.prog 20 = true := by kernel_rfl
theorem cb_21 : callB Try.prog 21 = true := by kernel_rfl
theorem cb_22 : callB Try.prog 22 = true := by kernel_rfl
theorem cb_23 : callB Try.prog 23 = true := by kernel_rfl
theorem cb_24 : callB Try.prog 24 = true := by kernel_rfl
theorem cb_25 : callB Try.prog 25 = true := by kernel_rfl
theorem cb_26 : callB Try.prog 26 = true := by kernel_rfl
theorem cb_27 : callB Try.prog 27 = true := by kernel_rfl
theorem cb_28 : callB Try.prog 28 = true := by kernel_rfl
theorem cb_29 : callB Try.prog 29 = true := by kernel_rfl
theorem cb_30 : callB Try.prog 30 = true := by kernel_rfl
theorem cb_31 : callB Try.prog 31 = true := by kernel_rfl
theorem cb_32 : callB Try.prog 32 = true := by kernel_rfl
theorem cb_45 : callB Try.prog 45 = true := by kernel_rfl
theorem cb_46 : callB Try.prog 46 = true := by kernel_rfl
theorem cb_47 : callB Try.prog 47 = true := by kernel_rfl
theorem cb_48 : callB Try.prog 48 = true := by kernel_rfl
theorem cb_49 : callB Try.prog 49 = true := by kernel_rfl
theorem cb_50 : callB Try.prog 50 = true := by kernel_rfl
theorem cb_51 : callB Try.prog 51 = true := by kernel_rfl
theorem cb_52 : callB Try.prog 52 = true := by kernel_rfl
theorem cb_53 : callB Try.prog 53 = true := by kernel_rfl
theorem cb_54 : callB Try.prog 54 = true := by kernel_rfl
theorem cb_55 : callB Try.prog 55 = true := by kernel_rfl
theorem cb_56 : callB Try.prog 56 = true := by kernel_rfl
theorem cb_57 : callB Try.prog 57 = true := by kernel_rfl
theorem cb_58 : callB Try.prog 58 = true := by kernel_rfl
theorem cb_59 : callB Try.prog 59 = true := by kernel_rfl
theorem cb_60 : callB Try.prog 60 = true := by kernel_rfl
theorem cb_61 : callB Try.prog 61 = true := by kernel_rfl
theorem cb_76 : callB Try.prog 76 = true := by kernel_rfl
theorem cb_77 : callB Try.prog 77 = true := by kernel_rfl
theorem cb_78 : callB Try.prog 78 = true := by kernel_rfl
theorem cb_79 : callB Try.prog 79 = true := by kernel_rfl
theorem cb_80 : callB Try.prog 80 = true := by kernel_rfl
theorem cb_81 : callB Try.prog 81 = true := by kernel_rfl
theorem cb_82 : callB Try.prog 82 = true := by kernel_rfl
theorem cb_93 : callB Try.prog 93 = true := by kernel_rfl
theorem fld_102_0 : fieldB Try.prog 102 0 = some 0 := by kernel_rfl
theorem fld_102_1 : fieldB Try.prog 102 1 = some 32 := by kernel_rfl
theorem fld_103_0 : fieldB Try.prog 103 0 = some 0 := by kernel_rfl
theorem fld_103_1 : fieldB Try.prog 103 1 = some 32 := by kernel_rfl
theorem fld_114_0 : fieldB Try.prog 114 0 = some 0 := by kernel_rfl
theorem fld_114_1 : fieldB Try.prog 114 1 = some 1 := by kernel_rfl
theorem fld_114_2 : fieldB Try.prog 114 2 = some 2 := by kernel_rfl
theorem fld_116_0 : fieldB Try.prog 116 0 = some 0 := by kernel_rfl
theorem fld_116_1 : fieldB Try.prog 116 1 = some 1 := by kernel_rfl
theorem fld_116_2 : fieldB Try.prog 116 2 = some 2 := by kernel_rfl
theorem fld_116_3 : fieldB Try.prog 116 3 = some 3 := by kernel_rfl
theorem fld_116_4 : fieldB Try.prog 116 4 = some 4 := by kernel_rfl
theorem fld_44_0 : fieldB Try.prog 44 0 = some 0 := by kernel_rfl
theorem fld_44_1 : fieldB Try.prog 44 1 = some 1 := by kernel_rfl
theorem fld_44_2 : fieldB Try.prog 44 2 = some 2 := by kernel_rfl
theorem fld_44_3 : fieldB Try.prog 44 3 = some 3 := by kernel_rfl
theorem fld_47_0 : fieldB Try.prog 47 0 = some 0 := by kernel_rfl
theorem fld_47_1 : fieldB Try.prog 47 1 = some 1 := by kernel_rfl
theorem fld_47_2 : fieldB Try.prog 47 2 = some 2 := by kernel_rfl
theorem fld_51_0 : fieldB Try.prog 51 0 = some 0 := by kernel_rfl
theorem fld_51_1 : fieldB Try.prog 51 1 = some 32 := by kernel_rfl
theorem fld_51_2 : fieldB Try.prog 51 2 = some 33 := by kernel_rfl
theorem fld_93_0 : fieldB Try.prog 93 0 = some 0 := by kernel_rfl
theorem fld_93_1 : fieldB Try.prog 93 1 = some 1 := by kernel_rfl
theorem fld_93_2 : fieldB Try.prog 93 2 = some 2 := by kernel_rfl
theorem fld_93_3 : fieldB Try.prog 93 3 = some 3 := by kernel_rfl
theorem isz_114 : ((Try.prog.info? 114).map fun j => decide (j.size ≠ 0)) = some true := by kernel_rfl
theorem mx : Try.prog.follows .mixedOrders = true := by kernel_rfl
theorem rB_24 : rootB Try.prog 24 = true := by kernel_rfl
theorem rk_24 : rootKeyB Try.prog 24 = true := by kernel_rfl
theorem sB_111 : sliceB Try.prog 111 = some (51, 34, 48) := by kernel_rfl
theorem sB_162 : sliceB Try.prog 162 = some (5, 1, 1) := by kernel_rfl
theorem sB_22 : sliceB Try.prog 22 = some (93, 4, 32) := by kernel_rfl
theorem sB_37 : sliceB Try.prog 37 = some (24, 32, 32) := by kernel_rfl
theorem sB_42 : sliceB Try.prog 42 = some (3, 1, 8) := by kernel_rfl
theorem sB_97 : sliceB Try.prog 97 = some (102, 33, 40) := by kernel_rfl
theorem sB_98 : sliceB Try.prog 98 = some (103, 33, 40) := by kernel_rfl
theorem sc_111 : scalarB Try.prog 111 = true := by kernel_rfl
theorem sc_112 : scalarB Try.prog 112 = true := by kernel_rfl
theorem sc_26 : scalarB Try.prog 26 = true := by kernel_rfl
theorem sc_27 : scalarB Try.prog 27 = true := by kernel_rfl
theorem sc_3 : scalarB Try.prog 3 = true := by kernel_rfl
theorem sc_37 : scalarB Try.prog 37 = true := by kernel_rfl
theorem sc_42 : scalarB Try.prog 42 = true := by kernel_rfl
theorem sc_45 : scalarB Try.prog 45 = true := by kernel_rfl
theorem sc_5 : scalarB Try.prog 5 = true := by kernel_rfl
theorem zB_102 : zeroB Try.prog 102 = some (.agg #[.int .u8 0, .int .u8 0, .int .u8 0, .int .u8 0, .int .u8 0, .int .u8 0, .int .u8 0, .int .u8 0, .int .u8 0, .int .u8 0, .int .u8 0, .int .u8 0, .int .u8 0, .int .u8 0, .int .u8 0, .int .u8 0, .int .u8 0, .int .u8 0, .int .u8 0, .int .u8 0, .int .u8 0, .int .u8 0, .int .u8 0, .int .u8 0, .int .u8 0, .int .u8 0, .int .u8 0, .int .u8 0, .int .u8 0, .int .u8 0, .int .u8 0, .int .u8 0, .int .i64 0]) := by kernel_rfl
theorem zB_103 : zeroB Try.prog 103 = some (.agg #[.int .u8 0, .int .u8 0, .int .u8 0, .int .u8 0, .int .u8 0, .int .u8 0, .int .u8 0, .int .u8 0, .int .u8 0, .int .u8 0, .int .u8 0, .int .u8 0, .int .u8 0, .int .u8 0, .int .u8 0, .int .u8 0, .int .u8 0, .int .u8 0, .int .u8 0, .int .u8 0, .int .u8 0, .int .u8 0, .int .u8 0, .int .u8 0, .int .u8 0, .int .u8 0, .int .u8 0, .int .u8 0, .int .u8 0, .int .u8 0, .int .u8 0, .int .u8 0, .int .i64 0]) := by kernel_rfl
theorem zB_24 : zeroB Try.prog 24 = some (.agg #[.int .u8 0, .int .u8 0, .int .u8 0, .int .u8 0, .int .u8 0, .int .u8 0, .int .u8 0, .int .u8 0, .int .u8 0, .int .u8 0, .int .u8 0, .int .u8 0, .int .u8 0, .int .u8 0, .int .u8 0, .int .u8 0, .int .u8 0, .int .u8 0, .int .u8 0, .int .u8 0, .int .u8 0, .int .u8 0, .int .u8 0, .int .u8 0, .int .u8 0, .int .u8 0, .int .u8 0, .int .u8 0, .int .u8 0, .int .u8 0, .int .u8 0, .int .u8 0]) := by kernel_rfl
theorem zB_3 : zeroB Try.prog 3 = some (.int .i64 0) := by kernel_rfl
theorem zB_37 : zeroB Try.prog 37 = some (.slice none 0 0) := by kernel_rfl
theorem zB_51 : zeroB Try.prog 51 = some (.agg #[.int .u8 0, .int .u8 0, .int .u8 0, .int .u8 0, .int .u8 0, .int .u8 0, .int .u8 0, .int .u8 0, .int .u8 0, .int .u8 0, .int .u8 0, .int .u8 0, .int .u8 0, .int .u8 0, .int .u8 0, .int .u8 0, .int .u8 0, .int .u8 0, .int .u8 0, .int .u8 0, .int .u8 0, .int .u8 0, .int .u8 0, .int .u8 0, .int .u8 0, .int .u8 0, .int .u8 0, .int .u8 0, .int .u8 0, .int .u8 0, .int .u8 0, .int .u8 0, .int .i64 0, .int .i64 0]) := by kernel_rfl
theorem zB_93 : zeroB Try.prog 93 = some (.agg #[.int .i64 0, .int .i64 0, .int .i64 0, .int .i64 0]) := by kernel_rfl
theorem zBr_24 : zeroB Try.prog 24 = some (.agg (rootC Root.zero).toArray) := by kernel_rfl
theorem zv_102 : (Try.prog.info? 102).bind (·.zero) = some (.agg #[.int .u8 0, .int .u8 0, .int .u8 0, .int .u8 0, .int .u8 0, .int .u8 0, .int .u8 0, .int .u8 0, .int .u8 0, .int .u8 0, .int .u8 0, .int .u8 0, .int .u8 0, .int .u8 0, .int .u8 0, .int .u8 0, .int .u8 0, .int .u8 0, .int .u8 0, .int .u8 0, .int .u8 0, .int .u8 0, .int .u8 0, .int .u8 0, .int .u8 0, .int .u8 0, .int .u8 0, .int .u8 0, .int .u8 0, .int .u8 0, .int .u8 0, .int .u8 0, .int .i64 0]) := by kernel_rfl
theorem zv_103 : (Try.prog.info? 103).bind (·.zero) = some (.agg #[.int .u8 0, .int .u8 0, .int .u8 0, .int .u8 0, .int .u8 0, .int .u8 0, .int .u8 0, .int .u8 0, .int .u8 0, .int .u8 0, .int .u8 0, .int .u8 0, .int .u8 0, .int .u8 0, .int .u8 0, .int .u8 0, .int .u8 0, .int .u8 0, .int .u8 0, .int .u8 0, .int .u8 0, .int .u8 0, .int .u8 0, .int .u8 0, .int .u8 0, .int .u8 0, .int .u8 0, .int .u8 0, .int .u8 0, .int .u8 0, .int .u8 0, .int .u8 0, .int .i64 0]) := by kernel_rfl
theorem zv_24 : (Try.prog.info? 24).bind (·.zero) = some (.agg #[.int .u8 0, .int .u8 0, .int .u8 0, .int .u8 0, .int .u8 0, .int .u8 0, .int .u8 0, .int .u8 0, .int .u8 0, .int .u8 0, .int .u8 0, .int .u8 0, .int .u8 0, .int .u8 0, .int .u8 0, .int .u8 0, .int .u8 0, .int .u8 0, .int .u8 0, .int .u8 0, .int .u8 0, .int .u8 0, .int .u8 0, .int .u8 0, .int .u8 0, .int .u8 0, .int .u8 0, .int .u8 0, .int .u8 0, .int .u8 0, .int .u8 0, .int .u8 0]) := by kernel_rfl
theorem zv_3 : (Try.prog.info? 3).bind (·.zero) = some (.int .i64 0) := by kernel_rfl
theorem zv_51 : (Try.prog.info? 51).bind (·.zero) = some (.agg #[.int .u8 0, .int .u8 0, .int .u8 0, .int .u8 0, .int .u8 0, .int .u8 0, .int .u8 0, .int .u8 0, .int .u8 0, .int .u8 0, .int .u8 0, .int .u8 0, .int .u8 0, .int .u8 0, .int .u8 0, .int .u8 0, .int .u8 0, .int .u8 0, .int .u8 0, .int .u8 0, .int .u8 0, .int .u8 0, .int .u8 0, .int .u8 0, .int .u8 0, .int .u8 0, .int .u8 0, .int .u8 0, .int .u8 0, .int .u8 0, .int .u8 0, .int .u8 0, .int .i64 0, .int .i64 0]) := by kernel_rfl
theorem zv_93 : (Try.prog.info? 93).bind (·.zero) = some (.agg #[.int .i64 0, .int .i64 0, .int .i64 0, .int .i64 0]) := by kernel_rfl
end Go.SL

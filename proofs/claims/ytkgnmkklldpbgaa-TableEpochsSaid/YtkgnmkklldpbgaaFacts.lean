import Derived.Test.YtkgnmkklldpbgaaEnh
import Derived.Test.YtkgnmkklldpbgaaProg
namespace Go.SL
open Go.Proofs
theorem a1_29 : arr1B Try.prog 29 = some 32 := by kernel_rfl
theorem ag_102 : aggB Try.prog 102 = some 34 := by kernel_rfl
theorem ag_27 : aggB Try.prog 27 = some 4 := by kernel_rfl
theorem ag_29 : aggB Try.prog 29 = some 32 := by kernel_rfl
theorem ag_31 : aggB Try.prog 31 = some 34 := by kernel_rfl
theorem ag_96 : aggB Try.prog 96 = some 2 := by kernel_rfl
theorem bB_100 : buildB Try.prog 100 = some ([.int .i64 0, .int .i64 0, .slice none 0 0, .slice none 0 0, .slice none 0 0, .slice none 0 0], [(0, 1), (1, 1), (2, 1), (3, 1), (4, 1), (5, 1)]) := by kernel_rfl
theorem bB_102 : buildB Try.prog 102 = some (firstC First.zero, [(0, 1), (1, 1), (2, 32)]) := by kernel_rfl
theorem bB_27 : buildB Try.prog 27 = some (tCallC TCall.zero, [(0, 1), (1, 1), (2, 1), (3, 1)]) := by kernel_rfl
theorem bB_31 : buildB Try.prog 31 = some (voteC Vote.zero, [(0, 1), (1, 1), (2, 32)]) := by kernel_rfl
theorem bB_94 : buildB Try.prog 94 = some ([.int .i64 0, .slice none 0 0, .slice none 0 0, .map none], [(0, 1), (1, 1), (2, 1), (3, 1)]) := by kernel_rfl
theorem bB_96 : buildB Try.prog 96 = some ([.int .i64 0, .int .i64 0], [(0, 1), (1, 1)]) := by kernel_rfl
theorem cb_15 : callB Try.prog 15 = true := by kernel_rfl
theorem cb_16 : callB Try.prog 16 = true := by kernel_rfl
theorem cb_17 : callB Try.prog 17 = true := by kernel_rfl
theorem cb_18 : callB Try.prog 18 = true := by kernel_rfl
theorem cb_19 : callB Try.prog 19 = true := by kernel_rfl
theorem cb_20 : callB Try.prog 20 = true := by kernel_rfl
theorem cb_21 : callB Try.prog 21 = true := by kernel_rfl
theorem cb_22 : callB Try.prog 22 = true := by kernel_rfl
theorem cb_23 : callB Try.prog 23 = true := by kernel_rfl
theorem cb_24 : callB Try.prog 24 = true := by kernel_rfl
theorem cb_25 : callB Try.prog 25 = true := by kernel_rfl
theorem cb_26 : callB Try.prog 26 = true := by kernel_rfl
theorem cb_31 : callB Try.prog 31 = true := by kernel_rfl
theorem cb_47 : callB Try.prog 47 = true := by kernel_rfl
theorem cb_48 : callB Try.prog 48 = true := by kernel_rfl
theorem fld_100_0 : fieldB Try.prog 100 0 = some 0 := by kernel_rfl
theorem fld_100_1 : fieldB Try.prog 100 1 = some 1 := by kernel_rfl
theorem fld_100_2 : fieldB Try.prog 100 2 = some 2 := by kernel_rfl
theorem fld_100_3 : fieldB Try.prog 100 3 = some 3 := by kernel_rfl
theorem fld_100_4 : fieldB Try.prog 100 4 = some 4 := by kernel_rfl
theorem fld_100_5 : fieldB Try.prog 100 5 = some 5 := by kernel_rfl
theorem fld_102_0 : fieldB Try.prog 102 0 = some 0 := by kernel_rfl
theorem fld_102_1 : fieldB Try.prog 102 1 = some 1 := by kernel_rfl
theorem fld_102_2 : fieldB Try.prog 102 2 = some 2 := by kernel_rfl
theorem fld_27_0 : fieldB Try.prog 27 0 = some 0 := by kernel_rfl
theorem fld_27_1 : fieldB Try.prog 27 1 = some 1 := by kernel_rfl
theorem fld_27_2 : fieldB Try.prog 27 2 = some 2 := by kernel_rfl
theorem fld_27_3 : fieldB Try.prog 27 3 = some 3 := by kernel_rfl
theorem fld_31_0 : fieldB Try.prog 31 0 = some 0 := by kernel_rfl
theorem fld_31_1 : fieldB Try.prog 31 1 = some 1 := by kernel_rfl
theorem fld_31_2 : fieldB Try.prog 31 2 = some 2 := by kernel_rfl
theorem fld_94_0 : fieldB Try.prog 94 0 = some 0 := by kernel_rfl
theorem fld_94_1 : fieldB Try.prog 94 1 = some 1 := by kernel_rfl
theorem fld_94_2 : fieldB Try.prog 94 2 = some 2 := by kernel_rfl
theorem fld_94_3 : fieldB Try.prog 94 3 = some 3 := by kernel_rfl
theorem fld_96_1 : fieldB Try.prog 96 1 = some 1 := by kernel_rfl
theorem fs_31 : ((Try.prog.fieldsOf 31).toList.map fun f => (f.name, f.type, f.offset)) = [("Validator", 3, 0), ("Slot", 3, 1), ("Target", 29, 2)] := by kernel_rfl
theorem mk2_96 : mark2B Try.prog 96 = true := by kernel_rfl
theorem mx : Try.prog.follows .mixedOrders = true := by kernel_rfl
theorem rB_29 : rootB Try.prog 29 = true := by kernel_rfl
theorem sB_22 : sliceB Try.prog 22 = some (27, 4, 32) := by kernel_rfl
theorem sB_46 : sliceB Try.prog 46 = some (31, 34, 48) := by kernel_rfl
theorem sB_52 : sliceB Try.prog 52 = some (4, 1, 1) := by kernel_rfl
theorem sB_91 : sliceB Try.prog 91 = some (97, 1, 8) := by kernel_rfl
theorem sB_98 : sliceB Try.prog 98 = some (102, 34, 48) := by kernel_rfl
theorem sc_3 : scalarB Try.prog 3 = true := by kernel_rfl
theorem sc_4 : scalarB Try.prog 4 = true := by kernel_rfl
theorem sc_46 : scalarB Try.prog 46 = true := by kernel_rfl
theorem sc_5 : scalarB Try.prog 5 = true := by kernel_rfl
theorem sc_52 : scalarB Try.prog 52 = true := by kernel_rfl
theorem sc_91 : scalarB Try.prog 91 = true := by kernel_rfl
theorem sc_92 : scalarB Try.prog 92 = true := by kernel_rfl
theorem sc_97 : scalarB Try.prog 97 = true := by kernel_rfl
theorem sc_98 : scalarB Try.prog 98 = true := by kernel_rfl
theorem stB_31 : structB Try.prog 31 = true := by kernel_rfl
theorem zB_102 : zeroB Try.prog 102 = some (.agg #[.int .i64 0, .int .i64 0, .int .u8 0, .int .u8 0, .int .u8 0, .int .u8 0, .int .u8 0, .int .u8 0, .int .u8 0, .int .u8 0, .int .u8 0, .int .u8 0, .int .u8 0, .int .u8 0, .int .u8 0, .int .u8 0, .int .u8 0, .int .u8 0, .int .u8 0, .int .u8 0, .int .u8 0, .int .u8 0, .int .u8 0, .int .u8 0, .int .u8 0, .int .u8 0, .int .u8 0, .int .u8 0, .int .u8 0, .int .u8 0, .int .u8 0, .int .u8 0, .int .u8 0, .int .u8 0]) := by kernel_rfl
theorem zB_27 : zeroB Try.prog 27 = some (.agg #[.bool false, .int .i64 0, .int .i64 0, .int .i64 0]) := by kernel_rfl
theorem zB_29 : zeroB Try.prog 29 = some (.agg #[.int .u8 0, .int .u8 0, .int .u8 0, .int .u8 0, .int .u8 0, .int .u8 0, .int .u8 0, .int .u8 0, .int .u8 0, .int .u8 0, .int .u8 0, .int .u8 0, .int .u8 0, .int .u8 0, .int .u8 0, .int .u8 0, .int .u8 0, .int .u8 0, .int .u8 0, .int .u8 0, .int .u8 0, .int .u8 0, .int .u8 0, .int .u8 0, .int .u8 0, .int .u8 0, .int .u8 0, .int .u8 0, .int .u8 0, .int .u8 0, .int .u8 0, .int .u8 0]) := by kernel_rfl
theorem zB_31 : zeroB Try.prog 31 = some (.agg #[.int .i64 0, .int .i64 0, .int .u8 0, .int .u8 0, .int .u8 0, .int .u8 0, .int .u8 0, .int .u8 0, .int .u8 0, .int .u8 0, .int .u8 0, .int .u8 0, .int .u8 0, .int .u8 0, .int .u8 0, .int .u8 0, .int .u8 0, .int .u8 0, .int .u8 0, .int .u8 0, .int .u8 0, .int .u8 0, .int .u8 0, .int .u8 0, .int .u8 0, .int .u8 0, .int .u8 0, .int .u8 0, .int .u8 0, .int .u8 0, .int .u8 0, .int .u8 0, .int .u8 0, .int .u8 0]) := by kernel_rfl
theorem zB_96 : zeroB Try.prog 96 = some (.agg #[.int .i64 0, .int .i64 0]) := by kernel_rfl
theorem zBr_29 : zeroB Try.prog 29 = some (.agg (rootC Root.zero).toArray) := by kernel_rfl
theorem zv_102 : (Try.prog.info? 102).bind (·.zero) = some (.agg #[.int .i64 0, .int .i64 0, .int .u8 0, .int .u8 0, .int .u8 0, .int .u8 0, .int .u8 0, .int .u8 0, .int .u8 0, .int .u8 0, .int .u8 0, .int .u8 0, .int .u8 0, .int .u8 0, .int .u8 0, .int .u8 0, .int .u8 0, .int .u8 0, .int .u8 0, .int .u8 0, .int .u8 0, .int .u8 0, .int .u8 0, .int .u8 0, .int .u8 0, .int .u8 0, .int .u8 0, .int .u8 0, .int .u8 0, .int .u8 0, .int .u8 0, .int .u8 0, .int .u8 0, .int .u8 0]) := by kernel_rfl
theorem zv_31 : (Try.prog.info? 31).bind (·.zero) = some (.agg #[.int .i64 0, .int .i64 0, .int .u8 0, .int .u8 0, .int .u8 0, .int .u8 0, .int .u8 0, .int .u8 0, .int .u8 0, .int .u8 0, .int .u8 0, .int .u8 0, .int .u8 0, .int .u8 0, .int .u8 0, .int .u8 0, .int .u8 0, .int .u8 0, .int .u8 0, .int .u8 0, .int .u8 0, .int .u8 0, .int .u8 0, .int .u8 0, .int .u8 0, .int .u8 0, .int .u8 0, .int .u8 0, .int .u8 0, .int .u8 0, .int .u8 0, .int .u8 0, .int .u8 0, .int .u8 0]) := by kernel_rfl
theorem zv_4 : (Try.prog.info? 4).bind (·.zero) = some (.bool false) := by kernel_rfl
theorem zv_97 : (Try.prog.info? 97).bind (·.zero) = some (.pointer none) := by kernel_rfl
end Go.SL

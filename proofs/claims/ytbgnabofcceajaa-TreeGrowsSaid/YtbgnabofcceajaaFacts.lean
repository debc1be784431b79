import Derived.Test.YtbgnabofcceajaaEnh
import Derived.Test.YtbgnabofcceajaaProg
namespace Go.SL
open Go.Proofs
theorem a1_30 : arr1B Try.prog 30 = some 32 := by kernel_rfl
theorem ag_30 : aggB Try.prog 30 = some 32 := by kernel_rfl
theorem ag_32 : aggB Try.prog 32 = some 34 := by kernel_rfl
theorem ag_54 : aggB Try.prog 54 = some 3 := by kernel_rfl
theorem bB_32 : buildB Try.prog 32 = some (nodeC Node.zero, [(0, 32), (32, 1), (33, 1)]) := by kernel_rfl
theorem bB_73 : buildB Try.prog 73 = some ([.slice none 0 0, .slice none 0 0, .slice none 0 0, .int .i64 0], [(0, 1), (1, 1), (2, 1), (3, 1)]) := by kernel_rfl
theorem bB_87 : buildB Try.prog 87 = some ([.slice none 0 0, .map none, .int .i64 0], [(0, 1), (1, 1), (2, 1)]) := by kernel_rfl
theorem cb_15 : callB Try.prog 15 = true := by kernel_rfl
theorem cb_16 : callB Try.prog 16 = true := by kernel_rfl
theorem cb_17 : callB Try.prog 17 = true := by kernel_rfl
theorem cb_18 : callB Try.prog 18 = true := by kernel_rfl
theorem cb_19 : callB Try.prog 19 = true := by kernel_rfl
theorem cb_20 : callB Try.prog 20 = true := by kernel_rfl
theorem cb_21 : callB Try.prog 21 = true := by kernel_rfl
theorem cb_22 : callB Try.prog 22 = true := by kernel_rfl
theorem cb_23 : callB Try.prog 23 = true := by kernel_rfl
theorem cb_24 : callB Try.prog 24 = true := by kernel_rfl
theorem cb_25 : callB Try.prog 25 = true := by kernel_rfl
theorem cb_26 : callB Try.prog 26 = true := by kernel_rfl
theorem cb_27 : callB Try.prog 27 = true := by kernel_rfl
theorem cb_28 : callB Try.prog 28 = true := by kernel_rfl
theorem cb_29 : callB Try.prog 29 = true := by kernel_rfl
theorem cb_30 : callB Try.prog 30 = true := by kernel_rfl
theorem cb_31 : callB Try.prog 31 = true := by kernel_rfl
theorem cb_32 : callB Try.prog 32 = true := by kernel_rfl
theorem cb_47 : callB Try.prog 47 = true := by kernel_rfl
theorem cb_48 : callB Try.prog 48 = true := by kernel_rfl
theorem cb_49 : callB Try.prog 49 = true := by kernel_rfl
theorem cb_62 : callB Try.prog 62 = true := by kernel_rfl
theorem fld_32_0 : fieldB Try.prog 32 0 = some 0 := by kernel_rfl
theorem fld_32_1 : fieldB Try.prog 32 1 = some 32 := by kernel_rfl
theorem fld_32_2 : fieldB Try.prog 32 2 = some 33 := by kernel_rfl
theorem fld_54_0 : fieldB Try.prog 54 0 = some 0 := by kernel_rfl
theorem fld_54_1 : fieldB Try.prog 54 1 = some 1 := by kernel_rfl
theorem fld_54_2 : fieldB Try.prog 54 2 = some 2 := by kernel_rfl
theorem fld_73_0 : fieldB Try.prog 73 0 = some 0 := by kernel_rfl
theorem fld_73_1 : fieldB Try.prog 73 1 = some 1 := by kernel_rfl
theorem fld_73_2 : fieldB Try.prog 73 2 = some 2 := by kernel_rfl
theorem fld_73_3 : fieldB Try.prog 73 3 = some 3 := by kernel_rfl
theorem fld_87_0 : fieldB Try.prog 87 0 = some 0 := by kernel_rfl
theorem fld_87_1 : fieldB Try.prog 87 1 = some 1 := by kernel_rfl
theorem fld_87_2 : fieldB Try.prog 87 2 = some 2 := by kernel_rfl
theorem fs_32 : ((Try.prog.fieldsOf 32).toList.map fun f => (f.name, f.type, f.offset)) = [("Root", 30, 0), ("Slot", 3, 32), ("Parent", 3, 33)] := by kernel_rfl
theorem mx : Try.prog.follows .mixedOrders = true := by kernel_rfl
theorem rB_30 : rootB Try.prog 30 = true := by kernel_rfl
theorem rk_30 : rootKeyB Try.prog 30 = true := by kernel_rfl
theorem sB_22 : sliceB Try.prog 22 = some (54, 3, 24) := by kernel_rfl
theorem sB_45 : sliceB Try.prog 45 = some (30, 32, 32) := by kernel_rfl
theorem sB_71 : sliceB Try.prog 71 = some (3, 1, 8) := by kernel_rfl
theorem sB_84 : sliceB Try.prog 84 = some (32, 34, 48) := by kernel_rfl
theorem sc_3 : scalarB Try.prog 3 = true := by kernel_rfl
theorem sc_45 : scalarB Try.prog 45 = true := by kernel_rfl
theorem sc_5 : scalarB Try.prog 5 = true := by kernel_rfl
theorem sc_71 : scalarB Try.prog 71 = true := by kernel_rfl
theorem sc_84 : scalarB Try.prog 84 = true := by kernel_rfl
theorem sc_85 : scalarB Try.prog 85 = true := by kernel_rfl
theorem stB_32 : structB Try.prog 32 = true := by kernel_rfl
theorem zB_3 : zeroB Try.prog 3 = some (.int .i64 0) := by kernel_rfl
theorem zB_30 : zeroB Try.prog 30 = some (.agg #[.int .u8 0, .int .u8 0, .int .u8 0, .int .u8 0, .int .u8 0, .int .u8 0, .int .u8 0, .int .u8 0, .int .u8 0, .int .u8 0, .int .u8 0, .int .u8 0, .int .u8 0, .int .u8 0, .int .u8 0, .int .u8 0, .int .u8 0, .int .u8 0, .int .u8 0, .int .u8 0, .int .u8 0, .int .u8 0, .int .u8 0, .int .u8 0, .int .u8 0, .int .u8 0, .int .u8 0, .int .u8 0, .int .u8 0, .int .u8 0, .int .u8 0, .int .u8 0]) := by kernel_rfl
theorem zB_32 : zeroB Try.prog 32 = some (.agg #[.int .u8 0, .int .u8 0, .int .u8 0, .int .u8 0, .int .u8 0, .int .u8 0, .int .u8 0, .int .u8 0, .int .u8 0, .int .u8 0, .int .u8 0, .int .u8 0, .int .u8 0, .int .u8 0, .int .u8 0, .int .u8 0, .int .u8 0, .int .u8 0, .int .u8 0, .int .u8 0, .int .u8 0, .int .u8 0, .int .u8 0, .int .u8 0, .int .u8 0, .int .u8 0, .int .u8 0, .int .u8 0, .int .u8 0, .int .u8 0, .int .u8 0, .int .u8 0, .int .i64 0, .int .i64 0]) := by kernel_rfl
theorem zB_45 : zeroB Try.prog 45 = some (.slice none 0 0) := by kernel_rfl
theorem zB_54 : zeroB Try.prog 54 = some (.agg #[.int .i64 0, .int .i64 0, .int .i64 0]) := by kernel_rfl
theorem zBr_30 : zeroB Try.prog 30 = some (.agg (rootC Root.zero).toArray) := by kernel_rfl
theorem zv_3 : (Try.prog.info? 3).bind (·.zero) = some (.int .i64 0) := by kernel_rfl
theorem zv_30 : (Try.prog.info? 30).bind (·.zero) = some (.agg #[.int .u8 0, .int .u8 0, .int .u8 0, .int .u8 0, .int .u8 0, .int .u8 0, .int .u8 0, .int .u8 0, .int .u8 0, .int .u8 0, .int .u8 0, .int .u8 0, .int .u8 0, .int .u8 0, .int .u8 0, .int .u8 0, .int .u8 0, .int .u8 0, .int .u8 0, .int .u8 0, .int .u8 0, .int .u8 0, .int .u8 0, .int .u8 0, .int .u8 0, .int .u8 0, .int .u8 0, .int .u8 0, .int .u8 0, .int .u8 0, .int .u8 0, .int .u8 0]) := by kernel_rfl
theorem zv_32 : (Try.prog.info? 32).bind (·.zero) = some (.agg #[.int .u8 0, .int .u8 0, .int .u8 0, .int .u8 0, .int .u8 0, .int .u8 0, .int .u8 0, .int .u8 0, .int .u8 0, .int .u8 0, .int .u8 0, .int .u8 0, .int .u8 0, .int .u8 0, .int .u8 0, .int .u8 0, .int .u8 0, .int .u8 0, .int .u8 0, .int .u8 0, .int .u8 0, .int .u8 0, .int .u8 0, .int .u8 0, .int .u8 0, .int .u8 0, .int .u8 0, .int .u8 0, .int .u8 0, .int .u8 0, .int .u8 0, .int .u8 0, .int .i64 0, .int .i64 0]) := by kernel_rfl
end Go.SL

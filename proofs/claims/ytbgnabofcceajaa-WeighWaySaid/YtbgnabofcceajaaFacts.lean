import Derived.Test.YtbgnabofcceajaaEnl
import Derived.Test.YtbgnabofcceajaaProg
namespace Go.SL
open Go.Proofs
theorem a1_30 : arr1B Try.prog 30 = some 32 := by kernel_rfl
theorem ag_30 : aggB Try.prog 30 = some 32 := by kernel_rfl
theorem ag_32 : aggB Try.prog 32 = some 34 := by kernel_rfl
theorem ag_54 : aggB Try.prog 54 = some 3 := by kernel_rfl
theorem ag_66 : aggB Try.prog 66 = some 3 := by kernel_rfl
theorem ag_69 : aggB Try.prog 69 = some 6 := by kernel_rfl
theorem ag_80 : aggB Try.prog 80 = some 33 := by kernel_rfl
theorem ag_99 : aggB Try.prog 99 = some 33 := by kernel_rfl
theorem bB_32 : buildB Try.prog 32 = some (nodeC Node.zero, [(0, 32), (32, 1), (33, 1)]) := by kernel_rfl
theorem bB_66 : buildB Try.prog 66 = some ([.pointer none, .pointer none, .pointer none], [(0, 1), (1, 1), (2, 1)]) := by kernel_rfl
theorem bB_73 : buildB Try.prog 73 = some ([.slice none 0 0, .slice none 0 0, .slice none 0 0, .int .i64 0], [(0, 1), (1, 1), (2, 1), (3, 1)]) := by kernel_rfl
theorem bB_75 : buildB Try.prog 75 = some ([.pointer none, .slice none 0 0, .int .i64 0], [(0, 1), (1, 1), (2, 1)]) := by kernel_rfl
theorem bB_80 : buildB Try.prog 80 = some (deltaC Delta.zero, [(0, 32), (32, 1)]) := by kernel_rfl
theorem bB_87 : buildB Try.prog 87 = some ([.slice none 0 0, .map none, .int .i64 0], [(0, 1), (1, 1), (2, 1)]) := by kernel_rfl
theorem bB_95 : buildB Try.prog 95 = some ([.pointer none, .slice none 0 0, .slice none 0 0, .slice none 0 0, .slice none 0 0], [(0, 1), (1, 1), (2, 1), (3, 1), (4, 1)]) := by kernel_rfl
theorem bB_99 : buildB Try.prog 99 = some (deltaC Delta.zero, [(0, 32), (32, 1)]) := by kernel_rfl
theorem cb_15 : callB Try.prog 15 = true := by kernel_rfl
theorem cb_16 : callB Try.prog 16 = true := by kernel_rfl
theorem cb_17 : callB Try.prog 17 = true := by kernel_rfl
theorem cb_18 : callB Try.prog 18 = true := by kernel_rfl
theorem cb_19 : callB Try.prog 19 = true := by kernel_rfl
theorem cb_20 : callB Try.prog 20 = true := by kernel_rfl
theorem cb_21 : callB Try.prog 21 = true := by kernel_rfl
theorem cb_22 : callB Try.prog 22 = true := by kernel_rfl
theorem cb_23 : callB Try.prog 23 = true := by kernel_rfl
theorem cb_24 : callB Try.prog 24 = true := by kernel_rfl
theorem cb_25 : callB Try.prog 25 = true := by kernel_rfl
theorem cb_26 : callB Try.prog 26 = true := by kernel_rfl
theorem cb_27 : callB Try.prog 27 = true := by kernel_rfl
theorem cb_28 : callB Try.prog 28 = true := by kernel_rfl
theorem cb_29 : callB Try.prog 29 = true := by kernel_rfl
theorem cb_30 : callB Try.prog 30 = true := by kernel_rfl
theorem cb_31 : callB Try.prog 31 = true := by kernel_rfl
theorem cb_32 : callB Try.prog 32 = true := by kernel_rfl
theorem cb_33 : callB Try.prog 33 = true := by kernel_rfl
theorem cb_34 : callB Try.prog 34 = true := by kernel_rfl
theorem cb_35 : callB Try.prog 35 = true := by kernel_rfl
theorem cb_36 : callB Try.prog 36 = true := by kernel_rfl
theorem cb_37 : callB Try.prog 37 = true := by kernel_rfl
theorem cb_38 : callB Try.prog 38 = true := by kernel_rfl
theorem cb_39 : callB Try.prog 39 = true := by kernel_rfl
theorem cb_40 : callB Try.prog 40 = true := by kernel_rfl
theorem cb_41 : callB Try.prog 41 = true := by kernel_rfl
theorem cb_42 : callB Try.prog 42 = true := by kernel_rfl
theorem cb_43 : callB Try.prog 43 = true := by kernel_rfl
theorem cb_44 : callB Try.prog 44 = true := by kernel_rfl
theorem cb_45 : callB Try.prog 45 = true := by kernel_rfl
theorem cb_46 : callB Try.prog 46 = true := by kernel_rfl
theorem cb_47 : callB Try.prog 47 = true := by kernel_rfl
theorem cb_48 : callB Try.prog 48 = true := by kernel_rfl
theorem cb_49 : callB Try.prog 49 = true := by kernel_rfl
theorem cb_50 : callB Try.prog 50 = true := by kernel_rfl
theorem cb_51 : callB Try.prog 51 = true := by kernel_rfl
theorem cb_52 : callB Try.prog 52 = true := by kernel_rfl
theorem cb_53 : callB Try.prog 53 = true := by kernel_rfl
theorem cb_54 : callB Try.prog 54 = true := by kernel_rfl
theorem cb_55 : callB Try.prog 55 = true := by kernel_rfl
theorem cb_56 : callB Try.prog 56 = true := by kernel_rfl
theorem cb_57 : callB Try.prog 57 = true := by kernel_rfl
theorem cb_58 : callB Try.prog 58 = true := by kernel_rfl
theorem cb_59 : callB Try.prog 59 = true := by kernel_rfl
theorem cb_60 : callB Try.prog 60 = true := by kernel_rfl
theorem cb_61 : callB Try.prog 61 = true := by kernel_rfl
theorem cb_62 : callB Try.prog 62 = true := by kernel_rfl
theorem cb_63 : callB Try.prog 63 = true := by kernel_rfl
theorem cb_64 : callB Try.prog 64 = true := by kernel_rfl
theorem fld_32_0 : fieldB Try.prog 32 0 = some 0 := by kernel_rfl
theorem fld_32_1 : fieldB Try.prog 32 1 = some 32 := by kernel_rfl
theorem fld_32_2 : fieldB Try.prog 32 2 = some 33 := by kernel_rfl
theorem fld_54_0 : fieldB Try.prog 54 0 = some 0 := by kernel_rfl
theorem fld_54_1 : fieldB Try.prog 54 1 = some 1 := by kernel_rfl
theorem fld_54_2 : fieldB Try.prog 54 2 = some 2 := by kernel_rfl
theorem fld_66_0 : fieldB Try.prog 66 0 = some 0 := by kernel_rfl
theorem fld_66_1 : fieldB Try.prog 66 1 = some 1 := by kernel_rfl
theorem fld_66_2 : fieldB Try.prog 66 2 = some 2 := by kernel_rfl
theorem fld_69_0 : fieldB Try.prog 69 0 = some 0 := by kernel_rfl
theorem fld_69_1 : fieldB Try.prog 69 1 = some 1 := by kernel_rfl
theorem fld_69_2 : fieldB Try.prog 69 2 = some 2 := by kernel_rfl
theorem fld_69_3 : fieldB Try.prog 69 3 = some 3 := by kernel_rfl
theorem fld_69_4 : fieldB Try.prog 69 4 = some 4 := by kernel_rfl
theorem fld_69_5 : fieldB Try.prog 69 5 = some 5 := by kernel_rfl
theorem fld_73_0 : fieldB Try.prog 73 0 = some 0 := by kernel_rfl
theorem fld_73_1 : fieldB Try.prog 73 1 = some 1 := by kernel_rfl
theorem fld_73_2 : fieldB Try.prog 73 2 = some 2 := by kernel_rfl
theorem fld_73_3 : fieldB Try.prog 73 3 = some 3 := by kernel_rfl
theorem fld_75_0 : fieldB Try.prog 75 0 = some 0 := by kernel_rfl
theorem fld_75_1 : fieldB Try.prog 75 1 = some 1 := by kernel_rfl
theorem fld_75_2 : fieldB Try.prog 75 2 = some 2 := by kernel_rfl
theorem fld_80_0 : fieldB Try.prog 80 0 = some 0 := by kernel_rfl
theorem fld_80_1 : fieldB Try.prog 80 1 = some 32 := by kernel_rfl
theorem fld_87_0 : fieldB Try.prog 87 0 = some 0 := by kernel_rfl
theorem fld_87_1 : fieldB Try.prog 87 1 = some 1 := by kernel_rfl
theorem fld_87_2 : fieldB Try.prog 87 2 = some 2 := by kernel_rfl
theorem fld_95_0 : fieldB Try.prog 95 0 = some 0 := by kernel_rfl
theorem fld_95_1 : fieldB Try.prog 95 1 = some 1 := by kernel_rfl
theorem fld_95_2 : fieldB Try.prog 95 2 = some 2 := by kernel_rfl
theorem fld_95_3 : fieldB Try.prog 95 3 = some 3 := by kernel_rfl
theorem fld_95_4 : fieldB Try.prog 95 4 = some 4 := by kernel_rfl
theorem fld_99_0 : fieldB Try.prog 99 0 = some 0 := by kernel_rfl
theorem fld_99_1 : fieldB Try.prog 99 1 = some 32 := by kernel_rfl
theorem fs_32 : ((Try.prog.fieldsOf 32).toList.map fun f => (f.name, f.type, f.offset)) = [("Root", 30, 0), ("Slot", 3, 32), ("Parent", 3, 33)] := by kernel_rfl
theorem mx : Try.prog.follows .mixedOrders = true := by kernel_rfl
theorem rB_30 : rootB Try.prog 30 = true := by kernel_rfl
theorem rk_30 : rootKeyB Try.prog 30 = true := by kernel_rfl
theorem sB_100 : sliceB Try.prog 100 = some (99, 33, 40) := by kernel_rfl
theorem sB_105 : sliceB Try.prog 105 = some (5, 1, 1) := by kernel_rfl
theorem sB_22 : sliceB Try.prog 22 = some (54, 3, 24) := by kernel_rfl
theorem sB_45 : sliceB Try.prog 45 = some (30, 32, 32) := by kernel_rfl
theorem sB_57 : sliceB Try.prog 57 = some (69, 6, 48) := by kernel_rfl
theorem sB_71 : sliceB Try.prog 71 = some (3, 1, 8) := by kernel_rfl
theorem sB_77 : sliceB Try.prog 77 = some (80, 33, 40) := by kernel_rfl
theorem sB_84 : sliceB Try.prog 84 = some (32, 34, 48) := by kernel_rfl
theorem sc_24 : scalarB Try.prog 24 = true := by kernel_rfl
theorem sc_25 : scalarB Try.prog 25 = true := by kernel_rfl
theorem sc_3 : scalarB Try.prog 3 = true := by kernel_rfl
theorem sc_45 : scalarB Try.prog 45 = true := by kernel_rfl
theorem sc_5 : scalarB Try.prog 5 = true := by kernel_rfl
theorem sc_58 : scalarB Try.prog 58 = true := by kernel_rfl
theorem sc_64 : scalarB Try.prog 64 = true := by kernel_rfl
theorem sc_71 : scalarB Try.prog 71 = true := by kernel_rfl
theorem sc_84 : scalarB Try.prog 84 = true := by kernel_rfl
theorem sc_85 : scalarB Try.prog 85 = true := by kernel_rfl
theorem stB_32 : structB Try.prog 32 = true := by kernel_rfl
theorem zB_3 : zeroB Try.prog 3 = some (.int .i64 0) := by kernel_rfl
theorem zB_30 : zeroB Try.prog 30 = some (.agg #[.int .u8 0, .int .u8 0, .int .u8 0, .int .u8 0, .int .u8 0, .int .u8 0, .int .u8 0, .int .u8 0, .int .u8 0, .int .u8 0, .int .u8 0, .int .u8 0, .int .u8 0, .int .u8 0, .int .u8 0, .int .u8 0, .int .u8 0, .int .u8 0, .int .u8 0, .int .u8 0, .int .u8 0, .int .u8 0, .int .u8 0, .int .u8 0, .int .u8 0, .int .u8 0, .int .u8 0, .int .u8 0, .int .u8 0, .int .u8 0, .int .u8 0, .int .u8 0]) := by kernel_rfl
theorem zB_32 : zeroB Try.prog 32 = some (.agg #[.int .u8 0, .int .u8 0, .int .u8 0, .int .u8 0, .int .u8 0, .int .u8 0, .int .u8 0, .int .u8 0, .int .u8 0, .int .u8 0, .int .u8 0, .int .u8 0, .int .u8 0, .int .u8 0, .int .u8 0, .int .u8 0, .int .u8 0, .int .u8 0, .int .u8 0, .int .u8 0, .int .u8 0, .int .u8 0, .int .u8 0, .int .u8 0, .int .u8 0, .int .u8 0, .int .u8 0, .int .u8 0, .int .u8 0, .int .u8 0, .int .u8 0, .int .u8 0, .int .i64 0, .int .i64 0]) := by kernel_rfl
theorem zB_45 : zeroB Try.prog 45 = some (.slice none 0 0) := by kernel_rfl
theorem zB_54 : zeroB Try.prog 54 = some (.agg #[.int .i64 0, .int .i64 0, .int .i64 0]) := by kernel_rfl
theorem zB_66 : zeroB Try.prog 66 = some (.agg #[.pointer none, .pointer none, .pointer none]) := by kernel_rfl
theorem zB_69 : zeroB Try.prog 69 = some (.agg #[.int .i64 0, .int .i64 0, .int .i64 0, .int .i64 0, .int .i64 0, .int .i64 0]) := by kernel_rfl
theorem zB_80 : zeroB Try.prog 80 = some (.agg #[.int .u8 0, .int .u8 0, .int .u8 0, .int .u8 0, .int .u8 0, .int .u8 0, .int .u8 0, .int .u8 0, .int .u8 0, .int .u8 0, .int .u8 0, .int .u8 0, .int .u8 0, .int .u8 0, .int .u8 0, .int .u8 0, .int .u8 0, .int .u8 0, .int .u8 0, .int .u8 0, .int .u8 0, .int .u8 0, .int .u8 0, .int .u8 0, .int .u8 0, .int .u8 0, .int .u8 0, .int .u8 0, .int .u8 0, .int .u8 0, .int .u8 0, .int .u8 0, .int .i64 0]) := by kernel_rfl
theorem zB_99 : zeroB Try.prog 99 = some (.agg #[.int .u8 0, .int .u8 0, .int .u8 0, .int .u8 0, .int .u8 0, .int .u8 0, .int .u8 0, .int .u8 0, .int .u8 0, .int .u8 0, .int .u8 0, .int .u8 0, .int .u8 0, .int .u8 0, .int .u8 0, .int .u8 0, .int .u8 0, .int .u8 0, .int .u8 0, .int .u8 0, .int .u8 0, .int .u8 0, .int .u8 0, .int .u8 0, .int .u8 0, .int .u8 0, .int .u8 0, .int .u8 0, .int .u8 0, .int .u8 0, .int .u8 0, .int .u8 0, .int .i64 0]) := by kernel_rfl
theorem zBr_30 : zeroB Try.prog 30 = some (.agg (rootC Root.zero).toArray) := by kernel_rfl
theorem zv_3 : (Try.prog.info? 3).bind (·.zero) = some (.int .i64 0) := by kernel_rfl
theorem zv_30 : (Try.prog.info? 30).bind (·.zero) = some (.agg #[.int .u8 0, .int .u8 0, .int .u8 0, .int .u8 0, .int .u8 0, .int .u8 0, .int .u8 0, .int .u8 0, .int .u8 0, .int .u8 0, .int .u8 0, .int .u8 0, .int .u8 0, .int .u8 0, .int .u8 0, .int .u8 0, .int .u8 0, .int .u8 0, .int .u8 0, .int .u8 0, .int .u8 0, .int .u8 0, .int .u8 0, .int .u8 0, .int .u8 0, .int .u8 0, .int .u8 0, .int .u8 0, .int .u8 0, .int .u8 0, .int .u8 0, .int .u8 0]) := by kernel_rfl
theorem zv_32 : (Try.prog.info? 32).bind (·.zero) = some (.agg #[.int .u8 0, .int .u8 0, .int .u8 0, .int .u8 0, .int .u8 0, .int .u8 0, .int .u8 0, .int .u8 0, .int .u8 0, .int .u8 0, .int .u8 0, .int .u8 0, .int .u8 0, .int .u8 0, .int .u8 0, .int .u8 0, .int .u8 0, .int .u8 0, .int .u8 0, .int .u8 0, .int .u8 0, .int .u8 0, .int .u8 0, .int .u8 0, .int .u8 0, .int .u8 0, .int .u8 0, .int .u8 0, .int .u8 0, .int .u8 0, .int .u8 0, .int .u8 0, .int .i64 0, .int .i64 0]) := by kernel_rfl
theorem zv_80 : (Try.prog.info? 80).bind (·.zero) = some (.agg #[.int .u8 0, .int .u8 0, .int .u8 0, .int .u8 0, .int .u8 0, .int .u8 0, .int .u8 0, .int .u8 0, .int .u8 0, .int .u8 0, .int .u8 0, .int .u8 0, .int .u8 0, .int .u8 0, .int .u8 0, .int .u8 0, .int .u8 0, .int .u8 0, .int .u8 0, .int .u8 0, .int .u8 0, .int .u8 0, .int .u8 0, .int .u8 0, .int .u8 0, .int .u8 0, .int .u8 0, .int .u8 0, .int .u8 0, .int .u8 0, .int .u8 0, .int .u8 0, .int .i64 0]) := by kernel_rfl
theorem zv_99 : (Try.prog.info? 99).bind (·.zero) = some (.agg #[.int .u8 0, .int .u8 0, .int .u8 0, .int .u8 0, .int .u8 0, .int .u8 0, .int .u8 0, .int .u8 0, .int .u8 0, .int .u8 0, .int .u8 0, .int .u8 0, .int .u8 0, .int .u8 0, .int .u8 0, .int .u8 0, .int .u8 0, .int .u8 0, .int .u8 0, .int .u8 0, .int .u8 0, .int .u8 0, .int .u8 0, .int .u8 0, .int .u8 0, .int .u8 0, .int .u8 0, .int .u8 0, .int .u8 0, .int .u8 0, .int .u8 0, .int .u8 0, .int .i64 0]) := by kernel_rfl
end Go.SL

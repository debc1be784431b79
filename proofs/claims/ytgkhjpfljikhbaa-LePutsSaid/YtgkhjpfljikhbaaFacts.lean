import Derived.Test.YtgkhjpfljikhbaaEng
import Derived.Test.YtgkhjpfljikhbaaProg
namespace Go.SL
open Go.Proofs
theorem ag_49 : aggB Try.prog 49 = some 2 := by kernel_rfl
theorem bB_47 : buildB Try.prog 47 = some ([.string ⟨#[]⟩, .int .i64 0, .bool false], [(0, 1), (1, 1), (2, 1)]) := by kernel_rfl
theorem bB_60 : buildB Try.prog 60 = some ([.string ⟨#[]⟩, .bool false], [(0, 1), (1, 1)]) := by kernel_rfl
theorem cb_17 : callB Try.prog 17 = true := by kernel_rfl
theorem cb_18 : callB Try.prog 18 = true := by kernel_rfl
theorem cb_19 : callB Try.prog 19 = true := by kernel_rfl
theorem cb_20 : callB Try.prog 20 = true := by kernel_rfl
theorem cb_21 : callB Try.prog 21 = true := by kernel_rfl
theorem cb_22 : callB Try.prog 22 = true := by kernel_rfl
theorem cb_23 : callB Try.prog 23 = true := by kernel_rfl
theorem cb_24 : callB Try.prog 24 = true := by kernel_rfl
theorem cb_25 : callB Try.prog 25 = true := by kernel_rfl
theorem cb_26 : callB Try.prog 26 = true := by kernel_rfl
theorem cb_27 : callB Try.prog 27 = true := by kernel_rfl
theorem fld_47_0 : fieldB Try.prog 47 0 = some 0 := by kernel_rfl
theorem fld_47_1 : fieldB Try.prog 47 1 = some 1 := by kernel_rfl
theorem fld_47_2 : fieldB Try.prog 47 2 = some 2 := by kernel_rfl
theorem fld_49_0 : fieldB Try.prog 49 0 = some 0 := by kernel_rfl
theorem fld_49_1 : fieldB Try.prog 49 1 = some 1 := by kernel_rfl
theorem fld_60_0 : fieldB Try.prog 60 0 = some 0 := by kernel_rfl
theorem fld_60_1 : fieldB Try.prog 60 1 = some 1 := by kernel_rfl
theorem mx : Try.prog.follows .mixedOrders = true := by kernel_rfl
theorem sB_26 : sliceB Try.prog 26 = some (5, 1, 1) := by kernel_rfl
theorem sB_35 : sliceB Try.prog 35 = some (31, 1, 8) := by kernel_rfl
theorem sB_42 : sliceB Try.prog 42 = some (49, 2, 16) := by kernel_rfl
theorem sc_3 : scalarB Try.prog 3 = true := by kernel_rfl
theorem sc_31 : scalarB Try.prog 31 = true := by kernel_rfl
theorem sc_4 : scalarB Try.prog 4 = true := by kernel_rfl
theorem sc_5 : scalarB Try.prog 5 = true := by kernel_rfl
theorem sc_9 : scalarB Try.prog 9 = true := by kernel_rfl
theorem zB_49 : zeroB Try.prog 49 = some (.agg #[.bool false, .int .i64 0]) := by kernel_rfl
theorem zv_5 : (Try.prog.info? 5).bind (·.zero) = some (.int .u8 0) := by kernel_rfl
end Go.SL

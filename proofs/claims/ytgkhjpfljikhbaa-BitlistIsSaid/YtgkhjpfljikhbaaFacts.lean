import Derived.Test.YtgkhjpfljikhbaaEng
import Derived.Test.YtgkhjpfljikhbaaProg
namespace Go.SL
open Go.Proofs
theorem cb_13 : callB Try.prog 13 = true := by kernel_rfl
theorem cb_14 : callB Try.prog 14 = true := by kernel_rfl
theorem cb_15 : callB Try.prog 15 = true := by kernel_rfl
theorem cb_16 : callB Try.prog 16 = true := by kernel_rfl
theorem cb_28 : callB Try.prog 28 = true := by kernel_rfl
theorem cb_29 : callB Try.prog 29 = true := by kernel_rfl
theorem cb_30 : callB Try.prog 30 = true := by kernel_rfl
theorem cb_31 : callB Try.prog 31 = true := by kernel_rfl
theorem cb_32 : callB Try.prog 32 = true := by kernel_rfl
theorem mx : Try.prog.follows .mixedOrders = true := by kernel_rfl
theorem sB_22 : sliceB Try.prog 22 = some (4, 1, 1) := by kernel_rfl
theorem sB_26 : sliceB Try.prog 26 = some (5, 1, 1) := by kernel_rfl
theorem sB_54 : sliceB Try.prog 54 = some (3, 1, 8) := by kernel_rfl
theorem sc_3 : scalarB Try.prog 3 = true := by kernel_rfl
theorem sc_4 : scalarB Try.prog 4 = true := by kernel_rfl
theorem sc_5 : scalarB Try.prog 5 = true := by kernel_rfl
theorem zv_3 : (Try.prog.info? 3).bind (·.zero) = some (.int .i64 0) := by kernel_rfl
theorem zv_4 : (Try.prog.info? 4).bind (·.zero) = some (.bool false) := by kernel_rfl
theorem zv_5 : (Try.prog.info? 5).bind (·.zero) = some (.int .u8 0) := by kernel_rfl
end Go.SL

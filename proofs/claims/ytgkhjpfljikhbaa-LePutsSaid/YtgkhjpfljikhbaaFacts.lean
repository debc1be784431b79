import Derived.Test.YtgkhjpfljikhbaaEng
import Derived.Test.YtgkhjpfljikhbaaProg
namespace Go.SL
open Go.Proofs
theorem bB_60 : buildB Try.prog 60 = some ([.string ⟨#[]⟩, .bool false], [(0, 1), (1, 1)]) := by kernel_rfl
theorem cb_17 : callB Try.prog 17 = true := by kernel_rfl
theorem cb_18 : callB Try.prog 18 = true := by kernel_rfl
theorem cb_19 : callB Try.prog 19 = true := by kernel_rfl
theorem cb_20 : callB Try.prog 20 = true := by kernel_rfl
theorem cb_21 : callB Try.prog 21 = true := by kernel_rfl
theorem cb_22 : callB Try.prog 22 = true := by kernel_rfl
theorem cb_23 : callB Try.prog 23 = true := by kernel_rfl
theorem cb_25 : callB Try.prog 25 = true := by kernel_rfl
theorem fld_47_0 : fieldB Try.prog 47 0 = some 0 := by kernel_rfl
theorem fld_47_1 : fieldB Try.prog 47 1 = some 1 := by kernel_rfl
theorem fld_47_2 : fieldB Try.prog 47 2 = some 2 := by kernel_rfl
theorem fld_60_0 : fieldB Try.prog 60 0 = some 0 := by kernel_rfl
theorem fld_60_1 : fieldB Try.prog 60 1 = some 1 := by kernel_rfl
theorem mx : Try.prog.follows .mixedOrders = true := by kernel_rfl
theorem sB_26 : sliceB Try.prog 26 = some (5, 1, 1) := by kernel_rfl
theorem sc_3 : scalarB Try.prog 3 = true := by kernel_rfl
theorem sc_4 : scalarB Try.prog 4 = true := by kernel_rfl
theorem sc_5 : scalarB Try.prog 5 = true := by kernel_rfl
theorem sc_9 : scalarB Try.prog 9 = true := by kernel_rfl
theorem zv_5 : (Try.prog.info? 5).bind (·.zero) = some (.int .u8 0) := by kernel_rfl
end Go.SL

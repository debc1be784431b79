import Derived.Test.YtoeodcnpmhbhmaaEnl
import Derived.Test.YtoeodcnpmhbhmaaProg
namespace Go.SL
open Go.Proofs
theorem a1_26 : arr1B Try.prog 26 = some 32 := by kernel_rfl
theorem a1_47 : arr1B Try.prog 47 = some 8 := by kernel_rfl
theorem a1_60 : arr1B Try.prog 60 = some 64 := by kernel_rfl
theorem ag_26 : aggB Try.prog 26 = some 32 := by kernel_rfl
theorem ag_47 : aggB Try.prog 47 = some 8 := by kernel_rfl
theorem ag_60 : aggB Try.prog 60 = some 64 := by kernel_rfl
theorem arp_26 : arrpB Try.prog 26 = some 32 := by kernel_rfl
theorem arp_47 : arrpB Try.prog 47 = some 8 := by kernel_rfl
theorem bB_52 : buildB Try.prog 52 = some (stC St.zero, [(0, 8), (8, 1), (9, 1)]) := by kernel_rfl
theorem ba_47 : buildaB Try.prog 47 = some [.int .u32 0, .int .u32 0, .int .u32 0, .int .u32 0, .int .u32 0, .int .u32 0, .int .u32 0, .int .u32 0] := by kernel_rfl
theorem ba_60 : buildaB Try.prog 60 = some [.int .u32 0, .int .u32 0, .int .u32 0, .int .u32 0, .int .u32 0, .int .u32 0, .int .u32 0, .int .u32 0, .int .u32 0, .int .u32 0, .int .u32 0, .int .u32 0, .int .u32 0, .int .u32 0, .int .u32 0, .int .u32 0, .int .u32 0, .int .u32 0, .int .u32 0, .int .u32 0, .int .u32 0, .int .u32 0, .int .u32 0, .int .u32 0, .int .u32 0, .int .u32 0, .int .u32 0, .int .u32 0, .int .u32 0, .int .u32 0, .int .u32 0, .int .u32 0, .int .u32 0, .int .u32 0, .int .u32 0, .int .u32 0, .int .u32 0, .int .u32 0, .int .u32 0, .int .u32 0, .int .u32 0, .int .u32 0, .int .u32 0, .int .u32 0, .int .u32 0, .int .u32 0, .int .u32 0, .int .u32 0, .int .u32 0, .int .u32 0, .int .u32 0, .int .u32 0, .int .u32 0, .int .u32 0, .int .u32 0, .int .u32 0, .int .u32 0, .int .u32 0, .int .u32 0, .int .u32 0, .int .u32 0, .int .u32 0, .int .u32 0, .int .u32 0] := by kernel_rfl
theorem cb_12 : callB Try.prog 12 = true := by kernel_rfl
theorem cb_13 : callB Try.prog 13 = true := by kernel_rfl
theorem cb_14 : callB Try.prog 14 = true := by kernel_rfl
theorem cb_15 : callB Try.prog 15 = true := by kernel_rfl
theorem cb_24 : callB Try.prog 24 = true := by kernel_rfl
theorem cb_25 : callB Try.prog 25 = true := by kernel_rfl
theorem cb_26 : callB Try.prog 26 = true := by kernel_rfl
theorem cb_32 : callB Try.prog 32 = true := by kernel_rfl
theorem cb_35 : callB Try.prog 35 = true := by kernel_rfl
theorem cb_36 : callB Try.prog 36 = true := by kernel_rfl
theorem cb_37 : callB Try.prog 37 = true := by kernel_rfl
theorem cb_40 : callB Try.prog 40 = true := by kernel_rfl
theorem fld_52_0 : fieldB Try.prog 52 0 = some 0 := by kernel_rfl
theorem fld_52_1 : fieldB Try.prog 52 1 = some 8 := by kernel_rfl
theorem fld_52_2 : fieldB Try.prog 52 2 = some 9 := by kernel_rfl
theorem mx : Try.prog.follows .mixedOrders = true := by kernel_rfl
theorem rB_26 : rootB Try.prog 26 = true := by kernel_rfl
theorem s1_68 : slice1B Try.prog 68 = true := by kernel_rfl
theorem sB_22 : sliceB Try.prog 22 = some (3, 1, 8) := by kernel_rfl
theorem sB_24 : sliceB Try.prog 24 = some (9, 1, 16) := by kernel_rfl
theorem sB_49 : sliceB Try.prog 49 = some (5, 1, 1) := by kernel_rfl
theorem sc_3 : scalarB Try.prog 3 = true := by kernel_rfl
theorem sc_46 : scalarB Try.prog 46 = true := by kernel_rfl
theorem sc_49 : scalarB Try.prog 49 = true := by kernel_rfl
theorem sc_5 : scalarB Try.prog 5 = true := by kernel_rfl
theorem sc_50 : scalarB Try.prog 50 = true := by kernel_rfl
theorem sc_9 : scalarB Try.prog 9 = true := by kernel_rfl
theorem zB_26 : zeroB Try.prog 26 = some (.agg #[.int .u8 0, .int .u8 0, .int .u8 0, .int .u8 0, .int .u8 0, .int .u8 0, .int .u8 0, .int .u8 0, .int .u8 0, .int .u8 0, .int .u8 0, .int .u8 0, .int .u8 0, .int .u8 0, .int .u8 0, .int .u8 0, .int .u8 0, .int .u8 0, .int .u8 0, .int .u8 0, .int .u8 0, .int .u8 0, .int .u8 0, .int .u8 0, .int .u8 0, .int .u8 0, .int .u8 0, .int .u8 0, .int .u8 0, .int .u8 0, .int .u8 0, .int .u8 0]) := by kernel_rfl
theorem zB_47 : zeroB Try.prog 47 = some (.agg #[.int .u32 0, .int .u32 0, .int .u32 0, .int .u32 0, .int .u32 0, .int .u32 0, .int .u32 0, .int .u32 0]) := by kernel_rfl
theorem zB_60 : zeroB Try.prog 60 = some (.agg #[.int .u32 0, .int .u32 0, .int .u32 0, .int .u32 0, .int .u32 0, .int .u32 0, .int .u32 0, .int .u32 0, .int .u32 0, .int .u32 0, .int .u32 0, .int .u32 0, .int .u32 0, .int .u32 0, .int .u32 0, .int .u32 0, .int .u32 0, .int .u32 0, .int .u32 0, .int .u32 0, .int .u32 0, .int .u32 0, .int .u32 0, .int .u32 0, .int .u32 0, .int .u32 0, .int .u32 0, .int .u32 0, .int .u32 0, .int .u32 0, .int .u32 0, .int .u32 0, .int .u32 0, .int .u32 0, .int .u32 0, .int .u32 0, .int .u32 0, .int .u32 0, .int .u32 0, .int .u32 0, .int .u32 0, .int .u32 0, .int .u32 0, .int .u32 0, .int .u32 0, .int .u32 0, .int .u32 0, .int .u32 0, .int .u32 0, .int .u32 0, .int .u32 0, .int .u32 0, .int .u32 0, .int .u32 0, .int .u32 0, .int .u32 0, .int .u32 0, .int .u32 0, .int .u32 0, .int .u32 0, .int .u32 0, .int .u32 0, .int .u32 0, .int .u32 0]) := by kernel_rfl
theorem zv_5 : (Try.prog.info? 5).bind (·.zero) = some (.int .u8 0) := by kernel_rfl
theorem zv_9 : (Try.prog.info? 9).bind (·.zero) = some (.string ⟨#[]⟩) := by kernel_rfl
end Go.SL

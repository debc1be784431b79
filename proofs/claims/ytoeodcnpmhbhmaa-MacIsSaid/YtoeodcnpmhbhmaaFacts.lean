import Derived.Test.YtoeodcnpmhbhmaaEnl
import Derived.Test.YtoeodcnpmhbhmaaProg
namespace Go.SL
open Go.Proofs
theorem a1_26 : arr1B Try.prog 26 = some 32 := by kernel_rfl
theorem a1_34 : arr1B Try.prog 34 = some 16 := by kernel_rfl
theorem a1_47 : arr1B Try.prog 47 = some 8 := by kernel_rfl
theorem a1_60 : arr1B Try.prog 60 = some 64 := by kernel_rfl
theorem a1_63 : arr1B Try.prog 63 = some 64 := by kernel_rfl
theorem ag_26 : aggB Try.prog 26 = some 32 := by kernel_rfl
theorem ag_34 : aggB Try.prog 34 = some 16 := by kernel_rfl
theorem ag_47 : aggB Try.prog 47 = some 8 := by kernel_rfl
theorem ag_60 : aggB Try.prog 60 = some 64 := by kernel_rfl
theorem arp_26 : arrpB Try.prog 26 = some 32 := by kernel_rfl
theorem arp_47 : arrpB Try.prog 47 = some 8 := by kernel_rfl
theorem bB_52 : buildB Try.prog 52 = some (stC St.zero, [(0, 8), (8, 1), (9, 1)]) := by kernel_rfl
theorem ba_47 : buildaB Try.prog 47 = some [.int .u32 0, .int .u32 0, .int .u32 0, .int .u32 0, .int .u32 0, .int .u32 0, .int .u32 0, .int .u32 0] := by kernel_rfl
theorem ba_60 : buildaB Try.prog 60 = some [.int .u32 0, .int .u32 0, .int .u32 0, .int .u32 0, .int .u32 0, .int .u32 0, .int .u32 0, .int .u32 0, .int .u32 0, .int .u32 0, .int .u32 0, .int .u32 0, .int .u32 0, .int .u32 0, .int .u32 0, .int .u32 0, .int .u32 0, .int .u32 0, .int .u32 0, .int .u32 0, .int .u32 0, .int .u32 0, .int .u32 0, .int .u32 0, .int .u32 0, .int .u32 0, .int .u32 0, .int .u32 0, .int .u32 0, .int .u32 0, .int .u32 0, .int .u32 0, .int .u32 0, .int .u32 0, .int .u32 0, .int .u32 0, .int .u32 0, .int .u32 0, .int .u32 0, .int .u32 0, .int .u32 0, .int .u32 0, .int .u32 0, .int .u32 0, .int .u32 0, .int .u32 0, .int .u32 0, .int .u32 0, .int .u32 0, .int .u32 0, .int .u32 0, .int .u32 0, .int .u32 0, .int .u32 0, .int .u32 0, .int .u32 0, .int .u32 0, .int .u32 0, .int .u32 0, .int .u32 0, .int .u32 0, .int .u32 0, .int .u32 0, .int .u32 0] := by kernel_rfl
theorem cb_12 : callB Try.prog 12 = true := by kernel_rfl
theorem cb_13 : callB Try.prog 13 = true := by kernel_rfl
theorem cb_14 : callB Try.prog 14 = true := by kernel_rfl
theorem cb_15 : callB Try.prog 15 = true := by kernel_rfl
theorem cb_16 : callB Try.prog 16 = true := by kernel_rfl
theorem cb_17 : callB Try.prog 17 = true := by kernel_rfl
theorem cb_18 : callB Try.prog 18 = true := by kernel_rfl
theorem cb_19 : callB Try.prog 19 = true := by kernel_rfl
theorem cb_20 : callB Try.prog 20 = true := by kernel_rfl
theorem cb_21 : callB Try.prog 21 = true := by kernel_rfl
theorem cb_22 : callB Try.prog 22 = true := by kernel_rfl
theorem cb_23 : callB Try.prog 23 = true := by kernel_rfl
theorem cb_24 : callB Try.prog 24 = true := by kernel_rfl
theorem cb_25 : callB Try.prog 25 = true := by kernel_rfl
theorem cb_26 : callB Try.prog 26 = true := by kernel_rfl
theorem cb_27 : callB Try.prog 27 = true := by kernel_rfl
theorem cb_28 : callB Try.prog 28 = true := by kernel_rfl
theorem cb_29 : callB Try.prog 29 = true := by kernel_rfl
theorem cb_30 : callB Try.prog 30 = true := by kernel_rfl
theorem cb_31 : callB Try.prog 31 = true := by kernel_rfl
theorem cb_32 : callB Try.prog 32 = true := by kernel_rfl
theorem cb_33 : callB Try.prog 33 = true := by kernel_rfl
theorem cb_34 : callB Try.prog 34 = true := by kernel_rfl
theorem cb_35 : callB Try.prog 35 = true := by kernel_rfl
theorem cb_36 : callB Try.prog 36 = true := by kernel_rfl
theorem cb_37 : callB Try.prog 37 = true := by kernel_rfl
theorem cb_38 : callB Try.prog 38 = true := by kernel_rfl
theorem cb_40 : callB Try.prog 40 = true := by kernel_rfl
theorem fld_52_0 : fieldB Try.prog 52 0 = some 0 := by kernel_rfl
theorem fld_52_1 : fieldB Try.prog 52 1 = some 8 := by kernel_rfl
theorem fld_52_2 : fieldB Try.prog 52 2 = some 9 := by kernel_rfl
theorem mx : Try.prog.follows .mixedOrders = true := by kernel_rfl
theorem rB_26 : rootB Try.prog 26 = true := by kernel_rfl
theorem s1_49 : slice1B Try.prog 49 = true := by kernel_rfl
theorem s1_68 : slice1B Try.prog 68 = true := by kernel_rfl
theorem sB_22 : sliceB Try.prog 22 = some (3, 1, 8) := by kernel_rfl
theorem sB_24 : sliceB Try.prog 24 = some (9, 1, 16) := by kernel_rfl
theorem sB_37 : sliceB Try.prog 37 = some (34, 16, 16) := by kernel_rfl
theorem sB_49 : sliceB Try.prog 49 = some (5, 1, 1) := by kernel_rfl
theorem sB_57 : sliceB Try.prog 57 = some (50, 1, 8) := by kernel_rfl
theorem sc_3 : scalarB Try.prog 3 = true := by kernel_rfl
theorem sc_46 : scalarB Try.prog 46 = true := by kernel_rfl
theorem sc_49 : scalarB Try.prog 49 = true := by kernel_rfl
theorem sc_5 : scalarB Try.prog 5 = true := by kernel_rfl
theorem sc_50 : scalarB Try.prog 50 = true := by kernel_rfl
theorem sc_9 : scalarB Try.prog 9 = true := by kernel_rfl
theorem sp_34 : s2apB Try.prog 34 = some 16 := by kernel_rfl
theorem tB_34 : bytesB Try.prog 34 16 = true := by kernel_rfl
theorem zB_26 : zeroB Try.prog 26 = some (.agg #[.int .u8 0, .int .u8 0, .int .u8 0, .int .u8 0, .int .u8 0, .int .u8 0, .int .u8 0, .int .u8 0, .int .u8 0, .int .u8 0, .int .u8 0, .int .u8 0, .int .u8 0, .int .u8 0, .int .u8 0, .int .u8 0, .int .u8 0, .int .u8 0, .int .u8 0, .int .u8 0, .int .u8 0, .int .u8 0, .int .u8 0, .int .u8 0, .int .u8 0, .int .u8 0, .int .u8 0, .int .u8 0, .int .u8 0, .int .u8 0, .int .u8 0, .int .u8 0]) := by kernel_rfl
theorem zB_34 : zeroB Try.prog 34 = some (.agg #[.int .u8 0, .int .u8 0, .int .u8 0, .int .u8 0, .int .u8 0, .int .u8 0, .int .u8 0, .int .u8 0, .int .u8 0, .int .u8 0, .int .u8 0, .int .u8 0, .int .u8 0, .int .u8 0, .int .u8 0, .int .u8 0]) := by kernel_rfl
theorem zB_47 : zeroB Try.prog 47 = some (.agg #[.int .u32 0, .int .u32 0, .int .u32 0, .int .u32 0, .int .u32 0, .int .u32 0, .int .u32 0, .int .u32 0]) := by kernel_rfl
theorem zB_60 : zeroB Try.prog 60 = some (.agg #[.int .u32 0, .int .u32 0, .int .u32 0, .int .u32 0, .int .u32 0, .int .u32 0, .int .u32 0, .int .u32 0, .int .u32 0, .int .u32 0, .int .u32 0, .int .u32 0, .int .u32 0, .int .u32 0, .int .u32 0, .int .u32 0, .int .u32 0, .int .u32 0, .int .u32 0, .int .u32 0, .int .u32 0, .int .u32 0, .int .u32 0, .int .u32 0, .int .u32 0, .int .u32 0, .int .u32 0, .int .u32 0, .int .u32 0, .int .u32 0, .int .u32 0, .int .u32 0, .int .u32 0, .int .u32 0, .int .u32 0, .int .u32 0, .int .u32 0, .int .u32 0, .int .u32 0, .int .u32 0, .int .u32 0, .int .u32 0, .int .u32 0, .int .u32 0, .int .u32 0, .int .u32 0, .int .u32 0, .int .u32 0, .int .u32 0, .int .u32 0, .int .u32 0, .int .u32 0, .int .u32 0, .int .u32 0, .int .u32 0, .int .u32 0, .int .u32 0, .int .u32 0, .int .u32 0, .int .u32 0, .int .u32 0, .int .u32 0, .int .u32 0, .int .u32 0]) := by kernel_rfl
theorem zB_63 : zeroB Try.prog 63 = some (.agg #[.int .u8 0, .int .u8 0, .int .u8 0, .int .u8 0, .int .u8 0, .int .u8 0, .int .u8 0, .int .u8 0, .int .u8 0, .int .u8 0, .int .u8 0, .int .u8 0, .int .u8 0, .int .u8 0, .int .u8 0, .int .u8 0, .int .u8 0, .int .u8 0, .int .u8 0, .int .u8 0, .int .u8 0, .int .u8 0, .int .u8 0, .int .u8 0, .int .u8 0, .int .u8 0, .int .u8 0, .int .u8 0, .int .u8 0, .int .u8 0, .int .u8 0, .int .u8 0, .int .u8 0, .int .u8 0, .int .u8 0, .int .u8 0, .int .u8 0, .int .u8 0, .int .u8 0, .int .u8 0, .int .u8 0, .int .u8 0, .int .u8 0, .int .u8 0, .int .u8 0, .int .u8 0, .int .u8 0, .int .u8 0, .int .u8 0, .int .u8 0, .int .u8 0, .int .u8 0, .int .u8 0, .int .u8 0, .int .u8 0, .int .u8 0, .int .u8 0, .int .u8 0, .int .u8 0, .int .u8 0, .int .u8 0, .int .u8 0, .int .u8 0, .int .u8 0]) := by kernel_rfl
theorem zBt_34 : zeroB Try.prog 34 = some (.agg (tagC Tag.zero).toArray) := by kernel_rfl
theorem zv_34 : (Try.prog.info? 34).bind (·.zero) = some (.agg #[.int .u8 0, .int .u8 0, .int .u8 0, .int .u8 0, .int .u8 0, .int .u8 0, .int .u8 0, .int .u8 0, .int .u8 0, .int .u8 0, .int .u8 0, .int .u8 0, .int .u8 0, .int .u8 0, .int .u8 0, .int .u8 0]) := by kernel_rfl
theorem zv_5 : (Try.prog.info? 5).bind (·.zero) = some (.int .u8 0) := by kernel_rfl
theorem zv_50 : (Try.prog.info? 50).bind (·.zero) = some (.int .u64 0) := by kernel_rfl
theorem zv_9 : (Try.prog.info? 9).bind (·.zero) = some (.string ⟨#[]⟩) := by kernel_rfl
end Go.SL

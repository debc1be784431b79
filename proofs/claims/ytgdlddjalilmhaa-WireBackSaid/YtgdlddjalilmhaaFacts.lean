import Derived.Test.YtgdlddjalilmhaaEnl
import Derived.Test.YtgdlddjalilmhaaProg
namespace Go.SL
open Go.Proofs
theorem a1_100 : arr1B Try.prog 100 = some 64 := by kernel_rfl
theorem a1_40 : arr1B Try.prog 40 = some 32 := by kernel_rfl
theorem a1_43 : arr1B Try.prog 43 = some 16 := by kernel_rfl
theorem a1_91 : arr1B Try.prog 91 = some 8 := by kernel_rfl
theorem ag_100 : aggB Try.prog 100 = some 64 := by kernel_rfl
theorem ag_40 : aggB Try.prog 40 = some 32 := by kernel_rfl
theorem ag_43 : aggB Try.prog 43 = some 16 := by kernel_rfl
theorem ag_45 : aggB Try.prog 45 = some 53 := by kernel_rfl
theorem ag_60 : aggB Try.prog 60 = some 2 := by kernel_rfl
theorem ag_91 : aggB Try.prog 91 = some 8 := by kernel_rfl
theorem arp_91 : arrpB Try.prog 91 = some 8 := by kernel_rfl
theorem bB_45 : buildB Try.prog 45 = some (msgC Msg.zero, [(0, 1), (1, 1), (2, 32), (34, 1), (35, 1), (36, 1), (37, 16)]) := by kernel_rfl
theorem bB_75 : buildB Try.prog 75 = some ([.string ⟨#[]⟩, .int .i64 0, .bool false], [(0, 1), (1, 1), (2, 1)]) := by kernel_rfl
theorem bB_86 : buildB Try.prog 86 = some ([.string ⟨#[]⟩, .bool false], [(0, 1), (1, 1)]) := by kernel_rfl
theorem bB_94 : buildB Try.prog 94 = some (stC St.zero, [(0, 8), (8, 1), (9, 1)]) := by kernel_rfl
theorem ba_100 : buildaB Try.prog 100 = some [.int .u32 0, .int .u32 0, .int .u32 0, .int .u32 0, .int .u32 0, .int .u32 0, .int .u32 0, .int .u32 0, .int .u32 0, .int .u32 0, .int .u32 0, .int .u32 0, .int .u32 0, .int .u32 0, .int .u32 0, .int .u32 0, .int .u32 0, .int .u32 0, .int .u32 0, .int .u32 0, .int .u32 0, .int .u32 0, .int .u32 0, .int .u32 0, .int .u32 0, .int .u32 0, .int .u32 0, .int .u32 0, .int .u32 0, .int .u32 0, .int .u32 0, .int .u32 0, .int .u32 0, .int .u32 0, .int .u32 0, .int .u32 0, .int .u32 0, .int .u32 0, .int .u32 0, .int .u32 0, .int .u32 0, .int .u32 0, .int .u32 0, .int .u32 0, .int .u32 0, .int .u32 0, .int .u32 0, .int .u32 0, .int .u32 0, .int .u32 0, .int .u32 0, .int .u32 0, .int .u32 0, .int .u32 0, .int .u32 0, .int .u32 0, .int .u32 0, .int .u32 0, .int .u32 0, .int .u32 0, .int .u32 0, .int .u32 0, .int .u32 0, .int .u32 0] := by kernel_rfl
theorem ba_91 : buildaB Try.prog 91 = some [.int .u32 0, .int .u32 0, .int .u32 0, .int .u32 0, .int .u32 0, .int .u32 0, .int .u32 0, .int .u32 0] := by kernel_rfl
theorem cb_24 : callB Try.prog 24 = true := by kernel_rfl
theorem cb_25 : callB Try.prog 25 = true := by kernel_rfl
theorem cb_26 : callB Try.prog 26 = true := by kernel_rfl
theorem cb_27 : callB Try.prog 27 = true := by kernel_rfl
theorem cb_28 : callB Try.prog 28 = true := by kernel_rfl
theorem cb_29 : callB Try.prog 29 = true := by kernel_rfl
theorem cb_30 : callB Try.prog 30 = true := by kernel_rfl
theorem cb_31 : callB Try.prog 31 = true := by kernel_rfl
theorem cb_35 : callB Try.prog 35 = true := by kernel_rfl
theorem cb_36 : callB Try.prog 36 = true := by kernel_rfl
theorem cb_37 : callB Try.prog 37 = true := by kernel_rfl
theorem cb_38 : callB Try.prog 38 = true := by kernel_rfl
theorem cb_39 : callB Try.prog 39 = true := by kernel_rfl
theorem cb_40 : callB Try.prog 40 = true := by kernel_rfl
theorem cb_41 : callB Try.prog 41 = true := by kernel_rfl
theorem cb_42 : callB Try.prog 42 = true := by kernel_rfl
theorem cb_44 : callB Try.prog 44 = true := by kernel_rfl
theorem cb_45 : callB Try.prog 45 = true := by kernel_rfl
theorem cb_46 : callB Try.prog 46 = true := by kernel_rfl
theorem cb_47 : callB Try.prog 47 = true := by kernel_rfl
theorem cb_48 : callB Try.prog 48 = true := by kernel_rfl
theorem cb_49 : callB Try.prog 49 = true := by kernel_rfl
theorem cb_50 : callB Try.prog 50 = true := by kernel_rfl
theorem cb_51 : callB Try.prog 51 = true := by kernel_rfl
theorem cb_52 : callB Try.prog 52 = true := by kernel_rfl
theorem cb_53 : callB Try.prog 53 = true := by kernel_rfl
theorem cb_54 : callB Try.prog 54 = true := by kernel_rfl
theorem cb_55 : callB Try.prog 55 = true := by kernel_rfl
theorem cb_56 : callB Try.prog 56 = true := by kernel_rfl
theorem cb_57 : callB Try.prog 57 = true := by kernel_rfl
theorem cb_58 : callB Try.prog 58 = true := by kernel_rfl
theorem cb_59 : callB Try.prog 59 = true := by kernel_rfl
theorem cb_60 : callB Try.prog 60 = true := by kernel_rfl
theorem cb_61 : callB Try.prog 61 = true := by kernel_rfl
theorem cb_62 : callB Try.prog 62 = true := by kernel_rfl
theorem cb_63 : callB Try.prog 63 = true := by kernel_rfl
theorem cb_64 : callB Try.prog 64 = true := by kernel_rfl
theorem cb_65 : callB Try.prog 65 = true := by kernel_rfl
theorem cb_66 : callB Try.prog 66 = true := by kernel_rfl
theorem cb_67 : callB Try.prog 67 = true := by kernel_rfl
theorem cb_68 : callB Try.prog 68 = true := by kernel_rfl
theorem cb_69 : callB Try.prog 69 = true := by kernel_rfl
theorem cb_70 : callB Try.prog 70 = true := by kernel_rfl
theorem cb_71 : callB Try.prog 71 = true := by kernel_rfl
theorem cb_72 : callB Try.prog 72 = true := by kernel_rfl
theorem cb_73 : callB Try.prog 73 = true := by kernel_rfl
theorem cb_74 : callB Try.prog 74 = true := by kernel_rfl
theorem cb_75 : callB Try.prog 75 = true := by kernel_rfl
theorem cb_76 : callB Try.prog 76 = true := by kernel_rfl
theorem cb_78 : callB Try.prog 78 = true := by kernel_rfl
theorem fld_24_0 : fieldB Try.prog 24 0 = some 0 := by kernel_rfl
theorem fld_45_0 : fieldB Try.prog 45 0 = some 0 := by kernel_rfl
theorem fld_45_1 : fieldB Try.prog 45 1 = some 1 := by kernel_rfl
theorem fld_45_2 : fieldB Try.prog 45 2 = some 2 := by kernel_rfl
theorem fld_45_3 : fieldB Try.prog 45 3 = some 34 := by kernel_rfl
theorem fld_45_4 : fieldB Try.prog 45 4 = some 35 := by kernel_rfl
theorem fld_45_5 : fieldB Try.prog 45 5 = some 36 := by kernel_rfl
theorem fld_45_6 : fieldB Try.prog 45 6 = some 37 := by kernel_rfl
theorem fld_60_0 : fieldB Try.prog 60 0 = some 0 := by kernel_rfl
theorem fld_60_1 : fieldB Try.prog 60 1 = some 1 := by kernel_rfl
theorem fld_75_0 : fieldB Try.prog 75 0 = some 0 := by kernel_rfl
theorem fld_75_1 : fieldB Try.prog 75 1 = some 1 := by kernel_rfl
theorem fld_75_2 : fieldB Try.prog 75 2 = some 2 := by kernel_rfl
theorem fld_86_0 : fieldB Try.prog 86 0 = some 0 := by kernel_rfl
theorem fld_86_1 : fieldB Try.prog 86 1 = some 1 := by kernel_rfl
theorem fld_94_0 : fieldB Try.prog 94 0 = some 0 := by kernel_rfl
theorem fld_94_1 : fieldB Try.prog 94 1 = some 8 := by kernel_rfl
theorem fld_94_2 : fieldB Try.prog 94 2 = some 9 := by kernel_rfl
theorem mx : Try.prog.follows .mixedOrders = true := by kernel_rfl
theorem rB_40 : rootB Try.prog 40 = true := by kernel_rfl
theorem s1_107 : slice1B Try.prog 107 = true := by kernel_rfl
theorem s1_55 : slice1B Try.prog 55 = true := by kernel_rfl
theorem sB_22 : sliceB Try.prog 22 = some (60, 2, 24) := by kernel_rfl
theorem sB_35 : sliceB Try.prog 35 = some (3, 1, 8) := by kernel_rfl
theorem sB_41 : sliceB Try.prog 41 = some (4, 1, 1) := by kernel_rfl
theorem sB_55 : sliceB Try.prog 55 = some (5, 1, 1) := by kernel_rfl
theorem sB_88 : sliceB Try.prog 88 = some (9, 1, 16) := by kernel_rfl
theorem sB_97 : sliceB Try.prog 97 = some (32, 1, 8) := by kernel_rfl
theorem sc_22 : scalarB Try.prog 22 = true := by kernel_rfl
theorem sc_3 : scalarB Try.prog 3 = true := by kernel_rfl
theorem sc_32 : scalarB Try.prog 32 = true := by kernel_rfl
theorem sc_4 : scalarB Try.prog 4 = true := by kernel_rfl
theorem sc_41 : scalarB Try.prog 41 = true := by kernel_rfl
theorem sc_5 : scalarB Try.prog 5 = true := by kernel_rfl
theorem sc_55 : scalarB Try.prog 55 = true := by kernel_rfl
theorem sc_9 : scalarB Try.prog 9 = true := by kernel_rfl
theorem sc_90 : scalarB Try.prog 90 = true := by kernel_rfl
theorem tB_43 : bytesB Try.prog 43 16 = true := by kernel_rfl
theorem zB_100 : zeroB Try.prog 100 = some (.agg #[.int .u32 0, .int .u32 0, .int .u32 0, .int .u32 0, .int .u32 0, .int .u32 0, .int .u32 0, .int .u32 0, .int .u32 0, .int .u32 0, .int .u32 0, .int .u32 0, .int .u32 0, .int .u32 0, .int .u32 0, .int .u32 0, .int .u32 0, .int .u32 0, .int .u32 0, .int .u32 0, .int .u32 0, .int .u32 0, .int .u32 0, .int .u32 0, .int .u32 0, .int .u32 0, .int .u32 0, .int .u32 0, .int .u32 0, .int .u32 0, .int .u32 0, .int .u32 0, .int .u32 0, .int .u32 0, .int .u32 0, .int .u32 0, .int .u32 0, .int .u32 0, .int .u32 0, .int .u32 0, .int .u32 0, .int .u32 0, .int .u32 0, .int .u32 0, .int .u32 0, .int .u32 0, .int .u32 0, .int .u32 0, .int .u32 0, .int .u32 0, .int .u32 0, .int .u32 0, .int .u32 0, .int .u32 0, .int .u32 0, .int .u32 0, .int .u32 0, .int .u32 0, .int .u32 0, .int .u32 0, .int .u32 0, .int .u32 0, .int .u32 0, .int .u32 0]) := by kernel_rfl
theorem zB_40 : zeroB Try.prog 40 = some (.agg #[.int .u8 0, .int .u8 0, .int .u8 0, .int .u8 0, .int .u8 0, .int .u8 0, .int .u8 0, .int .u8 0, .int .u8 0, .int .u8 0, .int .u8 0, .int .u8 0, .int .u8 0, .int .u8 0, .int .u8 0, .int .u8 0, .int .u8 0, .int .u8 0, .int .u8 0, .int .u8 0, .int .u8 0, .int .u8 0, .int .u8 0, .int .u8 0, .int .u8 0, .int .u8 0, .int .u8 0, .int .u8 0, .int .u8 0, .int .u8 0, .int .u8 0, .int .u8 0]) := by kernel_rfl
theorem zB_45 : zeroB Try.prog 45 = some (.agg #[.int .i64 0, .int .i64 0, .int .u8 0, .int .u8 0, .int .u8 0, .int .u8 0, .int .u8 0, .int .u8 0, .int .u8 0, .int .u8 0, .int .u8 0, .int .u8 0, .int .u8 0, .int .u8 0, .int .u8 0, .int .u8 0, .int .u8 0, .int .u8 0, .int .u8 0, .int .u8 0, .int .u8 0, .int .u8 0, .int .u8 0, .int .u8 0, .int .u8 0, .int .u8 0, .int .u8 0, .int .u8 0, .int .u8 0, .int .u8 0, .int .u8 0, .int .u8 0, .int .u8 0, .int .u8 0, .int .i64 0, .int .u64 0, .slice none 0 0, .int .u8 0, .int .u8 0, .int .u8 0, .int .u8 0, .int .u8 0, .int .u8 0, .int .u8 0, .int .u8 0, .int .u8 0, .int .u8 0, .int .u8 0, .int .u8 0, .int .u8 0, .int .u8 0, .int .u8 0, .int .u8 0]) := by kernel_rfl
theorem zB_60 : zeroB Try.prog 60 = some (.agg #[.int .i64 0, .string ⟨#[]⟩]) := by kernel_rfl
theorem zB_91 : zeroB Try.prog 91 = some (.agg #[.int .u32 0, .int .u32 0, .int .u32 0, .int .u32 0, .int .u32 0, .int .u32 0, .int .u32 0, .int .u32 0]) := by kernel_rfl
theorem zv_3 : (Try.prog.info? 3).bind (·.zero) = some (.int .i64 0) := by kernel_rfl
theorem zv_32 : (Try.prog.info? 32).bind (·.zero) = some (.int .u64 0) := by kernel_rfl
theorem zv_4 : (Try.prog.info? 4).bind (·.zero) = some (.bool false) := by kernel_rfl
theorem zv_5 : (Try.prog.info? 5).bind (·.zero) = some (.int .u8 0) := by kernel_rfl
theorem zv_9 : (Try.prog.info? 9).bind (·.zero) = some (.string ⟨#[]⟩) := by kernel_rfl
end Go.SL

import Derived.Test.YtgdlddjalilmhaaEnl
import Derived.Test.YtgdlddjalilmhaaProg
namespace Go.SL
open Go.Proofs
theorem a1_100 : arr1B Try.prog 100 = some 64 := by kernel_rfl
theorem a1_40 : arr1B Try.prog 40 = some 32 := by kernel_rfl
theorem a1_91 : arr1B Try.prog 91 = some 8 := by kernel_rfl
theorem ag_100 : aggB Try.prog 100 = some 64 := by kernel_rfl
theorem ag_24 : aggB Try.prog 24 = some 12 := by kernel_rfl
theorem ag_40 : aggB Try.prog 40 = some 32 := by kernel_rfl
theorem ag_60 : aggB Try.prog 60 = some 2 := by kernel_rfl
theorem ag_91 : aggB Try.prog 91 = some 8 := by kernel_rfl
theorem arp_91 : arrpB Try.prog 91 = some 8 := by kernel_rfl
theorem bB_24 : buildB Try.prog 24 = some (cfgC Cfg.zero, [(0, 1), (1, 1), (2, 1), (3, 1), (4, 1), (5, 1), (6, 1), (7, 1), (8, 1), (9, 1), (10, 1), (11, 1)]) := by kernel_rfl
theorem bB_60 : buildB Try.prog 60 = some (valC Val.zero, [(0, 1), (1, 1)]) := by kernel_rfl
theorem bB_86 : buildB Try.prog 86 = some ([.string ⟨#[]⟩, .bool false], [(0, 1), (1, 1)]) := by kernel_rfl
theorem bB_94 : buildB Try.prog 94 = some (stC St.zero, [(0, 8), (8, 1), (9, 1)]) := by kernel_rfl
theorem ba_100 : buildaB Try.prog 100 = some [.int .u32 0, .int .u32 0, .int .u32 0, .int .u32 0, .int .u32 0, .int .u32 0, .int .u32 0, .int .u32 0, .int .u32 0, .int .u32 0, .int .u32 0, .int .u32 0, .int .u32 0, .int .u32 0, .int .u32 0, .int .u32 0, .int .u32 0, .int .u32 0, .int .u32 0, .int .u32 0, .int .u32 0, .int .u32 0, .int .u32 0, .int .u32 0, .int .u32 0, .int .u32 0, .int .u32 0, .int .u32 0, .int .u32 0, .int .u32 0, .int .u32 0, .int .u32 0, .int .u32 0, .int .u32 0, .int .u32 0, .int .u32 0, .int .u32 0, .int .u32 0, .int .u32 0, .int .u32 0, .int .u32 0, .int .u32 0, .int .u32 0, .int .u32 0, .int .u32 0, .int .u32 0, .int .u32 0, .int .u32 0, .int .u32 0, .int .u32 0, .int .u32 0, .int .u32 0, .int .u32 0, .int .u32 0, .int .u32 0, .int .u32 0, .int .u32 0, .int .u32 0, .int .u32 0, .int .u32 0, .int .u32 0, .int .u32 0, .int .u32 0, .int .u32 0] := by kernel_rfl
theorem ba_91 : buildaB Try.prog 91 = some [.int .u32 0, .int .u32 0, .int .u32 0, .int .u32 0, .int .u32 0, .int .u32 0, .int .u32 0, .int .u32 0] := by kernel_rfl
theorem cb_15 : callB Try.prog 15 = true := by kernel_rfl
theorem cb_16 : callB Try.prog 16 = true := by kernel_rfl
theorem cb_17 : callB Try.prog 17 = true := by kernel_rfl
theorem cb_18 : callB Try.prog 18 = true := by kernel_rfl
theorem cb_19 : callB Try.prog 19 = true := by kernel_rfl
theorem cb_20 : callB Try.prog 20 = true := by kernel_rfl
theorem cb_21 : callB Try.prog 21 = true := by kernel_rfl
theorem cb_22 : callB Try.prog 22 = true := by kernel_rfl
theorem cb_23 : callB Try.prog 23 = true := by kernel_rfl
theorem cb_32 : callB Try.prog 32 = true := by kernel_rfl
theorem cb_33 : callB Try.prog 33 = true := by kernel_rfl
theorem cb_34 : callB Try.prog 34 = true := by kernel_rfl
theorem cb_40 : callB Try.prog 40 = true := by kernel_rfl
theorem cb_41 : callB Try.prog 41 = true := by kernel_rfl
theorem cb_42 : callB Try.prog 42 = true := by kernel_rfl
theorem cb_43 : callB Try.prog 43 = true := by kernel_rfl
theorem cb_44 : callB Try.prog 44 = true := by kernel_rfl
theorem cb_47 : callB Try.prog 47 = true := by kernel_rfl
theorem cb_53 : callB Try.prog 53 = true := by kernel_rfl
theorem cb_57 : callB Try.prog 57 = true := by kernel_rfl
theorem cb_58 : callB Try.prog 58 = true := by kernel_rfl
theorem cb_59 : callB Try.prog 59 = true := by kernel_rfl
theorem cb_62 : callB Try.prog 62 = true := by kernel_rfl
theorem cb_64 : callB Try.prog 64 = true := by kernel_rfl
theorem cb_65 : callB Try.prog 65 = true := by kernel_rfl
theorem cb_66 : callB Try.prog 66 = true := by kernel_rfl
theorem cb_67 : callB Try.prog 67 = true := by kernel_rfl
theorem cb_68 : callB Try.prog 68 = true := by kernel_rfl
theorem cb_69 : callB Try.prog 69 = true := by kernel_rfl
theorem cb_70 : callB Try.prog 70 = true := by kernel_rfl
theorem cb_71 : callB Try.prog 71 = true := by kernel_rfl
theorem cb_72 : callB Try.prog 72 = true := by kernel_rfl
theorem cb_73 : callB Try.prog 73 = true := by kernel_rfl
theorem cb_74 : callB Try.prog 74 = true := by kernel_rfl
theorem cb_75 : callB Try.prog 75 = true := by kernel_rfl
theorem cb_76 : callB Try.prog 76 = true := by kernel_rfl
theorem cb_78 : callB Try.prog 78 = true := by kernel_rfl
theorem fld_24_0 : fieldB Try.prog 24 0 = some 0 := by kernel_rfl
theorem fld_24_1 : fieldB Try.prog 24 1 = some 1 := by kernel_rfl
theorem fld_24_10 : fieldB Try.prog 24 10 = some 10 := by kernel_rfl
theorem fld_24_11 : fieldB Try.prog 24 11 = some 11 := by kernel_rfl
theorem fld_24_2 : fieldB Try.prog 24 2 = some 2 := by kernel_rfl
theorem fld_24_3 : fieldB Try.prog 24 3 = some 3 := by kernel_rfl
theorem fld_24_4 : fieldB Try.prog 24 4 = some 4 := by kernel_rfl
theorem fld_24_5 : fieldB Try.prog 24 5 = some 5 := by kernel_rfl
theorem fld_24_6 : fieldB Try.prog 24 6 = some 6 := by kernel_rfl
theorem fld_24_7 : fieldB Try.prog 24 7 = some 7 := by kernel_rfl
theorem fld_24_8 : fieldB Try.prog 24 8 = some 8 := by kernel_rfl
theorem fld_24_9 : fieldB Try.prog 24 9 = some 9 := by kernel_rfl
theorem fld_60_0 : fieldB Try.prog 60 0 = some 0 := by kernel_rfl
theorem fld_60_1 : fieldB Try.prog 60 1 = some 1 := by kernel_rfl
theorem fld_75_0 : fieldB Try.prog 75 0 = some 0 := by kernel_rfl
theorem fld_75_1 : fieldB Try.prog 75 1 = some 1 := by kernel_rfl
theorem fld_75_2 : fieldB Try.prog 75 2 = some 2 := by kernel_rfl
theorem fld_86_0 : fieldB Try.prog 86 0 = some 0 := by kernel_rfl
theorem fld_86_1 : fieldB Try.prog 86 1 = some 1 := by kernel_rfl
theorem fld_94_0 : fieldB Try.prog 94 0 = some 0 := by kernel_rfl
theorem fld_94_1 : fieldB Try.prog 94 1 = some 8 := by kernel_rfl
theorem fld_94_2 : fieldB Try.prog 94 2 = some 9 := by kernel_rfl
theorem fs_60 : ((Try.prog.fieldsOf 60).toList.map fun f => (f.name, f.type, f.offset)) = [("Stake", 3, 0), ("Key", 9, 1)] := by kernel_rfl
theorem mx : Try.prog.follows .mixedOrders = true := by kernel_rfl
theorem rB_40 : rootB Try.prog 40 = true := by kernel_rfl
theorem s1_107 : slice1B Try.prog 107 = true := by kernel_rfl
theorem sB_22 : sliceB Try.prog 22 = some (60, 2, 24) := by kernel_rfl
theorem sB_35 : sliceB Try.prog 35 = some (3, 1, 8) := by kernel_rfl
theorem sB_37 : sliceB Try.prog 37 = some (36, 1, 8) := by kernel_rfl
theorem sB_41 : sliceB Try.prog 41 = some (4, 1, 1) := by kernel_rfl
theorem sB_55 : sliceB Try.prog 55 = some (5, 1, 1) := by kernel_rfl
theorem sB_88 : sliceB Try.prog 88 = some (9, 1, 16) := by kernel_rfl
theorem sB_97 : sliceB Try.prog 97 = some (32, 1, 8) := by kernel_rfl
theorem sc_22 : scalarB Try.prog 22 = true := by kernel_rfl
theorem sc_3 : scalarB Try.prog 3 = true := by kernel_rfl
theorem sc_32 : scalarB Try.prog 32 = true := by kernel_rfl
theorem sc_36 : scalarB Try.prog 36 = true := by kernel_rfl
theorem sc_4 : scalarB Try.prog 4 = true := by kernel_rfl
theorem sc_5 : scalarB Try.prog 5 = true := by kernel_rfl
theorem sc_55 : scalarB Try.prog 55 = true := by kernel_rfl
theorem sc_9 : scalarB Try.prog 9 = true := by kernel_rfl
theorem sc_90 : scalarB Try.prog 90 = true := by kernel_rfl
theorem stB_60 : structB Try.prog 60 = true := by kernel_rfl
theorem zB_100 : zeroB Try.prog 100 = some (.agg #[.int .u32 0, .int .u32 0, .int .u32 0, .int .u32 0, .int .u32 0, .int .u32 0, .int .u32 0, .int .u32 0, .int .u32 0, .int .u32 0, .int .u32 0, .int .u32 0, .int .u32 0, .int .u32 0, .int .u32 0, .int .u32 0, .int .u32 0, .int .u32 0, .int .u32 0, .int .u32 0, .int .u32 0, .int .u32 0, .int .u32 0, .int .u32 0, .int .u32 0, .int .u32 0, .int .u32 0, .int .u32 0, .int .u32 0, .int .u32 0, .int .u32 0, .int .u32 0, .int .u32 0, .int .u32 0, .int .u32 0, .int .u32 0, .int .u32 0, .int .u32 0, .int .u32 0, .int .u32 0, .int .u32 0, .int .u32 0, .int .u32 0, .int .u32 0, .int .u32 0, .int .u32 0, .int .u32 0, .int .u32 0, .int .u32 0, .int .u32 0, .int .u32 0, .int .u32 0, .int .u32 0, .int .u32 0, .int .u32 0, .int .u32 0, .int .u32 0, .int .u32 0, .int .u32 0, .int .u32 0, .int .u32 0, .int .u32 0, .int .u32 0, .int .u32 0]) := by kernel_rfl
theorem zB_24 : zeroB Try.prog 24 = some (.agg #[.slice none 0 0, .int .i64 0, .int .i64 0, .int .i64 0, .int .i64 0, .int .i64 0, .int .i64 0, .int .i64 0, .int .i64 0, .int .i64 0, .int .i64 0, .int .i64 0]) := by kernel_rfl
theorem zB_40 : zeroB Try.prog 40 = some (.agg #[.int .u8 0, .int .u8 0, .int .u8 0, .int .u8 0, .int .u8 0, .int .u8 0, .int .u8 0, .int .u8 0, .int .u8 0, .int .u8 0, .int .u8 0, .int .u8 0, .int .u8 0, .int .u8 0, .int .u8 0, .int .u8 0, .int .u8 0, .int .u8 0, .int .u8 0, .int .u8 0, .int .u8 0, .int .u8 0, .int .u8 0, .int .u8 0, .int .u8 0, .int .u8 0, .int .u8 0, .int .u8 0, .int .u8 0, .int .u8 0, .int .u8 0, .int .u8 0]) := by kernel_rfl
theorem zB_60 : zeroB Try.prog 60 = some (.agg #[.int .i64 0, .string ⟨#[]⟩]) := by kernel_rfl
theorem zB_91 : zeroB Try.prog 91 = some (.agg #[.int .u32 0, .int .u32 0, .int .u32 0, .int .u32 0, .int .u32 0, .int .u32 0, .int .u32 0, .int .u32 0]) := by kernel_rfl
theorem zv_3 : (Try.prog.info? 3).bind (·.zero) = some (.int .i64 0) := by kernel_rfl
theorem zv_32 : (Try.prog.info? 32).bind (·.zero) = some (.int .u64 0) := by kernel_rfl
theorem zv_36 : (Try.prog.info? 36).bind (·.zero) = some (.pointer none) := by kernel_rfl
theorem zv_4 : (Try.prog.info? 4).bind (·.zero) = some (.bool false) := by kernel_rfl
theorem zv_5 : (Try.prog.info? 5).bind (·.zero) = some (.int .u8 0) := by kernel_rfl
theorem zv_60 : (Try.prog.info? 60).bind (·.zero) = some (.agg #[.int .i64 0, .string ⟨#[]⟩]) := by kernel_rfl
theorem zv_9 : (Try.prog.info? 9).bind (·.zero) = some (.string ⟨#[]⟩) := by kernel_rfl
end Go.SL

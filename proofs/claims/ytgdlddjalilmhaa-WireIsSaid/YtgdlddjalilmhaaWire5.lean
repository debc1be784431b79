import Derived.Test.YtgdlddjalilmhaaWire3
import Derived.Test.YtgdlddjalilmhaaRef3
import Derived.Test.YtgdlddjalilmhaaBitRef
set_option linter.unusedVariables false
set_option linter.unusedSimpArgs false
namespace Go.SL
open Go.Proofs

set_option maxRecDepth 100000 in
set_option maxHeartbeats 1000000 in
theorem wtext_calls {w0 w : World} {l : List HProp} (ao : Option Addr) (c : Nat) (bs : List UInt8) (hs : Sat w0 w (l)) (hr : Rds w0 l encU8 ao bs) :
    Calls Try.prog 60 #[.slice ao bs.length c] w (Ret w0 fun v l' => v = .string (B bs) ∧ l' = l) := by
  refine calls_enter Try.func60 rfl rfl rfl hs ?_
  refine cd_sr ?_   -- 0
  refine ol_q (wn_none rfl) (op_assign (v := .string _) rfl) rfl ?_
  refine ol_nil_then ?_
  refine cd_sr ?_   -- 1
  refine ol_q (wn_none rfl) (op_move (v := .slice _ _ _) rfl) rfl ?_
  refine ol_q (wn_none rfl) (op_b2s sB_55 Try.underlying5 Try.underlying9 rfl hr rfl) rfl ?_
  refine ol_q (wn_none rfl) (op_assign (v := .string _) rfl) rfl ?_
  refine ol_nil_then ?_
  refine cd_ret ?_
  exact px_ret1 rfl (v := .string _) rfl (fun _ s => s) ⟨rfl, rfl⟩

set_option maxRecDepth 100000 in
set_option maxHeartbeats 1000000 in
theorem WRPlain_calls {w0 w : World} {l : List HProp} (k sl : Int) (tg : Root) (mb : Int) (bd : Nat) (bo : Option Addr) (bc : Nat) (bits : List Bool) (tag : Tag) (hs : Sat w0 w (l)) (hr : Rds w0 l encBool bo bits) (hxl : bits.length ≤ 1000) (hbd : bd < 18446744073709551616) (hg9 : goodW k sl mb bd bits = true) :
    Calls Try.prog 37 #[.agg (msgC ⟨k, sl, tg, mb, bd, ⟨bo, bits.length, bc⟩, tag⟩).toArray] w (Ret w0 fun v l' => v = .string (B (plainW k sl tg mb bd bits)) ∧ l' = l) := by
  have hu0 := u64N_lt k
  have hu1 := u64N_lt sl
  have hu2 := u64N_lt mb
  obtain ⟨hk1, hk2⟩ := goodW_k hg9
  have hby := byte1 hk1 hk2
  have hg := goodW_iff.1 hg9
  have hel := enc8_length bits
  have htl := root_len tg
  refine calls_enter Try.func37 rfl rfl rfl hs ?_
  refine cd_sr ?_   -- 0
  refine ol_i (wn_none rfl) (os_boxa rfl) rfl ?_; rintro _ _ ⟨bx1, rfl, rfl⟩
  refine ol_q (wn_none rfl) (op_assign (v := .string _) rfl) rfl ?_
  refine ol_nil_then ?_
  refine cd_seq ?_   -- 1
  refine cd_drawe (M := []) mx [3, 7, 9, 12, 13] ?_
  -- 0
  refine et_quiet 0 (by kernel_rfl) rfl (by kernel_rfl) (wn_none rfl) (op_field fld_45_0 rfl) rfl ?_
  -- 1
  refine et_quiet 1 (by kernel_rfl) rfl (by kernel_rfl) (wn_none rfl) (op_ld 0 sc_3 rfl rfl (show (msgC _).toArray[0]? = some (.int .i64 k) from msgC_a0 _)) rfl ?_
  -- 2
  refine et_quiet 2 (by kernel_rfl) rfl (by kernel_rfl) (wn_none rfl) (op_conv64i Try.underlying32 (by rw [Try.underlying3]; rfl) rfl) rfl ?_
  -- 4
  refine et_quiet 4 (by kernel_rfl) rfl (by kernel_rfl) (wn_none rfl) (op_field fld_45_1 rfl) rfl ?_
  -- 5
  refine et_quiet 5 (by kernel_rfl) rfl (by kernel_rfl) (wn_none rfl) (op_ld 0 sc_3 rfl rfl (show (msgC _).toArray[1]? = some (.int .i64 sl) from msgC_a1 _)) rfl ?_
  -- 6
  refine et_quiet 6 (by kernel_rfl) rfl (by kernel_rfl) (wn_none rfl) (op_conv64i Try.underlying32 (by rw [Try.underlying3]; rfl) rfl) rfl ?_
  -- 10
  refine et_quiet 10 (by kernel_rfl) rfl (by kernel_rfl) (wn_none rfl) (op_field fld_45_2 rfl) rfl ?_
  -- 11
  refine et_quiet 11 (by kernel_rfl) rfl (by kernel_rfl) (wn_none rfl) (op_slicea_all a1_40 rfl) rfl ?_
  refine et_2 (i1 := 3) (i2 := 9) (by kernel_rfl) ?_ ?_
  · -- 3
    refine ei_i rfl rfl (wn_none rfl) (os_call cb_57 rfl (fun w s => RPut_calls (wd := 1) _ _  s (show clamp8 1 = 1 from rfl) (by omega))) rfl ?_; rintro _ l ⟨rfl, rfl⟩; refine ⟨[], rfl, ?_⟩
    refine et_2 (i1 := 7) (i2 := 9) (by kernel_rfl) ?_ ?_
    · -- 7
      refine ei_i rfl rfl (wn_none rfl) (os_call cb_57 rfl (fun w s => RPut_calls (wd := 4) _ _  s (show clamp8 4 = 4 from rfl) (by omega))) rfl ?_; rintro _ l ⟨rfl, rfl⟩; refine ⟨[], rfl, ?_⟩
      -- 8
      refine et_quiet 8 (by kernel_rfl) rfl (by kernel_rfl) (wn_none rfl) (op_sadd rfl rfl (by rw [putB_length, putB_length]; omega)) rfl ?_
      refine et_1 (i := 9) (by kernel_rfl) ?_
      refine ei_i rfl rfl (wn_none rfl) (os_bslice (E := encU8) [] (ys := ([] : List UInt8)) sB_55 zv_5 rfl rfl rfl rfl (by decide)) rfl ?_; rintro _ _ ⟨ao1, rfl, rfl⟩; refine ⟨[_], rfl, ?_⟩
      refine et_1 (i := 12) (by kernel_rfl) ?_
      refine ei_i rfl rfl (wn_none rfl) (os_append (E := encU8) rfl sB_55 zv_5 rfl rfl rfl (fun w s => (rds_fld 1 2 32 rfl (msgC_af2 _)) [] w s) (root_len _) (by simp) (by unfold maxLen; simp)) rfl ?_; rintro _ _ ⟨ao2, ac2, rfl, rfl⟩; refine ⟨[_], rfl, ?_⟩
      refine et_1 (i := 13) (by kernel_rfl) ?_
      refine ei_i rfl rfl (wn_none rfl) (os_call cb_60 rfl (fun w s => wtext_calls _ _ _  s (rds_row 0 rfl rfl))) rfl ?_; rintro _ l ⟨rfl, rfl⟩; refine ⟨[_], rfl, ?_⟩
      -- 14
      refine et_quiet 14 (by kernel_rfl) rfl (by kernel_rfl) (wn_none rfl) (op_sadd rfl rfl (by simp [putB_length, htl])) rfl ?_
      -- 15
      refine et_quiet 15 (by kernel_rfl) rfl (by kernel_rfl) (wn_none rfl) (op_assign (v := .string _) rfl) rfl ?_
      refine et_nil_then (by kernel_rfl) ?_
      refine cd_seq ?_
      refine cd_sr ?_   -- 2
      refine ol_q (wn_none rfl) (op_field fld_45_0 rfl) rfl ?_
      refine ol_q (wn_none rfl) (op_ld 1 sc_3 rfl rfl (show (msgC _).toArray[0]? = some (.int .i64 k) from msgC_a0 _)) rfl ?_
      refine ol_q (wn_none rfl) (op_eq rfl rfl) rfl ?_
      refine ol_nil_then ?_
      refine cd_cond rfl (fun hb1 => ?_) (fun hb1 => ?_)
      · have hp1 := hb1
        (try simp only [decide_eq_true_eq, decide_eq_false_iff_not, Bool.not_eq_true', Bool.not_eq_false', ne_eq, Decidable.not_not] at hp1)
        obtain rfl : k = 3 := by omega
        refine cd_sr ?_   -- 3
        refine ol_q (wn_none rfl) (op_move (v := .string _) rfl) rfl ?_
        refine ol_q (wn_none rfl) (op_field fld_45_5 rfl) rfl ?_
        refine ol_q (wn_none rfl) (op_ld 1 sc_41 rfl rfl (show (msgC _).toArray[36]? = some (.slice bo bits.length bc) from msgC_a36 _)) rfl ?_
        refine ol_i (wn_none rfl) (os_call cb_61 rfl (fun w s => RefBytes_calls _ _ _  s ((hr.cons _).cons _) (by omega))) rfl ?_; rintro _ l ⟨rfl, rfl⟩
        refine ol_q (wn_none rfl) (op_sadd rfl rfl (by simp [putB_length, htl]; omega)) rfl ?_
        refine ol_q (wn_none rfl) (op_assign (v := .string _) rfl) rfl ?_
        refine ol_nil_then ?_
        refine cd_ret ?_
        refine px_thenR ?_
        exact px_ret1 rfl (v := .string _) rfl (fun _ s => ((s.del 1).del 0)) ⟨by unfold plainW bodyW; rw [hby]; simp [List.append_assoc], rfl⟩
      · have hp1 := hb1
        (try simp only [decide_eq_true_eq, decide_eq_false_iff_not, Bool.not_eq_true', Bool.not_eq_false', ne_eq, Decidable.not_not] at hp1)
        have hk3 : k = 1 ∨ k = 2 := by omega
        refine cd_skip ?_
        refine px_then ?_
        refine cd_sr ?_   -- 4
        refine ol_q (wn_none rfl) (op_move (v := .string _) rfl) rfl ?_
        refine ol_q (wn_none rfl) (op_field fld_45_3 rfl) rfl ?_
        refine ol_q (wn_none rfl) (op_ld 1 sc_3 rfl rfl (show (msgC _).toArray[34]? = some (.int .i64 mb) from msgC_a34 _)) rfl ?_
        refine ol_q (wn_none rfl) (op_conv64i Try.underlying32 (by rw [Try.underlying3]; rfl) rfl) rfl ?_
        refine ol_i (wn_none rfl) (os_call cb_57 rfl (fun w s => RPut_calls (wd := 2) _ _  s (show clamp8 2 = 2 from rfl) (by omega))) rfl ?_; rintro _ l ⟨rfl, rfl⟩
        refine ol_q (wn_none rfl) (op_sadd rfl rfl (by simp [putB_length, htl])) rfl ?_
        refine ol_q (wn_none rfl) (op_assign (v := .string _) rfl) rfl ?_
        refine ol_nil_then ?_
        refine cd_seq ?_
        refine cd_sr ?_   -- 5
        refine ol_q (wn_none rfl) (op_field fld_45_0 rfl) rfl ?_
        refine ol_q (wn_none rfl) (op_ld 1 sc_3 rfl rfl (show (msgC _).toArray[0]? = some (.int .i64 k) from msgC_a0 _)) rfl ?_
        refine ol_q (wn_none rfl) (op_eq rfl rfl) rfl ?_
        refine ol_nil_then ?_
        refine cd_cond rfl (fun hb2 => ?_) (fun hb2 => ?_)
        · have hp2 := hb2
          (try simp only [decide_eq_true_eq, decide_eq_false_iff_not, Bool.not_eq_true', Bool.not_eq_false', ne_eq, Decidable.not_not] at hp2)
          obtain rfl : k = 1 := by omega
          refine cd_region ?_   -- 6
          refine ol_q (wn_none rfl) (op_move (v := .string _) rfl) rfl ?_
          refine ol_q (wn_none rfl) (op_field fld_45_4 rfl) rfl ?_
          refine ol_q (wn_none rfl) (op_ld 1 sc_32 rfl rfl (show (msgC _).toArray[35]? = some (.int .u64 (bd : Int)) from msgC_a35 _)) rfl ?_
          refine ol_i (wn_none rfl) (os_call cb_57 rfl (fun w s => RPut_calls (wd := 8) _ _  s (show clamp8 8 = 8 from rfl) (by omega))) rfl ?_; rintro _ l ⟨rfl, rfl⟩
          refine ol_q (wn_none rfl) (op_sadd rfl rfl (by simp [putB_length, htl])) rfl ?_
          refine ol_q (wn_none rfl) (op_assign (v := .string _) rfl) rfl ?_
          refine ol_nil ?_
          refine px_then ?_
          refine cd_sr ?_   -- 7
          refine ol_q (wn_none rfl) (op_move (v := .string _) rfl) rfl ?_
          refine ol_q (wn_none rfl) (op_assign (v := .string _) rfl) rfl ?_
          refine ol_nil_then ?_
          refine cd_ret ?_
          exact px_ret1 rfl (v := .string _) rfl (fun _ s => ((s.del 1).del 0)) ⟨by unfold plainW bodyW; rw [hby]; simp [List.append_assoc], rfl⟩
        · have hp2 := hb2
          (try simp only [decide_eq_true_eq, decide_eq_false_iff_not, Bool.not_eq_true', Bool.not_eq_false', ne_eq, Decidable.not_not] at hp2)
          obtain rfl : k = 2 := by omega
          refine cd_skip ?_
          refine px_then ?_
          refine cd_sr ?_   -- 7
          refine ol_q (wn_none rfl) (op_move (v := .string _) rfl) rfl ?_
          refine ol_q (wn_none rfl) (op_assign (v := .string _) rfl) rfl ?_
          refine ol_nil_then ?_
          refine cd_ret ?_
          exact px_ret1 rfl (v := .string _) rfl (fun _ s => ((s.del 1).del 0)) ⟨by unfold plainW bodyW; rw [hby]; simp [List.append_assoc], rfl⟩
    · -- 9
      refine ei_i rfl rfl (wn_none rfl) (os_bslice (E := encU8) [] (ys := ([] : List UInt8)) sB_55 zv_5 rfl rfl rfl rfl (by decide)) rfl ?_; rintro _ _ ⟨ao3, rfl, rfl⟩; refine ⟨[_], rfl, ?_⟩
      refine et_1 (i := 7) (by kernel_rfl) ?_
      refine ei_i rfl rfl (wn_none rfl) (os_call cb_57 rfl (fun w s => RPut_calls (wd := 4) _ _  s (show clamp8 4 = 4 from rfl) (by omega))) rfl ?_; rintro _ l ⟨rfl, rfl⟩; refine ⟨[_], rfl, ?_⟩
      -- 8
      refine et_quiet 8 (by kernel_rfl) rfl (by kernel_rfl) (wn_none rfl) (op_sadd rfl rfl (by rw [putB_length, putB_length]; omega)) rfl ?_
      refine et_1 (i := 12) (by kernel_rfl) ?_
      refine ei_i rfl rfl (wn_none rfl) (os_append (E := encU8) rfl sB_55 zv_5 rfl rfl rfl (fun w s => (rds_fld 1 2 32 rfl (msgC_af2 _)) [] w s) (root_len _) (by simp) (by unfold maxLen; simp)) rfl ?_; rintro _ _ ⟨ao4, ac4, rfl, rfl⟩; refine ⟨[_], rfl, ?_⟩
      refine et_1 (i := 13) (by kernel_rfl) ?_
      refine ei_i rfl rfl (wn_none rfl) (os_call cb_60 rfl (fun w s => wtext_calls _ _ _  s (rds_row 0 rfl rfl))) rfl ?_; rintro _ l ⟨rfl, rfl⟩; refine ⟨[_], rfl, ?_⟩
      -- 14
      refine et_quiet 14 (by kernel_rfl) rfl (by kernel_rfl) (wn_none rfl) (op_sadd rfl rfl (by simp [putB_length, htl])) rfl ?_
      -- 15
      refine et_quiet 15 (by kernel_rfl) rfl (by kernel_rfl) (wn_none rfl) (op_assign (v := .string _) rfl) rfl ?_
      refine et_nil_then (by kernel_rfl) ?_
      refine cd_seq ?_
      refine cd_sr ?_   -- 2
      refine ol_q (wn_none rfl) (op_field fld_45_0 rfl) rfl ?_
      refine ol_q (wn_none rfl) (op_ld 1 sc_3 rfl rfl (show (msgC _).toArray[0]? = some (.int .i64 k) from msgC_a0 _)) rfl ?_
      refine ol_q (wn_none rfl) (op_eq rfl rfl) rfl ?_
      refine ol_nil_then ?_
      refine cd_cond rfl (fun hb3 => ?_) (fun hb3 => ?_)
      · have hp3 := hb3
        (try simp only [decide_eq_true_eq, decide_eq_false_iff_not, Bool.not_eq_true', Bool.not_eq_false', ne_eq, Decidable.not_not] at hp3)
        obtain rfl : k = 3 := by omega
        refine cd_sr ?_   -- 3
        refine ol_q (wn_none rfl) (op_move (v := .string _) rfl) rfl ?_
        refine ol_q (wn_none rfl) (op_field fld_45_5 rfl) rfl ?_
        refine ol_q (wn_none rfl) (op_ld 1 sc_41 rfl rfl (show (msgC _).toArray[36]? = some (.slice bo bits.length bc) from msgC_a36 _)) rfl ?_
        refine ol_i (wn_none rfl) (os_call cb_61 rfl (fun w s => RefBytes_calls _ _ _  s ((hr.cons _).cons _) (by omega))) rfl ?_; rintro _ l ⟨rfl, rfl⟩
        refine ol_q (wn_none rfl) (op_sadd rfl rfl (by simp [putB_length, htl]; omega)) rfl ?_
        refine ol_q (wn_none rfl) (op_assign (v := .string _) rfl) rfl ?_
        refine ol_nil_then ?_
        refine cd_ret ?_
        refine px_thenR ?_
        exact px_ret1 rfl (v := .string _) rfl (fun _ s => ((s.del 1).del 0)) ⟨by unfold plainW bodyW; rw [hby]; simp [List.append_assoc], rfl⟩
      · have hp3 := hb3
        (try simp only [decide_eq_true_eq, decide_eq_false_iff_not, Bool.not_eq_true', Bool.not_eq_false', ne_eq, Decidable.not_not] at hp3)
        have hk3 : k = 1 ∨ k = 2 := by omega
        refine cd_skip ?_
        refine px_then ?_
        refine cd_sr ?_   -- 4
        refine ol_q (wn_none rfl) (op_move (v := .string _) rfl) rfl ?_
        refine ol_q (wn_none rfl) (op_field fld_45_3 rfl) rfl ?_
        refine ol_q (wn_none rfl) (op_ld 1 sc_3 rfl rfl (show (msgC _).toArray[34]? = some (.int .i64 mb) from msgC_a34 _)) rfl ?_
        refine ol_q (wn_none rfl) (op_conv64i Try.underlying32 (by rw [Try.underlying3]; rfl) rfl) rfl ?_
        refine ol_i (wn_none rfl) (os_call cb_57 rfl (fun w s => RPut_calls (wd := 2) _ _  s (show clamp8 2 = 2 from rfl) (by omega))) rfl ?_; rintro _ l ⟨rfl, rfl⟩
        refine ol_q (wn_none rfl) (op_sadd rfl rfl (by simp [putB_length, htl])) rfl ?_
        refine ol_q (wn_none rfl) (op_assign (v := .string _) rfl) rfl ?_
        refine ol_nil_then ?_
        refine cd_seq ?_
        refine cd_sr ?_   -- 5
        refine ol_q (wn_none rfl) (op_field fld_45_0 rfl) rfl ?_
        refine ol_q (wn_none rfl) (op_ld 1 sc_3 rfl rfl (show (msgC _).toArray[0]? = some (.int .i64 k) from msgC_a0 _)) rfl ?_
        refine ol_q (wn_none rfl) (op_eq rfl rfl) rfl ?_
        refine ol_nil_then ?_
        refine cd_cond rfl (fun hb4 => ?_) (fun hb4 => ?_)
        · have hp4 := hb4
          (try simp only [decide_eq_true_eq, decide_eq_false_iff_not, Bool.not_eq_true', Bool.not_eq_false', ne_eq, Decidable.not_not] at hp4)
          obtain rfl : k = 1 := by omega
          refine cd_region ?_   -- 6
          refine ol_q (wn_none rfl) (op_move (v := .string _) rfl) rfl ?_
          refine ol_q (wn_none rfl) (op_field fld_45_4 rfl) rfl ?_
          refine ol_q (wn_none rfl) (op_ld 1 sc_32 rfl rfl (show (msgC _).toArray[35]? = some (.int .u64 (bd : Int)) from msgC_a35 _)) rfl ?_
          refine ol_i (wn_none rfl) (os_call cb_57 rfl (fun w s => RPut_calls (wd := 8) _ _  s (show clamp8 8 = 8 from rfl) (by omega))) rfl ?_; rintro _ l ⟨rfl, rfl⟩
          refine ol_q (wn_none rfl) (op_sadd rfl rfl (by simp [putB_length, htl])) rfl ?_
          refine ol_q (wn_none rfl) (op_assign (v := .string _) rfl) rfl ?_
          refine ol_nil ?_
          refine px_then ?_
          refine cd_sr ?_   -- 7
          refine ol_q (wn_none rfl) (op_move (v := .string _) rfl) rfl ?_
          refine ol_q (wn_none rfl) (op_assign (v := .string _) rfl) rfl ?_
          refine ol_nil_then ?_
          refine cd_ret ?_
          exact px_ret1 rfl (v := .string _) rfl (fun _ s => ((s.del 1).del 0)) ⟨by unfold plainW bodyW; rw [hby]; simp [List.append_assoc], rfl⟩
        · have hp4 := hb4
          (try simp only [decide_eq_true_eq, decide_eq_false_iff_not, Bool.not_eq_true', Bool.not_eq_false', ne_eq, Decidable.not_not] at hp4)
          obtain rfl : k = 2 := by omega
          refine cd_skip ?_
          refine px_then ?_
          refine cd_sr ?_   -- 7
          refine ol_q (wn_none rfl) (op_move (v := .string _) rfl) rfl ?_
          refine ol_q (wn_none rfl) (op_assign (v := .string _) rfl) rfl ?_
          refine ol_nil_then ?_
          refine cd_ret ?_
          exact px_ret1 rfl (v := .string _) rfl (fun _ s => ((s.del 1).del 0)) ⟨by unfold plainW bodyW; rw [hby]; simp [List.append_assoc], rfl⟩
  · -- 9
    refine ei_i rfl rfl (wn_none rfl) (os_bslice (E := encU8) [] (ys := ([] : List UInt8)) sB_55 zv_5 rfl rfl rfl rfl (by decide)) rfl ?_; rintro _ _ ⟨ao5, rfl, rfl⟩; refine ⟨[_], rfl, ?_⟩
    refine et_1 (i := 3) (by kernel_rfl) ?_
    refine ei_i rfl rfl (wn_none rfl) (os_call cb_57 rfl (fun w s => RPut_calls (wd := 1) _ _  s (show clamp8 1 = 1 from rfl) (by omega))) rfl ?_; rintro _ l ⟨rfl, rfl⟩; refine ⟨[_], rfl, ?_⟩
    refine et_1 (i := 7) (by kernel_rfl) ?_
    refine ei_i rfl rfl (wn_none rfl) (os_call cb_57 rfl (fun w s => RPut_calls (wd := 4) _ _  s (show clamp8 4 = 4 from rfl) (by omega))) rfl ?_; rintro _ l ⟨rfl, rfl⟩; refine ⟨[_], rfl, ?_⟩
    -- 8
    refine et_quiet 8 (by kernel_rfl) rfl (by kernel_rfl) (wn_none rfl) (op_sadd rfl rfl (by rw [putB_length, putB_length]; omega)) rfl ?_
    refine et_1 (i := 12) (by kernel_rfl) ?_
    refine ei_i rfl rfl (wn_none rfl) (os_append (E := encU8) rfl sB_55 zv_5 rfl rfl rfl (fun w s => (rds_fld 1 2 32 rfl (msgC_af2 _)) [] w s) (root_len _) (by simp) (by unfold maxLen; simp)) rfl ?_; rintro _ _ ⟨ao6, ac6, rfl, rfl⟩; refine ⟨[_], rfl, ?_⟩
    refine et_1 (i := 13) (by kernel_rfl) ?_
    refine ei_i rfl rfl (wn_none rfl) (os_call cb_60 rfl (fun w s => wtext_calls _ _ _  s (rds_row 0 rfl rfl))) rfl ?_; rintro _ l ⟨rfl, rfl⟩; refine ⟨[_], rfl, ?_⟩
    -- 14
    refine et_quiet 14 (by kernel_rfl) rfl (by kernel_rfl) (wn_none rfl) (op_sadd rfl rfl (by simp [putB_length, htl])) rfl ?_
    -- 15
    refine et_quiet 15 (by kernel_rfl) rfl (by kernel_rfl) (wn_none rfl) (op_assign (v := .string _) rfl) rfl ?_
    refine et_nil_then (by kernel_rfl) ?_
    refine cd_seq ?_
    refine cd_sr ?_   -- 2
    refine ol_q (wn_none rfl) (op_field fld_45_0 rfl) rfl ?_
    refine ol_q (wn_none rfl) (op_ld 1 sc_3 rfl rfl (show (msgC _).toArray[0]? = some (.int .i64 k) from msgC_a0 _)) rfl ?_
    refine ol_q (wn_none rfl) (op_eq rfl rfl) rfl ?_
    refine ol_nil_then ?_
    refine cd_cond rfl (fun hb5 => ?_) (fun hb5 => ?_)
    · have hp5 := hb5
      (try simp only [decide_eq_true_eq, decide_eq_false_iff_not, Bool.not_eq_true', Bool.not_eq_false', ne_eq, Decidable.not_not] at hp5)
      obtain rfl : k = 3 := by omega
      refine cd_sr ?_   -- 3
      refine ol_q (wn_none rfl) (op_move (v := .string _) rfl) rfl ?_
      refine ol_q (wn_none rfl) (op_field fld_45_5 rfl) rfl ?_
      refine ol_q (wn_none rfl) (op_ld 1 sc_41 rfl rfl (show (msgC _).toArray[36]? = some (.slice bo bits.length bc) from msgC_a36 _)) rfl ?_
      refine ol_i (wn_none rfl) (os_call cb_61 rfl (fun w s => RefBytes_calls _ _ _  s ((hr.cons _).cons _) (by omega))) rfl ?_; rintro _ l ⟨rfl, rfl⟩
      refine ol_q (wn_none rfl) (op_sadd rfl rfl (by simp [putB_length, htl]; omega)) rfl ?_
      refine ol_q (wn_none rfl) (op_assign (v := .string _) rfl) rfl ?_
      refine ol_nil_then ?_
      refine cd_ret ?_
      refine px_thenR ?_
      exact px_ret1 rfl (v := .string _) rfl (fun _ s => ((s.del 1).del 0)) ⟨by unfold plainW bodyW; rw [hby]; simp [List.append_assoc], rfl⟩
    · have hp5 := hb5
      (try simp only [decide_eq_true_eq, decide_eq_false_iff_not, Bool.not_eq_true', Bool.not_eq_false', ne_eq, Decidable.not_not] at hp5)
      have hk3 : k = 1 ∨ k = 2 := by omega
      refine cd_skip ?_
      refine px_then ?_
      refine cd_sr ?_   -- 4
      refine ol_q (wn_none rfl) (op_move (v := .string _) rfl) rfl ?_
      refine ol_q (wn_none rfl) (op_field fld_45_3 rfl) rfl ?_
      refine ol_q (wn_none rfl) (op_ld 1 sc_3 rfl rfl (show (msgC _).toArray[34]? = some (.int .i64 mb) from msgC_a34 _)) rfl ?_
      refine ol_q (wn_none rfl) (op_conv64i Try.underlying32 (by rw [Try.underlying3]; rfl) rfl) rfl ?_
      refine ol_i (wn_none rfl) (os_call cb_57 rfl (fun w s => RPut_calls (wd := 2) _ _  s (show clamp8 2 = 2 from rfl) (by omega))) rfl ?_; rintro _ l ⟨rfl, rfl⟩
      refine ol_q (wn_none rfl) (op_sadd rfl rfl (by simp [putB_length, htl])) rfl ?_
      refine ol_q (wn_none rfl) (op_assign (v := .string _) rfl) rfl ?_
      refine ol_nil_then ?_
      refine cd_seq ?_
      refine cd_sr ?_   -- 5
      refine ol_q (wn_none rfl) (op_field fld_45_0 rfl) rfl ?_
      refine ol_q (wn_none rfl) (op_ld 1 sc_3 rfl rfl (show (msgC _).toArray[0]? = some (.int .i64 k) from msgC_a0 _)) rfl ?_
      refine ol_q (wn_none rfl) (op_eq rfl rfl) rfl ?_
      refine ol_nil_then ?_
      refine cd_cond rfl (fun hb6 => ?_) (fun hb6 => ?_)
      · have hp6 := hb6
        (try simp only [decide_eq_true_eq, decide_eq_false_iff_not, Bool.not_eq_true', Bool.not_eq_false', ne_eq, Decidable.not_not] at hp6)
        obtain rfl : k = 1 := by omega
        refine cd_region ?_   -- 6
        refine ol_q (wn_none rfl) (op_move (v := .string _) rfl) rfl ?_
        refine ol_q (wn_none rfl) (op_field fld_45_4 rfl) rfl ?_
        refine ol_q (wn_none rfl) (op_ld 1 sc_32 rfl rfl (show (msgC _).toArray[35]? = some (.int .u64 (bd : Int)) from msgC_a35 _)) rfl ?_
        refine ol_i (wn_none rfl) (os_call cb_57 rfl (fun w s => RPut_calls (wd := 8) _ _  s (show clamp8 8 = 8 from rfl) (by omega))) rfl ?_; rintro _ l ⟨rfl, rfl⟩
        refine ol_q (wn_none rfl) (op_sadd rfl rfl (by simp [putB_length, htl])) rfl ?_
        refine ol_q (wn_none rfl) (op_assign (v := .string _) rfl) rfl ?_
        refine ol_nil ?_
        refine px_then ?_
        refine cd_sr ?_   -- 7
        refine ol_q (wn_none rfl) (op_move (v := .string _) rfl) rfl ?_
        refine ol_q (wn_none rfl) (op_assign (v := .string _) rfl) rfl ?_
        refine ol_nil_then ?_
        refine cd_ret ?_
        exact px_ret1 rfl (v := .string _) rfl (fun _ s => ((s.del 1).del 0)) ⟨by unfold plainW bodyW; rw [hby]; simp [List.append_assoc], rfl⟩
      · have hp6 := hb6
        (try simp only [decide_eq_true_eq, decide_eq_false_iff_not, Bool.not_eq_true', Bool.not_eq_false', ne_eq, Decidable.not_not] at hp6)
        obtain rfl : k = 2 := by omega
        refine cd_skip ?_
        refine px_then ?_
        refine cd_sr ?_   -- 7
        refine ol_q (wn_none rfl) (op_move (v := .string _) rfl) rfl ?_
        refine ol_q (wn_none rfl) (op_assign (v := .string _) rfl) rfl ?_
        refine ol_nil_then ?_
        refine cd_ret ?_
        exact px_ret1 rfl (v := .string _) rfl (fun _ s => ((s.del 1).del 0)) ⟨by unfold plainW bodyW; rw [hby]; simp [List.append_assoc], rfl⟩

set_option maxRecDepth 100000 in
set_option maxHeartbeats 1000000 in
theorem WRBytes_calls {w0 w : World} {l : List HProp} (k sl : Int) (tg : Root) (mb : Int) (bd : Nat) (bo : Option Addr) (bc : Nat) (bits : List Bool) (tag : Tag) (hs : Sat w0 w (l)) (hr : Rds w0 l encBool bo bits) (hxl : bits.length ≤ 1000) (hbd : bd < 18446744073709551616) (hg9 : goodW k sl mb bd bits = true) :
    Calls Try.prog 36 #[.agg (msgC ⟨k, sl, tg, mb, bd, ⟨bo, bits.length, bc⟩, tag⟩).toArray] w (Ret w0 fun v l' => v = .string (B (plainW k sl tg mb bd bits ++ tag.1)) ∧ l' = l) := by
  have hpl := plainW_len k sl tg mb bd bits
  have hbl := bodyW_le k mb bd bits
  have htl := tag_len tag
  refine calls_enter Try.func36 rfl rfl rfl hs ?_
  refine cd_sr ?_   -- 0
  refine ol_i (wn_none rfl) (os_boxa rfl) rfl ?_; rintro _ _ ⟨bx1, rfl, rfl⟩
  refine ol_q (wn_none rfl) (op_assign (v := .string _) rfl) rfl ?_
  refine ol_nil_then ?_
  refine cd_seq ?_   -- 1
  refine cd_drawe (M := []) mx [1, 2, 5, 6] ?_
  -- 0
  refine et_quiet 0 (by kernel_rfl) rfl (by kernel_rfl) (wn_none rfl) (op_lda (L := msgC _) 0 ag_45 rfl rfl (msgC_ta _) (by simp [msgC_len])) rfl ?_
  -- 3
  refine et_quiet 3 (by kernel_rfl) rfl (by kernel_rfl) (wn_none rfl) (op_field fld_45_6 rfl) rfl ?_
  -- 4
  refine et_quiet 4 (by kernel_rfl) rfl (by kernel_rfl) (wn_none rfl) (op_slicea_all a1_43 rfl) rfl ?_
  refine et_2 (i1 := 1) (i2 := 2) (by kernel_rfl) ?_ ?_
  · -- 1
    refine ei_i rfl rfl (wn_none rfl) (os_call cb_37 rfl (fun w s => WRPlain_calls _ _ _ _ _ _ _ _ _  s (hr.cons _) (by omega) (by omega) (by assumption))) rfl ?_; rintro _ l ⟨rfl, rfl⟩; refine ⟨[], rfl, ?_⟩
    refine et_1 (i := 2) (by kernel_rfl) ?_
    refine ei_i rfl rfl (wn_none rfl) (os_bslice (E := encU8) [] (ys := ([] : List UInt8)) sB_55 zv_5 rfl rfl rfl rfl (by decide)) rfl ?_; rintro _ _ ⟨ao1, rfl, rfl⟩; refine ⟨[_], rfl, ?_⟩
    refine et_1 (i := 5) (by kernel_rfl) ?_
    refine ei_i rfl rfl (wn_none rfl) (os_append (E := encU8) rfl sB_55 zv_5 rfl rfl rfl (fun w s => (rds_fld 1 37 16 rfl (msgC_af37 _)) [] w s) (tag_len _) (by simp) (by unfold maxLen; simp)) rfl ?_; rintro _ _ ⟨ao2, ac2, rfl, rfl⟩; refine ⟨[_], rfl, ?_⟩
    refine et_1 (i := 6) (by kernel_rfl) ?_
    refine ei_i rfl rfl (wn_none rfl) (os_call cb_60 rfl (fun w s => wtext_calls _ _ _  s (rds_row 0 rfl rfl))) rfl ?_; rintro _ l ⟨rfl, rfl⟩; refine ⟨[_], rfl, ?_⟩
    -- 7
    refine et_quiet 7 (by kernel_rfl) rfl (by kernel_rfl) (wn_none rfl) (op_sadd rfl rfl (by simp [htl]; omega)) rfl ?_
    -- 8
    refine et_quiet 8 (by kernel_rfl) rfl (by kernel_rfl) (wn_none rfl) (op_assign (v := .string _) rfl) rfl ?_
    refine et_nil_then (by kernel_rfl) ?_
    refine cd_ret ?_
    exact px_ret1 rfl (v := .string _) rfl (fun _ s => ((s.del 1).del 0)) ⟨rfl, rfl⟩
  · -- 2
    refine ei_i rfl rfl (wn_none rfl) (os_bslice (E := encU8) [] (ys := ([] : List UInt8)) sB_55 zv_5 rfl rfl rfl rfl (by decide)) rfl ?_; rintro _ _ ⟨ao3, rfl, rfl⟩; refine ⟨[_], rfl, ?_⟩
    refine et_1 (i := 1) (by kernel_rfl) ?_
    refine ei_i rfl rfl (wn_none rfl) (os_call cb_37 rfl (fun w s => WRPlain_calls _ _ _ _ _ _ _ _ _  s ((hr.cons _).cons _) (by omega) (by omega) (by assumption))) rfl ?_; rintro _ l ⟨rfl, rfl⟩; refine ⟨[_], rfl, ?_⟩
    refine et_1 (i := 5) (by kernel_rfl) ?_
    refine ei_i rfl rfl (wn_none rfl) (os_append (E := encU8) rfl sB_55 zv_5 rfl rfl rfl (fun w s => (rds_fld 1 37 16 rfl (msgC_af37 _)) [] w s) (tag_len _) (by simp) (by unfold maxLen; simp)) rfl ?_; rintro _ _ ⟨ao4, ac4, rfl, rfl⟩; refine ⟨[_], rfl, ?_⟩
    refine et_1 (i := 6) (by kernel_rfl) ?_
    refine ei_i rfl rfl (wn_none rfl) (os_call cb_60 rfl (fun w s => wtext_calls _ _ _  s (rds_row 0 rfl rfl))) rfl ?_; rintro _ l ⟨rfl, rfl⟩; refine ⟨[_], rfl, ?_⟩
    -- 7
    refine et_quiet 7 (by kernel_rfl) rfl (by kernel_rfl) (wn_none rfl) (op_sadd rfl rfl (by simp [htl]; omega)) rfl ?_
    -- 8
    refine et_quiet 8 (by kernel_rfl) rfl (by kernel_rfl) (wn_none rfl) (op_assign (v := .string _) rfl) rfl ?_
    refine et_nil_then (by kernel_rfl) ?_
    refine cd_ret ?_
    exact px_ret1 rfl (v := .string _) rfl (fun _ s => ((s.del 1).del 0)) ⟨rfl, rfl⟩

set_option maxRecDepth 100000 in
set_option maxHeartbeats 1000000 in
theorem WRoot_calls {w0 w : World} {l : List HProp} (k sl : Int) (tg : Root) (mb : Int) (bd : Nat) (bo : Option Addr) (bc : Nat) (bits : List Bool) (tag : Tag) (hs : Sat w0 w (l)) (hr : Rds w0 l encBool bo bits) (hxl : bits.length ≤ 1000) (hbd : bd < 18446744073709551616) :
    Calls Try.prog 38 #[.agg (msgC ⟨k, sl, tg, mb, bd, ⟨bo, bits.length, bc⟩, tag⟩).toArray] w (Ret w0 fun v l' => v = .agg (rootC (shaM (plainW k sl tg mb bd bits ++ tag.1))).toArray ∧ l' = l) := by
  have hpl := plainW_len k sl tg mb bd bits
  have hbl := bodyW_le k mb bd bits
  have htl := tag_len tag
  refine calls_enter Try.func38 rfl rfl rfl hs ?_
  refine cd_sr ?_   -- 0
  refine ol_i (wn_none rfl) (os_boxa rfl) rfl ?_; rintro _ _ ⟨bx1, rfl, rfl⟩
  refine ol_i (wn_none rfl) (os_alloc (cs := (rootC Root.zero).toArray) zB_40 (by kernel_rfl)) rfl ?_; rintro _ _ ⟨bx2, rfl, rfl⟩
  refine ol_nil_then ?_
  refine cd_seq ?_   -- 1
  refine cd_drawt (M := []) mx [1, 5, 6] 7 (by kernel_rfl) rfl rfl ?_
  dsimp only [List.take_succ_cons, List.take_zero, List.drop_succ_cons, List.drop_zero]
  refine rg_q (wn_none rfl) (op_lda (L := msgC _) 1 ag_45 rfl rfl (msgC_ta _) (by simp [msgC_len])) rfl rfl ?_
  refine rg_i (wn_none rfl) (os_call cb_31 rfl (fun w s => Plain_calls _ _ _ _ _ _ _ _ _  s ((hr.cons _).cons _) (by omega) (by omega))) rfl rfl ?_; rintro _ l ⟨rfl, rfl⟩; refine ⟨[], rfl, ?_⟩
  refine rg_q (wn_none rfl) (op_field fld_45_6 rfl) rfl rfl ?_
  refine rg_q (wn_none rfl) (op_slicea_all a1_43 rfl) rfl rfl ?_
  refine rg_q (wn_none rfl) (op_b2s sB_55 Try.underlying5 Try.underlying9 rfl (rds_fld 1 37 16 rfl (msgC_af37 _)) (tag_len _)) rfl rfl ?_
  refine rg_i (wn_none rfl) (os_bslice (E := encStr) [_, _] (ys := [_, _]) sB_88 zv_9 rfl rfl rfl rfl (by decide)) rfl rfl ?_; rintro _ _ ⟨ao1, rfl, rfl⟩; refine ⟨[_], rfl, ?_⟩
  refine rg_i (wn_none rfl) (os_call cb_58 rfl (fun w s => Of_calls _ _ _  s (rds_row 0 rfl rfl) (by rw [List.flatten_cons, List.flatten_cons, List.flatten_nil, List.append_nil, List.length_append, tag_len]; omega) (by show 2 ≤ 1000000; omega))) rfl rfl ?_; rintro _ l ⟨rfl, rfl⟩; refine ⟨[_], rfl, ?_⟩
  refine rg_tail1 ?_
  refine ol_pull1 ?_
  refine ol_iN (wn_none rfl) (os_storera _ ag_40 rfl rfl (Free.zero _)) ?_; rintro _ _ ⟨rfl, rfl⟩
  refine ol_nil_then ?_
  refine cd_ret ?_
  exact px_rv1 rfl (rv_cella 0 ag_40 rfl rfl (rootC_take' _) (by simp [rootC_len])) (fun _ s => (((s.del 2).del 1).del 0)) ⟨by rw [List.flatten_cons, List.flatten_cons, List.flatten_nil, List.append_nil], rfl⟩

set_option maxRecDepth 100000 in
set_option maxHeartbeats 1000000 in
theorem WRRoot_calls {w0 w : World} {l : List HProp} (k sl : Int) (tg : Root) (mb : Int) (bd : Nat) (bo : Option Addr) (bc : Nat) (bits : List Bool) (tag : Tag) (hs : Sat w0 w (l)) (hr : Rds w0 l encBool bo bits) (hxl : bits.length ≤ 1000) (hbd : bd < 18446744073709551616) (hg9 : goodW k sl mb bd bits = true) :
    Calls Try.prog 39 #[.agg (msgC ⟨k, sl, tg, mb, bd, ⟨bo, bits.length, bc⟩, tag⟩).toArray] w (Ret w0 fun v l' => v = .agg (rootC (shaM (plainW k sl tg mb bd bits ++ tag.1))).toArray ∧ l' = l) := by
  have hpl := plainW_len k sl tg mb bd bits
  have hbl := bodyW_le k mb bd bits
  have htl := tag_len tag
  refine calls_enter Try.func39 rfl rfl rfl hs ?_
  refine cd_sr ?_   -- 0
  refine ol_i (wn_none rfl) (os_boxa rfl) rfl ?_; rintro _ _ ⟨bx1, rfl, rfl⟩
  refine ol_i (wn_none rfl) (os_alloc (cs := (rootC Root.zero).toArray) zB_40 (by kernel_rfl)) rfl ?_; rintro _ _ ⟨bx2, rfl, rfl⟩
  refine ol_nil_then ?_
  refine cd_sr ?_   -- 1
  refine ol_q (wn_none rfl) (op_lda (L := msgC _) 1 ag_45 rfl rfl (msgC_ta _) (by simp [msgC_len])) rfl ?_
  refine ol_i (wn_none rfl) (os_call cb_36 rfl (fun w s => WRBytes_calls _ _ _ _ _ _ _ _ _  s ((hr.cons _).cons _) (by omega) (by omega) (by assumption))) rfl ?_; rintro _ l ⟨rfl, rfl⟩
  refine ol_i (wn_none rfl) (os_call cb_59 rfl (fun w s => ROf_calls _  s (by rw [List.length_append]; omega))) rfl ?_; rintro _ l ⟨rfl, rfl⟩
  refine ol_iN (wn_none rfl) (os_storera _ ag_40 rfl rfl (Free.zero _)) ?_; rintro _ _ ⟨rfl, rfl⟩
  refine ol_nil_then ?_
  refine cd_ret ?_
  exact px_rv1 rfl (rv_cella 0 ag_40 rfl rfl (rootC_take' _) (by simp [rootC_len])) (fun _ s => ((s.del 1).del 0)) ⟨rfl, rfl⟩

set_option maxRecDepth 100000 in
set_option maxHeartbeats 1000000 in
theorem WireIs_calls {w0 w : World} {l : List HProp} (k sl : Int) (tg : Root) (mb : Int) (bd : Nat) (bo : Option Addr) (bc : Nat) (bits : List Bool) (tag : Tag) (hs : Sat w0 w (l)) (hr : Rds w0 l encBool bo bits) (hbd : bd < 18446744073709551616) :
    Calls Try.prog 14 #[.agg (msgC ⟨k, sl, tg, mb, bd, ⟨bo, bits.length, bc⟩, tag⟩).toArray] w (Ret w0 fun v l' => v = .bool true ∧ l' = l) := by
  refine calls_enter Try.func14 rfl rfl rfl hs ?_
  refine cd_sr ?_   -- 0
  refine ol_i (wn_none rfl) (os_boxa rfl) rfl ?_; rintro _ _ ⟨bx1, rfl, rfl⟩
  refine ol_q (wn_none rfl) (op_assign (v := .bool _) rfl) rfl ?_
  refine ol_nil_then ?_
  refine cd_seq ?_
  refine cd_sr ?_   -- 1
  refine ol_i (wn_none rfl) (os_call cb_24 rfl (fun w s => wAlive_calls  s )) rfl ?_; rintro _ l ⟨rfl, rfl⟩
  refine ol_q (wn_none rfl) (op_not rfl) rfl ?_
  refine ol_nil_then ?_
  refine cd_cond_f rfl rfl ?_
  refine cd_skip ?_
  refine px_then ?_
  refine cd_seq ?_
  refine cd_sr ?_   -- 3
  refine ol_q (wn_none rfl) (op_lda (L := msgC _) 0 ag_45 rfl rfl (msgC_ta _) (by simp [msgC_len])) rfl ?_
  refine ol_i (wn_none rfl) (os_call cb_28 rfl (fun w s => wgreat_calls _ _ _ _ _ _ _ _ _  s )) rfl ?_; rintro _ l ⟨rfl, rfl⟩
  refine ol_nil_then ?_
  refine cd_cond rfl (fun hb1 => ?_) (fun hb1 => ?_)
  · have hp1 := hb1
    (try simp only [decide_eq_true_eq, decide_eq_false_iff_not, Bool.not_eq_true', Bool.not_eq_false', ne_eq, Decidable.not_not] at hp1)
    refine cd_sr ?_   -- 4
    refine ol_q (wn_none rfl) (op_assign (v := .bool _) rfl) rfl ?_
    refine ol_nil_then ?_
    refine cd_ret ?_
    refine px_thenR ?_
    exact px_ret1 rfl (v := .bool _) rfl (fun _ s => (s.del 0)) ⟨congrArg Value.bool (by first | rfl | (rw [if_neg (by rw [hg9]; simp)]; rfl) | (rw [if_neg (by rw [hg9]; simp)]; simp; done) | (simp; done)), rfl⟩
  · have hp1 := hb1
    (try simp only [decide_eq_true_eq, decide_eq_false_iff_not, Bool.not_eq_true', Bool.not_eq_false', ne_eq, Decidable.not_not] at hp1)
    have hxl : bits.length ≤ 200 := by have h9 := hb1; simp at h9; omega
    refine cd_skip ?_
    refine px_then ?_
    refine cd_sr ?_   -- 5
    refine ol_q (wn_none rfl) (op_lda (L := msgC _) 0 ag_45 rfl rfl (msgC_ta _) (by simp [msgC_len])) rfl ?_
    refine ol_i (wn_none rfl) (os_call cb_29 rfl (fun w s => Encode_calls _ _ _ _ _ _ _ _ _  s (hr.cons _) (by omega) (by omega))) rfl ?_; rintro _ l ⟨rfl, rfl⟩
    refine ol_q (wn_none rfl) (op_move (v := .tuple _) rfl) rfl ?_
    refine ol_q (wn_none rfl) (op_extract (v := .string _) rfl rfl) rfl ?_
    refine ol_q (wn_none rfl) (op_extract (v := .bool _) rfl rfl) rfl ?_
    refine ol_q (wn_none rfl) (op_assign (v := .string _) rfl) rfl ?_
    refine ol_q (wn_none rfl) (op_assign (v := .bool _) rfl) rfl ?_
    refine ol_nil_then ?_
    refine cd_sr ?_   -- 6
    refine ol_q (wn_none rfl) (op_lda (L := msgC _) 0 ag_45 rfl rfl (msgC_ta _) (by simp [msgC_len])) rfl ?_
    refine ol_i (wn_none rfl) (os_call cb_30 rfl (fun w s => WRGood_calls _ _ _ _ _ _ _ _ _  s (hr.cons _) (by omega) (by omega))) rfl ?_; rintro _ l ⟨rfl, rfl⟩
    refine ol_q (wn_none rfl) (op_assign (v := .bool _) rfl) rfl ?_
    refine ol_nil_then ?_
    refine cd_seq ?_
    refine cd_sr ?_   -- 7
    refine ol_q (wn_none rfl) (op_lda (L := msgC _) 0 ag_45 rfl rfl (msgC_ta _) (by simp [msgC_len])) rfl ?_
    refine ol_i (wn_none rfl) (os_call cb_35 rfl (fun w s => WGood_calls _ _ _ _ _ _ _ _ _  s (hr.cons _) (by omega) (by omega))) rfl ?_; rintro _ l ⟨rfl, rfl⟩
    refine ol_q (wn_none rfl) (op_move (v := .bool _) rfl) rfl ?_
    refine ol_q (wn_none rfl) (op_bneq Try.underlying4 rfl rfl) rfl ?_
    refine ol_q (wn_none rfl) (op_move (v := .bool _) rfl) rfl ?_
    refine ol_split 21 rfl (fun hb2 => ?_) (fun hb2 => ?_)
    · have hp2 := hb2
      (try simp only [decide_eq_true_eq, decide_eq_false_iff_not, Bool.not_eq_true', Bool.not_eq_false', ne_eq, Decidable.not_not] at hp2)
      exact absurd hb2 (by simp)
    · have hp2 := hb2
      (try simp only [decide_eq_true_eq, decide_eq_false_iff_not, Bool.not_eq_true', Bool.not_eq_false', ne_eq, Decidable.not_not] at hp2)
      refine ol_q (wn_some rfl rfl rfl hb2 rfl) (op_move (v := .bool _) rfl) rfl ?_
      refine ol_q (wn_some rfl rfl rfl hb2 rfl) (op_move (v := .bool _) rfl) rfl ?_
      refine ol_q (wn_some rfl rfl rfl hb2 rfl) (op_bneq Try.underlying4 rfl rfl) rfl ?_
      refine ol_q (wn_none rfl) (op_pick_f (v := .bool _) rfl hb2 rfl) rfl ?_
      refine ol_nil_then ?_
      refine cd_cond rfl (fun hb3 => ?_) (fun hb3 => ?_)
      · have hp3 := hb3
        (try simp only [decide_eq_true_eq, decide_eq_false_iff_not, Bool.not_eq_true', Bool.not_eq_false', ne_eq, Decidable.not_not] at hp3)
        exact absurd hb3 (by simp)
      · have hp3 := hb3
        (try simp only [decide_eq_true_eq, decide_eq_false_iff_not, Bool.not_eq_true', Bool.not_eq_false', ne_eq, Decidable.not_not] at hp3)
        refine cd_skip ?_
        refine px_then ?_
        refine cd_seq ?_
        refine cd_sr ?_   -- 9
        refine ol_q (wn_none rfl) (op_move (v := .bool _) rfl) rfl ?_
        refine ol_q (wn_none rfl) (op_not rfl) rfl ?_
        refine ol_nil_then ?_
        refine cd_cond rfl (fun hb4 => ?_) (fun hb4 => ?_)
        · have hp4 := hb4
          (try simp only [decide_eq_true_eq, decide_eq_false_iff_not, Bool.not_eq_true', Bool.not_eq_false', ne_eq, Decidable.not_not] at hp4)
          have hg9 : goodW k sl mb bd bits = false := by simpa using hb4
          refine cd_sr ?_   -- 10
          refine ol_q (wn_none rfl) (op_move (v := .string _) rfl) rfl ?_
          refine ol_q (wn_none rfl) (op_seql rfl rfl) rfl ?_
          refine ol_q (wn_none rfl) (op_assign (v := .bool _) rfl) rfl ?_
          refine ol_nil_then ?_
          refine cd_ret ?_
          refine px_thenR ?_
          exact px_ret1 rfl (v := .bool _) rfl (fun _ s => (s.del 0)) ⟨congrArg Value.bool (by first | rfl | (rw [if_neg (by rw [hg9]; simp)]; rfl) | (rw [if_neg (by rw [hg9]; simp)]; simp; done) | (simp; done)), rfl⟩
        · have hp4 := hb4
          (try simp only [decide_eq_true_eq, decide_eq_false_iff_not, Bool.not_eq_true', Bool.not_eq_false', ne_eq, Decidable.not_not] at hp4)
          have hg9 : goodW k sl mb bd bits = true := by simpa using hb4
          refine cd_skip ?_
          refine px_then ?_
          refine cd_seq ?_   -- 11
          refine cd_drawe (M := []) mx [2, 6, 8, 13, 15] ?_
          -- 0
          refine et_quiet 0 (by kernel_rfl) rfl (by kernel_rfl) (wn_none rfl) (op_move (v := .string _) rfl) rfl ?_
          -- 1
          refine et_quiet 1 (by kernel_rfl) rfl (by kernel_rfl) (wn_none rfl) (op_lda (L := msgC _) 0 ag_45 rfl rfl (msgC_ta _) (by simp [msgC_len])) rfl ?_
          refine et_1 (i := 2) (by kernel_rfl) ?_
          refine ei_i rfl rfl (wn_none rfl) (os_call cb_36 rfl (fun w s => WRBytes_calls _ _ _ _ _ _ _ _ _  s (hr.cons _) (by omega) (by omega) (by assumption))) rfl ?_; rintro _ l ⟨rfl, rfl⟩; refine ⟨[], rfl, ?_⟩
          -- 3
          refine et_quiet 3 (by kernel_rfl) rfl (by kernel_rfl) (wn_none rfl) (op_seql rfl rfl) rfl ?_
          -- 4
          refine et_quiet 4 (by kernel_rfl) rfl (by kernel_rfl) (wn_none rfl) (op_move (v := .bool _) rfl) rfl ?_
          refine et_split 34 rfl (fun hb5 => ?_) (fun hb5 => ?_)
          · have hp5 := hb5
            (try simp only [decide_eq_true_eq, decide_eq_false_iff_not, Bool.not_eq_true', Bool.not_eq_false', ne_eq, Decidable.not_not] at hp5)
            -- 5
            refine et_quiet 5 (by kernel_rfl) rfl (by kernel_rfl) (wn_some rfl rfl rfl hb5 rfl) (op_lda (L := msgC _) 0 ag_45 rfl rfl (msgC_ta _) (by simp [msgC_len])) rfl ?_
            -- 7
            refine et_quiet 7 (by kernel_rfl) rfl (by kernel_rfl) (wn_some rfl rfl rfl hb5 rfl) (op_lda (L := msgC _) 0 ag_45 rfl rfl (msgC_ta _) (by simp [msgC_len])) rfl ?_
            refine et_1 (i := 6) (by kernel_rfl) ?_
            refine ei_i rfl rfl (wn_some rfl rfl rfl hb5 rfl) (os_call cb_31 rfl (fun w s => Plain_calls _ _ _ _ _ _ _ _ _  s (hr.cons _) (by omega) (by omega))) rfl ?_; rintro _ l ⟨rfl, rfl⟩; refine ⟨[], rfl, ?_⟩
            refine et_1 (i := 8) (by kernel_rfl) ?_
            refine ei_i rfl rfl (wn_some rfl rfl rfl hb5 rfl) (os_call cb_37 rfl (fun w s => WRPlain_calls _ _ _ _ _ _ _ _ _  s (hr.cons _) (by omega) (by omega) (by assumption))) rfl ?_; rintro _ l ⟨rfl, rfl⟩; refine ⟨[], rfl, ?_⟩
            -- 9
            refine et_quiet 9 (by kernel_rfl) rfl (by kernel_rfl) (wn_some rfl rfl rfl hb5 rfl) (op_seql rfl rfl) rfl ?_
            -- 10
            refine et_quiet 10 (by kernel_rfl) rfl (by kernel_rfl) (wn_none rfl) (op_pick_t (v := .bool _) rfl hb5 rfl) rfl ?_
            -- 11
            refine et_quiet 11 (by kernel_rfl) rfl (by kernel_rfl) (wn_none rfl) (op_move (v := .bool _) rfl) rfl ?_
            refine et_split 41 rfl (fun hb6 => ?_) (fun hb6 => ?_)
            · have hp6 := hb6
              (try simp only [decide_eq_true_eq, decide_eq_false_iff_not, Bool.not_eq_true', Bool.not_eq_false', ne_eq, Decidable.not_not] at hp6)
              -- 12
              refine et_quiet 12 (by kernel_rfl) rfl (by kernel_rfl) (wn_some rfl rfl rfl hb6 rfl) (op_lda (L := msgC _) 0 ag_45 rfl rfl (msgC_ta _) (by simp [msgC_len])) rfl ?_
              -- 14
              refine et_quiet 14 (by kernel_rfl) rfl (by kernel_rfl) (wn_some rfl rfl rfl hb6 rfl) (op_lda (L := msgC _) 0 ag_45 rfl rfl (msgC_ta _) (by simp [msgC_len])) rfl ?_
              refine et_1 (i := 13) (by kernel_rfl) ?_
              refine ei_i rfl rfl (wn_some rfl rfl rfl hb6 rfl) (os_call cb_38 rfl (fun w s => WRoot_calls _ _ _ _ _ _ _ _ _  s (hr.cons _) (by omega) (by omega))) rfl ?_; rintro _ l ⟨rfl, rfl⟩; refine ⟨[], rfl, ?_⟩
              refine et_1 (i := 15) (by kernel_rfl) ?_
              refine ei_i rfl rfl (wn_some rfl rfl rfl hb6 rfl) (os_call cb_39 rfl (fun w s => WRRoot_calls _ _ _ _ _ _ _ _ _  s (hr.cons _) (by omega) (by omega) (by assumption))) rfl ?_; rintro _ l ⟨rfl, rfl⟩; refine ⟨[], rfl, ?_⟩
              -- 16
              refine et_quiet 16 (by kernel_rfl) rfl (by kernel_rfl) (wn_some rfl rfl rfl hb6 rfl) (op_eqroot _ _ rB_40 rfl rfl) rfl ?_
              -- 17
              refine et_quiet 17 (by kernel_rfl) rfl (by kernel_rfl) (wn_none rfl) (op_pick_t (v := .bool _) rfl hb6 rfl) rfl ?_
              -- 18
              refine et_quiet 18 (by kernel_rfl) rfl (by kernel_rfl) (wn_none rfl) (op_assign (v := .bool _) rfl) rfl ?_
              refine et_nil_then (by kernel_rfl) ?_
              refine cd_ret ?_
              exact px_ret1 rfl (v := .bool _) rfl (fun _ s => (s.del 0)) ⟨congrArg Value.bool (by first | rfl | (rw [if_neg (by rw [hg9]; simp)]; rfl) | (rw [if_neg (by rw [hg9]; simp)]; simp; done) | (simp; done)), rfl⟩
            · have hp6 := hb6
              (try simp only [decide_eq_true_eq, decide_eq_false_iff_not, Bool.not_eq_true', Bool.not_eq_false', ne_eq, Decidable.not_not] at hp6)
              exact absurd hb6 (by simp)
          · have hp5 := hb5
            (try simp only [decide_eq_true_eq, decide_eq_false_iff_not, Bool.not_eq_true', Bool.not_eq_false', ne_eq, Decidable.not_not] at hp5)
            exact absurd hb5 (by rw [if_pos hg9]; simp)
end Go.SL

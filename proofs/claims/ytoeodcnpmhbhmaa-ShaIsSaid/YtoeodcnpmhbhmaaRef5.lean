import Derived.Test.YtoeodcnpmhbhmaaRef3
set_option linter.unusedVariables false
set_option linter.unusedSimpArgs false
namespace Go.SL
open Go.Proofs

set_option maxRecDepth 100000 in
set_option maxHeartbeats 1000000 in
theorem ShaIs_calls {w0 w : World} {l : List HProp} (s : List UInt8) (a b : Root) (hs : Sat w0 w (l))  :
    Calls Try.prog 10 #[.string (B s), .agg (rootC a).toArray, .agg (rootC b).toArray] w (Ret w0 fun v l' => v = .bool true ∧ l' = l) := by
  refine calls_enter Try.func10 rfl rfl rfl hs ?_
  refine cd_sr ?_   -- 0
  refine ol_i (wn_none rfl) (os_boxa rfl) rfl ?_; rintro _ _ ⟨bx1, rfl, rfl⟩
  refine ol_i (wn_none rfl) (os_boxa rfl) rfl ?_; rintro _ _ ⟨bx2, rfl, rfl⟩
  refine ol_q (wn_none rfl) (op_assign (v := .bool _) rfl) rfl ?_
  refine ol_nil_then ?_
  refine cd_seq ?_
  refine cd_sr ?_   -- 1
  refine ol_i (wn_none rfl) (os_call cb_12 rfl (fun w s => sAlive_calls  s )) rfl ?_; rintro _ l ⟨rfl, rfl⟩
  refine ol_q (wn_none rfl) (op_not rfl) rfl ?_
  refine ol_nil_then ?_
  refine cd_cond_f rfl rfl ?_
  refine cd_skip ?_
  refine px_then ?_
  refine cd_seq ?_
  refine cd_sr ?_   -- 3
  refine ol_q (wn_none rfl) (op_move (v := .string _) rfl) rfl ?_
  refine ol_q (wn_none rfl) (op_len_string Try.underlying9 rfl) rfl ?_
  refine ol_q (wn_none rfl) (op_gt rfl rfl) rfl ?_
  refine ol_nil_then ?_
  refine cd_cond rfl (fun hb1 => ?_) (fun hb1 => ?_)
  · have hp1 := hb1
    (try simp only [decide_eq_true_eq, decide_eq_false_iff_not, Bool.not_eq_true', Bool.not_eq_false', ne_eq, Decidable.not_not] at hp1)
    refine cd_sr ?_   -- 4
    refine ol_q (wn_none rfl) (op_assign (v := .bool _) rfl) rfl ?_
    refine ol_nil_then ?_
    refine cd_ret ?_
    refine px_thenR ?_
    exact px_ret1 rfl (v := .bool _) rfl (fun _ s => ((s.del 1).del 0)) ⟨congrArg Value.bool (by first | rfl | simp), rfl⟩
  · have hp1 := hb1
    (try simp only [decide_eq_true_eq, decide_eq_false_iff_not, Bool.not_eq_true', Bool.not_eq_false', ne_eq, Decidable.not_not] at hp1)
    have hsl : s.length ≤ 1000 := by omega
    refine cd_skip ?_
    refine px_then ?_
    refine cd_seq ?_   -- 5
    refine cd_drawe (M := []) mx [1, 2, 4, 9, 12, 17, 19] ?_
    -- 0
    refine et_quiet 0 (by kernel_rfl) rfl (by kernel_rfl) (wn_none rfl) (op_move (v := .string _) rfl) rfl ?_
    -- 3
    refine et_quiet 3 (by kernel_rfl) rfl (by kernel_rfl) (wn_none rfl) (op_move (v := .string _) rfl) rfl ?_
    refine et_1 (i := 1) (by kernel_rfl) ?_
    refine ei_i rfl rfl (wn_none rfl) (os_bslice (E := encStr) [_] (ys := [_]) sB_24 zv_9 rfl rfl rfl rfl (by decide)) rfl ?_; rintro _ _ ⟨ao1, rfl, rfl⟩; refine ⟨[_], rfl, ?_⟩
    refine et_1 (i := 2) (by kernel_rfl) ?_
    refine ei_i rfl rfl (wn_none rfl) (os_call cb_13 rfl (fun w s => Of_calls _ _ _  s (rds_row 0 rfl rfl) (by simp; omega) (by simp))) rfl ?_; rintro _ l ⟨rfl, rfl⟩; refine ⟨[_], rfl, ?_⟩
    refine et_1 (i := 4) (by kernel_rfl) ?_
    refine ei_i rfl rfl (wn_none rfl) (os_call cb_20 rfl (fun w s => ROf_calls _  s (by first | omega | (simp; done) | (simp; omega)))) rfl ?_; rintro _ l ⟨rfl, rfl⟩; refine ⟨[_], rfl, ?_⟩
    -- 5
    refine et_quiet 5 (by kernel_rfl) rfl (by kernel_rfl) (wn_none rfl) (op_eqroot _ _ rB_26 rfl rfl) rfl ?_
    -- 6
    refine et_quiet 6 (by kernel_rfl) rfl (by kernel_rfl) (wn_none rfl) (op_move (v := .bool _) rfl) rfl ?_
    refine et_split 18 rfl (fun hb2 => ?_) (fun hb2 => ?_)
    · have hp2 := hb2
      (try simp only [decide_eq_true_eq, decide_eq_false_iff_not, Bool.not_eq_true', Bool.not_eq_false', ne_eq, Decidable.not_not] at hp2)
      -- 7
      refine et_quiet 7 (by kernel_rfl) rfl (by kernel_rfl) (wn_some rfl rfl rfl hb2 rfl) (op_lda (L := rootC _) 1 ag_26 rfl rfl (rootC_take' _) (by simp [rootC_len])) rfl ?_
      -- 8
      refine et_quiet 8 (by kernel_rfl) rfl (by kernel_rfl) (wn_some rfl rfl rfl hb2 rfl) (op_lda (L := rootC _) 0 ag_26 rfl rfl (rootC_take' _) (by simp [rootC_len])) rfl ?_
      -- 10
      refine et_quiet 10 (by kernel_rfl) rfl (by kernel_rfl) (wn_some rfl rfl rfl hb2 rfl) (op_lda (L := rootC _) 1 ag_26 rfl rfl (rootC_take' _) (by simp [rootC_len])) rfl ?_
      -- 11
      refine et_quiet 11 (by kernel_rfl) rfl (by kernel_rfl) (wn_some rfl rfl rfl hb2 rfl) (op_lda (L := rootC _) 0 ag_26 rfl rfl (rootC_take' _) (by simp [rootC_len])) rfl ?_
      refine et_1 (i := 9) (by kernel_rfl) ?_
      refine ei_i rfl rfl (wn_some rfl rfl rfl hb2 rfl) (os_call cb_15 rfl (fun w s => Less_calls _ _  s )) rfl ?_; rintro _ l ⟨rfl, rfl⟩; refine ⟨[_], rfl, ?_⟩
      refine et_1 (i := 12) (by kernel_rfl) ?_
      refine ei_i rfl rfl (wn_some rfl rfl rfl hb2 rfl) (os_call cb_21 rfl (fun w s => RLess_calls _ _  s )) rfl ?_; rintro _ l ⟨rfl, rfl⟩; refine ⟨[_], rfl, ?_⟩
      -- 13
      refine et_quiet 13 (by kernel_rfl) rfl (by kernel_rfl) (wn_some rfl rfl rfl hb2 rfl) (op_beql Try.underlying4 rfl rfl) rfl ?_
      -- 14
      refine et_quiet 14 (by kernel_rfl) rfl (by kernel_rfl) (wn_none rfl) (op_pick_t (v := .bool _) rfl hb2 rfl) rfl ?_
      -- 15
      refine et_quiet 15 (by kernel_rfl) rfl (by kernel_rfl) (wn_none rfl) (op_move (v := .bool _) rfl) rfl ?_
      refine et_split 27 rfl (fun hb3 => ?_) (fun hb3 => ?_)
      · have hp3 := hb3
        (try simp only [decide_eq_true_eq, decide_eq_false_iff_not, Bool.not_eq_true', Bool.not_eq_false', ne_eq, Decidable.not_not] at hp3)
        -- 16
        refine et_quiet 16 (by kernel_rfl) rfl (by kernel_rfl) (wn_some rfl rfl rfl hb3 rfl) (op_lda (L := rootC _) 1 ag_26 rfl rfl (rootC_take' _) (by simp [rootC_len])) rfl ?_
        -- 18
        refine et_quiet 18 (by kernel_rfl) rfl (by kernel_rfl) (wn_some rfl rfl rfl hb3 rfl) (op_lda (L := rootC _) 1 ag_26 rfl rfl (rootC_take' _) (by simp [rootC_len])) rfl ?_
        refine et_1 (i := 17) (by kernel_rfl) ?_
        refine ei_i rfl rfl (wn_some rfl rfl rfl hb3 rfl) (os_call cb_14 rfl (fun w s => Show_calls _  s )) rfl ?_; rintro _ l ⟨rfl, rfl⟩; refine ⟨[_], rfl, ?_⟩
        refine et_1 (i := 19) (by kernel_rfl) ?_
        refine ei_i rfl rfl (wn_some rfl rfl rfl hb3 rfl) (os_call cb_22 rfl (fun w s => RShow_calls _  s )) rfl ?_; rintro _ l ⟨rfl, rfl⟩; refine ⟨[_], rfl, ?_⟩
        -- 20
        refine et_quiet 20 (by kernel_rfl) rfl (by kernel_rfl) (wn_some rfl rfl rfl hb3 rfl) (op_seql rfl rfl) rfl ?_
        -- 21
        refine et_quiet 21 (by kernel_rfl) rfl (by kernel_rfl) (wn_none rfl) (op_pick_t (v := .bool _) rfl hb3 rfl) rfl ?_
        -- 22
        refine et_quiet 22 (by kernel_rfl) rfl (by kernel_rfl) (wn_none rfl) (op_assign (v := .bool _) rfl) rfl ?_
        refine et_nil_then (by kernel_rfl) ?_
        refine cd_ret ?_
        exact px_ret1 rfl (v := .bool _) rfl (fun _ s => (((s.del 2).del 1).del 0)) ⟨congrArg Value.bool (by first | rfl | simp), rfl⟩
      · have hp3 := hb3
        (try simp only [decide_eq_true_eq, decide_eq_false_iff_not, Bool.not_eq_true', Bool.not_eq_false', ne_eq, Decidable.not_not] at hp3)
        exact absurd hb3 (by simp)
    · have hp2 := hb2
      (try simp only [decide_eq_true_eq, decide_eq_false_iff_not, Bool.not_eq_true', Bool.not_eq_false', ne_eq, Decidable.not_not] at hp2)
      exact absurd hb2 (by simp)
end Go.SL

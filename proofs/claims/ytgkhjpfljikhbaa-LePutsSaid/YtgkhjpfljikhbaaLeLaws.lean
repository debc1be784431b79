import Derived.Test.YtgkhjpfljikhbaaLe
set_option linter.unusedVariables false
set_option linter.unusedSimpArgs false
namespace Go.SL
open Go.Proofs

theorem leAlive_calls {w0 w : World} {l : List HProp}  (hs : Sat w0 w (l))  :
    Calls Try.prog 17 #[] w (Ret w0 fun v l' => v = .bool true ∧ l' = l) := by
  refine calls_enter Try.func17 rfl rfl rfl hs ?_
  refine cd_sr ?_   -- 0
  refine ol_q (wn_none rfl) (op_assign (v := .bool _) rfl) rfl ?_
  refine ol_nil_then ?_
  refine cd_sr ?_   -- 1
  refine ol_i (wn_none rfl) (os_call cb_20 rfl (fun w s => From_calls _  s )) rfl ?_; rintro _ _ ⟨p1, rfl, rfl⟩
  refine ol_q (wn_none rfl) (op_assign (v := .pointer _) rfl) rfl ?_
  refine ol_nil_then ?_
  refine cd_sr ?_   -- 2
  refine ol_rownil (E := encU8) 5 ?_
  refine ol_i (wn_none rfl) (os_call cb_18 rfl (fun w s => Put_calls (A := 258) (wd := 3) (ao := none) (bs := []) (c := 0)  s (by omega) (by first | omega | (simp; done) | (simp; omega)))) rfl ?_; rintro _ _ ⟨pa2, pc2, rfl, rfl⟩
  refine ol_q (wn_none rfl) (op_b2s sB_26 Try.underlying5 Try.underlying9 rfl (rds_row 0 rfl rfl) rfl) rfl ?_
  refine ol_q (wn_none rfl) (op_seql rfl rfl) rfl ?_
  refine ol_q (wn_none rfl) (op_move (v := .bool _) rfl) rfl ?_
  refine ol_split 6 rfl (fun hb1 => ?_) (fun hb1 => ?_)
  · have hp1 := hb1
    (try simp only [decide_eq_true_eq, decide_eq_false_iff_not, Bool.not_eq_true', Bool.not_eq_false', ne_eq, Decidable.not_not] at hp1)
    refine ol_q (wn_some rfl rfl rfl hb1 rfl) (op_move (v := .pointer _) rfl) rfl ?_
    refine ol_pull1 ?_
    refine ol_i (wn_some rfl rfl rfl hb1 rfl) (os_call cb_21 rfl (fun w s => Uint_calls (n := 3) _ _  s )) rfl ?_; rintro _ _ ⟨rfl, rfl⟩
    refine ol_q (wn_some rfl rfl rfl hb1 rfl) (op_eqn (C := 258) rfl rfl) rfl ?_
    refine ol_q (wn_none rfl) (op_pick_t (v := .bool _) rfl hb1 rfl) rfl ?_
    refine ol_q (wn_none rfl) (op_move (v := .bool _) rfl) rfl ?_
    refine ol_split 11 rfl (fun hb2 => ?_) (fun hb2 => ?_)
    · have hp2 := hb2
      (try simp only [decide_eq_true_eq, decide_eq_false_iff_not, Bool.not_eq_true', Bool.not_eq_false', ne_eq, Decidable.not_not] at hp2)
      refine ol_q (wn_some rfl rfl rfl hb2 rfl) (op_move (v := .pointer _) rfl) rfl ?_
      refine ol_i (wn_some rfl rfl rfl hb2 rfl) (os_call cb_23 rfl (fun w s => Bytes_calls (n := 1) _ _  s )) rfl ?_; rintro _ _ ⟨rfl, rfl⟩
      refine ol_q (wn_some rfl rfl rfl hb2 rfl) (op_seql rfl rfl) rfl ?_
      refine ol_q (wn_none rfl) (op_pick_t (v := .bool _) rfl hb2 rfl) rfl ?_
      refine ol_q (wn_none rfl) (op_move (v := .bool _) rfl) rfl ?_
      refine ol_split 16 rfl (fun hb3 => ?_) (fun hb3 => ?_)
      · have hp3 := hb3
        (try simp only [decide_eq_true_eq, decide_eq_false_iff_not, Bool.not_eq_true', Bool.not_eq_false', ne_eq, Decidable.not_not] at hp3)
        refine ol_q (wn_some rfl rfl rfl hb3 rfl) (op_move (v := .pointer _) rfl) rfl ?_
        refine ol_i (wn_some rfl rfl rfl hb3 rfl) (os_call cb_22 rfl (fun w s => End_calls _ _  s )) rfl ?_; rintro _ _ ⟨rfl, rfl⟩
        refine ol_q (wn_none rfl) (op_pick_t (v := .bool _) rfl hb3 rfl) rfl ?_
        refine ol_q (wn_none rfl) (op_assign (v := .bool _) rfl) rfl ?_
        refine ol_nil_then ?_
        refine cd_ret ?_
        exact px_ret1 rfl (v := .bool _) rfl (fun _ s => (s.del 0).del 0) ⟨congrArg Value.bool (by decide), rfl⟩
      · have hp3 := hb3
        (try simp only [decide_eq_true_eq, decide_eq_false_iff_not, Bool.not_eq_true', Bool.not_eq_false', ne_eq, Decidable.not_not] at hp3)
        exact absurd hb3 (by decide)
    · have hp2 := hb2
      (try simp only [decide_eq_true_eq, decide_eq_false_iff_not, Bool.not_eq_true', Bool.not_eq_false', ne_eq, Decidable.not_not] at hp2)
      exact absurd hb2 (by decide)
  · have hp1 := hb1
    (try simp only [decide_eq_true_eq, decide_eq_false_iff_not, Bool.not_eq_true', Bool.not_eq_false', ne_eq, Decidable.not_not] at hp1)
    exact absurd hb1 (by decide)

theorem LePuts_calls {w0 w : World} {l : List HProp} (b : List UInt8) (A : Nat) (wd : Int) (hs : Sat w0 w (l)) (hA : A < 18446744073709551616) :
    Calls Try.prog 5 #[.string (B b), .int .u64 (A : Int), .int .i64 wd] w (Ret w0 fun v l' => v = .bool true ∧ l' = l) := by
  refine calls_enter Try.func5 rfl rfl rfl hs ?_
  refine cd_sr ?_   -- 0
  refine ol_q (wn_none rfl) (op_assign (v := .bool _) rfl) rfl ?_
  refine ol_nil_then ?_
  refine cd_seq ?_
  refine cd_sr ?_   -- 1
  refine ol_i (wn_none rfl) (os_call cb_17 rfl (fun w s => leAlive_calls  s )) rfl ?_; rintro _ _ ⟨rfl, rfl⟩
  refine ol_q (wn_none rfl) (op_not rfl) rfl ?_
  refine ol_nil_then ?_
  refine cd_cond_f rfl rfl ?_
  refine cd_skip ?_
  refine px_then ?_
  refine cd_seq ?_   -- 3
  refine cd_drawe (M := []) mx [5, 8, 9, 13] ?_
  -- 0
  refine et_quiet 0 (by kernel_rfl) rfl (by kernel_rfl) (wn_none rfl) (op_move (v := .string _) rfl) rfl ?_
  -- 1
  refine et_quiet 1 (by kernel_rfl) rfl (by kernel_rfl) (wn_none rfl) (op_len_string Try.underlying9 rfl) rfl ?_
  -- 2
  refine et_quiet 2 (by kernel_rfl) rfl (by kernel_rfl) (wn_none rfl) (op_gt rfl rfl) rfl ?_
  -- 3
  refine et_quiet 3 (by kernel_rfl) rfl (by kernel_rfl) (wn_none rfl) (op_move (v := .bool _) rfl) rfl ?_
  refine et_split 12 rfl (fun hb1 => ?_) (fun hb1 => ?_)
  · have hp1 := hb1
    (try simp only [decide_eq_true_eq, decide_eq_false_iff_not, Bool.not_eq_true', Bool.not_eq_false', ne_eq, Decidable.not_not] at hp1)
    -- 4
    refine et_skip 4 (by kernel_rfl) rfl (by kernel_rfl) (wn_some rfl rfl rfl hb1 rfl) rfl ?_
    -- 6
    refine et_skip 6 (by kernel_rfl) rfl (by kernel_rfl) (wn_some rfl rfl rfl hb1 rfl) rfl ?_
    -- 7
    refine et_skip 7 (by kernel_rfl) rfl (by kernel_rfl) (wn_some rfl rfl rfl hb1 rfl) rfl ?_
    -- 10
    refine et_skip 10 (by kernel_rfl) rfl (by kernel_rfl) (wn_some rfl rfl rfl hb1 rfl) rfl ?_
    -- 11
    refine et_skip 11 (by kernel_rfl) rfl (by kernel_rfl) (wn_some rfl rfl rfl hb1 rfl) rfl ?_
    -- 12
    refine et_skip 12 (by kernel_rfl) rfl (by kernel_rfl) (wn_some rfl rfl rfl hb1 rfl) rfl ?_
    refine et_1 (i := 5) (by kernel_rfl) ?_
    refine ei_skip rfl (wn_some rfl rfl rfl hb1 rfl) rfl ?_
    refine et_1 (i := 8) (by kernel_rfl) ?_
    refine ei_skip rfl (wn_some rfl rfl rfl hb1 rfl) rfl ?_
    refine et_2 (i1 := 9) (i2 := 13) (by kernel_rfl) ?_ ?_
    · -- 9
      refine ei_skip rfl (wn_some rfl rfl rfl hb1 rfl) rfl ?_
      refine et_1 (i := 13) (by kernel_rfl) ?_
      refine ei_skip rfl (wn_some rfl rfl rfl hb1 rfl) rfl ?_
      -- 14
      refine et_skip 14 (by kernel_rfl) rfl (by kernel_rfl) (wn_some rfl rfl rfl hb1 rfl) rfl ?_
      -- 15
      refine et_skip 15 (by kernel_rfl) rfl (by kernel_rfl) (wn_some rfl rfl rfl hb1 rfl) rfl ?_
      -- 16
      refine et_quiet 16 (by kernel_rfl) rfl (by kernel_rfl) (wn_none rfl) (op_pick_t (v := .bool _) rfl hb1 rfl) rfl ?_
      -- 17
      refine et_quiet 17 (by kernel_rfl) rfl (by kernel_rfl) (wn_none rfl) (op_assign (v := .bool _) rfl) rfl ?_
      refine et_nil_then (by kernel_rfl) ?_
      refine cd_ret ?_
      first | exact px_ret1 rfl (v := .bool _) rfl (fun _ s => s) ⟨by simp, rfl⟩ | exact px_ret1 rfl (v := .bool _) rfl (fun _ s => s.del 0) ⟨by simp, rfl⟩
    · -- 13
      refine ei_skip rfl (wn_some rfl rfl rfl hb1 rfl) rfl ?_
      -- 14
      refine et_skip 14 (by kernel_rfl) rfl (by kernel_rfl) (wn_some rfl rfl rfl hb1 rfl) rfl ?_
      refine et_1 (i := 9) (by kernel_rfl) ?_
      refine ei_skip rfl (wn_some rfl rfl rfl hb1 rfl) rfl ?_
      -- 15
      refine et_skip 15 (by kernel_rfl) rfl (by kernel_rfl) (wn_some rfl rfl rfl hb1 rfl) rfl ?_
      -- 16
      refine et_quiet 16 (by kernel_rfl) rfl (by kernel_rfl) (wn_none rfl) (op_pick_t (v := .bool _) rfl hb1 rfl) rfl ?_
      -- 17
      refine et_quiet 17 (by kernel_rfl) rfl (by kernel_rfl) (wn_none rfl) (op_assign (v := .bool _) rfl) rfl ?_
      refine et_nil_then (by kernel_rfl) ?_
      refine cd_ret ?_
      first | exact px_ret1 rfl (v := .bool _) rfl (fun _ s => s) ⟨by simp, rfl⟩ | exact px_ret1 rfl (v := .bool _) rfl (fun _ s => s.del 0) ⟨by simp, rfl⟩
  · have hp1 := hb1
    (try simp only [decide_eq_true_eq, decide_eq_false_iff_not, Bool.not_eq_true', Bool.not_eq_false', ne_eq, Decidable.not_not] at hp1)
    -- 4
    refine et_quiet 4 (by kernel_rfl) rfl (by kernel_rfl) (wn_some rfl rfl rfl hb1 rfl) (op_move (v := .string _) rfl) rfl ?_
    -- 6
    refine et_quiet 6 (by kernel_rfl) rfl (by kernel_rfl) (wn_some rfl rfl rfl hb1 rfl) (op_move (v := .int _ _) rfl) rfl ?_
    -- 7
    refine et_quiet 7 (by kernel_rfl) rfl (by kernel_rfl) (wn_some rfl rfl rfl hb1 rfl) (op_move (v := .int _ _) rfl) rfl ?_
    -- 10
    refine et_quiet 10 (by kernel_rfl) rfl (by kernel_rfl) (wn_some rfl rfl rfl hb1 rfl) (op_move (v := .string _) rfl) rfl ?_
    -- 11
    refine et_quiet 11 (by kernel_rfl) rfl (by kernel_rfl) (wn_some rfl rfl rfl hb1 rfl) (op_move (v := .int _ _) rfl) rfl ?_
    -- 12
    refine et_quiet 12 (by kernel_rfl) rfl (by kernel_rfl) (wn_some rfl rfl rfl hb1 rfl) (op_move (v := .int _ _) rfl) rfl ?_
    refine et_1 (i := 5) (by kernel_rfl) ?_
    refine ei_i rfl rfl (wn_some rfl rfl rfl hb1 rfl) (os_s2b sB_26 Try.underlying5 Try.underlying9 rfl (by omega)) rfl ?_; rintro _ _ ⟨ao1, ac1, rfl, rfl⟩; refine ⟨[_], rfl, ?_⟩
    refine et_1 (i := 8) (by kernel_rfl) ?_
    refine ei_i rfl rfl (wn_some rfl rfl rfl hb1 rfl) (os_call cb_18 rfl (fun w s => Put_calls _ _ _ _ _  s (by omega) (by first | omega | (simp; done) | (simp; omega)))) rfl ?_; rintro _ _ ⟨pa2, pc2, rfl, rfl⟩; refine ⟨[_], rfl, ?_⟩
    refine et_2 (i1 := 9) (i2 := 13) (by kernel_rfl) ?_ ?_
    · -- 9
      refine ei_i rfl rfl (wn_some rfl rfl rfl hb1 rfl) (os_q (op_b2s sB_26 Try.underlying5 Try.underlying9 rfl (rds_row 0 rfl rfl) rfl)) rfl ?_; rintro _ _ ⟨rfl, rfl⟩; refine ⟨[_], rfl, ?_⟩
      refine et_1 (i := 13) (by kernel_rfl) ?_
      refine ei_i rfl rfl (wn_some rfl rfl rfl hb1 rfl) (os_call cb_19 rfl (fun w s => RPut_calls _ _ _  s rfl (by omega))) rfl ?_; rintro _ _ ⟨rfl, rfl⟩; refine ⟨[_], rfl, ?_⟩
      -- 14
      refine et_quiet 14 (by kernel_rfl) rfl (by kernel_rfl) (wn_some rfl rfl rfl hb1 rfl) (op_sadd rfl rfl (by rw [putB_length]; have := clamp8_le wd; omega)) rfl ?_
      -- 15
      refine et_quiet 15 (by kernel_rfl) rfl (by kernel_rfl) (wn_some rfl rfl rfl hb1 rfl) (op_seql rfl rfl) rfl ?_
      -- 16
      refine et_quiet 16 (by kernel_rfl) rfl (by kernel_rfl) (wn_none rfl) (op_pick_f (v := .bool _) rfl hb1 rfl) rfl ?_
      -- 17
      refine et_quiet 17 (by kernel_rfl) rfl (by kernel_rfl) (wn_none rfl) (op_assign (v := .bool _) rfl) rfl ?_
      refine et_nil_then (by kernel_rfl) ?_
      refine cd_ret ?_
      first | exact px_ret1 rfl (v := .bool _) rfl (fun _ s => s) ⟨by simp, rfl⟩ | exact px_ret1 rfl (v := .bool _) rfl (fun _ s => s.del 0) ⟨by simp, rfl⟩
    · -- 13
      refine ei_i rfl rfl (wn_some rfl rfl rfl hb1 rfl) (os_call cb_19 rfl (fun w s => RPut_calls _ _ _  s rfl (by omega))) rfl ?_; rintro _ _ ⟨rfl, rfl⟩; refine ⟨[_], rfl, ?_⟩
      -- 14
      refine et_quiet 14 (by kernel_rfl) rfl (by kernel_rfl) (wn_some rfl rfl rfl hb1 rfl) (op_sadd rfl rfl (by rw [putB_length]; have := clamp8_le wd; omega)) rfl ?_
      refine et_1 (i := 9) (by kernel_rfl) ?_
      refine ei_i rfl rfl (wn_some rfl rfl rfl hb1 rfl) (os_q (op_b2s sB_26 Try.underlying5 Try.underlying9 rfl (rds_row 0 rfl rfl) rfl)) rfl ?_; rintro _ _ ⟨rfl, rfl⟩; refine ⟨[_], rfl, ?_⟩
      -- 15
      refine et_quiet 15 (by kernel_rfl) rfl (by kernel_rfl) (wn_some rfl rfl rfl hb1 rfl) (op_seql rfl rfl) rfl ?_
      -- 16
      refine et_quiet 16 (by kernel_rfl) rfl (by kernel_rfl) (wn_none rfl) (op_pick_f (v := .bool _) rfl hb1 rfl) rfl ?_
      -- 17
      refine et_quiet 17 (by kernel_rfl) rfl (by kernel_rfl) (wn_none rfl) (op_assign (v := .bool _) rfl) rfl ?_
      refine et_nil_then (by kernel_rfl) ?_
      refine cd_ret ?_
      first | exact px_ret1 rfl (v := .bool _) rfl (fun _ s => s) ⟨by simp, rfl⟩ | exact px_ret1 rfl (v := .bool _) rfl (fun _ s => s.del 0) ⟨by simp, rfl⟩
end Go.SL

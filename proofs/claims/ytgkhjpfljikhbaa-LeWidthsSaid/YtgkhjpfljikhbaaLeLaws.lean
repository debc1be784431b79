import Derived.Test.YtgkhjpfljikhbaaLe
set_option linter.unusedVariables false
set_option linter.unusedSimpArgs false
namespace Go.SL
open Go.Proofs

theorem leAlive_calls {w0 w : World} {l : List HProp}  (hs : Sat w0 w (l))  :
    Calls Try.prog 17 #[] w (Ret w0 fun v l' => v = .bool true ∧ l' = l) := by
  refine calls_enter Try.func17 rfl rfl rfl hs ?_
  refine cd_sr ?_   -- 0
  refine ol_q (wn_none rfl) (op_assign (v := .bool _) rfl) rfl ?_
  refine ol_nil_then ?_
  refine cd_sr ?_   -- 1
  refine ol_i (wn_none rfl) (os_call cb_20 rfl (fun w s => From_calls _  s )) rfl ?_; rintro _ _ ⟨p1, rfl, rfl⟩
  refine ol_q (wn_none rfl) (op_assign (v := .pointer _) rfl) rfl ?_
  refine ol_nil_then ?_
  refine cd_sr ?_   -- 2
  refine ol_rownil (E := encU8) 5 ?_
  refine ol_i (wn_none rfl) (os_call cb_18 rfl (fun w s => Put_calls (A := 258) (wd := 3) (ao := none) (bs := []) (c := 0)  s (by omega) (by first | omega | (simp; done) | (simp; omega)))) rfl ?_; rintro _ _ ⟨pa2, pc2, rfl, rfl⟩
  refine ol_q (wn_none rfl) (op_b2s sB_26 Try.underlying5 Try.underlying9 rfl (rds_row 0 rfl rfl) rfl) rfl ?_
  refine ol_q (wn_none rfl) (op_seql rfl rfl) rfl ?_
  refine ol_q (wn_none rfl) (op_move (v := .bool _) rfl) rfl ?_
  refine ol_split 6 rfl (fun hb1 => ?_) (fun hb1 => ?_)
  · have hp1 := hb1
    (try simp only [decide_eq_true_eq, decide_eq_false_iff_not, Bool.not_eq_true', Bool.not_eq_false', ne_eq, Decidable.not_not] at hp1)
    refine ol_q (wn_some rfl rfl rfl hb1 rfl) (op_move (v := .pointer _) rfl) rfl ?_
    refine ol_pull1 ?_
    refine ol_i (wn_some rfl rfl rfl hb1 rfl) (os_call cb_21 rfl (fun w s => Uint_calls (n := 3) _ _  s )) rfl ?_; rintro _ _ ⟨rfl, rfl⟩
    refine ol_q (wn_some rfl rfl rfl hb1 rfl) (op_eqn (C := 258) rfl rfl) rfl ?_
    refine ol_q (wn_none rfl) (op_pick_t (v := .bool _) rfl hb1 rfl) rfl ?_
    refine ol_q (wn_none rfl) (op_move (v := .bool _) rfl) rfl ?_
    refine ol_split 11 rfl (fun hb2 => ?_) (fun hb2 => ?_)
    · have hp2 := hb2
      (try simp only [decide_eq_true_eq, decide_eq_false_iff_not, Bool.not_eq_true', Bool.not_eq_false', ne_eq, Decidable.not_not] at hp2)
      refine ol_q (wn_some rfl rfl rfl hb2 rfl) (op_move (v := .pointer _) rfl) rfl ?_
      refine ol_i (wn_some rfl rfl rfl hb2 rfl) (os_call cb_23 rfl (fun w s => Bytes_calls (n := 1) _ _  s )) rfl ?_; rintro _ _ ⟨rfl, rfl⟩
      refine ol_q (wn_some rfl rfl rfl hb2 rfl) (op_seql rfl rfl) rfl ?_
      refine ol_q (wn_none rfl) (op_pick_t (v := .bool _) rfl hb2 rfl) rfl ?_
      refine ol_q (wn_none rfl) (op_move (v := .bool _) rfl) rfl ?_
      refine ol_split 16 rfl (fun hb3 => ?_) (fun hb3 => ?_)
      · have hp3 := hb3
        (try simp only [decide_eq_true_eq, decide_eq_false_iff_not, Bool.not_eq_true', Bool.not_eq_false', ne_eq, Decidable.not_not] at hp3)
        refine ol_q (wn_some rfl rfl rfl hb3 rfl) (op_move (v := .pointer _) rfl) rfl ?_
        refine ol_i (wn_some rfl rfl rfl hb3 rfl) (os_call cb_22 rfl (fun w s => End_calls _ _  s )) rfl ?_; rintro _ _ ⟨rfl, rfl⟩
        refine ol_q (wn_none rfl) (op_pick_t (v := .bool _) rfl hb3 rfl) rfl ?_
        refine ol_q (wn_none rfl) (op_assign (v := .bool _) rfl) rfl ?_
        refine ol_nil_then ?_
        refine cd_ret ?_
        exact px_ret1 rfl (v := .bool _) rfl (fun _ s => (s.del 0).del 0) ⟨congrArg Value.bool (by decide), rfl⟩
      · have hp3 := hb3
        (try simp only [decide_eq_true_eq, decide_eq_false_iff_not, Bool.not_eq_true', Bool.not_eq_false', ne_eq, Decidable.not_not] at hp3)
        exact absurd hb3 (by decide)
    · have hp2 := hb2
      (try simp only [decide_eq_true_eq, decide_eq_false_iff_not, Bool.not_eq_true', Bool.not_eq_false', ne_eq, Decidable.not_not] at hp2)
      exact absurd hb2 (by decide)
  · have hp1 := hb1
    (try simp only [decide_eq_true_eq, decide_eq_false_iff_not, Bool.not_eq_true', Bool.not_eq_false', ne_eq, Decidable.not_not] at hp1)
    exact absurd hb1 (by decide)

theorem LePuts_calls {w0 w : World} {l : List HProp} (b : List UInt8) (A : Nat) (wd : Int) (hs : Sat w0 w (l)) (hA : A < 18446744073709551616) :
    Calls Try.prog 5 #[.string (B b), .int .u64 (A : Int), .int .i64 wd] w (Ret w0 fun v l' => v = .bool true ∧ l' = l) := by
  refine calls_enter Try.func5 rfl rfl rfl hs ?_
  refine cd_sr ?_   -- 0
  refine ol_q (wn_none rfl) (op_assign (v := .bool _) rfl) rfl ?_
  refine ol_nil_then ?_
  refine cd_seq ?_
  refine cd_sr ?_   -- 1
  refine ol_i (wn_none rfl) (os_call cb_17 rfl (fun w s => leAlive_calls  s )) rfl ?_; rintro _ l ⟨rfl, rfl⟩
  refine ol_q (wn_none rfl) (op_not rfl) rfl ?_
  refine ol_nil_then ?_
  refine cd_cond_f rfl rfl ?_
  refine cd_skip ?_
  refine px_then ?_
  refine cd_seq ?_   -- 3
  refine cd_drawe (M := []) mx [5, 8, 9, 13] ?_
  -- 0
  refine et_quiet 0 (by kernel_rfl) rfl (by kernel_rfl) (wn_none rfl) (op_move (v := .string _) rfl) rfl ?_
  -- 1
  refine et_quiet 1 (by kernel_rfl) rfl (by kernel_rfl) (wn_none rfl) (op_len_string Try.underlying9 rfl) rfl ?_
  -- 2
  refine et_quiet 2 (by kernel_rfl) rfl (by kernel_rfl) (wn_none rfl) (op_gt rfl rfl) rfl ?_
  -- 3
  refine et_quiet 3 (by kernel_rfl) rfl (by kernel_rfl) (wn_none rfl) (op_move (v := .bool _) rfl) rfl ?_
  refine et_split 12 rfl (fun hb1 => ?_) (fun hb1 => ?_)
  · have hp1 := hb1
    (try simp only [decide_eq_true_eq, decide_eq_false_iff_not, Bool.not_eq_true', Bool.not_eq_false', ne_eq, Decidable.not_not] at hp1)
    -- 4
    refine et_skip 4 (by kernel_rfl) rfl (by kernel_rfl) (wn_some rfl rfl rfl hb1 rfl) rfl ?_
    -- 6
    refine et_skip 6 (by kernel_rfl) rfl (by kernel_rfl) (wn_some rfl rfl rfl hb1 rfl) rfl ?_
    -- 7
    refine et_skip 7 (by kernel_rfl) rfl (by kernel_rfl) (wn_some rfl rfl rfl hb1 rfl) rfl ?_
    -- 10
    refine et_skip 10 (by kernel_rfl) rfl (by kernel_rfl) (wn_some rfl rfl rfl hb1 rfl) rfl ?_
    -- 11
    refine et_skip 11 (by kernel_rfl) rfl (by kernel_rfl) (wn_some rfl rfl rfl hb1 rfl) rfl ?_
    -- 12
    refine et_skip 12 (by kernel_rfl) rfl (by kernel_rfl) (wn_some rfl rfl rfl hb1 rfl) rfl ?_
    refine et_1 (i := 5) (by kernel_rfl) ?_
    refine ei_skip rfl (wn_some rfl rfl rfl hb1 rfl) rfl ?_
    refine et_1 (i := 8) (by kernel_rfl) ?_
    refine ei_skip rfl (wn_some rfl rfl rfl hb1 rfl) rfl ?_
    refine et_2 (i1 := 9) (i2 := 13) (by kernel_rfl) ?_ ?_
    · -- 9
      refine ei_skip rfl (wn_some rfl rfl rfl hb1 rfl) rfl ?_
      refine et_1 (i := 13) (by kernel_rfl) ?_
      refine ei_skip rfl (wn_some rfl rfl rfl hb1 rfl) rfl ?_
      -- 14
      refine et_skip 14 (by kernel_rfl) rfl (by kernel_rfl) (wn_some rfl rfl rfl hb1 rfl) rfl ?_
      -- 15
      refine et_skip 15 (by kernel_rfl) rfl (by kernel_rfl) (wn_some rfl rfl rfl hb1 rfl) rfl ?_
      -- 16
      refine et_quiet 16 (by kernel_rfl) rfl (by kernel_rfl) (wn_none rfl) (op_pick_t (v := .bool _) rfl hb1 rfl) rfl ?_
      -- 17
      refine et_quiet 17 (by kernel_rfl) rfl (by kernel_rfl) (wn_none rfl) (op_assign (v := .bool _) rfl) rfl ?_
      refine et_nil_then (by kernel_rfl) ?_
      refine cd_ret ?_
      first | exact px_ret1 rfl (v := .bool _) rfl (fun _ s => s) ⟨by simp, rfl⟩ | exact px_ret1 rfl (v := .bool _) rfl (fun _ s => s.del 0) ⟨by simp, rfl⟩
    · -- 13
      refine ei_skip rfl (wn_some rfl rfl rfl hb1 rfl) rfl ?_
      -- 14
      refine et_skip 14 (by kernel_rfl) rfl (by kernel_rfl) (wn_some rfl rfl rfl hb1 rfl) rfl ?_
      refine et_1 (i := 9) (by kernel_rfl) ?_
      refine ei_skip rfl (wn_some rfl rfl rfl hb1 rfl) rfl ?_
      -- 15
      refine et_skip 15 (by kernel_rfl) rfl (by kernel_rfl) (wn_some rfl rfl rfl hb1 rfl) rfl ?_
      -- 16
      refine et_quiet 16 (by kernel_rfl) rfl (by kernel_rfl) (wn_none rfl) (op_pick_t (v := .bool _) rfl hb1 rfl) rfl ?_
      -- 17
      refine et_quiet 17 (by kernel_rfl) rfl (by kernel_rfl) (wn_none rfl) (op_assign (v := .bool _) rfl) rfl ?_
      refine et_nil_then (by kernel_rfl) ?_
      refine cd_ret ?_
      first | exact px_ret1 rfl (v := .bool _) rfl (fun _ s => s) ⟨by simp, rfl⟩ | exact px_ret1 rfl (v := .bool _) rfl (fun _ s => s.del 0) ⟨by simp, rfl⟩
  · have hp1 := hb1
    (try simp only [decide_eq_true_eq, decide_eq_false_iff_not, Bool.not_eq_true', Bool.not_eq_false', ne_eq, Decidable.not_not] at hp1)
    -- 4
    refine et_quiet 4 (by kernel_rfl) rfl (by kernel_rfl) (wn_some rfl rfl rfl hb1 rfl) (op_move (v := .string _) rfl) rfl ?_
    -- 6
    refine et_quiet 6 (by kernel_rfl) rfl (by kernel_rfl) (wn_some rfl rfl rfl hb1 rfl) (op_move (v := .int _ _) rfl) rfl ?_
    -- 7
    refine et_quiet 7 (by kernel_rfl) rfl (by kernel_rfl) (wn_some rfl rfl rfl hb1 rfl) (op_move (v := .int _ _) rfl) rfl ?_
    -- 10
    refine et_quiet 10 (by kernel_rfl) rfl (by kernel_rfl) (wn_some rfl rfl rfl hb1 rfl) (op_move (v := .string _) rfl) rfl ?_
    -- 11
    refine et_quiet 11 (by kernel_rfl) rfl (by kernel_rfl) (wn_some rfl rfl rfl hb1 rfl) (op_move (v := .int _ _) rfl) rfl ?_
    -- 12
    refine et_quiet 12 (by kernel_rfl) rfl (by kernel_rfl) (wn_some rfl rfl rfl hb1 rfl) (op_move (v := .int _ _) rfl) rfl ?_
    refine et_1 (i := 5) (by kernel_rfl) ?_
    refine ei_i rfl rfl (wn_some rfl rfl rfl hb1 rfl) (os_s2b sB_26 Try.underlying5 Try.underlying9 rfl (by omega)) rfl ?_; rintro _ _ ⟨ao1, ac1, rfl, rfl⟩; refine ⟨[_], rfl, ?_⟩
    refine et_1 (i := 8) (by kernel_rfl) ?_
    refine ei_i rfl rfl (wn_some rfl rfl rfl hb1 rfl) (os_call cb_18 rfl (fun w s => Put_calls _ _ _ _ _  s (by omega) (by first | omega | (simp; done) | (simp; omega)))) rfl ?_; rintro _ _ ⟨pa2, pc2, rfl, rfl⟩; refine ⟨[_], rfl, ?_⟩
    refine et_2 (i1 := 9) (i2 := 13) (by kernel_rfl) ?_ ?_
    · -- 9
      refine ei_i rfl rfl (wn_some rfl rfl rfl hb1 rfl) (os_q (op_b2s sB_26 Try.underlying5 Try.underlying9 rfl (rds_row 0 rfl rfl) rfl)) rfl ?_; rintro _ _ ⟨rfl, rfl⟩; refine ⟨[_], rfl, ?_⟩
      refine et_1 (i := 13) (by kernel_rfl) ?_
      refine ei_i rfl rfl (wn_some rfl rfl rfl hb1 rfl) (os_call cb_19 rfl (fun w s => RPut_calls _ _ _  s rfl (by omega))) rfl ?_; rintro _ l ⟨rfl, rfl⟩; refine ⟨[_], rfl, ?_⟩
      -- 14
      refine et_quiet 14 (by kernel_rfl) rfl (by kernel_rfl) (wn_some rfl rfl rfl hb1 rfl) (op_sadd rfl rfl (by rw [putB_length]; have := clamp8_le wd; omega)) rfl ?_
      -- 15
      refine et_quiet 15 (by kernel_rfl) rfl (by kernel_rfl) (wn_some rfl rfl rfl hb1 rfl) (op_seql rfl rfl) rfl ?_
      -- 16
      refine et_quiet 16 (by kernel_rfl) rfl (by kernel_rfl) (wn_none rfl) (op_pick_f (v := .bool _) rfl hb1 rfl) rfl ?_
      -- 17
      refine et_quiet 17 (by kernel_rfl) rfl (by kernel_rfl) (wn_none rfl) (op_assign (v := .bool _) rfl) rfl ?_
      refine et_nil_then (by kernel_rfl) ?_
      refine cd_ret ?_
      first | exact px_ret1 rfl (v := .bool _) rfl (fun _ s => s) ⟨by simp, rfl⟩ | exact px_ret1 rfl (v := .bool _) rfl (fun _ s => s.del 0) ⟨by simp, rfl⟩
    · -- 13
      refine ei_i rfl rfl (wn_some rfl rfl rfl hb1 rfl) (os_call cb_19 rfl (fun w s => RPut_calls _ _ _  s rfl (by omega))) rfl ?_; rintro _ l ⟨rfl, rfl⟩; refine ⟨[_], rfl, ?_⟩
      -- 14
      refine et_quiet 14 (by kernel_rfl) rfl (by kernel_rfl) (wn_some rfl rfl rfl hb1 rfl) (op_sadd rfl rfl (by rw [putB_length]; have := clamp8_le wd; omega)) rfl ?_
      refine et_1 (i := 9) (by kernel_rfl) ?_
      refine ei_i rfl rfl (wn_some rfl rfl rfl hb1 rfl) (os_q (op_b2s sB_26 Try.underlying5 Try.underlying9 rfl (rds_row 0 rfl rfl) rfl)) rfl ?_; rintro _ _ ⟨rfl, rfl⟩; refine ⟨[_], rfl, ?_⟩
      -- 15
      refine et_quiet 15 (by kernel_rfl) rfl (by kernel_rfl) (wn_some rfl rfl rfl hb1 rfl) (op_seql rfl rfl) rfl ?_
      -- 16
      refine et_quiet 16 (by kernel_rfl) rfl (by kernel_rfl) (wn_none rfl) (op_pick_f (v := .bool _) rfl hb1 rfl) rfl ?_
      -- 17
      refine et_quiet 17 (by kernel_rfl) rfl (by kernel_rfl) (wn_none rfl) (op_assign (v := .bool _) rfl) rfl ?_
      refine et_nil_then (by kernel_rfl) ?_
      refine cd_ret ?_
      first | exact px_ret1 rfl (v := .bool _) rfl (fun _ s => s) ⟨by simp, rfl⟩ | exact px_ret1 rfl (v := .bool _) rfl (fun _ s => s.del 0) ⟨by simp, rfl⟩

theorem LeWidths_calls {w0 w : World} {l : List HProp} (A : Nat) (a b : Int) (hs : Sat w0 w (l)) (hA : A < 18446744073709551616) :
    Calls Try.prog 7 #[.int .u64 (A : Int), .int .i64 a, .int .i64 b] w (Ret w0 fun v l' => v = .bool true ∧ l' = l) := by
  refine calls_enter Try.func7 rfl rfl rfl hs ?_
  refine cd_sr ?_   -- 0
  refine ol_q (wn_none rfl) (op_assign (v := .bool _) rfl) rfl ?_
  refine ol_nil_then ?_
  refine cd_seq ?_
  refine cd_sr ?_   -- 1
  refine ol_i (wn_none rfl) (os_call cb_17 rfl (fun w s => leAlive_calls  s )) rfl ?_; rintro _ l ⟨rfl, rfl⟩
  refine ol_q (wn_none rfl) (op_not rfl) rfl ?_
  refine ol_nil_then ?_
  refine cd_cond_f rfl rfl ?_
  refine cd_skip ?_
  refine px_then ?_
  refine cd_seq ?_
  refine cd_sr ?_   -- 3
  refine ol_q (wn_none rfl) (op_move (v := .int _ _) rfl) rfl ?_
  refine ol_q (wn_none rfl) (op_lt rfl rfl) rfl ?_
  refine ol_q (wn_none rfl) (op_move (v := .bool _) rfl) rfl ?_
  refine ol_split 13 rfl (fun hb1 => ?_) (fun hb1 => ?_)
  · have hp1 := hb1
    (try simp only [decide_eq_true_eq, decide_eq_false_iff_not, Bool.not_eq_true', Bool.not_eq_false', ne_eq, Decidable.not_not] at hp1)
    refine ol_skip (wn_some rfl rfl rfl hb1 rfl) rfl ?_
    refine ol_skip (wn_some rfl rfl rfl hb1 rfl) rfl ?_
    refine ol_skip (wn_some rfl rfl rfl hb1 rfl) rfl ?_
    refine ol_q (wn_none rfl) (op_pick_t (v := .bool _) rfl hb1 rfl) rfl ?_
    refine ol_q (wn_none rfl) (op_move (v := .bool _) rfl) rfl ?_
    refine ol_skip (wn_some rfl rfl rfl rfl rfl) rfl ?_
    refine ol_skip (wn_some rfl rfl rfl rfl rfl) rfl ?_
    refine ol_q (wn_none rfl) (op_pick_t (v := .bool _) rfl rfl rfl) rfl ?_
    refine ol_nil_then ?_
    refine cd_cond_t rfl rfl ?_
    refine cd_sr ?_   -- 4
    refine ol_q (wn_none rfl) (op_assign (v := .bool _) rfl) rfl ?_
    refine ol_nil_then ?_
    refine cd_ret ?_
    refine px_thenR ?_
    first | exact px_ret1 rfl (v := .bool _) rfl (fun _ s => s) ⟨congrArg Value.bool (rfl), rfl⟩ | exact px_ret1 rfl (v := .bool _) rfl (fun _ s => s) ⟨congrArg Value.bool (decide_eq_true (by rw [List.nil_append, List.nil_append, show a.toNat = clamp8 a by omega, putB_take A _ _ (by omega)])), rfl⟩
  · have hp1 := hb1
    (try simp only [decide_eq_true_eq, decide_eq_false_iff_not, Bool.not_eq_true', Bool.not_eq_false', ne_eq, Decidable.not_not] at hp1)
    refine ol_q (wn_some rfl rfl rfl hb1 rfl) (op_move (v := .int _ _) rfl) rfl ?_
    refine ol_q (wn_some rfl rfl rfl hb1 rfl) (op_move (v := .int _ _) rfl) rfl ?_
    refine ol_q (wn_some rfl rfl rfl hb1 rfl) (op_lt rfl rfl) rfl ?_
    refine ol_q (wn_none rfl) (op_pick_f (v := .bool _) rfl hb1 rfl) rfl ?_
    refine ol_q (wn_none rfl) (op_move (v := .bool _) rfl) rfl ?_
    refine ol_split 18 rfl (fun hb2 => ?_) (fun hb2 => ?_)
    · have hp2 := hb2
      (try simp only [decide_eq_true_eq, decide_eq_false_iff_not, Bool.not_eq_true', Bool.not_eq_false', ne_eq, Decidable.not_not] at hp2)
      refine ol_skip (wn_some rfl rfl rfl hb2 rfl) rfl ?_
      refine ol_skip (wn_some rfl rfl rfl hb2 rfl) rfl ?_
      refine ol_q (wn_none rfl) (op_pick_t (v := .bool _) rfl hb2 rfl) rfl ?_
      refine ol_nil_then ?_
      refine cd_cond_t rfl rfl ?_
      refine cd_sr ?_   -- 4
      refine ol_q (wn_none rfl) (op_assign (v := .bool _) rfl) rfl ?_
      refine ol_nil_then ?_
      refine cd_ret ?_
      refine px_thenR ?_
      first | exact px_ret1 rfl (v := .bool _) rfl (fun _ s => s) ⟨congrArg Value.bool (rfl), rfl⟩ | exact px_ret1 rfl (v := .bool _) rfl (fun _ s => s) ⟨congrArg Value.bool (decide_eq_true (by rw [List.nil_append, List.nil_append, show a.toNat = clamp8 a by omega, putB_take A _ _ (by omega)])), rfl⟩
    · have hp2 := hb2
      (try simp only [decide_eq_true_eq, decide_eq_false_iff_not, Bool.not_eq_true', Bool.not_eq_false', ne_eq, Decidable.not_not] at hp2)
      refine ol_q (wn_some rfl rfl rfl hb2 rfl) (op_move (v := .int _ _) rfl) rfl ?_
      refine ol_q (wn_some rfl rfl rfl hb2 rfl) (op_gt rfl rfl) rfl ?_
      refine ol_q (wn_none rfl) (op_pick_f (v := .bool _) rfl hb2 rfl) rfl ?_
      refine ol_nil_then ?_
      refine cd_cond rfl (fun hb3 => ?_) (fun hb3 => ?_)
      · have hp3 := hb3
        (try simp only [decide_eq_true_eq, decide_eq_false_iff_not, Bool.not_eq_true', Bool.not_eq_false', ne_eq, Decidable.not_not] at hp3)
        refine cd_sr ?_   -- 4
        refine ol_q (wn_none rfl) (op_assign (v := .bool _) rfl) rfl ?_
        refine ol_nil_then ?_
        refine cd_ret ?_
        refine px_thenR ?_
        first | exact px_ret1 rfl (v := .bool _) rfl (fun _ s => s) ⟨congrArg Value.bool (rfl), rfl⟩ | exact px_ret1 rfl (v := .bool _) rfl (fun _ s => s) ⟨congrArg Value.bool (decide_eq_true (by rw [List.nil_append, List.nil_append, show a.toNat = clamp8 a by omega, putB_take A _ _ (by omega)])), rfl⟩
      · have hp3 := hb3
        (try simp only [decide_eq_true_eq, decide_eq_false_iff_not, Bool.not_eq_true', Bool.not_eq_false', ne_eq, Decidable.not_not] at hp3)
        have ha := clamp8_of (w := a) (by omega) (by omega)
        have hb := clamp8_of (w := b) (by omega) (by omega)
        have hla : ([] ++ putB A (clamp8 a)).length = clamp8 a := by simp [putB_length]
        have hlb : ([] ++ putB A (clamp8 b)).length = clamp8 b := by simp [putB_length]
        refine cd_skip ?_
        refine px_then ?_
        refine cd_seq ?_   -- 5
        refine cd_drawe (M := []) mx [2, 3, 6, 7] ?_
        -- 0
        refine et_quiet 0 (by kernel_rfl) rfl (by kernel_rfl) (wn_none rfl) (op_move (v := .int _ _) rfl) rfl ?_
        -- 1
        refine et_quiet 1 (by kernel_rfl) rfl (by kernel_rfl) (wn_none rfl) (op_move (v := .int _ _) rfl) rfl ?_
        -- 4
        refine et_quiet 4 (by kernel_rfl) rfl (by kernel_rfl) (wn_none rfl) (op_move (v := .int _ _) rfl) rfl ?_
        -- 5
        refine et_quiet 5 (by kernel_rfl) rfl (by kernel_rfl) (wn_none rfl) (op_move (v := .int _ _) rfl) rfl ?_
        refine et_1 (i := 2) (by kernel_rfl) ?_
        refine ei_i rfl rfl (wn_none rfl) (os_rownil (E := encU8) 5 (os_call cb_18 rfl (fun w s => Put_calls (ao := none) (bs := []) (c := 0) _ _  s (by omega) (by first | omega | (simp; done) | (simp; omega))))) rfl ?_; rintro _ _ ⟨pa2, pc2, rfl, rfl⟩; refine ⟨[_], rfl, ?_⟩
        refine et_2 (i1 := 3) (i2 := 6) (by kernel_rfl) ?_ ?_
        · -- 3
          refine ei_i rfl rfl (wn_none rfl) (os_q (op_b2s sB_26 Try.underlying5 Try.underlying9 rfl (rds_row 0 rfl rfl) rfl)) rfl ?_; rintro _ _ ⟨rfl, rfl⟩; refine ⟨[_], rfl, ?_⟩
          refine et_1 (i := 6) (by kernel_rfl) ?_
          refine ei_i rfl rfl (wn_none rfl) (os_rownil (E := encU8) 5 (os_call cb_18 rfl (fun w s => Put_calls (ao := none) (bs := []) (c := 0) _ _  s (by omega) (by first | omega | (simp; done) | (simp; omega))))) rfl ?_; rintro _ _ ⟨pa3, pc3, rfl, rfl⟩; refine ⟨[_, _], rfl, ?_⟩
          -- 8
          refine et_quiet 8 (by kernel_rfl) rfl (by kernel_rfl) (wn_none rfl) (op_assign (v := .string _) rfl) rfl ?_
          refine et_1 (i := 7) (by kernel_rfl) ?_
          refine ei_i rfl rfl (wn_none rfl) (os_q (op_b2s sB_26 Try.underlying5 Try.underlying9 rfl (rds_row 0 rfl rfl) rfl)) rfl ?_; rintro _ _ ⟨rfl, rfl⟩; refine ⟨[_, _], rfl, ?_⟩
          -- 9
          refine et_quiet 9 (by kernel_rfl) rfl (by kernel_rfl) (wn_none rfl) (op_assign (v := .string _) rfl) rfl ?_
          refine et_nil_then (by kernel_rfl) ?_
          refine cd_sr ?_   -- 6
          refine ol_q (wn_none rfl) (op_move (v := .string _) rfl) rfl ?_
          refine ol_q (wn_none rfl) (op_len_string Try.underlying9 rfl) rfl ?_
          refine ol_q (wn_none rfl) (op_move (v := .int _ _) rfl) rfl ?_
          refine ol_q (wn_none rfl) (op_eq rfl rfl) rfl ?_
          refine ol_q (wn_none rfl) (op_move (v := .bool _) rfl) rfl ?_
          refine ol_split 34 rfl (fun hb4 => ?_) (fun hb4 => ?_)
          · have hp4 := hb4
            (try simp only [decide_eq_true_eq, decide_eq_false_iff_not, Bool.not_eq_true', Bool.not_eq_false', ne_eq, Decidable.not_not] at hp4)
            refine ol_q (wn_some rfl rfl rfl hb4 rfl) (op_move (v := .string _) rfl) rfl ?_
            refine ol_q (wn_some rfl rfl rfl hb4 rfl) (op_len_string Try.underlying9 rfl) rfl ?_
            refine ol_q (wn_some rfl rfl rfl hb4 rfl) (op_move (v := .int _ _) rfl) rfl ?_
            refine ol_q (wn_some rfl rfl rfl hb4 rfl) (op_eq rfl rfl) rfl ?_
            refine ol_q (wn_none rfl) (op_pick_t (v := .bool _) rfl hb4 rfl) rfl ?_
            refine ol_q (wn_none rfl) (op_move (v := .bool _) rfl) rfl ?_
            refine ol_split 40 rfl (fun hb5 => ?_) (fun hb5 => ?_)
            · have hp5 := hb5
              (try simp only [decide_eq_true_eq, decide_eq_false_iff_not, Bool.not_eq_true', Bool.not_eq_false', ne_eq, Decidable.not_not] at hp5)
              refine ol_q (wn_some rfl rfl rfl hb5 rfl) (op_move (v := .string _) rfl) rfl ?_
              refine ol_q (wn_some rfl rfl rfl hb5 rfl) (op_move (v := .int _ _) rfl) rfl ?_
              refine ol_q (wn_some rfl rfl rfl hb5 rfl) (op_sslice_to _ Try.underlying9 rfl rfl (Int.toNat_of_nonneg (by omega)).symm (by omega)) rfl ?_
              refine ol_q (wn_some rfl rfl rfl hb5 rfl) (op_move (v := .string _) rfl) rfl ?_
              refine ol_q (wn_some rfl rfl rfl hb5 rfl) (op_seql rfl rfl) rfl ?_
              refine ol_q (wn_none rfl) (op_pick_t (v := .bool _) rfl hb5 rfl) rfl ?_
              refine ol_q (wn_none rfl) (op_assign (v := .bool _) rfl) rfl ?_
              refine ol_nil_then ?_
              refine cd_ret ?_
              first | exact px_ret1 rfl (v := .bool _) rfl (fun _ s => ((s.del 1).del 0)) ⟨congrArg Value.bool (rfl), rfl⟩ | exact px_ret1 rfl (v := .bool _) rfl (fun _ s => ((s.del 1).del 0)) ⟨congrArg Value.bool (decide_eq_true (by rw [List.nil_append, List.nil_append, show a.toNat = clamp8 a by omega, putB_take A _ _ (by omega)])), rfl⟩
            · have hp5 := hb5
              (try simp only [decide_eq_true_eq, decide_eq_false_iff_not, Bool.not_eq_true', Bool.not_eq_false', ne_eq, Decidable.not_not] at hp5)
              exact absurd hp5 (by omega)
          · have hp4 := hb4
            (try simp only [decide_eq_true_eq, decide_eq_false_iff_not, Bool.not_eq_true', Bool.not_eq_false', ne_eq, Decidable.not_not] at hp4)
            exact absurd hp4 (by omega)
        · -- 6
          refine ei_i rfl rfl (wn_none rfl) (os_rownil (E := encU8) 5 (os_call cb_18 rfl (fun w s => Put_calls (ao := none) (bs := []) (c := 0) _ _  s (by omega) (by first | omega | (simp; done) | (simp; omega))))) rfl ?_; rintro _ _ ⟨pa4, pc4, rfl, rfl⟩; refine ⟨[_, _], rfl, ?_⟩
          refine et_2 (i1 := 3) (i2 := 7) (by kernel_rfl) ?_ ?_
          · -- 3
            refine ei_i rfl rfl (wn_none rfl) (os_q (op_b2s sB_26 Try.underlying5 Try.underlying9 rfl (rds_row 1 rfl rfl) rfl)) rfl ?_; rintro _ _ ⟨rfl, rfl⟩; refine ⟨[_, _], rfl, ?_⟩
            -- 8
            refine et_quiet 8 (by kernel_rfl) rfl (by kernel_rfl) (wn_none rfl) (op_assign (v := .string _) rfl) rfl ?_
            refine et_1 (i := 7) (by kernel_rfl) ?_
            refine ei_i rfl rfl (wn_none rfl) (os_q (op_b2s sB_26 Try.underlying5 Try.underlying9 rfl (rds_row 0 rfl rfl) rfl)) rfl ?_; rintro _ _ ⟨rfl, rfl⟩; refine ⟨[_, _], rfl, ?_⟩
            -- 9
            refine et_quiet 9 (by kernel_rfl) rfl (by kernel_rfl) (wn_none rfl) (op_assign (v := .string _) rfl) rfl ?_
            refine et_nil_then (by kernel_rfl) ?_
            refine cd_sr ?_   -- 6
            refine ol_q (wn_none rfl) (op_move (v := .string _) rfl) rfl ?_
            refine ol_q (wn_none rfl) (op_len_string Try.underlying9 rfl) rfl ?_
            refine ol_q (wn_none rfl) (op_move (v := .int _ _) rfl) rfl ?_
            refine ol_q (wn_none rfl) (op_eq rfl rfl) rfl ?_
            refine ol_q (wn_none rfl) (op_move (v := .bool _) rfl) rfl ?_
            refine ol_split 34 rfl (fun hb6 => ?_) (fun hb6 => ?_)
            · have hp6 := hb6
              (try simp only [decide_eq_true_eq, decide_eq_false_iff_not, Bool.not_eq_true', Bool.not_eq_false', ne_eq, Decidable.not_not] at hp6)
              refine ol_q (wn_some rfl rfl rfl hb6 rfl) (op_move (v := .string _) rfl) rfl ?_
              refine ol_q (wn_some rfl rfl rfl hb6 rfl) (op_len_string Try.underlying9 rfl) rfl ?_
              refine ol_q (wn_some rfl rfl rfl hb6 rfl) (op_move (v := .int _ _) rfl) rfl ?_
              refine ol_q (wn_some rfl rfl rfl hb6 rfl) (op_eq rfl rfl) rfl ?_
              refine ol_q (wn_none rfl) (op_pick_t (v := .bool _) rfl hb6 rfl) rfl ?_
              refine ol_q (wn_none rfl) (op_move (v := .bool _) rfl) rfl ?_
              refine ol_split 40 rfl (fun hb7 => ?_) (fun hb7 => ?_)
              · have hp7 := hb7
                (try simp only [decide_eq_true_eq, decide_eq_false_iff_not, Bool.not_eq_true', Bool.not_eq_false', ne_eq, Decidable.not_not] at hp7)
                refine ol_q (wn_some rfl rfl rfl hb7 rfl) (op_move (v := .string _) rfl) rfl ?_
                refine ol_q (wn_some rfl rfl rfl hb7 rfl) (op_move (v := .int _ _) rfl) rfl ?_
                refine ol_q (wn_some rfl rfl rfl hb7 rfl) (op_sslice_to _ Try.underlying9 rfl rfl (Int.toNat_of_nonneg (by omega)).symm (by omega)) rfl ?_
                refine ol_q (wn_some rfl rfl rfl hb7 rfl) (op_move (v := .string _) rfl) rfl ?_
                refine ol_q (wn_some rfl rfl rfl hb7 rfl) (op_seql rfl rfl) rfl ?_
                refine ol_q (wn_none rfl) (op_pick_t (v := .bool _) rfl hb7 rfl) rfl ?_
                refine ol_q (wn_none rfl) (op_assign (v := .bool _) rfl) rfl ?_
                refine ol_nil_then ?_
                refine cd_ret ?_
                first | exact px_ret1 rfl (v := .bool _) rfl (fun _ s => ((s.del 1).del 0)) ⟨congrArg Value.bool (rfl), rfl⟩ | exact px_ret1 rfl (v := .bool _) rfl (fun _ s => ((s.del 1).del 0)) ⟨congrArg Value.bool (decide_eq_true (by rw [List.nil_append, List.nil_append, show a.toNat = clamp8 a by omega, putB_take A _ _ (by omega)])), rfl⟩
              · have hp7 := hb7
                (try simp only [decide_eq_true_eq, decide_eq_false_iff_not, Bool.not_eq_true', Bool.not_eq_false', ne_eq, Decidable.not_not] at hp7)
                exact absurd hp7 (by omega)
            · have hp6 := hb6
              (try simp only [decide_eq_true_eq, decide_eq_false_iff_not, Bool.not_eq_true', Bool.not_eq_false', ne_eq, Decidable.not_not] at hp6)
              exact absurd hp6 (by omega)
          · -- 7
            refine ei_i rfl rfl (wn_none rfl) (os_q (op_b2s sB_26 Try.underlying5 Try.underlying9 rfl (rds_row 0 rfl rfl) rfl)) rfl ?_; rintro _ _ ⟨rfl, rfl⟩; refine ⟨[_, _], rfl, ?_⟩
            refine et_1 (i := 3) (by kernel_rfl) ?_
            refine ei_i rfl rfl (wn_none rfl) (os_q (op_b2s sB_26 Try.underlying5 Try.underlying9 rfl (rds_row 1 rfl rfl) rfl)) rfl ?_; rintro _ _ ⟨rfl, rfl⟩; refine ⟨[_, _], rfl, ?_⟩
            -- 8
            refine et_quiet 8 (by kernel_rfl) rfl (by kernel_rfl) (wn_none rfl) (op_assign (v := .string _) rfl) rfl ?_
            -- 9
            refine et_quiet 9 (by kernel_rfl) rfl (by kernel_rfl) (wn_none rfl) (op_assign (v := .string _) rfl) rfl ?_
            refine et_nil_then (by kernel_rfl) ?_
            refine cd_sr ?_   -- 6
            refine ol_q (wn_none rfl) (op_move (v := .string _) rfl) rfl ?_
            refine ol_q (wn_none rfl) (op_len_string Try.underlying9 rfl) rfl ?_
            refine ol_q (wn_none rfl) (op_move (v := .int _ _) rfl) rfl ?_
            refine ol_q (wn_none rfl) (op_eq rfl rfl) rfl ?_
            refine ol_q (wn_none rfl) (op_move (v := .bool _) rfl) rfl ?_
            refine ol_split 34 rfl (fun hb8 => ?_) (fun hb8 => ?_)
            · have hp8 := hb8
              (try simp only [decide_eq_true_eq, decide_eq_false_iff_not, Bool.not_eq_true', Bool.not_eq_false', ne_eq, Decidable.not_not] at hp8)
              refine ol_q (wn_some rfl rfl rfl hb8 rfl) (op_move (v := .string _) rfl) rfl ?_
              refine ol_q (wn_some rfl rfl rfl hb8 rfl) (op_len_string Try.underlying9 rfl) rfl ?_
              refine ol_q (wn_some rfl rfl rfl hb8 rfl) (op_move (v := .int _ _) rfl) rfl ?_
              refine ol_q (wn_some rfl rfl rfl hb8 rfl) (op_eq rfl rfl) rfl ?_
              refine ol_q (wn_none rfl) (op_pick_t (v := .bool _) rfl hb8 rfl) rfl ?_
              refine ol_q (wn_none rfl) (op_move (v := .bool _) rfl) rfl ?_
              refine ol_split 40 rfl (fun hb9 => ?_) (fun hb9 => ?_)
              · have hp9 := hb9
                (try simp only [decide_eq_true_eq, decide_eq_false_iff_not, Bool.not_eq_true', Bool.not_eq_false', ne_eq, Decidable.not_not] at hp9)
                refine ol_q (wn_some rfl rfl rfl hb9 rfl) (op_move (v := .string _) rfl) rfl ?_
                refine ol_q (wn_some rfl rfl rfl hb9 rfl) (op_move (v := .int _ _) rfl) rfl ?_
                refine ol_q (wn_some rfl rfl rfl hb9 rfl) (op_sslice_to _ Try.underlying9 rfl rfl (Int.toNat_of_nonneg (by omega)).symm (by omega)) rfl ?_
                refine ol_q (wn_some rfl rfl rfl hb9 rfl) (op_move (v := .string _) rfl) rfl ?_
                refine ol_q (wn_some rfl rfl rfl hb9 rfl) (op_seql rfl rfl) rfl ?_
                refine ol_q (wn_none rfl) (op_pick_t (v := .bool _) rfl hb9 rfl) rfl ?_
                refine ol_q (wn_none rfl) (op_assign (v := .bool _) rfl) rfl ?_
                refine ol_nil_then ?_
                refine cd_ret ?_
                first | exact px_ret1 rfl (v := .bool _) rfl (fun _ s => ((s.del 1).del 0)) ⟨congrArg Value.bool (rfl), rfl⟩ | exact px_ret1 rfl (v := .bool _) rfl (fun _ s => ((s.del 1).del 0)) ⟨congrArg Value.bool (decide_eq_true (by rw [List.nil_append, List.nil_append, show a.toNat = clamp8 a by omega, putB_take A _ _ (by omega)])), rfl⟩
              · have hp9 := hb9
                (try simp only [decide_eq_true_eq, decide_eq_false_iff_not, Bool.not_eq_true', Bool.not_eq_false', ne_eq, Decidable.not_not] at hp9)
                exact absurd hp9 (by omega)
            · have hp8 := hb8
              (try simp only [decide_eq_true_eq, decide_eq_false_iff_not, Bool.not_eq_true', Bool.not_eq_false', ne_eq, Decidable.not_not] at hp8)
              exact absurd hp8 (by omega)

theorem LeJoins_calls {w0 w : World} {l : List HProp} (s : List UInt8) (a b : Int) (hs : Sat w0 w (l))  :
    Calls Try.prog 9 #[.string (B s), .int .i64 a, .int .i64 b] w (Ret w0 fun v l' => v = .bool true ∧ l' = l) := by
  refine calls_enter Try.func9 rfl rfl rfl hs ?_
  refine cd_sr ?_   -- 0
  refine ol_q (wn_none rfl) (op_assign (v := .bool _) rfl) rfl ?_
  refine ol_nil_then ?_
  refine cd_seq ?_
  refine cd_sr ?_   -- 1
  refine ol_i (wn_none rfl) (os_call cb_17 rfl (fun w s => leAlive_calls  s )) rfl ?_; rintro _ l ⟨rfl, rfl⟩
  refine ol_q (wn_none rfl) (op_not rfl) rfl ?_
  refine ol_nil_then ?_
  refine cd_cond_f rfl rfl ?_
  refine cd_skip ?_
  refine px_then ?_
  refine cd_seq ?_
  refine cd_sr ?_   -- 3
  refine ol_q (wn_none rfl) (op_move (v := .string _) rfl) rfl ?_
  refine ol_q (wn_none rfl) (op_len_string Try.underlying9 rfl) rfl ?_
  refine ol_q (wn_none rfl) (op_gt rfl rfl) rfl ?_
  refine ol_q (wn_none rfl) (op_move (v := .bool _) rfl) rfl ?_
  refine ol_split 17 rfl (fun hb1 => ?_) (fun hb1 => ?_)
  · have hp1 := hb1
    (try simp only [decide_eq_true_eq, decide_eq_false_iff_not, Bool.not_eq_true', Bool.not_eq_false', ne_eq, Decidable.not_not] at hp1)
    refine ol_skip (wn_some rfl rfl rfl hb1 rfl) rfl ?_
    refine ol_skip (wn_some rfl rfl rfl hb1 rfl) rfl ?_
    refine ol_q (wn_none rfl) (op_pick_t (v := .bool _) rfl hb1 rfl) rfl ?_
    refine ol_q (wn_none rfl) (op_move (v := .bool _) rfl) rfl ?_
    refine ol_skip (wn_some rfl rfl rfl rfl rfl) rfl ?_
    refine ol_skip (wn_some rfl rfl rfl rfl rfl) rfl ?_
    refine ol_q (wn_none rfl) (op_pick_t (v := .bool _) rfl rfl rfl) rfl ?_
    refine ol_q (wn_none rfl) (op_move (v := .bool _) rfl) rfl ?_
    refine ol_skip (wn_some rfl rfl rfl rfl rfl) rfl ?_
    refine ol_skip (wn_some rfl rfl rfl rfl rfl) rfl ?_
    refine ol_q (wn_none rfl) (op_pick_t (v := .bool _) rfl rfl rfl) rfl ?_
    refine ol_q (wn_none rfl) (op_move (v := .bool _) rfl) rfl ?_
    refine ol_skip (wn_some rfl rfl rfl rfl rfl) rfl ?_
    refine ol_skip (wn_some rfl rfl rfl rfl rfl) rfl ?_
    refine ol_q (wn_none rfl) (op_pick_t (v := .bool _) rfl rfl rfl) rfl ?_
    refine ol_nil_then ?_
    refine cd_cond_t rfl rfl ?_
    refine cd_sr ?_   -- 4
    refine ol_q (wn_none rfl) (op_assign (v := .bool _) rfl) rfl ?_
    refine ol_nil_then ?_
    refine cd_ret ?_
    refine px_thenR ?_
    exact px_ret1 rfl (v := .bool _) rfl (fun _ s => s) ⟨congrArg Value.bool (rfl), rfl⟩
  · have hp1 := hb1
    (try simp only [decide_eq_true_eq, decide_eq_false_iff_not, Bool.not_eq_true', Bool.not_eq_false', ne_eq, Decidable.not_not] at hp1)
    refine ol_q (wn_some rfl rfl rfl hb1 rfl) (op_move (v := .int _ _) rfl) rfl ?_
    refine ol_q (wn_some rfl rfl rfl hb1 rfl) (op_lt rfl rfl) rfl ?_
    refine ol_q (wn_none rfl) (op_pick_f (v := .bool _) rfl hb1 rfl) rfl ?_
    refine ol_q (wn_none rfl) (op_move (v := .bool _) rfl) rfl ?_
    refine ol_split 21 rfl (fun hb2 => ?_) (fun hb2 => ?_)
    · have hp2 := hb2
      (try simp only [decide_eq_true_eq, decide_eq_false_iff_not, Bool.not_eq_true', Bool.not_eq_false', ne_eq, Decidable.not_not] at hp2)
      refine ol_skip (wn_some rfl rfl rfl hb2 rfl) rfl ?_
      refine ol_skip (wn_some rfl rfl rfl hb2 rfl) rfl ?_
      refine ol_q (wn_none rfl) (op_pick_t (v := .bool _) rfl hb2 rfl) rfl ?_
      refine ol_q (wn_none rfl) (op_move (v := .bool _) rfl) rfl ?_
      refine ol_skip (wn_some rfl rfl rfl rfl rfl) rfl ?_
      refine ol_skip (wn_some rfl rfl rfl rfl rfl) rfl ?_
      refine ol_q (wn_none rfl) (op_pick_t (v := .bool _) rfl rfl rfl) rfl ?_
      refine ol_q (wn_none rfl) (op_move (v := .bool _) rfl) rfl ?_
      refine ol_skip (wn_some rfl rfl rfl rfl rfl) rfl ?_
      refine ol_skip (wn_some rfl rfl rfl rfl rfl) rfl ?_
      refine ol_q (wn_none rfl) (op_pick_t (v := .bool _) rfl rfl rfl) rfl ?_
      refine ol_nil_then ?_
      refine cd_cond_t rfl rfl ?_
      refine cd_sr ?_   -- 4
      refine ol_q (wn_none rfl) (op_assign (v := .bool _) rfl) rfl ?_
      refine ol_nil_then ?_
      refine cd_ret ?_
      refine px_thenR ?_
      exact px_ret1 rfl (v := .bool _) rfl (fun _ s => s) ⟨congrArg Value.bool (rfl), rfl⟩
    · have hp2 := hb2
      (try simp only [decide_eq_true_eq, decide_eq_false_iff_not, Bool.not_eq_true', Bool.not_eq_false', ne_eq, Decidable.not_not] at hp2)
      refine ol_q (wn_some rfl rfl rfl hb2 rfl) (op_move (v := .int _ _) rfl) rfl ?_
      refine ol_q (wn_some rfl rfl rfl hb2 rfl) (op_lt rfl rfl) rfl ?_
      refine ol_q (wn_none rfl) (op_pick_f (v := .bool _) rfl hb2 rfl) rfl ?_
      refine ol_q (wn_none rfl) (op_move (v := .bool _) rfl) rfl ?_
      refine ol_split 25 rfl (fun hb3 => ?_) (fun hb3 => ?_)
      · have hp3 := hb3
        (try simp only [decide_eq_true_eq, decide_eq_false_iff_not, Bool.not_eq_true', Bool.not_eq_false', ne_eq, Decidable.not_not] at hp3)
        refine ol_skip (wn_some rfl rfl rfl hb3 rfl) rfl ?_
        refine ol_skip (wn_some rfl rfl rfl hb3 rfl) rfl ?_
        refine ol_q (wn_none rfl) (op_pick_t (v := .bool _) rfl hb3 rfl) rfl ?_
        refine ol_q (wn_none rfl) (op_move (v := .bool _) rfl) rfl ?_
        refine ol_skip (wn_some rfl rfl rfl rfl rfl) rfl ?_
        refine ol_skip (wn_some rfl rfl rfl rfl rfl) rfl ?_
        refine ol_q (wn_none rfl) (op_pick_t (v := .bool _) rfl rfl rfl) rfl ?_
        refine ol_nil_then ?_
        refine cd_cond_t rfl rfl ?_
        refine cd_sr ?_   -- 4
        refine ol_q (wn_none rfl) (op_assign (v := .bool _) rfl) rfl ?_
        refine ol_nil_then ?_
        refine cd_ret ?_
        refine px_thenR ?_
        exact px_ret1 rfl (v := .bool _) rfl (fun _ s => s) ⟨congrArg Value.bool (rfl), rfl⟩
      · have hp3 := hb3
        (try simp only [decide_eq_true_eq, decide_eq_false_iff_not, Bool.not_eq_true', Bool.not_eq_false', ne_eq, Decidable.not_not] at hp3)
        refine ol_q (wn_some rfl rfl rfl hb3 rfl) (op_move (v := .int _ _) rfl) rfl ?_
        refine ol_q (wn_some rfl rfl rfl hb3 rfl) (op_gt rfl rfl) rfl ?_
        refine ol_q (wn_none rfl) (op_pick_f (v := .bool _) rfl hb3 rfl) rfl ?_
        refine ol_q (wn_none rfl) (op_move (v := .bool _) rfl) rfl ?_
        refine ol_split 29 rfl (fun hb4 => ?_) (fun hb4 => ?_)
        · have hp4 := hb4
          (try simp only [decide_eq_true_eq, decide_eq_false_iff_not, Bool.not_eq_true', Bool.not_eq_false', ne_eq, Decidable.not_not] at hp4)
          refine ol_skip (wn_some rfl rfl rfl hb4 rfl) rfl ?_
          refine ol_skip (wn_some rfl rfl rfl hb4 rfl) rfl ?_
          refine ol_q (wn_none rfl) (op_pick_t (v := .bool _) rfl hb4 rfl) rfl ?_
          refine ol_nil_then ?_
          refine cd_cond_t rfl rfl ?_
          refine cd_sr ?_   -- 4
          refine ol_q (wn_none rfl) (op_assign (v := .bool _) rfl) rfl ?_
          refine ol_nil_then ?_
          refine cd_ret ?_
          refine px_thenR ?_
          exact px_ret1 rfl (v := .bool _) rfl (fun _ s => s) ⟨congrArg Value.bool (rfl), rfl⟩
        · have hp4 := hb4
          (try simp only [decide_eq_true_eq, decide_eq_false_iff_not, Bool.not_eq_true', Bool.not_eq_false', ne_eq, Decidable.not_not] at hp4)
          refine ol_q (wn_some rfl rfl rfl hb4 rfl) (op_move (v := .int _ _) rfl) rfl ?_
          refine ol_q (wn_some rfl rfl rfl hb4 rfl) (op_gt rfl rfl) rfl ?_
          refine ol_q (wn_none rfl) (op_pick_f (v := .bool _) rfl hb4 rfl) rfl ?_
          refine ol_nil_then ?_
          refine cd_cond rfl (fun hb5 => ?_) (fun hb5 => ?_)
          · have hp5 := hb5
            (try simp only [decide_eq_true_eq, decide_eq_false_iff_not, Bool.not_eq_true', Bool.not_eq_false', ne_eq, Decidable.not_not] at hp5)
            refine cd_sr ?_   -- 4
            refine ol_q (wn_none rfl) (op_assign (v := .bool _) rfl) rfl ?_
            refine ol_nil_then ?_
            refine cd_ret ?_
            refine px_thenR ?_
            exact px_ret1 rfl (v := .bool _) rfl (fun _ s => s) ⟨congrArg Value.bool (rfl), rfl⟩
          · have hp5 := hb5
            (try simp only [decide_eq_true_eq, decide_eq_false_iff_not, Bool.not_eq_true', Bool.not_eq_false', ne_eq, Decidable.not_not] at hp5)
            refine cd_skip ?_
            refine px_then ?_
            refine cd_sr ?_   -- 5
            refine ol_q (wn_none rfl) (op_move (v := .string _) rfl) rfl ?_
            refine ol_i (wn_none rfl) (os_call cb_20 rfl (fun w s => From_calls _  s )) rfl ?_; rintro _ _ ⟨p2, rfl, rfl⟩
            refine ol_q (wn_none rfl) (op_move (v := .string _) rfl) rfl ?_
            refine ol_i (wn_none rfl) (os_call cb_20 rfl (fun w s => From_calls _  s )) rfl ?_; rintro _ _ ⟨p3, rfl, rfl⟩
            refine ol_q (wn_none rfl) (op_assign (v := .pointer _) rfl) rfl ?_
            refine ol_q (wn_none rfl) (op_assign (v := .pointer _) rfl) rfl ?_
            refine ol_nil_then ?_
            refine cd_sr ?_   -- 6
            refine ol_q (wn_none rfl) (op_move (v := .pointer _) rfl) rfl ?_
            refine ol_q (wn_none rfl) (op_move (v := .int _ _) rfl) rfl ?_
            refine ol_pull1 ?_
            refine ol_i (wn_none rfl) (os_call cb_23 rfl (fun w s => Bytes_calls _ _ _  s )) rfl ?_; rintro _ _ ⟨rfl, rfl⟩
            refine ol_q (wn_none rfl) (op_assign (v := .string _) rfl) rfl ?_
            refine ol_nil_then ?_
            refine cd_sr ?_   -- 7
            refine ol_q (wn_none rfl) (op_move (v := .pointer _) rfl) rfl ?_
            refine ol_q (wn_none rfl) (op_move (v := .int _ _) rfl) rfl ?_
            refine ol_i (wn_none rfl) (os_call cb_23 rfl (fun w s => Bytes_calls _ _ _  s )) rfl ?_; rintro _ _ ⟨rfl, rfl⟩
            refine ol_q (wn_none rfl) (op_assign (v := .string _) rfl) rfl ?_
            refine ol_nil_then ?_
            refine cd_sr ?_   -- 8
            refine ol_q (wn_none rfl) (op_move (v := .pointer _) rfl) rfl ?_
            refine ol_q (wn_none rfl) (op_move (v := .int _ _) rfl) rfl ?_
            refine ol_q (wn_none rfl) (op_move (v := .int _ _) rfl) rfl ?_
            refine ol_q (wn_none rfl) (op_add rfl rfl (by omega) (by omega)) rfl ?_
            refine ol_pull1 ?_
            refine ol_i (wn_none rfl) (os_call cb_23 rfl (fun w s => Bytes_calls _ _ _  s )) rfl ?_; rintro _ _ ⟨rfl, rfl⟩
            refine ol_q (wn_none rfl) (op_assign (v := .string _) rfl) rfl ?_
            refine ol_nil_then ?_
            refine cd_seq ?_
            refine cd_sr ?_   -- 9
            refine ol_q (wn_none rfl) (op_move (v := .int _ _) rfl) rfl ?_
            refine ol_q (wn_none rfl) (op_move (v := .int _ _) rfl) rfl ?_
            refine ol_q (wn_none rfl) (op_add rfl rfl (by omega) (by omega)) rfl ?_
            refine ol_q (wn_none rfl) (op_move (v := .string _) rfl) rfl ?_
            refine ol_q (wn_none rfl) (op_len_string Try.underlying9 rfl) rfl ?_
            refine ol_q (wn_none rfl) (op_gt rfl rfl) rfl ?_
            refine ol_nil_then ?_
            refine cd_cond rfl (fun hb6 => ?_) (fun hb6 => ?_)
            · have hp6 := hb6
              (try simp only [decide_eq_true_eq, decide_eq_false_iff_not, Bool.not_eq_true', Bool.not_eq_false', ne_eq, Decidable.not_not] at hp6)
              obtain ⟨hj1, hj2⟩ := joins_bad (s := s) (a := a) (b := b) (by omega) (by omega) hp6
              refine cd_sr ?_   -- 10
              refine ol_q (wn_none rfl) (op_move (v := .string _) rfl) rfl ?_
              refine ol_q (wn_none rfl) (op_seql rfl rfl) rfl ?_
              refine ol_q (wn_none rfl) (op_move (v := .bool _) rfl) rfl ?_
              refine ol_split 56 rfl (fun hb7 => ?_) (fun hb7 => ?_)
              · have hp7 := hb7
                (try simp only [decide_eq_true_eq, decide_eq_false_iff_not, Bool.not_eq_true', Bool.not_eq_false', ne_eq, Decidable.not_not] at hp7)
                refine ol_q (wn_some rfl rfl rfl hb7 rfl) (op_move (v := .string _) rfl) rfl ?_
                refine ol_q (wn_some rfl rfl rfl hb7 rfl) (op_seql rfl rfl) rfl ?_
                refine ol_q (wn_none rfl) (op_pick_t (v := .bool _) rfl hb7 rfl) rfl ?_
                refine ol_q (wn_none rfl) (op_move (v := .bool _) rfl) rfl ?_
                refine ol_split 60 rfl (fun hb8 => ?_) (fun hb8 => ?_)
                · have hp8 := hb8
                  (try simp only [decide_eq_true_eq, decide_eq_false_iff_not, Bool.not_eq_true', Bool.not_eq_false', ne_eq, Decidable.not_not] at hp8)
                  refine ol_q (wn_some rfl rfl rfl hb8 rfl) (op_move (v := .pointer _) rfl) rfl ?_
                  refine ol_pull1 ?_
                  refine ol_i (wn_some rfl rfl rfl hb8 rfl) (os_call cb_24 rfl (fun w s => Left_calls _ _  s )) rfl ?_; rintro _ _ ⟨rfl, rfl⟩
                  refine ol_q (wn_some rfl rfl rfl hb8 rfl) (op_eq rfl rfl) rfl ?_
                  refine ol_q (wn_none rfl) (op_pick_t (v := .bool _) rfl hb8 rfl) rfl ?_
                  refine ol_q (wn_none rfl) (op_move (v := .bool _) rfl) rfl ?_
                  refine ol_split 65 rfl (fun hb9 => ?_) (fun hb9 => ?_)
                  · have hp9 := hb9
                    (try simp only [decide_eq_true_eq, decide_eq_false_iff_not, Bool.not_eq_true', Bool.not_eq_false', ne_eq, Decidable.not_not] at hp9)
                    refine ol_q (wn_some rfl rfl rfl hb9 rfl) (op_move (v := .pointer _) rfl) rfl ?_
                    refine ol_pull1 ?_
                    refine ol_i (wn_some rfl rfl rfl hb9 rfl) (os_call cb_24 rfl (fun w s => Left_calls _ _  s )) rfl ?_; rintro _ _ ⟨rfl, rfl⟩
                    refine ol_q (wn_some rfl rfl rfl hb9 rfl) (op_eq rfl rfl) rfl ?_
                    refine ol_q (wn_none rfl) (op_pick_t (v := .bool _) rfl hb9 rfl) rfl ?_
                    refine ol_q (wn_none rfl) (op_move (v := .bool _) rfl) rfl ?_
                    refine ol_split 70 rfl (fun hb10 => ?_) (fun hb10 => ?_)
                    · have hp10 := hb10
                      (try simp only [decide_eq_true_eq, decide_eq_false_iff_not, Bool.not_eq_true', Bool.not_eq_false', ne_eq, Decidable.not_not] at hp10)
                      refine ol_q (wn_some rfl rfl rfl hb10 rfl) (op_move (v := .pointer _) rfl) rfl ?_
                      refine ol_pull1 ?_
                      refine ol_i (wn_some rfl rfl rfl hb10 rfl) (os_call cb_22 rfl (fun w s => End_calls _ _  s )) rfl ?_; rintro _ _ ⟨rfl, rfl⟩
                      refine ol_q (wn_some rfl rfl rfl hb10 rfl) (op_not rfl) rfl ?_
                      refine ol_q (wn_none rfl) (op_pick_t (v := .bool _) rfl hb10 rfl) rfl ?_
                      refine ol_q (wn_none rfl) (op_move (v := .bool _) rfl) rfl ?_
                      refine ol_split 75 rfl (fun hb11 => ?_) (fun hb11 => ?_)
                      · have hp11 := hb11
                        (try simp only [decide_eq_true_eq, decide_eq_false_iff_not, Bool.not_eq_true', Bool.not_eq_false', ne_eq, Decidable.not_not] at hp11)
                        refine ol_q (wn_some rfl rfl rfl hb11 rfl) (op_move (v := .pointer _) rfl) rfl ?_
                        refine ol_pull1 ?_
                        refine ol_i (wn_some rfl rfl rfl hb11 rfl) (os_call cb_22 rfl (fun w s => End_calls _ _  s )) rfl ?_; rintro _ _ ⟨rfl, rfl⟩
                        refine ol_q (wn_some rfl rfl rfl hb11 rfl) (op_not rfl) rfl ?_
                        refine ol_q (wn_none rfl) (op_pick_t (v := .bool _) rfl hb11 rfl) rfl ?_
                        refine ol_q (wn_none rfl) (op_assign (v := .bool _) rfl) rfl ?_
                        refine ol_nil_then ?_
                        refine cd_ret ?_
                        refine px_thenR ?_
                        exact px_ret1 rfl (v := .bool _) rfl (fun _ s => ((s.del 1).del 0)) ⟨congrArg Value.bool (by simp [hj1, hj2]), rfl⟩
                      · have hp11 := hb11
                        (try simp only [decide_eq_true_eq, decide_eq_false_iff_not, Bool.not_eq_true', Bool.not_eq_false', ne_eq, Decidable.not_not] at hp11)
                        exact absurd hb11 (by simp [hj1, hj2])
                    · have hp10 := hb10
                      (try simp only [decide_eq_true_eq, decide_eq_false_iff_not, Bool.not_eq_true', Bool.not_eq_false', ne_eq, Decidable.not_not] at hp10)
                      exact absurd hb10 (by simp [hj1, hj2])
                  · have hp9 := hb9
                    (try simp only [decide_eq_true_eq, decide_eq_false_iff_not, Bool.not_eq_true', Bool.not_eq_false', ne_eq, Decidable.not_not] at hp9)
                    exact absurd hb9 (by simp [hj1, hj2])
                · have hp8 := hb8
                  (try simp only [decide_eq_true_eq, decide_eq_false_iff_not, Bool.not_eq_true', Bool.not_eq_false', ne_eq, Decidable.not_not] at hp8)
                  exact absurd hb8 (by simp [hj1, hj2])
              · have hp7 := hb7
                (try simp only [decide_eq_true_eq, decide_eq_false_iff_not, Bool.not_eq_true', Bool.not_eq_false', ne_eq, Decidable.not_not] at hp7)
                exact absurd hb7 (by simp [hj1, hj2])
            · have hp6 := hb6
              (try simp only [decide_eq_true_eq, decide_eq_false_iff_not, Bool.not_eq_true', Bool.not_eq_false', ne_eq, Decidable.not_not] at hp6)
              obtain ⟨hj1, hj2, hj3⟩ := joins_ok (s := s) (a := a) (b := b) (by omega) (by omega) (by omega)
              refine cd_skip ?_
              refine px_then ?_
              refine cd_sr ?_   -- 11
              refine ol_q (wn_none rfl) (op_move (v := .string _) rfl) rfl ?_
              refine ol_q (wn_none rfl) (op_move (v := .string _) rfl) rfl ?_
              refine ol_q (wn_none rfl) (op_sadd rfl rfl (by rw [hj1, hj2]; simp; omega)) rfl ?_
              refine ol_q (wn_none rfl) (op_move (v := .string _) rfl) rfl ?_
              refine ol_q (wn_none rfl) (op_seql rfl rfl) rfl ?_
              refine ol_q (wn_none rfl) (op_move (v := .bool _) rfl) rfl ?_
              refine ol_split 85 rfl (fun hb12 => ?_) (fun hb12 => ?_)
              · have hp12 := hb12
                (try simp only [decide_eq_true_eq, decide_eq_false_iff_not, Bool.not_eq_true', Bool.not_eq_false', ne_eq, Decidable.not_not] at hp12)
                refine ol_q (wn_some rfl rfl rfl hb12 rfl) (op_move (v := .string _) rfl) rfl ?_
                refine ol_q (wn_some rfl rfl rfl hb12 rfl) (op_move (v := .string _) rfl) rfl ?_
                refine ol_q (wn_some rfl rfl rfl hb12 rfl) (op_move (v := .int _ _) rfl) rfl ?_
                refine ol_q (wn_some rfl rfl rfl hb12 rfl) (op_move (v := .int _ _) rfl) rfl ?_
                refine ol_q (wn_some rfl rfl rfl hb12 rfl) (op_add rfl rfl (by omega) (by omega)) rfl ?_
                refine ol_q (wn_some rfl rfl rfl hb12 rfl) (op_sslice_to _ Try.underlying9 rfl rfl (Int.toNat_of_nonneg (by omega)).symm (by omega)) rfl ?_
                refine ol_q (wn_some rfl rfl rfl hb12 rfl) (op_seql rfl rfl) rfl ?_
                refine ol_q (wn_none rfl) (op_pick_t (v := .bool _) rfl hb12 rfl) rfl ?_
                refine ol_q (wn_none rfl) (op_move (v := .bool _) rfl) rfl ?_
                refine ol_split 94 rfl (fun hb13 => ?_) (fun hb13 => ?_)
                · have hp13 := hb13
                  (try simp only [decide_eq_true_eq, decide_eq_false_iff_not, Bool.not_eq_true', Bool.not_eq_false', ne_eq, Decidable.not_not] at hp13)
                  refine ol_q (wn_some rfl rfl rfl hb13 rfl) (op_move (v := .pointer _) rfl) rfl ?_
                  refine ol_pull1 ?_
                  refine ol_i (wn_some rfl rfl rfl hb13 rfl) (os_call cb_24 rfl (fun w s => Left_calls _ _  s )) rfl ?_; rintro _ _ ⟨rfl, rfl⟩
                  refine ol_q (wn_some rfl rfl rfl hb13 rfl) (op_move (v := .pointer _) rfl) rfl ?_
                  refine ol_pull1 ?_
                  refine ol_i (wn_some rfl rfl rfl hb13 rfl) (os_call cb_24 rfl (fun w s => Left_calls _ _  s )) rfl ?_; rintro _ _ ⟨rfl, rfl⟩
                  refine ol_q (wn_some rfl rfl rfl hb13 rfl) (op_eq rfl rfl) rfl ?_
                  refine ol_q (wn_none rfl) (op_pick_t (v := .bool _) rfl hb13 rfl) rfl ?_
                  refine ol_q (wn_none rfl) (op_move (v := .bool _) rfl) rfl ?_
                  refine ol_split 101 rfl (fun hb14 => ?_) (fun hb14 => ?_)
                  · have hp14 := hb14
                    (try simp only [decide_eq_true_eq, decide_eq_false_iff_not, Bool.not_eq_true', Bool.not_eq_false', ne_eq, Decidable.not_not] at hp14)
                    refine ol_q (wn_some rfl rfl rfl hb14 rfl) (op_move (v := .pointer _) rfl) rfl ?_
                    refine ol_pull1 ?_
                    refine ol_i (wn_some rfl rfl rfl hb14 rfl) (os_call cb_22 rfl (fun w s => End_calls _ _  s )) rfl ?_; rintro _ _ ⟨rfl, rfl⟩
                    refine ol_q (wn_some rfl rfl rfl hb14 rfl) (op_move (v := .pointer _) rfl) rfl ?_
                    refine ol_pull1 ?_
                    refine ol_i (wn_some rfl rfl rfl hb14 rfl) (os_call cb_22 rfl (fun w s => End_calls _ _  s )) rfl ?_; rintro _ _ ⟨rfl, rfl⟩
                    refine ol_q (wn_some rfl rfl rfl hb14 rfl) (op_beql Try.underlying4 rfl rfl) rfl ?_
                    refine ol_q (wn_none rfl) (op_pick_t (v := .bool _) rfl hb14 rfl) rfl ?_
                    refine ol_q (wn_none rfl) (op_assign (v := .bool _) rfl) rfl ?_
                    refine ol_nil_then ?_
                    refine cd_ret ?_
                    exact px_ret1 rfl (v := .bool _) rfl (fun _ s => ((s.del 1).del 0)) ⟨congrArg Value.bool (decide_eq_true (by rw [hj2, hj3])), rfl⟩
                  · have hp14 := hb14
                    (try simp only [decide_eq_true_eq, decide_eq_false_iff_not, Bool.not_eq_true', Bool.not_eq_false', ne_eq, Decidable.not_not] at hp14)
                    exact absurd hb14 (by simp [hj1, hj2, hj3, take_add_toNat (s := s) (a := a) (b := b) (by omega) (by omega)])
                · have hp13 := hb13
                  (try simp only [decide_eq_true_eq, decide_eq_false_iff_not, Bool.not_eq_true', Bool.not_eq_false', ne_eq, Decidable.not_not] at hp13)
                  exact absurd hb13 (by simp [hj1, hj2, hj3, take_add_toNat (s := s) (a := a) (b := b) (by omega) (by omega)])
              · have hp12 := hb12
                (try simp only [decide_eq_true_eq, decide_eq_false_iff_not, Bool.not_eq_true', Bool.not_eq_false', ne_eq, Decidable.not_not] at hp12)
                exact absurd hb12 (by simp [hj1, hj2, hj3, take_add_toNat (s := s) (a := a) (b := b) (by omega) (by omega)])

theorem LeBack_calls {w0 w : World} {l : List HProp} (ao : Option Addr) (c : Nat) (xs : List Nat) (wd : Int) (hs : Sat w0 w (l)) (hr : Rds w0 l encU64 ao xs) (hq : ∀ a ∈ xs, a < 18446744073709551616) :
    Calls Try.prog 6 #[.slice ao xs.length c, .int .i64 wd] w (Ret w0 fun v l' => v = .bool true ∧ l' = l) := by
  refine calls_enter Try.func6 rfl rfl rfl hs ?_
  refine cd_sr ?_   -- 0
  refine ol_q (wn_none rfl) (op_assign (v := .bool _) rfl) rfl ?_
  refine ol_nil_then ?_
  refine cd_seq ?_
  refine cd_sr ?_   -- 1
  refine ol_i (wn_none rfl) (os_call cb_17 rfl (fun w s => leAlive_calls  s )) rfl ?_; rintro _ l ⟨rfl, rfl⟩
  refine ol_q (wn_none rfl) (op_not rfl) rfl ?_
  refine ol_nil_then ?_
  refine cd_cond_f rfl rfl ?_
  refine cd_skip ?_
  refine px_then ?_
  refine cd_seq ?_
  refine cd_sr ?_   -- 3
  refine ol_q (wn_none rfl) (op_move (v := .slice _ _ _) rfl) rfl ?_
  refine ol_q (wn_none rfl) (op_len_slice Try.underlying35 rfl) rfl ?_
  refine ol_q (wn_none rfl) (op_gt rfl rfl) rfl ?_
  refine ol_q (wn_none rfl) (op_move (v := .bool _) rfl) rfl ?_
  refine ol_split 18 rfl (fun hb1 => ?_) (fun hb1 => ?_)
  · have hp1 := hb1
    (try simp only [decide_eq_true_eq, decide_eq_false_iff_not, Bool.not_eq_true', Bool.not_eq_false', ne_eq, Decidable.not_not] at hp1)
    refine ol_skip (wn_some rfl rfl rfl hb1 rfl) rfl ?_
    refine ol_skip (wn_some rfl rfl rfl hb1 rfl) rfl ?_
    refine ol_q (wn_none rfl) (op_pick_t (v := .bool _) rfl hb1 rfl) rfl ?_
    refine ol_q (wn_none rfl) (op_move (v := .bool _) rfl) rfl ?_
    refine ol_skip (wn_some rfl rfl rfl rfl rfl) rfl ?_
    refine ol_skip (wn_some rfl rfl rfl rfl rfl) rfl ?_
    refine ol_q (wn_none rfl) (op_pick_t (v := .bool _) rfl rfl rfl) rfl ?_
    refine ol_nil_then ?_
    refine cd_cond_t rfl rfl ?_
    refine cd_sr ?_   -- 4
    refine ol_q (wn_none rfl) (op_assign (v := .bool _) rfl) rfl ?_
    refine ol_nil_then ?_
    refine cd_ret ?_
    refine px_thenR ?_
    exact px_ret1 rfl (v := .bool _) rfl (fun _ s => s) ⟨congrArg Value.bool (rfl), rfl⟩
  · have hp1 := hb1
    (try simp only [decide_eq_true_eq, decide_eq_false_iff_not, Bool.not_eq_true', Bool.not_eq_false', ne_eq, Decidable.not_not] at hp1)
    refine ol_q (wn_some rfl rfl rfl hb1 rfl) (op_move (v := .int _ _) rfl) rfl ?_
    refine ol_q (wn_some rfl rfl rfl hb1 rfl) (op_lt rfl rfl) rfl ?_
    refine ol_q (wn_none rfl) (op_pick_f (v := .bool _) rfl hb1 rfl) rfl ?_
    refine ol_q (wn_none rfl) (op_move (v := .bool _) rfl) rfl ?_
    refine ol_split 22 rfl (fun hb2 => ?_) (fun hb2 => ?_)
    · have hp2 := hb2
      (try simp only [decide_eq_true_eq, decide_eq_false_iff_not, Bool.not_eq_true', Bool.not_eq_false', ne_eq, Decidable.not_not] at hp2)
      refine ol_skip (wn_some rfl rfl rfl hb2 rfl) rfl ?_
      refine ol_skip (wn_some rfl rfl rfl hb2 rfl) rfl ?_
      refine ol_q (wn_none rfl) (op_pick_t (v := .bool _) rfl hb2 rfl) rfl ?_
      refine ol_nil_then ?_
      refine cd_cond_t rfl rfl ?_
      refine cd_sr ?_   -- 4
      refine ol_q (wn_none rfl) (op_assign (v := .bool _) rfl) rfl ?_
      refine ol_nil_then ?_
      refine cd_ret ?_
      refine px_thenR ?_
      exact px_ret1 rfl (v := .bool _) rfl (fun _ s => s) ⟨congrArg Value.bool (rfl), rfl⟩
    · have hp2 := hb2
      (try simp only [decide_eq_true_eq, decide_eq_false_iff_not, Bool.not_eq_true', Bool.not_eq_false', ne_eq, Decidable.not_not] at hp2)
      refine ol_q (wn_some rfl rfl rfl hb2 rfl) (op_move (v := .int _ _) rfl) rfl ?_
      refine ol_q (wn_some rfl rfl rfl hb2 rfl) (op_gt rfl rfl) rfl ?_
      refine ol_q (wn_none rfl) (op_pick_f (v := .bool _) rfl hb2 rfl) rfl ?_
      refine ol_nil_then ?_
      refine cd_cond rfl (fun hb3 => ?_) (fun hb3 => ?_)
      · have hp3 := hb3
        (try simp only [decide_eq_true_eq, decide_eq_false_iff_not, Bool.not_eq_true', Bool.not_eq_false', ne_eq, Decidable.not_not] at hp3)
        refine cd_sr ?_   -- 4
        refine ol_q (wn_none rfl) (op_assign (v := .bool _) rfl) rfl ?_
        refine ol_nil_then ?_
        refine cd_ret ?_
        refine px_thenR ?_
        exact px_ret1 rfl (v := .bool _) rfl (fun _ s => s) ⟨congrArg Value.bool (rfl), rfl⟩
      · have hp3 := hb3
        (try simp only [decide_eq_true_eq, decide_eq_false_iff_not, Bool.not_eq_true', Bool.not_eq_false', ne_eq, Decidable.not_not] at hp3)
        obtain ⟨k, rfl⟩ : ∃ k : Nat, wd = k := ⟨wd.toNat, by omega⟩
        have hk : clamp8 (k : Int) = k := by unfold clamp8; omega
        have hlen : ∀ i, (puts k (xs.take i)).length ≤ 800 := fun i => by
          rw [puts_length, List.length_take]
          exact Nat.le_trans (Nat.mul_le_mul (show k ≤ 8 by omega) (show min i xs.length ≤ 100 by omega)) (by decide)
        refine cd_skip ?_
        refine px_then ?_
        refine cd_sr ?_   -- 5
        refine ol_q (wn_none rfl) (op_assign (v := .slice _ _ _) rfl) rfl ?_
        refine ol_nil_then ?_
        refine cd_seq ?_
        refine cd_sr ?_   -- 6
        refine ol_q (wn_none rfl) (op_move (v := .slice _ _ _) rfl) rfl ?_
        refine ol_q (wn_none rfl) (op_len_slice Try.underlying35 rfl) rfl ?_
        refine ol_q (wn_none rfl) (op_move (v := .int _ _) rfl) rfl ?_
        refine ol_nil_then ?_
        refine cd_block ?_
        refine cd_loop (α := Nat × Option Addr × Nat) (fun x => [(0, .slice ao xs.length c), (1, .int .i64 (k : Int)), (5, .slice x.2.1 (puts k (xs.take x.1)).length x.2.2), (26, .slice ao xs.length c), (27, .int .i64 xs.length), (28, .int .i64 x.1)]) (fun x => Row 5 encU8 (.slice x.2.1 (puts k (xs.take x.1)).length x.2.2) (puts k (xs.take x.1)) :: l) (fun x => x.1 ≤ xs.length) (fun x => xs.length - x.1) (0, none, 0) (Nat.zero_le _) ⟨rfl, rfl, rfl, rfl, rfl, rfl, trivial⟩ (fun _ s => s.rowNil) ?_
        rintro ⟨i, v1, v2⟩ hi f; (try dsimp only at hi ⊢)
        refine cd_sr ?_   -- 7
        refine ol_q (wn_none rfl) (op_lt rfl rfl) rfl ?_
        refine ol_nil_then ?_
        refine cd_seq ?_
        refine cd_cond rfl (fun hb4 => ?_) (fun hb4 => ?_)
        · have hp4 := hb4
          (try simp only [decide_eq_true_eq, decide_eq_false_iff_not, Bool.not_eq_true', Bool.not_eq_false', ne_eq, Decidable.not_not] at hp4)
          have hi : i < xs.length := by omega
          have e1 : puts k (xs.take i) ++ putB xs[i] (clamp8 (k : Int)) = puts k (xs.take (i + 1)) := by rw [hk]; exact puts_take k xs i hi
          refine cd_skip ?_
          refine px_then ?_
          refine cd_seq ?_
          refine cd_block ?_
          refine cd_sr ?_   -- 8
          refine ol_q (wn_none rfl) (op_index _ sB_35 rfl rfl rfl (hr.cons _) rfl (by omega)) rfl ?_
          refine ol_q (wn_none rfl) (op_lde _ 0 sc_31 rfl (hr.cons _) (by omega) rfl rfl rfl) rfl ?_
          refine ol_q (wn_none rfl) (op_assign (v := .int _ _) rfl) rfl ?_
          refine ol_nil_then ?_
          refine cd_region ?_   -- 9
          refine ol_q (wn_none rfl) (op_move (v := .slice _ _ _) rfl) rfl ?_
          refine ol_q (wn_none rfl) (op_move (v := .int _ _) rfl) rfl ?_
          refine ol_q (wn_none rfl) (op_move (v := .int _ _) rfl) rfl ?_
          refine ol_i (wn_none rfl) (os_call cb_18 rfl (fun w s => Put_calls _ _ _ _ _  s (hq _ (List.getElem_mem _)) (Nat.le_trans (hlen _) (by decide)))) rfl ?_; rintro _ _ ⟨pa2, pc2, rfl, rfl⟩
          refine ol_q (wn_none rfl) (op_assign (v := .slice _ _ _) rfl) rfl ?_
          refine ol_nil ?_
          refine px_blockN ?_
          refine px_then ?_
          refine cd_region ?_   -- 10
          refine ol_q (wn_none rfl) (op_add rfl rfl (by omega) (by omega)) rfl ?_
          refine ol_q (wn_none rfl) (op_move (v := .int _ _) rfl) rfl ?_
          refine ol_nil ?_
          exact px_loop (i + 1, pa2, pc2) (by dsimp only; omega) (by dsimp only; omega) ⟨rfl, rfl, congrArg (fun q => Value.slice pa2 (List.length q) pc2) e1, rfl, rfl, congrArg (Value.int .i64) (by simp), trivial⟩ (fun _ s => by rw [e1] at s; exact s)
        · have hp4 := hb4
          (try simp only [decide_eq_true_eq, decide_eq_false_iff_not, Bool.not_eq_true', Bool.not_eq_false', ne_eq, Decidable.not_not] at hp4)
          have e : i = xs.length := by omega
          subst e
          rw [List.take_length]
          refine cd_exit ?_
          refine px_thenE ?_
          refine px_thenE ?_
          refine px_blockE ?_
          refine px_then ?_
          refine cd_sr ?_   -- 11
          refine ol_q (wn_none rfl) (op_move (v := .slice _ _ _) rfl) rfl ?_
          refine ol_q (wn_none rfl) (op_b2s sB_26 Try.underlying5 Try.underlying9 rfl (rds_row 0 rfl rfl) rfl) rfl ?_
          refine ol_i (wn_none rfl) (os_call cb_20 rfl (fun w s => From_calls _  s )) rfl ?_; rintro _ _ ⟨p3, rfl, rfl⟩
          refine ol_q (wn_none rfl) (op_assign (v := .pointer _) rfl) rfl ?_
          refine ol_nil_then ?_
          refine cd_sr ?_   -- 12
          refine ol_q (wn_none rfl) (op_assign (v := .slice _ _ _) rfl) rfl ?_
          refine ol_nil_then ?_
          refine cd_seq ?_
          refine cd_sr ?_   -- 13
          refine ol_q (wn_none rfl) (op_move (v := .slice _ _ _) rfl) rfl ?_
          refine ol_q (wn_none rfl) (op_len_slice Try.underlying35 rfl) rfl ?_
          refine ol_q (wn_none rfl) (op_move (v := .int _ _) rfl) rfl ?_
          refine ol_nil_then ?_
          refine cd_block ?_
          refine cd_loop (α := Nat × Option Addr × Nat) (fun x => [(0, .slice ao xs.length c), (1, .int .i64 (k : Int)), (5, .slice v1 (puts k xs).length v2), (8, .pointer (some ⟨p3, 0, none⟩)), (9, .slice x.2.1 (puts k (xs.take x.1)).length x.2.2), (40, .slice ao xs.length c), (41, .int .i64 xs.length), (42, .int .i64 x.1)]) (fun x => Row 5 encU8 (.slice x.2.1 (puts k (xs.take x.1)).length x.2.2) (puts k (xs.take x.1)) :: RdObj p3 ⟨puts k (xs.drop x.1), false⟩ :: Row 5 encU8 (.slice v1 (puts k xs).length v2) (puts k xs) :: l) (fun x => x.1 ≤ xs.length) (fun x => xs.length - x.1) (0, none, 0) (Nat.zero_le _) ⟨rfl, rfl, rfl, rfl, rfl, rfl, rfl, rfl, trivial⟩ (fun _ s => s.rowNil) ?_
          rintro ⟨j, v3, v4⟩ hj f; (try dsimp only at hj ⊢)
          refine cd_sr ?_   -- 14
          refine ol_q (wn_none rfl) (op_lt rfl rfl) rfl ?_
          refine ol_nil_then ?_
          refine cd_seq ?_
          refine cd_cond rfl (fun hb5 => ?_) (fun hb5 => ?_)
          · have hp5 := hb5
            (try simp only [decide_eq_true_eq, decide_eq_false_iff_not, Bool.not_eq_true', Bool.not_eq_false', ne_eq, Decidable.not_not] at hp5)
            have hj : j < xs.length := by omega
            have hx := hq _ (List.getElem_mem hj)
            have hrd := puts_read k xs j hj (by omega)
            have e1 : puts k (xs.take j) ++ putB (xs[j] % 256 ^ k) (clamp8 (k : Int)) = puts k (xs.take (j + 1)) := by rw [hk, putB_mod]; exact puts_take k xs j hj
            have hmod : k = 8 → xs[j] % 256 ^ k = xs[j] := fun h => by subst h; exact Nat.mod_eq_of_lt hx
            refine cd_skip ?_
            refine px_then ?_
            refine cd_seq ?_
            refine cd_block ?_
            refine cd_sr ?_   -- 15
            refine ol_q (wn_none rfl) (op_index _ sB_35 rfl rfl rfl (((hr.cons _).cons _).cons _) rfl (by omega)) rfl ?_
            refine ol_q (wn_none rfl) (op_lde _ 0 sc_31 rfl (((hr.cons _).cons _).cons _) (by omega) rfl rfl rfl) rfl ?_
            refine ol_q (wn_none rfl) (op_assign (v := .int _ _) rfl) rfl ?_
            refine ol_nil_then ?_
            refine cd_sr ?_   -- 16
            refine ol_q (wn_none rfl) (op_move (v := .pointer _) rfl) rfl ?_
            refine ol_q (wn_none rfl) (op_move (v := .int _ _) rfl) rfl ?_
            refine ol_pull1 ?_
            refine ol_i (wn_none rfl) (os_call cb_21 rfl (fun w s => Uint_calls _ _ _  s )) rfl ?_; rintro _ _ ⟨rfl, rfl⟩; simp only [hrd]
            refine ol_q (wn_none rfl) (op_assign (v := .int _ _) rfl) rfl ?_
            refine ol_nil_then ?_
            refine cd_seq ?_
            refine cd_sr ?_   -- 17
            refine ol_q (wn_none rfl) (op_move (v := .int _ _) rfl) rfl ?_
            refine ol_q (wn_none rfl) (op_lt rfl rfl) rfl ?_
            refine ol_q (wn_none rfl) (op_move (v := .bool _) rfl) rfl ?_
            refine ol_split 51 rfl (fun hb6 => ?_) (fun hb6 => ?_)
            · have hp6 := hb6
              (try simp only [decide_eq_true_eq, decide_eq_false_iff_not, Bool.not_eq_true', Bool.not_eq_false', ne_eq, Decidable.not_not] at hp6)
              refine ol_q (wn_some rfl rfl rfl hb6 rfl) (op_move (v := .int _ _) rfl) rfl ?_
              refine ol_q (wn_some rfl rfl rfl hb6 rfl) (op_move (v := .int _ _) rfl) rfl ?_
              refine ol_q (wn_some rfl rfl rfl hb6 rfl) (op_move (v := .int _ _) rfl) rfl ?_
              refine ol_q (wn_some rfl rfl rfl hb6 rfl) (op_mul rfl rfl (by omega) (by omega)) rfl ?_
              refine ol_q (wn_some rfl rfl rfl hb6 rfl) (op_conv64 (A := 8 * k) Try.underlying39 (by rw [Try.underlying3]; rfl) rfl (by omega)) rfl ?_
              refine ol_q (wn_some rfl rfl rfl hb6 rfl) (op_shl_nat (A := 1) (m := 8 * k) rfl rfl (by show 8 * k ≤ 64; omega) (by rw [Nat.one_mul]; exact Nat.lt_of_lt_of_le (Nat.pow_lt_pow_right (by decide) (show 8 * k < 64 by omega)) (by decide))) rfl ?_
              refine ol_q (wn_some rfl rfl rfl hb6 rfl) (op_remn rfl rfl (by rw [Nat.one_mul]; exact Nat.two_pow_pos _)) rfl ?_
              refine ol_q (wn_some rfl rfl rfl hb6 rfl) (op_ne rfl rfl) rfl ?_
              refine ol_q (wn_none rfl) (op_pick_t (v := .bool _) rfl hb6 rfl) rfl ?_
              refine ol_q (wn_none rfl) (op_move (v := .bool _) rfl) rfl ?_
              refine ol_split 61 rfl (fun hb7 => ?_) (fun hb7 => ?_)
              · have hp7 := hb7
                (try simp only [decide_eq_true_eq, decide_eq_false_iff_not, Bool.not_eq_true', Bool.not_eq_false', ne_eq, Decidable.not_not] at hp7)
                exact absurd (by rw [Nat.one_mul, ← pow256]) hp7
              · have hp7 := hb7
                (try simp only [decide_eq_true_eq, decide_eq_false_iff_not, Bool.not_eq_true', Bool.not_eq_false', ne_eq, Decidable.not_not] at hp7)
                refine ol_q (wn_some rfl rfl rfl hb7 rfl) (op_move (v := .int _ _) rfl) rfl ?_
                refine ol_q (wn_some rfl rfl rfl hb7 rfl) (op_eq rfl rfl) rfl ?_
                refine ol_q (wn_some rfl rfl rfl hb7 rfl) (op_move (v := .bool _) rfl) rfl ?_
                refine ol_split 64 rfl (fun hb8 => ?_) (fun hb8 => ?_)
                · have hp8 := hb8
                  (try simp only [decide_eq_true_eq, decide_eq_false_iff_not, Bool.not_eq_true', Bool.not_eq_false', ne_eq, Decidable.not_not] at hp8)
                  refine ol_q (wn_some rfl rfl rfl hb8 rfl) (op_move (v := .int _ _) rfl) rfl ?_
                  refine ol_q (wn_some rfl rfl rfl hb8 rfl) (op_move (v := .int _ _) rfl) rfl ?_
                  refine ol_q (wn_some rfl rfl rfl hb8 rfl) (op_ne rfl rfl) rfl ?_
                  refine ol_q (wn_some rfl rfl rfl hb7 rfl) (op_pick_t (v := .bool _) rfl hb8 rfl) rfl ?_
                  refine ol_q (wn_none rfl) (op_pick_f (v := .bool _) rfl hb7 rfl) rfl ?_
                  refine ol_nil_then ?_
                  refine cd_cond rfl (fun hb9 => ?_) (fun hb9 => ?_)
                  · have hp9 := hb9
                    (try simp only [decide_eq_true_eq, decide_eq_false_iff_not, Bool.not_eq_true', Bool.not_eq_false', ne_eq, Decidable.not_not] at hp9)
                    exact absurd (by rw [hmod (by omega)]) hp9
                  · have hp9 := hb9
                    (try simp only [decide_eq_true_eq, decide_eq_false_iff_not, Bool.not_eq_true', Bool.not_eq_false', ne_eq, Decidable.not_not] at hp9)
                    refine cd_skip ?_
                    refine px_then ?_
                    refine cd_region ?_   -- 19
                    refine ol_q (wn_none rfl) (op_move (v := .slice _ _ _) rfl) rfl ?_
                    refine ol_q (wn_none rfl) (op_move (v := .int _ _) rfl) rfl ?_
                    refine ol_q (wn_none rfl) (op_move (v := .int _ _) rfl) rfl ?_
                    refine ol_pull1 ?_
                    refine ol_i (wn_none rfl) (os_call cb_18 rfl (fun w s => Put_calls _ _ _ _ _  s (Nat.lt_of_le_of_lt (Nat.mod_le _ _) hx) (Nat.le_trans (hlen _) (by decide)))) rfl ?_; rintro _ _ ⟨pa5, pc5, rfl, rfl⟩
                    refine ol_q (wn_none rfl) (op_assign (v := .slice _ _ _) rfl) rfl ?_
                    refine ol_nil ?_
                    refine px_blockN ?_
                    refine px_then ?_
                    refine cd_region ?_   -- 20
                    refine ol_q (wn_none rfl) (op_add rfl rfl (by omega) (by omega)) rfl ?_
                    refine ol_q (wn_none rfl) (op_move (v := .int _ _) rfl) rfl ?_
                    refine ol_nil ?_
                    exact px_loop (j + 1, pa5, pc5) (by dsimp only; omega) (by dsimp only; omega) ⟨rfl, rfl, rfl, rfl, congrArg (fun q => Value.slice pa5 (List.length q) pc5) e1, rfl, rfl, congrArg (Value.int .i64) (by simp), trivial⟩ (fun _ s => by rw [e1] at s; exact s)
                · have hp8 := hb8
                  (try simp only [decide_eq_true_eq, decide_eq_false_iff_not, Bool.not_eq_true', Bool.not_eq_false', ne_eq, Decidable.not_not] at hp8)
                  refine ol_skip (wn_some rfl rfl rfl hb8 rfl) rfl ?_
                  refine ol_skip (wn_some rfl rfl rfl hb8 rfl) rfl ?_
                  refine ol_skip (wn_some rfl rfl rfl hb8 rfl) rfl ?_
                  refine ol_q (wn_some rfl rfl rfl hb7 rfl) (op_pick_f (v := .bool _) rfl hb8 rfl) rfl ?_
                  refine ol_q (wn_none rfl) (op_pick_f (v := .bool _) rfl hb7 rfl) rfl ?_
                  refine ol_nil_then ?_
                  refine cd_cond_f rfl rfl ?_
                  refine cd_skip ?_
                  refine px_then ?_
                  refine cd_region ?_   -- 19
                  refine ol_q (wn_none rfl) (op_move (v := .slice _ _ _) rfl) rfl ?_
                  refine ol_q (wn_none rfl) (op_move (v := .int _ _) rfl) rfl ?_
                  refine ol_q (wn_none rfl) (op_move (v := .int _ _) rfl) rfl ?_
                  refine ol_pull1 ?_
                  refine ol_i (wn_none rfl) (os_call cb_18 rfl (fun w s => Put_calls _ _ _ _ _  s (Nat.lt_of_le_of_lt (Nat.mod_le _ _) hx) (Nat.le_trans (hlen _) (by decide)))) rfl ?_; rintro _ _ ⟨pa6, pc6, rfl, rfl⟩
                  refine ol_q (wn_none rfl) (op_assign (v := .slice _ _ _) rfl) rfl ?_
                  refine ol_nil ?_
                  refine px_blockN ?_
                  refine px_then ?_
                  refine cd_region ?_   -- 20
                  refine ol_q (wn_none rfl) (op_add rfl rfl (by omega) (by omega)) rfl ?_
                  refine ol_q (wn_none rfl) (op_move (v := .int _ _) rfl) rfl ?_
                  refine ol_nil ?_
                  exact px_loop (j + 1, pa6, pc6) (by dsimp only; omega) (by dsimp only; omega) ⟨rfl, rfl, rfl, rfl, congrArg (fun q => Value.slice pa6 (List.length q) pc6) e1, rfl, rfl, congrArg (Value.int .i64) (by simp), trivial⟩ (fun _ s => by rw [e1] at s; exact s)
            · have hp6 := hb6
              (try simp only [decide_eq_true_eq, decide_eq_false_iff_not, Bool.not_eq_true', Bool.not_eq_false', ne_eq, Decidable.not_not] at hp6)
              refine ol_skip (wn_some rfl rfl rfl hb6 rfl) rfl ?_
              refine ol_skip (wn_some rfl rfl rfl hb6 rfl) rfl ?_
              refine ol_skip (wn_some rfl rfl rfl hb6 rfl) rfl ?_
              refine ol_skip (wn_some rfl rfl rfl hb6 rfl) rfl ?_
              refine ol_skip (wn_some rfl rfl rfl hb6 rfl) rfl ?_
              refine ol_skip (wn_some rfl rfl rfl hb6 rfl) rfl ?_
              refine ol_skip (wn_some rfl rfl rfl hb6 rfl) rfl ?_
              refine ol_skip (wn_some rfl rfl rfl hb6 rfl) rfl ?_
              refine ol_q (wn_none rfl) (op_pick_f (v := .bool _) rfl hb6 rfl) rfl ?_
              refine ol_q (wn_none rfl) (op_move (v := .bool _) rfl) rfl ?_
              refine ol_q (wn_some rfl rfl rfl rfl rfl) (op_move (v := .int _ _) rfl) rfl ?_
              refine ol_q (wn_some rfl rfl rfl rfl rfl) (op_eq rfl rfl) rfl ?_
              refine ol_q (wn_some rfl rfl rfl rfl rfl) (op_move (v := .bool _) rfl) rfl ?_
              refine ol_split 64 rfl (fun hb10 => ?_) (fun hb10 => ?_)
              · have hp10 := hb10
                (try simp only [decide_eq_true_eq, decide_eq_false_iff_not, Bool.not_eq_true', Bool.not_eq_false', ne_eq, Decidable.not_not] at hp10)
                refine ol_q (wn_some rfl rfl rfl hb10 rfl) (op_move (v := .int _ _) rfl) rfl ?_
                refine ol_q (wn_some rfl rfl rfl hb10 rfl) (op_move (v := .int _ _) rfl) rfl ?_
                refine ol_q (wn_some rfl rfl rfl hb10 rfl) (op_ne rfl rfl) rfl ?_
                refine ol_q (wn_some rfl rfl rfl rfl rfl) (op_pick_t (v := .bool _) rfl hb10 rfl) rfl ?_
                refine ol_q (wn_none rfl) (op_pick_f (v := .bool _) rfl rfl rfl) rfl ?_
                refine ol_nil_then ?_
                refine cd_cond rfl (fun hb11 => ?_) (fun hb11 => ?_)
                · have hp11 := hb11
                  (try simp only [decide_eq_true_eq, decide_eq_false_iff_not, Bool.not_eq_true', Bool.not_eq_false', ne_eq, Decidable.not_not] at hp11)
                  exact absurd (by rw [hmod (by omega)]) hp11
                · have hp11 := hb11
                  (try simp only [decide_eq_true_eq, decide_eq_false_iff_not, Bool.not_eq_true', Bool.not_eq_false', ne_eq, Decidable.not_not] at hp11)
                  refine cd_skip ?_
                  refine px_then ?_
                  refine cd_region ?_   -- 19
                  refine ol_q (wn_none rfl) (op_move (v := .slice _ _ _) rfl) rfl ?_
                  refine ol_q (wn_none rfl) (op_move (v := .int _ _) rfl) rfl ?_
                  refine ol_q (wn_none rfl) (op_move (v := .int _ _) rfl) rfl ?_
                  refine ol_pull1 ?_
                  refine ol_i (wn_none rfl) (os_call cb_18 rfl (fun w s => Put_calls _ _ _ _ _  s (Nat.lt_of_le_of_lt (Nat.mod_le _ _) hx) (Nat.le_trans (hlen _) (by decide)))) rfl ?_; rintro _ _ ⟨pa7, pc7, rfl, rfl⟩
                  refine ol_q (wn_none rfl) (op_assign (v := .slice _ _ _) rfl) rfl ?_
                  refine ol_nil ?_
                  refine px_blockN ?_
                  refine px_then ?_
                  refine cd_region ?_   -- 20
                  refine ol_q (wn_none rfl) (op_add rfl rfl (by omega) (by omega)) rfl ?_
                  refine ol_q (wn_none rfl) (op_move (v := .int _ _) rfl) rfl ?_
                  refine ol_nil ?_
                  exact px_loop (j + 1, pa7, pc7) (by dsimp only; omega) (by dsimp only; omega) ⟨rfl, rfl, rfl, rfl, congrArg (fun q => Value.slice pa7 (List.length q) pc7) e1, rfl, rfl, congrArg (Value.int .i64) (by simp), trivial⟩ (fun _ s => by rw [e1] at s; exact s)
              · have hp10 := hb10
                (try simp only [decide_eq_true_eq, decide_eq_false_iff_not, Bool.not_eq_true', Bool.not_eq_false', ne_eq, Decidable.not_not] at hp10)
                refine ol_skip (wn_some rfl rfl rfl hb10 rfl) rfl ?_
                refine ol_skip (wn_some rfl rfl rfl hb10 rfl) rfl ?_
                refine ol_skip (wn_some rfl rfl rfl hb10 rfl) rfl ?_
                refine ol_q (wn_some rfl rfl rfl rfl rfl) (op_pick_f (v := .bool _) rfl hb10 rfl) rfl ?_
                refine ol_q (wn_none rfl) (op_pick_f (v := .bool _) rfl rfl rfl) rfl ?_
                refine ol_nil_then ?_
                refine cd_cond_f rfl rfl ?_
                refine cd_skip ?_
                refine px_then ?_
                refine cd_region ?_   -- 19
                refine ol_q (wn_none rfl) (op_move (v := .slice _ _ _) rfl) rfl ?_
                refine ol_q (wn_none rfl) (op_move (v := .int _ _) rfl) rfl ?_
                refine ol_q (wn_none rfl) (op_move (v := .int _ _) rfl) rfl ?_
                refine ol_pull1 ?_
                refine ol_i (wn_none rfl) (os_call cb_18 rfl (fun w s => Put_calls _ _ _ _ _  s (Nat.lt_of_le_of_lt (Nat.mod_le _ _) hx) (Nat.le_trans (hlen _) (by decide)))) rfl ?_; rintro _ _ ⟨pa8, pc8, rfl, rfl⟩
                refine ol_q (wn_none rfl) (op_assign (v := .slice _ _ _) rfl) rfl ?_
                refine ol_nil ?_
                refine px_blockN ?_
                refine px_then ?_
                refine cd_region ?_   -- 20
                refine ol_q (wn_none rfl) (op_add rfl rfl (by omega) (by omega)) rfl ?_
                refine ol_q (wn_none rfl) (op_move (v := .int _ _) rfl) rfl ?_
                refine ol_nil ?_
                exact px_loop (j + 1, pa8, pc8) (by dsimp only; omega) (by dsimp only; omega) ⟨rfl, rfl, rfl, rfl, congrArg (fun q => Value.slice pa8 (List.length q) pc8) e1, rfl, rfl, congrArg (Value.int .i64) (by simp), trivial⟩ (fun _ s => by rw [e1] at s; exact s)
          · have hp5 := hb5
            (try simp only [decide_eq_true_eq, decide_eq_false_iff_not, Bool.not_eq_true', Bool.not_eq_false', ne_eq, Decidable.not_not] at hp5)
            have e : j = xs.length := by omega
            subst e
            have hl2 := hlen xs.length
            rw [List.take_length, puts_length] at hl2
            have hl3 : (k : Int) * xs.length ≤ 800 := by rw [← Int.natCast_mul]; omega
            have hl4 : 0 ≤ (k : Int) * xs.length := by rw [← Int.natCast_mul]; omega
            refine cd_exit ?_
            refine px_thenE ?_
            refine px_thenE ?_
            refine px_blockE ?_
            refine px_then ?_
            refine cd_sr ?_   -- 21
            refine ol_q (wn_none rfl) (op_move (v := .pointer _) rfl) rfl ?_
            refine ol_pull1 ?_
            refine ol_i (wn_none rfl) (os_call cb_22 rfl (fun w s => End_calls _ _  s )) rfl ?_; rintro _ _ ⟨rfl, rfl⟩
            refine ol_q (wn_none rfl) (op_move (v := .bool _) rfl) rfl ?_
            refine ol_split 77 rfl (fun hb12 => ?_) (fun hb12 => ?_)
            · have hp12 := hb12
              (try simp only [decide_eq_true_eq, decide_eq_false_iff_not, Bool.not_eq_true', Bool.not_eq_false', ne_eq, Decidable.not_not] at hp12)
              refine ol_q (wn_some rfl rfl rfl hb12 rfl) (op_move (v := .slice _ _ _) rfl) rfl ?_
              refine ol_q (wn_some rfl rfl rfl hb12 rfl) (op_b2s sB_26 Try.underlying5 Try.underlying9 rfl (rds_row 1 rfl rfl) rfl) rfl ?_
              refine ol_q (wn_some rfl rfl rfl hb12 rfl) (op_move (v := .slice _ _ _) rfl) rfl ?_
              refine ol_q (wn_some rfl rfl rfl hb12 rfl) (op_b2s sB_26 Try.underlying5 Try.underlying9 rfl (rds_row 2 rfl rfl) rfl) rfl ?_
              refine ol_q (wn_some rfl rfl rfl hb12 rfl) (op_seql rfl rfl) rfl ?_
              refine ol_q (wn_none rfl) (op_pick_t (v := .bool _) rfl hb12 rfl) rfl ?_
              refine ol_q (wn_none rfl) (op_move (v := .bool _) rfl) rfl ?_
              refine ol_split 84 rfl (fun hb13 => ?_) (fun hb13 => ?_)
              · have hp13 := hb13
                (try simp only [decide_eq_true_eq, decide_eq_false_iff_not, Bool.not_eq_true', Bool.not_eq_false', ne_eq, Decidable.not_not] at hp13)
                refine ol_q (wn_some rfl rfl rfl hb13 rfl) (op_move (v := .slice _ _ _) rfl) rfl ?_
                refine ol_q (wn_some rfl rfl rfl hb13 rfl) (op_len_slice Try.underlying26 rfl) rfl ?_
                refine ol_q (wn_some rfl rfl rfl hb13 rfl) (op_move (v := .int _ _) rfl) rfl ?_
                refine ol_q (wn_some rfl rfl rfl hb13 rfl) (op_move (v := .slice _ _ _) rfl) rfl ?_
                refine ol_q (wn_some rfl rfl rfl hb13 rfl) (op_len_slice Try.underlying35 rfl) rfl ?_
                refine ol_q (wn_some rfl rfl rfl hb13 rfl) (op_mul rfl rfl (by omega) (by omega)) rfl ?_
                refine ol_q (wn_some rfl rfl rfl hb13 rfl) (op_eq rfl rfl) rfl ?_
                refine ol_q (wn_none rfl) (op_pick_t (v := .bool _) rfl hb13 rfl) rfl ?_
                refine ol_q (wn_none rfl) (op_assign (v := .bool _) rfl) rfl ?_
                refine ol_nil_then ?_
                refine cd_ret ?_
                exact px_ret1 rfl (v := .bool _) rfl (fun _ s => (((s.del 2).del 1).del 0)) ⟨congrArg Value.bool (decide_eq_true (by rw [puts_length]; simp)), rfl⟩
              · have hp13 := hb13
                (try simp only [decide_eq_true_eq, decide_eq_false_iff_not, Bool.not_eq_true', Bool.not_eq_false', ne_eq, Decidable.not_not] at hp13)
                exact absurd hb13 (by simp)
            · have hp12 := hb12
              (try simp only [decide_eq_true_eq, decide_eq_false_iff_not, Bool.not_eq_true', Bool.not_eq_false', ne_eq, Decidable.not_not] at hp12)
              exact absurd hb12 (by simp [puts])

/-- an ask: its two cells -/
def encAsk : Enc (Bool × Int) := ⟨fun a => [.bool a.1, .int .i64 a.2], 2, fun _ => rfl, fun x u hu => by simp at hu; rcases hu with rfl | rfl <;> rfl, by omega⟩
theorem opens_ask {H : Type} {enc : TypeId × Value → H} {W : World} : Opens enc Try.prog W 49 (fun cs => ∃ a : Bool × Int, cs = encAsk.cells a ∧ True) := fun fuel cs x h => by
  obtain ⟨hl, hf⟩ := opens_field Try.underlying49 h
  obtain ⟨b, h0⟩ := hf 0 0 4 1 _ rfl (by kernel_rfl) (opens_bool Try.underlying4)
  obtain ⟨n, h1, _⟩ := hf 1 1 3 1 _ rfl (by kernel_rfl) (opens_int Try.underlying3)
  have hc : Try.prog.cellsOf 49 = 2 := by kernel_rfl
  rw [hc] at hl
  match cs, hl with
  | [u, v], _ =>
    simp at h0 h1
    exact ⟨(b, n), by rw [h0, h1]; rfl, trivial⟩

theorem Uint_nil {w0 w : World} {l : List HProp} (n : Int) (hs : Sat w0 w (l))  :
    Calls Try.prog 21 #[.pointer none, .int .i64 n] w (Ret w0 fun v l' => v = .int .u64 (0 : Nat) ∧ l' = l) := by
  refine calls_enter Try.func21 rfl rfl rfl hs ?_
  refine cd_sr ?_   -- 0
  refine ol_q (wn_none rfl) (op_assign (v := .int _ _) rfl) rfl ?_
  refine ol_nil_then ?_
  refine cd_seq ?_
  refine cd_sr ?_   -- 1
  refine ol_q (wn_none rfl) (op_move (v := .int _ _) rfl) rfl ?_
  refine ol_q (wn_none rfl) (op_gt rfl rfl) rfl ?_
  refine ol_nil_then ?_
  refine cd_cond rfl (fun hb1 => ?_) (fun hb1 => ?_)
  · have hp1 := hb1
    (try simp only [decide_eq_true_eq, decide_eq_false_iff_not, Bool.not_eq_true', Bool.not_eq_false', ne_eq, Decidable.not_not] at hp1)
    refine cd_region ?_   -- 2
    refine ol_q (wn_none rfl) (op_assign (v := .int _ _) rfl) rfl ?_
    refine ol_nil ?_
    refine px_then ?_
    refine cd_sr ?_   -- 3
    refine ol_q (wn_none rfl) (op_move (v := .pointer _) rfl) rfl ?_
    refine ol_q (wn_none rfl) (op_move (v := .int _ _) rfl) rfl ?_
    refine ol_i (wn_none rfl) (os_call cb_23 rfl (fun w s => Bytes_nil _  s )) rfl ?_; rintro _ l ⟨rfl, rfl⟩
    refine ol_q (wn_none rfl) (op_assign (v := .string _) rfl) rfl ?_
    refine ol_nil_then ?_
    refine cd_sr ?_   -- 4
    refine ol_q (wn_none rfl) (op_assign (v := .int _ _) rfl) rfl ?_
    refine ol_nil_then ?_
    refine cd_seq ?_
    refine cd_sr ?_   -- 5
    refine ol_q (wn_none rfl) (op_move (v := .string _) rfl) rfl ?_
    refine ol_q (wn_none rfl) (op_len_string Try.underlying9 rfl) rfl ?_
    refine ol_q (wn_none rfl) (op_sub rfl rfl (by simp) (by simp)) rfl ?_
    refine ol_q (wn_none rfl) (op_assign (v := .int _ _) rfl) rfl ?_
    refine ol_nil_then ?_
    refine cd_block ?_
    refine cd_loop (α := Nat) (fun j => [(5, .string (B [])), (6, .int .u64 (0 : Nat)), (7, .int .i64 (-1))]) (fun _ => _) (fun j => True) (fun j => j) 0 trivial ⟨rfl, rfl, rfl, trivial⟩ (fun _ s => s) ?_
    intro j hj f
    refine cd_seq ?_
    refine cd_sr ?_   -- 6
    refine ol_q (wn_none rfl) (op_move (v := .int _ _) rfl) rfl ?_
    refine ol_q (wn_none rfl) (op_ge rfl rfl) rfl ?_
    refine ol_nil_then ?_
    refine cd_cond rfl (fun hb2 => ?_) (fun hb2 => ?_)
    · have hp2 := hb2
      (try simp only [decide_eq_true_eq, decide_eq_false_iff_not, Bool.not_eq_true', Bool.not_eq_false', ne_eq, Decidable.not_not] at hp2)
      exact absurd hp2 (by omega)
    · have hp2 := hb2
      (try simp only [decide_eq_true_eq, decide_eq_false_iff_not, Bool.not_eq_true', Bool.not_eq_false', ne_eq, Decidable.not_not] at hp2)
      refine cd_exit ?_
      refine px_thenE ?_
      refine px_thenE ?_
      refine px_blockE ?_
      refine px_then ?_
      refine cd_sr ?_   -- 9
      refine ol_q (wn_none rfl) (op_move (v := .int _ _) rfl) rfl ?_
      refine ol_q (wn_none rfl) (op_assign (v := .int _ _) rfl) rfl ?_
      refine ol_nil_then ?_
      refine cd_ret ?_
      exact px_ret1 rfl (v := .int _ _) rfl (fun _ s => s) ⟨rfl, rfl⟩
  · have hp1 := hb1
    (try simp only [decide_eq_true_eq, decide_eq_false_iff_not, Bool.not_eq_true', Bool.not_eq_false', ne_eq, Decidable.not_not] at hp1)
    refine cd_skip ?_
    refine px_then ?_
    refine cd_sr ?_   -- 3
    refine ol_q (wn_none rfl) (op_move (v := .pointer _) rfl) rfl ?_
    refine ol_q (wn_none rfl) (op_move (v := .int _ _) rfl) rfl ?_
    refine ol_i (wn_none rfl) (os_call cb_23 rfl (fun w s => Bytes_nil _  s )) rfl ?_; rintro _ l ⟨rfl, rfl⟩
    refine ol_q (wn_none rfl) (op_assign (v := .string _) rfl) rfl ?_
    refine ol_nil_then ?_
    refine cd_sr ?_   -- 4
    refine ol_q (wn_none rfl) (op_assign (v := .int _ _) rfl) rfl ?_
    refine ol_nil_then ?_
    refine cd_seq ?_
    refine cd_sr ?_   -- 5
    refine ol_q (wn_none rfl) (op_move (v := .string _) rfl) rfl ?_
    refine ol_q (wn_none rfl) (op_len_string Try.underlying9 rfl) rfl ?_
    refine ol_q (wn_none rfl) (op_sub rfl rfl (by simp) (by simp)) rfl ?_
    refine ol_q (wn_none rfl) (op_assign (v := .int _ _) rfl) rfl ?_
    refine ol_nil_then ?_
    refine cd_block ?_
    refine cd_loop (α := Nat) (fun j => [(5, .string (B [])), (6, .int .u64 (0 : Nat)), (7, .int .i64 (-1))]) (fun _ => _) (fun j => True) (fun j => j) 0 trivial ⟨rfl, rfl, rfl, trivial⟩ (fun _ s => s) ?_
    intro j hj f
    refine cd_seq ?_
    refine cd_sr ?_   -- 6
    refine ol_q (wn_none rfl) (op_move (v := .int _ _) rfl) rfl ?_
    refine ol_q (wn_none rfl) (op_ge rfl rfl) rfl ?_
    refine ol_nil_then ?_
    refine cd_cond rfl (fun hb3 => ?_) (fun hb3 => ?_)
    · have hp3 := hb3
      (try simp only [decide_eq_true_eq, decide_eq_false_iff_not, Bool.not_eq_true', Bool.not_eq_false', ne_eq, Decidable.not_not] at hp3)
      exact absurd hp3 (by omega)
    · have hp3 := hb3
      (try simp only [decide_eq_true_eq, decide_eq_false_iff_not, Bool.not_eq_true', Bool.not_eq_false', ne_eq, Decidable.not_not] at hp3)
      refine cd_exit ?_
      refine px_thenE ?_
      refine px_thenE ?_
      refine px_blockE ?_
      refine px_then ?_
      refine cd_sr ?_   -- 9
      refine ol_q (wn_none rfl) (op_move (v := .int _ _) rfl) rfl ?_
      refine ol_q (wn_none rfl) (op_assign (v := .int _ _) rfl) rfl ?_
      refine ol_nil_then ?_
      refine cd_ret ?_
      exact px_ret1 rfl (v := .int _ _) rfl (fun _ s => s) ⟨rfl, rfl⟩

theorem LeReads_calls {w0 w : World} {l : List HProp} (s : List UInt8) (ao : Option Addr) (c : Nat) (xs : List (Bool × Int)) (hs : Sat w0 w (l)) (hr : Rds w0 l encAsk ao xs) (hq : ∀ a ∈ xs, True) :
    Calls Try.prog 8 #[.string (B s), .slice ao xs.length c] w (Ret w0 fun v l' => v = .bool true ∧ l' = l) := by
  refine calls_enter Try.func8 rfl rfl rfl hs ?_
  refine cd_sr ?_   -- 0
  refine ol_q (wn_none rfl) (op_assign (v := .bool _) rfl) rfl ?_
  refine ol_nil_then ?_
  refine cd_seq ?_
  refine cd_sr ?_   -- 1
  refine ol_i (wn_none rfl) (os_call cb_17 rfl (fun w s => leAlive_calls  s )) rfl ?_; rintro _ l ⟨rfl, rfl⟩
  refine ol_q (wn_none rfl) (op_not rfl) rfl ?_
  refine ol_nil_then ?_
  refine cd_cond_f rfl rfl ?_
  refine cd_skip ?_
  refine px_then ?_
  refine cd_seq ?_
  refine cd_sr ?_   -- 3
  refine ol_q (wn_none rfl) (op_move (v := .string _) rfl) rfl ?_
  refine ol_q (wn_none rfl) (op_len_string Try.underlying9 rfl) rfl ?_
  refine ol_q (wn_none rfl) (op_gt rfl rfl) rfl ?_
  refine ol_q (wn_none rfl) (op_move (v := .bool _) rfl) rfl ?_
  refine ol_split 15 rfl (fun hb1 => ?_) (fun hb1 => ?_)
  · have hp1 := hb1
    (try simp only [decide_eq_true_eq, decide_eq_false_iff_not, Bool.not_eq_true', Bool.not_eq_false', ne_eq, Decidable.not_not] at hp1)
    refine ol_skip (wn_some rfl rfl rfl hb1 rfl) rfl ?_
    refine ol_skip (wn_some rfl rfl rfl hb1 rfl) rfl ?_
    refine ol_skip (wn_some rfl rfl rfl hb1 rfl) rfl ?_
    refine ol_q (wn_none rfl) (op_pick_t (v := .bool _) rfl hb1 rfl) rfl ?_
    refine ol_nil_then ?_
    refine cd_cond_t rfl rfl ?_
    refine cd_sr ?_   -- 4
    refine ol_q (wn_none rfl) (op_assign (v := .bool _) rfl) rfl ?_
    refine ol_nil_then ?_
    refine cd_ret ?_
    refine px_thenR ?_
    exact px_ret1 rfl (v := .bool _) rfl (fun _ s => s) ⟨congrArg Value.bool (rfl), rfl⟩
  · have hp1 := hb1
    (try simp only [decide_eq_true_eq, decide_eq_false_iff_not, Bool.not_eq_true', Bool.not_eq_false', ne_eq, Decidable.not_not] at hp1)
    refine ol_q (wn_some rfl rfl rfl hb1 rfl) (op_move (v := .slice _ _ _) rfl) rfl ?_
    refine ol_q (wn_some rfl rfl rfl hb1 rfl) (op_len_slice Try.underlying42 rfl) rfl ?_
    refine ol_q (wn_some rfl rfl rfl hb1 rfl) (op_gt rfl rfl) rfl ?_
    refine ol_q (wn_none rfl) (op_pick_f (v := .bool _) rfl hb1 rfl) rfl ?_
    refine ol_nil_then ?_
    refine cd_cond rfl (fun hb2 => ?_) (fun hb2 => ?_)
    · have hp2 := hb2
      (try simp only [decide_eq_true_eq, decide_eq_false_iff_not, Bool.not_eq_true', Bool.not_eq_false', ne_eq, Decidable.not_not] at hp2)
      refine cd_sr ?_   -- 4
      refine ol_q (wn_none rfl) (op_assign (v := .bool _) rfl) rfl ?_
      refine ol_nil_then ?_
      refine cd_ret ?_
      refine px_thenR ?_
      exact px_ret1 rfl (v := .bool _) rfl (fun _ s => s) ⟨congrArg Value.bool (rfl), rfl⟩
    · have hp2 := hb2
      (try simp only [decide_eq_true_eq, decide_eq_false_iff_not, Bool.not_eq_true', Bool.not_eq_false', ne_eq, Decidable.not_not] at hp2)
      refine cd_skip ?_
      refine px_then ?_
      refine cd_sr ?_   -- 5
      refine ol_q (wn_none rfl) (op_assign (v := .pointer _) rfl) rfl ?_
      refine ol_nil_then ?_
      refine cd_seq ?_
      refine cd_sr ?_   -- 6
      refine ol_q (wn_none rfl) (op_move (v := .pointer _) rfl) rfl ?_
      refine ol_i (wn_none rfl) (os_call cb_23 rfl (fun w s => Bytes_nil (n := 0)  s )) rfl ?_; rintro _ l ⟨rfl, rfl⟩
      refine ol_q (wn_none rfl) (op_sneq rfl rfl) rfl ?_
      refine ol_q (wn_none rfl) (op_move (v := .bool _) rfl) rfl ?_
      refine ol_split 23 rfl (fun hb3 => ?_) (fun hb3 => ?_)
      · have hp3 := hb3
        (try simp only [decide_eq_true_eq, decide_eq_false_iff_not, Bool.not_eq_true', Bool.not_eq_false', ne_eq, Decidable.not_not] at hp3)
        exact absurd hb3 (by decide)
      · have hp3 := hb3
        (try simp only [decide_eq_true_eq, decide_eq_false_iff_not, Bool.not_eq_true', Bool.not_eq_false', ne_eq, Decidable.not_not] at hp3)
        refine ol_q (wn_some rfl rfl rfl hb3 rfl) (op_move (v := .pointer _) rfl) rfl ?_
        refine ol_i (wn_some rfl rfl rfl hb3 rfl) (os_call cb_21 rfl (fun w s => Uint_nil (n := 1)  s )) rfl ?_; rintro _ l ⟨rfl, rfl⟩
        refine ol_q (wn_some rfl rfl rfl hb3 rfl) (op_ne rfl rfl) rfl ?_
        refine ol_q (wn_none rfl) (op_pick_f (v := .bool _) rfl hb3 rfl) rfl ?_
        refine ol_q (wn_none rfl) (op_move (v := .bool _) rfl) rfl ?_
        refine ol_split 28 rfl (fun hb4 => ?_) (fun hb4 => ?_)
        · have hp4 := hb4
          (try simp only [decide_eq_true_eq, decide_eq_false_iff_not, Bool.not_eq_true', Bool.not_eq_false', ne_eq, Decidable.not_not] at hp4)
          exact absurd hb4 (by decide)
        · have hp4 := hb4
          (try simp only [decide_eq_true_eq, decide_eq_false_iff_not, Bool.not_eq_true', Bool.not_eq_false', ne_eq, Decidable.not_not] at hp4)
          refine ol_q (wn_some rfl rfl rfl hb4 rfl) (op_move (v := .pointer _) rfl) rfl ?_
          refine ol_i (wn_some rfl rfl rfl hb4 rfl) (os_call cb_24 rfl (fun w s => Left_nil  s )) rfl ?_; rintro _ l ⟨rfl, rfl⟩
          refine ol_q (wn_some rfl rfl rfl hb4 rfl) (op_ne rfl rfl) rfl ?_
          refine ol_q (wn_none rfl) (op_pick_f (v := .bool _) rfl hb4 rfl) rfl ?_
          refine ol_q (wn_none rfl) (op_move (v := .bool _) rfl) rfl ?_
          refine ol_split 33 rfl (fun hb5 => ?_) (fun hb5 => ?_)
          · have hp5 := hb5
            (try simp only [decide_eq_true_eq, decide_eq_false_iff_not, Bool.not_eq_true', Bool.not_eq_false', ne_eq, Decidable.not_not] at hp5)
            exact absurd hb5 (by decide)
          · have hp5 := hb5
            (try simp only [decide_eq_true_eq, decide_eq_false_iff_not, Bool.not_eq_true', Bool.not_eq_false', ne_eq, Decidable.not_not] at hp5)
            refine ol_q (wn_some rfl rfl rfl hb5 rfl) (op_move (v := .pointer _) rfl) rfl ?_
            refine ol_i (wn_some rfl rfl rfl hb5 rfl) (os_call cb_22 rfl (fun w s => End_nil  s )) rfl ?_; rintro _ l ⟨rfl, rfl⟩
            refine ol_q (wn_none rfl) (op_pick_f (v := .bool _) rfl hb5 rfl) rfl ?_
            refine ol_nil_then ?_
            refine cd_cond rfl (fun hb6 => ?_) (fun hb6 => ?_)
            · have hp6 := hb6
              (try simp only [decide_eq_true_eq, decide_eq_false_iff_not, Bool.not_eq_true', Bool.not_eq_false', ne_eq, Decidable.not_not] at hp6)
              exact absurd hb6 (by decide)
            · have hp6 := hb6
              (try simp only [decide_eq_true_eq, decide_eq_false_iff_not, Bool.not_eq_true', Bool.not_eq_false', ne_eq, Decidable.not_not] at hp6)
              refine cd_skip ?_
              refine px_then ?_
              refine cd_sr ?_   -- 8
              refine ol_q (wn_none rfl) (op_move (v := .string _) rfl) rfl ?_
              refine ol_i (wn_none rfl) (os_call cb_20 rfl (fun w s => From_calls _  s )) rfl ?_; rintro _ _ ⟨p6, rfl, rfl⟩
              refine ol_q (wn_none rfl) (op_move (v := .string _) rfl) rfl ?_
              refine ol_q (wn_none rfl) (op_build (L := [_, _, _]) (vs := [(0, .string _)]) bB_47 rfl ⟨⟨rfl, rfl⟩, trivial⟩ rfl) rfl ?_
              refine ol_i (wn_none rfl) (os_boxa rfl) rfl ?_; rintro _ _ ⟨bx1, rfl, rfl⟩
              refine ol_q (wn_none rfl) (op_assign (v := .pointer _) rfl) rfl ?_
              refine ol_q (wn_none rfl) (op_assign (v := .pointer _) rfl) rfl ?_
              refine ol_nil_then ?_
              refine cd_seq ?_
              refine cd_sr ?_   -- 9
              refine ol_q (wn_none rfl) (op_move (v := .slice _ _ _) rfl) rfl ?_
              refine ol_q (wn_none rfl) (op_len_slice Try.underlying42 rfl) rfl ?_
              refine ol_q (wn_none rfl) (op_move (v := .int _ _) rfl) rfl ?_
              refine ol_nil_then ?_
              refine cd_block ?_
              refine cd_loop (α := Nat × RdS) (fun x => [(0, .string (B s)), (6, .pointer (some ⟨p6, 0, none⟩)), (7, .pointer (some ⟨bx1, 0, none⟩)), (42, .slice ao xs.length c), (43, .int .i64 xs.length), (44, .int .i64 x.1)]) (fun x => RdObj p6 x.2 :: RfObj bx1 s x.2 :: l) (fun x => x.1 ≤ xs.length ∧ x.2.rest <:+ s) (fun x => xs.length - x.1) (0, ⟨s, false⟩) ⟨Nat.zero_le _, List.suffix_refl _⟩ ⟨rfl, rfl, rfl, rfl, rfl, rfl, trivial⟩ (fun _ s => by simpa [RfObj] using s.pull 1) ?_
              rintro ⟨i, r⟩ ⟨hi, hsuf⟩ f; (try dsimp only at hi hsuf ⊢)
              refine cd_sr ?_   -- 10
              refine ol_q (wn_none rfl) (op_lt rfl rfl) rfl ?_
              refine ol_nil_then ?_
              refine cd_seq ?_
              refine cd_cond rfl (fun hb7 => ?_) (fun hb7 => ?_)
              · have hp7 := hb7
                (try simp only [decide_eq_true_eq, decide_eq_false_iff_not, Bool.not_eq_true', Bool.not_eq_false', ne_eq, Decidable.not_not] at hp7)
                have hi1 : i < xs.length := by omega
                have hl0 := hsuf.length_le
                have hs1 := rdBytes_suf hsuf xs[i].2
                have hl1 := hs1.length_le
                have hs2 : (rdUint r xs[i].2).2.rest <:+ s := rdBytes_suf hsuf _
                have hl2 := hs2.length_le
                refine cd_skip ?_
                refine px_then ?_
                refine cd_seq ?_
                refine cd_block ?_
                refine cd_sr ?_   -- 11
                refine ol_q (wn_none rfl) (op_index _ sB_42 rfl rfl rfl ((hr.cons _).cons _) rfl (by omega)) rfl ?_
                refine ol_q (wn_none rfl) (op_ldea (L := [_, _]) _ 0 ag_49 rfl ((hr.cons _).cons _) (by omega) rfl rfl rfl) rfl ?_
                refine ol_i (wn_none rfl) (os_alloc zB_49 rfl) rfl ?_; rintro _ _ ⟨bx2, rfl, rfl⟩
                refine ol_iN (wn_none rfl) (os_storea (L' := [_, _]) ag_49 rfl rfl rfl (by simp [Value.oneCell']) rfl (Free.zero _) rfl) ?_; rintro _ _ ⟨rfl, rfl⟩
                refine ol_nil_then ?_
                refine cd_seq ?_
                refine cd_pull2 ?_
                refine cd_pull2 ?_
                refine cd_seq ?_   -- 12
                refine cd_drawe (M := [_, _]) mx [6, 10, 21, 25] ?_
                -- 0
                refine et_quiet 0 (by kernel_rfl) rfl (by kernel_rfl) (wn_none rfl) (op_field fld_49_0 rfl) rfl ?_
                -- 1
                refine et_quiet 1 (by kernel_rfl) rfl (by kernel_rfl) (wn_none rfl) (op_ld 0 sc_4 rfl rfl rfl) rfl ?_
                -- 2
                refine et_quiet 2 (by kernel_rfl) rfl (by kernel_rfl) (wn_none rfl) (op_move (v := .bool _) rfl) rfl ?_
                refine et_split 50 rfl (fun hb8 => ?_) (fun hb8 => ?_)
                · have hp8 := hb8
                  (try simp only [decide_eq_true_eq, decide_eq_false_iff_not, Bool.not_eq_true', Bool.not_eq_false', ne_eq, Decidable.not_not] at hp8)
                  -- 3
                  refine et_quiet 3 (by kernel_rfl) rfl (by kernel_rfl) (wn_some rfl rfl rfl hb8 rfl) (op_move (v := .pointer _) rfl) rfl ?_
                  -- 4
                  refine et_quiet 4 (by kernel_rfl) rfl (by kernel_rfl) (wn_some rfl rfl rfl hb8 rfl) (op_field fld_49_1 rfl) rfl ?_
                  -- 5
                  refine et_quiet 5 (by kernel_rfl) rfl (by kernel_rfl) (wn_some rfl rfl rfl hb8 rfl) (op_ld 0 sc_3 rfl rfl rfl) rfl ?_
                  -- 7
                  refine et_quiet 7 (by kernel_rfl) rfl (by kernel_rfl) (wn_some rfl rfl rfl hb8 rfl) (op_move (v := .pointer _) rfl) rfl ?_
                  -- 8
                  refine et_quiet 8 (by kernel_rfl) rfl (by kernel_rfl) (wn_some rfl rfl rfl hb8 rfl) (op_field fld_49_1 rfl) rfl ?_
                  -- 9
                  refine et_quiet 9 (by kernel_rfl) rfl (by kernel_rfl) (wn_some rfl rfl rfl hb8 rfl) (op_ld 0 sc_3 rfl rfl rfl) rfl ?_
                  refine et_1 (i := 6) (by kernel_rfl) ?_
                  refine ei_i rfl rfl (wn_some rfl rfl rfl hb8 rfl) (os_call cb_23 rfl (fun w s => Bytes_calls _ _ _  s )) rfl ?_; rintro _ _ ⟨rfl, rfl⟩; refine ⟨[_, _], rfl, ?_⟩
                  refine et_1 (i := 10) (by kernel_rfl) ?_
                  refine ei_i rfl rfl (wn_some rfl rfl rfl hb8 rfl) (os_pull1 (os_call cb_25 rfl (fun w s => RBytes_calls _ _ _ _  s (by assumption) (by omega)))) rfl ?_; rintro _ _ ⟨rfl, rfl⟩; refine ⟨[_, _], rfl, ?_⟩
                  -- 11
                  refine et_quiet 11 (by kernel_rfl) rfl (by kernel_rfl) (wn_some rfl rfl rfl hb8 rfl) (op_sneq rfl rfl) rfl ?_
                  -- 12
                  refine et_quiet 12 (by kernel_rfl) rfl (by kernel_rfl) (wn_none rfl) (op_pick_t (v := .bool _) rfl hb8 rfl) rfl ?_
                  -- 13
                  refine et_quiet 13 (by kernel_rfl) rfl (by kernel_rfl) (wn_none rfl) (op_move (v := .bool _) rfl) rfl ?_
                  refine et_split 61 rfl (fun hb9 => ?_) (fun hb9 => ?_)
                  · have hp9 := hb9
                    (try simp only [decide_eq_true_eq, decide_eq_false_iff_not, Bool.not_eq_true', Bool.not_eq_false', ne_eq, Decidable.not_not] at hp9)
                    exact absurd hb9 (by simp)
                  · have hp9 := hb9
                    (try simp only [decide_eq_true_eq, decide_eq_false_iff_not, Bool.not_eq_true', Bool.not_eq_false', ne_eq, Decidable.not_not] at hp9)
                    -- 14
                    refine et_quiet 14 (by kernel_rfl) rfl (by kernel_rfl) (wn_some rfl rfl rfl hb9 rfl) (op_field fld_49_0 rfl) rfl ?_
                    -- 15
                    refine et_quiet 15 (by kernel_rfl) rfl (by kernel_rfl) (wn_some rfl rfl rfl hb9 rfl) (op_ld 0 sc_4 rfl rfl rfl) rfl ?_
                    -- 16
                    refine et_quiet 16 (by kernel_rfl) rfl (by kernel_rfl) (wn_some rfl rfl rfl hb9 rfl) (op_not rfl) rfl ?_
                    -- 17
                    refine et_quiet 17 (by kernel_rfl) rfl (by kernel_rfl) (wn_some rfl rfl rfl hb9 rfl) (op_move (v := .bool _) rfl) rfl ?_
                    -- 18
                    refine et_skip 18 (by kernel_rfl) rfl (by kernel_rfl) (wn_some rfl rfl rfl (not_t hb8) rfl) rfl ?_
                    -- 19
                    refine et_skip 19 (by kernel_rfl) rfl (by kernel_rfl) (wn_some rfl rfl rfl (not_t hb8) rfl) rfl ?_
                    -- 20
                    refine et_skip 20 (by kernel_rfl) rfl (by kernel_rfl) (wn_some rfl rfl rfl (not_t hb8) rfl) rfl ?_
                    -- 22
                    refine et_skip 22 (by kernel_rfl) rfl (by kernel_rfl) (wn_some rfl rfl rfl (not_t hb8) rfl) rfl ?_
                    -- 23
                    refine et_skip 23 (by kernel_rfl) rfl (by kernel_rfl) (wn_some rfl rfl rfl (not_t hb8) rfl) rfl ?_
                    -- 24
                    refine et_skip 24 (by kernel_rfl) rfl (by kernel_rfl) (wn_some rfl rfl rfl (not_t hb8) rfl) rfl ?_
                    refine et_1 (i := 21) (by kernel_rfl) ?_
                    refine ei_skip rfl (wn_some rfl rfl rfl (not_t hb8) rfl) rfl ?_
                    refine et_1 (i := 25) (by kernel_rfl) ?_
                    refine ei_skip rfl (wn_some rfl rfl rfl (not_t hb8) rfl) rfl ?_
                    -- 26
                    refine et_skip 26 (by kernel_rfl) rfl (by kernel_rfl) (wn_some rfl rfl rfl (not_t hb8) rfl) rfl ?_
                    -- 27
                    refine et_quiet 27 (by kernel_rfl) rfl (by kernel_rfl) (wn_some rfl rfl rfl hb9 rfl) (op_pick_f (v := .bool _) rfl (not_t hb8) rfl) rfl ?_
                    -- 28
                    refine et_quiet 28 (by kernel_rfl) rfl (by kernel_rfl) (wn_none rfl) (op_pick_f (v := .bool _) rfl hb9 rfl) rfl ?_
                    refine et_nil_then (by kernel_rfl) ?_
                    refine cd_cond_f rfl rfl ?_
                    refine cd_skip ?_
                    refine px_then ?_
                    refine cd_pull1 ?_
                    refine cd_seq ?_   -- 14
                    refine cd_drawe (M := [_, _]) mx [1, 7, 12, 14] ?_
                    -- 0
                    refine et_quiet 0 (by kernel_rfl) rfl (by kernel_rfl) (wn_none rfl) (op_move (v := .pointer _) rfl) rfl ?_
                    -- 2
                    refine et_quiet 2 (by kernel_rfl) rfl (by kernel_rfl) (wn_none rfl) (op_move (v := .string _) rfl) rfl ?_
                    -- 3
                    refine et_quiet 3 (by kernel_rfl) rfl (by kernel_rfl) (wn_none rfl) (op_len_string Try.underlying9 rfl) rfl ?_
                    -- 4
                    refine et_quiet 4 (by kernel_rfl) rfl (by kernel_rfl) (wn_none rfl) (op_move (v := .pointer _) rfl) rfl ?_
                    -- 5
                    refine et_quiet 5 (by kernel_rfl) rfl (by kernel_rfl) (wn_none rfl) (op_nilck rfl) rfl ?_
                    -- 6
                    refine et_quiet 6 (by kernel_rfl) rfl (by kernel_rfl) (wn_none rfl) (op_field fld_47_1 rfl) rfl ?_
                    refine et_2 (i1 := 1) (i2 := 7) (by kernel_rfl) ?_ ?_
                    · -- 1
                      refine ei_i rfl rfl (wn_none rfl) (os_call cb_24 rfl (fun w s => Left_calls _ _  s )) rfl ?_; rintro _ _ ⟨rfl, rfl⟩; refine ⟨[_, _], rfl, ?_⟩
                      refine et_1 (i := 7) (by kernel_rfl) ?_
                      refine ei_i rfl rfl (wn_none rfl) (os_q (op_ld 1 sc_3 rfl rfl rfl)) rfl ?_; rintro _ _ ⟨rfl, rfl⟩; refine ⟨[_, _], rfl, ?_⟩
                      -- 8
                      refine et_quiet 8 (by kernel_rfl) rfl (by kernel_rfl) (wn_none rfl) (op_sub rfl rfl (by omega) (by omega)) rfl ?_
                      -- 9
                      refine et_quiet 9 (by kernel_rfl) rfl (by kernel_rfl) (wn_none rfl) (op_ne rfl rfl) rfl ?_
                      -- 10
                      refine et_quiet 10 (by kernel_rfl) rfl (by kernel_rfl) (wn_none rfl) (op_move (v := .bool _) rfl) rfl ?_
                      refine et_split 87 rfl (fun hb10 => ?_) (fun hb10 => ?_)
                      · have hp10 := hb10
                        (try simp only [decide_eq_true_eq, decide_eq_false_iff_not, Bool.not_eq_true', Bool.not_eq_false', ne_eq, Decidable.not_not] at hp10)
                        exact absurd (by omega) hp10
                      · have hp10 := hb10
                        (try simp only [decide_eq_true_eq, decide_eq_false_iff_not, Bool.not_eq_true', Bool.not_eq_false', ne_eq, Decidable.not_not] at hp10)
                        -- 11
                        refine et_quiet 11 (by kernel_rfl) rfl (by kernel_rfl) (wn_some rfl rfl rfl hb10 rfl) (op_move (v := .pointer _) rfl) rfl ?_
                        -- 13
                        refine et_quiet 13 (by kernel_rfl) rfl (by kernel_rfl) (wn_some rfl rfl rfl hb10 rfl) (op_move (v := .pointer _) rfl) rfl ?_
                        refine et_1 (i := 12) (by kernel_rfl) ?_
                        refine ei_i rfl rfl (wn_some rfl rfl rfl hb10 rfl) (os_call cb_22 rfl (fun w s => End_calls _ _  s )) rfl ?_; rintro _ _ ⟨rfl, rfl⟩; refine ⟨[_, _], rfl, ?_⟩
                        refine et_1 (i := 14) (by kernel_rfl) ?_
                        refine ei_i rfl rfl (wn_some rfl rfl rfl hb10 rfl) (os_pull1 (os_call cb_27 rfl (fun w s => REnd_calls _ _ _  s (by assumption) (by omega)))) rfl ?_; rintro _ _ ⟨rfl, rfl⟩; refine ⟨[_, _], rfl, ?_⟩
                        -- 15
                        refine et_quiet 15 (by kernel_rfl) rfl (by kernel_rfl) (wn_some rfl rfl rfl hb10 rfl) (op_bneq Try.underlying4 rfl rfl) rfl ?_
                        -- 16
                        refine et_quiet 16 (by kernel_rfl) rfl (by kernel_rfl) (wn_none rfl) (op_pick_f (v := .bool _) rfl hb10 rfl) rfl ?_
                        refine et_nil_then (by kernel_rfl) ?_
                        refine cd_cond rfl (fun hb11 => ?_) (fun hb11 => ?_)
                        · have hp11 := hb11
                          (try simp only [decide_eq_true_eq, decide_eq_false_iff_not, Bool.not_eq_true', Bool.not_eq_false', ne_eq, Decidable.not_not] at hp11)
                          exact absurd hb11 (by simp)
                        · have hp11 := hb11
                          (try simp only [decide_eq_true_eq, decide_eq_false_iff_not, Bool.not_eq_true', Bool.not_eq_false', ne_eq, Decidable.not_not] at hp11)
                          refine cd_skip ?_
                          refine px_blockN ?_
                          refine px_then ?_
                          refine cd_region ?_   -- 16
                          refine ol_q (wn_none rfl) (op_add rfl rfl (by omega) (by omega)) rfl ?_
                          refine ol_q (wn_none rfl) (op_move (v := .int _ _) rfl) rfl ?_
                          refine ol_nil ?_
                          exact px_loop (i + 1, (rdBytes r xs[i].2).2) ⟨by dsimp only; omega, hs1⟩ (by dsimp only; omega) ⟨rfl, rfl, rfl, rfl, rfl, congrArg (Value.int .i64) (by simp), trivial⟩ (fun _ s => ((s.del 2).pull 1))
                    · -- 7
                      refine ei_i rfl rfl (wn_none rfl) (os_q (op_ld 1 sc_3 rfl rfl rfl)) rfl ?_; rintro _ _ ⟨rfl, rfl⟩; refine ⟨[_, _], rfl, ?_⟩
                      -- 8
                      refine et_quiet 8 (by kernel_rfl) rfl (by kernel_rfl) (wn_none rfl) (op_sub rfl rfl (by omega) (by omega)) rfl ?_
                      refine et_1 (i := 1) (by kernel_rfl) ?_
                      refine ei_i rfl rfl (wn_none rfl) (os_call cb_24 rfl (fun w s => Left_calls _ _  s )) rfl ?_; rintro _ _ ⟨rfl, rfl⟩; refine ⟨[_, _], rfl, ?_⟩
                      -- 9
                      refine et_quiet 9 (by kernel_rfl) rfl (by kernel_rfl) (wn_none rfl) (op_ne rfl rfl) rfl ?_
                      -- 10
                      refine et_quiet 10 (by kernel_rfl) rfl (by kernel_rfl) (wn_none rfl) (op_move (v := .bool _) rfl) rfl ?_
                      refine et_split 87 rfl (fun hb12 => ?_) (fun hb12 => ?_)
                      · have hp12 := hb12
                        (try simp only [decide_eq_true_eq, decide_eq_false_iff_not, Bool.not_eq_true', Bool.not_eq_false', ne_eq, Decidable.not_not] at hp12)
                        exact absurd (by omega) hp12
                      · have hp12 := hb12
                        (try simp only [decide_eq_true_eq, decide_eq_false_iff_not, Bool.not_eq_true', Bool.not_eq_false', ne_eq, Decidable.not_not] at hp12)
                        -- 11
                        refine et_quiet 11 (by kernel_rfl) rfl (by kernel_rfl) (wn_some rfl rfl rfl hb12 rfl) (op_move (v := .pointer _) rfl) rfl ?_
                        -- 13
                        refine et_quiet 13 (by kernel_rfl) rfl (by kernel_rfl) (wn_some rfl rfl rfl hb12 rfl) (op_move (v := .pointer _) rfl) rfl ?_
                        refine et_1 (i := 12) (by kernel_rfl) ?_
                        refine ei_i rfl rfl (wn_some rfl rfl rfl hb12 rfl) (os_call cb_22 rfl (fun w s => End_calls _ _  s )) rfl ?_; rintro _ _ ⟨rfl, rfl⟩; refine ⟨[_, _], rfl, ?_⟩
                        refine et_1 (i := 14) (by kernel_rfl) ?_
                        refine ei_i rfl rfl (wn_some rfl rfl rfl hb12 rfl) (os_pull1 (os_call cb_27 rfl (fun w s => REnd_calls _ _ _  s (by assumption) (by omega)))) rfl ?_; rintro _ _ ⟨rfl, rfl⟩; refine ⟨[_, _], rfl, ?_⟩
                        -- 15
                        refine et_quiet 15 (by kernel_rfl) rfl (by kernel_rfl) (wn_some rfl rfl rfl hb12 rfl) (op_bneq Try.underlying4 rfl rfl) rfl ?_
                        -- 16
                        refine et_quiet 16 (by kernel_rfl) rfl (by kernel_rfl) (wn_none rfl) (op_pick_f (v := .bool _) rfl hb12 rfl) rfl ?_
                        refine et_nil_then (by kernel_rfl) ?_
                        refine cd_cond rfl (fun hb13 => ?_) (fun hb13 => ?_)
                        · have hp13 := hb13
                          (try simp only [decide_eq_true_eq, decide_eq_false_iff_not, Bool.not_eq_true', Bool.not_eq_false', ne_eq, Decidable.not_not] at hp13)
                          exact absurd hb13 (by simp)
                        · have hp13 := hb13
                          (try simp only [decide_eq_true_eq, decide_eq_false_iff_not, Bool.not_eq_true', Bool.not_eq_false', ne_eq, Decidable.not_not] at hp13)
                          refine cd_skip ?_
                          refine px_blockN ?_
                          refine px_then ?_
                          refine cd_region ?_   -- 16
                          refine ol_q (wn_none rfl) (op_add rfl rfl (by omega) (by omega)) rfl ?_
                          refine ol_q (wn_none rfl) (op_move (v := .int _ _) rfl) rfl ?_
                          refine ol_nil ?_
                          exact px_loop (i + 1, (rdBytes r xs[i].2).2) ⟨by dsimp only; omega, hs1⟩ (by dsimp only; omega) ⟨rfl, rfl, rfl, rfl, rfl, congrArg (Value.int .i64) (by simp), trivial⟩ (fun _ s => ((s.del 2).pull 1))
                · have hp8 := hb8
                  (try simp only [decide_eq_true_eq, decide_eq_false_iff_not, Bool.not_eq_true', Bool.not_eq_false', ne_eq, Decidable.not_not] at hp8)
                  -- 3
                  refine et_skip 3 (by kernel_rfl) rfl (by kernel_rfl) (wn_some rfl rfl rfl hb8 rfl) rfl ?_
                  -- 4
                  refine et_skip 4 (by kernel_rfl) rfl (by kernel_rfl) (wn_some rfl rfl rfl hb8 rfl) rfl ?_
                  -- 5
                  refine et_skip 5 (by kernel_rfl) rfl (by kernel_rfl) (wn_some rfl rfl rfl hb8 rfl) rfl ?_
                  -- 7
                  refine et_skip 7 (by kernel_rfl) rfl (by kernel_rfl) (wn_some rfl rfl rfl hb8 rfl) rfl ?_
                  -- 8
                  refine et_skip 8 (by kernel_rfl) rfl (by kernel_rfl) (wn_some rfl rfl rfl hb8 rfl) rfl ?_
                  -- 9
                  refine et_skip 9 (by kernel_rfl) rfl (by kernel_rfl) (wn_some rfl rfl rfl hb8 rfl) rfl ?_
                  refine et_1 (i := 6) (by kernel_rfl) ?_
                  refine ei_skip rfl (wn_some rfl rfl rfl hb8 rfl) rfl ?_
                  refine et_1 (i := 10) (by kernel_rfl) ?_
                  refine ei_skip rfl (wn_some rfl rfl rfl hb8 rfl) rfl ?_
                  -- 11
                  refine et_skip 11 (by kernel_rfl) rfl (by kernel_rfl) (wn_some rfl rfl rfl hb8 rfl) rfl ?_
                  -- 12
                  refine et_quiet 12 (by kernel_rfl) rfl (by kernel_rfl) (wn_none rfl) (op_pick_f (v := .bool _) rfl hb8 rfl) rfl ?_
                  -- 13
                  refine et_quiet 13 (by kernel_rfl) rfl (by kernel_rfl) (wn_none rfl) (op_move (v := .bool _) rfl) rfl ?_
                  -- 14
                  refine et_quiet 14 (by kernel_rfl) rfl (by kernel_rfl) (wn_some rfl rfl rfl rfl rfl) (op_field fld_49_0 rfl) rfl ?_
                  -- 15
                  refine et_quiet 15 (by kernel_rfl) rfl (by kernel_rfl) (wn_some rfl rfl rfl rfl rfl) (op_ld 0 sc_4 rfl rfl rfl) rfl ?_
                  -- 16
                  refine et_quiet 16 (by kernel_rfl) rfl (by kernel_rfl) (wn_some rfl rfl rfl rfl rfl) (op_not rfl) rfl ?_
                  -- 17
                  refine et_quiet 17 (by kernel_rfl) rfl (by kernel_rfl) (wn_some rfl rfl rfl rfl rfl) (op_move (v := .bool _) rfl) rfl ?_
                  -- 18
                  refine et_quiet 18 (by kernel_rfl) rfl (by kernel_rfl) (wn_some rfl rfl rfl (not_f hb8) rfl) (op_move (v := .pointer _) rfl) rfl ?_
                  -- 19
                  refine et_quiet 19 (by kernel_rfl) rfl (by kernel_rfl) (wn_some rfl rfl rfl (not_f hb8) rfl) (op_field fld_49_1 rfl) rfl ?_
                  -- 20
                  refine et_quiet 20 (by kernel_rfl) rfl (by kernel_rfl) (wn_some rfl rfl rfl (not_f hb8) rfl) (op_ld 0 sc_3 rfl rfl rfl) rfl ?_
                  -- 22
                  refine et_quiet 22 (by kernel_rfl) rfl (by kernel_rfl) (wn_some rfl rfl rfl (not_f hb8) rfl) (op_move (v := .pointer _) rfl) rfl ?_
                  -- 23
                  refine et_quiet 23 (by kernel_rfl) rfl (by kernel_rfl) (wn_some rfl rfl rfl (not_f hb8) rfl) (op_field fld_49_1 rfl) rfl ?_
                  -- 24
                  refine et_quiet 24 (by kernel_rfl) rfl (by kernel_rfl) (wn_some rfl rfl rfl (not_f hb8) rfl) (op_ld 0 sc_3 rfl rfl rfl) rfl ?_
                  refine et_1 (i := 21) (by kernel_rfl) ?_
                  refine ei_i rfl rfl (wn_some rfl rfl rfl (not_f hb8) rfl) (os_call cb_21 rfl (fun w s => Uint_calls _ _ _  s )) rfl ?_; rintro _ _ ⟨rfl, rfl⟩; refine ⟨[_, _], rfl, ?_⟩
                  refine et_1 (i := 25) (by kernel_rfl) ?_
                  refine ei_i rfl rfl (wn_some rfl rfl rfl (not_f hb8) rfl) (os_pull1 (os_call cb_26 rfl (fun w s => RUint_calls _ _ _ _  s (by assumption) (by omega)))) rfl ?_; rintro _ _ ⟨rfl, rfl⟩; refine ⟨[_, _], rfl, ?_⟩
                  -- 26
                  refine et_quiet 26 (by kernel_rfl) rfl (by kernel_rfl) (wn_some rfl rfl rfl (not_f hb8) rfl) (op_ne rfl rfl) rfl ?_
                  -- 27
                  refine et_quiet 27 (by kernel_rfl) rfl (by kernel_rfl) (wn_some rfl rfl rfl rfl rfl) (op_pick_t (v := .bool _) rfl (not_f hb8) rfl) rfl ?_
                  -- 28
                  refine et_quiet 28 (by kernel_rfl) rfl (by kernel_rfl) (wn_none rfl) (op_pick_f (v := .bool _) rfl rfl rfl) rfl ?_
                  refine et_nil_then (by kernel_rfl) ?_
                  refine cd_cond rfl (fun hb14 => ?_) (fun hb14 => ?_)
                  · have hp14 := hb14
                    (try simp only [decide_eq_true_eq, decide_eq_false_iff_not, Bool.not_eq_true', Bool.not_eq_false', ne_eq, Decidable.not_not] at hp14)
                    exact absurd hb14 (by simp)
                  · have hp14 := hb14
                    (try simp only [decide_eq_true_eq, decide_eq_false_iff_not, Bool.not_eq_true', Bool.not_eq_false', ne_eq, Decidable.not_not] at hp14)
                    refine cd_skip ?_
                    refine px_then ?_
                    refine cd_pull1 ?_
                    refine cd_seq ?_   -- 14
                    refine cd_drawe (M := [_, _]) mx [1, 7, 12, 14] ?_
                    -- 0
                    refine et_quiet 0 (by kernel_rfl) rfl (by kernel_rfl) (wn_none rfl) (op_move (v := .pointer _) rfl) rfl ?_
                    -- 2
                    refine et_quiet 2 (by kernel_rfl) rfl (by kernel_rfl) (wn_none rfl) (op_move (v := .string _) rfl) rfl ?_
                    -- 3
                    refine et_quiet 3 (by kernel_rfl) rfl (by kernel_rfl) (wn_none rfl) (op_len_string Try.underlying9 rfl) rfl ?_
                    -- 4
                    refine et_quiet 4 (by kernel_rfl) rfl (by kernel_rfl) (wn_none rfl) (op_move (v := .pointer _) rfl) rfl ?_
                    -- 5
                    refine et_quiet 5 (by kernel_rfl) rfl (by kernel_rfl) (wn_none rfl) (op_nilck rfl) rfl ?_
                    -- 6
                    refine et_quiet 6 (by kernel_rfl) rfl (by kernel_rfl) (wn_none rfl) (op_field fld_47_1 rfl) rfl ?_
                    refine et_2 (i1 := 1) (i2 := 7) (by kernel_rfl) ?_ ?_
                    · -- 1
                      refine ei_i rfl rfl (wn_none rfl) (os_call cb_24 rfl (fun w s => Left_calls _ _  s )) rfl ?_; rintro _ _ ⟨rfl, rfl⟩; refine ⟨[_, _], rfl, ?_⟩
                      refine et_1 (i := 7) (by kernel_rfl) ?_
                      refine ei_i rfl rfl (wn_none rfl) (os_q (op_ld 1 sc_3 rfl rfl rfl)) rfl ?_; rintro _ _ ⟨rfl, rfl⟩; refine ⟨[_, _], rfl, ?_⟩
                      -- 8
                      refine et_quiet 8 (by kernel_rfl) rfl (by kernel_rfl) (wn_none rfl) (op_sub rfl rfl (by omega) (by omega)) rfl ?_
                      -- 9
                      refine et_quiet 9 (by kernel_rfl) rfl (by kernel_rfl) (wn_none rfl) (op_ne rfl rfl) rfl ?_
                      -- 10
                      refine et_quiet 10 (by kernel_rfl) rfl (by kernel_rfl) (wn_none rfl) (op_move (v := .bool _) rfl) rfl ?_
                      refine et_split 87 rfl (fun hb15 => ?_) (fun hb15 => ?_)
                      · have hp15 := hb15
                        (try simp only [decide_eq_true_eq, decide_eq_false_iff_not, Bool.not_eq_true', Bool.not_eq_false', ne_eq, Decidable.not_not] at hp15)
                        exact absurd (by omega) hp15
                      · have hp15 := hb15
                        (try simp only [decide_eq_true_eq, decide_eq_false_iff_not, Bool.not_eq_true', Bool.not_eq_false', ne_eq, Decidable.not_not] at hp15)
                        -- 11
                        refine et_quiet 11 (by kernel_rfl) rfl (by kernel_rfl) (wn_some rfl rfl rfl hb15 rfl) (op_move (v := .pointer _) rfl) rfl ?_
                        -- 13
                        refine et_quiet 13 (by kernel_rfl) rfl (by kernel_rfl) (wn_some rfl rfl rfl hb15 rfl) (op_move (v := .pointer _) rfl) rfl ?_
                        refine et_1 (i := 12) (by kernel_rfl) ?_
                        refine ei_i rfl rfl (wn_some rfl rfl rfl hb15 rfl) (os_call cb_22 rfl (fun w s => End_calls _ _  s )) rfl ?_; rintro _ _ ⟨rfl, rfl⟩; refine ⟨[_, _], rfl, ?_⟩
                        refine et_1 (i := 14) (by kernel_rfl) ?_
                        refine ei_i rfl rfl (wn_some rfl rfl rfl hb15 rfl) (os_pull1 (os_call cb_27 rfl (fun w s => REnd_calls _ _ _  s (by assumption) (by omega)))) rfl ?_; rintro _ _ ⟨rfl, rfl⟩; refine ⟨[_, _], rfl, ?_⟩
                        -- 15
                        refine et_quiet 15 (by kernel_rfl) rfl (by kernel_rfl) (wn_some rfl rfl rfl hb15 rfl) (op_bneq Try.underlying4 rfl rfl) rfl ?_
                        -- 16
                        refine et_quiet 16 (by kernel_rfl) rfl (by kernel_rfl) (wn_none rfl) (op_pick_f (v := .bool _) rfl hb15 rfl) rfl ?_
                        refine et_nil_then (by kernel_rfl) ?_
                        refine cd_cond rfl (fun hb16 => ?_) (fun hb16 => ?_)
                        · have hp16 := hb16
                          (try simp only [decide_eq_true_eq, decide_eq_false_iff_not, Bool.not_eq_true', Bool.not_eq_false', ne_eq, Decidable.not_not] at hp16)
                          exact absurd hb16 (by simp)
                        · have hp16 := hb16
                          (try simp only [decide_eq_true_eq, decide_eq_false_iff_not, Bool.not_eq_true', Bool.not_eq_false', ne_eq, Decidable.not_not] at hp16)
                          refine cd_skip ?_
                          refine px_blockN ?_
                          refine px_then ?_
                          refine cd_region ?_   -- 16
                          refine ol_q (wn_none rfl) (op_add rfl rfl (by omega) (by omega)) rfl ?_
                          refine ol_q (wn_none rfl) (op_move (v := .int _ _) rfl) rfl ?_
                          refine ol_nil ?_
                          exact px_loop (i + 1, (rdUint r xs[i].2).2) ⟨by dsimp only; omega, hs2⟩ (by dsimp only; omega) ⟨rfl, rfl, rfl, rfl, rfl, congrArg (Value.int .i64) (by simp), trivial⟩ (fun _ s => ((s.del 2).pull 1))
                    · -- 7
                      refine ei_i rfl rfl (wn_none rfl) (os_q (op_ld 1 sc_3 rfl rfl rfl)) rfl ?_; rintro _ _ ⟨rfl, rfl⟩; refine ⟨[_, _], rfl, ?_⟩
                      -- 8
                      refine et_quiet 8 (by kernel_rfl) rfl (by kernel_rfl) (wn_none rfl) (op_sub rfl rfl (by omega) (by omega)) rfl ?_
                      refine et_1 (i := 1) (by kernel_rfl) ?_
                      refine ei_i rfl rfl (wn_none rfl) (os_call cb_24 rfl (fun w s => Left_calls _ _  s )) rfl ?_; rintro _ _ ⟨rfl, rfl⟩; refine ⟨[_, _], rfl, ?_⟩
                      -- 9
                      refine et_quiet 9 (by kernel_rfl) rfl (by kernel_rfl) (wn_none rfl) (op_ne rfl rfl) rfl ?_
                      -- 10
                      refine et_quiet 10 (by kernel_rfl) rfl (by kernel_rfl) (wn_none rfl) (op_move (v := .bool _) rfl) rfl ?_
                      refine et_split 87 rfl (fun hb17 => ?_) (fun hb17 => ?_)
                      · have hp17 := hb17
                        (try simp only [decide_eq_true_eq, decide_eq_false_iff_not, Bool.not_eq_true', Bool.not_eq_false', ne_eq, Decidable.not_not] at hp17)
                        exact absurd (by omega) hp17
                      · have hp17 := hb17
                        (try simp only [decide_eq_true_eq, decide_eq_false_iff_not, Bool.not_eq_true', Bool.not_eq_false', ne_eq, Decidable.not_not] at hp17)
                        -- 11
                        refine et_quiet 11 (by kernel_rfl) rfl (by kernel_rfl) (wn_some rfl rfl rfl hb17 rfl) (op_move (v := .pointer _) rfl) rfl ?_
                        -- 13
                        refine et_quiet 13 (by kernel_rfl) rfl (by kernel_rfl) (wn_some rfl rfl rfl hb17 rfl) (op_move (v := .pointer _) rfl) rfl ?_
                        refine et_1 (i := 12) (by kernel_rfl) ?_
                        refine ei_i rfl rfl (wn_some rfl rfl rfl hb17 rfl) (os_call cb_22 rfl (fun w s => End_calls _ _  s )) rfl ?_; rintro _ _ ⟨rfl, rfl⟩; refine ⟨[_, _], rfl, ?_⟩
                        refine et_1 (i := 14) (by kernel_rfl) ?_
                        refine ei_i rfl rfl (wn_some rfl rfl rfl hb17 rfl) (os_pull1 (os_call cb_27 rfl (fun w s => REnd_calls _ _ _  s (by assumption) (by omega)))) rfl ?_; rintro _ _ ⟨rfl, rfl⟩; refine ⟨[_, _], rfl, ?_⟩
                        -- 15
                        refine et_quiet 15 (by kernel_rfl) rfl (by kernel_rfl) (wn_some rfl rfl rfl hb17 rfl) (op_bneq Try.underlying4 rfl rfl) rfl ?_
                        -- 16
                        refine et_quiet 16 (by kernel_rfl) rfl (by kernel_rfl) (wn_none rfl) (op_pick_f (v := .bool _) rfl hb17 rfl) rfl ?_
                        refine et_nil_then (by kernel_rfl) ?_
                        refine cd_cond rfl (fun hb18 => ?_) (fun hb18 => ?_)
                        · have hp18 := hb18
                          (try simp only [decide_eq_true_eq, decide_eq_false_iff_not, Bool.not_eq_true', Bool.not_eq_false', ne_eq, Decidable.not_not] at hp18)
                          exact absurd hb18 (by simp)
                        · have hp18 := hb18
                          (try simp only [decide_eq_true_eq, decide_eq_false_iff_not, Bool.not_eq_true', Bool.not_eq_false', ne_eq, Decidable.not_not] at hp18)
                          refine cd_skip ?_
                          refine px_blockN ?_
                          refine px_then ?_
                          refine cd_region ?_   -- 16
                          refine ol_q (wn_none rfl) (op_add rfl rfl (by omega) (by omega)) rfl ?_
                          refine ol_q (wn_none rfl) (op_move (v := .int _ _) rfl) rfl ?_
                          refine ol_nil ?_
                          exact px_loop (i + 1, (rdUint r xs[i].2).2) ⟨by dsimp only; omega, hs2⟩ (by dsimp only; omega) ⟨rfl, rfl, rfl, rfl, rfl, congrArg (Value.int .i64) (by simp), trivial⟩ (fun _ s => ((s.del 2).pull 1))
              · have hp7 := hb7
                (try simp only [decide_eq_true_eq, decide_eq_false_iff_not, Bool.not_eq_true', Bool.not_eq_false', ne_eq, Decidable.not_not] at hp7)
                refine cd_exit ?_
                refine px_thenE ?_
                refine px_thenE ?_
                refine px_blockE ?_
                refine px_then ?_
                refine cd_sr ?_   -- 17
                refine ol_q (wn_none rfl) (op_assign (v := .bool _) rfl) rfl ?_
                refine ol_nil_then ?_
                refine cd_ret ?_
                exact px_ret1 rfl (v := .bool _) rfl (fun _ s => ((s.del 1).del 0)) ⟨congrArg Value.bool (rfl), rfl⟩
end Go.SL

import Derived.Test.YtgkhjpfljikhbaaBitRef
set_option linter.unusedVariables false
set_option linter.unusedSimpArgs false
namespace Go.SL
open Go.Proofs

theorem BitlistIs_calls {w0 w : World} {l : List HProp} (bb : List UInt8) (lo : Option Addr) (lc : Nat) (xs : List Bool) (s : List UInt8) (most : Int) (hs : Sat w0 w (l)) (hr : Rds w0 l encBool lo xs) (hq : ∀ a ∈ xs, True) :
    Calls Try.prog 10 #[.string (B bb), .slice lo xs.length lc, .string (B s), .int .i64 most] w (Ret w0 fun v l' => v = .bool true ∧ l' = l) := by
  refine calls_enter Try.func10 rfl rfl rfl hs ?_
  refine cd_sr ?_   -- 0
  refine ol_q (wn_none rfl) (op_assign (v := .bool _) rfl) rfl ?_
  refine ol_nil_then ?_
  refine cd_seq ?_
  refine cd_sr ?_   -- 1
  refine ol_i (wn_none rfl) (os_call cb_13 rfl (fun w s => bitAlive_calls  s )) rfl ?_; rintro _ l ⟨rfl, rfl⟩
  refine ol_q (wn_none rfl) (op_not rfl) rfl ?_
  refine ol_nil_then ?_
  refine cd_cond_f rfl rfl ?_
  refine cd_skip ?_
  refine px_then ?_
  refine cd_seq ?_
  refine cd_sr ?_   -- 3
  refine ol_q (wn_none rfl) (op_move (v := .string _) rfl) rfl ?_
  refine ol_q (wn_none rfl) (op_len_string Try.underlying9 rfl) rfl ?_
  refine ol_q (wn_none rfl) (op_gt rfl rfl) rfl ?_
  refine ol_q (wn_none rfl) (op_move (v := .bool _) rfl) rfl ?_
  refine ol_split 22 rfl (fun hb1 => ?_) (fun hb1 => ?_)
  · have hp1 := hb1
    (try simp only [decide_eq_true_eq, decide_eq_false_iff_not, Bool.not_eq_true', Bool.not_eq_false', ne_eq, Decidable.not_not] at hp1)
    refine ol_skip (wn_some rfl rfl rfl hb1 rfl) rfl ?_
    refine ol_skip (wn_some rfl rfl rfl hb1 rfl) rfl ?_
    refine ol_skip (wn_some rfl rfl rfl hb1 rfl) rfl ?_
    refine ol_q (wn_none rfl) (op_pick_t (v := .bool _) rfl hb1 rfl) rfl ?_
    refine ol_q (wn_none rfl) (op_move (v := .bool _) rfl) rfl ?_
    refine ol_skip (wn_some rfl rfl rfl rfl rfl) rfl ?_
    refine ol_skip (wn_some rfl rfl rfl rfl rfl) rfl ?_
    refine ol_skip (wn_some rfl rfl rfl rfl rfl) rfl ?_
    refine ol_q (wn_none rfl) (op_pick_t (v := .bool _) rfl rfl rfl) rfl ?_
    refine ol_nil_then ?_
    refine cd_cond_t rfl rfl ?_
    refine cd_sr ?_   -- 4
    refine ol_q (wn_none rfl) (op_assign (v := .bool _) rfl) rfl ?_
    refine ol_nil_then ?_
    refine cd_ret ?_
    refine px_thenR ?_
    exact px_ret1 rfl (v := .bool _) rfl (fun _ s => s) ⟨congrArg Value.bool (rfl), rfl⟩
  · have hp1 := hb1
    (try simp only [decide_eq_true_eq, decide_eq_false_iff_not, Bool.not_eq_true', Bool.not_eq_false', ne_eq, Decidable.not_not] at hp1)
    refine ol_q (wn_some rfl rfl rfl hb1 rfl) (op_move (v := .slice _ _ _) rfl) rfl ?_
    refine ol_q (wn_some rfl rfl rfl hb1 rfl) (op_len_slice Try.underlying22 rfl) rfl ?_
    refine ol_q (wn_some rfl rfl rfl hb1 rfl) (op_gt rfl rfl) rfl ?_
    refine ol_q (wn_none rfl) (op_pick_f (v := .bool _) rfl hb1 rfl) rfl ?_
    refine ol_q (wn_none rfl) (op_move (v := .bool _) rfl) rfl ?_
    refine ol_split 27 rfl (fun hb2 => ?_) (fun hb2 => ?_)
    · have hp2 := hb2
      (try simp only [decide_eq_true_eq, decide_eq_false_iff_not, Bool.not_eq_true', Bool.not_eq_false', ne_eq, Decidable.not_not] at hp2)
      refine ol_skip (wn_some rfl rfl rfl hb2 rfl) rfl ?_
      refine ol_skip (wn_some rfl rfl rfl hb2 rfl) rfl ?_
      refine ol_skip (wn_some rfl rfl rfl hb2 rfl) rfl ?_
      refine ol_q (wn_none rfl) (op_pick_t (v := .bool _) rfl hb2 rfl) rfl ?_
      refine ol_nil_then ?_
      refine cd_cond_t rfl rfl ?_
      refine cd_sr ?_   -- 4
      refine ol_q (wn_none rfl) (op_assign (v := .bool _) rfl) rfl ?_
      refine ol_nil_then ?_
      refine cd_ret ?_
      refine px_thenR ?_
      exact px_ret1 rfl (v := .bool _) rfl (fun _ s => s) ⟨congrArg Value.bool (rfl), rfl⟩
    · have hp2 := hb2
      (try simp only [decide_eq_true_eq, decide_eq_false_iff_not, Bool.not_eq_true', Bool.not_eq_false', ne_eq, Decidable.not_not] at hp2)
      refine ol_q (wn_some rfl rfl rfl hb2 rfl) (op_move (v := .string _) rfl) rfl ?_
      refine ol_q (wn_some rfl rfl rfl hb2 rfl) (op_len_string Try.underlying9 rfl) rfl ?_
      refine ol_q (wn_some rfl rfl rfl hb2 rfl) (op_gt rfl rfl) rfl ?_
      refine ol_q (wn_none rfl) (op_pick_f (v := .bool _) rfl hb2 rfl) rfl ?_
      refine ol_nil_then ?_
      refine cd_cond rfl (fun hb3 => ?_) (fun hb3 => ?_)
      · have hp3 := hb3
        (try simp only [decide_eq_true_eq, decide_eq_false_iff_not, Bool.not_eq_true', Bool.not_eq_false', ne_eq, Decidable.not_not] at hp3)
        refine cd_sr ?_   -- 4
        refine ol_q (wn_none rfl) (op_assign (v := .bool _) rfl) rfl ?_
        refine ol_nil_then ?_
        refine cd_ret ?_
        refine px_thenR ?_
        exact px_ret1 rfl (v := .bool _) rfl (fun _ s => s) ⟨congrArg Value.bool (rfl), rfl⟩
      · have hp3 := hb3
        (try simp only [decide_eq_true_eq, decide_eq_false_iff_not, Bool.not_eq_true', Bool.not_eq_false', ne_eq, Decidable.not_not] at hp3)
        have hgl : (getD' s most).length ≤ 100000 := Nat.le_trans (getD'_le _ _) (by omega)
        have hel := enc8_length xs
        have hpl : ∀ i, (places (xs.take i) 0).length ≤ 500 := fun i => Nat.le_trans (places_len _ _) (by rw [List.length_take]; omega)
        refine cd_skip ?_
        refine px_then ?_
        refine cd_seq ?_
        refine cd_seq ?_   -- 5
        refine cd_drawe (M := []) mx [1, 3, 4, 7, 13, 15, 22] ?_
        -- 0
        refine et_quiet 0 (by kernel_rfl) rfl (by kernel_rfl) (wn_none rfl) (op_move (v := .string _) rfl) rfl ?_
        -- 2
        refine et_quiet 2 (by kernel_rfl) rfl (by kernel_rfl) (wn_none rfl) (op_move (v := .slice _ _ _) rfl) rfl ?_
        -- 5
        refine et_quiet 5 (by kernel_rfl) rfl (by kernel_rfl) (wn_none rfl) (op_move (v := .string _) rfl) rfl ?_
        -- 6
        refine et_quiet 6 (by kernel_rfl) rfl (by kernel_rfl) (wn_none rfl) (op_move (v := .slice _ _ _) rfl) rfl ?_
        refine et_1 (i := 1) (by kernel_rfl) ?_
        refine ei_i rfl rfl (wn_none rfl) (os_s2b sB_26 Try.underlying5 Try.underlying9 rfl (by omega)) rfl ?_; rintro _ _ ⟨ao1, ac1, rfl, rfl⟩; refine ⟨[_], rfl, ?_⟩
        refine et_1 (i := 3) (by kernel_rfl) ?_
        refine ei_i rfl rfl (wn_none rfl) (os_call cb_15 rfl (fun w s => BPut_calls _ _ _ _ _ _ _  s hr (by first | rfl | simp) (by first | omega | (simp; done) | (simp; omega)) (by first | omega | (simp; done) | (simp; omega)))) rfl ?_; rintro _ _ ⟨pa2, pc2, rfl, rfl⟩; refine ⟨[_], rfl, ?_⟩
        refine et_2 (i1 := 4) (i2 := 7) (by kernel_rfl) ?_ ?_
        · -- 4
          refine ei_i rfl rfl (wn_none rfl) (os_q (op_b2s sB_26 Try.underlying5 Try.underlying9 rfl (rds_row 0 rfl rfl) rfl)) rfl ?_; rintro _ _ ⟨rfl, rfl⟩; refine ⟨[_], rfl, ?_⟩
          refine et_1 (i := 7) (by kernel_rfl) ?_
          refine ei_i rfl rfl (wn_none rfl) (os_call cb_28 rfl (fun w s => RefBytes_calls _ _ _  s (hr.cons _) (by first | omega | (simp; done) | (simp; omega)))) rfl ?_; rintro _ l ⟨rfl, rfl⟩; refine ⟨[_], rfl, ?_⟩
          -- 8
          refine et_quiet 8 (by kernel_rfl) rfl (by kernel_rfl) (wn_none rfl) (op_sadd rfl rfl (by rw [enc8_length]; omega)) rfl ?_
          -- 9
          refine et_quiet 9 (by kernel_rfl) rfl (by kernel_rfl) (wn_none rfl) (op_sneq rfl rfl) rfl ?_
          -- 10
          refine et_quiet 10 (by kernel_rfl) rfl (by kernel_rfl) (wn_none rfl) (op_move (v := .bool _) rfl) rfl ?_
          refine et_split 42 rfl (fun hb4 => ?_) (fun hb4 => ?_)
          · have hp4 := hb4
            (try simp only [decide_eq_true_eq, decide_eq_false_iff_not, Bool.not_eq_true', Bool.not_eq_false', ne_eq, Decidable.not_not] at hp4)
            exact absurd hb4 (by simp)
          · have hp4 := hb4
            (try simp only [decide_eq_true_eq, decide_eq_false_iff_not, Bool.not_eq_true', Bool.not_eq_false', ne_eq, Decidable.not_not] at hp4)
            -- 11
            refine et_quiet 11 (by kernel_rfl) rfl (by kernel_rfl) (wn_some rfl rfl rfl hb4 rfl) (op_move (v := .slice _ _ _) rfl) rfl ?_
            -- 12
            refine et_quiet 12 (by kernel_rfl) rfl (by kernel_rfl) (wn_some rfl rfl rfl hb4 rfl) (op_len_slice Try.underlying22 rfl) rfl ?_
            -- 14
            refine et_quiet 14 (by kernel_rfl) rfl (by kernel_rfl) (wn_some rfl rfl rfl hb4 rfl) (op_move (v := .slice _ _ _) rfl) rfl ?_
            refine et_1 (i := 13) (by kernel_rfl) ?_
            refine ei_i rfl rfl (wn_some rfl rfl rfl hb4 rfl) (os_call cb_29 rfl (fun w s => Size_calls _  s (by omega))) rfl ?_; rintro _ l ⟨rfl, rfl⟩; refine ⟨[_], rfl, ?_⟩
            refine et_1 (i := 15) (by kernel_rfl) ?_
            refine ei_i rfl rfl (wn_some rfl rfl rfl hb4 rfl) (os_call cb_28 rfl (fun w s => RefBytes_calls _ _ _  s (hr.cons _) (by first | omega | (simp; done) | (simp; omega)))) rfl ?_; rintro _ l ⟨rfl, rfl⟩; refine ⟨[_], rfl, ?_⟩
            -- 16
            refine et_quiet 16 (by kernel_rfl) rfl (by kernel_rfl) (wn_some rfl rfl rfl hb4 rfl) (op_len_string Try.underlying9 rfl) rfl ?_
            -- 17
            refine et_quiet 17 (by kernel_rfl) rfl (by kernel_rfl) (wn_some rfl rfl rfl hb4 rfl) (op_ne rfl rfl) rfl ?_
            -- 18
            refine et_quiet 18 (by kernel_rfl) rfl (by kernel_rfl) (wn_none rfl) (op_pick_f (v := .bool _) rfl hb4 rfl) rfl ?_
            -- 19
            refine et_quiet 19 (by kernel_rfl) rfl (by kernel_rfl) (wn_none rfl) (op_move (v := .bool _) rfl) rfl ?_
            refine et_split 51 rfl (fun hb5 => ?_) (fun hb5 => ?_)
            · have hp5 := hb5
              (try simp only [decide_eq_true_eq, decide_eq_false_iff_not, Bool.not_eq_true', Bool.not_eq_false', ne_eq, Decidable.not_not] at hp5)
              exact absurd (by rw [hel]; split <;> omega) hp5
            · have hp5 := hb5
              (try simp only [decide_eq_true_eq, decide_eq_false_iff_not, Bool.not_eq_true', Bool.not_eq_false', ne_eq, Decidable.not_not] at hp5)
              -- 20
              refine et_quiet 20 (by kernel_rfl) rfl (by kernel_rfl) (wn_some rfl rfl rfl hb5 rfl) (op_move (v := .int _ _) rfl) rfl ?_
              -- 21
              refine et_quiet 21 (by kernel_rfl) rfl (by kernel_rfl) (wn_some rfl rfl rfl hb5 rfl) (op_min rfl rfl) rfl ?_
              refine et_1 (i := 22) (by kernel_rfl) ?_
              refine ei_i rfl rfl (wn_some rfl rfl rfl hb5 rfl) (os_call cb_29 rfl (fun w s => Size_calls _  s (by split <;> omega))) rfl ?_; rintro _ l ⟨rfl, rfl⟩; refine ⟨[_], rfl, ?_⟩
              -- 23
              refine et_quiet 23 (by kernel_rfl) rfl (by kernel_rfl) (wn_some rfl rfl rfl hb5 rfl) (op_ne rfl rfl) rfl ?_
              -- 24
              refine et_quiet 24 (by kernel_rfl) rfl (by kernel_rfl) (wn_none rfl) (op_pick_f (v := .bool _) rfl hb5 rfl) rfl ?_
              refine et_nil_then (by kernel_rfl) ?_
              refine cd_cond rfl (fun hb6 => ?_) (fun hb6 => ?_)
              · have hp6 := hb6
                (try simp only [decide_eq_true_eq, decide_eq_false_iff_not, Bool.not_eq_true', Bool.not_eq_false', ne_eq, Decidable.not_not] at hp6)
                exact absurd (by repeat (first | omega | split)) hp6
              · have hp6 := hb6
                (try simp only [decide_eq_true_eq, decide_eq_false_iff_not, Bool.not_eq_true', Bool.not_eq_false', ne_eq, Decidable.not_not] at hp6)
                refine cd_skip ?_
                refine px_then ?_
                refine cd_sr ?_   -- 7
                refine ol_q (wn_none rfl) (op_move (v := .string _) rfl) rfl ?_
                refine ol_q (wn_none rfl) (op_move (v := .int _ _) rfl) rfl ?_
                refine ol_i (wn_none rfl) (os_call cb_14 rfl (fun w s => BGet_calls _ _  s (by first | omega | (simp; done) | (simp; omega)))) rfl ?_; rintro _ _ ⟨ga7, gc7, rfl, rfl⟩
                refine ol_q (wn_none rfl) (op_move (v := .tuple _) rfl) rfl ?_
                refine ol_q (wn_none rfl) (op_extract (v := .slice _ _ _) rfl rfl) rfl ?_
                refine ol_q (wn_none rfl) (op_extract (v := .bool _) rfl rfl) rfl ?_
                refine ol_q (wn_none rfl) (op_assign (v := .slice _ _ _) rfl) rfl ?_
                refine ol_q (wn_none rfl) (op_assign (v := .bool _) rfl) rfl ?_
                refine ol_nil_then ?_
                refine cd_sr ?_   -- 8
                refine ol_q (wn_none rfl) (op_move (v := .string _) rfl) rfl ?_
                refine ol_q (wn_none rfl) (op_move (v := .int _ _) rfl) rfl ?_
                refine ol_i (wn_none rfl) (os_call cb_30 rfl (fun w s => RefGet_calls _ _  s (by first | omega | (simp; done) | (simp; omega)))) rfl ?_; rintro _ _ ⟨wr, wa, wc, rfl, rfl, hw⟩
                refine ol_q (wn_none rfl) (op_move (v := .tuple _) rfl) rfl ?_
                refine ol_q (wn_none rfl) (op_extract (v := .slice _ _ _) rfl rfl) rfl ?_
                refine ol_q (wn_none rfl) (op_extract (v := .bool _) rfl rfl) rfl ?_
                refine ol_q (wn_none rfl) (op_assign (v := .slice _ _ _) rfl) rfl ?_
                refine ol_q (wn_none rfl) (op_assign (v := .bool _) rfl) rfl ?_
                refine ol_nil_then ?_
                refine cd_seq ?_
                refine cd_sr ?_   -- 9
                refine ol_q (wn_none rfl) (op_move (v := .bool _) rfl) rfl ?_
                refine ol_q (wn_none rfl) (op_move (v := .bool _) rfl) rfl ?_
                refine ol_q (wn_none rfl) (op_bneq Try.underlying4 rfl rfl) rfl ?_
                refine ol_q (wn_none rfl) (op_move (v := .bool _) rfl) rfl ?_
                refine ol_split 72 rfl (fun hb7 => ?_) (fun hb7 => ?_)
                · have hp7 := hb7
                  (try simp only [decide_eq_true_eq, decide_eq_false_iff_not, Bool.not_eq_true', Bool.not_eq_false', ne_eq, Decidable.not_not] at hp7)
                  exact absurd hb7 (by simp)
                · have hp7 := hb7
                  (try simp only [decide_eq_true_eq, decide_eq_false_iff_not, Bool.not_eq_true', Bool.not_eq_false', ne_eq, Decidable.not_not] at hp7)
                  refine ol_q (wn_some rfl rfl rfl hb7 rfl) (op_move (v := .bool _) rfl) rfl ?_
                  refine ol_q (wn_some rfl rfl rfl hb7 rfl) (op_not rfl) rfl ?_
                  refine ol_q (wn_some rfl rfl rfl hb7 rfl) (op_move (v := .bool _) rfl) rfl ?_
                  refine ol_split 75 rfl (fun hb8 => ?_) (fun hb8 => ?_)
                  · have hp8 := hb8
                    (try simp only [decide_eq_true_eq, decide_eq_false_iff_not, Bool.not_eq_true', Bool.not_eq_false', ne_eq, Decidable.not_not] at hp8)
                    have hgn := getD'_none s most (by simpa using hb8)
                    refine ol_q (wn_some rfl rfl rfl hb8 rfl) (op_move (v := .slice _ _ _) rfl) rfl ?_
                    refine ol_q (wn_some rfl rfl rfl hb8 rfl) (op_len_slice Try.underlying22 rfl) rfl ?_
                    refine ol_q (wn_some rfl rfl rfl hb8 rfl) (op_ne rfl rfl) rfl ?_
                    refine ol_q (wn_some rfl rfl rfl hb7 rfl) (op_pick_t (v := .bool _) rfl hb8 rfl) rfl ?_
                    refine ol_q (wn_none rfl) (op_pick_f (v := .bool _) rfl hb7 rfl) rfl ?_
                    refine ol_q (wn_none rfl) (op_move (v := .bool _) rfl) rfl ?_
                    refine ol_split 81 rfl (fun hb9 => ?_) (fun hb9 => ?_)
                    · have hp9 := hb9
                      (try simp only [decide_eq_true_eq, decide_eq_false_iff_not, Bool.not_eq_true', Bool.not_eq_false', ne_eq, Decidable.not_not] at hp9)
                      exact absurd hb9 (by simp [hgn])
                    · have hp9 := hb9
                      (try simp only [decide_eq_true_eq, decide_eq_false_iff_not, Bool.not_eq_true', Bool.not_eq_false', ne_eq, Decidable.not_not] at hp9)
                      refine ol_q (wn_some rfl rfl rfl hb9 rfl) (op_move (v := .bool _) rfl) rfl ?_
                      refine ol_q (wn_some rfl rfl rfl hb9 rfl) (op_move (v := .bool _) rfl) rfl ?_
                      refine ol_split 83 rfl (fun hb10 => ?_) (fun hb10 => ?_)
                      · have hp10 := hb10
                        (try simp only [decide_eq_true_eq, decide_eq_false_iff_not, Bool.not_eq_true', Bool.not_eq_false', ne_eq, Decidable.not_not] at hp10)
                        have hwe := hw hp10
                        refine ol_q (wn_some rfl rfl rfl hb10 rfl) (op_move (v := .slice _ _ _) rfl) rfl ?_
                        refine ol_q (wn_some rfl rfl rfl hb10 rfl) (op_move (v := .slice _ _ _) rfl) rfl ?_
                        refine ol_i (wn_some rfl rfl rfl hb10 rfl) (os_call cb_16 rfl (fun w s => Same_calls _ _ _ _ _ _  s (rds_row 1 rfl rfl) (rds_row 0 rfl rfl) hgl)) rfl ?_; rintro _ l ⟨rfl, rfl⟩
                        refine ol_q (wn_some rfl rfl rfl hb10 rfl) (op_not rfl) rfl ?_
                        refine ol_q (wn_some rfl rfl rfl hb9 rfl) (op_pick_t (v := .bool _) rfl hb10 rfl) rfl ?_
                        refine ol_q (wn_none rfl) (op_pick_f (v := .bool _) rfl hb9 rfl) rfl ?_
                        refine ol_nil_then ?_
                        refine cd_cond rfl (fun hb11 => ?_) (fun hb11 => ?_)
                        · have hp11 := hb11
                          (try simp only [decide_eq_true_eq, decide_eq_false_iff_not, Bool.not_eq_true', Bool.not_eq_false', ne_eq, Decidable.not_not] at hp11)
                          exact absurd hb11 (by simp [hwe])
                        · have hp11 := hb11
                          (try simp only [decide_eq_true_eq, decide_eq_false_iff_not, Bool.not_eq_true', Bool.not_eq_false', ne_eq, Decidable.not_not] at hp11)
                          refine cd_skip ?_
                          refine px_then ?_
                          refine cd_sr ?_   -- 11
                          refine ol_q (wn_none rfl) (op_move (v := .slice _ _ _) rfl) rfl ?_
                          refine ol_i (wn_none rfl) (os_call cb_31 rfl (fun w s => Places_calls _ _ _  s (((hr.cons _).cons _).cons _) (by first | omega | (simp; done) | (simp; omega)))) rfl ?_; rintro _ _ ⟨qa10, qc10, rfl, rfl⟩
                          refine ol_q (wn_none rfl) (op_assign (v := .slice _ _ _) rfl) rfl ?_
                          refine ol_nil_then ?_
                          refine cd_sr ?_   -- 12
                          refine ol_q (wn_none rfl) (op_assign (v := .int _ _) rfl) rfl ?_
                          refine ol_nil_then ?_
                          refine cd_seq ?_
                          refine cd_sr ?_   -- 13
                          refine ol_q (wn_none rfl) (op_move (v := .slice _ _ _) rfl) rfl ?_
                          refine ol_q (wn_none rfl) (op_len_slice Try.underlying22 rfl) rfl ?_
                          refine ol_q (wn_none rfl) (op_move (v := .int _ _) rfl) rfl ?_
                          refine ol_nil_then ?_
                          refine cd_block ?_
                          refine cd_loop (α := Nat) (fun i => [(1, .slice lo xs.length lc), (13, .slice qa10 (places xs 0).length qc10), (14, .int .i64 (places (xs.take i) 0).length), (92, .slice lo xs.length lc), (93, .int .i64 xs.length), (94, .int .i64 i)]) (fun _ => Row 3 encI64 (.slice qa10 (places xs 0).length qc10) (places xs 0) :: l) (fun i => i ≤ xs.length) (fun i => xs.length - i) 0 (Nat.zero_le _) ⟨rfl, rfl, rfl, rfl, rfl, rfl, trivial⟩ (fun _ s => (((s.del 3).del 2).del 1)) ?_
                          intro i hi f; (try dsimp only at hi ⊢)
                          refine cd_sr ?_   -- 14
                          refine ol_q (wn_none rfl) (op_lt rfl rfl) rfl ?_
                          refine ol_nil_then ?_
                          refine cd_seq ?_
                          refine cd_cond rfl (fun hb12 => ?_) (fun hb12 => ?_)
                          · have hp12 := hb12
                            (try simp only [decide_eq_true_eq, decide_eq_false_iff_not, Bool.not_eq_true', Bool.not_eq_false', ne_eq, Decidable.not_not] at hp12)
                            have hi1 : i < xs.length := by omega
                            have hst0 := places_take xs i hi1
                            have hpi := hpl i
                            refine cd_skip ?_
                            refine px_then ?_
                            refine cd_seq ?_
                            refine cd_block ?_
                            refine cd_sr ?_   -- 15
                            refine ol_q (wn_none rfl) (op_move (v := .int _ _) rfl) rfl ?_
                            refine ol_q (wn_none rfl) (op_index _ sB_22 rfl rfl rfl (hr.cons _) rfl (by omega)) rfl ?_
                            refine ol_q (wn_none rfl) (op_lde _ 0 sc_4 rfl (hr.cons _) (by omega) rfl rfl rfl) rfl ?_
                            refine ol_q (wn_none rfl) (op_assign (v := .int _ _) rfl) rfl ?_
                            refine ol_q (wn_none rfl) (op_assign (v := .bool _) rfl) rfl ?_
                            refine ol_nil_then ?_
                            refine cd_seq ?_
                            refine cd_sr ?_   -- 16
                            refine ol_q (wn_none rfl) (op_move (v := .bool _) rfl) rfl ?_
                            refine ol_q (wn_none rfl) (op_move (v := .bool _) rfl) rfl ?_
                            refine ol_split 100 rfl (fun hb13 => ?_) (fun hb13 => ?_)
                            · have hp13 := hb13
                              (try simp only [decide_eq_true_eq, decide_eq_false_iff_not, Bool.not_eq_true', Bool.not_eq_false', ne_eq, Decidable.not_not] at hp13)
                              obtain ⟨hpa1, hpa2⟩ := places_at xs i hi1 hb13
                              rw [if_pos hb13] at hst0
                              have hst := congrArg List.length hst0
                              refine ol_q (wn_some rfl rfl rfl hb13 rfl) (op_move (v := .int _ _) rfl) rfl ?_
                              refine ol_q (wn_some rfl rfl rfl hb13 rfl) (op_move (v := .slice _ _ _) rfl) rfl ?_
                              refine ol_q (wn_some rfl rfl rfl hb13 rfl) (op_len_slice Try.underlying54 rfl) rfl ?_
                              refine ol_q (wn_some rfl rfl rfl hb13 rfl) (op_ge rfl rfl) rfl ?_
                              refine ol_q (wn_some rfl rfl rfl hb13 rfl) (op_move (v := .bool _) rfl) rfl ?_
                              refine ol_split 105 rfl (fun hb14 => ?_) (fun hb14 => ?_)
                              · have hp14 := hb14
                                (try simp only [decide_eq_true_eq, decide_eq_false_iff_not, Bool.not_eq_true', Bool.not_eq_false', ne_eq, Decidable.not_not] at hp14)
                                exact absurd hp14 (by omega)
                              · have hp14 := hb14
                                (try simp only [decide_eq_true_eq, decide_eq_false_iff_not, Bool.not_eq_true', Bool.not_eq_false', ne_eq, Decidable.not_not] at hp14)
                                refine ol_q (wn_some rfl rfl rfl hb14 rfl) (op_move (v := .slice _ _ _) rfl) rfl ?_
                                refine ol_q (wn_some rfl rfl rfl hb14 rfl) (op_move (v := .int _ _) rfl) rfl ?_
                                refine ol_q (wn_some rfl rfl rfl hb14 rfl) (op_index _ sB_54 rfl rfl rfl (rds_row 0 rfl rfl) rfl hpa1) rfl ?_
                                refine ol_q (wn_some rfl rfl rfl hb14 rfl) (op_lde _ 0 sc_3 rfl (rds_row 0 rfl rfl) hpa1 rfl rfl rfl) rfl ?_
                                refine ol_q (wn_some rfl rfl rfl hb14 rfl) (op_move (v := .int _ _) rfl) rfl ?_
                                refine ol_q (wn_some rfl rfl rfl hb14 rfl) (op_ne rfl rfl) rfl ?_
                                refine ol_q (wn_some rfl rfl rfl hb13 rfl) (op_pick_f (v := .bool _) rfl hb14 rfl) rfl ?_
                                refine ol_q (wn_none rfl) (op_pick_t (v := .bool _) rfl hb13 rfl) rfl ?_
                                refine ol_nil_then ?_
                                refine cd_cond rfl (fun hb15 => ?_) (fun hb15 => ?_)
                                · have hp15 := hb15
                                  (try simp only [decide_eq_true_eq, decide_eq_false_iff_not, Bool.not_eq_true', Bool.not_eq_false', ne_eq, Decidable.not_not] at hp15)
                                  exact absurd hpa2 hp15
                                · have hp15 := hb15
                                  (try simp only [decide_eq_true_eq, decide_eq_false_iff_not, Bool.not_eq_true', Bool.not_eq_false', ne_eq, Decidable.not_not] at hp15)
                                  refine cd_skip ?_
                                  refine px_then ?_
                                  refine cd_sr ?_   -- 18
                                  refine ol_q (wn_none rfl) (op_move (v := .bool _) rfl) rfl ?_
                                  refine ol_nil_then ?_
                                  refine cd_cond_t rfl hb13 ?_
                                  refine cd_region ?_   -- 19
                                  refine ol_q (wn_none rfl) (op_move (v := .int _ _) rfl) rfl ?_
                                  refine ol_q (wn_none rfl) (op_add rfl rfl (by omega) (by omega)) rfl ?_
                                  refine ol_q (wn_none rfl) (op_assign (v := .int _ _) rfl) rfl ?_
                                  refine ol_nil ?_
                                  refine px_blockN ?_
                                  refine px_then ?_
                                  refine cd_region ?_   -- 20
                                  refine ol_q (wn_none rfl) (op_add rfl rfl (by omega) (by omega)) rfl ?_
                                  refine ol_q (wn_none rfl) (op_move (v := .int _ _) rfl) rfl ?_
                                  refine ol_nil ?_
                                  exact px_loop (i + 1) (by omega) (by omega) ⟨rfl, rfl, congrArg (Value.int .i64) (by rw [hst]; try simp), rfl, rfl, congrArg (Value.int .i64) (by simp), trivial⟩ (fun _ s => s)
                            · have hp13 := hb13
                              (try simp only [decide_eq_true_eq, decide_eq_false_iff_not, Bool.not_eq_true', Bool.not_eq_false', ne_eq, Decidable.not_not] at hp13)
                              rw [if_neg (by simp [hb13])] at hst0
                              have hst := congrArg List.length hst0
                              refine ol_skip (wn_some rfl rfl rfl hb13 rfl) rfl ?_
                              refine ol_skip (wn_some rfl rfl rfl hb13 rfl) rfl ?_
                              refine ol_skip (wn_some rfl rfl rfl hb13 rfl) rfl ?_
                              refine ol_skip (wn_some rfl rfl rfl hb13 rfl) rfl ?_
                              refine ol_skip (wn_some rfl rfl rfl hb13 rfl) rfl ?_
                              refine ol_skip (wn_undef rfl rfl rfl rfl) rfl ?_
                              refine ol_skip (wn_undef rfl rfl rfl rfl) rfl ?_
                              refine ol_skip (wn_undef rfl rfl rfl rfl) rfl ?_
                              refine ol_skip (wn_undef rfl rfl rfl rfl) rfl ?_
                              refine ol_skip (wn_undef rfl rfl rfl rfl) rfl ?_
                              refine ol_skip (wn_undef rfl rfl rfl rfl) rfl ?_
                              refine ol_skip (wn_some rfl rfl rfl hb13 rfl) rfl ?_
                              refine ol_q (wn_none rfl) (op_pick_f (v := .bool _) rfl hb13 rfl) rfl ?_
                              refine ol_nil_then ?_
                              refine cd_cond_f rfl rfl ?_
                              refine cd_skip ?_
                              refine px_then ?_
                              refine cd_sr ?_   -- 18
                              refine ol_q (wn_none rfl) (op_move (v := .bool _) rfl) rfl ?_
                              refine ol_nil_then ?_
                              refine cd_cond_f rfl hb13 ?_
                              refine cd_skip ?_
                              refine px_blockN ?_
                              refine px_then ?_
                              refine cd_region ?_   -- 20
                              refine ol_q (wn_none rfl) (op_add rfl rfl (by omega) (by omega)) rfl ?_
                              refine ol_q (wn_none rfl) (op_move (v := .int _ _) rfl) rfl ?_
                              refine ol_nil ?_
                              exact px_loop (i + 1) (by omega) (by omega) ⟨rfl, rfl, congrArg (Value.int .i64) (by rw [hst]; try simp), rfl, rfl, congrArg (Value.int .i64) (by simp), trivial⟩ (fun _ s => s)
                          · have hp12 := hb12
                            (try simp only [decide_eq_true_eq, decide_eq_false_iff_not, Bool.not_eq_true', Bool.not_eq_false', ne_eq, Decidable.not_not] at hp12)
                            have e : i = xs.length := by omega
                            subst e
                            refine cd_exit ?_
                            refine px_thenE ?_
                            refine px_thenE ?_
                            refine px_blockE ?_
                            refine px_then ?_
                            refine cd_sr ?_   -- 21
                            refine ol_q (wn_none rfl) (op_move (v := .int _ _) rfl) rfl ?_
                            refine ol_q (wn_none rfl) (op_move (v := .slice _ _ _) rfl) rfl ?_
                            refine ol_q (wn_none rfl) (op_len_slice Try.underlying54 rfl) rfl ?_
                            refine ol_q (wn_none rfl) (op_eq rfl rfl) rfl ?_
                            refine ol_q (wn_none rfl) (op_assign (v := .bool _) rfl) rfl ?_
                            refine ol_nil_then ?_
                            refine cd_ret ?_
                            exact px_ret1 rfl (v := .bool _) rfl (fun _ s => (s.del 0)) ⟨congrArg Value.bool (decide_eq_true (by rw [List.take_length])), rfl⟩
                      · have hp10 := hb10
                        (try simp only [decide_eq_true_eq, decide_eq_false_iff_not, Bool.not_eq_true', Bool.not_eq_false', ne_eq, Decidable.not_not] at hp10)
                        refine ol_skip (wn_some rfl rfl rfl hb10 rfl) rfl ?_
                        refine ol_skip (wn_some rfl rfl rfl hb10 rfl) rfl ?_
                        refine ol_skip (wn_some rfl rfl rfl hb10 rfl) rfl ?_
                        refine ol_skip (wn_some rfl rfl rfl hb10 rfl) rfl ?_
                        refine ol_q (wn_some rfl rfl rfl hb9 rfl) (op_pick_f (v := .bool _) rfl hb10 rfl) rfl ?_
                        refine ol_q (wn_none rfl) (op_pick_f (v := .bool _) rfl hb9 rfl) rfl ?_
                        refine ol_nil_then ?_
                        refine cd_cond_f rfl rfl ?_
                        refine cd_skip ?_
                        refine px_then ?_
                        refine cd_sr ?_   -- 11
                        refine ol_q (wn_none rfl) (op_move (v := .slice _ _ _) rfl) rfl ?_
                        refine ol_i (wn_none rfl) (os_call cb_31 rfl (fun w s => Places_calls _ _ _  s (((hr.cons _).cons _).cons _) (by first | omega | (simp; done) | (simp; omega)))) rfl ?_; rintro _ _ ⟨qa11, qc11, rfl, rfl⟩
                        refine ol_q (wn_none rfl) (op_assign (v := .slice _ _ _) rfl) rfl ?_
                        refine ol_nil_then ?_
                        refine cd_sr ?_   -- 12
                        refine ol_q (wn_none rfl) (op_assign (v := .int _ _) rfl) rfl ?_
                        refine ol_nil_then ?_
                        refine cd_seq ?_
                        refine cd_sr ?_   -- 13
                        refine ol_q (wn_none rfl) (op_move (v := .slice _ _ _) rfl) rfl ?_
                        refine ol_q (wn_none rfl) (op_len_slice Try.underlying22 rfl) rfl ?_
                        refine ol_q (wn_none rfl) (op_move (v := .int _ _) rfl) rfl ?_
                        refine ol_nil_then ?_
                        refine cd_block ?_
                        refine cd_loop (α := Nat) (fun i => [(1, .slice lo xs.length lc), (13, .slice qa11 (places xs 0).length qc11), (14, .int .i64 (places (xs.take i) 0).length), (92, .slice lo xs.length lc), (93, .int .i64 xs.length), (94, .int .i64 i)]) (fun _ => Row 3 encI64 (.slice qa11 (places xs 0).length qc11) (places xs 0) :: l) (fun i => i ≤ xs.length) (fun i => xs.length - i) 0 (Nat.zero_le _) ⟨rfl, rfl, rfl, rfl, rfl, rfl, trivial⟩ (fun _ s => (((s.del 3).del 2).del 1)) ?_
                        intro i hi f; (try dsimp only at hi ⊢)
                        refine cd_sr ?_   -- 14
                        refine ol_q (wn_none rfl) (op_lt rfl rfl) rfl ?_
                        refine ol_nil_then ?_
                        refine cd_seq ?_
                        refine cd_cond rfl (fun hb16 => ?_) (fun hb16 => ?_)
                        · have hp16 := hb16
                          (try simp only [decide_eq_true_eq, decide_eq_false_iff_not, Bool.not_eq_true', Bool.not_eq_false', ne_eq, Decidable.not_not] at hp16)
                          have hi1 : i < xs.length := by omega
                          have hst0 := places_take xs i hi1
                          have hpi := hpl i
                          refine cd_skip ?_
                          refine px_then ?_
                          refine cd_seq ?_
                          refine cd_block ?_
                          refine cd_sr ?_   -- 15
                          refine ol_q (wn_none rfl) (op_move (v := .int _ _) rfl) rfl ?_
                          refine ol_q (wn_none rfl) (op_index _ sB_22 rfl rfl rfl (hr.cons _) rfl (by omega)) rfl ?_
                          refine ol_q (wn_none rfl) (op_lde _ 0 sc_4 rfl (hr.cons _) (by omega) rfl rfl rfl) rfl ?_
                          refine ol_q (wn_none rfl) (op_assign (v := .int _ _) rfl) rfl ?_
                          refine ol_q (wn_none rfl) (op_assign (v := .bool _) rfl) rfl ?_
                          refine ol_nil_then ?_
                          refine cd_seq ?_
                          refine cd_sr ?_   -- 16
                          refine ol_q (wn_none rfl) (op_move (v := .bool _) rfl) rfl ?_
                          refine ol_q (wn_none rfl) (op_move (v := .bool _) rfl) rfl ?_
                          refine ol_split 100 rfl (fun hb17 => ?_) (fun hb17 => ?_)
                          · have hp17 := hb17
                            (try simp only [decide_eq_true_eq, decide_eq_false_iff_not, Bool.not_eq_true', Bool.not_eq_false', ne_eq, Decidable.not_not] at hp17)
                            obtain ⟨hpa1, hpa2⟩ := places_at xs i hi1 hb17
                            rw [if_pos hb17] at hst0
                            have hst := congrArg List.length hst0
                            refine ol_q (wn_some rfl rfl rfl hb17 rfl) (op_move (v := .int _ _) rfl) rfl ?_
                            refine ol_q (wn_some rfl rfl rfl hb17 rfl) (op_move (v := .slice _ _ _) rfl) rfl ?_
                            refine ol_q (wn_some rfl rfl rfl hb17 rfl) (op_len_slice Try.underlying54 rfl) rfl ?_
                            refine ol_q (wn_some rfl rfl rfl hb17 rfl) (op_ge rfl rfl) rfl ?_
                            refine ol_q (wn_some rfl rfl rfl hb17 rfl) (op_move (v := .bool _) rfl) rfl ?_
                            refine ol_split 105 rfl (fun hb18 => ?_) (fun hb18 => ?_)
                            · have hp18 := hb18
                              (try simp only [decide_eq_true_eq, decide_eq_false_iff_not, Bool.not_eq_true', Bool.not_eq_false', ne_eq, Decidable.not_not] at hp18)
                              exact absurd hp18 (by omega)
                            · have hp18 := hb18
                              (try simp only [decide_eq_true_eq, decide_eq_false_iff_not, Bool.not_eq_true', Bool.not_eq_false', ne_eq, Decidable.not_not] at hp18)
                              refine ol_q (wn_some rfl rfl rfl hb18 rfl) (op_move (v := .slice _ _ _) rfl) rfl ?_
                              refine ol_q (wn_some rfl rfl rfl hb18 rfl) (op_move (v := .int _ _) rfl) rfl ?_
                              refine ol_q (wn_some rfl rfl rfl hb18 rfl) (op_index _ sB_54 rfl rfl rfl (rds_row 0 rfl rfl) rfl hpa1) rfl ?_
                              refine ol_q (wn_some rfl rfl rfl hb18 rfl) (op_lde _ 0 sc_3 rfl (rds_row 0 rfl rfl) hpa1 rfl rfl rfl) rfl ?_
                              refine ol_q (wn_some rfl rfl rfl hb18 rfl) (op_move (v := .int _ _) rfl) rfl ?_
                              refine ol_q (wn_some rfl rfl rfl hb18 rfl) (op_ne rfl rfl) rfl ?_
                              refine ol_q (wn_some rfl rfl rfl hb17 rfl) (op_pick_f (v := .bool _) rfl hb18 rfl) rfl ?_
                              refine ol_q (wn_none rfl) (op_pick_t (v := .bool _) rfl hb17 rfl) rfl ?_
                              refine ol_nil_then ?_
                              refine cd_cond rfl (fun hb19 => ?_) (fun hb19 => ?_)
                              · have hp19 := hb19
                                (try simp only [decide_eq_true_eq, decide_eq_false_iff_not, Bool.not_eq_true', Bool.not_eq_false', ne_eq, Decidable.not_not] at hp19)
                                exact absurd hpa2 hp19
                              · have hp19 := hb19
                                (try simp only [decide_eq_true_eq, decide_eq_false_iff_not, Bool.not_eq_true', Bool.not_eq_false', ne_eq, Decidable.not_not] at hp19)
                                refine cd_skip ?_
                                refine px_then ?_
                                refine cd_sr ?_   -- 18
                                refine ol_q (wn_none rfl) (op_move (v := .bool _) rfl) rfl ?_
                                refine ol_nil_then ?_
                                refine cd_cond_t rfl hb17 ?_
                                refine cd_region ?_   -- 19
                                refine ol_q (wn_none rfl) (op_move (v := .int _ _) rfl) rfl ?_
                                refine ol_q (wn_none rfl) (op_add rfl rfl (by omega) (by omega)) rfl ?_
                                refine ol_q (wn_none rfl) (op_assign (v := .int _ _) rfl) rfl ?_
                                refine ol_nil ?_
                                refine px_blockN ?_
                                refine px_then ?_
                                refine cd_region ?_   -- 20
                                refine ol_q (wn_none rfl) (op_add rfl rfl (by omega) (by omega)) rfl ?_
                                refine ol_q (wn_none rfl) (op_move (v := .int _ _) rfl) rfl ?_
                                refine ol_nil ?_
                                exact px_loop (i + 1) (by omega) (by omega) ⟨rfl, rfl, congrArg (Value.int .i64) (by rw [hst]; try simp), rfl, rfl, congrArg (Value.int .i64) (by simp), trivial⟩ (fun _ s => s)
                          · have hp17 := hb17
                            (try simp only [decide_eq_true_eq, decide_eq_false_iff_not, Bool.not_eq_true', Bool.not_eq_false', ne_eq, Decidable.not_not] at hp17)
                            rw [if_neg (by simp [hb17])] at hst0
                            have hst := congrArg List.length hst0
                            refine ol_skip (wn_some rfl rfl rfl hb17 rfl) rfl ?_
                            refine ol_skip (wn_some rfl rfl rfl hb17 rfl) rfl ?_
                            refine ol_skip (wn_some rfl rfl rfl hb17 rfl) rfl ?_
                            refine ol_skip (wn_some rfl rfl rfl hb17 rfl) rfl ?_
                            refine ol_skip (wn_some rfl rfl rfl hb17 rfl) rfl ?_
                            refine ol_skip (wn_undef rfl rfl rfl rfl) rfl ?_
                            refine ol_skip (wn_undef rfl rfl rfl rfl) rfl ?_
                            refine ol_skip (wn_undef rfl rfl rfl rfl) rfl ?_
                            refine ol_skip (wn_undef rfl rfl rfl rfl) rfl ?_
                            refine ol_skip (wn_undef rfl rfl rfl rfl) rfl ?_
                            refine ol_skip (wn_undef rfl rfl rfl rfl) rfl ?_
                            refine ol_skip (wn_some rfl rfl rfl hb17 rfl) rfl ?_
                            refine ol_q (wn_none rfl) (op_pick_f (v := .bool _) rfl hb17 rfl) rfl ?_
                            refine ol_nil_then ?_
                            refine cd_cond_f rfl rfl ?_
                            refine cd_skip ?_
                            refine px_then ?_
                            refine cd_sr ?_   -- 18
                            refine ol_q (wn_none rfl) (op_move (v := .bool _) rfl) rfl ?_
                            refine ol_nil_then ?_
                            refine cd_cond_f rfl hb17 ?_
                            refine cd_skip ?_
                            refine px_blockN ?_
                            refine px_then ?_
                            refine cd_region ?_   -- 20
                            refine ol_q (wn_none rfl) (op_add rfl rfl (by omega) (by omega)) rfl ?_
                            refine ol_q (wn_none rfl) (op_move (v := .int _ _) rfl) rfl ?_
                            refine ol_nil ?_
                            exact px_loop (i + 1) (by omega) (by omega) ⟨rfl, rfl, congrArg (Value.int .i64) (by rw [hst]; try simp), rfl, rfl, congrArg (Value.int .i64) (by simp), trivial⟩ (fun _ s => s)
                        · have hp16 := hb16
                          (try simp only [decide_eq_true_eq, decide_eq_false_iff_not, Bool.not_eq_true', Bool.not_eq_false', ne_eq, Decidable.not_not] at hp16)
                          have e : i = xs.length := by omega
                          subst e
                          refine cd_exit ?_
                          refine px_thenE ?_
                          refine px_thenE ?_
                          refine px_blockE ?_
                          refine px_then ?_
                          refine cd_sr ?_   -- 21
                          refine ol_q (wn_none rfl) (op_move (v := .int _ _) rfl) rfl ?_
                          refine ol_q (wn_none rfl) (op_move (v := .slice _ _ _) rfl) rfl ?_
                          refine ol_q (wn_none rfl) (op_len_slice Try.underlying54 rfl) rfl ?_
                          refine ol_q (wn_none rfl) (op_eq rfl rfl) rfl ?_
                          refine ol_q (wn_none rfl) (op_assign (v := .bool _) rfl) rfl ?_
                          refine ol_nil_then ?_
                          refine cd_ret ?_
                          exact px_ret1 rfl (v := .bool _) rfl (fun _ s => (s.del 0)) ⟨congrArg Value.bool (decide_eq_true (by rw [List.take_length])), rfl⟩
                  · have hp8 := hb8
                    (try simp only [decide_eq_true_eq, decide_eq_false_iff_not, Bool.not_eq_true', Bool.not_eq_false', ne_eq, Decidable.not_not] at hp8)
                    refine ol_skip (wn_some rfl rfl rfl hb8 rfl) rfl ?_
                    refine ol_skip (wn_some rfl rfl rfl hb8 rfl) rfl ?_
                    refine ol_skip (wn_some rfl rfl rfl hb8 rfl) rfl ?_
                    refine ol_q (wn_some rfl rfl rfl hb7 rfl) (op_pick_f (v := .bool _) rfl hb8 rfl) rfl ?_
                    refine ol_q (wn_none rfl) (op_pick_f (v := .bool _) rfl hb7 rfl) rfl ?_
                    refine ol_q (wn_none rfl) (op_move (v := .bool _) rfl) rfl ?_
                    refine ol_q (wn_some rfl rfl rfl rfl rfl) (op_move (v := .bool _) rfl) rfl ?_
                    refine ol_q (wn_some rfl rfl rfl rfl rfl) (op_move (v := .bool _) rfl) rfl ?_
                    refine ol_split 83 rfl (fun hb20 => ?_) (fun hb20 => ?_)
                    · have hp20 := hb20
                      (try simp only [decide_eq_true_eq, decide_eq_false_iff_not, Bool.not_eq_true', Bool.not_eq_false', ne_eq, Decidable.not_not] at hp20)
                      have hwe := hw hp20
                      refine ol_q (wn_some rfl rfl rfl hb20 rfl) (op_move (v := .slice _ _ _) rfl) rfl ?_
                      refine ol_q (wn_some rfl rfl rfl hb20 rfl) (op_move (v := .slice _ _ _) rfl) rfl ?_
                      refine ol_i (wn_some rfl rfl rfl hb20 rfl) (os_call cb_16 rfl (fun w s => Same_calls _ _ _ _ _ _  s (rds_row 1 rfl rfl) (rds_row 0 rfl rfl) hgl)) rfl ?_; rintro _ l ⟨rfl, rfl⟩
                      refine ol_q (wn_some rfl rfl rfl hb20 rfl) (op_not rfl) rfl ?_
                      refine ol_q (wn_some rfl rfl rfl rfl rfl) (op_pick_t (v := .bool _) rfl hb20 rfl) rfl ?_
                      refine ol_q (wn_none rfl) (op_pick_f (v := .bool _) rfl rfl rfl) rfl ?_
                      refine ol_nil_then ?_
                      refine cd_cond rfl (fun hb21 => ?_) (fun hb21 => ?_)
                      · have hp21 := hb21
                        (try simp only [decide_eq_true_eq, decide_eq_false_iff_not, Bool.not_eq_true', Bool.not_eq_false', ne_eq, Decidable.not_not] at hp21)
                        exact absurd hb21 (by simp [hwe])
                      · have hp21 := hb21
                        (try simp only [decide_eq_true_eq, decide_eq_false_iff_not, Bool.not_eq_true', Bool.not_eq_false', ne_eq, Decidable.not_not] at hp21)
                        refine cd_skip ?_
                        refine px_then ?_
                        refine cd_sr ?_   -- 11
                        refine ol_q (wn_none rfl) (op_move (v := .slice _ _ _) rfl) rfl ?_
                        refine ol_i (wn_none rfl) (os_call cb_31 rfl (fun w s => Places_calls _ _ _  s (((hr.cons _).cons _).cons _) (by first | omega | (simp; done) | (simp; omega)))) rfl ?_; rintro _ _ ⟨qa13, qc13, rfl, rfl⟩
                        refine ol_q (wn_none rfl) (op_assign (v := .slice _ _ _) rfl) rfl ?_
                        refine ol_nil_then ?_
                        refine cd_sr ?_   -- 12
                        refine ol_q (wn_none rfl) (op_assign (v := .int _ _) rfl) rfl ?_
                        refine ol_nil_then ?_
                        refine cd_seq ?_
                        refine cd_sr ?_   -- 13
                        refine ol_q (wn_none rfl) (op_move (v := .slice _ _ _) rfl) rfl ?_
                        refine ol_q (wn_none rfl) (op_len_slice Try.underlying22 rfl) rfl ?_
                        refine ol_q (wn_none rfl) (op_move (v := .int _ _) rfl) rfl ?_
                        refine ol_nil_then ?_
                        refine cd_block ?_
                        refine cd_loop (α := Nat) (fun i => [(1, .slice lo xs.length lc), (13, .slice qa13 (places xs 0).length qc13), (14, .int .i64 (places (xs.take i) 0).length), (92, .slice lo xs.length lc), (93, .int .i64 xs.length), (94, .int .i64 i)]) (fun _ => Row 3 encI64 (.slice qa13 (places xs 0).length qc13) (places xs 0) :: l) (fun i => i ≤ xs.length) (fun i => xs.length - i) 0 (Nat.zero_le _) ⟨rfl, rfl, rfl, rfl, rfl, rfl, trivial⟩ (fun _ s => (((s.del 3).del 2).del 1)) ?_
                        intro i hi f; (try dsimp only at hi ⊢)
                        refine cd_sr ?_   -- 14
                        refine ol_q (wn_none rfl) (op_lt rfl rfl) rfl ?_
                        refine ol_nil_then ?_
                        refine cd_seq ?_
                        refine cd_cond rfl (fun hb22 => ?_) (fun hb22 => ?_)
                        · have hp22 := hb22
                          (try simp only [decide_eq_true_eq, decide_eq_false_iff_not, Bool.not_eq_true', Bool.not_eq_false', ne_eq, Decidable.not_not] at hp22)
                          have hi1 : i < xs.length := by omega
                          have hst0 := places_take xs i hi1
                          have hpi := hpl i
                          refine cd_skip ?_
                          refine px_then ?_
                          refine cd_seq ?_
                          refine cd_block ?_
                          refine cd_sr ?_   -- 15
                          refine ol_q (wn_none rfl) (op_move (v := .int _ _) rfl) rfl ?_
                          refine ol_q (wn_none rfl) (op_index _ sB_22 rfl rfl rfl (hr.cons _) rfl (by omega)) rfl ?_
                          refine ol_q (wn_none rfl) (op_lde _ 0 sc_4 rfl (hr.cons _) (by omega) rfl rfl rfl) rfl ?_
                          refine ol_q (wn_none rfl) (op_assign (v := .int _ _) rfl) rfl ?_
                          refine ol_q (wn_none rfl) (op_assign (v := .bool _) rfl) rfl ?_
                          refine ol_nil_then ?_
                          refine cd_seq ?_
                          refine cd_sr ?_   -- 16
                          refine ol_q (wn_none rfl) (op_move (v := .bool _) rfl) rfl ?_
                          refine ol_q (wn_none rfl) (op_move (v := .bool _) rfl) rfl ?_
                          refine ol_split 100 rfl (fun hb23 => ?_) (fun hb23 => ?_)
                          · have hp23 := hb23
                            (try simp only [decide_eq_true_eq, decide_eq_false_iff_not, Bool.not_eq_true', Bool.not_eq_false', ne_eq, Decidable.not_not] at hp23)
                            obtain ⟨hpa1, hpa2⟩ := places_at xs i hi1 hb23
                            rw [if_pos hb23] at hst0
                            have hst := congrArg List.length hst0
                            refine ol_q (wn_some rfl rfl rfl hb23 rfl) (op_move (v := .int _ _) rfl) rfl ?_
                            refine ol_q (wn_some rfl rfl rfl hb23 rfl) (op_move (v := .slice _ _ _) rfl) rfl ?_
                            refine ol_q (wn_some rfl rfl rfl hb23 rfl) (op_len_slice Try.underlying54 rfl) rfl ?_
                            refine ol_q (wn_some rfl rfl rfl hb23 rfl) (op_ge rfl rfl) rfl ?_
                            refine ol_q (wn_some rfl rfl rfl hb23 rfl) (op_move (v := .bool _) rfl) rfl ?_
                            refine ol_split 105 rfl (fun hb24 => ?_) (fun hb24 => ?_)
                            · have hp24 := hb24
                              (try simp only [decide_eq_true_eq, decide_eq_false_iff_not, Bool.not_eq_true', Bool.not_eq_false', ne_eq, Decidable.not_not] at hp24)
                              exact absurd hp24 (by omega)
                            · have hp24 := hb24
                              (try simp only [decide_eq_true_eq, decide_eq_false_iff_not, Bool.not_eq_true', Bool.not_eq_false', ne_eq, Decidable.not_not] at hp24)
                              refine ol_q (wn_some rfl rfl rfl hb24 rfl) (op_move (v := .slice _ _ _) rfl) rfl ?_
                              refine ol_q (wn_some rfl rfl rfl hb24 rfl) (op_move (v := .int _ _) rfl) rfl ?_
                              refine ol_q (wn_some rfl rfl rfl hb24 rfl) (op_index _ sB_54 rfl rfl rfl (rds_row 0 rfl rfl) rfl hpa1) rfl ?_
                              refine ol_q (wn_some rfl rfl rfl hb24 rfl) (op_lde _ 0 sc_3 rfl (rds_row 0 rfl rfl) hpa1 rfl rfl rfl) rfl ?_
                              refine ol_q (wn_some rfl rfl rfl hb24 rfl) (op_move (v := .int _ _) rfl) rfl ?_
                              refine ol_q (wn_some rfl rfl rfl hb24 rfl) (op_ne rfl rfl) rfl ?_
                              refine ol_q (wn_some rfl rfl rfl hb23 rfl) (op_pick_f (v := .bool _) rfl hb24 rfl) rfl ?_
                              refine ol_q (wn_none rfl) (op_pick_t (v := .bool _) rfl hb23 rfl) rfl ?_
                              refine ol_nil_then ?_
                              refine cd_cond rfl (fun hb25 => ?_) (fun hb25 => ?_)
                              · have hp25 := hb25
                                (try simp only [decide_eq_true_eq, decide_eq_false_iff_not, Bool.not_eq_true', Bool.not_eq_false', ne_eq, Decidable.not_not] at hp25)
                                exact absurd hpa2 hp25
                              · have hp25 := hb25
                                (try simp only [decide_eq_true_eq, decide_eq_false_iff_not, Bool.not_eq_true', Bool.not_eq_false', ne_eq, Decidable.not_not] at hp25)
                                refine cd_skip ?_
                                refine px_then ?_
                                refine cd_sr ?_   -- 18
                                refine ol_q (wn_none rfl) (op_move (v := .bool _) rfl) rfl ?_
                                refine ol_nil_then ?_
                                refine cd_cond_t rfl hb23 ?_
                                refine cd_region ?_   -- 19
                                refine ol_q (wn_none rfl) (op_move (v := .int _ _) rfl) rfl ?_
                                refine ol_q (wn_none rfl) (op_add rfl rfl (by omega) (by omega)) rfl ?_
                                refine ol_q (wn_none rfl) (op_assign (v := .int _ _) rfl) rfl ?_
                                refine ol_nil ?_
                                refine px_blockN ?_
                                refine px_then ?_
                                refine cd_region ?_   -- 20
                                refine ol_q (wn_none rfl) (op_add rfl rfl (by omega) (by omega)) rfl ?_
                                refine ol_q (wn_none rfl) (op_move (v := .int _ _) rfl) rfl ?_
                                refine ol_nil ?_
                                exact px_loop (i + 1) (by omega) (by omega) ⟨rfl, rfl, congrArg (Value.int .i64) (by rw [hst]; try simp), rfl, rfl, congrArg (Value.int .i64) (by simp), trivial⟩ (fun _ s => s)
                          · have hp23 := hb23
                            (try simp only [decide_eq_true_eq, decide_eq_false_iff_not, Bool.not_eq_true', Bool.not_eq_false', ne_eq, Decidable.not_not] at hp23)
                            rw [if_neg (by simp [hb23])] at hst0
                            have hst := congrArg List.length hst0
                            refine ol_skip (wn_some rfl rfl rfl hb23 rfl) rfl ?_
                            refine ol_skip (wn_some rfl rfl rfl hb23 rfl) rfl ?_
                            refine ol_skip (wn_some rfl rfl rfl hb23 rfl) rfl ?_
                            refine ol_skip (wn_some rfl rfl rfl hb23 rfl) rfl ?_
                            refine ol_skip (wn_some rfl rfl rfl hb23 rfl) rfl ?_
                            refine ol_skip (wn_undef rfl rfl rfl rfl) rfl ?_
                            refine ol_skip (wn_undef rfl rfl rfl rfl) rfl ?_
                            refine ol_skip (wn_undef rfl rfl rfl rfl) rfl ?_
                            refine ol_skip (wn_undef rfl rfl rfl rfl) rfl ?_
                            refine ol_skip (wn_undef rfl rfl rfl rfl) rfl ?_
                            refine ol_skip (wn_undef rfl rfl rfl rfl) rfl ?_
                            refine ol_skip (wn_some rfl rfl rfl hb23 rfl) rfl ?_
                            refine ol_q (wn_none rfl) (op_pick_f (v := .bool _) rfl hb23 rfl) rfl ?_
                            refine ol_nil_then ?_
                            refine cd_cond_f rfl rfl ?_
                            refine cd_skip ?_
                            refine px_then ?_
                            refine cd_sr ?_   -- 18
                            refine ol_q (wn_none rfl) (op_move (v := .bool _) rfl) rfl ?_
                            refine ol_nil_then ?_
                            refine cd_cond_f rfl hb23 ?_
                            refine cd_skip ?_
                            refine px_blockN ?_
                            refine px_then ?_
                            refine cd_region ?_   -- 20
                            refine ol_q (wn_none rfl) (op_add rfl rfl (by omega) (by omega)) rfl ?_
                            refine ol_q (wn_none rfl) (op_move (v := .int _ _) rfl) rfl ?_
                            refine ol_nil ?_
                            exact px_loop (i + 1) (by omega) (by omega) ⟨rfl, rfl, congrArg (Value.int .i64) (by rw [hst]; try simp), rfl, rfl, congrArg (Value.int .i64) (by simp), trivial⟩ (fun _ s => s)
                        · have hp22 := hb22
                          (try simp only [decide_eq_true_eq, decide_eq_false_iff_not, Bool.not_eq_true', Bool.not_eq_false', ne_eq, Decidable.not_not] at hp22)
                          have e : i = xs.length := by omega
                          subst e
                          refine cd_exit ?_
                          refine px_thenE ?_
                          refine px_thenE ?_
                          refine px_blockE ?_
                          refine px_then ?_
                          refine cd_sr ?_   -- 21
                          refine ol_q (wn_none rfl) (op_move (v := .int _ _) rfl) rfl ?_
                          refine ol_q (wn_none rfl) (op_move (v := .slice _ _ _) rfl) rfl ?_
                          refine ol_q (wn_none rfl) (op_len_slice Try.underlying54 rfl) rfl ?_
                          refine ol_q (wn_none rfl) (op_eq rfl rfl) rfl ?_
                          refine ol_q (wn_none rfl) (op_assign (v := .bool _) rfl) rfl ?_
                          refine ol_nil_then ?_
                          refine cd_ret ?_
                          exact px_ret1 rfl (v := .bool _) rfl (fun _ s => (s.del 0)) ⟨congrArg Value.bool (decide_eq_true (by rw [List.take_length])), rfl⟩
                    · have hp20 := hb20
                      (try simp only [decide_eq_true_eq, decide_eq_false_iff_not, Bool.not_eq_true', Bool.not_eq_false', ne_eq, Decidable.not_not] at hp20)
                      refine ol_skip (wn_some rfl rfl rfl hb20 rfl) rfl ?_
                      refine ol_skip (wn_some rfl rfl rfl hb20 rfl) rfl ?_
                      refine ol_skip (wn_some rfl rfl rfl hb20 rfl) rfl ?_
                      refine ol_skip (wn_some rfl rfl rfl hb20 rfl) rfl ?_
                      refine ol_q (wn_some rfl rfl rfl rfl rfl) (op_pick_f (v := .bool _) rfl hb20 rfl) rfl ?_
                      refine ol_q (wn_none rfl) (op_pick_f (v := .bool _) rfl rfl rfl) rfl ?_
                      refine ol_nil_then ?_
                      refine cd_cond_f rfl rfl ?_
                      refine cd_skip ?_
                      refine px_then ?_
                      refine cd_sr ?_   -- 11
                      refine ol_q (wn_none rfl) (op_move (v := .slice _ _ _) rfl) rfl ?_
                      refine ol_i (wn_none rfl) (os_call cb_31 rfl (fun w s => Places_calls _ _ _  s (((hr.cons _).cons _).cons _) (by first | omega | (simp; done) | (simp; omega)))) rfl ?_; rintro _ _ ⟨qa14, qc14, rfl, rfl⟩
                      refine ol_q (wn_none rfl) (op_assign (v := .slice _ _ _) rfl) rfl ?_
                      refine ol_nil_then ?_
                      refine cd_sr ?_   -- 12
                      refine ol_q (wn_none rfl) (op_assign (v := .int _ _) rfl) rfl ?_
                      refine ol_nil_then ?_
                      refine cd_seq ?_
                      refine cd_sr ?_   -- 13
                      refine ol_q (wn_none rfl) (op_move (v := .slice _ _ _) rfl) rfl ?_
                      refine ol_q (wn_none rfl) (op_len_slice Try.underlying22 rfl) rfl ?_
                      refine ol_q (wn_none rfl) (op_move (v := .int _ _) rfl) rfl ?_
                      refine ol_nil_then ?_
                      refine cd_block ?_
                      refine cd_loop (α := Nat) (fun i => [(1, .slice lo xs.length lc), (13, .slice qa14 (places xs 0).length qc14), (14, .int .i64 (places (xs.take i) 0).length), (92, .slice lo xs.length lc), (93, .int .i64 xs.length), (94, .int .i64 i)]) (fun _ => Row 3 encI64 (.slice qa14 (places xs 0).length qc14) (places xs 0) :: l) (fun i => i ≤ xs.length) (fun i => xs.length - i) 0 (Nat.zero_le _) ⟨rfl, rfl, rfl, rfl, rfl, rfl, trivial⟩ (fun _ s => (((s.del 3).del 2).del 1)) ?_
                      intro i hi f; (try dsimp only at hi ⊢)
                      refine cd_sr ?_   -- 14
                      refine ol_q (wn_none rfl) (op_lt rfl rfl) rfl ?_
                      refine ol_nil_then ?_
                      refine cd_seq ?_
                      refine cd_cond rfl (fun hb26 => ?_) (fun hb26 => ?_)
                      · have hp26 := hb26
                        (try simp only [decide_eq_true_eq, decide_eq_false_iff_not, Bool.not_eq_true', Bool.not_eq_false', ne_eq, Decidable.not_not] at hp26)
                        have hi1 : i < xs.length := by omega
                        have hst0 := places_take xs i hi1
                        have hpi := hpl i
                        refine cd_skip ?_
                        refine px_then ?_
                        refine cd_seq ?_
                        refine cd_block ?_
                        refine cd_sr ?_   -- 15
                        refine ol_q (wn_none rfl) (op_move (v := .int _ _) rfl) rfl ?_
                        refine ol_q (wn_none rfl) (op_index _ sB_22 rfl rfl rfl (hr.cons _) rfl (by omega)) rfl ?_
                        refine ol_q (wn_none rfl) (op_lde _ 0 sc_4 rfl (hr.cons _) (by omega) rfl rfl rfl) rfl ?_
                        refine ol_q (wn_none rfl) (op_assign (v := .int _ _) rfl) rfl ?_
                        refine ol_q (wn_none rfl) (op_assign (v := .bool _) rfl) rfl ?_
                        refine ol_nil_then ?_
                        refine cd_seq ?_
                        refine cd_sr ?_   -- 16
                        refine ol_q (wn_none rfl) (op_move (v := .bool _) rfl) rfl ?_
                        refine ol_q (wn_none rfl) (op_move (v := .bool _) rfl) rfl ?_
                        refine ol_split 100 rfl (fun hb27 => ?_) (fun hb27 => ?_)
                        · have hp27 := hb27
                          (try simp only [decide_eq_true_eq, decide_eq_false_iff_not, Bool.not_eq_true', Bool.not_eq_false', ne_eq, Decidable.not_not] at hp27)
                          obtain ⟨hpa1, hpa2⟩ := places_at xs i hi1 hb27
                          rw [if_pos hb27] at hst0
                          have hst := congrArg List.length hst0
                          refine ol_q (wn_some rfl rfl rfl hb27 rfl) (op_move (v := .int _ _) rfl) rfl ?_
                          refine ol_q (wn_some rfl rfl rfl hb27 rfl) (op_move (v := .slice _ _ _) rfl) rfl ?_
                          refine ol_q (wn_some rfl rfl rfl hb27 rfl) (op_len_slice Try.underlying54 rfl) rfl ?_
                          refine ol_q (wn_some rfl rfl rfl hb27 rfl) (op_ge rfl rfl) rfl ?_
                          refine ol_q (wn_some rfl rfl rfl hb27 rfl) (op_move (v := .bool _) rfl) rfl ?_
                          refine ol_split 105 rfl (fun hb28 => ?_) (fun hb28 => ?_)
                          · have hp28 := hb28
                            (try simp only [decide_eq_true_eq, decide_eq_false_iff_not, Bool.not_eq_true', Bool.not_eq_false', ne_eq, Decidable.not_not] at hp28)
                            exact absurd hp28 (by omega)
                          · have hp28 := hb28
                            (try simp only [decide_eq_true_eq, decide_eq_false_iff_not, Bool.not_eq_true', Bool.not_eq_false', ne_eq, Decidable.not_not] at hp28)
                            refine ol_q (wn_some rfl rfl rfl hb28 rfl) (op_move (v := .slice _ _ _) rfl) rfl ?_
                            refine ol_q (wn_some rfl rfl rfl hb28 rfl) (op_move (v := .int _ _) rfl) rfl ?_
                            refine ol_q (wn_some rfl rfl rfl hb28 rfl) (op_index _ sB_54 rfl rfl rfl (rds_row 0 rfl rfl) rfl hpa1) rfl ?_
                            refine ol_q (wn_some rfl rfl rfl hb28 rfl) (op_lde _ 0 sc_3 rfl (rds_row 0 rfl rfl) hpa1 rfl rfl rfl) rfl ?_
                            refine ol_q (wn_some rfl rfl rfl hb28 rfl) (op_move (v := .int _ _) rfl) rfl ?_
                            refine ol_q (wn_some rfl rfl rfl hb28 rfl) (op_ne rfl rfl) rfl ?_
                            refine ol_q (wn_some rfl rfl rfl hb27 rfl) (op_pick_f (v := .bool _) rfl hb28 rfl) rfl ?_
                            refine ol_q (wn_none rfl) (op_pick_t (v := .bool _) rfl hb27 rfl) rfl ?_
                            refine ol_nil_then ?_
                            refine cd_cond rfl (fun hb29 => ?_) (fun hb29 => ?_)
                            · have hp29 := hb29
                              (try simp only [decide_eq_true_eq, decide_eq_false_iff_not, Bool.not_eq_true', Bool.not_eq_false', ne_eq, Decidable.not_not] at hp29)
                              exact absurd hpa2 hp29
                            · have hp29 := hb29
                              (try simp only [decide_eq_true_eq, decide_eq_false_iff_not, Bool.not_eq_true', Bool.not_eq_false', ne_eq, Decidable.not_not] at hp29)
                              refine cd_skip ?_
                              refine px_then ?_
                              refine cd_sr ?_   -- 18
                              refine ol_q (wn_none rfl) (op_move (v := .bool _) rfl) rfl ?_
                              refine ol_nil_then ?_
                              refine cd_cond_t rfl hb27 ?_
                              refine cd_region ?_   -- 19
                              refine ol_q (wn_none rfl) (op_move (v := .int _ _) rfl) rfl ?_
                              refine ol_q (wn_none rfl) (op_add rfl rfl (by omega) (by omega)) rfl ?_
                              refine ol_q (wn_none rfl) (op_assign (v := .int _ _) rfl) rfl ?_
                              refine ol_nil ?_
                              refine px_blockN ?_
                              refine px_then ?_
                              refine cd_region ?_   -- 20
                              refine ol_q (wn_none rfl) (op_add rfl rfl (by omega) (by omega)) rfl ?_
                              refine ol_q (wn_none rfl) (op_move (v := .int _ _) rfl) rfl ?_
                              refine ol_nil ?_
                              exact px_loop (i + 1) (by omega) (by omega) ⟨rfl, rfl, congrArg (Value.int .i64) (by rw [hst]; try simp), rfl, rfl, congrArg (Value.int .i64) (by simp), trivial⟩ (fun _ s => s)
                        · have hp27 := hb27
                          (try simp only [decide_eq_true_eq, decide_eq_false_iff_not, Bool.not_eq_true', Bool.not_eq_false', ne_eq, Decidable.not_not] at hp27)
                          rw [if_neg (by simp [hb27])] at hst0
                          have hst := congrArg List.length hst0
                          refine ol_skip (wn_some rfl rfl rfl hb27 rfl) rfl ?_
                          refine ol_skip (wn_some rfl rfl rfl hb27 rfl) rfl ?_
                          refine ol_skip (wn_some rfl rfl rfl hb27 rfl) rfl ?_
                          refine ol_skip (wn_some rfl rfl rfl hb27 rfl) rfl ?_
                          refine ol_skip (wn_some rfl rfl rfl hb27 rfl) rfl ?_
                          refine ol_skip (wn_undef rfl rfl rfl rfl) rfl ?_
                          refine ol_skip (wn_undef rfl rfl rfl rfl) rfl ?_
                          refine ol_skip (wn_undef rfl rfl rfl rfl) rfl ?_
                          refine ol_skip (wn_undef rfl rfl rfl rfl) rfl ?_
                          refine ol_skip (wn_undef rfl rfl rfl rfl) rfl ?_
                          refine ol_skip (wn_undef rfl rfl rfl rfl) rfl ?_
                          refine ol_skip (wn_some rfl rfl rfl hb27 rfl) rfl ?_
                          refine ol_q (wn_none rfl) (op_pick_f (v := .bool _) rfl hb27 rfl) rfl ?_
                          refine ol_nil_then ?_
                          refine cd_cond_f rfl rfl ?_
                          refine cd_skip ?_
                          refine px_then ?_
                          refine cd_sr ?_   -- 18
                          refine ol_q (wn_none rfl) (op_move (v := .bool _) rfl) rfl ?_
                          refine ol_nil_then ?_
                          refine cd_cond_f rfl hb27 ?_
                          refine cd_skip ?_
                          refine px_blockN ?_
                          refine px_then ?_
                          refine cd_region ?_   -- 20
                          refine ol_q (wn_none rfl) (op_add rfl rfl (by omega) (by omega)) rfl ?_
                          refine ol_q (wn_none rfl) (op_move (v := .int _ _) rfl) rfl ?_
                          refine ol_nil ?_
                          exact px_loop (i + 1) (by omega) (by omega) ⟨rfl, rfl, congrArg (Value.int .i64) (by rw [hst]; try simp), rfl, rfl, congrArg (Value.int .i64) (by simp), trivial⟩ (fun _ s => s)
                      · have hp26 := hb26
                        (try simp only [decide_eq_true_eq, decide_eq_false_iff_not, Bool.not_eq_true', Bool.not_eq_false', ne_eq, Decidable.not_not] at hp26)
                        have e : i = xs.length := by omega
                        subst e
                        refine cd_exit ?_
                        refine px_thenE ?_
                        refine px_thenE ?_
                        refine px_blockE ?_
                        refine px_then ?_
                        refine cd_sr ?_   -- 21
                        refine ol_q (wn_none rfl) (op_move (v := .int _ _) rfl) rfl ?_
                        refine ol_q (wn_none rfl) (op_move (v := .slice _ _ _) rfl) rfl ?_
                        refine ol_q (wn_none rfl) (op_len_slice Try.underlying54 rfl) rfl ?_
                        refine ol_q (wn_none rfl) (op_eq rfl rfl) rfl ?_
                        refine ol_q (wn_none rfl) (op_assign (v := .bool _) rfl) rfl ?_
                        refine ol_nil_then ?_
                        refine cd_ret ?_
                        exact px_ret1 rfl (v := .bool _) rfl (fun _ s => (s.del 0)) ⟨congrArg Value.bool (decide_eq_true (by rw [List.take_length])), rfl⟩
        · -- 7
          refine ei_i rfl rfl (wn_none rfl) (os_call cb_28 rfl (fun w s => RefBytes_calls _ _ _  s (hr.cons _) (by first | omega | (simp; done) | (simp; omega)))) rfl ?_; rintro _ l ⟨rfl, rfl⟩; refine ⟨[_], rfl, ?_⟩
          -- 8
          refine et_quiet 8 (by kernel_rfl) rfl (by kernel_rfl) (wn_none rfl) (op_sadd rfl rfl (by rw [enc8_length]; omega)) rfl ?_
          refine et_1 (i := 4) (by kernel_rfl) ?_
          refine ei_i rfl rfl (wn_none rfl) (os_q (op_b2s sB_26 Try.underlying5 Try.underlying9 rfl (rds_row 0 rfl rfl) rfl)) rfl ?_; rintro _ _ ⟨rfl, rfl⟩; refine ⟨[_], rfl, ?_⟩
          -- 9
          refine et_quiet 9 (by kernel_rfl) rfl (by kernel_rfl) (wn_none rfl) (op_sneq rfl rfl) rfl ?_
          -- 10
          refine et_quiet 10 (by kernel_rfl) rfl (by kernel_rfl) (wn_none rfl) (op_move (v := .bool _) rfl) rfl ?_
          refine et_split 42 rfl (fun hb30 => ?_) (fun hb30 => ?_)
          · have hp30 := hb30
            (try simp only [decide_eq_true_eq, decide_eq_false_iff_not, Bool.not_eq_true', Bool.not_eq_false', ne_eq, Decidable.not_not] at hp30)
            exact absurd hb30 (by simp)
          · have hp30 := hb30
            (try simp only [decide_eq_true_eq, decide_eq_false_iff_not, Bool.not_eq_true', Bool.not_eq_false', ne_eq, Decidable.not_not] at hp30)
            -- 11
            refine et_quiet 11 (by kernel_rfl) rfl (by kernel_rfl) (wn_some rfl rfl rfl hb30 rfl) (op_move (v := .slice _ _ _) rfl) rfl ?_
            -- 12
            refine et_quiet 12 (by kernel_rfl) rfl (by kernel_rfl) (wn_some rfl rfl rfl hb30 rfl) (op_len_slice Try.underlying22 rfl) rfl ?_
            -- 14
            refine et_quiet 14 (by kernel_rfl) rfl (by kernel_rfl) (wn_some rfl rfl rfl hb30 rfl) (op_move (v := .slice _ _ _) rfl) rfl ?_
            refine et_1 (i := 13) (by kernel_rfl) ?_
            refine ei_i rfl rfl (wn_some rfl rfl rfl hb30 rfl) (os_call cb_29 rfl (fun w s => Size_calls _  s (by omega))) rfl ?_; rintro _ l ⟨rfl, rfl⟩; refine ⟨[_], rfl, ?_⟩
            refine et_1 (i := 15) (by kernel_rfl) ?_
            refine ei_i rfl rfl (wn_some rfl rfl rfl hb30 rfl) (os_call cb_28 rfl (fun w s => RefBytes_calls _ _ _  s (hr.cons _) (by first | omega | (simp; done) | (simp; omega)))) rfl ?_; rintro _ l ⟨rfl, rfl⟩; refine ⟨[_], rfl, ?_⟩
            -- 16
            refine et_quiet 16 (by kernel_rfl) rfl (by kernel_rfl) (wn_some rfl rfl rfl hb30 rfl) (op_len_string Try.underlying9 rfl) rfl ?_
            -- 17
            refine et_quiet 17 (by kernel_rfl) rfl (by kernel_rfl) (wn_some rfl rfl rfl hb30 rfl) (op_ne rfl rfl) rfl ?_
            -- 18
            refine et_quiet 18 (by kernel_rfl) rfl (by kernel_rfl) (wn_none rfl) (op_pick_f (v := .bool _) rfl hb30 rfl) rfl ?_
            -- 19
            refine et_quiet 19 (by kernel_rfl) rfl (by kernel_rfl) (wn_none rfl) (op_move (v := .bool _) rfl) rfl ?_
            refine et_split 51 rfl (fun hb31 => ?_) (fun hb31 => ?_)
            · have hp31 := hb31
              (try simp only [decide_eq_true_eq, decide_eq_false_iff_not, Bool.not_eq_true', Bool.not_eq_false', ne_eq, Decidable.not_not] at hp31)
              exact absurd (by rw [hel]; split <;> omega) hp31
            · have hp31 := hb31
              (try simp only [decide_eq_true_eq, decide_eq_false_iff_not, Bool.not_eq_true', Bool.not_eq_false', ne_eq, Decidable.not_not] at hp31)
              -- 20
              refine et_quiet 20 (by kernel_rfl) rfl (by kernel_rfl) (wn_some rfl rfl rfl hb31 rfl) (op_move (v := .int _ _) rfl) rfl ?_
              -- 21
              refine et_quiet 21 (by kernel_rfl) rfl (by kernel_rfl) (wn_some rfl rfl rfl hb31 rfl) (op_min rfl rfl) rfl ?_
              refine et_1 (i := 22) (by kernel_rfl) ?_
              refine ei_i rfl rfl (wn_some rfl rfl rfl hb31 rfl) (os_call cb_29 rfl (fun w s => Size_calls _  s (by split <;> omega))) rfl ?_; rintro _ l ⟨rfl, rfl⟩; refine ⟨[_], rfl, ?_⟩
              -- 23
              refine et_quiet 23 (by kernel_rfl) rfl (by kernel_rfl) (wn_some rfl rfl rfl hb31 rfl) (op_ne rfl rfl) rfl ?_
              -- 24
              refine et_quiet 24 (by kernel_rfl) rfl (by kernel_rfl) (wn_none rfl) (op_pick_f (v := .bool _) rfl hb31 rfl) rfl ?_
              refine et_nil_then (by kernel_rfl) ?_
              refine cd_cond rfl (fun hb32 => ?_) (fun hb32 => ?_)
              · have hp32 := hb32
                (try simp only [decide_eq_true_eq, decide_eq_false_iff_not, Bool.not_eq_true', Bool.not_eq_false', ne_eq, Decidable.not_not] at hp32)
                exact absurd (by repeat (first | omega | split)) hp32
              · have hp32 := hb32
                (try simp only [decide_eq_true_eq, decide_eq_false_iff_not, Bool.not_eq_true', Bool.not_eq_false', ne_eq, Decidable.not_not] at hp32)
                refine cd_skip ?_
                refine px_then ?_
                refine cd_sr ?_   -- 7
                refine ol_q (wn_none rfl) (op_move (v := .string _) rfl) rfl ?_
                refine ol_q (wn_none rfl) (op_move (v := .int _ _) rfl) rfl ?_
                refine ol_i (wn_none rfl) (os_call cb_14 rfl (fun w s => BGet_calls _ _  s (by first | omega | (simp; done) | (simp; omega)))) rfl ?_; rintro _ _ ⟨ga19, gc19, rfl, rfl⟩
                refine ol_q (wn_none rfl) (op_move (v := .tuple _) rfl) rfl ?_
                refine ol_q (wn_none rfl) (op_extract (v := .slice _ _ _) rfl rfl) rfl ?_
                refine ol_q (wn_none rfl) (op_extract (v := .bool _) rfl rfl) rfl ?_
                refine ol_q (wn_none rfl) (op_assign (v := .slice _ _ _) rfl) rfl ?_
                refine ol_q (wn_none rfl) (op_assign (v := .bool _) rfl) rfl ?_
                refine ol_nil_then ?_
                refine cd_sr ?_   -- 8
                refine ol_q (wn_none rfl) (op_move (v := .string _) rfl) rfl ?_
                refine ol_q (wn_none rfl) (op_move (v := .int _ _) rfl) rfl ?_
                refine ol_i (wn_none rfl) (os_call cb_30 rfl (fun w s => RefGet_calls _ _  s (by first | omega | (simp; done) | (simp; omega)))) rfl ?_; rintro _ _ ⟨wr, wa, wc, rfl, rfl, hw⟩
                refine ol_q (wn_none rfl) (op_move (v := .tuple _) rfl) rfl ?_
                refine ol_q (wn_none rfl) (op_extract (v := .slice _ _ _) rfl rfl) rfl ?_
                refine ol_q (wn_none rfl) (op_extract (v := .bool _) rfl rfl) rfl ?_
                refine ol_q (wn_none rfl) (op_assign (v := .slice _ _ _) rfl) rfl ?_
                refine ol_q (wn_none rfl) (op_assign (v := .bool _) rfl) rfl ?_
                refine ol_nil_then ?_
                refine cd_seq ?_
                refine cd_sr ?_   -- 9
                refine ol_q (wn_none rfl) (op_move (v := .bool _) rfl) rfl ?_
                refine ol_q (wn_none rfl) (op_move (v := .bool _) rfl) rfl ?_
                refine ol_q (wn_none rfl) (op_bneq Try.underlying4 rfl rfl) rfl ?_
                refine ol_q (wn_none rfl) (op_move (v := .bool _) rfl) rfl ?_
                refine ol_split 72 rfl (fun hb33 => ?_) (fun hb33 => ?_)
                · have hp33 := hb33
                  (try simp only [decide_eq_true_eq, decide_eq_false_iff_not, Bool.not_eq_true', Bool.not_eq_false', ne_eq, Decidable.not_not] at hp33)
                  exact absurd hb33 (by simp)
                · have hp33 := hb33
                  (try simp only [decide_eq_true_eq, decide_eq_false_iff_not, Bool.not_eq_true', Bool.not_eq_false', ne_eq, Decidable.not_not] at hp33)
                  refine ol_q (wn_some rfl rfl rfl hb33 rfl) (op_move (v := .bool _) rfl) rfl ?_
                  refine ol_q (wn_some rfl rfl rfl hb33 rfl) (op_not rfl) rfl ?_
                  refine ol_q (wn_some rfl rfl rfl hb33 rfl) (op_move (v := .bool _) rfl) rfl ?_
                  refine ol_split 75 rfl (fun hb34 => ?_) (fun hb34 => ?_)
                  · have hp34 := hb34
                    (try simp only [decide_eq_true_eq, decide_eq_false_iff_not, Bool.not_eq_true', Bool.not_eq_false', ne_eq, Decidable.not_not] at hp34)
                    have hgn := getD'_none s most (by simpa using hb34)
                    refine ol_q (wn_some rfl rfl rfl hb34 rfl) (op_move (v := .slice _ _ _) rfl) rfl ?_
                    refine ol_q (wn_some rfl rfl rfl hb34 rfl) (op_len_slice Try.underlying22 rfl) rfl ?_
                    refine ol_q (wn_some rfl rfl rfl hb34 rfl) (op_ne rfl rfl) rfl ?_
                    refine ol_q (wn_some rfl rfl rfl hb33 rfl) (op_pick_t (v := .bool _) rfl hb34 rfl) rfl ?_
                    refine ol_q (wn_none rfl) (op_pick_f (v := .bool _) rfl hb33 rfl) rfl ?_
                    refine ol_q (wn_none rfl) (op_move (v := .bool _) rfl) rfl ?_
                    refine ol_split 81 rfl (fun hb35 => ?_) (fun hb35 => ?_)
                    · have hp35 := hb35
                      (try simp only [decide_eq_true_eq, decide_eq_false_iff_not, Bool.not_eq_true', Bool.not_eq_false', ne_eq, Decidable.not_not] at hp35)
                      exact absurd hb35 (by simp [hgn])
                    · have hp35 := hb35
                      (try simp only [decide_eq_true_eq, decide_eq_false_iff_not, Bool.not_eq_true', Bool.not_eq_false', ne_eq, Decidable.not_not] at hp35)
                      refine ol_q (wn_some rfl rfl rfl hb35 rfl) (op_move (v := .bool _) rfl) rfl ?_
                      refine ol_q (wn_some rfl rfl rfl hb35 rfl) (op_move (v := .bool _) rfl) rfl ?_
                      refine ol_split 83 rfl (fun hb36 => ?_) (fun hb36 => ?_)
                      · have hp36 := hb36
                        (try simp only [decide_eq_true_eq, decide_eq_false_iff_not, Bool.not_eq_true', Bool.not_eq_false', ne_eq, Decidable.not_not] at hp36)
                        have hwe := hw hp36
                        refine ol_q (wn_some rfl rfl rfl hb36 rfl) (op_move (v := .slice _ _ _) rfl) rfl ?_
                        refine ol_q (wn_some rfl rfl rfl hb36 rfl) (op_move (v := .slice _ _ _) rfl) rfl ?_
                        refine ol_i (wn_some rfl rfl rfl hb36 rfl) (os_call cb_16 rfl (fun w s => Same_calls _ _ _ _ _ _  s (rds_row 1 rfl rfl) (rds_row 0 rfl rfl) hgl)) rfl ?_; rintro _ l ⟨rfl, rfl⟩
                        refine ol_q (wn_some rfl rfl rfl hb36 rfl) (op_not rfl) rfl ?_
                        refine ol_q (wn_some rfl rfl rfl hb35 rfl) (op_pick_t (v := .bool _) rfl hb36 rfl) rfl ?_
                        refine ol_q (wn_none rfl) (op_pick_f (v := .bool _) rfl hb35 rfl) rfl ?_
                        refine ol_nil_then ?_
                        refine cd_cond rfl (fun hb37 => ?_) (fun hb37 => ?_)
                        · have hp37 := hb37
                          (try simp only [decide_eq_true_eq, decide_eq_false_iff_not, Bool.not_eq_true', Bool.not_eq_false', ne_eq, Decidable.not_not] at hp37)
                          exact absurd hb37 (by simp [hwe])
                        · have hp37 := hb37
                          (try simp only [decide_eq_true_eq, decide_eq_false_iff_not, Bool.not_eq_true', Bool.not_eq_false', ne_eq, Decidable.not_not] at hp37)
                          refine cd_skip ?_
                          refine px_then ?_
                          refine cd_sr ?_   -- 11
                          refine ol_q (wn_none rfl) (op_move (v := .slice _ _ _) rfl) rfl ?_
                          refine ol_i (wn_none rfl) (os_call cb_31 rfl (fun w s => Places_calls _ _ _  s (((hr.cons _).cons _).cons _) (by first | omega | (simp; done) | (simp; omega)))) rfl ?_; rintro _ _ ⟨qa22, qc22, rfl, rfl⟩
                          refine ol_q (wn_none rfl) (op_assign (v := .slice _ _ _) rfl) rfl ?_
                          refine ol_nil_then ?_
                          refine cd_sr ?_   -- 12
                          refine ol_q (wn_none rfl) (op_assign (v := .int _ _) rfl) rfl ?_
                          refine ol_nil_then ?_
                          refine cd_seq ?_
                          refine cd_sr ?_   -- 13
                          refine ol_q (wn_none rfl) (op_move (v := .slice _ _ _) rfl) rfl ?_
                          refine ol_q (wn_none rfl) (op_len_slice Try.underlying22 rfl) rfl ?_
                          refine ol_q (wn_none rfl) (op_move (v := .int _ _) rfl) rfl ?_
                          refine ol_nil_then ?_
                          refine cd_block ?_
                          refine cd_loop (α := Nat) (fun i => [(1, .slice lo xs.length lc), (13, .slice qa22 (places xs 0).length qc22), (14, .int .i64 (places (xs.take i) 0).length), (92, .slice lo xs.length lc), (93, .int .i64 xs.length), (94, .int .i64 i)]) (fun _ => Row 3 encI64 (.slice qa22 (places xs 0).length qc22) (places xs 0) :: l) (fun i => i ≤ xs.length) (fun i => xs.length - i) 0 (Nat.zero_le _) ⟨rfl, rfl, rfl, rfl, rfl, rfl, trivial⟩ (fun _ s => (((s.del 3).del 2).del 1)) ?_
                          intro i hi f; (try dsimp only at hi ⊢)
                          refine cd_sr ?_   -- 14
                          refine ol_q (wn_none rfl) (op_lt rfl rfl) rfl ?_
                          refine ol_nil_then ?_
                          refine cd_seq ?_
                          refine cd_cond rfl (fun hb38 => ?_) (fun hb38 => ?_)
                          · have hp38 := hb38
                            (try simp only [decide_eq_true_eq, decide_eq_false_iff_not, Bool.not_eq_true', Bool.not_eq_false', ne_eq, Decidable.not_not] at hp38)
                            have hi1 : i < xs.length := by omega
                            have hst0 := places_take xs i hi1
                            have hpi := hpl i
                            refine cd_skip ?_
                            refine px_then ?_
                            refine cd_seq ?_
                            refine cd_block ?_
                            refine cd_sr ?_   -- 15
                            refine ol_q (wn_none rfl) (op_move (v := .int _ _) rfl) rfl ?_
                            refine ol_q (wn_none rfl) (op_index _ sB_22 rfl rfl rfl (hr.cons _) rfl (by omega)) rfl ?_
                            refine ol_q (wn_none rfl) (op_lde _ 0 sc_4 rfl (hr.cons _) (by omega) rfl rfl rfl) rfl ?_
                            refine ol_q (wn_none rfl) (op_assign (v := .int _ _) rfl) rfl ?_
                            refine ol_q (wn_none rfl) (op_assign (v := .bool _) rfl) rfl ?_
                            refine ol_nil_then ?_
                            refine cd_seq ?_
                            refine cd_sr ?_   -- 16
                            refine ol_q (wn_none rfl) (op_move (v := .bool _) rfl) rfl ?_
                            refine ol_q (wn_none rfl) (op_move (v := .bool _) rfl) rfl ?_
                            refine ol_split 100 rfl (fun hb39 => ?_) (fun hb39 => ?_)
                            · have hp39 := hb39
                              (try simp only [decide_eq_true_eq, decide_eq_false_iff_not, Bool.not_eq_true', Bool.not_eq_false', ne_eq, Decidable.not_not] at hp39)
                              obtain ⟨hpa1, hpa2⟩ := places_at xs i hi1 hb39
                              rw [if_pos hb39] at hst0
                              have hst := congrArg List.length hst0
                              refine ol_q (wn_some rfl rfl rfl hb39 rfl) (op_move (v := .int _ _) rfl) rfl ?_
                              refine ol_q (wn_some rfl rfl rfl hb39 rfl) (op_move (v := .slice _ _ _) rfl) rfl ?_
                              refine ol_q (wn_some rfl rfl rfl hb39 rfl) (op_len_slice Try.underlying54 rfl) rfl ?_
                              refine ol_q (wn_some rfl rfl rfl hb39 rfl) (op_ge rfl rfl) rfl ?_
                              refine ol_q (wn_some rfl rfl rfl hb39 rfl) (op_move (v := .bool _) rfl) rfl ?_
                              refine ol_split 105 rfl (fun hb40 => ?_) (fun hb40 => ?_)
                              · have hp40 := hb40
                                (try simp only [decide_eq_true_eq, decide_eq_false_iff_not, Bool.not_eq_true', Bool.not_eq_false', ne_eq, Decidable.not_not] at hp40)
                                exact absurd hp40 (by omega)
                              · have hp40 := hb40
                                (try simp only [decide_eq_true_eq, decide_eq_false_iff_not, Bool.not_eq_true', Bool.not_eq_false', ne_eq, Decidable.not_not] at hp40)
                                refine ol_q (wn_some rfl rfl rfl hb40 rfl) (op_move (v := .slice _ _ _) rfl) rfl ?_
                                refine ol_q (wn_some rfl rfl rfl hb40 rfl) (op_move (v := .int _ _) rfl) rfl ?_
                                refine ol_q (wn_some rfl rfl rfl hb40 rfl) (op_index _ sB_54 rfl rfl rfl (rds_row 0 rfl rfl) rfl hpa1) rfl ?_
                                refine ol_q (wn_some rfl rfl rfl hb40 rfl) (op_lde _ 0 sc_3 rfl (rds_row 0 rfl rfl) hpa1 rfl rfl rfl) rfl ?_
                                refine ol_q (wn_some rfl rfl rfl hb40 rfl) (op_move (v := .int _ _) rfl) rfl ?_
                                refine ol_q (wn_some rfl rfl rfl hb40 rfl) (op_ne rfl rfl) rfl ?_
                                refine ol_q (wn_some rfl rfl rfl hb39 rfl) (op_pick_f (v := .bool _) rfl hb40 rfl) rfl ?_
                                refine ol_q (wn_none rfl) (op_pick_t (v := .bool _) rfl hb39 rfl) rfl ?_
                                refine ol_nil_then ?_
                                refine cd_cond rfl (fun hb41 => ?_) (fun hb41 => ?_)
                                · have hp41 := hb41
                                  (try simp only [decide_eq_true_eq, decide_eq_false_iff_not, Bool.not_eq_true', Bool.not_eq_false', ne_eq, Decidable.not_not] at hp41)
                                  exact absurd hpa2 hp41
                                · have hp41 := hb41
                                  (try simp only [decide_eq_true_eq, decide_eq_false_iff_not, Bool.not_eq_true', Bool.not_eq_false', ne_eq, Decidable.not_not] at hp41)
                                  refine cd_skip ?_
                                  refine px_then ?_
                                  refine cd_sr ?_   -- 18
                                  refine ol_q (wn_none rfl) (op_move (v := .bool _) rfl) rfl ?_
                                  refine ol_nil_then ?_
                                  refine cd_cond_t rfl hb39 ?_
                                  refine cd_region ?_   -- 19
                                  refine ol_q (wn_none rfl) (op_move (v := .int _ _) rfl) rfl ?_
                                  refine ol_q (wn_none rfl) (op_add rfl rfl (by omega) (by omega)) rfl ?_
                                  refine ol_q (wn_none rfl) (op_assign (v := .int _ _) rfl) rfl ?_
                                  refine ol_nil ?_
                                  refine px_blockN ?_
                                  refine px_then ?_
                                  refine cd_region ?_   -- 20
                                  refine ol_q (wn_none rfl) (op_add rfl rfl (by omega) (by omega)) rfl ?_
                                  refine ol_q (wn_none rfl) (op_move (v := .int _ _) rfl) rfl ?_
                                  refine ol_nil ?_
                                  exact px_loop (i + 1) (by omega) (by omega) ⟨rfl, rfl, congrArg (Value.int .i64) (by rw [hst]; try simp), rfl, rfl, congrArg (Value.int .i64) (by simp), trivial⟩ (fun _ s => s)
                            · have hp39 := hb39
                              (try simp only [decide_eq_true_eq, decide_eq_false_iff_not, Bool.not_eq_true', Bool.not_eq_false', ne_eq, Decidable.not_not] at hp39)
                              rw [if_neg (by simp [hb39])] at hst0
                              have hst := congrArg List.length hst0
                              refine ol_skip (wn_some rfl rfl rfl hb39 rfl) rfl ?_
                              refine ol_skip (wn_some rfl rfl rfl hb39 rfl) rfl ?_
                              refine ol_skip (wn_some rfl rfl rfl hb39 rfl) rfl ?_
                              refine ol_skip (wn_some rfl rfl rfl hb39 rfl) rfl ?_
                              refine ol_skip (wn_some rfl rfl rfl hb39 rfl) rfl ?_
                              refine ol_skip (wn_undef rfl rfl rfl rfl) rfl ?_
                              refine ol_skip (wn_undef rfl rfl rfl rfl) rfl ?_
                              refine ol_skip (wn_undef rfl rfl rfl rfl) rfl ?_
                              refine ol_skip (wn_undef rfl rfl rfl rfl) rfl ?_
                              refine ol_skip (wn_undef rfl rfl rfl rfl) rfl ?_
                              refine ol_skip (wn_undef rfl rfl rfl rfl) rfl ?_
                              refine ol_skip (wn_some rfl rfl rfl hb39 rfl) rfl ?_
                              refine ol_q (wn_none rfl) (op_pick_f (v := .bool _) rfl hb39 rfl) rfl ?_
                              refine ol_nil_then ?_
                              refine cd_cond_f rfl rfl ?_
                              refine cd_skip ?_
                              refine px_then ?_
                              refine cd_sr ?_   -- 18
                              refine ol_q (wn_none rfl) (op_move (v := .bool _) rfl) rfl ?_
                              refine ol_nil_then ?_
                              refine cd_cond_f rfl hb39 ?_
                              refine cd_skip ?_
                              refine px_blockN ?_
                              refine px_then ?_
                              refine cd_region ?_   -- 20
                              refine ol_q (wn_none rfl) (op_add rfl rfl (by omega) (by omega)) rfl ?_
                              refine ol_q (wn_none rfl) (op_move (v := .int _ _) rfl) rfl ?_
                              refine ol_nil ?_
                              exact px_loop (i + 1) (by omega) (by omega) ⟨rfl, rfl, congrArg (Value.int .i64) (by rw [hst]; try simp), rfl, rfl, congrArg (Value.int .i64) (by simp), trivial⟩ (fun _ s => s)
                          · have hp38 := hb38
                            (try simp only [decide_eq_true_eq, decide_eq_false_iff_not, Bool.not_eq_true', Bool.not_eq_false', ne_eq, Decidable.not_not] at hp38)
                            have e : i = xs.length := by omega
                            subst e
                            refine cd_exit ?_
                            refine px_thenE ?_
                            refine px_thenE ?_
                            refine px_blockE ?_
                            refine px_then ?_
                            refine cd_sr ?_   -- 21
                            refine ol_q (wn_none rfl) (op_move (v := .int _ _) rfl) rfl ?_
                            refine ol_q (wn_none rfl) (op_move (v := .slice _ _ _) rfl) rfl ?_
                            refine ol_q (wn_none rfl) (op_len_slice Try.underlying54 rfl) rfl ?_
                            refine ol_q (wn_none rfl) (op_eq rfl rfl) rfl ?_
                            refine ol_q (wn_none rfl) (op_assign (v := .bool _) rfl) rfl ?_
                            refine ol_nil_then ?_
                            refine cd_ret ?_
                            exact px_ret1 rfl (v := .bool _) rfl (fun _ s => (s.del 0)) ⟨congrArg Value.bool (decide_eq_true (by rw [List.take_length])), rfl⟩
                      · have hp36 := hb36
                        (try simp only [decide_eq_true_eq, decide_eq_false_iff_not, Bool.not_eq_true', Bool.not_eq_false', ne_eq, Decidable.not_not] at hp36)
                        refine ol_skip (wn_some rfl rfl rfl hb36 rfl) rfl ?_
                        refine ol_skip (wn_some rfl rfl rfl hb36 rfl) rfl ?_
                        refine ol_skip (wn_some rfl rfl rfl hb36 rfl) rfl ?_
                        refine ol_skip (wn_some rfl rfl rfl hb36 rfl) rfl ?_
                        refine ol_q (wn_some rfl rfl rfl hb35 rfl) (op_pick_f (v := .bool _) rfl hb36 rfl) rfl ?_
                        refine ol_q (wn_none rfl) (op_pick_f (v := .bool _) rfl hb35 rfl) rfl ?_
                        refine ol_nil_then ?_
                        refine cd_cond_f rfl rfl ?_
                        refine cd_skip ?_
                        refine px_then ?_
                        refine cd_sr ?_   -- 11
                        refine ol_q (wn_none rfl) (op_move (v := .slice _ _ _) rfl) rfl ?_
                        refine ol_i (wn_none rfl) (os_call cb_31 rfl (fun w s => Places_calls _ _ _  s (((hr.cons _).cons _).cons _) (by first | omega | (simp; done) | (simp; omega)))) rfl ?_; rintro _ _ ⟨qa23, qc23, rfl, rfl⟩
                        refine ol_q (wn_none rfl) (op_assign (v := .slice _ _ _) rfl) rfl ?_
                        refine ol_nil_then ?_
                        refine cd_sr ?_   -- 12
                        refine ol_q (wn_none rfl) (op_assign (v := .int _ _) rfl) rfl ?_
                        refine ol_nil_then ?_
                        refine cd_seq ?_
                        refine cd_sr ?_   -- 13
                        refine ol_q (wn_none rfl) (op_move (v := .slice _ _ _) rfl) rfl ?_
                        refine ol_q (wn_none rfl) (op_len_slice Try.underlying22 rfl) rfl ?_
                        refine ol_q (wn_none rfl) (op_move (v := .int _ _) rfl) rfl ?_
                        refine ol_nil_then ?_
                        refine cd_block ?_
                        refine cd_loop (α := Nat) (fun i => [(1, .slice lo xs.length lc), (13, .slice qa23 (places xs 0).length qc23), (14, .int .i64 (places (xs.take i) 0).length), (92, .slice lo xs.length lc), (93, .int .i64 xs.length), (94, .int .i64 i)]) (fun _ => Row 3 encI64 (.slice qa23 (places xs 0).length qc23) (places xs 0) :: l) (fun i => i ≤ xs.length) (fun i => xs.length - i) 0 (Nat.zero_le _) ⟨rfl, rfl, rfl, rfl, rfl, rfl, trivial⟩ (fun _ s => (((s.del 3).del 2).del 1)) ?_
                        intro i hi f; (try dsimp only at hi ⊢)
                        refine cd_sr ?_   -- 14
                        refine ol_q (wn_none rfl) (op_lt rfl rfl) rfl ?_
                        refine ol_nil_then ?_
                        refine cd_seq ?_
                        refine cd_cond rfl (fun hb42 => ?_) (fun hb42 => ?_)
                        · have hp42 := hb42
                          (try simp only [decide_eq_true_eq, decide_eq_false_iff_not, Bool.not_eq_true', Bool.not_eq_false', ne_eq, Decidable.not_not] at hp42)
                          have hi1 : i < xs.length := by omega
                          have hst0 := places_take xs i hi1
                          have hpi := hpl i
                          refine cd_skip ?_
                          refine px_then ?_
                          refine cd_seq ?_
                          refine cd_block ?_
                          refine cd_sr ?_   -- 15
                          refine ol_q (wn_none rfl) (op_move (v := .int _ _) rfl) rfl ?_
                          refine ol_q (wn_none rfl) (op_index _ sB_22 rfl rfl rfl (hr.cons _) rfl (by omega)) rfl ?_
                          refine ol_q (wn_none rfl) (op_lde _ 0 sc_4 rfl (hr.cons _) (by omega) rfl rfl rfl) rfl ?_
                          refine ol_q (wn_none rfl) (op_assign (v := .int _ _) rfl) rfl ?_
                          refine ol_q (wn_none rfl) (op_assign (v := .bool _) rfl) rfl ?_
                          refine ol_nil_then ?_
                          refine cd_seq ?_
                          refine cd_sr ?_   -- 16
                          refine ol_q (wn_none rfl) (op_move (v := .bool _) rfl) rfl ?_
                          refine ol_q (wn_none rfl) (op_move (v := .bool _) rfl) rfl ?_
                          refine ol_split 100 rfl (fun hb43 => ?_) (fun hb43 => ?_)
                          · have hp43 := hb43
                            (try simp only [decide_eq_true_eq, decide_eq_false_iff_not, Bool.not_eq_true', Bool.not_eq_false', ne_eq, Decidable.not_not] at hp43)
                            obtain ⟨hpa1, hpa2⟩ := places_at xs i hi1 hb43
                            rw [if_pos hb43] at hst0
                            have hst := congrArg List.length hst0
                            refine ol_q (wn_some rfl rfl rfl hb43 rfl) (op_move (v := .int _ _) rfl) rfl ?_
                            refine ol_q (wn_some rfl rfl rfl hb43 rfl) (op_move (v := .slice _ _ _) rfl) rfl ?_
                            refine ol_q (wn_some rfl rfl rfl hb43 rfl) (op_len_slice Try.underlying54 rfl) rfl ?_
                            refine ol_q (wn_some rfl rfl rfl hb43 rfl) (op_ge rfl rfl) rfl ?_
                            refine ol_q (wn_some rfl rfl rfl hb43 rfl) (op_move (v := .bool _) rfl) rfl ?_
                            refine ol_split 105 rfl (fun hb44 => ?_) (fun hb44 => ?_)
                            · have hp44 := hb44
                              (try simp only [decide_eq_true_eq, decide_eq_false_iff_not, Bool.not_eq_true', Bool.not_eq_false', ne_eq, Decidable.not_not] at hp44)
                              exact absurd hp44 (by omega)
                            · have hp44 := hb44
                              (try simp only [decide_eq_true_eq, decide_eq_false_iff_not, Bool.not_eq_true', Bool.not_eq_false', ne_eq, Decidable.not_not] at hp44)
                              refine ol_q (wn_some rfl rfl rfl hb44 rfl) (op_move (v := .slice _ _ _) rfl) rfl ?_
                              refine ol_q (wn_some rfl rfl rfl hb44 rfl) (op_move (v := .int _ _) rfl) rfl ?_
                              refine ol_q (wn_some rfl rfl rfl hb44 rfl) (op_index _ sB_54 rfl rfl rfl (rds_row 0 rfl rfl) rfl hpa1) rfl ?_
                              refine ol_q (wn_some rfl rfl rfl hb44 rfl) (op_lde _ 0 sc_3 rfl (rds_row 0 rfl rfl) hpa1 rfl rfl rfl) rfl ?_
                              refine ol_q (wn_some rfl rfl rfl hb44 rfl) (op_move (v := .int _ _) rfl) rfl ?_
                              refine ol_q (wn_some rfl rfl rfl hb44 rfl) (op_ne rfl rfl) rfl ?_
                              refine ol_q (wn_some rfl rfl rfl hb43 rfl) (op_pick_f (v := .bool _) rfl hb44 rfl) rfl ?_
                              refine ol_q (wn_none rfl) (op_pick_t (v := .bool _) rfl hb43 rfl) rfl ?_
                              refine ol_nil_then ?_
                              refine cd_cond rfl (fun hb45 => ?_) (fun hb45 => ?_)
                              · have hp45 := hb45
                                (try simp only [decide_eq_true_eq, decide_eq_false_iff_not, Bool.not_eq_true', Bool.not_eq_false', ne_eq, Decidable.not_not] at hp45)
                                exact absurd hpa2 hp45
                              · have hp45 := hb45
                                (try simp only [decide_eq_true_eq, decide_eq_false_iff_not, Bool.not_eq_true', Bool.not_eq_false', ne_eq, Decidable.not_not] at hp45)
                                refine cd_skip ?_
                                refine px_then ?_
                                refine cd_sr ?_   -- 18
                                refine ol_q (wn_none rfl) (op_move (v := .bool _) rfl) rfl ?_
                                refine ol_nil_then ?_
                                refine cd_cond_t rfl hb43 ?_
                                refine cd_region ?_   -- 19
                                refine ol_q (wn_none rfl) (op_move (v := .int _ _) rfl) rfl ?_
                                refine ol_q (wn_none rfl) (op_add rfl rfl (by omega) (by omega)) rfl ?_
                                refine ol_q (wn_none rfl) (op_assign (v := .int _ _) rfl) rfl ?_
                                refine ol_nil ?_
                                refine px_blockN ?_
                                refine px_then ?_
                                refine cd_region ?_   -- 20
                                refine ol_q (wn_none rfl) (op_add rfl rfl (by omega) (by omega)) rfl ?_
                                refine ol_q (wn_none rfl) (op_move (v := .int _ _) rfl) rfl ?_
                                refine ol_nil ?_
                                exact px_loop (i + 1) (by omega) (by omega) ⟨rfl, rfl, congrArg (Value.int .i64) (by rw [hst]; try simp), rfl, rfl, congrArg (Value.int .i64) (by simp), trivial⟩ (fun _ s => s)
                          · have hp43 := hb43
                            (try simp only [decide_eq_true_eq, decide_eq_false_iff_not, Bool.not_eq_true', Bool.not_eq_false', ne_eq, Decidable.not_not] at hp43)
                            rw [if_neg (by simp [hb43])] at hst0
                            have hst := congrArg List.length hst0
                            refine ol_skip (wn_some rfl rfl rfl hb43 rfl) rfl ?_
                            refine ol_skip (wn_some rfl rfl rfl hb43 rfl) rfl ?_
                            refine ol_skip (wn_some rfl rfl rfl hb43 rfl) rfl ?_
                            refine ol_skip (wn_some rfl rfl rfl hb43 rfl) rfl ?_
                            refine ol_skip (wn_some rfl rfl rfl hb43 rfl) rfl ?_
                            refine ol_skip (wn_undef rfl rfl rfl rfl) rfl ?_
                            refine ol_skip (wn_undef rfl rfl rfl rfl) rfl ?_
                            refine ol_skip (wn_undef rfl rfl rfl rfl) rfl ?_
                            refine ol_skip (wn_undef rfl rfl rfl rfl) rfl ?_
                            refine ol_skip (wn_undef rfl rfl rfl rfl) rfl ?_
                            refine ol_skip (wn_undef rfl rfl rfl rfl) rfl ?_
                            refine ol_skip (wn_some rfl rfl rfl hb43 rfl) rfl ?_
                            refine ol_q (wn_none rfl) (op_pick_f (v := .bool _) rfl hb43 rfl) rfl ?_
                            refine ol_nil_then ?_
                            refine cd_cond_f rfl rfl ?_
                            refine cd_skip ?_
                            refine px_then ?_
                            refine cd_sr ?_   -- 18
                            refine ol_q (wn_none rfl) (op_move (v := .bool _) rfl) rfl ?_
                            refine ol_nil_then ?_
                            refine cd_cond_f rfl hb43 ?_
                            refine cd_skip ?_
                            refine px_blockN ?_
                            refine px_then ?_
                            refine cd_region ?_   -- 20
                            refine ol_q (wn_none rfl) (op_add rfl rfl (by omega) (by omega)) rfl ?_
                            refine ol_q (wn_none rfl) (op_move (v := .int _ _) rfl) rfl ?_
                            refine ol_nil ?_
                            exact px_loop (i + 1) (by omega) (by omega) ⟨rfl, rfl, congrArg (Value.int .i64) (by rw [hst]; try simp), rfl, rfl, congrArg (Value.int .i64) (by simp), trivial⟩ (fun _ s => s)
                        · have hp42 := hb42
                          (try simp only [decide_eq_true_eq, decide_eq_false_iff_not, Bool.not_eq_true', Bool.not_eq_false', ne_eq, Decidable.not_not] at hp42)
                          have e : i = xs.length := by omega
                          subst e
                          refine cd_exit ?_
                          refine px_thenE ?_
                          refine px_thenE ?_
                          refine px_blockE ?_
                          refine px_then ?_
                          refine cd_sr ?_   -- 21
                          refine ol_q (wn_none rfl) (op_move (v := .int _ _) rfl) rfl ?_
                          refine ol_q (wn_none rfl) (op_move (v := .slice _ _ _) rfl) rfl ?_
                          refine ol_q (wn_none rfl) (op_len_slice Try.underlying54 rfl) rfl ?_
                          refine ol_q (wn_none rfl) (op_eq rfl rfl) rfl ?_
                          refine ol_q (wn_none rfl) (op_assign (v := .bool _) rfl) rfl ?_
                          refine ol_nil_then ?_
                          refine cd_ret ?_
                          exact px_ret1 rfl (v := .bool _) rfl (fun _ s => (s.del 0)) ⟨congrArg Value.bool (decide_eq_true (by rw [List.take_length])), rfl⟩
                  · have hp34 := hb34
                    (try simp only [decide_eq_true_eq, decide_eq_false_iff_not, Bool.not_eq_true', Bool.not_eq_false', ne_eq, Decidable.not_not] at hp34)
                    refine ol_skip (wn_some rfl rfl rfl hb34 rfl) rfl ?_
                    refine ol_skip (wn_some rfl rfl rfl hb34 rfl) rfl ?_
                    refine ol_skip (wn_some rfl rfl rfl hb34 rfl) rfl ?_
                    refine ol_q (wn_some rfl rfl rfl hb33 rfl) (op_pick_f (v := .bool _) rfl hb34 rfl) rfl ?_
                    refine ol_q (wn_none rfl) (op_pick_f (v := .bool _) rfl hb33 rfl) rfl ?_
                    refine ol_q (wn_none rfl) (op_move (v := .bool _) rfl) rfl ?_
                    refine ol_q (wn_some rfl rfl rfl rfl rfl) (op_move (v := .bool _) rfl) rfl ?_
                    refine ol_q (wn_some rfl rfl rfl rfl rfl) (op_move (v := .bool _) rfl) rfl ?_
                    refine ol_split 83 rfl (fun hb46 => ?_) (fun hb46 => ?_)
                    · have hp46 := hb46
                      (try simp only [decide_eq_true_eq, decide_eq_false_iff_not, Bool.not_eq_true', Bool.not_eq_false', ne_eq, Decidable.not_not] at hp46)
                      have hwe := hw hp46
                      refine ol_q (wn_some rfl rfl rfl hb46 rfl) (op_move (v := .slice _ _ _) rfl) rfl ?_
                      refine ol_q (wn_some rfl rfl rfl hb46 rfl) (op_move (v := .slice _ _ _) rfl) rfl ?_
                      refine ol_i (wn_some rfl rfl rfl hb46 rfl) (os_call cb_16 rfl (fun w s => Same_calls _ _ _ _ _ _  s (rds_row 1 rfl rfl) (rds_row 0 rfl rfl) hgl)) rfl ?_; rintro _ l ⟨rfl, rfl⟩
                      refine ol_q (wn_some rfl rfl rfl hb46 rfl) (op_not rfl) rfl ?_
                      refine ol_q (wn_some rfl rfl rfl rfl rfl) (op_pick_t (v := .bool _) rfl hb46 rfl) rfl ?_
                      refine ol_q (wn_none rfl) (op_pick_f (v := .bool _) rfl rfl rfl) rfl ?_
                      refine ol_nil_then ?_
                      refine cd_cond rfl (fun hb47 => ?_) (fun hb47 => ?_)
                      · have hp47 := hb47
                        (try simp only [decide_eq_true_eq, decide_eq_false_iff_not, Bool.not_eq_true', Bool.not_eq_false', ne_eq, Decidable.not_not] at hp47)
                        exact absurd hb47 (by simp [hwe])
                      · have hp47 := hb47
                        (try simp only [decide_eq_true_eq, decide_eq_false_iff_not, Bool.not_eq_true', Bool.not_eq_false', ne_eq, Decidable.not_not] at hp47)
                        refine cd_skip ?_
                        refine px_then ?_
                        refine cd_sr ?_   -- 11
                        refine ol_q (wn_none rfl) (op_move (v := .slice _ _ _) rfl) rfl ?_
                        refine ol_i (wn_none rfl) (os_call cb_31 rfl (fun w s => Places_calls _ _ _  s (((hr.cons _).cons _).cons _) (by first | omega | (simp; done) | (simp; omega)))) rfl ?_; rintro _ _ ⟨qa25, qc25, rfl, rfl⟩
                        refine ol_q (wn_none rfl) (op_assign (v := .slice _ _ _) rfl) rfl ?_
                        refine ol_nil_then ?_
                        refine cd_sr ?_   -- 12
                        refine ol_q (wn_none rfl) (op_assign (v := .int _ _) rfl) rfl ?_
                        refine ol_nil_then ?_
                        refine cd_seq ?_
                        refine cd_sr ?_   -- 13
                        refine ol_q (wn_none rfl) (op_move (v := .slice _ _ _) rfl) rfl ?_
                        refine ol_q (wn_none rfl) (op_len_slice Try.underlying22 rfl) rfl ?_
                        refine ol_q (wn_none rfl) (op_move (v := .int _ _) rfl) rfl ?_
                        refine ol_nil_then ?_
                        refine cd_block ?_
                        refine cd_loop (α := Nat) (fun i => [(1, .slice lo xs.length lc), (13, .slice qa25 (places xs 0).length qc25), (14, .int .i64 (places (xs.take i) 0).length), (92, .slice lo xs.length lc), (93, .int .i64 xs.length), (94, .int .i64 i)]) (fun _ => Row 3 encI64 (.slice qa25 (places xs 0).length qc25) (places xs 0) :: l) (fun i => i ≤ xs.length) (fun i => xs.length - i) 0 (Nat.zero_le _) ⟨rfl, rfl, rfl, rfl, rfl, rfl, trivial⟩ (fun _ s => (((s.del 3).del 2).del 1)) ?_
                        intro i hi f; (try dsimp only at hi ⊢)
                        refine cd_sr ?_   -- 14
                        refine ol_q (wn_none rfl) (op_lt rfl rfl) rfl ?_
                        refine ol_nil_then ?_
                        refine cd_seq ?_
                        refine cd_cond rfl (fun hb48 => ?_) (fun hb48 => ?_)
                        · have hp48 := hb48
                          (try simp only [decide_eq_true_eq, decide_eq_false_iff_not, Bool.not_eq_true', Bool.not_eq_false', ne_eq, Decidable.not_not] at hp48)
                          have hi1 : i < xs.length := by omega
                          have hst0 := places_take xs i hi1
                          have hpi := hpl i
                          refine cd_skip ?_
                          refine px_then ?_
                          refine cd_seq ?_
                          refine cd_block ?_
                          refine cd_sr ?_   -- 15
                          refine ol_q (wn_none rfl) (op_move (v := .int _ _) rfl) rfl ?_
                          refine ol_q (wn_none rfl) (op_index _ sB_22 rfl rfl rfl (hr.cons _) rfl (by omega)) rfl ?_
                          refine ol_q (wn_none rfl) (op_lde _ 0 sc_4 rfl (hr.cons _) (by omega) rfl rfl rfl) rfl ?_
                          refine ol_q (wn_none rfl) (op_assign (v := .int _ _) rfl) rfl ?_
                          refine ol_q (wn_none rfl) (op_assign (v := .bool _) rfl) rfl ?_
                          refine ol_nil_then ?_
                          refine cd_seq ?_
                          refine cd_sr ?_   -- 16
                          refine ol_q (wn_none rfl) (op_move (v := .bool _) rfl) rfl ?_
                          refine ol_q (wn_none rfl) (op_move (v := .bool _) rfl) rfl ?_
                          refine ol_split 100 rfl (fun hb49 => ?_) (fun hb49 => ?_)
                          · have hp49 := hb49
                            (try simp only [decide_eq_true_eq, decide_eq_false_iff_not, Bool.not_eq_true', Bool.not_eq_false', ne_eq, Decidable.not_not] at hp49)
                            obtain ⟨hpa1, hpa2⟩ := places_at xs i hi1 hb49
                            rw [if_pos hb49] at hst0
                            have hst := congrArg List.length hst0
                            refine ol_q (wn_some rfl rfl rfl hb49 rfl) (op_move (v := .int _ _) rfl) rfl ?_
                            refine ol_q (wn_some rfl rfl rfl hb49 rfl) (op_move (v := .slice _ _ _) rfl) rfl ?_
                            refine ol_q (wn_some rfl rfl rfl hb49 rfl) (op_len_slice Try.underlying54 rfl) rfl ?_
                            refine ol_q (wn_some rfl rfl rfl hb49 rfl) (op_ge rfl rfl) rfl ?_
                            refine ol_q (wn_some rfl rfl rfl hb49 rfl) (op_move (v := .bool _) rfl) rfl ?_
                            refine ol_split 105 rfl (fun hb50 => ?_) (fun hb50 => ?_)
                            · have hp50 := hb50
                              (try simp only [decide_eq_true_eq, decide_eq_false_iff_not, Bool.not_eq_true', Bool.not_eq_false', ne_eq, Decidable.not_not] at hp50)
                              exact absurd hp50 (by omega)
                            · have hp50 := hb50
                              (try simp only [decide_eq_true_eq, decide_eq_false_iff_not, Bool.not_eq_true', Bool.not_eq_false', ne_eq, Decidable.not_not] at hp50)
                              refine ol_q (wn_some rfl rfl rfl hb50 rfl) (op_move (v := .slice _ _ _) rfl) rfl ?_
                              refine ol_q (wn_some rfl rfl rfl hb50 rfl) (op_move (v := .int _ _) rfl) rfl ?_
                              refine ol_q (wn_some rfl rfl rfl hb50 rfl) (op_index _ sB_54 rfl rfl rfl (rds_row 0 rfl rfl) rfl hpa1) rfl ?_
                              refine ol_q (wn_some rfl rfl rfl hb50 rfl) (op_lde _ 0 sc_3 rfl (rds_row 0 rfl rfl) hpa1 rfl rfl rfl) rfl ?_
                              refine ol_q (wn_some rfl rfl rfl hb50 rfl) (op_move (v := .int _ _) rfl) rfl ?_
                              refine ol_q (wn_some rfl rfl rfl hb50 rfl) (op_ne rfl rfl) rfl ?_
                              refine ol_q (wn_some rfl rfl rfl hb49 rfl) (op_pick_f (v := .bool _) rfl hb50 rfl) rfl ?_
                              refine ol_q (wn_none rfl) (op_pick_t (v := .bool _) rfl hb49 rfl) rfl ?_
                              refine ol_nil_then ?_
                              refine cd_cond rfl (fun hb51 => ?_) (fun hb51 => ?_)
                              · have hp51 := hb51
                                (try simp only [decide_eq_true_eq, decide_eq_false_iff_not, Bool.not_eq_true', Bool.not_eq_false', ne_eq, Decidable.not_not] at hp51)
                                exact absurd hpa2 hp51
                              · have hp51 := hb51
                                (try simp only [decide_eq_true_eq, decide_eq_false_iff_not, Bool.not_eq_true', Bool.not_eq_false', ne_eq, Decidable.not_not] at hp51)
                                refine cd_skip ?_
                                refine px_then ?_
                                refine cd_sr ?_   -- 18
                                refine ol_q (wn_none rfl) (op_move (v := .bool _) rfl) rfl ?_
                                refine ol_nil_then ?_
                                refine cd_cond_t rfl hb49 ?_
                                refine cd_region ?_   -- 19
                                refine ol_q (wn_none rfl) (op_move (v := .int _ _) rfl) rfl ?_
                                refine ol_q (wn_none rfl) (op_add rfl rfl (by omega) (by omega)) rfl ?_
                                refine ol_q (wn_none rfl) (op_assign (v := .int _ _) rfl) rfl ?_
                                refine ol_nil ?_
                                refine px_blockN ?_
                                refine px_then ?_
                                refine cd_region ?_   -- 20
                                refine ol_q (wn_none rfl) (op_add rfl rfl (by omega) (by omega)) rfl ?_
                                refine ol_q (wn_none rfl) (op_move (v := .int _ _) rfl) rfl ?_
                                refine ol_nil ?_
                                exact px_loop (i + 1) (by omega) (by omega) ⟨rfl, rfl, congrArg (Value.int .i64) (by rw [hst]; try simp), rfl, rfl, congrArg (Value.int .i64) (by simp), trivial⟩ (fun _ s => s)
                          · have hp49 := hb49
                            (try simp only [decide_eq_true_eq, decide_eq_false_iff_not, Bool.not_eq_true', Bool.not_eq_false', ne_eq, Decidable.not_not] at hp49)
                            rw [if_neg (by simp [hb49])] at hst0
                            have hst := congrArg List.length hst0
                            refine ol_skip (wn_some rfl rfl rfl hb49 rfl) rfl ?_
                            refine ol_skip (wn_some rfl rfl rfl hb49 rfl) rfl ?_
                            refine ol_skip (wn_some rfl rfl rfl hb49 rfl) rfl ?_
                            refine ol_skip (wn_some rfl rfl rfl hb49 rfl) rfl ?_
                            refine ol_skip (wn_some rfl rfl rfl hb49 rfl) rfl ?_
                            refine ol_skip (wn_undef rfl rfl rfl rfl) rfl ?_
                            refine ol_skip (wn_undef rfl rfl rfl rfl) rfl ?_
                            refine ol_skip (wn_undef rfl rfl rfl rfl) rfl ?_
                            refine ol_skip (wn_undef rfl rfl rfl rfl) rfl ?_
                            refine ol_skip (wn_undef rfl rfl rfl rfl) rfl ?_
                            refine ol_skip (wn_undef rfl rfl rfl rfl) rfl ?_
                            refine ol_skip (wn_some rfl rfl rfl hb49 rfl) rfl ?_
                            refine ol_q (wn_none rfl) (op_pick_f (v := .bool _) rfl hb49 rfl) rfl ?_
                            refine ol_nil_then ?_
                            refine cd_cond_f rfl rfl ?_
                            refine cd_skip ?_
                            refine px_then ?_
                            refine cd_sr ?_   -- 18
                            refine ol_q (wn_none rfl) (op_move (v := .bool _) rfl) rfl ?_
                            refine ol_nil_then ?_
                            refine cd_cond_f rfl hb49 ?_
                            refine cd_skip ?_
                            refine px_blockN ?_
                            refine px_then ?_
                            refine cd_region ?_   -- 20
                            refine ol_q (wn_none rfl) (op_add rfl rfl (by omega) (by omega)) rfl ?_
                            refine ol_q (wn_none rfl) (op_move (v := .int _ _) rfl) rfl ?_
                            refine ol_nil ?_
                            exact px_loop (i + 1) (by omega) (by omega) ⟨rfl, rfl, congrArg (Value.int .i64) (by rw [hst]; try simp), rfl, rfl, congrArg (Value.int .i64) (by simp), trivial⟩ (fun _ s => s)
                        · have hp48 := hb48
                          (try simp only [decide_eq_true_eq, decide_eq_false_iff_not, Bool.not_eq_true', Bool.not_eq_false', ne_eq, Decidable.not_not] at hp48)
                          have e : i = xs.length := by omega
                          subst e
                          refine cd_exit ?_
                          refine px_thenE ?_
                          refine px_thenE ?_
                          refine px_blockE ?_
                          refine px_then ?_
                          refine cd_sr ?_   -- 21
                          refine ol_q (wn_none rfl) (op_move (v := .int _ _) rfl) rfl ?_
                          refine ol_q (wn_none rfl) (op_move (v := .slice _ _ _) rfl) rfl ?_
                          refine ol_q (wn_none rfl) (op_len_slice Try.underlying54 rfl) rfl ?_
                          refine ol_q (wn_none rfl) (op_eq rfl rfl) rfl ?_
                          refine ol_q (wn_none rfl) (op_assign (v := .bool _) rfl) rfl ?_
                          refine ol_nil_then ?_
                          refine cd_ret ?_
                          exact px_ret1 rfl (v := .bool _) rfl (fun _ s => (s.del 0)) ⟨congrArg Value.bool (decide_eq_true (by rw [List.take_length])), rfl⟩
                    · have hp46 := hb46
                      (try simp only [decide_eq_true_eq, decide_eq_false_iff_not, Bool.not_eq_true', Bool.not_eq_false', ne_eq, Decidable.not_not] at hp46)
                      refine ol_skip (wn_some rfl rfl rfl hb46 rfl) rfl ?_
                      refine ol_skip (wn_some rfl rfl rfl hb46 rfl) rfl ?_
                      refine ol_skip (wn_some rfl rfl rfl hb46 rfl) rfl ?_
                      refine ol_skip (wn_some rfl rfl rfl hb46 rfl) rfl ?_
                      refine ol_q (wn_some rfl rfl rfl rfl rfl) (op_pick_f (v := .bool _) rfl hb46 rfl) rfl ?_
                      refine ol_q (wn_none rfl) (op_pick_f (v := .bool _) rfl rfl rfl) rfl ?_
                      refine ol_nil_then ?_
                      refine cd_cond_f rfl rfl ?_
                      refine cd_skip ?_
                      refine px_then ?_
                      refine cd_sr ?_   -- 11
                      refine ol_q (wn_none rfl) (op_move (v := .slice _ _ _) rfl) rfl ?_
                      refine ol_i (wn_none rfl) (os_call cb_31 rfl (fun w s => Places_calls _ _ _  s (((hr.cons _).cons _).cons _) (by first | omega | (simp; done) | (simp; omega)))) rfl ?_; rintro _ _ ⟨qa26, qc26, rfl, rfl⟩
                      refine ol_q (wn_none rfl) (op_assign (v := .slice _ _ _) rfl) rfl ?_
                      refine ol_nil_then ?_
                      refine cd_sr ?_   -- 12
                      refine ol_q (wn_none rfl) (op_assign (v := .int _ _) rfl) rfl ?_
                      refine ol_nil_then ?_
                      refine cd_seq ?_
                      refine cd_sr ?_   -- 13
                      refine ol_q (wn_none rfl) (op_move (v := .slice _ _ _) rfl) rfl ?_
                      refine ol_q (wn_none rfl) (op_len_slice Try.underlying22 rfl) rfl ?_
                      refine ol_q (wn_none rfl) (op_move (v := .int _ _) rfl) rfl ?_
                      refine ol_nil_then ?_
                      refine cd_block ?_
                      refine cd_loop (α := Nat) (fun i => [(1, .slice lo xs.length lc), (13, .slice qa26 (places xs 0).length qc26), (14, .int .i64 (places (xs.take i) 0).length), (92, .slice lo xs.length lc), (93, .int .i64 xs.length), (94, .int .i64 i)]) (fun _ => Row 3 encI64 (.slice qa26 (places xs 0).length qc26) (places xs 0) :: l) (fun i => i ≤ xs.length) (fun i => xs.length - i) 0 (Nat.zero_le _) ⟨rfl, rfl, rfl, rfl, rfl, rfl, trivial⟩ (fun _ s => (((s.del 3).del 2).del 1)) ?_
                      intro i hi f; (try dsimp only at hi ⊢)
                      refine cd_sr ?_   -- 14
                      refine ol_q (wn_none rfl) (op_lt rfl rfl) rfl ?_
                      refine ol_nil_then ?_
                      refine cd_seq ?_
                      refine cd_cond rfl (fun hb52 => ?_) (fun hb52 => ?_)
                      · have hp52 := hb52
                        (try simp only [decide_eq_true_eq, decide_eq_false_iff_not, Bool.not_eq_true', Bool.not_eq_false', ne_eq, Decidable.not_not] at hp52)
                        have hi1 : i < xs.length := by omega
                        have hst0 := places_take xs i hi1
                        have hpi := hpl i
                        refine cd_skip ?_
                        refine px_then ?_
                        refine cd_seq ?_
                        refine cd_block ?_
                        refine cd_sr ?_   -- 15
                        refine ol_q (wn_none rfl) (op_move (v := .int _ _) rfl) rfl ?_
                        refine ol_q (wn_none rfl) (op_index _ sB_22 rfl rfl rfl (hr.cons _) rfl (by omega)) rfl ?_
                        refine ol_q (wn_none rfl) (op_lde _ 0 sc_4 rfl (hr.cons _) (by omega) rfl rfl rfl) rfl ?_
                        refine ol_q (wn_none rfl) (op_assign (v := .int _ _) rfl) rfl ?_
                        refine ol_q (wn_none rfl) (op_assign (v := .bool _) rfl) rfl ?_
                        refine ol_nil_then ?_
                        refine cd_seq ?_
                        refine cd_sr ?_   -- 16
                        refine ol_q (wn_none rfl) (op_move (v := .bool _) rfl) rfl ?_
                        refine ol_q (wn_none rfl) (op_move (v := .bool _) rfl) rfl ?_
                        refine ol_split 100 rfl (fun hb53 => ?_) (fun hb53 => ?_)
                        · have hp53 := hb53
                          (try simp only [decide_eq_true_eq, decide_eq_false_iff_not, Bool.not_eq_true', Bool.not_eq_false', ne_eq, Decidable.not_not] at hp53)
                          obtain ⟨hpa1, hpa2⟩ := places_at xs i hi1 hb53
                          rw [if_pos hb53] at hst0
                          have hst := congrArg List.length hst0
                          refine ol_q (wn_some rfl rfl rfl hb53 rfl) (op_move (v := .int _ _) rfl) rfl ?_
                          refine ol_q (wn_some rfl rfl rfl hb53 rfl) (op_move (v := .slice _ _ _) rfl) rfl ?_
                          refine ol_q (wn_some rfl rfl rfl hb53 rfl) (op_len_slice Try.underlying54 rfl) rfl ?_
                          refine ol_q (wn_some rfl rfl rfl hb53 rfl) (op_ge rfl rfl) rfl ?_
                          refine ol_q (wn_some rfl rfl rfl hb53 rfl) (op_move (v := .bool _) rfl) rfl ?_
                          refine ol_split 105 rfl (fun hb54 => ?_) (fun hb54 => ?_)
                          · have hp54 := hb54
                            (try simp only [decide_eq_true_eq, decide_eq_false_iff_not, Bool.not_eq_true', Bool.not_eq_false', ne_eq, Decidable.not_not] at hp54)
                            exact absurd hp54 (by omega)
                          · have hp54 := hb54
                            (try simp only [decide_eq_true_eq, decide_eq_false_iff_not, Bool.not_eq_true', Bool.not_eq_false', ne_eq, Decidable.not_not] at hp54)
                            refine ol_q (wn_some rfl rfl rfl hb54 rfl) (op_move (v := .slice _ _ _) rfl) rfl ?_
                            refine ol_q (wn_some rfl rfl rfl hb54 rfl) (op_move (v := .int _ _) rfl) rfl ?_
                            refine ol_q (wn_some rfl rfl rfl hb54 rfl) (op_index _ sB_54 rfl rfl rfl (rds_row 0 rfl rfl) rfl hpa1) rfl ?_
                            refine ol_q (wn_some rfl rfl rfl hb54 rfl) (op_lde _ 0 sc_3 rfl (rds_row 0 rfl rfl) hpa1 rfl rfl rfl) rfl ?_
                            refine ol_q (wn_some rfl rfl rfl hb54 rfl) (op_move (v := .int _ _) rfl) rfl ?_
                            refine ol_q (wn_some rfl rfl rfl hb54 rfl) (op_ne rfl rfl) rfl ?_
                            refine ol_q (wn_some rfl rfl rfl hb53 rfl) (op_pick_f (v := .bool _) rfl hb54 rfl) rfl ?_
                            refine ol_q (wn_none rfl) (op_pick_t (v := .bool _) rfl hb53 rfl) rfl ?_
                            refine ol_nil_then ?_
                            refine cd_cond rfl (fun hb55 => ?_) (fun hb55 => ?_)
                            · have hp55 := hb55
                              (try simp only [decide_eq_true_eq, decide_eq_false_iff_not, Bool.not_eq_true', Bool.not_eq_false', ne_eq, Decidable.not_not] at hp55)
                              exact absurd hpa2 hp55
                            · have hp55 := hb55
                              (try simp only [decide_eq_true_eq, decide_eq_false_iff_not, Bool.not_eq_true', Bool.not_eq_false', ne_eq, Decidable.not_not] at hp55)
                              refine cd_skip ?_
                              refine px_then ?_
                              refine cd_sr ?_   -- 18
                              refine ol_q (wn_none rfl) (op_move (v := .bool _) rfl) rfl ?_
                              refine ol_nil_then ?_
                              refine cd_cond_t rfl hb53 ?_
                              refine cd_region ?_   -- 19
                              refine ol_q (wn_none rfl) (op_move (v := .int _ _) rfl) rfl ?_
                              refine ol_q (wn_none rfl) (op_add rfl rfl (by omega) (by omega)) rfl ?_
                              refine ol_q (wn_none rfl) (op_assign (v := .int _ _) rfl) rfl ?_
                              refine ol_nil ?_
                              refine px_blockN ?_
                              refine px_then ?_
                              refine cd_region ?_   -- 20
                              refine ol_q (wn_none rfl) (op_add rfl rfl (by omega) (by omega)) rfl ?_
                              refine ol_q (wn_none rfl) (op_move (v := .int _ _) rfl) rfl ?_
                              refine ol_nil ?_
                              exact px_loop (i + 1) (by omega) (by omega) ⟨rfl, rfl, congrArg (Value.int .i64) (by rw [hst]; try simp), rfl, rfl, congrArg (Value.int .i64) (by simp), trivial⟩ (fun _ s => s)
                        · have hp53 := hb53
                          (try simp only [decide_eq_true_eq, decide_eq_false_iff_not, Bool.not_eq_true', Bool.not_eq_false', ne_eq, Decidable.not_not] at hp53)
                          rw [if_neg (by simp [hb53])] at hst0
                          have hst := congrArg List.length hst0
                          refine ol_skip (wn_some rfl rfl rfl hb53 rfl) rfl ?_
                          refine ol_skip (wn_some rfl rfl rfl hb53 rfl) rfl ?_
                          refine ol_skip (wn_some rfl rfl rfl hb53 rfl) rfl ?_
                          refine ol_skip (wn_some rfl rfl rfl hb53 rfl) rfl ?_
                          refine ol_skip (wn_some rfl rfl rfl hb53 rfl) rfl ?_
                          refine ol_skip (wn_undef rfl rfl rfl rfl) rfl ?_
                          refine ol_skip (wn_undef rfl rfl rfl rfl) rfl ?_
                          refine ol_skip (wn_undef rfl rfl rfl rfl) rfl ?_
                          refine ol_skip (wn_undef rfl rfl rfl rfl) rfl ?_
                          refine ol_skip (wn_undef rfl rfl rfl rfl) rfl ?_
                          refine ol_skip (wn_undef rfl rfl rfl rfl) rfl ?_
                          refine ol_skip (wn_some rfl rfl rfl hb53 rfl) rfl ?_
                          refine ol_q (wn_none rfl) (op_pick_f (v := .bool _) rfl hb53 rfl) rfl ?_
                          refine ol_nil_then ?_
                          refine cd_cond_f rfl rfl ?_
                          refine cd_skip ?_
                          refine px_then ?_
                          refine cd_sr ?_   -- 18
                          refine ol_q (wn_none rfl) (op_move (v := .bool _) rfl) rfl ?_
                          refine ol_nil_then ?_
                          refine cd_cond_f rfl hb53 ?_
                          refine cd_skip ?_
                          refine px_blockN ?_
                          refine px_then ?_
                          refine cd_region ?_   -- 20
                          refine ol_q (wn_none rfl) (op_add rfl rfl (by omega) (by omega)) rfl ?_
                          refine ol_q (wn_none rfl) (op_move (v := .int _ _) rfl) rfl ?_
                          refine ol_nil ?_
                          exact px_loop (i + 1) (by omega) (by omega) ⟨rfl, rfl, congrArg (Value.int .i64) (by rw [hst]; try simp), rfl, rfl, congrArg (Value.int .i64) (by simp), trivial⟩ (fun _ s => s)
                      · have hp52 := hb52
                        (try simp only [decide_eq_true_eq, decide_eq_false_iff_not, Bool.not_eq_true', Bool.not_eq_false', ne_eq, Decidable.not_not] at hp52)
                        have e : i = xs.length := by omega
                        subst e
                        refine cd_exit ?_
                        refine px_thenE ?_
                        refine px_thenE ?_
                        refine px_blockE ?_
                        refine px_then ?_
                        refine cd_sr ?_   -- 21
                        refine ol_q (wn_none rfl) (op_move (v := .int _ _) rfl) rfl ?_
                        refine ol_q (wn_none rfl) (op_move (v := .slice _ _ _) rfl) rfl ?_
                        refine ol_q (wn_none rfl) (op_len_slice Try.underlying54 rfl) rfl ?_
                        refine ol_q (wn_none rfl) (op_eq rfl rfl) rfl ?_
                        refine ol_q (wn_none rfl) (op_assign (v := .bool _) rfl) rfl ?_
                        refine ol_nil_then ?_
                        refine cd_ret ?_
                        exact px_ret1 rfl (v := .bool _) rfl (fun _ s => (s.del 0)) ⟨congrArg Value.bool (decide_eq_true (by rw [List.take_length])), rfl⟩
end Go.SL

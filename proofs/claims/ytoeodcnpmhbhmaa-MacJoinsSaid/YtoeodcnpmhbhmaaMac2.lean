import Derived.Test.YtoeodcnpmhbhmaaMac
set_option linter.unusedVariables false
set_option linter.unusedSimpArgs false
namespace Go.SL
open Go.Proofs

set_option maxRecDepth 100000 in
set_option maxHeartbeats 1000000 in
theorem MacJoins_calls {w0 w : World} {l : List HProp} (ao : Option Addr) (c : Nat) (xs : List Tag) (at_ : Int) (t : Tag) (hs : Sat w0 w (l)) (hr : Rds w0 l encTag ao xs) (hc : xs.length ≤ c) (hq : ∀ y ∈ xs, True) :
    Calls Try.prog 8 #[.slice ao xs.length c, .int .i64 at_, .agg (tagC t).toArray] w (Ret w0 fun v l' => v = .bool true ∧ l' = l) := by
  refine calls_enter Try.func8 rfl rfl rfl hs ?_
  refine cd_sr ?_   -- 0
  refine ol_i (wn_none rfl) (os_boxa rfl) rfl ?_; rintro _ _ ⟨bx1, rfl, rfl⟩
  refine ol_q (wn_none rfl) (op_assign (v := .bool _) rfl) rfl ?_
  refine ol_nil_then ?_
  refine cd_seq ?_
  refine cd_sr ?_   -- 1
  refine ol_i (wn_none rfl) (os_call cb_16 rfl (fun w s => mAlive_calls  s )) rfl ?_; rintro _ l ⟨rfl, rfl⟩
  refine ol_q (wn_none rfl) (op_not rfl) rfl ?_
  refine ol_nil_then ?_
  refine cd_cond_f rfl rfl ?_
  refine cd_skip ?_
  refine px_then ?_
  refine cd_seq ?_
  refine cd_sr ?_   -- 3
  refine ol_q (wn_none rfl) (op_move (v := .slice _ _ _) rfl) rfl ?_
  refine ol_q (wn_none rfl) (op_len_slice Try.underlying37 rfl) rfl ?_
  refine ol_q (wn_none rfl) (op_gt rfl rfl) rfl ?_
  refine ol_q (wn_none rfl) (op_move (v := .bool _) rfl) rfl ?_
  refine ol_split 15 rfl (fun hb1 => ?_) (fun hb1 => ?_)
  · have hp1 := hb1
    (try simp only [decide_eq_true_eq, decide_eq_false_iff_not, Bool.not_eq_true', Bool.not_eq_false', ne_eq, Decidable.not_not] at hp1)
    refine ol_skip (wn_some rfl rfl rfl hb1 rfl) rfl ?_
    refine ol_skip (wn_some rfl rfl rfl hb1 rfl) rfl ?_
    refine ol_q (wn_none rfl) (op_pick_t (v := .bool _) rfl hb1 rfl) rfl ?_
    refine ol_q (wn_none rfl) (op_move (v := .bool _) rfl) rfl ?_
    refine ol_skip (wn_some rfl rfl rfl rfl rfl) rfl ?_
    refine ol_skip (wn_some rfl rfl rfl rfl rfl) rfl ?_
    refine ol_skip (wn_some rfl rfl rfl rfl rfl) rfl ?_
    refine ol_skip (wn_some rfl rfl rfl rfl rfl) rfl ?_
    refine ol_q (wn_none rfl) (op_pick_t (v := .bool _) rfl rfl rfl) rfl ?_
    refine ol_nil_then ?_
    refine cd_cond_t rfl rfl ?_
    refine cd_sr ?_   -- 4
    refine ol_q (wn_none rfl) (op_assign (v := .bool _) rfl) rfl ?_
    refine ol_nil_then ?_
    refine cd_ret ?_
    refine px_thenR ?_
    exact px_ret1 rfl (v := .bool _) rfl (fun _ s => (s.del 0)) ⟨congrArg Value.bool (by first | rfl | exact decide_eq_true (joinM_twice t xs)), rfl⟩
  · have hp1 := hb1
    (try simp only [decide_eq_true_eq, decide_eq_false_iff_not, Bool.not_eq_true', Bool.not_eq_false', ne_eq, Decidable.not_not] at hp1)
    refine ol_q (wn_some rfl rfl rfl hb1 rfl) (op_move (v := .int _ _) rfl) rfl ?_
    refine ol_q (wn_some rfl rfl rfl hb1 rfl) (op_lt rfl rfl) rfl ?_
    refine ol_q (wn_none rfl) (op_pick_f (v := .bool _) rfl hb1 rfl) rfl ?_
    refine ol_q (wn_none rfl) (op_move (v := .bool _) rfl) rfl ?_
    refine ol_split 19 rfl (fun hb2 => ?_) (fun hb2 => ?_)
    · have hp2 := hb2
      (try simp only [decide_eq_true_eq, decide_eq_false_iff_not, Bool.not_eq_true', Bool.not_eq_false', ne_eq, Decidable.not_not] at hp2)
      refine ol_skip (wn_some rfl rfl rfl hb2 rfl) rfl ?_
      refine ol_skip (wn_some rfl rfl rfl hb2 rfl) rfl ?_
      refine ol_skip (wn_some rfl rfl rfl hb2 rfl) rfl ?_
      refine ol_skip (wn_some rfl rfl rfl hb2 rfl) rfl ?_
      refine ol_q (wn_none rfl) (op_pick_t (v := .bool _) rfl hb2 rfl) rfl ?_
      refine ol_nil_then ?_
      refine cd_cond_t rfl rfl ?_
      refine cd_sr ?_   -- 4
      refine ol_q (wn_none rfl) (op_assign (v := .bool _) rfl) rfl ?_
      refine ol_nil_then ?_
      refine cd_ret ?_
      refine px_thenR ?_
      exact px_ret1 rfl (v := .bool _) rfl (fun _ s => (s.del 0)) ⟨congrArg Value.bool (by first | rfl | exact decide_eq_true (joinM_twice t xs)), rfl⟩
    · have hp2 := hb2
      (try simp only [decide_eq_true_eq, decide_eq_false_iff_not, Bool.not_eq_true', Bool.not_eq_false', ne_eq, Decidable.not_not] at hp2)
      refine ol_q (wn_some rfl rfl rfl hb2 rfl) (op_move (v := .int _ _) rfl) rfl ?_
      refine ol_q (wn_some rfl rfl rfl hb2 rfl) (op_move (v := .slice _ _ _) rfl) rfl ?_
      refine ol_q (wn_some rfl rfl rfl hb2 rfl) (op_len_slice Try.underlying37 rfl) rfl ?_
      refine ol_q (wn_some rfl rfl rfl hb2 rfl) (op_gt rfl rfl) rfl ?_
      refine ol_q (wn_none rfl) (op_pick_f (v := .bool _) rfl hb2 rfl) rfl ?_
      refine ol_nil_then ?_
      refine cd_cond rfl (fun hb3 => ?_) (fun hb3 => ?_)
      · have hp3 := hb3
        (try simp only [decide_eq_true_eq, decide_eq_false_iff_not, Bool.not_eq_true', Bool.not_eq_false', ne_eq, Decidable.not_not] at hp3)
        refine cd_sr ?_   -- 4
        refine ol_q (wn_none rfl) (op_assign (v := .bool _) rfl) rfl ?_
        refine ol_nil_then ?_
        refine cd_ret ?_
        refine px_thenR ?_
        exact px_ret1 rfl (v := .bool _) rfl (fun _ s => (s.del 0)) ⟨congrArg Value.bool (by first | rfl | exact decide_eq_true (joinM_twice t xs)), rfl⟩
      · have hp3 := hb3
        (try simp only [decide_eq_true_eq, decide_eq_false_iff_not, Bool.not_eq_true', Bool.not_eq_false', ne_eq, Decidable.not_not] at hp3)
        have hx1 : xs.length ≤ 100 := by omega
        have hx2 : at_ ≤ xs.length := by omega
        have hx3 : 0 ≤ at_ := by omega
        refine cd_skip ?_
        refine px_then ?_
        obtain ⟨k0, rfl⟩ : ∃ k : Nat, at_ = k := ⟨at_.toNat, by omega⟩
        refine cd_sr ?_   -- 5
        refine ol_q (wn_none rfl) (op_move (v := .slice _ _ _) rfl) rfl ?_
        refine ol_i (wn_none rfl) (os_call cb_18 rfl (fun w s => RJoin_calls _ _ _  s (hr.cons _) (by first | omega | (simp; done) | (simp; omega)))) rfl ?_; rintro _ l ⟨rfl, rfl⟩
        refine ol_i (wn_none rfl) (os_alloc (cs := (tagC Tag.zero).toArray) zB_34 (by kernel_rfl)) rfl ?_; rintro _ _ ⟨bx2, rfl, rfl⟩
        refine ol_iN (wn_none rfl) (os_storew (tagC _) ag_34 rfl rfl (tagC_len _) (tagC_one _) (by simp [tagC_len]) (Free.zero _)) ?_; rintro _ _ ⟨rfl, rfl⟩
        refine ol_nil_then ?_
        refine cd_seq ?_   -- 6
        refine cd_drawe (M := []) mx [0, 4, 8] ?_
        -- 1
        refine et_quiet 1 (by kernel_rfl) rfl (by kernel_rfl) (wn_none rfl) (op_move (v := .slice _ _ _) rfl) rfl ?_
        -- 2
        refine et_quiet 2 (by kernel_rfl) rfl (by kernel_rfl) (wn_none rfl) (op_move (v := .int _ _) rfl) rfl ?_
        -- 3
        refine et_quiet 3 (by kernel_rfl) rfl (by kernel_rfl) (wn_none rfl) (op_slice_fromr (xs := xs) k0 sB_37 rfl rfl rfl rfl (show k0 ≤ xs.length by omega)) rfl ?_
        -- 5
        refine et_quiet 5 (by kernel_rfl) rfl (by kernel_rfl) (wn_none rfl) (op_move (v := .slice _ _ _) rfl) rfl ?_
        -- 6
        refine et_quiet 6 (by kernel_rfl) rfl (by kernel_rfl) (wn_none rfl) (op_move (v := .int _ _) rfl) rfl ?_
        -- 7
        refine et_quiet 7 (by kernel_rfl) rfl (by kernel_rfl) (wn_none rfl) (op_slice_tor k0 sB_37 rfl rfl rfl ((hr.cons _).cons _) rfl (show k0 ≤ xs.length by omega) (show xs.length ≤ c from hc)) rfl ?_
        refine et_1 (i := 0) (by kernel_rfl) ?_
        refine ei_i rfl rfl (wn_none rfl) (os_bslice (E := encTag) [] (ys := ([] : List Tag)) sB_37 zv_34 rfl rfl rfl rfl (by decide)) rfl ?_; rintro _ _ ⟨ao1, rfl, rfl⟩; refine ⟨[_], rfl, ?_⟩
        refine et_1 (i := 4) (by kernel_rfl) ?_
        refine ei_i rfl rfl (wn_none rfl) (os_append (E := encTag) rfl sB_37 zv_34 rfl rfl rfl (fun w s => ((((hr.cut k0 c (by omega) hc).cons _).cons _).cons _) [] w s) rfl (by simp; omega) (by unfold maxLen; simp; omega)) rfl ?_; rintro _ _ ⟨ao2, ac2, rfl, rfl⟩; refine ⟨[_], rfl, ?_⟩
        refine et_1 (i := 8) (by kernel_rfl) ?_
        refine ei_i rfl rfl (wn_none rfl) (os_append (E := encTag) rfl sB_37 zv_34 rfl rfl rfl (fun w s => ((((hr.take _).cons _).cons _).cons _) [] w s) rfl (by simp; omega) (by unfold maxLen; simp; omega)) rfl ?_; rintro _ _ ⟨ao3, ac3, rfl, rfl⟩; refine ⟨[_], rfl, ?_⟩
        -- 9
        refine et_quiet 9 (by kernel_rfl) rfl (by kernel_rfl) (wn_none rfl) (op_assign (v := .slice _ _ _) rfl) rfl ?_
        refine et_nil_then (by kernel_rfl) ?_
        refine cd_seq ?_   -- 7
        refine cd_drawe (M := []) mx [1, 3, 5, 6] ?_
        -- 0
        refine et_quiet 0 (by kernel_rfl) rfl (by kernel_rfl) (wn_none rfl) (op_lda (L := tagC _) 2 ag_34 rfl rfl (tagC_take' _) (by simp [tagC_len])) rfl ?_
        -- 2
        refine et_quiet 2 (by kernel_rfl) rfl (by kernel_rfl) (wn_none rfl) (op_move (v := .slice _ _ _) rfl) rfl ?_
        -- 4
        refine et_quiet 4 (by kernel_rfl) rfl (by kernel_rfl) (wn_none rfl) (op_lda (L := tagC _) 2 ag_34 rfl rfl (tagC_take' _) (by simp [tagC_len])) rfl ?_
        refine et_2 (i1 := 1) (i2 := 5) (by kernel_rfl) ?_ ?_
        · -- 1
          refine ei_i rfl rfl (wn_none rfl) (os_bslice (E := encTag) [_] (ys := [_]) sB_37 zv_34 rfl rfl rfl rfl (by decide)) rfl ?_; rintro _ _ ⟨ao4, rfl, rfl⟩; refine ⟨[_], rfl, ?_⟩
          refine et_2 (i1 := 3) (i2 := 5) (by kernel_rfl) ?_ ?_
          · -- 3
            refine ei_i rfl rfl (wn_none rfl) (os_append (E := encTag) rfl sB_37 zv_34 rfl rfl rfl (fun w s => ((((hr.cons _).cons _).cons _).cons _) [] w s) rfl (by simp; omega) (by unfold maxLen; simp; omega)) rfl ?_; rintro _ _ ⟨ao5, ac5, rfl, rfl⟩; refine ⟨[_], rfl, ?_⟩
            refine et_1 (i := 5) (by kernel_rfl) ?_
            refine ei_i rfl rfl (wn_none rfl) (os_bslice (E := encTag) [_] (ys := [_]) sB_37 zv_34 rfl rfl rfl rfl (by decide)) rfl ?_; rintro _ _ ⟨ao6, rfl, rfl⟩; refine ⟨[_, _], rfl, ?_⟩
            refine et_1 (i := 6) (by kernel_rfl) ?_
            refine ei_i rfl rfl (wn_none rfl) (os_pull1 (os_append (E := encTag) rfl sB_37 zv_34 rfl rfl rfl (fun w s => (rds_row 1 rfl rfl) [] w s) rfl (by simp; omega) (by unfold maxLen; simp; omega))) rfl ?_; rintro _ _ ⟨ao7, ac7, rfl, rfl⟩; refine ⟨[_, _], rfl, ?_⟩
            -- 7
            refine et_quiet 7 (by kernel_rfl) rfl (by kernel_rfl) (wn_none rfl) (op_assign (v := .slice _ _ _) rfl) rfl ?_
            refine et_nil_then (by kernel_rfl) ?_
            refine cd_seq ?_   -- 8
            refine cd_drawe (M := []) mx [1, 6, 12] ?_
            -- 0
            refine et_quiet 0 (by kernel_rfl) rfl (by kernel_rfl) (wn_none rfl) (op_move (v := .slice _ _ _) rfl) rfl ?_
            -- 2
            refine et_quiet 2 (by kernel_rfl) rfl (by kernel_rfl) (wn_none rfl) (op_lda (L := tagC _) 3 ag_34 rfl rfl (tagC_take' _) (by simp [tagC_len])) rfl ?_
            refine et_1 (i := 1) (by kernel_rfl) ?_
            refine ei_i rfl rfl (wn_none rfl) (os_call cb_19 rfl (fun w s => Join_calls _ _ _  s (((((hr.cons _).cons _).cons _).cons _).cons _) (by first | omega | (simp; done) | (simp; omega)))) rfl ?_; rintro _ l ⟨rfl, rfl⟩; refine ⟨[], rfl, ?_⟩
            -- 3
            refine et_quiet 3 (by kernel_rfl) rfl (by kernel_rfl) (wn_none rfl) (op_eqtag _ _ tB_34 rfl rfl) rfl ?_
            -- 4
            refine et_quiet 4 (by kernel_rfl) rfl (by kernel_rfl) (wn_none rfl) (op_move (v := .bool _) rfl) rfl ?_
            refine et_split 47 rfl (fun hb4 => ?_) (fun hb4 => ?_)
            · have hp4 := hb4
              (try simp only [decide_eq_true_eq, decide_eq_false_iff_not, Bool.not_eq_true', Bool.not_eq_false', ne_eq, Decidable.not_not] at hp4)
              -- 5
              refine et_quiet 5 (by kernel_rfl) rfl (by kernel_rfl) (wn_some rfl rfl rfl hb4 rfl) (op_move (v := .slice _ _ _) rfl) rfl ?_
              -- 7
              refine et_quiet 7 (by kernel_rfl) rfl (by kernel_rfl) (wn_some rfl rfl rfl hb4 rfl) (op_lda (L := tagC _) 3 ag_34 rfl rfl (tagC_take' _) (by simp [tagC_len])) rfl ?_
              refine et_1 (i := 6) (by kernel_rfl) ?_
              refine ei_i rfl rfl (wn_some rfl rfl rfl hb4 rfl) (os_call cb_19 rfl (fun w s => Join_calls _ _ _  s (rds_row 2 rfl rfl) (by first | omega | (simp; done) | (simp; omega)))) rfl ?_; rintro _ l ⟨rfl, rfl⟩; refine ⟨[], rfl, ?_⟩
              -- 8
              refine et_quiet 8 (by kernel_rfl) rfl (by kernel_rfl) (wn_some rfl rfl rfl hb4 rfl) (op_eqtag _ _ tB_34 rfl rfl) rfl ?_
              -- 9
              refine et_quiet 9 (by kernel_rfl) rfl (by kernel_rfl) (wn_none rfl) (op_pick_t (v := .bool _) rfl hb4 rfl) rfl ?_
              -- 10
              refine et_quiet 10 (by kernel_rfl) rfl (by kernel_rfl) (wn_none rfl) (op_move (v := .bool _) rfl) rfl ?_
              refine et_split 53 rfl (fun hb5 => ?_) (fun hb5 => ?_)
              · have hp5 := hb5
                (try simp only [decide_eq_true_eq, decide_eq_false_iff_not, Bool.not_eq_true', Bool.not_eq_false', ne_eq, Decidable.not_not] at hp5)
                -- 11
                refine et_quiet 11 (by kernel_rfl) rfl (by kernel_rfl) (wn_some rfl rfl rfl hb5 rfl) (op_move (v := .slice _ _ _) rfl) rfl ?_
                -- 13
                refine et_quiet 13 (by kernel_rfl) rfl (by kernel_rfl) (wn_some rfl rfl rfl hb5 rfl) (op_lda (L := tagC _) 3 ag_34 rfl rfl (tagC_take' _) (by simp [tagC_len])) rfl ?_
                refine et_1 (i := 12) (by kernel_rfl) ?_
                refine ei_i rfl rfl (wn_some rfl rfl rfl hb5 rfl) (os_call cb_19 rfl (fun w s => Join_calls _ _ _  s (rds_row 0 rfl rfl) (by first | omega | (simp; done) | (simp; omega)))) rfl ?_; rintro _ l ⟨rfl, rfl⟩; refine ⟨[], rfl, ?_⟩
                -- 14
                refine et_quiet 14 (by kernel_rfl) rfl (by kernel_rfl) (wn_some rfl rfl rfl hb5 rfl) (op_eqtag _ _ tB_34 rfl rfl) rfl ?_
                -- 15
                refine et_quiet 15 (by kernel_rfl) rfl (by kernel_rfl) (wn_none rfl) (op_pick_t (v := .bool _) rfl hb5 rfl) rfl ?_
                -- 16
                refine et_quiet 16 (by kernel_rfl) rfl (by kernel_rfl) (wn_none rfl) (op_assign (v := .bool _) rfl) rfl ?_
                refine et_nil_then (by kernel_rfl) ?_
                refine cd_ret ?_
                exact px_ret1 rfl (v := .bool _) rfl (fun _ s => (((((s.del 4).del 3).del 2).del 1).del 0)) ⟨congrArg Value.bool (by first | rfl | exact decide_eq_true (joinM_twice t xs)), rfl⟩
              · have hp5 := hb5
                (try simp only [decide_eq_true_eq, decide_eq_false_iff_not, Bool.not_eq_true', Bool.not_eq_false', ne_eq, Decidable.not_not] at hp5)
                exact absurd hb5 (by simp [joinM_turn])
            · have hp4 := hb4
              (try simp only [decide_eq_true_eq, decide_eq_false_iff_not, Bool.not_eq_true', Bool.not_eq_false', ne_eq, Decidable.not_not] at hp4)
              exact absurd hb4 (by simp)
          · -- 5
            refine ei_i rfl rfl (wn_none rfl) (os_bslice (E := encTag) [_] (ys := [_]) sB_37 zv_34 rfl rfl rfl rfl (by decide)) rfl ?_; rintro _ _ ⟨ao8, rfl, rfl⟩; refine ⟨[_, _], rfl, ?_⟩
            refine et_1 (i := 3) (by kernel_rfl) ?_
            refine ei_i rfl rfl (wn_none rfl) (os_pull1 (os_append (E := encTag) rfl sB_37 zv_34 rfl rfl rfl (fun w s => (((((hr.cons _).cons _).cons _).cons _).cons _) [] w s) rfl (by simp; omega) (by unfold maxLen; simp; omega))) rfl ?_; rintro _ _ ⟨ao9, ac9, rfl, rfl⟩; refine ⟨[_, _], rfl, ?_⟩
            refine et_1 (i := 6) (by kernel_rfl) ?_
            refine ei_i rfl rfl (wn_none rfl) (os_append (E := encTag) rfl sB_37 zv_34 rfl rfl rfl (fun w s => (rds_row 1 rfl rfl) [] w s) rfl (by simp; omega) (by unfold maxLen; simp; omega)) rfl ?_; rintro _ _ ⟨ao10, ac10, rfl, rfl⟩; refine ⟨[_, _], rfl, ?_⟩
            -- 7
            refine et_quiet 7 (by kernel_rfl) rfl (by kernel_rfl) (wn_none rfl) (op_assign (v := .slice _ _ _) rfl) rfl ?_
            refine et_nil_then (by kernel_rfl) ?_
            refine cd_seq ?_   -- 8
            refine cd_drawe (M := []) mx [1, 6, 12] ?_
            -- 0
            refine et_quiet 0 (by kernel_rfl) rfl (by kernel_rfl) (wn_none rfl) (op_move (v := .slice _ _ _) rfl) rfl ?_
            -- 2
            refine et_quiet 2 (by kernel_rfl) rfl (by kernel_rfl) (wn_none rfl) (op_lda (L := tagC _) 3 ag_34 rfl rfl (tagC_take' _) (by simp [tagC_len])) rfl ?_
            refine et_1 (i := 1) (by kernel_rfl) ?_
            refine ei_i rfl rfl (wn_none rfl) (os_call cb_19 rfl (fun w s => Join_calls _ _ _  s (((((hr.cons _).cons _).cons _).cons _).cons _) (by first | omega | (simp; done) | (simp; omega)))) rfl ?_; rintro _ l ⟨rfl, rfl⟩; refine ⟨[], rfl, ?_⟩
            -- 3
            refine et_quiet 3 (by kernel_rfl) rfl (by kernel_rfl) (wn_none rfl) (op_eqtag _ _ tB_34 rfl rfl) rfl ?_
            -- 4
            refine et_quiet 4 (by kernel_rfl) rfl (by kernel_rfl) (wn_none rfl) (op_move (v := .bool _) rfl) rfl ?_
            refine et_split 47 rfl (fun hb6 => ?_) (fun hb6 => ?_)
            · have hp6 := hb6
              (try simp only [decide_eq_true_eq, decide_eq_false_iff_not, Bool.not_eq_true', Bool.not_eq_false', ne_eq, Decidable.not_not] at hp6)
              -- 5
              refine et_quiet 5 (by kernel_rfl) rfl (by kernel_rfl) (wn_some rfl rfl rfl hb6 rfl) (op_move (v := .slice _ _ _) rfl) rfl ?_
              -- 7
              refine et_quiet 7 (by kernel_rfl) rfl (by kernel_rfl) (wn_some rfl rfl rfl hb6 rfl) (op_lda (L := tagC _) 3 ag_34 rfl rfl (tagC_take' _) (by simp [tagC_len])) rfl ?_
              refine et_1 (i := 6) (by kernel_rfl) ?_
              refine ei_i rfl rfl (wn_some rfl rfl rfl hb6 rfl) (os_call cb_19 rfl (fun w s => Join_calls _ _ _  s (rds_row 2 rfl rfl) (by first | omega | (simp; done) | (simp; omega)))) rfl ?_; rintro _ l ⟨rfl, rfl⟩; refine ⟨[], rfl, ?_⟩
              -- 8
              refine et_quiet 8 (by kernel_rfl) rfl (by kernel_rfl) (wn_some rfl rfl rfl hb6 rfl) (op_eqtag _ _ tB_34 rfl rfl) rfl ?_
              -- 9
              refine et_quiet 9 (by kernel_rfl) rfl (by kernel_rfl) (wn_none rfl) (op_pick_t (v := .bool _) rfl hb6 rfl) rfl ?_
              -- 10
              refine et_quiet 10 (by kernel_rfl) rfl (by kernel_rfl) (wn_none rfl) (op_move (v := .bool _) rfl) rfl ?_
              refine et_split 53 rfl (fun hb7 => ?_) (fun hb7 => ?_)
              · have hp7 := hb7
                (try simp only [decide_eq_true_eq, decide_eq_false_iff_not, Bool.not_eq_true', Bool.not_eq_false', ne_eq, Decidable.not_not] at hp7)
                -- 11
                refine et_quiet 11 (by kernel_rfl) rfl (by kernel_rfl) (wn_some rfl rfl rfl hb7 rfl) (op_move (v := .slice _ _ _) rfl) rfl ?_
                -- 13
                refine et_quiet 13 (by kernel_rfl) rfl (by kernel_rfl) (wn_some rfl rfl rfl hb7 rfl) (op_lda (L := tagC _) 3 ag_34 rfl rfl (tagC_take' _) (by simp [tagC_len])) rfl ?_
                refine et_1 (i := 12) (by kernel_rfl) ?_
                refine ei_i rfl rfl (wn_some rfl rfl rfl hb7 rfl) (os_call cb_19 rfl (fun w s => Join_calls _ _ _  s (rds_row 0 rfl rfl) (by first | omega | (simp; done) | (simp; omega)))) rfl ?_; rintro _ l ⟨rfl, rfl⟩; refine ⟨[], rfl, ?_⟩
                -- 14
                refine et_quiet 14 (by kernel_rfl) rfl (by kernel_rfl) (wn_some rfl rfl rfl hb7 rfl) (op_eqtag _ _ tB_34 rfl rfl) rfl ?_
                -- 15
                refine et_quiet 15 (by kernel_rfl) rfl (by kernel_rfl) (wn_none rfl) (op_pick_t (v := .bool _) rfl hb7 rfl) rfl ?_
                -- 16
                refine et_quiet 16 (by kernel_rfl) rfl (by kernel_rfl) (wn_none rfl) (op_assign (v := .bool _) rfl) rfl ?_
                refine et_nil_then (by kernel_rfl) ?_
                refine cd_ret ?_
                exact px_ret1 rfl (v := .bool _) rfl (fun _ s => (((((s.del 4).del 3).del 2).del 1).del 0)) ⟨congrArg Value.bool (by first | rfl | exact decide_eq_true (joinM_twice t xs)), rfl⟩
              · have hp7 := hb7
                (try simp only [decide_eq_true_eq, decide_eq_false_iff_not, Bool.not_eq_true', Bool.not_eq_false', ne_eq, Decidable.not_not] at hp7)
                exact absurd hb7 (by simp [joinM_turn])
            · have hp6 := hb6
              (try simp only [decide_eq_true_eq, decide_eq_false_iff_not, Bool.not_eq_true', Bool.not_eq_false', ne_eq, Decidable.not_not] at hp6)
              exact absurd hb6 (by simp)
        · -- 5
          refine ei_i rfl rfl (wn_none rfl) (os_bslice (E := encTag) [_] (ys := [_]) sB_37 zv_34 rfl rfl rfl rfl (by decide)) rfl ?_; rintro _ _ ⟨ao11, rfl, rfl⟩; refine ⟨[_], rfl, ?_⟩
          refine et_1 (i := 1) (by kernel_rfl) ?_
          refine ei_i rfl rfl (wn_none rfl) (os_bslice (E := encTag) [_] (ys := [_]) sB_37 zv_34 rfl rfl rfl rfl (by decide)) rfl ?_; rintro _ _ ⟨ao12, rfl, rfl⟩; refine ⟨[_, _], rfl, ?_⟩
          refine et_1 (i := 3) (by kernel_rfl) ?_
          refine ei_i rfl rfl (wn_none rfl) (os_append (E := encTag) rfl sB_37 zv_34 rfl rfl rfl (fun w s => (((((hr.cons _).cons _).cons _).cons _).cons _) [] w s) rfl (by simp; omega) (by unfold maxLen; simp; omega)) rfl ?_; rintro _ _ ⟨ao13, ac13, rfl, rfl⟩; refine ⟨[_, _], rfl, ?_⟩
          refine et_1 (i := 6) (by kernel_rfl) ?_
          refine ei_i rfl rfl (wn_none rfl) (os_append (E := encTag) rfl sB_37 zv_34 rfl rfl rfl (fun w s => (rds_row 1 rfl rfl) [] w s) rfl (by simp; omega) (by unfold maxLen; simp; omega)) rfl ?_; rintro _ _ ⟨ao14, ac14, rfl, rfl⟩; refine ⟨[_, _], rfl, ?_⟩
          -- 7
          refine et_quiet 7 (by kernel_rfl) rfl (by kernel_rfl) (wn_none rfl) (op_assign (v := .slice _ _ _) rfl) rfl ?_
          refine et_nil_then (by kernel_rfl) ?_
          refine cd_seq ?_   -- 8
          refine cd_drawe (M := []) mx [1, 6, 12] ?_
          -- 0
          refine et_quiet 0 (by kernel_rfl) rfl (by kernel_rfl) (wn_none rfl) (op_move (v := .slice _ _ _) rfl) rfl ?_
          -- 2
          refine et_quiet 2 (by kernel_rfl) rfl (by kernel_rfl) (wn_none rfl) (op_lda (L := tagC _) 3 ag_34 rfl rfl (tagC_take' _) (by simp [tagC_len])) rfl ?_
          refine et_1 (i := 1) (by kernel_rfl) ?_
          refine ei_i rfl rfl (wn_none rfl) (os_call cb_19 rfl (fun w s => Join_calls _ _ _  s (((((hr.cons _).cons _).cons _).cons _).cons _) (by first | omega | (simp; done) | (simp; omega)))) rfl ?_; rintro _ l ⟨rfl, rfl⟩; refine ⟨[], rfl, ?_⟩
          -- 3
          refine et_quiet 3 (by kernel_rfl) rfl (by kernel_rfl) (wn_none rfl) (op_eqtag _ _ tB_34 rfl rfl) rfl ?_
          -- 4
          refine et_quiet 4 (by kernel_rfl) rfl (by kernel_rfl) (wn_none rfl) (op_move (v := .bool _) rfl) rfl ?_
          refine et_split 47 rfl (fun hb8 => ?_) (fun hb8 => ?_)
          · have hp8 := hb8
            (try simp only [decide_eq_true_eq, decide_eq_false_iff_not, Bool.not_eq_true', Bool.not_eq_false', ne_eq, Decidable.not_not] at hp8)
            -- 5
            refine et_quiet 5 (by kernel_rfl) rfl (by kernel_rfl) (wn_some rfl rfl rfl hb8 rfl) (op_move (v := .slice _ _ _) rfl) rfl ?_
            -- 7
            refine et_quiet 7 (by kernel_rfl) rfl (by kernel_rfl) (wn_some rfl rfl rfl hb8 rfl) (op_lda (L := tagC _) 3 ag_34 rfl rfl (tagC_take' _) (by simp [tagC_len])) rfl ?_
            refine et_1 (i := 6) (by kernel_rfl) ?_
            refine ei_i rfl rfl (wn_some rfl rfl rfl hb8 rfl) (os_call cb_19 rfl (fun w s => Join_calls _ _ _  s (rds_row 2 rfl rfl) (by first | omega | (simp; done) | (simp; omega)))) rfl ?_; rintro _ l ⟨rfl, rfl⟩; refine ⟨[], rfl, ?_⟩
            -- 8
            refine et_quiet 8 (by kernel_rfl) rfl (by kernel_rfl) (wn_some rfl rfl rfl hb8 rfl) (op_eqtag _ _ tB_34 rfl rfl) rfl ?_
            -- 9
            refine et_quiet 9 (by kernel_rfl) rfl (by kernel_rfl) (wn_none rfl) (op_pick_t (v := .bool _) rfl hb8 rfl) rfl ?_
            -- 10
            refine et_quiet 10 (by kernel_rfl) rfl (by kernel_rfl) (wn_none rfl) (op_move (v := .bool _) rfl) rfl ?_
            refine et_split 53 rfl (fun hb9 => ?_) (fun hb9 => ?_)
            · have hp9 := hb9
              (try simp only [decide_eq_true_eq, decide_eq_false_iff_not, Bool.not_eq_true', Bool.not_eq_false', ne_eq, Decidable.not_not] at hp9)
              -- 11
              refine et_quiet 11 (by kernel_rfl) rfl (by kernel_rfl) (wn_some rfl rfl rfl hb9 rfl) (op_move (v := .slice _ _ _) rfl) rfl ?_
              -- 13
              refine et_quiet 13 (by kernel_rfl) rfl (by kernel_rfl) (wn_some rfl rfl rfl hb9 rfl) (op_lda (L := tagC _) 3 ag_34 rfl rfl (tagC_take' _) (by simp [tagC_len])) rfl ?_
              refine et_1 (i := 12) (by kernel_rfl) ?_
              refine ei_i rfl rfl (wn_some rfl rfl rfl hb9 rfl) (os_call cb_19 rfl (fun w s => Join_calls _ _ _  s (rds_row 0 rfl rfl) (by first | omega | (simp; done) | (simp; omega)))) rfl ?_; rintro _ l ⟨rfl, rfl⟩; refine ⟨[], rfl, ?_⟩
              -- 14
              refine et_quiet 14 (by kernel_rfl) rfl (by kernel_rfl) (wn_some rfl rfl rfl hb9 rfl) (op_eqtag _ _ tB_34 rfl rfl) rfl ?_
              -- 15
              refine et_quiet 15 (by kernel_rfl) rfl (by kernel_rfl) (wn_none rfl) (op_pick_t (v := .bool _) rfl hb9 rfl) rfl ?_
              -- 16
              refine et_quiet 16 (by kernel_rfl) rfl (by kernel_rfl) (wn_none rfl) (op_assign (v := .bool _) rfl) rfl ?_
              refine et_nil_then (by kernel_rfl) ?_
              refine cd_ret ?_
              exact px_ret1 rfl (v := .bool _) rfl (fun _ s => (((((s.del 4).del 3).del 2).del 1).del 0)) ⟨congrArg Value.bool (by first | rfl | exact decide_eq_true (joinM_twice t xs)), rfl⟩
            · have hp9 := hb9
              (try simp only [decide_eq_true_eq, decide_eq_false_iff_not, Bool.not_eq_true', Bool.not_eq_false', ne_eq, Decidable.not_not] at hp9)
              exact absurd hb9 (by simp [joinM_turn])
          · have hp8 := hb8
            (try simp only [decide_eq_true_eq, decide_eq_false_iff_not, Bool.not_eq_true', Bool.not_eq_false', ne_eq, Decidable.not_not] at hp8)
            exact absurd hb8 (by simp)

set_option maxRecDepth 100000 in
set_option maxHeartbeats 1000000 in
theorem MacPairs_calls {w0 w : World} {l : List HProp} (ao : Option Addr) (c : Nat) (xs : List Tag) (bo : Option Addr) (d : Nat) (ys : List Tag) (hs : Sat w0 w (l)) (hr : Rds w0 l encTag ao xs) (hq : ∀ y ∈ xs, True) (hr2 : Rds w0 l encTag bo ys) (hq2 : ∀ y ∈ ys, True) :
    Calls Try.prog 9 #[.slice ao xs.length c, .slice bo ys.length d] w (Ret w0 fun v l' => v = .bool true ∧ l' = l) := by
  refine calls_enter Try.func9 rfl rfl rfl hs ?_
  refine cd_sr ?_   -- 0
  refine ol_q (wn_none rfl) (op_assign (v := .bool _) rfl) rfl ?_
  refine ol_nil_then ?_
  refine cd_seq ?_
  refine cd_sr ?_   -- 1
  refine ol_i (wn_none rfl) (os_call cb_16 rfl (fun w s => mAlive_calls  s )) rfl ?_; rintro _ l ⟨rfl, rfl⟩
  refine ol_q (wn_none rfl) (op_not rfl) rfl ?_
  refine ol_nil_then ?_
  refine cd_cond_f rfl rfl ?_
  refine cd_skip ?_
  refine px_then ?_
  refine cd_seq ?_
  refine cd_sr ?_   -- 3
  refine ol_q (wn_none rfl) (op_move (v := .slice _ _ _) rfl) rfl ?_
  refine ol_q (wn_none rfl) (op_len_slice Try.underlying37 rfl) rfl ?_
  refine ol_q (wn_none rfl) (op_gt rfl rfl) rfl ?_
  refine ol_q (wn_none rfl) (op_move (v := .bool _) rfl) rfl ?_
  refine ol_split 12 rfl (fun hb1 => ?_) (fun hb1 => ?_)
  · have hp1 := hb1
    (try simp only [decide_eq_true_eq, decide_eq_false_iff_not, Bool.not_eq_true', Bool.not_eq_false', ne_eq, Decidable.not_not] at hp1)
    refine ol_skip (wn_some rfl rfl rfl hb1 rfl) rfl ?_
    refine ol_skip (wn_some rfl rfl rfl hb1 rfl) rfl ?_
    refine ol_skip (wn_some rfl rfl rfl hb1 rfl) rfl ?_
    refine ol_q (wn_none rfl) (op_pick_t (v := .bool _) rfl hb1 rfl) rfl ?_
    refine ol_nil_then ?_
    refine cd_cond_t rfl rfl ?_
    refine cd_sr ?_   -- 4
    refine ol_q (wn_none rfl) (op_assign (v := .bool _) rfl) rfl ?_
    refine ol_nil_then ?_
    refine cd_ret ?_
    refine px_thenR ?_
    exact px_ret1 rfl (v := .bool _) rfl (fun _ s => s) ⟨congrArg Value.bool (by first | rfl | (simp [joinM_one]; done)), rfl⟩
  · have hp1 := hb1
    (try simp only [decide_eq_true_eq, decide_eq_false_iff_not, Bool.not_eq_true', Bool.not_eq_false', ne_eq, Decidable.not_not] at hp1)
    refine ol_q (wn_some rfl rfl rfl hb1 rfl) (op_move (v := .slice _ _ _) rfl) rfl ?_
    refine ol_q (wn_some rfl rfl rfl hb1 rfl) (op_len_slice Try.underlying37 rfl) rfl ?_
    refine ol_q (wn_some rfl rfl rfl hb1 rfl) (op_gt rfl rfl) rfl ?_
    refine ol_q (wn_none rfl) (op_pick_f (v := .bool _) rfl hb1 rfl) rfl ?_
    refine ol_nil_then ?_
    refine cd_cond rfl (fun hb2 => ?_) (fun hb2 => ?_)
    · have hp2 := hb2
      (try simp only [decide_eq_true_eq, decide_eq_false_iff_not, Bool.not_eq_true', Bool.not_eq_false', ne_eq, Decidable.not_not] at hp2)
      refine cd_sr ?_   -- 4
      refine ol_q (wn_none rfl) (op_assign (v := .bool _) rfl) rfl ?_
      refine ol_nil_then ?_
      refine cd_ret ?_
      refine px_thenR ?_
      exact px_ret1 rfl (v := .bool _) rfl (fun _ s => s) ⟨congrArg Value.bool (by first | rfl | (simp [joinM_one]; done)), rfl⟩
    · have hp2 := hb2
      (try simp only [decide_eq_true_eq, decide_eq_false_iff_not, Bool.not_eq_true', Bool.not_eq_false', ne_eq, Decidable.not_not] at hp2)
      have hx1 : xs.length ≤ 50 := by omega
      have hx2 : ys.length ≤ 50 := by omega
      refine cd_skip ?_
      refine px_then ?_
      refine cd_sr ?_   -- 5
      refine ol_q (wn_none rfl) (op_move (v := .slice _ _ _) rfl) rfl ?_
      refine ol_i (wn_none rfl) (os_call cb_19 rfl (fun w s => Join_calls _ _ _  s hr (by first | omega | (simp; done) | (simp; omega)))) rfl ?_; rintro _ l ⟨rfl, rfl⟩
      refine ol_q (wn_none rfl) (op_move (v := .slice _ _ _) rfl) rfl ?_
      refine ol_i (wn_none rfl) (os_call cb_19 rfl (fun w s => Join_calls _ _ _  s hr2 (by first | omega | (simp; done) | (simp; omega)))) rfl ?_; rintro _ l ⟨rfl, rfl⟩
      refine ol_i (wn_none rfl) (os_alloc (cs := (tagC Tag.zero).toArray) zB_34 (by kernel_rfl)) rfl ?_; rintro _ _ ⟨bx1, rfl, rfl⟩
      refine ol_i (wn_none rfl) (os_alloc (cs := (tagC Tag.zero).toArray) zB_34 (by kernel_rfl)) rfl ?_; rintro _ _ ⟨bx2, rfl, rfl⟩
      refine ol_pull1 ?_
      refine ol_iN (wn_none rfl) (os_storew (tagC _) ag_34 rfl rfl (tagC_len _) (tagC_one _) (by simp [tagC_len]) (Free.zero _)) ?_; rintro _ _ ⟨rfl, rfl⟩
      refine ol_pull1 ?_
      refine ol_iN (wn_none rfl) (os_storew (tagC _) ag_34 rfl rfl (tagC_len _) (tagC_one _) (by simp [tagC_len]) (Free.zero _)) ?_; rintro _ _ ⟨rfl, rfl⟩
      refine ol_nil_then ?_
      refine cd_seq ?_   -- 6
      refine cd_drawe (M := []) mx [2, 3, 4, 6, 8, 9, 14, 15, 21, 22] ?_
      -- 0
      refine et_quiet 0 (by kernel_rfl) rfl (by kernel_rfl) (wn_none rfl) (op_lda (L := tagC _) 1 ag_34 rfl rfl (tagC_take' _) (by simp [tagC_len])) rfl ?_
      -- 1
      refine et_quiet 1 (by kernel_rfl) rfl (by kernel_rfl) (wn_none rfl) (op_lda (L := tagC _) 0 ag_34 rfl rfl (tagC_take' _) (by simp [tagC_len])) rfl ?_
      -- 5
      refine et_quiet 5 (by kernel_rfl) rfl (by kernel_rfl) (wn_none rfl) (op_move (v := .slice _ _ _) rfl) rfl ?_
      -- 7
      refine et_quiet 7 (by kernel_rfl) rfl (by kernel_rfl) (wn_none rfl) (op_move (v := .slice _ _ _) rfl) rfl ?_
      refine et_2 (i1 := 2) (i2 := 4) (by kernel_rfl) ?_ ?_
      · -- 2
        refine ei_i rfl rfl (wn_none rfl) (os_bslice (E := encTag) [_, _] (ys := [_, _]) sB_37 zv_34 rfl rfl rfl rfl (by decide)) rfl ?_; rintro _ _ ⟨ao1, rfl, rfl⟩; refine ⟨[_], rfl, ?_⟩
        refine et_2 (i1 := 3) (i2 := 4) (by kernel_rfl) ?_ ?_
        · -- 3
          refine ei_i rfl rfl (wn_none rfl) (os_call cb_19 rfl (fun w s => Join_calls _ _ _  s (rds_row 0 rfl rfl) (by first | omega | (simp; done) | (simp; omega)))) rfl ?_; rintro _ l ⟨rfl, rfl⟩; refine ⟨[_], rfl, ?_⟩
          refine et_1 (i := 4) (by kernel_rfl) ?_
          refine ei_i rfl rfl (wn_none rfl) (os_bslice (E := encTag) [] (ys := ([] : List Tag)) sB_37 zv_34 rfl rfl rfl rfl (by decide)) rfl ?_; rintro _ _ ⟨ao2, rfl, rfl⟩; refine ⟨[_, _], rfl, ?_⟩
          refine et_1 (i := 6) (by kernel_rfl) ?_
          refine ei_i rfl rfl (wn_none rfl) (os_append (E := encTag) rfl sB_37 zv_34 rfl rfl rfl (fun w s => ((((hr.cons _).cons _).cons _).cons _) [] w s) rfl (by simp; omega) (by unfold maxLen; simp; omega)) rfl ?_; rintro _ _ ⟨ao3, ac3, rfl, rfl⟩; refine ⟨[_, _], rfl, ?_⟩
          refine et_1 (i := 8) (by kernel_rfl) ?_
          refine ei_i rfl rfl (wn_none rfl) (os_append (E := encTag) rfl sB_37 zv_34 rfl rfl rfl (fun w s => ((((hr2.cons _).cons _).cons _).cons _) [] w s) rfl (by simp; omega) (by unfold maxLen; simp; omega)) rfl ?_; rintro _ _ ⟨ao4, ac4, rfl, rfl⟩; refine ⟨[_, _], rfl, ?_⟩
          refine et_1 (i := 9) (by kernel_rfl) ?_
          refine ei_i rfl rfl (wn_none rfl) (os_call cb_19 rfl (fun w s => Join_calls _ _ _  s (rds_row 0 rfl rfl) (by first | omega | (simp; done) | (simp; omega)))) rfl ?_; rintro _ l ⟨rfl, rfl⟩; refine ⟨[_, _], rfl, ?_⟩
          -- 10
          refine et_quiet 10 (by kernel_rfl) rfl (by kernel_rfl) (wn_none rfl) (op_eqtag _ _ tB_34 rfl rfl) rfl ?_
          -- 11
          refine et_quiet 11 (by kernel_rfl) rfl (by kernel_rfl) (wn_none rfl) (op_move (v := .bool _) rfl) rfl ?_
          refine et_split 32 rfl (fun hb3 => ?_) (fun hb3 => ?_)
          · have hp3 := hb3
            (try simp only [decide_eq_true_eq, decide_eq_false_iff_not, Bool.not_eq_true', Bool.not_eq_false', ne_eq, Decidable.not_not] at hp3)
            -- 12
            refine et_quiet 12 (by kernel_rfl) rfl (by kernel_rfl) (wn_some rfl rfl rfl hb3 rfl) (op_lda (L := tagC _) 1 ag_34 rfl rfl (tagC_take' _) (by simp [tagC_len])) rfl ?_
            -- 13
            refine et_quiet 13 (by kernel_rfl) rfl (by kernel_rfl) (wn_some rfl rfl rfl hb3 rfl) (op_lda (L := tagC _) 1 ag_34 rfl rfl (tagC_take' _) (by simp [tagC_len])) rfl ?_
            -- 16
            refine et_quiet 16 (by kernel_rfl) rfl (by kernel_rfl) (wn_some rfl rfl rfl hb3 rfl) (op_buildt rfl tB_34 zBt_34) rfl ?_
            refine et_1 (i := 14) (by kernel_rfl) ?_
            refine ei_i rfl rfl (wn_some rfl rfl rfl hb3 rfl) (os_bslice (E := encTag) [_, _] (ys := [_, _]) sB_37 zv_34 rfl rfl rfl rfl (by decide)) rfl ?_; rintro _ _ ⟨ao5, rfl, rfl⟩; refine ⟨[_, _, _], rfl, ?_⟩
            refine et_1 (i := 15) (by kernel_rfl) ?_
            refine ei_i rfl rfl (wn_some rfl rfl rfl hb3 rfl) (os_call cb_19 rfl (fun w s => Join_calls _ _ _  s (rds_row 0 rfl rfl) (by first | omega | (simp; done) | (simp; omega)))) rfl ?_; rintro _ l ⟨rfl, rfl⟩; refine ⟨[_, _, _], rfl, ?_⟩
            -- 17
            refine et_quiet 17 (by kernel_rfl) rfl (by kernel_rfl) (wn_some rfl rfl rfl hb3 rfl) (op_eqtag _ _ tB_34 rfl rfl) rfl ?_
            -- 18
            refine et_quiet 18 (by kernel_rfl) rfl (by kernel_rfl) (wn_none rfl) (op_pick_t (v := .bool _) rfl hb3 rfl) rfl ?_
            -- 19
            refine et_quiet 19 (by kernel_rfl) rfl (by kernel_rfl) (wn_none rfl) (op_move (v := .bool _) rfl) rfl ?_
            refine et_split 40 rfl (fun hb4 => ?_) (fun hb4 => ?_)
            · have hp4 := hb4
              (try simp only [decide_eq_true_eq, decide_eq_false_iff_not, Bool.not_eq_true', Bool.not_eq_false', ne_eq, Decidable.not_not] at hp4)
              -- 20
              refine et_quiet 20 (by kernel_rfl) rfl (by kernel_rfl) (wn_some rfl rfl rfl hb4 rfl) (op_lda (L := tagC _) 1 ag_34 rfl rfl (tagC_take' _) (by simp [tagC_len])) rfl ?_
              -- 23
              refine et_quiet 23 (by kernel_rfl) rfl (by kernel_rfl) (wn_some rfl rfl rfl hb4 rfl) (op_lda (L := tagC _) 1 ag_34 rfl rfl (tagC_take' _) (by simp [tagC_len])) rfl ?_
              refine et_1 (i := 21) (by kernel_rfl) ?_
              refine ei_i rfl rfl (wn_some rfl rfl rfl hb4 rfl) (os_bslice (E := encTag) [_] (ys := [_]) sB_37 zv_34 rfl rfl rfl rfl (by decide)) rfl ?_; rintro _ _ ⟨ao6, rfl, rfl⟩; refine ⟨[_, _, _, _], rfl, ?_⟩
              refine et_1 (i := 22) (by kernel_rfl) ?_
              refine ei_i rfl rfl (wn_some rfl rfl rfl hb4 rfl) (os_call cb_19 rfl (fun w s => Join_calls _ _ _  s (rds_row 0 rfl rfl) (by first | omega | (simp; done) | (simp; omega)))) rfl ?_; rintro _ l ⟨rfl, rfl⟩; refine ⟨[_, _, _, _], rfl, ?_⟩
              -- 24
              refine et_quiet 24 (by kernel_rfl) rfl (by kernel_rfl) (wn_some rfl rfl rfl hb4 rfl) (op_eqtag _ _ tB_34 rfl rfl) rfl ?_
              -- 25
              refine et_quiet 25 (by kernel_rfl) rfl (by kernel_rfl) (wn_none rfl) (op_pick_t (v := .bool _) rfl hb4 rfl) rfl ?_
              -- 26
              refine et_quiet 26 (by kernel_rfl) rfl (by kernel_rfl) (wn_none rfl) (op_assign (v := .bool _) rfl) rfl ?_
              refine et_nil_then (by kernel_rfl) ?_
              refine cd_ret ?_
              exact px_ret1 rfl (v := .bool _) rfl (fun _ s => ((((((s.del 5).del 4).del 3).del 2).del 1).del 0)) ⟨congrArg Value.bool (by first | rfl | (simp [joinM_one]; done)), rfl⟩
            · have hp4 := hb4
              (try simp only [decide_eq_true_eq, decide_eq_false_iff_not, Bool.not_eq_true', Bool.not_eq_false', ne_eq, Decidable.not_not] at hp4)
              exact absurd hb4 (by simp [joinM_two, xorT_self])
          · have hp3 := hb3
            (try simp only [decide_eq_true_eq, decide_eq_false_iff_not, Bool.not_eq_true', Bool.not_eq_false', ne_eq, Decidable.not_not] at hp3)
            exact absurd hb3 (by simp [joinM_two, joinM_append])
        · -- 4
          refine ei_i rfl rfl (wn_none rfl) (os_bslice (E := encTag) [] (ys := ([] : List Tag)) sB_37 zv_34 rfl rfl rfl rfl (by decide)) rfl ?_; rintro _ _ ⟨ao7, rfl, rfl⟩; refine ⟨[_, _], rfl, ?_⟩
          refine et_1 (i := 3) (by kernel_rfl) ?_
          refine ei_i rfl rfl (wn_none rfl) (os_call cb_19 rfl (fun w s => Join_calls _ _ _  s (rds_row 1 rfl rfl) (by first | omega | (simp; done) | (simp; omega)))) rfl ?_; rintro _ l ⟨rfl, rfl⟩; refine ⟨[_, _], rfl, ?_⟩
          refine et_1 (i := 6) (by kernel_rfl) ?_
          refine ei_i rfl rfl (wn_none rfl) (os_append (E := encTag) rfl sB_37 zv_34 rfl rfl rfl (fun w s => ((((hr.cons _).cons _).cons _).cons _) [] w s) rfl (by simp; omega) (by unfold maxLen; simp; omega)) rfl ?_; rintro _ _ ⟨ao8, ac8, rfl, rfl⟩; refine ⟨[_, _], rfl, ?_⟩
          refine et_1 (i := 8) (by kernel_rfl) ?_
          refine ei_i rfl rfl (wn_none rfl) (os_append (E := encTag) rfl sB_37 zv_34 rfl rfl rfl (fun w s => ((((hr2.cons _).cons _).cons _).cons _) [] w s) rfl (by simp; omega) (by unfold maxLen; simp; omega)) rfl ?_; rintro _ _ ⟨ao9, ac9, rfl, rfl⟩; refine ⟨[_, _], rfl, ?_⟩
          refine et_1 (i := 9) (by kernel_rfl) ?_
          refine ei_i rfl rfl (wn_none rfl) (os_call cb_19 rfl (fun w s => Join_calls _ _ _  s (rds_row 0 rfl rfl) (by first | omega | (simp; done) | (simp; omega)))) rfl ?_; rintro _ l ⟨rfl, rfl⟩; refine ⟨[_, _], rfl, ?_⟩
          -- 10
          refine et_quiet 10 (by kernel_rfl) rfl (by kernel_rfl) (wn_none rfl) (op_eqtag _ _ tB_34 rfl rfl) rfl ?_
          -- 11
          refine et_quiet 11 (by kernel_rfl) rfl (by kernel_rfl) (wn_none rfl) (op_move (v := .bool _) rfl) rfl ?_
          refine et_split 32 rfl (fun hb5 => ?_) (fun hb5 => ?_)
          · have hp5 := hb5
            (try simp only [decide_eq_true_eq, decide_eq_false_iff_not, Bool.not_eq_true', Bool.not_eq_false', ne_eq, Decidable.not_not] at hp5)
            -- 12
            refine et_quiet 12 (by kernel_rfl) rfl (by kernel_rfl) (wn_some rfl rfl rfl hb5 rfl) (op_lda (L := tagC _) 1 ag_34 rfl rfl (tagC_take' _) (by simp [tagC_len])) rfl ?_
            -- 13
            refine et_quiet 13 (by kernel_rfl) rfl (by kernel_rfl) (wn_some rfl rfl rfl hb5 rfl) (op_lda (L := tagC _) 1 ag_34 rfl rfl (tagC_take' _) (by simp [tagC_len])) rfl ?_
            -- 16
            refine et_quiet 16 (by kernel_rfl) rfl (by kernel_rfl) (wn_some rfl rfl rfl hb5 rfl) (op_buildt rfl tB_34 zBt_34) rfl ?_
            refine et_1 (i := 14) (by kernel_rfl) ?_
            refine ei_i rfl rfl (wn_some rfl rfl rfl hb5 rfl) (os_bslice (E := encTag) [_, _] (ys := [_, _]) sB_37 zv_34 rfl rfl rfl rfl (by decide)) rfl ?_; rintro _ _ ⟨ao10, rfl, rfl⟩; refine ⟨[_, _, _], rfl, ?_⟩
            refine et_1 (i := 15) (by kernel_rfl) ?_
            refine ei_i rfl rfl (wn_some rfl rfl rfl hb5 rfl) (os_call cb_19 rfl (fun w s => Join_calls _ _ _  s (rds_row 0 rfl rfl) (by first | omega | (simp; done) | (simp; omega)))) rfl ?_; rintro _ l ⟨rfl, rfl⟩; refine ⟨[_, _, _], rfl, ?_⟩
            -- 17
            refine et_quiet 17 (by kernel_rfl) rfl (by kernel_rfl) (wn_some rfl rfl rfl hb5 rfl) (op_eqtag _ _ tB_34 rfl rfl) rfl ?_
            -- 18
            refine et_quiet 18 (by kernel_rfl) rfl (by kernel_rfl) (wn_none rfl) (op_pick_t (v := .bool _) rfl hb5 rfl) rfl ?_
            -- 19
            refine et_quiet 19 (by kernel_rfl) rfl (by kernel_rfl) (wn_none rfl) (op_move (v := .bool _) rfl) rfl ?_
            refine et_split 40 rfl (fun hb6 => ?_) (fun hb6 => ?_)
            · have hp6 := hb6
              (try simp only [decide_eq_true_eq, decide_eq_false_iff_not, Bool.not_eq_true', Bool.not_eq_false', ne_eq, Decidable.not_not] at hp6)
              -- 20
              refine et_quiet 20 (by kernel_rfl) rfl (by kernel_rfl) (wn_some rfl rfl rfl hb6 rfl) (op_lda (L := tagC _) 1 ag_34 rfl rfl (tagC_take' _) (by simp [tagC_len])) rfl ?_
              -- 23
              refine et_quiet 23 (by kernel_rfl) rfl (by kernel_rfl) (wn_some rfl rfl rfl hb6 rfl) (op_lda (L := tagC _) 1 ag_34 rfl rfl (tagC_take' _) (by simp [tagC_len])) rfl ?_
              refine et_1 (i := 21) (by kernel_rfl) ?_
              refine ei_i rfl rfl (wn_some rfl rfl rfl hb6 rfl) (os_bslice (E := encTag) [_] (ys := [_]) sB_37 zv_34 rfl rfl rfl rfl (by decide)) rfl ?_; rintro _ _ ⟨ao11, rfl, rfl⟩; refine ⟨[_, _, _, _], rfl, ?_⟩
              refine et_1 (i := 22) (by kernel_rfl) ?_
              refine ei_i rfl rfl (wn_some rfl rfl rfl hb6 rfl) (os_call cb_19 rfl (fun w s => Join_calls _ _ _  s (rds_row 0 rfl rfl) (by first | omega | (simp; done) | (simp; omega)))) rfl ?_; rintro _ l ⟨rfl, rfl⟩; refine ⟨[_, _, _, _], rfl, ?_⟩
              -- 24
              refine et_quiet 24 (by kernel_rfl) rfl (by kernel_rfl) (wn_some rfl rfl rfl hb6 rfl) (op_eqtag _ _ tB_34 rfl rfl) rfl ?_
              -- 25
              refine et_quiet 25 (by kernel_rfl) rfl (by kernel_rfl) (wn_none rfl) (op_pick_t (v := .bool _) rfl hb6 rfl) rfl ?_
              -- 26
              refine et_quiet 26 (by kernel_rfl) rfl (by kernel_rfl) (wn_none rfl) (op_assign (v := .bool _) rfl) rfl ?_
              refine et_nil_then (by kernel_rfl) ?_
              refine cd_ret ?_
              exact px_ret1 rfl (v := .bool _) rfl (fun _ s => ((((((s.del 5).del 4).del 3).del 2).del 1).del 0)) ⟨congrArg Value.bool (by first | rfl | (simp [joinM_one]; done)), rfl⟩
            · have hp6 := hb6
              (try simp only [decide_eq_true_eq, decide_eq_false_iff_not, Bool.not_eq_true', Bool.not_eq_false', ne_eq, Decidable.not_not] at hp6)
              exact absurd hb6 (by simp [joinM_two, xorT_self])
          · have hp5 := hb5
            (try simp only [decide_eq_true_eq, decide_eq_false_iff_not, Bool.not_eq_true', Bool.not_eq_false', ne_eq, Decidable.not_not] at hp5)
            exact absurd hb5 (by simp [joinM_two, joinM_append])
      · -- 4
        refine ei_i rfl rfl (wn_none rfl) (os_bslice (E := encTag) [] (ys := ([] : List Tag)) sB_37 zv_34 rfl rfl rfl rfl (by decide)) rfl ?_; rintro _ _ ⟨ao12, rfl, rfl⟩; refine ⟨[_], rfl, ?_⟩
        refine et_1 (i := 2) (by kernel_rfl) ?_
        refine ei_i rfl rfl (wn_none rfl) (os_bslice (E := encTag) [_, _] (ys := [_, _]) sB_37 zv_34 rfl rfl rfl rfl (by decide)) rfl ?_; rintro _ _ ⟨ao13, rfl, rfl⟩; refine ⟨[_, _], rfl, ?_⟩
        refine et_1 (i := 3) (by kernel_rfl) ?_
        refine ei_i rfl rfl (wn_none rfl) (os_call cb_19 rfl (fun w s => Join_calls _ _ _  s (rds_row 0 rfl rfl) (by first | omega | (simp; done) | (simp; omega)))) rfl ?_; rintro _ l ⟨rfl, rfl⟩; refine ⟨[_, _], rfl, ?_⟩
        refine et_1 (i := 6) (by kernel_rfl) ?_
        refine ei_i rfl rfl (wn_none rfl) (os_pull1 (os_append (E := encTag) rfl sB_37 zv_34 rfl rfl rfl (fun w s => ((((hr.cons _).cons _).cons _).cons _) [] w s) rfl (by simp; omega) (by unfold maxLen; simp; omega))) rfl ?_; rintro _ _ ⟨ao14, ac14, rfl, rfl⟩; refine ⟨[_, _], rfl, ?_⟩
        refine et_1 (i := 8) (by kernel_rfl) ?_
        refine ei_i rfl rfl (wn_none rfl) (os_append (E := encTag) rfl sB_37 zv_34 rfl rfl rfl (fun w s => ((((hr2.cons _).cons _).cons _).cons _) [] w s) rfl (by simp; omega) (by unfold maxLen; simp; omega)) rfl ?_; rintro _ _ ⟨ao15, ac15, rfl, rfl⟩; refine ⟨[_, _], rfl, ?_⟩
        refine et_1 (i := 9) (by kernel_rfl) ?_
        refine ei_i rfl rfl (wn_none rfl) (os_call cb_19 rfl (fun w s => Join_calls _ _ _  s (rds_row 0 rfl rfl) (by first | omega | (simp; done) | (simp; omega)))) rfl ?_; rintro _ l ⟨rfl, rfl⟩; refine ⟨[_, _], rfl, ?_⟩
        -- 10
        refine et_quiet 10 (by kernel_rfl) rfl (by kernel_rfl) (wn_none rfl) (op_eqtag _ _ tB_34 rfl rfl) rfl ?_
        -- 11
        refine et_quiet 11 (by kernel_rfl) rfl (by kernel_rfl) (wn_none rfl) (op_move (v := .bool _) rfl) rfl ?_
        refine et_split 32 rfl (fun hb7 => ?_) (fun hb7 => ?_)
        · have hp7 := hb7
          (try simp only [decide_eq_true_eq, decide_eq_false_iff_not, Bool.not_eq_true', Bool.not_eq_false', ne_eq, Decidable.not_not] at hp7)
          -- 12
          refine et_quiet 12 (by kernel_rfl) rfl (by kernel_rfl) (wn_some rfl rfl rfl hb7 rfl) (op_lda (L := tagC _) 1 ag_34 rfl rfl (tagC_take' _) (by simp [tagC_len])) rfl ?_
          -- 13
          refine et_quiet 13 (by kernel_rfl) rfl (by kernel_rfl) (wn_some rfl rfl rfl hb7 rfl) (op_lda (L := tagC _) 1 ag_34 rfl rfl (tagC_take' _) (by simp [tagC_len])) rfl ?_
          -- 16
          refine et_quiet 16 (by kernel_rfl) rfl (by kernel_rfl) (wn_some rfl rfl rfl hb7 rfl) (op_buildt rfl tB_34 zBt_34) rfl ?_
          refine et_1 (i := 14) (by kernel_rfl) ?_
          refine ei_i rfl rfl (wn_some rfl rfl rfl hb7 rfl) (os_bslice (E := encTag) [_, _] (ys := [_, _]) sB_37 zv_34 rfl rfl rfl rfl (by decide)) rfl ?_; rintro _ _ ⟨ao16, rfl, rfl⟩; refine ⟨[_, _, _], rfl, ?_⟩
          refine et_1 (i := 15) (by kernel_rfl) ?_
          refine ei_i rfl rfl (wn_some rfl rfl rfl hb7 rfl) (os_call cb_19 rfl (fun w s => Join_calls _ _ _  s (rds_row 0 rfl rfl) (by first | omega | (simp; done) | (simp; omega)))) rfl ?_; rintro _ l ⟨rfl, rfl⟩; refine ⟨[_, _, _], rfl, ?_⟩
          -- 17
          refine et_quiet 17 (by kernel_rfl) rfl (by kernel_rfl) (wn_some rfl rfl rfl hb7 rfl) (op_eqtag _ _ tB_34 rfl rfl) rfl ?_
          -- 18
          refine et_quiet 18 (by kernel_rfl) rfl (by kernel_rfl) (wn_none rfl) (op_pick_t (v := .bool _) rfl hb7 rfl) rfl ?_
          -- 19
          refine et_quiet 19 (by kernel_rfl) rfl (by kernel_rfl) (wn_none rfl) (op_move (v := .bool _) rfl) rfl ?_
          refine et_split 40 rfl (fun hb8 => ?_) (fun hb8 => ?_)
          · have hp8 := hb8
            (try simp only [decide_eq_true_eq, decide_eq_false_iff_not, Bool.not_eq_true', Bool.not_eq_false', ne_eq, Decidable.not_not] at hp8)
            -- 20
            refine et_quiet 20 (by kernel_rfl) rfl (by kernel_rfl) (wn_some rfl rfl rfl hb8 rfl) (op_lda (L := tagC _) 1 ag_34 rfl rfl (tagC_take' _) (by simp [tagC_len])) rfl ?_
            -- 23
            refine et_quiet 23 (by kernel_rfl) rfl (by kernel_rfl) (wn_some rfl rfl rfl hb8 rfl) (op_lda (L := tagC _) 1 ag_34 rfl rfl (tagC_take' _) (by simp [tagC_len])) rfl ?_
            refine et_1 (i := 21) (by kernel_rfl) ?_
            refine ei_i rfl rfl (wn_some rfl rfl rfl hb8 rfl) (os_bslice (E := encTag) [_] (ys := [_]) sB_37 zv_34 rfl rfl rfl rfl (by decide)) rfl ?_; rintro _ _ ⟨ao17, rfl, rfl⟩; refine ⟨[_, _, _, _], rfl, ?_⟩
            refine et_1 (i := 22) (by kernel_rfl) ?_
            refine ei_i rfl rfl (wn_some rfl rfl rfl hb8 rfl) (os_call cb_19 rfl (fun w s => Join_calls _ _ _  s (rds_row 0 rfl rfl) (by first | omega | (simp; done) | (simp; omega)))) rfl ?_; rintro _ l ⟨rfl, rfl⟩; refine ⟨[_, _, _, _], rfl, ?_⟩
            -- 24
            refine et_quiet 24 (by kernel_rfl) rfl (by kernel_rfl) (wn_some rfl rfl rfl hb8 rfl) (op_eqtag _ _ tB_34 rfl rfl) rfl ?_
            -- 25
            refine et_quiet 25 (by kernel_rfl) rfl (by kernel_rfl) (wn_none rfl) (op_pick_t (v := .bool _) rfl hb8 rfl) rfl ?_
            -- 26
            refine et_quiet 26 (by kernel_rfl) rfl (by kernel_rfl) (wn_none rfl) (op_assign (v := .bool _) rfl) rfl ?_
            refine et_nil_then (by kernel_rfl) ?_
            refine cd_ret ?_
            exact px_ret1 rfl (v := .bool _) rfl (fun _ s => ((((((s.del 5).del 4).del 3).del 2).del 1).del 0)) ⟨congrArg Value.bool (by first | rfl | (simp [joinM_one]; done)), rfl⟩
          · have hp8 := hb8
            (try simp only [decide_eq_true_eq, decide_eq_false_iff_not, Bool.not_eq_true', Bool.not_eq_false', ne_eq, Decidable.not_not] at hp8)
            exact absurd hb8 (by simp [joinM_two, xorT_self])
        · have hp7 := hb7
          (try simp only [decide_eq_true_eq, decide_eq_false_iff_not, Bool.not_eq_true', Bool.not_eq_false', ne_eq, Decidable.not_not] at hp7)
          exact absurd hb7 (by simp [joinM_two, joinM_append])
end Go.SL

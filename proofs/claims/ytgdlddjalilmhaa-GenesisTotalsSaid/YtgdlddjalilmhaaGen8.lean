import Derived.Test.YtgdlddjalilmhaaGen6
set_option linter.unusedVariables false
set_option linter.unusedSimpArgs false
namespace Go.SL
open Go.Proofs

set_option maxRecDepth 100000 in
set_option maxHeartbeats 1000000 in
theorem GenesisTotals_calls {w0 w : World} {l : List HProp} (ao : Option Addr) (c : Nat) (xs : List Val) (n1 n2 n3 n4 n5 n6 n7 n8 n9 n10 n11 : Int) (cut : Int) (hs : Sat w0 w (l)) (hr : Rds w0 l encVal ao xs) (hc : xs.length ≤ c) (hq : ∀ y ∈ xs, I64 y.stake ∧ y.key.length ≤ maxLen) :
    Calls Try.prog 5 #[.agg (cfgC ⟨⟨ao, xs.length, c⟩, n1, n2, n3, n4, n5, n6, n7, n8, n9, n10, n11⟩).toArray, .int .i64 cut] w (Ret w0 fun v l' => v = .bool true ∧ l' = l) := by
  refine calls_enter Try.func5 rfl rfl rfl hs ?_
  refine cd_sr ?_   -- 0
  refine ol_i (wn_none rfl) (os_boxa rfl) rfl ?_; rintro _ _ ⟨bx1, rfl, rfl⟩
  refine ol_q (wn_none rfl) (op_assign (v := .bool _) rfl) rfl ?_
  refine ol_nil_then ?_
  refine cd_seq ?_
  refine cd_sr ?_   -- 1
  refine ol_i (wn_none rfl) (os_call cb_15 rfl (fun w s => gAlive_calls  s )) rfl ?_; rintro _ l ⟨rfl, rfl⟩
  refine ol_q (wn_none rfl) (op_not rfl) rfl ?_
  refine ol_nil_then ?_
  refine cd_cond_f rfl rfl ?_
  refine cd_skip ?_
  refine px_then ?_
  refine cd_seq ?_
  refine cd_sr ?_   -- 3
  refine ol_q (wn_none rfl) (op_lda (L := cfgC _) 0 ag_24 rfl rfl (cfgC_ta _) (by simp [cfgC_len])) rfl ?_
  refine ol_i (wn_none rfl) (os_call cb_16 rfl (fun w s => Great_calls _ _ _ _ _ _ _ _ _ _ _ _ _ _  s (hr.cons _))) rfl ?_; rintro _ l ⟨rfl, rfl⟩
  refine ol_q (wn_none rfl) (op_move (v := .bool _) rfl) rfl ?_
  refine ol_split 17 rfl (fun hb1 => ?_) (fun hb1 => ?_)
  · have hp1 := hb1
    (try simp only [decide_eq_true_eq, decide_eq_false_iff_not, Bool.not_eq_true', Bool.not_eq_false', ne_eq, Decidable.not_not] at hp1)
    refine ol_skip (wn_some rfl rfl rfl hb1 rfl) rfl ?_
    refine ol_skip (wn_some rfl rfl rfl hb1 rfl) rfl ?_
    refine ol_q (wn_none rfl) (op_pick_t (v := .bool _) rfl hb1 rfl) rfl ?_
    refine ol_q (wn_none rfl) (op_move (v := .bool _) rfl) rfl ?_
    refine ol_skip (wn_some rfl rfl rfl rfl rfl) rfl ?_
    refine ol_skip (wn_some rfl rfl rfl rfl rfl) rfl ?_
    refine ol_skip (wn_some rfl rfl rfl rfl rfl) rfl ?_
    refine ol_skip (wn_some rfl rfl rfl rfl rfl) rfl ?_
    refine ol_skip (wn_some rfl rfl rfl rfl rfl) rfl ?_
    refine ol_q (wn_none rfl) (op_pick_t (v := .bool _) rfl rfl rfl) rfl ?_
    refine ol_nil_then ?_
    refine cd_cond_t rfl rfl ?_
    refine cd_sr ?_   -- 4
    refine ol_q (wn_none rfl) (op_assign (v := .bool _) rfl) rfl ?_
    refine ol_nil_then ?_
    refine cd_ret ?_
    refine px_thenR ?_
    exact px_ret1 rfl (v := .bool _) rfl (fun _ s => (s.del 0)) ⟨congrArg Value.bool (by first | rfl | (simp; done) | (simp; omega) | (apply decide_eq_true; omega)), rfl⟩
  · have hp1 := hb1
    (try simp only [decide_eq_true_eq, decide_eq_false_iff_not, Bool.not_eq_true', Bool.not_eq_false', ne_eq, Decidable.not_not] at hp1)
    have hgr : greatC xs = false := by simpa using hb1
    have hxl : xs.length ≤ 100 := by unfold greatC at hgr; rw [Bool.or_eq_false_iff] at hgr; have := of_decide_eq_false hgr.1; omega
    refine ol_q (wn_some rfl rfl rfl hb1 rfl) (op_move (v := .int _ _) rfl) rfl ?_
    refine ol_q (wn_some rfl rfl rfl hb1 rfl) (op_lt rfl rfl) rfl ?_
    refine ol_q (wn_none rfl) (op_pick_f (v := .bool _) rfl hb1 rfl) rfl ?_
    refine ol_q (wn_none rfl) (op_move (v := .bool _) rfl) rfl ?_
    refine ol_split 21 rfl (fun hb2 => ?_) (fun hb2 => ?_)
    · have hp2 := hb2
      (try simp only [decide_eq_true_eq, decide_eq_false_iff_not, Bool.not_eq_true', Bool.not_eq_false', ne_eq, Decidable.not_not] at hp2)
      refine ol_skip (wn_some rfl rfl rfl hb2 rfl) rfl ?_
      refine ol_skip (wn_some rfl rfl rfl hb2 rfl) rfl ?_
      refine ol_skip (wn_some rfl rfl rfl hb2 rfl) rfl ?_
      refine ol_skip (wn_some rfl rfl rfl hb2 rfl) rfl ?_
      refine ol_skip (wn_some rfl rfl rfl hb2 rfl) rfl ?_
      refine ol_q (wn_none rfl) (op_pick_t (v := .bool _) rfl hb2 rfl) rfl ?_
      refine ol_nil_then ?_
      refine cd_cond_t rfl rfl ?_
      refine cd_sr ?_   -- 4
      refine ol_q (wn_none rfl) (op_assign (v := .bool _) rfl) rfl ?_
      refine ol_nil_then ?_
      refine cd_ret ?_
      refine px_thenR ?_
      exact px_ret1 rfl (v := .bool _) rfl (fun _ s => (s.del 0)) ⟨congrArg Value.bool (by first | rfl | (simp; done) | (simp; omega) | (apply decide_eq_true; omega)), rfl⟩
    · have hp2 := hb2
      (try simp only [decide_eq_true_eq, decide_eq_false_iff_not, Bool.not_eq_true', Bool.not_eq_false', ne_eq, Decidable.not_not] at hp2)
      refine ol_q (wn_some rfl rfl rfl hb2 rfl) (op_move (v := .int _ _) rfl) rfl ?_
      refine ol_q (wn_some rfl rfl rfl hb2 rfl) (op_field fld_24_0 rfl) rfl ?_
      refine ol_q (wn_some rfl rfl rfl hb2 rfl) (op_ld 0 sc_22 rfl rfl (cfgC_a0 _)) rfl ?_
      refine ol_q (wn_some rfl rfl rfl hb2 rfl) (op_len_slice Try.underlying22 rfl) rfl ?_
      refine ol_q (wn_some rfl rfl rfl hb2 rfl) (op_gt rfl rfl) rfl ?_
      refine ol_q (wn_none rfl) (op_pick_f (v := .bool _) rfl hb2 rfl) rfl ?_
      refine ol_nil_then ?_
      refine cd_cond rfl (fun hb3 => ?_) (fun hb3 => ?_)
      · have hp3 := hb3
        (try simp only [decide_eq_true_eq, decide_eq_false_iff_not, Bool.not_eq_true', Bool.not_eq_false', ne_eq, Decidable.not_not] at hp3)
        refine cd_sr ?_   -- 4
        refine ol_q (wn_none rfl) (op_assign (v := .bool _) rfl) rfl ?_
        refine ol_nil_then ?_
        refine cd_ret ?_
        refine px_thenR ?_
        exact px_ret1 rfl (v := .bool _) rfl (fun _ s => (s.del 0)) ⟨congrArg Value.bool (by first | rfl | (simp; done) | (simp; omega) | (apply decide_eq_true; omega)), rfl⟩
      · have hp3 := hb3
        (try simp only [decide_eq_true_eq, decide_eq_false_iff_not, Bool.not_eq_true', Bool.not_eq_false', ne_eq, Decidable.not_not] at hp3)
        have hk00 : cut ≤ xs.length := Int.not_lt.1 hp3
        refine cd_skip ?_
        refine px_then ?_
        obtain ⟨k0, rfl⟩ : ∃ k : Nat, cut = k := ⟨cut.toNat, by omega⟩
        have hsw := totF_swap (xs.take k0) (xs.drop k0)
        rw [List.take_append_drop] at hsw
        have hpt := totF_parts (xs.take k0) (xs.drop k0)
        rw [List.take_append_drop] at hpt
        refine cd_sr ?_   -- 5
        refine ol_q (wn_none rfl) (op_field fld_24_0 rfl) rfl ?_
        refine ol_q (wn_none rfl) (op_ld 0 sc_22 rfl rfl (cfgC_a0 _)) rfl ?_
        refine ol_i (wn_none rfl) (os_call cb_17 rfl (fun w s => Total_calls _ _ _  s (hr.cons _) (by first | omega | (simp; done) | (simp; omega)))) rfl ?_; rintro _ l ⟨rfl, rfl⟩
        refine ol_q (wn_none rfl) (op_move (v := .tuple _) rfl) rfl ?_
        refine ol_q (wn_none rfl) (op_extract (v := .int _ _) rfl rfl) rfl ?_
        refine ol_q (wn_none rfl) (op_extract (v := .bool _) rfl rfl) rfl ?_
        refine ol_q (wn_none rfl) (op_assign (v := .int _ _) rfl) rfl ?_
        refine ol_q (wn_none rfl) (op_assign (v := .bool _) rfl) rfl ?_
        refine ol_nil_then ?_
        refine cd_sr ?_   -- 6
        refine ol_q (wn_none rfl) (op_field fld_24_0 rfl) rfl ?_
        refine ol_q (wn_none rfl) (op_ld 0 sc_22 rfl rfl (cfgC_a0 _)) rfl ?_
        refine ol_q (wn_none rfl) (op_move (v := .int _ _) rfl) rfl ?_
        refine ol_q (wn_none rfl) (op_slice_tor k0 sB_22 rfl rfl rfl (hr.cons _) rfl (show k0 ≤ xs.length by omega) (show xs.length ≤ c from hc)) rfl ?_
        refine ol_i (wn_none rfl) (os_call cb_17 rfl (fun w s => Total_calls _ _ _  s ((hr.take _).cons _) (by first | omega | (simp; done) | (simp; omega)))) rfl ?_; rintro _ l ⟨rfl, rfl⟩
        refine ol_q (wn_none rfl) (op_move (v := .tuple _) rfl) rfl ?_
        refine ol_q (wn_none rfl) (op_extract (v := .int _ _) rfl rfl) rfl ?_
        refine ol_q (wn_none rfl) (op_extract (v := .bool _) rfl rfl) rfl ?_
        refine ol_q (wn_none rfl) (op_assign (v := .int _ _) rfl) rfl ?_
        refine ol_q (wn_none rfl) (op_assign (v := .bool _) rfl) rfl ?_
        refine ol_nil_then ?_
        refine cd_sr ?_   -- 7
        refine ol_q (wn_none rfl) (op_field fld_24_0 rfl) rfl ?_
        refine ol_q (wn_none rfl) (op_ld 0 sc_22 rfl rfl (cfgC_a0 _)) rfl ?_
        refine ol_q (wn_none rfl) (op_move (v := .int _ _) rfl) rfl ?_
        refine ol_q (wn_none rfl) (op_slice_fromr (xs := xs) k0 sB_22 rfl rfl rfl rfl (show k0 ≤ xs.length by omega)) rfl ?_
        refine ol_i (wn_none rfl) (os_call cb_17 rfl (fun w s => Total_calls _ _ _  s ((hr.cut k0 c (by omega) hc).cons _) (by first | omega | (simp; done) | (simp; omega)))) rfl ?_; rintro _ l ⟨rfl, rfl⟩
        refine ol_q (wn_none rfl) (op_move (v := .tuple _) rfl) rfl ?_
        refine ol_q (wn_none rfl) (op_extract (v := .int _ _) rfl rfl) rfl ?_
        refine ol_q (wn_none rfl) (op_extract (v := .bool _) rfl rfl) rfl ?_
        refine ol_q (wn_none rfl) (op_assign (v := .int _ _) rfl) rfl ?_
        refine ol_q (wn_none rfl) (op_assign (v := .bool _) rfl) rfl ?_
        refine ol_nil_then ?_
        refine cd_seq ?_   -- 8
        refine cd_drawe (M := []) mx [0, 5, 10, 11] ?_
        -- 1
        refine et_quiet 1 (by kernel_rfl) rfl (by kernel_rfl) (wn_none rfl) (op_field fld_24_0 rfl) rfl ?_
        -- 2
        refine et_quiet 2 (by kernel_rfl) rfl (by kernel_rfl) (wn_none rfl) (op_ld 0 sc_22 rfl rfl (cfgC_a0 _)) rfl ?_
        -- 3
        refine et_quiet 3 (by kernel_rfl) rfl (by kernel_rfl) (wn_none rfl) (op_move (v := .int _ _) rfl) rfl ?_
        -- 4
        refine et_quiet 4 (by kernel_rfl) rfl (by kernel_rfl) (wn_none rfl) (op_slice_fromr (xs := xs) k0 sB_22 rfl rfl rfl rfl (show k0 ≤ xs.length by omega)) rfl ?_
        -- 6
        refine et_quiet 6 (by kernel_rfl) rfl (by kernel_rfl) (wn_none rfl) (op_field fld_24_0 rfl) rfl ?_
        -- 7
        refine et_quiet 7 (by kernel_rfl) rfl (by kernel_rfl) (wn_none rfl) (op_ld 0 sc_22 rfl rfl (cfgC_a0 _)) rfl ?_
        -- 8
        refine et_quiet 8 (by kernel_rfl) rfl (by kernel_rfl) (wn_none rfl) (op_move (v := .int _ _) rfl) rfl ?_
        -- 9
        refine et_quiet 9 (by kernel_rfl) rfl (by kernel_rfl) (wn_none rfl) (op_slice_tor k0 sB_22 rfl rfl rfl (hr.cons _) rfl (show k0 ≤ xs.length by omega) (show xs.length ≤ c from hc)) rfl ?_
        refine et_1 (i := 0) (by kernel_rfl) ?_
        refine ei_i rfl rfl (wn_none rfl) (os_bslice (E := encVal) [] (ys := []) sB_22 zv_60 rfl rfl rfl rfl (by decide)) rfl ?_; rintro _ _ ⟨ao1, rfl, rfl⟩; refine ⟨[_], rfl, ?_⟩
        refine et_1 (i := 5) (by kernel_rfl) ?_
        refine ei_i rfl rfl (wn_none rfl) (os_append (E := encVal) rfl sB_22 zv_60 rfl rfl rfl (fun w s => (((hr.cut k0 c (by omega) hc).cons _).cons _) [] w s) rfl (by simp; omega) (by unfold maxLen; simp; omega)) rfl ?_; rintro _ _ ⟨ao2, ac2, rfl, rfl⟩; refine ⟨[_], rfl, ?_⟩
        refine et_1 (i := 10) (by kernel_rfl) ?_
        refine ei_i rfl rfl (wn_none rfl) (os_append (E := encVal) rfl sB_22 zv_60 rfl rfl rfl (fun w s => (((hr.take _).cons _).cons _) [] w s) rfl (by simp; omega) (by unfold maxLen; simp; omega)) rfl ?_; rintro _ _ ⟨ao3, ac3, rfl, rfl⟩; refine ⟨[_], rfl, ?_⟩
        refine et_1 (i := 11) (by kernel_rfl) ?_
        refine ei_i rfl rfl (wn_none rfl) (os_call cb_17 rfl (fun w s => Total_calls _ _ _  s (rds_row 0 rfl rfl) (by first | omega | (simp; done) | (simp; omega)))) rfl ?_; rintro _ _ ⟨rfl, rfl⟩; rw [List.nil_append, hsw]; refine ⟨[_], rfl, ?_⟩
        -- 12
        refine et_quiet 12 (by kernel_rfl) rfl (by kernel_rfl) (wn_none rfl) (op_move (v := .tuple _) rfl) rfl ?_
        -- 13
        refine et_quiet 13 (by kernel_rfl) rfl (by kernel_rfl) (wn_none rfl) (op_extract (v := .int _ _) rfl rfl) rfl ?_
        -- 14
        refine et_quiet 14 (by kernel_rfl) rfl (by kernel_rfl) (wn_none rfl) (op_extract (v := .bool _) rfl rfl) rfl ?_
        -- 15
        refine et_quiet 15 (by kernel_rfl) rfl (by kernel_rfl) (wn_none rfl) (op_assign (v := .int _ _) rfl) rfl ?_
        -- 16
        refine et_quiet 16 (by kernel_rfl) rfl (by kernel_rfl) (wn_none rfl) (op_assign (v := .bool _) rfl) rfl ?_
        refine et_nil_then (by kernel_rfl) ?_
        refine cd_seq ?_
        refine cd_sr ?_   -- 9
        refine ol_q (wn_none rfl) (op_move (v := .int _ _) rfl) rfl ?_
        refine ol_q (wn_none rfl) (op_move (v := .int _ _) rfl) rfl ?_
        refine ol_q (wn_none rfl) (op_ne rfl rfl) rfl ?_
        refine ol_q (wn_none rfl) (op_move (v := .bool _) rfl) rfl ?_
        refine ol_split 68 rfl (fun hb4 => ?_) (fun hb4 => ?_)
        · have hp4 := hb4
          (try simp only [decide_eq_true_eq, decide_eq_false_iff_not, Bool.not_eq_true', Bool.not_eq_false', ne_eq, Decidable.not_not] at hp4)
          exact absurd hb4 (by simp)
        · have hp4 := hb4
          (try simp only [decide_eq_true_eq, decide_eq_false_iff_not, Bool.not_eq_true', Bool.not_eq_false', ne_eq, Decidable.not_not] at hp4)
          refine ol_q (wn_some rfl rfl rfl hb4 rfl) (op_move (v := .bool _) rfl) rfl ?_
          refine ol_q (wn_some rfl rfl rfl hb4 rfl) (op_move (v := .bool _) rfl) rfl ?_
          refine ol_q (wn_some rfl rfl rfl hb4 rfl) (op_bneq Try.underlying4 rfl rfl) rfl ?_
          refine ol_q (wn_none rfl) (op_pick_f (v := .bool _) rfl hb4 rfl) rfl ?_
          refine ol_nil_then ?_
          refine cd_cond rfl (fun hb5 => ?_) (fun hb5 => ?_)
          · have hp5 := hb5
            (try simp only [decide_eq_true_eq, decide_eq_false_iff_not, Bool.not_eq_true', Bool.not_eq_false', ne_eq, Decidable.not_not] at hp5)
            exact absurd hb5 (by simp)
          · have hp5 := hb5
            (try simp only [decide_eq_true_eq, decide_eq_false_iff_not, Bool.not_eq_true', Bool.not_eq_false', ne_eq, Decidable.not_not] at hp5)
            refine cd_skip ?_
            refine px_then ?_
            rcases hpt with ⟨sa, sb, h1, h2, (⟨h3, h4⟩ | ⟨h3, h4⟩), h5, h6, h7, h8⟩ | ⟨(h1 | h1), h3⟩
            ·
              have hua : u64N sa = sa.toNat := u64N_nat (by omega) (by omega)
              have hub : u64N sb = sb.toNat := u64N_nat (by omega) (by omega)
              simp only [h1, h3, Option.getD_some, Option.isSome_some, Option.getD_none, Option.isSome_none, h2]
              refine cd_sr ?_   -- 11
              refine ol_q (wn_none rfl) (op_move (v := .bool _) rfl) rfl ?_
              refine ol_q (wn_none rfl) (op_move (v := .bool _) rfl) rfl ?_
              refine ol_split 74 rfl (fun hb6 => ?_) (fun hb6 => ?_)
              · have hp6 := hb6
                (try simp only [decide_eq_true_eq, decide_eq_false_iff_not, Bool.not_eq_true', Bool.not_eq_false', ne_eq, Decidable.not_not] at hp6)
                refine ol_q (wn_some rfl rfl rfl hb6 rfl) (op_move (v := .bool _) rfl) rfl ?_
                refine ol_q (wn_none rfl) (op_pick_t (v := .bool _) rfl hb6 rfl) rfl ?_
                refine ol_q (wn_none rfl) (op_move (v := .bool _) rfl) rfl ?_
                refine ol_split 77 rfl (fun hb7 => ?_) (fun hb7 => ?_)
                · have hp7 := hb7
                  (try simp only [decide_eq_true_eq, decide_eq_false_iff_not, Bool.not_eq_true', Bool.not_eq_false', ne_eq, Decidable.not_not] at hp7)
                  refine ol_q (wn_some rfl rfl rfl hb7 rfl) (op_move (v := .bool _) rfl) rfl ?_
                  refine ol_q (wn_none rfl) (op_pick_t (v := .bool _) rfl hb7 rfl) rfl ?_
                  refine ol_q (wn_none rfl) (op_move (v := .bool _) rfl) rfl ?_
                  refine ol_split 80 rfl (fun hb8 => ?_) (fun hb8 => ?_)
                  · have hp8 := hb8
                    (try simp only [decide_eq_true_eq, decide_eq_false_iff_not, Bool.not_eq_true', Bool.not_eq_false', ne_eq, Decidable.not_not] at hp8)
                    refine ol_q (wn_some rfl rfl rfl hb8 rfl) (op_move (v := .int _ _) rfl) rfl ?_
                    refine ol_q (wn_some rfl rfl rfl hb8 rfl) (op_move (v := .int _ _) rfl) rfl ?_
                    refine ol_q (wn_some rfl rfl rfl hb8 rfl) (op_add rfl rfl (by omega) (by omega)) rfl ?_
                    refine ol_q (wn_some rfl rfl rfl hb8 rfl) (op_move (v := .int _ _) rfl) rfl ?_
                    refine ol_q (wn_some rfl rfl rfl hb8 rfl) (op_eq rfl rfl) rfl ?_
                    refine ol_q (wn_none rfl) (op_pick_t (v := .bool _) rfl hb8 rfl) rfl ?_
                    refine ol_q (wn_none rfl) (op_move (v := .bool _) rfl) rfl ?_
                    refine ol_split 87 rfl (fun hb9 => ?_) (fun hb9 => ?_)
                    · have hp9 := hb9
                      (try simp only [decide_eq_true_eq, decide_eq_false_iff_not, Bool.not_eq_true', Bool.not_eq_false', ne_eq, Decidable.not_not] at hp9)
                      refine ol_skip (wn_some rfl rfl rfl hb9 rfl) rfl ?_
                      refine ol_skip (wn_some rfl rfl rfl hb9 rfl) rfl ?_
                      refine ol_skip (wn_some rfl rfl rfl hb9 rfl) rfl ?_
                      refine ol_skip (wn_undef rfl rfl rfl rfl) rfl ?_
                      refine ol_skip (wn_undef rfl rfl rfl rfl) rfl ?_
                      refine ol_skip (wn_undef rfl rfl rfl rfl) rfl ?_
                      refine ol_skip (wn_undef rfl rfl rfl rfl) rfl ?_
                      refine ol_skip (wn_undef rfl rfl rfl rfl) rfl ?_
                      refine ol_skip (wn_undef rfl rfl rfl rfl) rfl ?_
                      refine ol_skip (wn_undef rfl rfl rfl rfl) rfl ?_
                      refine ol_skip (wn_undef rfl rfl rfl rfl) rfl ?_
                      refine ol_skip (wn_undef rfl rfl rfl rfl) rfl ?_
                      refine ol_skip (wn_undef rfl rfl rfl rfl) rfl ?_
                      refine ol_skip (wn_undef rfl rfl rfl rfl) rfl ?_
                      refine ol_skip (wn_undef rfl rfl rfl rfl) rfl ?_
                      refine ol_skip (wn_undef rfl rfl rfl rfl) rfl ?_
                      refine ol_skip (wn_undef rfl rfl rfl rfl) rfl ?_
                      refine ol_skip (wn_some rfl rfl rfl hb9 rfl) rfl ?_
                      refine ol_q (wn_none rfl) (op_pick_t (v := .bool _) rfl hb9 rfl) rfl ?_
                      refine ol_q (wn_none rfl) (op_assign (v := .bool _) rfl) rfl ?_
                      refine ol_nil_then ?_
                      refine cd_ret ?_
                      exact px_ret1 rfl (v := .bool _) rfl (fun _ s => ((s.del 1).del 0)) ⟨congrArg Value.bool (by first | rfl | (simp; done) | (simp; omega) | (apply decide_eq_true; omega)), rfl⟩
                    · have hp9 := hb9
                      (try simp only [decide_eq_true_eq, decide_eq_false_iff_not, Bool.not_eq_true', Bool.not_eq_false', ne_eq, Decidable.not_not] at hp9)
                      exact absurd hb9 (by simp)
                  · have hp8 := hb8
                    (try simp only [decide_eq_true_eq, decide_eq_false_iff_not, Bool.not_eq_true', Bool.not_eq_false', ne_eq, Decidable.not_not] at hp8)
                    exact absurd hb8 (by simp)
                · have hp7 := hb7
                  (try simp only [decide_eq_true_eq, decide_eq_false_iff_not, Bool.not_eq_true', Bool.not_eq_false', ne_eq, Decidable.not_not] at hp7)
                  exact absurd hb7 (by simp)
              · have hp6 := hb6
                (try simp only [decide_eq_true_eq, decide_eq_false_iff_not, Bool.not_eq_true', Bool.not_eq_false', ne_eq, Decidable.not_not] at hp6)
                exact absurd hb6 (by simp)
            ·
              have hua : u64N sa = sa.toNat := u64N_nat (by omega) (by omega)
              have hub : u64N sb = sb.toNat := u64N_nat (by omega) (by omega)
              simp only [h1, h3, Option.getD_some, Option.isSome_some, Option.getD_none, Option.isSome_none, h2]
              refine cd_sr ?_   -- 11
              refine ol_q (wn_none rfl) (op_move (v := .bool _) rfl) rfl ?_
              refine ol_q (wn_none rfl) (op_move (v := .bool _) rfl) rfl ?_
              refine ol_split 74 rfl (fun hb10 => ?_) (fun hb10 => ?_)
              · have hp10 := hb10
                (try simp only [decide_eq_true_eq, decide_eq_false_iff_not, Bool.not_eq_true', Bool.not_eq_false', ne_eq, Decidable.not_not] at hp10)
                exact absurd hb10 (by simp)
              · have hp10 := hb10
                (try simp only [decide_eq_true_eq, decide_eq_false_iff_not, Bool.not_eq_true', Bool.not_eq_false', ne_eq, Decidable.not_not] at hp10)
                refine ol_skip (wn_some rfl rfl rfl hb10 rfl) rfl ?_
                refine ol_q (wn_none rfl) (op_pick_f (v := .bool _) rfl hb10 rfl) rfl ?_
                refine ol_q (wn_none rfl) (op_move (v := .bool _) rfl) rfl ?_
                refine ol_skip (wn_some rfl rfl rfl rfl rfl) rfl ?_
                refine ol_q (wn_none rfl) (op_pick_f (v := .bool _) rfl rfl rfl) rfl ?_
                refine ol_q (wn_none rfl) (op_move (v := .bool _) rfl) rfl ?_
                refine ol_skip (wn_some rfl rfl rfl rfl rfl) rfl ?_
                refine ol_skip (wn_some rfl rfl rfl rfl rfl) rfl ?_
                refine ol_skip (wn_some rfl rfl rfl rfl rfl) rfl ?_
                refine ol_skip (wn_some rfl rfl rfl rfl rfl) rfl ?_
                refine ol_skip (wn_some rfl rfl rfl rfl rfl) rfl ?_
                refine ol_q (wn_none rfl) (op_pick_f (v := .bool _) rfl rfl rfl) rfl ?_
                refine ol_q (wn_none rfl) (op_move (v := .bool _) rfl) rfl ?_
                refine ol_q (wn_some rfl rfl rfl rfl rfl) (op_move (v := .bool _) rfl) rfl ?_
                refine ol_q (wn_some rfl rfl rfl rfl rfl) (op_not rfl) rfl ?_
                refine ol_q (wn_some rfl rfl rfl rfl rfl) (op_move (v := .bool _) rfl) rfl ?_
                refine ol_split 90 rfl (fun hb11 => ?_) (fun hb11 => ?_)
                · have hp11 := hb11
                  (try simp only [decide_eq_true_eq, decide_eq_false_iff_not, Bool.not_eq_true', Bool.not_eq_false', ne_eq, Decidable.not_not] at hp11)
                  refine ol_q (wn_some rfl rfl rfl hb11 rfl) (op_move (v := .bool _) rfl) rfl ?_
                  refine ol_q (wn_some rfl rfl rfl hb11 rfl) (op_not rfl) rfl ?_
                  refine ol_q (wn_some rfl rfl rfl hb11 rfl) (op_move (v := .bool _) rfl) rfl ?_
                  refine ol_split 93 rfl (fun hb12 => ?_) (fun hb12 => ?_)
                  · have hp12 := hb12
                    (try simp only [decide_eq_true_eq, decide_eq_false_iff_not, Bool.not_eq_true', Bool.not_eq_false', ne_eq, Decidable.not_not] at hp12)
                    exact absurd hb12 (by simp)
                  · have hp12 := hb12
                    (try simp only [decide_eq_true_eq, decide_eq_false_iff_not, Bool.not_eq_true', Bool.not_eq_false', ne_eq, Decidable.not_not] at hp12)
                    refine ol_q (wn_some rfl rfl rfl hb12 rfl) (op_move (v := .bool _) rfl) rfl ?_
                    refine ol_q (wn_some rfl rfl rfl hb12 rfl) (op_not rfl) rfl ?_
                    refine ol_q (wn_some rfl rfl rfl hb11 rfl) (op_pick_f (v := .bool _) rfl hb12 rfl) rfl ?_
                    refine ol_q (wn_some rfl rfl rfl hb11 rfl) (op_move (v := .bool _) rfl) rfl ?_
                    refine ol_split 97 rfl (fun hb13 => ?_) (fun hb13 => ?_)
                    · have hp13 := hb13
                      (try simp only [decide_eq_true_eq, decide_eq_false_iff_not, Bool.not_eq_true', Bool.not_eq_false', ne_eq, Decidable.not_not] at hp13)
                      exact absurd hb13 (by simp)
                    · have hp13 := hb13
                      (try simp only [decide_eq_true_eq, decide_eq_false_iff_not, Bool.not_eq_true', Bool.not_eq_false', ne_eq, Decidable.not_not] at hp13)
                      refine ol_q (wn_some rfl rfl rfl hb13 rfl) (op_move (v := .int _ _) rfl) rfl ?_
                      refine ol_q (wn_some rfl rfl rfl hb13 rfl) (op_conv64i Try.underlying32 (by rw [Try.underlying3]; rfl) rfl) rfl ?_
                      refine ol_q (wn_some rfl rfl rfl hb13 rfl) (op_move (v := .int _ _) rfl) rfl ?_
                      refine ol_q (wn_some rfl rfl rfl hb13 rfl) (op_conv64i Try.underlying32 (by rw [Try.underlying3]; rfl) rfl) rfl ?_
                      refine ol_q (wn_some rfl rfl rfl hb13 rfl) (op_addn rfl rfl (by omega)) rfl ?_
                      refine ol_q (wn_some rfl rfl rfl hb13 rfl) (op_ge rfl rfl) rfl ?_
                      refine ol_q (wn_some rfl rfl rfl hb11 rfl) (op_pick_f (v := .bool _) rfl hb13 rfl) rfl ?_
                      refine ol_q (wn_some rfl rfl rfl rfl rfl) (op_pick_t (v := .bool _) rfl hb11 rfl) rfl ?_
                      refine ol_q (wn_none rfl) (op_pick_f (v := .bool _) rfl rfl rfl) rfl ?_
                      refine ol_q (wn_none rfl) (op_assign (v := .bool _) rfl) rfl ?_
                      refine ol_nil_then ?_
                      refine cd_ret ?_
                      exact px_ret1 rfl (v := .bool _) rfl (fun _ s => ((s.del 1).del 0)) ⟨congrArg Value.bool (by first | rfl | (simp; done) | (simp; omega) | (apply decide_eq_true; omega)), rfl⟩
                · have hp11 := hb11
                  (try simp only [decide_eq_true_eq, decide_eq_false_iff_not, Bool.not_eq_true', Bool.not_eq_false', ne_eq, Decidable.not_not] at hp11)
                  exact absurd hb11 (by simp)
            ·
              simp only [h1, h3, Option.getD_some, Option.isSome_some, Option.getD_none, Option.isSome_none]
              refine cd_sr ?_   -- 11
              refine ol_q (wn_none rfl) (op_move (v := .bool _) rfl) rfl ?_
              refine ol_q (wn_none rfl) (op_move (v := .bool _) rfl) rfl ?_
              refine ol_split 74 rfl (fun hb14 => ?_) (fun hb14 => ?_)
              · have hp14 := hb14
                (try simp only [decide_eq_true_eq, decide_eq_false_iff_not, Bool.not_eq_true', Bool.not_eq_false', ne_eq, Decidable.not_not] at hp14)
                exact absurd hb14 (by simp)
              · have hp14 := hb14
                (try simp only [decide_eq_true_eq, decide_eq_false_iff_not, Bool.not_eq_true', Bool.not_eq_false', ne_eq, Decidable.not_not] at hp14)
                refine ol_skip (wn_some rfl rfl rfl hb14 rfl) rfl ?_
                refine ol_q (wn_none rfl) (op_pick_f (v := .bool _) rfl hb14 rfl) rfl ?_
                refine ol_q (wn_none rfl) (op_move (v := .bool _) rfl) rfl ?_
                refine ol_skip (wn_some rfl rfl rfl rfl rfl) rfl ?_
                refine ol_q (wn_none rfl) (op_pick_f (v := .bool _) rfl rfl rfl) rfl ?_
                refine ol_q (wn_none rfl) (op_move (v := .bool _) rfl) rfl ?_
                refine ol_skip (wn_some rfl rfl rfl rfl rfl) rfl ?_
                refine ol_skip (wn_some rfl rfl rfl rfl rfl) rfl ?_
                refine ol_skip (wn_some rfl rfl rfl rfl rfl) rfl ?_
                refine ol_skip (wn_some rfl rfl rfl rfl rfl) rfl ?_
                refine ol_skip (wn_some rfl rfl rfl rfl rfl) rfl ?_
                refine ol_q (wn_none rfl) (op_pick_f (v := .bool _) rfl rfl rfl) rfl ?_
                refine ol_q (wn_none rfl) (op_move (v := .bool _) rfl) rfl ?_
                refine ol_q (wn_some rfl rfl rfl rfl rfl) (op_move (v := .bool _) rfl) rfl ?_
                refine ol_q (wn_some rfl rfl rfl rfl rfl) (op_not rfl) rfl ?_
                refine ol_q (wn_some rfl rfl rfl rfl rfl) (op_move (v := .bool _) rfl) rfl ?_
                refine ol_split 90 rfl (fun hb15 => ?_) (fun hb15 => ?_)
                · have hp15 := hb15
                  (try simp only [decide_eq_true_eq, decide_eq_false_iff_not, Bool.not_eq_true', Bool.not_eq_false', ne_eq, Decidable.not_not] at hp15)
                  refine ol_q (wn_some rfl rfl rfl hb15 rfl) (op_move (v := .bool _) rfl) rfl ?_
                  refine ol_q (wn_some rfl rfl rfl hb15 rfl) (op_not rfl) rfl ?_
                  refine ol_q (wn_some rfl rfl rfl hb15 rfl) (op_move (v := .bool _) rfl) rfl ?_
                  refine ol_split 93 rfl (fun hb16 => ?_) (fun hb16 => ?_)
                  · have hp16 := hb16
                    (try simp only [decide_eq_true_eq, decide_eq_false_iff_not, Bool.not_eq_true', Bool.not_eq_false', ne_eq, Decidable.not_not] at hp16)
                    refine ol_skip (wn_some rfl rfl rfl hb16 rfl) rfl ?_
                    refine ol_skip (wn_some rfl rfl rfl hb16 rfl) rfl ?_
                    refine ol_q (wn_some rfl rfl rfl hb15 rfl) (op_pick_t (v := .bool _) rfl hb16 rfl) rfl ?_
                    refine ol_q (wn_some rfl rfl rfl hb15 rfl) (op_move (v := .bool _) rfl) rfl ?_
                    refine ol_skip (wn_some rfl rfl rfl rfl rfl) rfl ?_
                    refine ol_skip (wn_some rfl rfl rfl rfl rfl) rfl ?_
                    refine ol_skip (wn_some rfl rfl rfl rfl rfl) rfl ?_
                    refine ol_skip (wn_some rfl rfl rfl rfl rfl) rfl ?_
                    refine ol_skip (wn_some rfl rfl rfl rfl rfl) rfl ?_
                    refine ol_skip (wn_some rfl rfl rfl rfl rfl) rfl ?_
                    refine ol_q (wn_some rfl rfl rfl hb15 rfl) (op_pick_t (v := .bool _) rfl rfl rfl) rfl ?_
                    refine ol_q (wn_some rfl rfl rfl rfl rfl) (op_pick_t (v := .bool _) rfl hb15 rfl) rfl ?_
                    refine ol_q (wn_none rfl) (op_pick_f (v := .bool _) rfl rfl rfl) rfl ?_
                    refine ol_q (wn_none rfl) (op_assign (v := .bool _) rfl) rfl ?_
                    refine ol_nil_then ?_
                    refine cd_ret ?_
                    exact px_ret1 rfl (v := .bool _) rfl (fun _ s => ((s.del 1).del 0)) ⟨congrArg Value.bool (by first | rfl | (simp; done) | (simp; omega) | (apply decide_eq_true; omega)), rfl⟩
                  · have hp16 := hb16
                    (try simp only [decide_eq_true_eq, decide_eq_false_iff_not, Bool.not_eq_true', Bool.not_eq_false', ne_eq, Decidable.not_not] at hp16)
                    exact absurd hb16 (by simp)
                · have hp15 := hb15
                  (try simp only [decide_eq_true_eq, decide_eq_false_iff_not, Bool.not_eq_true', Bool.not_eq_false', ne_eq, Decidable.not_not] at hp15)
                  exact absurd hb15 (by simp)
            ·
              simp only [h1, h3, Option.getD_some, Option.isSome_some, Option.getD_none, Option.isSome_none]
              refine cd_sr ?_   -- 11
              refine ol_q (wn_none rfl) (op_move (v := .bool _) rfl) rfl ?_
              refine ol_q (wn_none rfl) (op_move (v := .bool _) rfl) rfl ?_
              refine ol_split 74 rfl (fun hb17 => ?_) (fun hb17 => ?_)
              · have hp17 := hb17
                (try simp only [decide_eq_true_eq, decide_eq_false_iff_not, Bool.not_eq_true', Bool.not_eq_false', ne_eq, Decidable.not_not] at hp17)
                exact absurd hb17 (by simp)
              · have hp17 := hb17
                (try simp only [decide_eq_true_eq, decide_eq_false_iff_not, Bool.not_eq_true', Bool.not_eq_false', ne_eq, Decidable.not_not] at hp17)
                refine ol_skip (wn_some rfl rfl rfl hb17 rfl) rfl ?_
                refine ol_q (wn_none rfl) (op_pick_f (v := .bool _) rfl hb17 rfl) rfl ?_
                refine ol_q (wn_none rfl) (op_move (v := .bool _) rfl) rfl ?_
                refine ol_skip (wn_some rfl rfl rfl rfl rfl) rfl ?_
                refine ol_q (wn_none rfl) (op_pick_f (v := .bool _) rfl rfl rfl) rfl ?_
                refine ol_q (wn_none rfl) (op_move (v := .bool _) rfl) rfl ?_
                refine ol_skip (wn_some rfl rfl rfl rfl rfl) rfl ?_
                refine ol_skip (wn_some rfl rfl rfl rfl rfl) rfl ?_
                refine ol_skip (wn_some rfl rfl rfl rfl rfl) rfl ?_
                refine ol_skip (wn_some rfl rfl rfl rfl rfl) rfl ?_
                refine ol_skip (wn_some rfl rfl rfl rfl rfl) rfl ?_
                refine ol_q (wn_none rfl) (op_pick_f (v := .bool _) rfl rfl rfl) rfl ?_
                refine ol_q (wn_none rfl) (op_move (v := .bool _) rfl) rfl ?_
                refine ol_q (wn_some rfl rfl rfl rfl rfl) (op_move (v := .bool _) rfl) rfl ?_
                refine ol_q (wn_some rfl rfl rfl rfl rfl) (op_not rfl) rfl ?_
                refine ol_q (wn_some rfl rfl rfl rfl rfl) (op_move (v := .bool _) rfl) rfl ?_
                refine ol_split 90 rfl (fun hb18 => ?_) (fun hb18 => ?_)
                · have hp18 := hb18
                  (try simp only [decide_eq_true_eq, decide_eq_false_iff_not, Bool.not_eq_true', Bool.not_eq_false', ne_eq, Decidable.not_not] at hp18)
                  refine ol_q (wn_some rfl rfl rfl hb18 rfl) (op_move (v := .bool _) rfl) rfl ?_
                  refine ol_q (wn_some rfl rfl rfl hb18 rfl) (op_not rfl) rfl ?_
                  refine ol_q (wn_some rfl rfl rfl hb18 rfl) (op_move (v := .bool _) rfl) rfl ?_
                  refine ol_split 93 rfl (fun hb19 => ?_) (fun hb19 => ?_)
                  · have hp19 := hb19
                    (try simp only [decide_eq_true_eq, decide_eq_false_iff_not, Bool.not_eq_true', Bool.not_eq_false', ne_eq, Decidable.not_not] at hp19)
                    refine ol_skip (wn_some rfl rfl rfl hb19 rfl) rfl ?_
                    refine ol_skip (wn_some rfl rfl rfl hb19 rfl) rfl ?_
                    refine ol_q (wn_some rfl rfl rfl hb18 rfl) (op_pick_t (v := .bool _) rfl hb19 rfl) rfl ?_
                    refine ol_q (wn_some rfl rfl rfl hb18 rfl) (op_move (v := .bool _) rfl) rfl ?_
                    refine ol_skip (wn_some rfl rfl rfl rfl rfl) rfl ?_
                    refine ol_skip (wn_some rfl rfl rfl rfl rfl) rfl ?_
                    refine ol_skip (wn_some rfl rfl rfl rfl rfl) rfl ?_
                    refine ol_skip (wn_some rfl rfl rfl rfl rfl) rfl ?_
                    refine ol_skip (wn_some rfl rfl rfl rfl rfl) rfl ?_
                    refine ol_skip (wn_some rfl rfl rfl rfl rfl) rfl ?_
                    refine ol_q (wn_some rfl rfl rfl hb18 rfl) (op_pick_t (v := .bool _) rfl rfl rfl) rfl ?_
                    refine ol_q (wn_some rfl rfl rfl rfl rfl) (op_pick_t (v := .bool _) rfl hb18 rfl) rfl ?_
                    refine ol_q (wn_none rfl) (op_pick_f (v := .bool _) rfl rfl rfl) rfl ?_
                    refine ol_q (wn_none rfl) (op_assign (v := .bool _) rfl) rfl ?_
                    refine ol_nil_then ?_
                    refine cd_ret ?_
                    exact px_ret1 rfl (v := .bool _) rfl (fun _ s => ((s.del 1).del 0)) ⟨congrArg Value.bool (by first | rfl | (simp; done) | (simp; omega) | (apply decide_eq_true; omega)), rfl⟩
                  · have hp19 := hb19
                    (try simp only [decide_eq_true_eq, decide_eq_false_iff_not, Bool.not_eq_true', Bool.not_eq_false', ne_eq, Decidable.not_not] at hp19)
                    refine ol_q (wn_some rfl rfl rfl hb19 rfl) (op_move (v := .bool _) rfl) rfl ?_
                    refine ol_q (wn_some rfl rfl rfl hb19 rfl) (op_not rfl) rfl ?_
                    refine ol_q (wn_some rfl rfl rfl hb18 rfl) (op_pick_f (v := .bool _) rfl hb19 rfl) rfl ?_
                    refine ol_q (wn_some rfl rfl rfl hb18 rfl) (op_move (v := .bool _) rfl) rfl ?_
                    refine ol_split 97 rfl (fun hb20 => ?_) (fun hb20 => ?_)
                    · have hp20 := hb20
                      (try simp only [decide_eq_true_eq, decide_eq_false_iff_not, Bool.not_eq_true', Bool.not_eq_false', ne_eq, Decidable.not_not] at hp20)
                      refine ol_skip (wn_some rfl rfl rfl hb20 rfl) rfl ?_
                      refine ol_skip (wn_some rfl rfl rfl hb20 rfl) rfl ?_
                      refine ol_skip (wn_some rfl rfl rfl hb20 rfl) rfl ?_
                      refine ol_skip (wn_some rfl rfl rfl hb20 rfl) rfl ?_
                      refine ol_skip (wn_some rfl rfl rfl hb20 rfl) rfl ?_
                      refine ol_skip (wn_some rfl rfl rfl hb20 rfl) rfl ?_
                      refine ol_q (wn_some rfl rfl rfl hb18 rfl) (op_pick_t (v := .bool _) rfl hb20 rfl) rfl ?_
                      refine ol_q (wn_some rfl rfl rfl rfl rfl) (op_pick_t (v := .bool _) rfl hb18 rfl) rfl ?_
                      refine ol_q (wn_none rfl) (op_pick_f (v := .bool _) rfl rfl rfl) rfl ?_
                      refine ol_q (wn_none rfl) (op_assign (v := .bool _) rfl) rfl ?_
                      refine ol_nil_then ?_
                      refine cd_ret ?_
                      exact px_ret1 rfl (v := .bool _) rfl (fun _ s => ((s.del 1).del 0)) ⟨congrArg Value.bool (by first | rfl | (simp; done) | (simp; omega) | (apply decide_eq_true; omega)), rfl⟩
                    · have hp20 := hb20
                      (try simp only [decide_eq_true_eq, decide_eq_false_iff_not, Bool.not_eq_true', Bool.not_eq_false', ne_eq, Decidable.not_not] at hp20)
                      exact absurd hb20 (by simp)
                · have hp18 := hb18
                  (try simp only [decide_eq_true_eq, decide_eq_false_iff_not, Bool.not_eq_true', Bool.not_eq_false', ne_eq, Decidable.not_not] at hp18)
                  exact absurd hb18 (by simp)
end Go.SL

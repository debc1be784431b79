import Derived.Test.YtbgnabofcceajaaTreeL4
set_option linter.unusedVariables false
set_option linter.unusedSimpArgs false
namespace Go.SL
open Go.Proofs

set_option maxRecDepth 100000 in
set_option maxHeartbeats 1000000 in
theorem TreeGrows_calls {w0 w : World} {l : List HProp} (first : Root) (slot most : Int) (ao : Option Addr) (c : Nat) (xs : List TAdd) (odd : Root) (hs : Sat w0 w (l)) (hr : Rds w0 l encTAdd ao xs) (hq : ∀ a ∈ xs, I64 a.root ∧ I64 a.parent ∧ I64 a.slot) :
    Calls Try.prog 7 #[.agg (rootC first).toArray, .int .i64 slot, .int .i64 most, .slice ao xs.length c, .agg (rootC odd).toArray] w (Ret w0 fun v l' => v = .bool true ∧ l' = l) := by
  refine calls_enter Try.func7 rfl rfl rfl hs ?_
  refine cd_sr ?_   -- 0
  refine ol_i (wn_none rfl) (os_boxa rfl) rfl ?_; rintro _ _ ⟨bx1, rfl, rfl⟩
  refine ol_i (wn_none rfl) (os_boxa rfl) rfl ?_; rintro _ _ ⟨bx2, rfl, rfl⟩
  refine ol_q (wn_none rfl) (op_assign (v := .bool _) rfl) rfl ?_
  refine ol_nil_then ?_
  refine cd_seq ?_
  refine cd_sr ?_   -- 1
  refine ol_i (wn_none rfl) (os_call cb_15 rfl (fun w s => treeAlive_calls  s )) rfl ?_; rintro _ l ⟨rfl, rfl⟩
  refine ol_q (wn_none rfl) (op_not rfl) rfl ?_
  refine ol_nil_then ?_
  refine cd_cond_f rfl rfl ?_
  refine cd_skip ?_
  refine px_then ?_
  refine cd_seq ?_
  refine cd_sr ?_   -- 3
  refine ol_q (wn_none rfl) (op_move (v := .slice _ _ _) rfl) rfl ?_
  refine ol_q (wn_none rfl) (op_len_slice Try.underlying22 rfl) rfl ?_
  refine ol_q (wn_none rfl) (op_gt rfl rfl) rfl ?_
  refine ol_nil_then ?_
  refine cd_cond rfl (fun hb1 => ?_) (fun hb1 => ?_)
  · have hp1 := hb1
    (try simp only [decide_eq_true_eq, decide_eq_false_iff_not, Bool.not_eq_true', Bool.not_eq_false', ne_eq, Decidable.not_not] at hp1)
    refine cd_sr ?_   -- 4
    refine ol_q (wn_none rfl) (op_assign (v := .bool _) rfl) rfl ?_
    refine ol_nil_then ?_
    refine cd_ret ?_
    refine px_thenR ?_
    exact px_ret1 rfl (v := .bool _) rfl (fun _ s => ((s.del 1).del 0)) ⟨congrArg Value.bool (by first | rfl | simp), rfl⟩
  · have hp1 := hb1
    (try simp only [decide_eq_true_eq, decide_eq_false_iff_not, Bool.not_eq_true', Bool.not_eq_false', ne_eq, Decidable.not_not] at hp1)
    refine cd_skip ?_
    refine px_then ?_
    refine cd_sr ?_   -- 5
    refine ol_q (wn_none rfl) (op_assign (v := .pointer _) rfl) rfl ?_
    refine ol_nil_then ?_
    refine cd_seq ?_
    refine cd_sr ?_   -- 6
    refine ol_q (wn_none rfl) (op_move (v := .pointer _) rfl) rfl ?_
    refine ol_q (wn_none rfl) (op_lda (L := rootC _) 0 ag_30 rfl rfl (rootC_take' _) (by simp [rootC_len])) rfl ?_
    refine ol_q (wn_none rfl) (op_lda (L := rootC _) 0 ag_30 rfl rfl (rootC_take' _) (by simp [rootC_len])) rfl ?_
    refine ol_i (wn_none rfl) (os_call cb_22 rfl (fun w s => Add_nil (slot := 1) _ _  s )) rfl ?_; rintro _ l ⟨rfl, rfl⟩
    refine ol_q (wn_none rfl) (op_ne rfl rfl) rfl ?_
    refine ol_q (wn_none rfl) (op_move (v := .bool _) rfl) rfl ?_
    refine ol_split 30 rfl (fun hb2 => ?_) (fun hb2 => ?_)
    · have hp2 := hb2
      (try simp only [decide_eq_true_eq, decide_eq_false_iff_not, Bool.not_eq_true', Bool.not_eq_false', ne_eq, Decidable.not_not] at hp2)
      exact absurd hb2 (by simp)
    · have hp2 := hb2
      (try simp only [decide_eq_true_eq, decide_eq_false_iff_not, Bool.not_eq_true', Bool.not_eq_false', ne_eq, Decidable.not_not] at hp2)
      refine ol_q (wn_some rfl rfl rfl hb2 rfl) (op_move (v := .pointer _) rfl) rfl ?_
      refine ol_q (wn_some rfl rfl rfl hb2 rfl) (op_lda (L := rootC _) 0 ag_30 rfl rfl (rootC_take' _) (by simp [rootC_len])) rfl ?_
      refine ol_i (wn_some rfl rfl rfl hb2 rfl) (os_call cb_28 rfl (fun w s => Place_nil _  s )) rfl ?_; rintro _ l ⟨rfl, rfl⟩
      refine ol_q (wn_some rfl rfl rfl hb2 rfl) (op_ne rfl rfl) rfl ?_
      refine ol_q (wn_none rfl) (op_pick_f (v := .bool _) rfl hb2 rfl) rfl ?_
      refine ol_q (wn_none rfl) (op_move (v := .bool _) rfl) rfl ?_
      refine ol_split 36 rfl (fun hb3 => ?_) (fun hb3 => ?_)
      · have hp3 := hb3
        (try simp only [decide_eq_true_eq, decide_eq_false_iff_not, Bool.not_eq_true', Bool.not_eq_false', ne_eq, Decidable.not_not] at hp3)
        exact absurd hb3 (by simp)
      · have hp3 := hb3
        (try simp only [decide_eq_true_eq, decide_eq_false_iff_not, Bool.not_eq_true', Bool.not_eq_false', ne_eq, Decidable.not_not] at hp3)
        refine ol_q (wn_some rfl rfl rfl hb3 rfl) (op_move (v := .pointer _) rfl) rfl ?_
        refine ol_i (wn_some rfl rfl rfl hb3 rfl) (os_call cb_17 rfl (fun w s => Len_nil  s )) rfl ?_; rintro _ l ⟨rfl, rfl⟩
        refine ol_q (wn_some rfl rfl rfl hb3 rfl) (op_ne rfl rfl) rfl ?_
        refine ol_q (wn_none rfl) (op_pick_f (v := .bool _) rfl hb3 rfl) rfl ?_
        refine ol_q (wn_none rfl) (op_move (v := .bool _) rfl) rfl ?_
        refine ol_split 41 rfl (fun hb4 => ?_) (fun hb4 => ?_)
        · have hp4 := hb4
          (try simp only [decide_eq_true_eq, decide_eq_false_iff_not, Bool.not_eq_true', Bool.not_eq_false', ne_eq, Decidable.not_not] at hp4)
          exact absurd hb4 (by simp)
        · have hp4 := hb4
          (try simp only [decide_eq_true_eq, decide_eq_false_iff_not, Bool.not_eq_true', Bool.not_eq_false', ne_eq, Decidable.not_not] at hp4)
          refine ol_q (wn_some rfl rfl rfl hb4 rfl) (op_move (v := .pointer _) rfl) rfl ?_
          refine ol_i (wn_some rfl rfl rfl hb4 rfl) (os_call cb_23 rfl (fun w s => Room_nil  s )) rfl ?_; rintro _ l ⟨rfl, rfl⟩
          refine ol_q (wn_some rfl rfl rfl hb4 rfl) (op_ne rfl rfl) rfl ?_
          refine ol_q (wn_none rfl) (op_pick_f (v := .bool _) rfl hb4 rfl) rfl ?_
          refine ol_q (wn_none rfl) (op_move (v := .bool _) rfl) rfl ?_
          refine ol_split 46 rfl (fun hb5 => ?_) (fun hb5 => ?_)
          · have hp5 := hb5
            (try simp only [decide_eq_true_eq, decide_eq_false_iff_not, Bool.not_eq_true', Bool.not_eq_false', ne_eq, Decidable.not_not] at hp5)
            exact absurd hb5 (by simp)
          · have hp5 := hb5
            (try simp only [decide_eq_true_eq, decide_eq_false_iff_not, Bool.not_eq_true', Bool.not_eq_false', ne_eq, Decidable.not_not] at hp5)
            refine ol_q (wn_some rfl rfl rfl hb5 rfl) (op_move (v := .pointer _) rfl) rfl ?_
            refine ol_q (wn_some rfl rfl rfl hb5 rfl) (op_lda (L := rootC _) 0 ag_30 rfl rfl (rootC_take' _) (by simp [rootC_len])) rfl ?_
            refine ol_q (wn_some rfl rfl rfl hb5 rfl) (op_lda (L := rootC _) 0 ag_30 rfl rfl (rootC_take' _) (by simp [rootC_len])) rfl ?_
            refine ol_i (wn_some rfl rfl rfl hb5 rfl) (os_call cb_19 rfl (fun w s => Below_nil _ _  s )) rfl ?_; rintro _ l ⟨rfl, rfl⟩
            refine ol_q (wn_none rfl) (op_pick_f (v := .bool _) rfl hb5 rfl) rfl ?_
            refine ol_q (wn_none rfl) (op_move (v := .bool _) rfl) rfl ?_
            refine ol_split 52 rfl (fun hb6 => ?_) (fun hb6 => ?_)
            · have hp6 := hb6
              (try simp only [decide_eq_true_eq, decide_eq_false_iff_not, Bool.not_eq_true', Bool.not_eq_false', ne_eq, Decidable.not_not] at hp6)
              exact absurd hb6 (by simp)
            · have hp6 := hb6
              (try simp only [decide_eq_true_eq, decide_eq_false_iff_not, Bool.not_eq_true', Bool.not_eq_false', ne_eq, Decidable.not_not] at hp6)
              refine ol_q (wn_some rfl rfl rfl hb6 rfl) (op_move (v := .pointer _) rfl) rfl ?_
              refine ol_q (wn_some rfl rfl rfl hb6 rfl) (op_lda (L := rootC _) 0 ag_30 rfl rfl (rootC_take' _) (by simp [rootC_len])) rfl ?_
              refine ol_i (wn_some rfl rfl rfl hb6 rfl) (os_call cb_26 rfl (fun w s => Kids_nil _  s )) rfl ?_; rintro _ l ⟨rfl, rfl⟩
              refine ol_q (wn_some rfl rfl rfl hb6 rfl) (op_len_slice Try.underlying45 rfl) rfl ?_
              refine ol_q (wn_some rfl rfl rfl hb6 rfl) (op_ne rfl rfl) rfl ?_
              refine ol_q (wn_none rfl) (op_pick_f (v := .bool _) rfl hb6 rfl) rfl ?_
              refine ol_q (wn_none rfl) (op_move (v := .bool _) rfl) rfl ?_
              refine ol_split 59 rfl (fun hb7 => ?_) (fun hb7 => ?_)
              · have hp7 := hb7
                (try simp only [decide_eq_true_eq, decide_eq_false_iff_not, Bool.not_eq_true', Bool.not_eq_false', ne_eq, Decidable.not_not] at hp7)
                exact absurd hb7 (by simp)
              · have hp7 := hb7
                (try simp only [decide_eq_true_eq, decide_eq_false_iff_not, Bool.not_eq_true', Bool.not_eq_false', ne_eq, Decidable.not_not] at hp7)
                refine ol_q (wn_some rfl rfl rfl hb7 rfl) (op_move (v := .pointer _) rfl) rfl ?_
                refine ol_i (wn_some rfl rfl rfl hb7 rfl) (os_call cb_29 rfl (fun w s => Roots_nil  s )) rfl ?_; rintro _ l ⟨rfl, rfl⟩
                refine ol_q (wn_some rfl rfl rfl hb7 rfl) (op_len_slice Try.underlying45 rfl) rfl ?_
                refine ol_q (wn_some rfl rfl rfl hb7 rfl) (op_ne rfl rfl) rfl ?_
                refine ol_q (wn_none rfl) (op_pick_f (v := .bool _) rfl hb7 rfl) rfl ?_
                refine ol_nil_then ?_
                refine cd_cond rfl (fun hb8 => ?_) (fun hb8 => ?_)
                · have hp8 := hb8
                  (try simp only [decide_eq_true_eq, decide_eq_false_iff_not, Bool.not_eq_true', Bool.not_eq_false', ne_eq, Decidable.not_not] at hp8)
                  exact absurd hb8 (by simp)
                · have hp8 := hb8
                  (try simp only [decide_eq_true_eq, decide_eq_false_iff_not, Bool.not_eq_true', Bool.not_eq_false', ne_eq, Decidable.not_not] at hp8)
                  refine cd_skip ?_
                  refine px_then ?_
                  refine cd_sr ?_   -- 8
                  refine ol_q (wn_none rfl) (op_lda (L := rootC _) 1 ag_30 rfl rfl (rootC_take' _) (by simp [rootC_len])) rfl ?_
                  refine ol_q (wn_none rfl) (op_move (v := .int _ _) rfl) rfl ?_
                  refine ol_q (wn_none rfl) (op_move (v := .int _ _) rfl) rfl ?_
                  refine ol_i (wn_none rfl) (os_call cb_21 rfl (fun w s => TNew_calls _ _ _ s)) rfl ?_; rintro _ l2 (⟨rfl, hl2, hbad1⟩ | ⟨p1, rfl, hok1, rfl⟩)
                  · rw [hl2]
                    refine ol_q (wn_none rfl) (op_move (v := .tuple _) rfl) rfl ?_
                    refine ol_q (wn_none rfl) (op_extract (v := .pointer _) rfl rfl) rfl ?_
                    refine ol_q (wn_none rfl) (op_extract (v := .int _ _) rfl rfl) rfl ?_
                    refine ol_q (wn_none rfl) (op_assign (v := .pointer _) rfl) rfl ?_
                    refine ol_q (wn_none rfl) (op_assign (v := .int _ _) rfl) rfl ?_
                    refine ol_nil_then ?_
                    refine cd_sr ?_   -- 9
                    refine ol_q (wn_none rfl) (op_lda (L := rootC _) 1 ag_30 rfl rfl (rootC_take' _) (by simp [rootC_len])) rfl ?_
                    refine ol_q (wn_none rfl) (op_move (v := .int _ _) rfl) rfl ?_
                    refine ol_q (wn_none rfl) (op_move (v := .int _ _) rfl) rfl ?_
                    refine ol_i (wn_none rfl) (os_call cb_30 rfl (fun w s => RTNew_calls _ _ _ s)) rfl ?_; rintro _ l2 (⟨rfl, hl2, hbad2⟩ | ⟨p2, rfl, hok2, rfl⟩)
                    · rw [hl2]
                      refine ol_q (wn_none rfl) (op_move (v := .tuple _) rfl) rfl ?_
                      refine ol_q (wn_none rfl) (op_extract (v := .pointer _) rfl rfl) rfl ?_
                      refine ol_q (wn_none rfl) (op_extract (v := .bool _) rfl rfl) rfl ?_
                      refine ol_q (wn_none rfl) (op_assign (v := .pointer _) rfl) rfl ?_
                      refine ol_q (wn_none rfl) (op_assign (v := .bool _) rfl) rfl ?_
                      refine ol_nil_then ?_
                      refine cd_seq ?_
                      refine cd_sr ?_   -- 10
                      refine ol_q (wn_none rfl) (op_move (v := .bool _) rfl) rfl ?_
                      refine ol_q (wn_none rfl) (op_not rfl) rfl ?_
                      refine ol_nil_then ?_
                      refine cd_cond_t rfl rfl ?_
                      refine cd_sr ?_   -- 11
                      refine ol_q (wn_none rfl) (op_move (v := .pointer _) rfl) rfl ?_
                      refine ol_q (wn_none rfl) (op_eqnil Try.underlying24 rfl rfl) rfl ?_
                      refine ol_q (wn_none rfl) (op_move (v := .bool _) rfl) rfl ?_
                      refine ol_q (wn_some rfl rfl rfl rfl rfl) (op_move (v := .int _ _) rfl) rfl ?_
                      refine ol_q (wn_some rfl rfl rfl rfl rfl) (op_eq rfl rfl) rfl ?_
                      refine ol_q (wn_none rfl) (op_pick_t (v := .bool _) rfl rfl rfl) rfl ?_
                      refine ol_q (wn_none rfl) (op_assign (v := .bool _) rfl) rfl ?_
                      refine ol_nil_then ?_
                      refine cd_ret ?_
                      refine px_thenR ?_
                      exact px_ret1 rfl (v := .bool _) rfl (fun _ s => ((s.del 1).del 0)) ⟨congrArg Value.bool (by first | rfl | simp), rfl⟩
                    · exact absurd hbad1 (by omega)
                  · have hob1 := hok1
                    refine ol_q (wn_none rfl) (op_move (v := .tuple _) rfl) rfl ?_
                    refine ol_q (wn_none rfl) (op_extract (v := .pointer _) rfl rfl) rfl ?_
                    refine ol_q (wn_none rfl) (op_extract (v := .int _ _) rfl rfl) rfl ?_
                    refine ol_q (wn_none rfl) (op_assign (v := .pointer _) rfl) rfl ?_
                    refine ol_q (wn_none rfl) (op_assign (v := .int _ _) rfl) rfl ?_
                    refine ol_nil_then ?_
                    refine cd_sr ?_   -- 9
                    refine ol_q (wn_none rfl) (op_lda (L := rootC _) 2 ag_30 rfl rfl (rootC_take' _) (by simp [rootC_len])) rfl ?_
                    refine ol_q (wn_none rfl) (op_move (v := .int _ _) rfl) rfl ?_
                    refine ol_q (wn_none rfl) (op_move (v := .int _ _) rfl) rfl ?_
                    refine ol_i (wn_none rfl) (os_call cb_30 rfl (fun w s => RTNew_calls _ _ _ s)) rfl ?_; rintro _ l2 (⟨rfl, hl2, hbad2⟩ | ⟨p2, rfl, hok2, rfl⟩)
                    · exact absurd hbad2 (by omega)
                    · have hob2 := hok2
                      refine ol_q (wn_none rfl) (op_move (v := .tuple _) rfl) rfl ?_
                      refine ol_q (wn_none rfl) (op_extract (v := .pointer _) rfl rfl) rfl ?_
                      refine ol_q (wn_none rfl) (op_extract (v := .bool _) rfl rfl) rfl ?_
                      refine ol_q (wn_none rfl) (op_assign (v := .pointer _) rfl) rfl ?_
                      refine ol_q (wn_none rfl) (op_assign (v := .bool _) rfl) rfl ?_
                      refine ol_nil_then ?_
                      refine cd_seq ?_
                      refine cd_sr ?_   -- 10
                      refine ol_q (wn_none rfl) (op_move (v := .bool _) rfl) rfl ?_
                      refine ol_q (wn_none rfl) (op_not rfl) rfl ?_
                      refine ol_nil_then ?_
                      refine cd_cond_f rfl rfl ?_
                      refine cd_skip ?_
                      refine px_then ?_
                      refine cd_seq ?_
                      refine cd_sr ?_   -- 12
                      refine ol_q (wn_none rfl) (op_move (v := .int _ _) rfl) rfl ?_
                      refine ol_q (wn_none rfl) (op_ne rfl rfl) rfl ?_
                      refine ol_q (wn_none rfl) (op_move (v := .bool _) rfl) rfl ?_
                      refine ol_split 89 rfl (fun hb9 => ?_) (fun hb9 => ?_)
                      · have hp9 := hb9
                        (try simp only [decide_eq_true_eq, decide_eq_false_iff_not, Bool.not_eq_true', Bool.not_eq_false', ne_eq, Decidable.not_not] at hp9)
                        exact absurd hb9 (by simp)
                      · have hp9 := hb9
                        (try simp only [decide_eq_true_eq, decide_eq_false_iff_not, Bool.not_eq_true', Bool.not_eq_false', ne_eq, Decidable.not_not] at hp9)
                        refine ol_q (wn_some rfl rfl rfl hb9 rfl) (op_move (v := .pointer _) rfl) rfl ?_
                        refine ol_q (wn_some rfl rfl rfl hb9 rfl) (op_move (v := .pointer _) rfl) rfl ?_
                        refine ol_pull1 ?_
                        refine ol_i (wn_some rfl rfl rfl hb9 rfl) (os_call cb_31 rfl (fun w s => TreeSame_calls _ _ _  s )) rfl ?_; rintro _ _ ⟨rfl, rfl⟩
                        refine ol_q (wn_some rfl rfl rfl hb9 rfl) (op_not rfl) rfl ?_
                        refine ol_q (wn_none rfl) (op_pick_f (v := .bool _) rfl hb9 rfl) rfl ?_
                        refine ol_nil_then ?_
                        refine cd_cond_f rfl rfl ?_
                        refine cd_skip ?_
                        refine px_then ?_
                        refine cd_seq ?_
                        refine cd_sr ?_   -- 14
                        refine ol_q (wn_none rfl) (op_move (v := .slice _ _ _) rfl) rfl ?_
                        refine ol_q (wn_none rfl) (op_len_slice Try.underlying22 rfl) rfl ?_
                        refine ol_q (wn_none rfl) (op_move (v := .int _ _) rfl) rfl ?_
                        refine ol_nil_then ?_
                        refine cd_block ?_
                        refine cd_loop2 (α := Nat × TreeS) [(10, 10), (16, 19), (97, 128)] (fun x => [(97, .int .i64 (x.1 : Int))]) (fun x => RTreeObj p2 x.2 :: TreeObj p1 x.2 :: Blk bx1 (.cells (rootC first).toArray 30 (0, 0)) :: Blk bx2 (.cells (rootC odd).toArray 30 (0, 0)) :: l) (fun x => x.1 ≤ xs.length) (fun x => xs.length - x.1) (0, (TreeS.new first slot most)) (Nat.zero_le _) ⟨rfl, trivial⟩ (fun _ s => ((((s.pull 2).pull 3).pull 2).pull 3)) ?_
                        rintro ⟨i, u⟩ hi f; (try dsimp only at hi ⊢)
                        refine cd_sr ?_   -- 15
                        refine ol_q (wn_none rfl) (op_lt rfl rfl) rfl ?_
                        refine ol_nil_then ?_
                        refine cd_seq ?_
                        refine cd_cond rfl (fun hb10 => ?_) (fun hb10 => ?_)
                        · have hp10 := hb10
                          (try simp only [decide_eq_true_eq, decide_eq_false_iff_not, Bool.not_eq_true', Bool.not_eq_false', ne_eq, Decidable.not_not] at hp10)
                          refine cd_skip ?_
                          refine px_then ?_
                          refine cd_seq ?_
                          refine cd_block ?_
                          refine cd_sr ?_   -- 16
                          refine ol_q (wn_none rfl) (op_move (v := .int _ _) rfl) rfl ?_
                          refine ol_q (wn_none rfl) (op_index _ sB_22 rfl rfl rfl ((((hr.cons _).cons _).cons _).cons _) rfl (by omega)) rfl ?_
                          refine ol_q (wn_none rfl) (op_ldaw (L := tAddC _) ag_54 ((((hr.cons _).cons _).cons _).cons _) rfl (by omega) rfl (tAddC_ta _)) rfl ?_
                          refine ol_i (wn_none rfl) (os_alloc (cs := (tAddC TAdd.zero).toArray) zB_54 (by kernel_rfl)) rfl ?_; rintro _ _ ⟨bx3, rfl, rfl⟩
                          refine ol_q (wn_none rfl) (op_assign (v := .int _ _) rfl) rfl ?_
                          refine ol_iN (wn_none rfl) (os_storew (tAddC _) ag_54 rfl rfl (tAddC_len _) (tAddC_one _) (by simp [tAddC_len]) (Free.zero _)) ?_; rintro _ _ ⟨rfl, rfl⟩
                          refine ol_nil_then ?_
                          refine cd_seq ?_   -- 17
                          refine cd_drawe (M := []) mx [2, 5, 6, 7, 8, 9] ?_
                          -- 0
                          refine et_quiet 0 (by kernel_rfl) rfl (by kernel_rfl) (wn_none rfl) (op_field fld_54_1 rfl) rfl ?_
                          -- 1
                          refine et_quiet 1 (by kernel_rfl) rfl (by kernel_rfl) (wn_none rfl) (op_ld 0 sc_3 rfl rfl (tAddC_a1 _)) rfl ?_
                          -- 3
                          refine et_quiet 3 (by kernel_rfl) rfl (by kernel_rfl) (wn_none rfl) (op_field fld_54_0 rfl) rfl ?_
                          -- 4
                          refine et_quiet 4 (by kernel_rfl) rfl (by kernel_rfl) (wn_none rfl) (op_ld 0 sc_3 rfl rfl (tAddC_a0 _)) rfl ?_
                          refine et_3 (i1 := 2) (i2 := 6) (i3 := 7) (by kernel_rfl) ?_ ?_ ?_
                          · -- 2
                            refine ei_i rfl rfl (wn_none rfl) (os_call cb_20 rfl (fun w s => Name_calls _  s )) rfl ?_; rintro _ l ⟨rfl, rfl⟩; refine ⟨[], rfl, ?_⟩
                            refine et_3 (i1 := 5) (i2 := 6) (i3 := 7) (by kernel_rfl) ?_ ?_ ?_
                            · -- 5
                              refine ei_i rfl rfl (wn_none rfl) (os_call cb_20 rfl (fun w s => Name_calls _  s )) rfl ?_; rintro _ l ⟨rfl, rfl⟩; refine ⟨[], rfl, ?_⟩
                              refine et_2 (i1 := 6) (i2 := 7) (by kernel_rfl) ?_ ?_
                              · -- 6
                                refine ei_i rfl rfl (wn_none rfl) (os_alloc (cs := (rootC Root.zero).toArray) zB_30 (by kernel_rfl)) rfl ?_; rintro _ _ ⟨bx4, rfl, rfl⟩; refine ⟨[_], rfl, ?_⟩
                                refine et_1 (i := 7) (by kernel_rfl) ?_
                                refine ei_i rfl rfl (wn_none rfl) (os_alloc (cs := (rootC Root.zero).toArray) zB_30 (by kernel_rfl)) rfl ?_; rintro _ _ ⟨bx5, rfl, rfl⟩; refine ⟨[_, _], rfl, ?_⟩
                                refine et_1 (i := 8) (by kernel_rfl) ?_
                                refine ei_iN rfl rfl (wn_none rfl) (os_pull1 (os_storera _ ag_30 rfl rfl (Free.zero _))) ?_; rintro _ _ ⟨rfl, rfl⟩; refine ⟨[_, _], rfl, ?_⟩
                                refine et_1 (i := 9) (by kernel_rfl) ?_
                                refine ei_iN rfl rfl (wn_none rfl) (os_pull1 (os_storera _ ag_30 rfl rfl (Free.zero _))) ?_; rintro _ _ ⟨rfl, rfl⟩; refine ⟨[_, _], rfl, ?_⟩
                                refine et_nil_then (by kernel_rfl) ?_
                                refine cd_seq ?_
                                refine cd_sr ?_   -- 18
                                refine ol_q (wn_none rfl) (op_field fld_54_1 rfl) rfl ?_
                                refine ol_q (wn_none rfl) (op_ld 2 sc_3 rfl rfl (tAddC_a1 _)) rfl ?_
                                refine ol_q (wn_none rfl) (op_eq rfl rfl) rfl ?_
                                refine ol_nil_then ?_
                                refine cd_cond rfl (fun hb11 => ?_) (fun hb11 => ?_)
                                · have hp11 := hb11
                                  (try simp only [decide_eq_true_eq, decide_eq_false_iff_not, Bool.not_eq_true', Bool.not_eq_false', ne_eq, Decidable.not_not] at hp11)
                                  refine cd_region ?_   -- 19
                                  refine ol_q (wn_none rfl) (op_lda (L := rootC _) 5 ag_30 rfl rfl (rootC_take' _) (by simp [rootC_len])) rfl ?_
                                  refine ol_pull1 ?_
                                  refine ol_iN (wn_none rfl) (os_storera _ ag_30 rfl rfl (Free.zero _)) ?_; rintro _ _ ⟨rfl, rfl⟩
                                  refine ol_nil ?_
                                  refine px_then ?_
                                  refine cd_seq ?_
                                  refine cd_sr ?_   -- 20
                                  refine ol_q (wn_none rfl) (op_move (v := .int _ _) rfl) rfl ?_
                                  refine ol_q (wn_none rfl) (op_eq rfl rfl) rfl ?_
                                  refine ol_nil_then ?_
                                  refine cd_cond rfl (fun hb12 => ?_) (fun hb12 => ?_)
                                  · have hp12 := hb12
                                    (try simp only [decide_eq_true_eq, decide_eq_false_iff_not, Bool.not_eq_true', Bool.not_eq_false', ne_eq, Decidable.not_not] at hp12)
                                    refine cd_region ?_   -- 21
                                    refine ol_q (wn_none rfl) (op_lda (L := rootC _) 6 ag_30 rfl rfl (rootC_take' _) (by simp [rootC_len])) rfl ?_
                                    refine ol_pull1 ?_
                                    refine ol_iN (wn_none rfl) (os_storera _ ag_30 rfl rfl (Free.zero _)) ?_; rintro _ _ ⟨rfl, rfl⟩
                                    refine ol_nil ?_
                                    refine px_then ?_
                                    refine cd_pull3 ?_
                                    refine cd_pull4 ?_
                                    refine cd_seq ?_   -- 22
                                    refine cd_draw (M := [_, _]) mx [5, 11] (by kernel_rfl) ?_
                                    refine rg_q (wn_none rfl) (op_move (v := .pointer _) rfl) rfl rfl ?_
                                    refine rg_q (wn_none rfl) (op_lda (L := rootC _) 0 ag_30 rfl rfl (rootC_take' _) (by simp [rootC_len])) rfl rfl ?_
                                    refine rg_q (wn_none rfl) (op_lda (L := rootC _) 1 ag_30 rfl rfl (rootC_take' _) (by simp [rootC_len])) rfl rfl ?_
                                    refine rg_q (wn_none rfl) (op_field fld_54_2 rfl) rfl rfl ?_
                                    refine rg_q (wn_none rfl) (op_ld 2 sc_3 rfl rfl (tAddC_a2 _)) rfl rfl ?_
                                    refine rg_i (wn_none rfl) (os_call cb_22 rfl (fun w s => Add_calls _ _ _ _ _  s )) rfl rfl ?_; rintro _ _ ⟨rfl, rfl⟩; refine ⟨[_, _], rfl, ?_⟩
                                    refine rg_q (wn_none rfl) (op_move (v := .pointer _) rfl) rfl rfl ?_
                                    refine rg_q (wn_none rfl) (op_lda (L := rootC _) 0 ag_30 rfl rfl (rootC_take' _) (by simp [rootC_len])) rfl rfl ?_
                                    refine rg_q (wn_none rfl) (op_lda (L := rootC _) 1 ag_30 rfl rfl (rootC_take' _) (by simp [rootC_len])) rfl rfl ?_
                                    refine rg_q (wn_none rfl) (op_field fld_54_2 rfl) rfl rfl ?_
                                    refine rg_q (wn_none rfl) (op_ld 2 sc_3 rfl rfl (tAddC_a2 _)) rfl rfl ?_
                                    refine rg_i (wn_none rfl) (os_pull1 (os_call cb_32 rfl (fun w s => RAdd_calls _ _ _ _ _  s ))) rfl rfl ?_; rintro _ _ ⟨rfl, rfl⟩; refine ⟨[_, _], rfl, ?_⟩
                                    refine rg_q (wn_none rfl) (op_ne rfl rfl) rfl rfl ?_
                                    refine rg_nil_then2 ?_
                                    refine cd_cond rfl (fun hb13 => ?_) (fun hb13 => ?_)
                                    · have hp13 := hb13
                                      (try simp only [decide_eq_true_eq, decide_eq_false_iff_not, Bool.not_eq_true', Bool.not_eq_false', ne_eq, Decidable.not_not] at hp13)
                                      exact absurd hb13 (by simp)
                                    · have hp13 := hb13
                                      (try simp only [decide_eq_true_eq, decide_eq_false_iff_not, Bool.not_eq_true', Bool.not_eq_false', ne_eq, Decidable.not_not] at hp13)
                                      refine cd_skip ?_
                                      refine px_blockN ?_
                                      refine px_then ?_
                                      refine cd_region ?_   -- 24
                                      refine ol_q (wn_none rfl) (op_add rfl rfl (by omega) (by omega)) rfl ?_
                                      refine ol_q (wn_none rfl) (op_move (v := .int _ _) rfl) rfl ?_
                                      refine ol_nil ?_
                                      refine px_loop2 (i + 1, (u.add odd first xs[i].slot).2) (by dsimp only; omega) (by (try dsimp only); omega) ⟨congrArg (Value.int .i64) (by simp), trivial⟩ ?_ (fun _ s => (((s.del 4).del 3).del 2))
                                      repeat (first | exact kept_over | refine kept_upd rfl ?_ | refine kept_overS (by decide) ?_)
                                  · have hp12 := hb12
                                    (try simp only [decide_eq_true_eq, decide_eq_false_iff_not, Bool.not_eq_true', Bool.not_eq_false', ne_eq, Decidable.not_not] at hp12)
                                    refine cd_skip ?_
                                    refine px_then ?_
                                    refine cd_pull3 ?_
                                    refine cd_pull4 ?_
                                    refine cd_seq ?_   -- 22
                                    refine cd_draw (M := [_, _]) mx [5, 11] (by kernel_rfl) ?_
                                    refine rg_q (wn_none rfl) (op_move (v := .pointer _) rfl) rfl rfl ?_
                                    refine rg_q (wn_none rfl) (op_lda (L := rootC _) 1 ag_30 rfl rfl (rootC_take' _) (by simp [rootC_len])) rfl rfl ?_
                                    refine rg_q (wn_none rfl) (op_lda (L := rootC _) 0 ag_30 rfl rfl (rootC_take' _) (by simp [rootC_len])) rfl rfl ?_
                                    refine rg_q (wn_none rfl) (op_field fld_54_2 rfl) rfl rfl ?_
                                    refine rg_q (wn_none rfl) (op_ld 2 sc_3 rfl rfl (tAddC_a2 _)) rfl rfl ?_
                                    refine rg_i (wn_none rfl) (os_call cb_22 rfl (fun w s => Add_calls _ _ _ _ _  s )) rfl rfl ?_; rintro _ _ ⟨rfl, rfl⟩; refine ⟨[_, _], rfl, ?_⟩
                                    refine rg_q (wn_none rfl) (op_move (v := .pointer _) rfl) rfl rfl ?_
                                    refine rg_q (wn_none rfl) (op_lda (L := rootC _) 1 ag_30 rfl rfl (rootC_take' _) (by simp [rootC_len])) rfl rfl ?_
                                    refine rg_q (wn_none rfl) (op_lda (L := rootC _) 0 ag_30 rfl rfl (rootC_take' _) (by simp [rootC_len])) rfl rfl ?_
                                    refine rg_q (wn_none rfl) (op_field fld_54_2 rfl) rfl rfl ?_
                                    refine rg_q (wn_none rfl) (op_ld 2 sc_3 rfl rfl (tAddC_a2 _)) rfl rfl ?_
                                    refine rg_i (wn_none rfl) (os_pull1 (os_call cb_32 rfl (fun w s => RAdd_calls _ _ _ _ _  s ))) rfl rfl ?_; rintro _ _ ⟨rfl, rfl⟩; refine ⟨[_, _], rfl, ?_⟩
                                    refine rg_q (wn_none rfl) (op_ne rfl rfl) rfl rfl ?_
                                    refine rg_nil_then2 ?_
                                    refine cd_cond rfl (fun hb14 => ?_) (fun hb14 => ?_)
                                    · have hp14 := hb14
                                      (try simp only [decide_eq_true_eq, decide_eq_false_iff_not, Bool.not_eq_true', Bool.not_eq_false', ne_eq, Decidable.not_not] at hp14)
                                      exact absurd hb14 (by simp)
                                    · have hp14 := hb14
                                      (try simp only [decide_eq_true_eq, decide_eq_false_iff_not, Bool.not_eq_true', Bool.not_eq_false', ne_eq, Decidable.not_not] at hp14)
                                      refine cd_skip ?_
                                      refine px_blockN ?_
                                      refine px_then ?_
                                      refine cd_region ?_   -- 24
                                      refine ol_q (wn_none rfl) (op_add rfl rfl (by omega) (by omega)) rfl ?_
                                      refine ol_q (wn_none rfl) (op_move (v := .int _ _) rfl) rfl ?_
                                      refine ol_nil ?_
                                      refine px_loop2 (i + 1, (u.add (nameR xs[i].root) first xs[i].slot).2) (by dsimp only; omega) (by (try dsimp only); omega) ⟨congrArg (Value.int .i64) (by simp), trivial⟩ ?_ (fun _ s => (((s.del 4).del 3).del 2))
                                      repeat (first | exact kept_over | refine kept_upd rfl ?_ | refine kept_overS (by decide) ?_)
                                · have hp11 := hb11
                                  (try simp only [decide_eq_true_eq, decide_eq_false_iff_not, Bool.not_eq_true', Bool.not_eq_false', ne_eq, Decidable.not_not] at hp11)
                                  refine cd_skip ?_
                                  refine px_then ?_
                                  refine cd_seq ?_
                                  refine cd_sr ?_   -- 20
                                  refine ol_q (wn_none rfl) (op_move (v := .int _ _) rfl) rfl ?_
                                  refine ol_q (wn_none rfl) (op_eq rfl rfl) rfl ?_
                                  refine ol_nil_then ?_
                                  refine cd_cond rfl (fun hb15 => ?_) (fun hb15 => ?_)
                                  · have hp15 := hb15
                                    (try simp only [decide_eq_true_eq, decide_eq_false_iff_not, Bool.not_eq_true', Bool.not_eq_false', ne_eq, Decidable.not_not] at hp15)
                                    refine cd_region ?_   -- 21
                                    refine ol_q (wn_none rfl) (op_lda (L := rootC _) 6 ag_30 rfl rfl (rootC_take' _) (by simp [rootC_len])) rfl ?_
                                    refine ol_iN (wn_none rfl) (os_storera _ ag_30 rfl rfl (Free.zero _)) ?_; rintro _ _ ⟨rfl, rfl⟩
                                    refine ol_nil ?_
                                    refine px_then ?_
                                    refine cd_pull3 ?_
                                    refine cd_pull4 ?_
                                    refine cd_seq ?_   -- 22
                                    refine cd_draw (M := [_, _]) mx [5, 11] (by kernel_rfl) ?_
                                    refine rg_q (wn_none rfl) (op_move (v := .pointer _) rfl) rfl rfl ?_
                                    refine rg_q (wn_none rfl) (op_lda (L := rootC _) 0 ag_30 rfl rfl (rootC_take' _) (by simp [rootC_len])) rfl rfl ?_
                                    refine rg_q (wn_none rfl) (op_lda (L := rootC _) 1 ag_30 rfl rfl (rootC_take' _) (by simp [rootC_len])) rfl rfl ?_
                                    refine rg_q (wn_none rfl) (op_field fld_54_2 rfl) rfl rfl ?_
                                    refine rg_q (wn_none rfl) (op_ld 2 sc_3 rfl rfl (tAddC_a2 _)) rfl rfl ?_
                                    refine rg_i (wn_none rfl) (os_call cb_22 rfl (fun w s => Add_calls _ _ _ _ _  s )) rfl rfl ?_; rintro _ _ ⟨rfl, rfl⟩; refine ⟨[_, _], rfl, ?_⟩
                                    refine rg_q (wn_none rfl) (op_move (v := .pointer _) rfl) rfl rfl ?_
                                    refine rg_q (wn_none rfl) (op_lda (L := rootC _) 0 ag_30 rfl rfl (rootC_take' _) (by simp [rootC_len])) rfl rfl ?_
                                    refine rg_q (wn_none rfl) (op_lda (L := rootC _) 1 ag_30 rfl rfl (rootC_take' _) (by simp [rootC_len])) rfl rfl ?_
                                    refine rg_q (wn_none rfl) (op_field fld_54_2 rfl) rfl rfl ?_
                                    refine rg_q (wn_none rfl) (op_ld 2 sc_3 rfl rfl (tAddC_a2 _)) rfl rfl ?_
                                    refine rg_i (wn_none rfl) (os_pull1 (os_call cb_32 rfl (fun w s => RAdd_calls _ _ _ _ _  s ))) rfl rfl ?_; rintro _ _ ⟨rfl, rfl⟩; refine ⟨[_, _], rfl, ?_⟩
                                    refine rg_q (wn_none rfl) (op_ne rfl rfl) rfl rfl ?_
                                    refine rg_nil_then2 ?_
                                    refine cd_cond rfl (fun hb16 => ?_) (fun hb16 => ?_)
                                    · have hp16 := hb16
                                      (try simp only [decide_eq_true_eq, decide_eq_false_iff_not, Bool.not_eq_true', Bool.not_eq_false', ne_eq, Decidable.not_not] at hp16)
                                      exact absurd hb16 (by simp)
                                    · have hp16 := hb16
                                      (try simp only [decide_eq_true_eq, decide_eq_false_iff_not, Bool.not_eq_true', Bool.not_eq_false', ne_eq, Decidable.not_not] at hp16)
                                      refine cd_skip ?_
                                      refine px_blockN ?_
                                      refine px_then ?_
                                      refine cd_region ?_   -- 24
                                      refine ol_q (wn_none rfl) (op_add rfl rfl (by omega) (by omega)) rfl ?_
                                      refine ol_q (wn_none rfl) (op_move (v := .int _ _) rfl) rfl ?_
                                      refine ol_nil ?_
                                      refine px_loop2 (i + 1, (u.add odd (nameR xs[i].parent) xs[i].slot).2) (by dsimp only; omega) (by (try dsimp only); omega) ⟨congrArg (Value.int .i64) (by simp), trivial⟩ ?_ (fun _ s => (((s.del 4).del 3).del 2))
                                      repeat (first | exact kept_over | refine kept_upd rfl ?_ | refine kept_overS (by decide) ?_)
                                  · have hp15 := hb15
                                    (try simp only [decide_eq_true_eq, decide_eq_false_iff_not, Bool.not_eq_true', Bool.not_eq_false', ne_eq, Decidable.not_not] at hp15)
                                    refine cd_skip ?_
                                    refine px_then ?_
                                    refine cd_pull3 ?_
                                    refine cd_pull4 ?_
                                    refine cd_seq ?_   -- 22
                                    refine cd_draw (M := [_, _]) mx [5, 11] (by kernel_rfl) ?_
                                    refine rg_q (wn_none rfl) (op_move (v := .pointer _) rfl) rfl rfl ?_
                                    refine rg_q (wn_none rfl) (op_lda (L := rootC _) 0 ag_30 rfl rfl (rootC_take' _) (by simp [rootC_len])) rfl rfl ?_
                                    refine rg_q (wn_none rfl) (op_lda (L := rootC _) 1 ag_30 rfl rfl (rootC_take' _) (by simp [rootC_len])) rfl rfl ?_
                                    refine rg_q (wn_none rfl) (op_field fld_54_2 rfl) rfl rfl ?_
                                    refine rg_q (wn_none rfl) (op_ld 2 sc_3 rfl rfl (tAddC_a2 _)) rfl rfl ?_
                                    refine rg_i (wn_none rfl) (os_call cb_22 rfl (fun w s => Add_calls _ _ _ _ _  s )) rfl rfl ?_; rintro _ _ ⟨rfl, rfl⟩; refine ⟨[_, _], rfl, ?_⟩
                                    refine rg_q (wn_none rfl) (op_move (v := .pointer _) rfl) rfl rfl ?_
                                    refine rg_q (wn_none rfl) (op_lda (L := rootC _) 0 ag_30 rfl rfl (rootC_take' _) (by simp [rootC_len])) rfl rfl ?_
                                    refine rg_q (wn_none rfl) (op_lda (L := rootC _) 1 ag_30 rfl rfl (rootC_take' _) (by simp [rootC_len])) rfl rfl ?_
                                    refine rg_q (wn_none rfl) (op_field fld_54_2 rfl) rfl rfl ?_
                                    refine rg_q (wn_none rfl) (op_ld 2 sc_3 rfl rfl (tAddC_a2 _)) rfl rfl ?_
                                    refine rg_i (wn_none rfl) (os_pull1 (os_call cb_32 rfl (fun w s => RAdd_calls _ _ _ _ _  s ))) rfl rfl ?_; rintro _ _ ⟨rfl, rfl⟩; refine ⟨[_, _], rfl, ?_⟩
                                    refine rg_q (wn_none rfl) (op_ne rfl rfl) rfl rfl ?_
                                    refine rg_nil_then2 ?_
                                    refine cd_cond rfl (fun hb17 => ?_) (fun hb17 => ?_)
                                    · have hp17 := hb17
                                      (try simp only [decide_eq_true_eq, decide_eq_false_iff_not, Bool.not_eq_true', Bool.not_eq_false', ne_eq, Decidable.not_not] at hp17)
                                      exact absurd hb17 (by simp)
                                    · have hp17 := hb17
                                      (try simp only [decide_eq_true_eq, decide_eq_false_iff_not, Bool.not_eq_true', Bool.not_eq_false', ne_eq, Decidable.not_not] at hp17)
                                      refine cd_skip ?_
                                      refine px_blockN ?_
                                      refine px_then ?_
                                      refine cd_region ?_   -- 24
                                      refine ol_q (wn_none rfl) (op_add rfl rfl (by omega) (by omega)) rfl ?_
                                      refine ol_q (wn_none rfl) (op_move (v := .int _ _) rfl) rfl ?_
                                      refine ol_nil ?_
                                      refine px_loop2 (i + 1, (u.add (nameR xs[i].root) (nameR xs[i].parent) xs[i].slot).2) (by dsimp only; omega) (by (try dsimp only); omega) ⟨congrArg (Value.int .i64) (by simp), trivial⟩ ?_ (fun _ s => (((s.del 4).del 3).del 2))
                                      repeat (first | exact kept_over | refine kept_upd rfl ?_ | refine kept_overS (by decide) ?_)
                              · -- 7
                                refine ei_i rfl rfl (wn_none rfl) (os_alloc (cs := (rootC Root.zero).toArray) zB_30 (by kernel_rfl)) rfl ?_; rintro _ _ ⟨bx6, rfl, rfl⟩; refine ⟨[_], rfl, ?_⟩
                                refine et_1 (i := 6) (by kernel_rfl) ?_
                                refine ei_i rfl rfl (wn_none rfl) (os_alloc (cs := (rootC Root.zero).toArray) zB_30 (by kernel_rfl)) rfl ?_; rintro _ _ ⟨bx7, rfl, rfl⟩; refine ⟨[_, _], rfl, ?_⟩
                                refine et_1 (i := 8) (by kernel_rfl) ?_
                                refine ei_iN rfl rfl (wn_none rfl) (os_storera _ ag_30 rfl rfl (Free.zero _)) ?_; rintro _ _ ⟨rfl, rfl⟩; refine ⟨[_, _], rfl, ?_⟩
                                refine et_1 (i := 9) (by kernel_rfl) ?_
                                refine ei_iN rfl rfl (wn_none rfl) (os_pull1 (os_storera _ ag_30 rfl rfl (Free.zero _))) ?_; rintro _ _ ⟨rfl, rfl⟩; refine ⟨[_, _], rfl, ?_⟩
                                refine et_nil_then (by kernel_rfl) ?_
                                refine cd_seq ?_
                                refine cd_sr ?_   -- 18
                                refine ol_q (wn_none rfl) (op_field fld_54_1 rfl) rfl ?_
                                refine ol_q (wn_none rfl) (op_ld 2 sc_3 rfl rfl (tAddC_a1 _)) rfl ?_
                                refine ol_q (wn_none rfl) (op_eq rfl rfl) rfl ?_
                                refine ol_nil_then ?_
                                refine cd_cond rfl (fun hb18 => ?_) (fun hb18 => ?_)
                                · have hp18 := hb18
                                  (try simp only [decide_eq_true_eq, decide_eq_false_iff_not, Bool.not_eq_true', Bool.not_eq_false', ne_eq, Decidable.not_not] at hp18)
                                  refine cd_region ?_   -- 19
                                  refine ol_q (wn_none rfl) (op_lda (L := rootC _) 5 ag_30 rfl rfl (rootC_take' _) (by simp [rootC_len])) rfl ?_
                                  refine ol_pull1 ?_
                                  refine ol_iN (wn_none rfl) (os_storera _ ag_30 rfl rfl (Free.zero _)) ?_; rintro _ _ ⟨rfl, rfl⟩
                                  refine ol_nil ?_
                                  refine px_then ?_
                                  refine cd_seq ?_
                                  refine cd_sr ?_   -- 20
                                  refine ol_q (wn_none rfl) (op_move (v := .int _ _) rfl) rfl ?_
                                  refine ol_q (wn_none rfl) (op_eq rfl rfl) rfl ?_
                                  refine ol_nil_then ?_
                                  refine cd_cond rfl (fun hb19 => ?_) (fun hb19 => ?_)
                                  · have hp19 := hb19
                                    (try simp only [decide_eq_true_eq, decide_eq_false_iff_not, Bool.not_eq_true', Bool.not_eq_false', ne_eq, Decidable.not_not] at hp19)
                                    refine cd_region ?_   -- 21
                                    refine ol_q (wn_none rfl) (op_lda (L := rootC _) 6 ag_30 rfl rfl (rootC_take' _) (by simp [rootC_len])) rfl ?_
                                    refine ol_pull1 ?_
                                    refine ol_iN (wn_none rfl) (os_storera _ ag_30 rfl rfl (Free.zero _)) ?_; rintro _ _ ⟨rfl, rfl⟩
                                    refine ol_nil ?_
                                    refine px_then ?_
                                    refine cd_pull3 ?_
                                    refine cd_pull4 ?_
                                    refine cd_seq ?_   -- 22
                                    refine cd_draw (M := [_, _]) mx [5, 11] (by kernel_rfl) ?_
                                    refine rg_q (wn_none rfl) (op_move (v := .pointer _) rfl) rfl rfl ?_
                                    refine rg_q (wn_none rfl) (op_lda (L := rootC _) 0 ag_30 rfl rfl (rootC_take' _) (by simp [rootC_len])) rfl rfl ?_
                                    refine rg_q (wn_none rfl) (op_lda (L := rootC _) 1 ag_30 rfl rfl (rootC_take' _) (by simp [rootC_len])) rfl rfl ?_
                                    refine rg_q (wn_none rfl) (op_field fld_54_2 rfl) rfl rfl ?_
                                    refine rg_q (wn_none rfl) (op_ld 2 sc_3 rfl rfl (tAddC_a2 _)) rfl rfl ?_
                                    refine rg_i (wn_none rfl) (os_call cb_22 rfl (fun w s => Add_calls _ _ _ _ _  s )) rfl rfl ?_; rintro _ _ ⟨rfl, rfl⟩; refine ⟨[_, _], rfl, ?_⟩
                                    refine rg_q (wn_none rfl) (op_move (v := .pointer _) rfl) rfl rfl ?_
                                    refine rg_q (wn_none rfl) (op_lda (L := rootC _) 0 ag_30 rfl rfl (rootC_take' _) (by simp [rootC_len])) rfl rfl ?_
                                    refine rg_q (wn_none rfl) (op_lda (L := rootC _) 1 ag_30 rfl rfl (rootC_take' _) (by simp [rootC_len])) rfl rfl ?_
                                    refine rg_q (wn_none rfl) (op_field fld_54_2 rfl) rfl rfl ?_
                                    refine rg_q (wn_none rfl) (op_ld 2 sc_3 rfl rfl (tAddC_a2 _)) rfl rfl ?_
                                    refine rg_i (wn_none rfl) (os_pull1 (os_call cb_32 rfl (fun w s => RAdd_calls _ _ _ _ _  s ))) rfl rfl ?_; rintro _ _ ⟨rfl, rfl⟩; refine ⟨[_, _], rfl, ?_⟩
                                    refine rg_q (wn_none rfl) (op_ne rfl rfl) rfl rfl ?_
                                    refine rg_nil_then2 ?_
                                    refine cd_cond rfl (fun hb20 => ?_) (fun hb20 => ?_)
                                    · have hp20 := hb20
                                      (try simp only [decide_eq_true_eq, decide_eq_false_iff_not, Bool.not_eq_true', Bool.not_eq_false', ne_eq, Decidable.not_not] at hp20)
                                      exact absurd hb20 (by simp)
                                    · have hp20 := hb20
                                      (try simp only [decide_eq_true_eq, decide_eq_false_iff_not, Bool.not_eq_true', Bool.not_eq_false', ne_eq, Decidable.not_not] at hp20)
                                      refine cd_skip ?_
                                      refine px_blockN ?_
                                      refine px_then ?_
                                      refine cd_region ?_   -- 24
                                      refine ol_q (wn_none rfl) (op_add rfl rfl (by omega) (by omega)) rfl ?_
                                      refine ol_q (wn_none rfl) (op_move (v := .int _ _) rfl) rfl ?_
                                      refine ol_nil ?_
                                      refine px_loop2 (i + 1, (u.add odd first xs[i].slot).2) (by dsimp only; omega) (by (try dsimp only); omega) ⟨congrArg (Value.int .i64) (by simp), trivial⟩ ?_ (fun _ s => (((s.del 4).del 3).del 2))
                                      repeat (first | exact kept_over | refine kept_upd rfl ?_ | refine kept_overS (by decide) ?_)
                                  · have hp19 := hb19
                                    (try simp only [decide_eq_true_eq, decide_eq_false_iff_not, Bool.not_eq_true', Bool.not_eq_false', ne_eq, Decidable.not_not] at hp19)
                                    refine cd_skip ?_
                                    refine px_then ?_
                                    refine cd_pull3 ?_
                                    refine cd_pull4 ?_
                                    refine cd_seq ?_   -- 22
                                    refine cd_draw (M := [_, _]) mx [5, 11] (by kernel_rfl) ?_
                                    refine rg_q (wn_none rfl) (op_move (v := .pointer _) rfl) rfl rfl ?_
                                    refine rg_q (wn_none rfl) (op_lda (L := rootC _) 1 ag_30 rfl rfl (rootC_take' _) (by simp [rootC_len])) rfl rfl ?_
                                    refine rg_q (wn_none rfl) (op_lda (L := rootC _) 0 ag_30 rfl rfl (rootC_take' _) (by simp [rootC_len])) rfl rfl ?_
                                    refine rg_q (wn_none rfl) (op_field fld_54_2 rfl) rfl rfl ?_
                                    refine rg_q (wn_none rfl) (op_ld 2 sc_3 rfl rfl (tAddC_a2 _)) rfl rfl ?_
                                    refine rg_i (wn_none rfl) (os_call cb_22 rfl (fun w s => Add_calls _ _ _ _ _  s )) rfl rfl ?_; rintro _ _ ⟨rfl, rfl⟩; refine ⟨[_, _], rfl, ?_⟩
                                    refine rg_q (wn_none rfl) (op_move (v := .pointer _) rfl) rfl rfl ?_
                                    refine rg_q (wn_none rfl) (op_lda (L := rootC _) 1 ag_30 rfl rfl (rootC_take' _) (by simp [rootC_len])) rfl rfl ?_
                                    refine rg_q (wn_none rfl) (op_lda (L := rootC _) 0 ag_30 rfl rfl (rootC_take' _) (by simp [rootC_len])) rfl rfl ?_
                                    refine rg_q (wn_none rfl) (op_field fld_54_2 rfl) rfl rfl ?_
                                    refine rg_q (wn_none rfl) (op_ld 2 sc_3 rfl rfl (tAddC_a2 _)) rfl rfl ?_
                                    refine rg_i (wn_none rfl) (os_pull1 (os_call cb_32 rfl (fun w s => RAdd_calls _ _ _ _ _  s ))) rfl rfl ?_; rintro _ _ ⟨rfl, rfl⟩; refine ⟨[_, _], rfl, ?_⟩
                                    refine rg_q (wn_none rfl) (op_ne rfl rfl) rfl rfl ?_
                                    refine rg_nil_then2 ?_
                                    refine cd_cond rfl (fun hb21 => ?_) (fun hb21 => ?_)
                                    · have hp21 := hb21
                                      (try simp only [decide_eq_true_eq, decide_eq_false_iff_not, Bool.not_eq_true', Bool.not_eq_false', ne_eq, Decidable.not_not] at hp21)
                                      exact absurd hb21 (by simp)
                                    · have hp21 := hb21
                                      (try simp only [decide_eq_true_eq, decide_eq_false_iff_not, Bool.not_eq_true', Bool.not_eq_false', ne_eq, Decidable.not_not] at hp21)
                                      refine cd_skip ?_
                                      refine px_blockN ?_
                                      refine px_then ?_
                                      refine cd_region ?_   -- 24
                                      refine ol_q (wn_none rfl) (op_add rfl rfl (by omega) (by omega)) rfl ?_
                                      refine ol_q (wn_none rfl) (op_move (v := .int _ _) rfl) rfl ?_
                                      refine ol_nil ?_
                                      refine px_loop2 (i + 1, (u.add (nameR xs[i].root) first xs[i].slot).2) (by dsimp only; omega) (by (try dsimp only); omega) ⟨congrArg (Value.int .i64) (by simp), trivial⟩ ?_ (fun _ s => (((s.del 4).del 3).del 2))
                                      repeat (first | exact kept_over | refine kept_upd rfl ?_ | refine kept_overS (by decide) ?_)
                                · have hp18 := hb18
                                  (try simp only [decide_eq_true_eq, decide_eq_false_iff_not, Bool.not_eq_true', Bool.not_eq_false', ne_eq, Decidable.not_not] at hp18)
                                  refine cd_skip ?_
                                  refine px_then ?_
                                  refine cd_seq ?_
                                  refine cd_sr ?_   -- 20
                                  refine ol_q (wn_none rfl) (op_move (v := .int _ _) rfl) rfl ?_
                                  refine ol_q (wn_none rfl) (op_eq rfl rfl) rfl ?_
                                  refine ol_nil_then ?_
                                  refine cd_cond rfl (fun hb22 => ?_) (fun hb22 => ?_)
                                  · have hp22 := hb22
                                    (try simp only [decide_eq_true_eq, decide_eq_false_iff_not, Bool.not_eq_true', Bool.not_eq_false', ne_eq, Decidable.not_not] at hp22)
                                    refine cd_region ?_   -- 21
                                    refine ol_q (wn_none rfl) (op_lda (L := rootC _) 6 ag_30 rfl rfl (rootC_take' _) (by simp [rootC_len])) rfl ?_
                                    refine ol_iN (wn_none rfl) (os_storera _ ag_30 rfl rfl (Free.zero _)) ?_; rintro _ _ ⟨rfl, rfl⟩
                                    refine ol_nil ?_
                                    refine px_then ?_
                                    refine cd_pull3 ?_
                                    refine cd_pull4 ?_
                                    refine cd_seq ?_   -- 22
                                    refine cd_draw (M := [_, _]) mx [5, 11] (by kernel_rfl) ?_
                                    refine rg_q (wn_none rfl) (op_move (v := .pointer _) rfl) rfl rfl ?_
                                    refine rg_q (wn_none rfl) (op_lda (L := rootC _) 0 ag_30 rfl rfl (rootC_take' _) (by simp [rootC_len])) rfl rfl ?_
                                    refine rg_q (wn_none rfl) (op_lda (L := rootC _) 1 ag_30 rfl rfl (rootC_take' _) (by simp [rootC_len])) rfl rfl ?_
                                    refine rg_q (wn_none rfl) (op_field fld_54_2 rfl) rfl rfl ?_
                                    refine rg_q (wn_none rfl) (op_ld 2 sc_3 rfl rfl (tAddC_a2 _)) rfl rfl ?_
                                    refine rg_i (wn_none rfl) (os_call cb_22 rfl (fun w s => Add_calls _ _ _ _ _  s )) rfl rfl ?_; rintro _ _ ⟨rfl, rfl⟩; refine ⟨[_, _], rfl, ?_⟩
                                    refine rg_q (wn_none rfl) (op_move (v := .pointer _) rfl) rfl rfl ?_
                                    refine rg_q (wn_none rfl) (op_lda (L := rootC _) 0 ag_30 rfl rfl (rootC_take' _) (by simp [rootC_len])) rfl rfl ?_
                                    refine rg_q (wn_none rfl) (op_lda (L := rootC _) 1 ag_30 rfl rfl (rootC_take' _) (by simp [rootC_len])) rfl rfl ?_
                                    refine rg_q (wn_none rfl) (op_field fld_54_2 rfl) rfl rfl ?_
                                    refine rg_q (wn_none rfl) (op_ld 2 sc_3 rfl rfl (tAddC_a2 _)) rfl rfl ?_
                                    refine rg_i (wn_none rfl) (os_pull1 (os_call cb_32 rfl (fun w s => RAdd_calls _ _ _ _ _  s ))) rfl rfl ?_; rintro _ _ ⟨rfl, rfl⟩; refine ⟨[_, _], rfl, ?_⟩
                                    refine rg_q (wn_none rfl) (op_ne rfl rfl) rfl rfl ?_
                                    refine rg_nil_then2 ?_
                                    refine cd_cond rfl (fun hb23 => ?_) (fun hb23 => ?_)
                                    · have hp23 := hb23
                                      (try simp only [decide_eq_true_eq, decide_eq_false_iff_not, Bool.not_eq_true', Bool.not_eq_false', ne_eq, Decidable.not_not] at hp23)
                                      exact absurd hb23 (by simp)
                                    · have hp23 := hb23
                                      (try simp only [decide_eq_true_eq, decide_eq_false_iff_not, Bool.not_eq_true', Bool.not_eq_false', ne_eq, Decidable.not_not] at hp23)
                                      refine cd_skip ?_
                                      refine px_blockN ?_
                                      refine px_then ?_
                                      refine cd_region ?_   -- 24
                                      refine ol_q (wn_none rfl) (op_add rfl rfl (by omega) (by omega)) rfl ?_
                                      refine ol_q (wn_none rfl) (op_move (v := .int _ _) rfl) rfl ?_
                                      refine ol_nil ?_
                                      refine px_loop2 (i + 1, (u.add odd (nameR xs[i].parent) xs[i].slot).2) (by dsimp only; omega) (by (try dsimp only); omega) ⟨congrArg (Value.int .i64) (by simp), trivial⟩ ?_ (fun _ s => (((s.del 4).del 3).del 2))
                                      repeat (first | exact kept_over | refine kept_upd rfl ?_ | refine kept_overS (by decide) ?_)
                                  · have hp22 := hb22
                                    (try simp only [decide_eq_true_eq, decide_eq_false_iff_not, Bool.not_eq_true', Bool.not_eq_false', ne_eq, Decidable.not_not] at hp22)
                                    refine cd_skip ?_
                                    refine px_then ?_
                                    refine cd_pull3 ?_
                                    refine cd_pull4 ?_
                                    refine cd_seq ?_   -- 22
                                    refine cd_draw (M := [_, _]) mx [5, 11] (by kernel_rfl) ?_
                                    refine rg_q (wn_none rfl) (op_move (v := .pointer _) rfl) rfl rfl ?_
                                    refine rg_q (wn_none rfl) (op_lda (L := rootC _) 0 ag_30 rfl rfl (rootC_take' _) (by simp [rootC_len])) rfl rfl ?_
                                    refine rg_q (wn_none rfl) (op_lda (L := rootC _) 1 ag_30 rfl rfl (rootC_take' _) (by simp [rootC_len])) rfl rfl ?_
                                    refine rg_q (wn_none rfl) (op_field fld_54_2 rfl) rfl rfl ?_
                                    refine rg_q (wn_none rfl) (op_ld 2 sc_3 rfl rfl (tAddC_a2 _)) rfl rfl ?_
                                    refine rg_i (wn_none rfl) (os_call cb_22 rfl (fun w s => Add_calls _ _ _ _ _  s )) rfl rfl ?_; rintro _ _ ⟨rfl, rfl⟩; refine ⟨[_, _], rfl, ?_⟩
                                    refine rg_q (wn_none rfl) (op_move (v := .pointer _) rfl) rfl rfl ?_
                                    refine rg_q (wn_none rfl) (op_lda (L := rootC _) 0 ag_30 rfl rfl (rootC_take' _) (by simp [rootC_len])) rfl rfl ?_
                                    refine rg_q (wn_none rfl) (op_lda (L := rootC _) 1 ag_30 rfl rfl (rootC_take' _) (by simp [rootC_len])) rfl rfl ?_
                                    refine rg_q (wn_none rfl) (op_field fld_54_2 rfl) rfl rfl ?_
                                    refine rg_q (wn_none rfl) (op_ld 2 sc_3 rfl rfl (tAddC_a2 _)) rfl rfl ?_
                                    refine rg_i (wn_none rfl) (os_pull1 (os_call cb_32 rfl (fun w s => RAdd_calls _ _ _ _ _  s ))) rfl rfl ?_; rintro _ _ ⟨rfl, rfl⟩; refine ⟨[_, _], rfl, ?_⟩
                                    refine rg_q (wn_none rfl) (op_ne rfl rfl) rfl rfl ?_
                                    refine rg_nil_then2 ?_
                                    refine cd_cond rfl (fun hb24 => ?_) (fun hb24 => ?_)
                                    · have hp24 := hb24
                                      (try simp only [decide_eq_true_eq, decide_eq_false_iff_not, Bool.not_eq_true', Bool.not_eq_false', ne_eq, Decidable.not_not] at hp24)
                                      exact absurd hb24 (by simp)
                                    · have hp24 := hb24
                                      (try simp only [decide_eq_true_eq, decide_eq_false_iff_not, Bool.not_eq_true', Bool.not_eq_false', ne_eq, Decidable.not_not] at hp24)
                                      refine cd_skip ?_
                                      refine px_blockN ?_
                                      refine px_then ?_
                                      refine cd_region ?_   -- 24
                                      refine ol_q (wn_none rfl) (op_add rfl rfl (by omega) (by omega)) rfl ?_
                                      refine ol_q (wn_none rfl) (op_move (v := .int _ _) rfl) rfl ?_
                                      refine ol_nil ?_
                                      refine px_loop2 (i + 1, (u.add (nameR xs[i].root) (nameR xs[i].parent) xs[i].slot).2) (by dsimp only; omega) (by (try dsimp only); omega) ⟨congrArg (Value.int .i64) (by simp), trivial⟩ ?_ (fun _ s => (((s.del 4).del 3).del 2))
                                      repeat (first | exact kept_over | refine kept_upd rfl ?_ | refine kept_overS (by decide) ?_)
                            · -- 6
                              refine ei_i rfl rfl (wn_none rfl) (os_alloc (cs := (rootC Root.zero).toArray) zB_30 (by kernel_rfl)) rfl ?_; rintro _ _ ⟨bx8, rfl, rfl⟩; refine ⟨[_], rfl, ?_⟩
                              refine et_2 (i1 := 5) (i2 := 7) (by kernel_rfl) ?_ ?_
                              · -- 5
                                refine ei_i rfl rfl (wn_none rfl) (os_call cb_20 rfl (fun w s => Name_calls _  s )) rfl ?_; rintro _ l ⟨rfl, rfl⟩; refine ⟨[_], rfl, ?_⟩
                                refine et_1 (i := 7) (by kernel_rfl) ?_
                                refine ei_i rfl rfl (wn_none rfl) (os_alloc (cs := (rootC Root.zero).toArray) zB_30 (by kernel_rfl)) rfl ?_; rintro _ _ ⟨bx9, rfl, rfl⟩; refine ⟨[_, _], rfl, ?_⟩
                                refine et_1 (i := 8) (by kernel_rfl) ?_
                                refine ei_iN rfl rfl (wn_none rfl) (os_pull1 (os_storera _ ag_30 rfl rfl (Free.zero _))) ?_; rintro _ _ ⟨rfl, rfl⟩; refine ⟨[_, _], rfl, ?_⟩
                                refine et_1 (i := 9) (by kernel_rfl) ?_
                                refine ei_iN rfl rfl (wn_none rfl) (os_pull1 (os_storera _ ag_30 rfl rfl (Free.zero _))) ?_; rintro _ _ ⟨rfl, rfl⟩; refine ⟨[_, _], rfl, ?_⟩
                                refine et_nil_then (by kernel_rfl) ?_
                                refine cd_seq ?_
                                refine cd_sr ?_   -- 18
                                refine ol_q (wn_none rfl) (op_field fld_54_1 rfl) rfl ?_
                                refine ol_q (wn_none rfl) (op_ld 2 sc_3 rfl rfl (tAddC_a1 _)) rfl ?_
                                refine ol_q (wn_none rfl) (op_eq rfl rfl) rfl ?_
                                refine ol_nil_then ?_
                                refine cd_cond rfl (fun hb25 => ?_) (fun hb25 => ?_)
                                · have hp25 := hb25
                                  (try simp only [decide_eq_true_eq, decide_eq_false_iff_not, Bool.not_eq_true', Bool.not_eq_false', ne_eq, Decidable.not_not] at hp25)
                                  refine cd_region ?_   -- 19
                                  refine ol_q (wn_none rfl) (op_lda (L := rootC _) 5 ag_30 rfl rfl (rootC_take' _) (by simp [rootC_len])) rfl ?_
                                  refine ol_pull1 ?_
                                  refine ol_iN (wn_none rfl) (os_storera _ ag_30 rfl rfl (Free.zero _)) ?_; rintro _ _ ⟨rfl, rfl⟩
                                  refine ol_nil ?_
                                  refine px_then ?_
                                  refine cd_seq ?_
                                  refine cd_sr ?_   -- 20
                                  refine ol_q (wn_none rfl) (op_move (v := .int _ _) rfl) rfl ?_
                                  refine ol_q (wn_none rfl) (op_eq rfl rfl) rfl ?_
                                  refine ol_nil_then ?_
                                  refine cd_cond rfl (fun hb26 => ?_) (fun hb26 => ?_)
                                  · have hp26 := hb26
                                    (try simp only [decide_eq_true_eq, decide_eq_false_iff_not, Bool.not_eq_true', Bool.not_eq_false', ne_eq, Decidable.not_not] at hp26)
                                    refine cd_region ?_   -- 21
                                    refine ol_q (wn_none rfl) (op_lda (L := rootC _) 6 ag_30 rfl rfl (rootC_take' _) (by simp [rootC_len])) rfl ?_
                                    refine ol_pull1 ?_
                                    refine ol_iN (wn_none rfl) (os_storera _ ag_30 rfl rfl (Free.zero _)) ?_; rintro _ _ ⟨rfl, rfl⟩
                                    refine ol_nil ?_
                                    refine px_then ?_
                                    refine cd_pull3 ?_
                                    refine cd_pull4 ?_
                                    refine cd_seq ?_   -- 22
                                    refine cd_draw (M := [_, _]) mx [5, 11] (by kernel_rfl) ?_
                                    refine rg_q (wn_none rfl) (op_move (v := .pointer _) rfl) rfl rfl ?_
                                    refine rg_q (wn_none rfl) (op_lda (L := rootC _) 0 ag_30 rfl rfl (rootC_take' _) (by simp [rootC_len])) rfl rfl ?_
                                    refine rg_q (wn_none rfl) (op_lda (L := rootC _) 1 ag_30 rfl rfl (rootC_take' _) (by simp [rootC_len])) rfl rfl ?_
                                    refine rg_q (wn_none rfl) (op_field fld_54_2 rfl) rfl rfl ?_
                                    refine rg_q (wn_none rfl) (op_ld 2 sc_3 rfl rfl (tAddC_a2 _)) rfl rfl ?_
                                    refine rg_i (wn_none rfl) (os_call cb_22 rfl (fun w s => Add_calls _ _ _ _ _  s )) rfl rfl ?_; rintro _ _ ⟨rfl, rfl⟩; refine ⟨[_, _], rfl, ?_⟩
                                    refine rg_q (wn_none rfl) (op_move (v := .pointer _) rfl) rfl rfl ?_
                                    refine rg_q (wn_none rfl) (op_lda (L := rootC _) 0 ag_30 rfl rfl (rootC_take' _) (by simp [rootC_len])) rfl rfl ?_
                                    refine rg_q (wn_none rfl) (op_lda (L := rootC _) 1 ag_30 rfl rfl (rootC_take' _) (by simp [rootC_len])) rfl rfl ?_
                                    refine rg_q (wn_none rfl) (op_field fld_54_2 rfl) rfl rfl ?_
                                    refine rg_q (wn_none rfl) (op_ld 2 sc_3 rfl rfl (tAddC_a2 _)) rfl rfl ?_
                                    refine rg_i (wn_none rfl) (os_pull1 (os_call cb_32 rfl (fun w s => RAdd_calls _ _ _ _ _  s ))) rfl rfl ?_; rintro _ _ ⟨rfl, rfl⟩; refine ⟨[_, _], rfl, ?_⟩
                                    refine rg_q (wn_none rfl) (op_ne rfl rfl) rfl rfl ?_
                                    refine rg_nil_then2 ?_
                                    refine cd_cond rfl (fun hb27 => ?_) (fun hb27 => ?_)
                                    · have hp27 := hb27
                                      (try simp only [decide_eq_true_eq, decide_eq_false_iff_not, Bool.not_eq_true', Bool.not_eq_false', ne_eq, Decidable.not_not] at hp27)
                                      exact absurd hb27 (by simp)
                                    · have hp27 := hb27
                                      (try simp only [decide_eq_true_eq, decide_eq_false_iff_not, Bool.not_eq_true', Bool.not_eq_false', ne_eq, Decidable.not_not] at hp27)
                                      refine cd_skip ?_
                                      refine px_blockN ?_
                                      refine px_then ?_
                                      refine cd_region ?_   -- 24
                                      refine ol_q (wn_none rfl) (op_add rfl rfl (by omega) (by omega)) rfl ?_
                                      refine ol_q (wn_none rfl) (op_move (v := .int _ _) rfl) rfl ?_
                                      refine ol_nil ?_
                                      refine px_loop2 (i + 1, (u.add odd first xs[i].slot).2) (by dsimp only; omega) (by (try dsimp only); omega) ⟨congrArg (Value.int .i64) (by simp), trivial⟩ ?_ (fun _ s => (((s.del 4).del 3).del 2))
                                      repeat (first | exact kept_over | refine kept_upd rfl ?_ | refine kept_overS (by decide) ?_)
                                  · have hp26 := hb26
                                    (try simp only [decide_eq_true_eq, decide_eq_false_iff_not, Bool.not_eq_true', Bool.not_eq_false', ne_eq, Decidable.not_not] at hp26)
                                    refine cd_skip ?_
                                    refine px_then ?_
                                    refine cd_pull3 ?_
                                    refine cd_pull4 ?_
                                    refine cd_seq ?_   -- 22
                                    refine cd_draw (M := [_, _]) mx [5, 11] (by kernel_rfl) ?_
                                    refine rg_q (wn_none rfl) (op_move (v := .pointer _) rfl) rfl rfl ?_
                                    refine rg_q (wn_none rfl) (op_lda (L := rootC _) 1 ag_30 rfl rfl (rootC_take' _) (by simp [rootC_len])) rfl rfl ?_
                                    refine rg_q (wn_none rfl) (op_lda (L := rootC _) 0 ag_30 rfl rfl (rootC_take' _) (by simp [rootC_len])) rfl rfl ?_
                                    refine rg_q (wn_none rfl) (op_field fld_54_2 rfl) rfl rfl ?_
                                    refine rg_q (wn_none rfl) (op_ld 2 sc_3 rfl rfl (tAddC_a2 _)) rfl rfl ?_
                                    refine rg_i (wn_none rfl) (os_call cb_22 rfl (fun w s => Add_calls _ _ _ _ _  s )) rfl rfl ?_; rintro _ _ ⟨rfl, rfl⟩; refine ⟨[_, _], rfl, ?_⟩
                                    refine rg_q (wn_none rfl) (op_move (v := .pointer _) rfl) rfl rfl ?_
                                    refine rg_q (wn_none rfl) (op_lda (L := rootC _) 1 ag_30 rfl rfl (rootC_take' _) (by simp [rootC_len])) rfl rfl ?_
                                    refine rg_q (wn_none rfl) (op_lda (L := rootC _) 0 ag_30 rfl rfl (rootC_take' _) (by simp [rootC_len])) rfl rfl ?_
                                    refine rg_q (wn_none rfl) (op_field fld_54_2 rfl) rfl rfl ?_
                                    refine rg_q (wn_none rfl) (op_ld 2 sc_3 rfl rfl (tAddC_a2 _)) rfl rfl ?_
                                    refine rg_i (wn_none rfl) (os_pull1 (os_call cb_32 rfl (fun w s => RAdd_calls _ _ _ _ _  s ))) rfl rfl ?_; rintro _ _ ⟨rfl, rfl⟩; refine ⟨[_, _], rfl, ?_⟩
                                    refine rg_q (wn_none rfl) (op_ne rfl rfl) rfl rfl ?_
                                    refine rg_nil_then2 ?_
                                    refine cd_cond rfl (fun hb28 => ?_) (fun hb28 => ?_)
                                    · have hp28 := hb28
                                      (try simp only [decide_eq_true_eq, decide_eq_false_iff_not, Bool.not_eq_true', Bool.not_eq_false', ne_eq, Decidable.not_not] at hp28)
                                      exact absurd hb28 (by simp)
                                    · have hp28 := hb28
                                      (try simp only [decide_eq_true_eq, decide_eq_false_iff_not, Bool.not_eq_true', Bool.not_eq_false', ne_eq, Decidable.not_not] at hp28)
                                      refine cd_skip ?_
                                      refine px_blockN ?_
                                      refine px_then ?_
                                      refine cd_region ?_   -- 24
                                      refine ol_q (wn_none rfl) (op_add rfl rfl (by omega) (by omega)) rfl ?_
                                      refine ol_q (wn_none rfl) (op_move (v := .int _ _) rfl) rfl ?_
                                      refine ol_nil ?_
                                      refine px_loop2 (i + 1, (u.add (nameR xs[i].root) first xs[i].slot).2) (by dsimp only; omega) (by (try dsimp only); omega) ⟨congrArg (Value.int .i64) (by simp), trivial⟩ ?_ (fun _ s => (((s.del 4).del 3).del 2))
                                      repeat (first | exact kept_over | refine kept_upd rfl ?_ | refine kept_overS (by decide) ?_)
                                · have hp25 := hb25
                                  (try simp only [decide_eq_true_eq, decide_eq_false_iff_not, Bool.not_eq_true', Bool.not_eq_false', ne_eq, Decidable.not_not] at hp25)
                                  refine cd_skip ?_
                                  refine px_then ?_
                                  refine cd_seq ?_
                                  refine cd_sr ?_   -- 20
                                  refine ol_q (wn_none rfl) (op_move (v := .int _ _) rfl) rfl ?_
                                  refine ol_q (wn_none rfl) (op_eq rfl rfl) rfl ?_
                                  refine ol_nil_then ?_
                                  refine cd_cond rfl (fun hb29 => ?_) (fun hb29 => ?_)
                                  · have hp29 := hb29
                                    (try simp only [decide_eq_true_eq, decide_eq_false_iff_not, Bool.not_eq_true', Bool.not_eq_false', ne_eq, Decidable.not_not] at hp29)
                                    refine cd_region ?_   -- 21
                                    refine ol_q (wn_none rfl) (op_lda (L := rootC _) 6 ag_30 rfl rfl (rootC_take' _) (by simp [rootC_len])) rfl ?_
                                    refine ol_iN (wn_none rfl) (os_storera _ ag_30 rfl rfl (Free.zero _)) ?_; rintro _ _ ⟨rfl, rfl⟩
                                    refine ol_nil ?_
                                    refine px_then ?_
                                    refine cd_pull3 ?_
                                    refine cd_pull4 ?_
                                    refine cd_seq ?_   -- 22
                                    refine cd_draw (M := [_, _]) mx [5, 11] (by kernel_rfl) ?_
                                    refine rg_q (wn_none rfl) (op_move (v := .pointer _) rfl) rfl rfl ?_
                                    refine rg_q (wn_none rfl) (op_lda (L := rootC _) 0 ag_30 rfl rfl (rootC_take' _) (by simp [rootC_len])) rfl rfl ?_
                                    refine rg_q (wn_none rfl) (op_lda (L := rootC _) 1 ag_30 rfl rfl (rootC_take' _) (by simp [rootC_len])) rfl rfl ?_
                                    refine rg_q (wn_none rfl) (op_field fld_54_2 rfl) rfl rfl ?_
                                    refine rg_q (wn_none rfl) (op_ld 2 sc_3 rfl rfl (tAddC_a2 _)) rfl rfl ?_
                                    refine rg_i (wn_none rfl) (os_call cb_22 rfl (fun w s => Add_calls _ _ _ _ _  s )) rfl rfl ?_; rintro _ _ ⟨rfl, rfl⟩; refine ⟨[_, _], rfl, ?_⟩
                                    refine rg_q (wn_none rfl) (op_move (v := .pointer _) rfl) rfl rfl ?_
                                    refine rg_q (wn_none rfl) (op_lda (L := rootC _) 0 ag_30 rfl rfl (rootC_take' _) (by simp [rootC_len])) rfl rfl ?_
                                    refine rg_q (wn_none rfl) (op_lda (L := rootC _) 1 ag_30 rfl rfl (rootC_take' _) (by simp [rootC_len])) rfl rfl ?_
                                    refine rg_q (wn_none rfl) (op_field fld_54_2 rfl) rfl rfl ?_
                                    refine rg_q (wn_none rfl) (op_ld 2 sc_3 rfl rfl (tAddC_a2 _)) rfl rfl ?_
                                    refine rg_i (wn_none rfl) (os_pull1 (os_call cb_32 rfl (fun w s => RAdd_calls _ _ _ _ _  s ))) rfl rfl ?_; rintro _ _ ⟨rfl, rfl⟩; refine ⟨[_, _], rfl, ?_⟩
                                    refine rg_q (wn_none rfl) (op_ne rfl rfl) rfl rfl ?_
                                    refine rg_nil_then2 ?_
                                    refine cd_cond rfl (fun hb30 => ?_) (fun hb30 => ?_)
                                    · have hp30 := hb30
                                      (try simp only [decide_eq_true_eq, decide_eq_false_iff_not, Bool.not_eq_true', Bool.not_eq_false', ne_eq, Decidable.not_not] at hp30)
                                      exact absurd hb30 (by simp)
                                    · have hp30 := hb30
                                      (try simp only [decide_eq_true_eq, decide_eq_false_iff_not, Bool.not_eq_true', Bool.not_eq_false', ne_eq, Decidable.not_not] at hp30)
                                      refine cd_skip ?_
                                      refine px_blockN ?_
                                      refine px_then ?_
                                      refine cd_region ?_   -- 24
                                      refine ol_q (wn_none rfl) (op_add rfl rfl (by omega) (by omega)) rfl ?_
                                      refine ol_q (wn_none rfl) (op_move (v := .int _ _) rfl) rfl ?_
                                      refine ol_nil ?_
                                      refine px_loop2 (i + 1, (u.add odd (nameR xs[i].parent) xs[i].slot).2) (by dsimp only; omega) (by (try dsimp only); omega) ⟨congrArg (Value.int .i64) (by simp), trivial⟩ ?_ (fun _ s => (((s.del 4).del 3).del 2))
                                      repeat (first | exact kept_over | refine kept_upd rfl ?_ | refine kept_overS (by decide) ?_)
                                  · have hp29 := hb29
                                    (try simp only [decide_eq_true_eq, decide_eq_false_iff_not, Bool.not_eq_true', Bool.not_eq_false', ne_eq, Decidable.not_not] at hp29)
                                    refine cd_skip ?_
                                    refine px_then ?_
                                    refine cd_pull3 ?_
                                    refine cd_pull4 ?_
                                    refine cd_seq ?_   -- 22
                                    refine cd_draw (M := [_, _]) mx [5, 11] (by kernel_rfl) ?_
                                    refine rg_q (wn_none rfl) (op_move (v := .pointer _) rfl) rfl rfl ?_
                                    refine rg_q (wn_none rfl) (op_lda (L := rootC _) 0 ag_30 rfl rfl (rootC_take' _) (by simp [rootC_len])) rfl rfl ?_
                                    refine rg_q (wn_none rfl) (op_lda (L := rootC _) 1 ag_30 rfl rfl (rootC_take' _) (by simp [rootC_len])) rfl rfl ?_
                                    refine rg_q (wn_none rfl) (op_field fld_54_2 rfl) rfl rfl ?_
                                    refine rg_q (wn_none rfl) (op_ld 2 sc_3 rfl rfl (tAddC_a2 _)) rfl rfl ?_
                                    refine rg_i (wn_none rfl) (os_call cb_22 rfl (fun w s => Add_calls _ _ _ _ _  s )) rfl rfl ?_; rintro _ _ ⟨rfl, rfl⟩; refine ⟨[_, _], rfl, ?_⟩
                                    refine rg_q (wn_none rfl) (op_move (v := .pointer _) rfl) rfl rfl ?_
                                    refine rg_q (wn_none rfl) (op_lda (L := rootC _) 0 ag_30 rfl rfl (rootC_take' _) (by simp [rootC_len])) rfl rfl ?_
                                    refine rg_q (wn_none rfl) (op_lda (L := rootC _) 1 ag_30 rfl rfl (rootC_take' _) (by simp [rootC_len])) rfl rfl ?_
                                    refine rg_q (wn_none rfl) (op_field fld_54_2 rfl) rfl rfl ?_
                                    refine rg_q (wn_none rfl) (op_ld 2 sc_3 rfl rfl (tAddC_a2 _)) rfl rfl ?_
                                    refine rg_i (wn_none rfl) (os_pull1 (os_call cb_32 rfl (fun w s => RAdd_calls _ _ _ _ _  s ))) rfl rfl ?_; rintro _ _ ⟨rfl, rfl⟩; refine ⟨[_, _], rfl, ?_⟩
                                    refine rg_q (wn_none rfl) (op_ne rfl rfl) rfl rfl ?_
                                    refine rg_nil_then2 ?_
                                    refine cd_cond rfl (fun hb31 => ?_) (fun hb31 => ?_)
                                    · have hp31 := hb31
                                      (try simp only [decide_eq_true_eq, decide_eq_false_iff_not, Bool.not_eq_true', Bool.not_eq_false', ne_eq, Decidable.not_not] at hp31)
                                      exact absurd hb31 (by simp)
                                    · have hp31 := hb31
                                      (try simp only [decide_eq_true_eq, decide_eq_false_iff_not, Bool.not_eq_true', Bool.not_eq_false', ne_eq, Decidable.not_not] at hp31)
                                      refine cd_skip ?_
                                      refine px_blockN ?_
                                      refine px_then ?_
                                      refine cd_region ?_   -- 24
                                      refine ol_q (wn_none rfl) (op_add rfl rfl (by omega) (by omega)) rfl ?_
                                      refine ol_q (wn_none rfl) (op_move (v := .int _ _) rfl) rfl ?_
                                      refine ol_nil ?_
                                      refine px_loop2 (i + 1, (u.add (nameR xs[i].root) (nameR xs[i].parent) xs[i].slot).2) (by dsimp only; omega) (by (try dsimp only); omega) ⟨congrArg (Value.int .i64) (by simp), trivial⟩ ?_ (fun _ s => (((s.del 4).del 3).del 2))
                                      repeat (first | exact kept_over | refine kept_upd rfl ?_ | refine kept_overS (by decide) ?_)
                              · -- 7
                                refine ei_i rfl rfl (wn_none rfl) (os_alloc (cs := (rootC Root.zero).toArray) zB_30 (by kernel_rfl)) rfl ?_; rintro _ _ ⟨bx10, rfl, rfl⟩; refine ⟨[_, _], rfl, ?_⟩
                                refine et_1 (i := 5) (by kernel_rfl) ?_
                                refine ei_i rfl rfl (wn_none rfl) (os_call cb_20 rfl (fun w s => Name_calls _  s )) rfl ?_; rintro _ l ⟨rfl, rfl⟩; refine ⟨[_, _], rfl, ?_⟩
                                refine et_1 (i := 8) (by kernel_rfl) ?_
                                refine ei_iN rfl rfl (wn_none rfl) (os_pull1 (os_storera _ ag_30 rfl rfl (Free.zero _))) ?_; rintro _ _ ⟨rfl, rfl⟩; refine ⟨[_, _], rfl, ?_⟩
                                refine et_1 (i := 9) (by kernel_rfl) ?_
                                refine ei_iN rfl rfl (wn_none rfl) (os_pull1 (os_storera _ ag_30 rfl rfl (Free.zero _))) ?_; rintro _ _ ⟨rfl, rfl⟩; refine ⟨[_, _], rfl, ?_⟩
                                refine et_nil_then (by kernel_rfl) ?_
                                refine cd_seq ?_
                                refine cd_sr ?_   -- 18
                                refine ol_q (wn_none rfl) (op_field fld_54_1 rfl) rfl ?_
                                refine ol_q (wn_none rfl) (op_ld 2 sc_3 rfl rfl (tAddC_a1 _)) rfl ?_
                                refine ol_q (wn_none rfl) (op_eq rfl rfl) rfl ?_
                                refine ol_nil_then ?_
                                refine cd_cond rfl (fun hb32 => ?_) (fun hb32 => ?_)
                                · have hp32 := hb32
                                  (try simp only [decide_eq_true_eq, decide_eq_false_iff_not, Bool.not_eq_true', Bool.not_eq_false', ne_eq, Decidable.not_not] at hp32)
                                  refine cd_region ?_   -- 19
                                  refine ol_q (wn_none rfl) (op_lda (L := rootC _) 5 ag_30 rfl rfl (rootC_take' _) (by simp [rootC_len])) rfl ?_
                                  refine ol_pull1 ?_
                                  refine ol_iN (wn_none rfl) (os_storera _ ag_30 rfl rfl (Free.zero _)) ?_; rintro _ _ ⟨rfl, rfl⟩
                                  refine ol_nil ?_
                                  refine px_then ?_
                                  refine cd_seq ?_
                                  refine cd_sr ?_   -- 20
                                  refine ol_q (wn_none rfl) (op_move (v := .int _ _) rfl) rfl ?_
                                  refine ol_q (wn_none rfl) (op_eq rfl rfl) rfl ?_
                                  refine ol_nil_then ?_
                                  refine cd_cond rfl (fun hb33 => ?_) (fun hb33 => ?_)
                                  · have hp33 := hb33
                                    (try simp only [decide_eq_true_eq, decide_eq_false_iff_not, Bool.not_eq_true', Bool.not_eq_false', ne_eq, Decidable.not_not] at hp33)
                                    refine cd_region ?_   -- 21
                                    refine ol_q (wn_none rfl) (op_lda (L := rootC _) 6 ag_30 rfl rfl (rootC_take' _) (by simp [rootC_len])) rfl ?_
                                    refine ol_pull1 ?_
                                    refine ol_iN (wn_none rfl) (os_storera _ ag_30 rfl rfl (Free.zero _)) ?_; rintro _ _ ⟨rfl, rfl⟩
                                    refine ol_nil ?_
                                    refine px_then ?_
                                    refine cd_pull3 ?_
                                    refine cd_pull4 ?_
                                    refine cd_seq ?_   -- 22
                                    refine cd_draw (M := [_, _]) mx [5, 11] (by kernel_rfl) ?_
                                    refine rg_q (wn_none rfl) (op_move (v := .pointer _) rfl) rfl rfl ?_
                                    refine rg_q (wn_none rfl) (op_lda (L := rootC _) 0 ag_30 rfl rfl (rootC_take' _) (by simp [rootC_len])) rfl rfl ?_
                                    refine rg_q (wn_none rfl) (op_lda (L := rootC _) 1 ag_30 rfl rfl (rootC_take' _) (by simp [rootC_len])) rfl rfl ?_
                                    refine rg_q (wn_none rfl) (op_field fld_54_2 rfl) rfl rfl ?_
                                    refine rg_q (wn_none rfl) (op_ld 2 sc_3 rfl rfl (tAddC_a2 _)) rfl rfl ?_
                                    refine rg_i (wn_none rfl) (os_call cb_22 rfl (fun w s => Add_calls _ _ _ _ _  s )) rfl rfl ?_; rintro _ _ ⟨rfl, rfl⟩; refine ⟨[_, _], rfl, ?_⟩
                                    refine rg_q (wn_none rfl) (op_move (v := .pointer _) rfl) rfl rfl ?_
                                    refine rg_q (wn_none rfl) (op_lda (L := rootC _) 0 ag_30 rfl rfl (rootC_take' _) (by simp [rootC_len])) rfl rfl ?_
                                    refine rg_q (wn_none rfl) (op_lda (L := rootC _) 1 ag_30 rfl rfl (rootC_take' _) (by simp [rootC_len])) rfl rfl ?_
                                    refine rg_q (wn_none rfl) (op_field fld_54_2 rfl) rfl rfl ?_
                                    refine rg_q (wn_none rfl) (op_ld 2 sc_3 rfl rfl (tAddC_a2 _)) rfl rfl ?_
                                    refine rg_i (wn_none rfl) (os_pull1 (os_call cb_32 rfl (fun w s => RAdd_calls _ _ _ _ _  s ))) rfl rfl ?_; rintro _ _ ⟨rfl, rfl⟩; refine ⟨[_, _], rfl, ?_⟩
                                    refine rg_q (wn_none rfl) (op_ne rfl rfl) rfl rfl ?_
                                    refine rg_nil_then2 ?_
                                    refine cd_cond rfl (fun hb34 => ?_) (fun hb34 => ?_)
                                    · have hp34 := hb34
                                      (try simp only [decide_eq_true_eq, decide_eq_false_iff_not, Bool.not_eq_true', Bool.not_eq_false', ne_eq, Decidable.not_not] at hp34)
                                      exact absurd hb34 (by simp)
                                    · have hp34 := hb34
                                      (try simp only [decide_eq_true_eq, decide_eq_false_iff_not, Bool.not_eq_true', Bool.not_eq_false', ne_eq, Decidable.not_not] at hp34)
                                      refine cd_skip ?_
                                      refine px_blockN ?_
                                      refine px_then ?_
                                      refine cd_region ?_   -- 24
                                      refine ol_q (wn_none rfl) (op_add rfl rfl (by omega) (by omega)) rfl ?_
                                      refine ol_q (wn_none rfl) (op_move (v := .int _ _) rfl) rfl ?_
                                      refine ol_nil ?_
                                      refine px_loop2 (i + 1, (u.add odd first xs[i].slot).2) (by dsimp only; omega) (by (try dsimp only); omega) ⟨congrArg (Value.int .i64) (by simp), trivial⟩ ?_ (fun _ s => (((s.del 4).del 3).del 2))
                                      repeat (first | exact kept_over | refine kept_upd rfl ?_ | refine kept_overS (by decide) ?_)
                                  · have hp33 := hb33
                                    (try simp only [decide_eq_true_eq, decide_eq_false_iff_not, Bool.not_eq_true', Bool.not_eq_false', ne_eq, Decidable.not_not] at hp33)
                                    refine cd_skip ?_
                                    refine px_then ?_
                                    refine cd_pull3 ?_
                                    refine cd_pull4 ?_
                                    refine cd_seq ?_   -- 22
                                    refine cd_draw (M := [_, _]) mx [5, 11] (by kernel_rfl) ?_
                                    refine rg_q (wn_none rfl) (op_move (v := .pointer _) rfl) rfl rfl ?_
                                    refine rg_q (wn_none rfl) (op_lda (L := rootC _) 1 ag_30 rfl rfl (rootC_take' _) (by simp [rootC_len])) rfl rfl ?_
                                    refine rg_q (wn_none rfl) (op_lda (L := rootC _) 0 ag_30 rfl rfl (rootC_take' _) (by simp [rootC_len])) rfl rfl ?_
                                    refine rg_q (wn_none rfl) (op_field fld_54_2 rfl) rfl rfl ?_
                                    refine rg_q (wn_none rfl) (op_ld 2 sc_3 rfl rfl (tAddC_a2 _)) rfl rfl ?_
                                    refine rg_i (wn_none rfl) (os_call cb_22 rfl (fun w s => Add_calls _ _ _ _ _  s )) rfl rfl ?_; rintro _ _ ⟨rfl, rfl⟩; refine ⟨[_, _], rfl, ?_⟩
                                    refine rg_q (wn_none rfl) (op_move (v := .pointer _) rfl) rfl rfl ?_
                                    refine rg_q (wn_none rfl) (op_lda (L := rootC _) 1 ag_30 rfl rfl (rootC_take' _) (by simp [rootC_len])) rfl rfl ?_
                                    refine rg_q (wn_none rfl) (op_lda (L := rootC _) 0 ag_30 rfl rfl (rootC_take' _) (by simp [rootC_len])) rfl rfl ?_
                                    refine rg_q (wn_none rfl) (op_field fld_54_2 rfl) rfl rfl ?_
                                    refine rg_q (wn_none rfl) (op_ld 2 sc_3 rfl rfl (tAddC_a2 _)) rfl rfl ?_
                                    refine rg_i (wn_none rfl) (os_pull1 (os_call cb_32 rfl (fun w s => RAdd_calls _ _ _ _ _  s ))) rfl rfl ?_; rintro _ _ ⟨rfl, rfl⟩; refine ⟨[_, _], rfl, ?_⟩
                                    refine rg_q (wn_none rfl) (op_ne rfl rfl) rfl rfl ?_
                                    refine rg_nil_then2 ?_
                                    refine cd_cond rfl (fun hb35 => ?_) (fun hb35 => ?_)
                                    · have hp35 := hb35
                                      (try simp only [decide_eq_true_eq, decide_eq_false_iff_not, Bool.not_eq_true', Bool.not_eq_false', ne_eq, Decidable.not_not] at hp35)
                                      exact absurd hb35 (by simp)
                                    · have hp35 := hb35
                                      (try simp only [decide_eq_true_eq, decide_eq_false_iff_not, Bool.not_eq_true', Bool.not_eq_false', ne_eq, Decidable.not_not] at hp35)
                                      refine cd_skip ?_
                                      refine px_blockN ?_
                                      refine px_then ?_
                                      refine cd_region ?_   -- 24
                                      refine ol_q (wn_none rfl) (op_add rfl rfl (by omega) (by omega)) rfl ?_
                                      refine ol_q (wn_none rfl) (op_move (v := .int _ _) rfl) rfl ?_
                                      refine ol_nil ?_
                                      refine px_loop2 (i + 1, (u.add (nameR xs[i].root) first xs[i].slot).2) (by dsimp only; omega) (by (try dsimp only); omega) ⟨congrArg (Value.int .i64) (by simp), trivial⟩ ?_ (fun _ s => (((s.del 4).del 3).del 2))
                                      repeat (first | exact kept_over | refine kept_upd rfl ?_ | refine kept_overS (by decide) ?_)
                                · have hp32 := hb32
                                  (try simp only [decide_eq_true_eq, decide_eq_false_iff_not, Bool.not_eq_true', Bool.not_eq_false', ne_eq, Decidable.not_not] at hp32)
                                  refine cd_skip ?_
                                  refine px_then ?_
                                  refine cd_seq ?_
                                  refine cd_sr ?_   -- 20
                                  refine ol_q (wn_none rfl) (op_move (v := .int _ _) rfl) rfl ?_
                                  refine ol_q (wn_none rfl) (op_eq rfl rfl) rfl ?_
                                  refine ol_nil_then ?_
                                  refine cd_cond rfl (fun hb36 => ?_) (fun hb36 => ?_)
                                  · have hp36 := hb36
                                    (try simp only [decide_eq_true_eq, decide_eq_false_iff_not, Bool.not_eq_true', Bool.not_eq_false', ne_eq, Decidable.not_not] at hp36)
                                    refine cd_region ?_   -- 21
                                    refine ol_q (wn_none rfl) (op_lda (L := rootC _) 6 ag_30 rfl rfl (rootC_take' _) (by simp [rootC_len])) rfl ?_
                                    refine ol_iN (wn_none rfl) (os_storera _ ag_30 rfl rfl (Free.zero _)) ?_; rintro _ _ ⟨rfl, rfl⟩
                                    refine ol_nil ?_
                                    refine px_then ?_
                                    refine cd_pull3 ?_
                                    refine cd_pull4 ?_
                                    refine cd_seq ?_   -- 22
                                    refine cd_draw (M := [_, _]) mx [5, 11] (by kernel_rfl) ?_
                                    refine rg_q (wn_none rfl) (op_move (v := .pointer _) rfl) rfl rfl ?_
                                    refine rg_q (wn_none rfl) (op_lda (L := rootC _) 0 ag_30 rfl rfl (rootC_take' _) (by simp [rootC_len])) rfl rfl ?_
                                    refine rg_q (wn_none rfl) (op_lda (L := rootC _) 1 ag_30 rfl rfl (rootC_take' _) (by simp [rootC_len])) rfl rfl ?_
                                    refine rg_q (wn_none rfl) (op_field fld_54_2 rfl) rfl rfl ?_
                                    refine rg_q (wn_none rfl) (op_ld 2 sc_3 rfl rfl (tAddC_a2 _)) rfl rfl ?_
                                    refine rg_i (wn_none rfl) (os_call cb_22 rfl (fun w s => Add_calls _ _ _ _ _  s )) rfl rfl ?_; rintro _ _ ⟨rfl, rfl⟩; refine ⟨[_, _], rfl, ?_⟩
                                    refine rg_q (wn_none rfl) (op_move (v := .pointer _) rfl) rfl rfl ?_
                                    refine rg_q (wn_none rfl) (op_lda (L := rootC _) 0 ag_30 rfl rfl (rootC_take' _) (by simp [rootC_len])) rfl rfl ?_
                                    refine rg_q (wn_none rfl) (op_lda (L := rootC _) 1 ag_30 rfl rfl (rootC_take' _) (by simp [rootC_len])) rfl rfl ?_
                                    refine rg_q (wn_none rfl) (op_field fld_54_2 rfl) rfl rfl ?_
                                    refine rg_q (wn_none rfl) (op_ld 2 sc_3 rfl rfl (tAddC_a2 _)) rfl rfl ?_
                                    refine rg_i (wn_none rfl) (os_pull1 (os_call cb_32 rfl (fun w s => RAdd_calls _ _ _ _ _  s ))) rfl rfl ?_; rintro _ _ ⟨rfl, rfl⟩; refine ⟨[_, _], rfl, ?_⟩
                                    refine rg_q (wn_none rfl) (op_ne rfl rfl) rfl rfl ?_
                                    refine rg_nil_then2 ?_
                                    refine cd_cond rfl (fun hb37 => ?_) (fun hb37 => ?_)
                                    · have hp37 := hb37
                                      (try simp only [decide_eq_true_eq, decide_eq_false_iff_not, Bool.not_eq_true', Bool.not_eq_false', ne_eq, Decidable.not_not] at hp37)
                                      exact absurd hb37 (by simp)
                                    · have hp37 := hb37
                                      (try simp only [decide_eq_true_eq, decide_eq_false_iff_not, Bool.not_eq_true', Bool.not_eq_false', ne_eq, Decidable.not_not] at hp37)
                                      refine cd_skip ?_
                                      refine px_blockN ?_
                                      refine px_then ?_
                                      refine cd_region ?_   -- 24
                                      refine ol_q (wn_none rfl) (op_add rfl rfl (by omega) (by omega)) rfl ?_
                                      refine ol_q (wn_none rfl) (op_move (v := .int _ _) rfl) rfl ?_
                                      refine ol_nil ?_
                                      refine px_loop2 (i + 1, (u.add odd (nameR xs[i].parent) xs[i].slot).2) (by dsimp only; omega) (by (try dsimp only); omega) ⟨congrArg (Value.int .i64) (by simp), trivial⟩ ?_ (fun _ s => (((s.del 4).del 3).del 2))
                                      repeat (first | exact kept_over | refine kept_upd rfl ?_ | refine kept_overS (by decide) ?_)
                                  · have hp36 := hb36
                                    (try simp only [decide_eq_true_eq, decide_eq_false_iff_not, Bool.not_eq_true', Bool.not_eq_false', ne_eq, Decidable.not_not] at hp36)
                                    refine cd_skip ?_
                                    refine px_then ?_
                                    refine cd_pull3 ?_
                                    refine cd_pull4 ?_
                                    refine cd_seq ?_   -- 22
                                    refine cd_draw (M := [_, _]) mx [5, 11] (by kernel_rfl) ?_
                                    refine rg_q (wn_none rfl) (op_move (v := .pointer _) rfl) rfl rfl ?_
                                    refine rg_q (wn_none rfl) (op_lda (L := rootC _) 0 ag_30 rfl rfl (rootC_take' _) (by simp [rootC_len])) rfl rfl ?_
                                    refine rg_q (wn_none rfl) (op_lda (L := rootC _) 1 ag_30 rfl rfl (rootC_take' _) (by simp [rootC_len])) rfl rfl ?_
                                    refine rg_q (wn_none rfl) (op_field fld_54_2 rfl) rfl rfl ?_
                                    refine rg_q (wn_none rfl) (op_ld 2 sc_3 rfl rfl (tAddC_a2 _)) rfl rfl ?_
                                    refine rg_i (wn_none rfl) (os_call cb_22 rfl (fun w s => Add_calls _ _ _ _ _  s )) rfl rfl ?_; rintro _ _ ⟨rfl, rfl⟩; refine ⟨[_, _], rfl, ?_⟩
                                    refine rg_q (wn_none rfl) (op_move (v := .pointer _) rfl) rfl rfl ?_
                                    refine rg_q (wn_none rfl) (op_lda (L := rootC _) 0 ag_30 rfl rfl (rootC_take' _) (by simp [rootC_len])) rfl rfl ?_
                                    refine rg_q (wn_none rfl) (op_lda (L := rootC _) 1 ag_30 rfl rfl (rootC_take' _) (by simp [rootC_len])) rfl rfl ?_
                                    refine rg_q (wn_none rfl) (op_field fld_54_2 rfl) rfl rfl ?_
                                    refine rg_q (wn_none rfl) (op_ld 2 sc_3 rfl rfl (tAddC_a2 _)) rfl rfl ?_
                                    refine rg_i (wn_none rfl) (os_pull1 (os_call cb_32 rfl (fun w s => RAdd_calls _ _ _ _ _  s ))) rfl rfl ?_; rintro _ _ ⟨rfl, rfl⟩; refine ⟨[_, _], rfl, ?_⟩
                                    refine rg_q (wn_none rfl) (op_ne rfl rfl) rfl rfl ?_
                                    refine rg_nil_then2 ?_
                                    refine cd_cond rfl (fun hb38 => ?_) (fun hb38 => ?_)
                                    · have hp38 := hb38
                                      (try simp only [decide_eq_true_eq, decide_eq_false_iff_not, Bool.not_eq_true', Bool.not_eq_false', ne_eq, Decidable.not_not] at hp38)
                                      exact absurd hb38 (by simp)
                                    · have hp38 := hb38
                                      (try simp only [decide_eq_true_eq, decide_eq_false_iff_not, Bool.not_eq_true', Bool.not_eq_false', ne_eq, Decidable.not_not] at hp38)
                                      refine cd_skip ?_
                                      refine px_blockN ?_
                                      refine px_then ?_
                                      refine cd_region ?_   -- 24
                                      refine ol_q (wn_none rfl) (op_add rfl rfl (by omega) (by omega)) rfl ?_
                                      refine ol_q (wn_none rfl) (op_move (v := .int _ _) rfl) rfl ?_
                                      refine ol_nil ?_
                                      refine px_loop2 (i + 1, (u.add (nameR xs[i].root) (nameR xs[i].parent) xs[i].slot).2) (by dsimp only; omega) (by (try dsimp only); omega) ⟨congrArg (Value.int .i64) (by simp), trivial⟩ ?_ (fun _ s => (((s.del 4).del 3).del 2))
                                      repeat (first | exact kept_over | refine kept_upd rfl ?_ | refine kept_overS (by decide) ?_)
                            · -- 7
                              refine ei_i rfl rfl (wn_none rfl) (os_alloc (cs := (rootC Root.zero).toArray) zB_30 (by kernel_rfl)) rfl ?_; rintro _ _ ⟨bx11, rfl, rfl⟩; refine ⟨[_], rfl, ?_⟩
                              refine et_2 (i1 := 5) (i2 := 6) (by kernel_rfl) ?_ ?_
                              · -- 5
                                refine ei_i rfl rfl (wn_none rfl) (os_call cb_20 rfl (fun w s => Name_calls _  s )) rfl ?_; rintro _ l ⟨rfl, rfl⟩; refine ⟨[_], rfl, ?_⟩
                                refine et_1 (i := 6) (by kernel_rfl) ?_
                                refine ei_i rfl rfl (wn_none rfl) (os_alloc (cs := (rootC Root.zero).toArray) zB_30 (by kernel_rfl)) rfl ?_; rintro _ _ ⟨bx12, rfl, rfl⟩; refine ⟨[_, _], rfl, ?_⟩
                                refine et_1 (i := 8) (by kernel_rfl) ?_
                                refine ei_iN rfl rfl (wn_none rfl) (os_storera _ ag_30 rfl rfl (Free.zero _)) ?_; rintro _ _ ⟨rfl, rfl⟩; refine ⟨[_, _], rfl, ?_⟩
                                refine et_1 (i := 9) (by kernel_rfl) ?_
                                refine ei_iN rfl rfl (wn_none rfl) (os_pull1 (os_storera _ ag_30 rfl rfl (Free.zero _))) ?_; rintro _ _ ⟨rfl, rfl⟩; refine ⟨[_, _], rfl, ?_⟩
                                refine et_nil_then (by kernel_rfl) ?_
                                refine cd_seq ?_
                                refine cd_sr ?_   -- 18
                                refine ol_q (wn_none rfl) (op_field fld_54_1 rfl) rfl ?_
                                refine ol_q (wn_none rfl) (op_ld 2 sc_3 rfl rfl (tAddC_a1 _)) rfl ?_
                                refine ol_q (wn_none rfl) (op_eq rfl rfl) rfl ?_
                                refine ol_nil_then ?_
                                refine cd_cond rfl (fun hb39 => ?_) (fun hb39 => ?_)
                                · have hp39 := hb39
                                  (try simp only [decide_eq_true_eq, decide_eq_false_iff_not, Bool.not_eq_true', Bool.not_eq_false', ne_eq, Decidable.not_not] at hp39)
                                  refine cd_region ?_   -- 19
                                  refine ol_q (wn_none rfl) (op_lda (L := rootC _) 5 ag_30 rfl rfl (rootC_take' _) (by simp [rootC_len])) rfl ?_
                                  refine ol_pull1 ?_
                                  refine ol_iN (wn_none rfl) (os_storera _ ag_30 rfl rfl (Free.zero _)) ?_; rintro _ _ ⟨rfl, rfl⟩
                                  refine ol_nil ?_
                                  refine px_then ?_
                                  refine cd_seq ?_
                                  refine cd_sr ?_   -- 20
                                  refine ol_q (wn_none rfl) (op_move (v := .int _ _) rfl) rfl ?_
                                  refine ol_q (wn_none rfl) (op_eq rfl rfl) rfl ?_
                                  refine ol_nil_then ?_
                                  refine cd_cond rfl (fun hb40 => ?_) (fun hb40 => ?_)
                                  · have hp40 := hb40
                                    (try simp only [decide_eq_true_eq, decide_eq_false_iff_not, Bool.not_eq_true', Bool.not_eq_false', ne_eq, Decidable.not_not] at hp40)
                                    refine cd_region ?_   -- 21
                                    refine ol_q (wn_none rfl) (op_lda (L := rootC _) 6 ag_30 rfl rfl (rootC_take' _) (by simp [rootC_len])) rfl ?_
                                    refine ol_pull1 ?_
                                    refine ol_iN (wn_none rfl) (os_storera _ ag_30 rfl rfl (Free.zero _)) ?_; rintro _ _ ⟨rfl, rfl⟩
                                    refine ol_nil ?_
                                    refine px_then ?_
                                    refine cd_pull3 ?_
                                    refine cd_pull4 ?_
                                    refine cd_seq ?_   -- 22
                                    refine cd_draw (M := [_, _]) mx [5, 11] (by kernel_rfl) ?_
                                    refine rg_q (wn_none rfl) (op_move (v := .pointer _) rfl) rfl rfl ?_
                                    refine rg_q (wn_none rfl) (op_lda (L := rootC _) 0 ag_30 rfl rfl (rootC_take' _) (by simp [rootC_len])) rfl rfl ?_
                                    refine rg_q (wn_none rfl) (op_lda (L := rootC _) 1 ag_30 rfl rfl (rootC_take' _) (by simp [rootC_len])) rfl rfl ?_
                                    refine rg_q (wn_none rfl) (op_field fld_54_2 rfl) rfl rfl ?_
                                    refine rg_q (wn_none rfl) (op_ld 2 sc_3 rfl rfl (tAddC_a2 _)) rfl rfl ?_
                                    refine rg_i (wn_none rfl) (os_call cb_22 rfl (fun w s => Add_calls _ _ _ _ _  s )) rfl rfl ?_; rintro _ _ ⟨rfl, rfl⟩; refine ⟨[_, _], rfl, ?_⟩
                                    refine rg_q (wn_none rfl) (op_move (v := .pointer _) rfl) rfl rfl ?_
                                    refine rg_q (wn_none rfl) (op_lda (L := rootC _) 0 ag_30 rfl rfl (rootC_take' _) (by simp [rootC_len])) rfl rfl ?_
                                    refine rg_q (wn_none rfl) (op_lda (L := rootC _) 1 ag_30 rfl rfl (rootC_take' _) (by simp [rootC_len])) rfl rfl ?_
                                    refine rg_q (wn_none rfl) (op_field fld_54_2 rfl) rfl rfl ?_
                                    refine rg_q (wn_none rfl) (op_ld 2 sc_3 rfl rfl (tAddC_a2 _)) rfl rfl ?_
                                    refine rg_i (wn_none rfl) (os_pull1 (os_call cb_32 rfl (fun w s => RAdd_calls _ _ _ _ _  s ))) rfl rfl ?_; rintro _ _ ⟨rfl, rfl⟩; refine ⟨[_, _], rfl, ?_⟩
                                    refine rg_q (wn_none rfl) (op_ne rfl rfl) rfl rfl ?_
                                    refine rg_nil_then2 ?_
                                    refine cd_cond rfl (fun hb41 => ?_) (fun hb41 => ?_)
                                    · have hp41 := hb41
                                      (try simp only [decide_eq_true_eq, decide_eq_false_iff_not, Bool.not_eq_true', Bool.not_eq_false', ne_eq, Decidable.not_not] at hp41)
                                      exact absurd hb41 (by simp)
                                    · have hp41 := hb41
                                      (try simp only [decide_eq_true_eq, decide_eq_false_iff_not, Bool.not_eq_true', Bool.not_eq_false', ne_eq, Decidable.not_not] at hp41)
                                      refine cd_skip ?_
                                      refine px_blockN ?_
                                      refine px_then ?_
                                      refine cd_region ?_   -- 24
                                      refine ol_q (wn_none rfl) (op_add rfl rfl (by omega) (by omega)) rfl ?_
                                      refine ol_q (wn_none rfl) (op_move (v := .int _ _) rfl) rfl ?_
                                      refine ol_nil ?_
                                      refine px_loop2 (i + 1, (u.add odd first xs[i].slot).2) (by dsimp only; omega) (by (try dsimp only); omega) ⟨congrArg (Value.int .i64) (by simp), trivial⟩ ?_ (fun _ s => (((s.del 4).del 3).del 2))
                                      repeat (first | exact kept_over | refine kept_upd rfl ?_ | refine kept_overS (by decide) ?_)
                                  · have hp40 := hb40
                                    (try simp only [decide_eq_true_eq, decide_eq_false_iff_not, Bool.not_eq_true', Bool.not_eq_false', ne_eq, Decidable.not_not] at hp40)
                                    refine cd_skip ?_
                                    refine px_then ?_
                                    refine cd_pull3 ?_
                                    refine cd_pull4 ?_
                                    refine cd_seq ?_   -- 22
                                    refine cd_draw (M := [_, _]) mx [5, 11] (by kernel_rfl) ?_
                                    refine rg_q (wn_none rfl) (op_move (v := .pointer _) rfl) rfl rfl ?_
                                    refine rg_q (wn_none rfl) (op_lda (L := rootC _) 1 ag_30 rfl rfl (rootC_take' _) (by simp [rootC_len])) rfl rfl ?_
                                    refine rg_q (wn_none rfl) (op_lda (L := rootC _) 0 ag_30 rfl rfl (rootC_take' _) (by simp [rootC_len])) rfl rfl ?_
                                    refine rg_q (wn_none rfl) (op_field fld_54_2 rfl) rfl rfl ?_
                                    refine rg_q (wn_none rfl) (op_ld 2 sc_3 rfl rfl (tAddC_a2 _)) rfl rfl ?_
                                    refine rg_i (wn_none rfl) (os_call cb_22 rfl (fun w s => Add_calls _ _ _ _ _  s )) rfl rfl ?_; rintro _ _ ⟨rfl, rfl⟩; refine ⟨[_, _], rfl, ?_⟩
                                    refine rg_q (wn_none rfl) (op_move (v := .pointer _) rfl) rfl rfl ?_
                                    refine rg_q (wn_none rfl) (op_lda (L := rootC _) 1 ag_30 rfl rfl (rootC_take' _) (by simp [rootC_len])) rfl rfl ?_
                                    refine rg_q (wn_none rfl) (op_lda (L := rootC _) 0 ag_30 rfl rfl (rootC_take' _) (by simp [rootC_len])) rfl rfl ?_
                                    refine rg_q (wn_none rfl) (op_field fld_54_2 rfl) rfl rfl ?_
                                    refine rg_q (wn_none rfl) (op_ld 2 sc_3 rfl rfl (tAddC_a2 _)) rfl rfl ?_
                                    refine rg_i (wn_none rfl) (os_pull1 (os_call cb_32 rfl (fun w s => RAdd_calls _ _ _ _ _  s ))) rfl rfl ?_; rintro _ _ ⟨rfl, rfl⟩; refine ⟨[_, _], rfl, ?_⟩
                                    refine rg_q (wn_none rfl) (op_ne rfl rfl) rfl rfl ?_
                                    refine rg_nil_then2 ?_
                                    refine cd_cond rfl (fun hb42 => ?_) (fun hb42 => ?_)
                                    · have hp42 := hb42
                                      (try simp only [decide_eq_true_eq, decide_eq_false_iff_not, Bool.not_eq_true', Bool.not_eq_false', ne_eq, Decidable.not_not] at hp42)
                                      exact absurd hb42 (by simp)
                                    · have hp42 := hb42
                                      (try simp only [decide_eq_true_eq, decide_eq_false_iff_not, Bool.not_eq_true', Bool.not_eq_false', ne_eq, Decidable.not_not] at hp42)
                                      refine cd_skip ?_
                                      refine px_blockN ?_
                                      refine px_then ?_
                                      refine cd_region ?_   -- 24
                                      refine ol_q (wn_none rfl) (op_add rfl rfl (by omega) (by omega)) rfl ?_
                                      refine ol_q (wn_none rfl) (op_move (v := .int _ _) rfl) rfl ?_
                                      refine ol_nil ?_
                                      refine px_loop2 (i + 1, (u.add (nameR xs[i].root) first xs[i].slot).2) (by dsimp only; omega) (by (try dsimp only); omega) ⟨congrArg (Value.int .i64) (by simp), trivial⟩ ?_ (fun _ s => (((s.del 4).del 3).del 2))
                                      repeat (first | exact kept_over | refine kept_upd rfl ?_ | refine kept_overS (by decide) ?_)
                                · have hp39 := hb39
                                  (try simp only [decide_eq_true_eq, decide_eq_false_iff_not, Bool.not_eq_true', Bool.not_eq_false', ne_eq, Decidable.not_not] at hp39)
                                  refine cd_skip ?_
                                  refine px_then ?_
                                  refine cd_seq ?_
                                  refine cd_sr ?_   -- 20
                                  refine ol_q (wn_none rfl) (op_move (v := .int _ _) rfl) rfl ?_
                                  refine ol_q (wn_none rfl) (op_eq rfl rfl) rfl ?_
                                  refine ol_nil_then ?_
                                  refine cd_cond rfl (fun hb43 => ?_) (fun hb43 => ?_)
                                  · have hp43 := hb43
                                    (try simp only [decide_eq_true_eq, decide_eq_false_iff_not, Bool.not_eq_true', Bool.not_eq_false', ne_eq, Decidable.not_not] at hp43)
                                    refine cd_region ?_   -- 21
                                    refine ol_q (wn_none rfl) (op_lda (L := rootC _) 6 ag_30 rfl rfl (rootC_take' _) (by simp [rootC_len])) rfl ?_
                                    refine ol_iN (wn_none rfl) (os_storera _ ag_30 rfl rfl (Free.zero _)) ?_; rintro _ _ ⟨rfl, rfl⟩
                                    refine ol_nil ?_
                                    refine px_then ?_
                                    refine cd_pull3 ?_
                                    refine cd_pull4 ?_
                                    refine cd_seq ?_   -- 22
                                    refine cd_draw (M := [_, _]) mx [5, 11] (by kernel_rfl) ?_
                                    refine rg_q (wn_none rfl) (op_move (v := .pointer _) rfl) rfl rfl ?_
                                    refine rg_q (wn_none rfl) (op_lda (L := rootC _) 0 ag_30 rfl rfl (rootC_take' _) (by simp [rootC_len])) rfl rfl ?_
                                    refine rg_q (wn_none rfl) (op_lda (L := rootC _) 1 ag_30 rfl rfl (rootC_take' _) (by simp [rootC_len])) rfl rfl ?_
                                    refine rg_q (wn_none rfl) (op_field fld_54_2 rfl) rfl rfl ?_
                                    refine rg_q (wn_none rfl) (op_ld 2 sc_3 rfl rfl (tAddC_a2 _)) rfl rfl ?_
                                    refine rg_i (wn_none rfl) (os_call cb_22 rfl (fun w s => Add_calls _ _ _ _ _  s )) rfl rfl ?_; rintro _ _ ⟨rfl, rfl⟩; refine ⟨[_, _], rfl, ?_⟩
                                    refine rg_q (wn_none rfl) (op_move (v := .pointer _) rfl) rfl rfl ?_
                                    refine rg_q (wn_none rfl) (op_lda (L := rootC _) 0 ag_30 rfl rfl (rootC_take' _) (by simp [rootC_len])) rfl rfl ?_
                                    refine rg_q (wn_none rfl) (op_lda (L := rootC _) 1 ag_30 rfl rfl (rootC_take' _) (by simp [rootC_len])) rfl rfl ?_
                                    refine rg_q (wn_none rfl) (op_field fld_54_2 rfl) rfl rfl ?_
                                    refine rg_q (wn_none rfl) (op_ld 2 sc_3 rfl rfl (tAddC_a2 _)) rfl rfl ?_
                                    refine rg_i (wn_none rfl) (os_pull1 (os_call cb_32 rfl (fun w s => RAdd_calls _ _ _ _ _  s ))) rfl rfl ?_; rintro _ _ ⟨rfl, rfl⟩; refine ⟨[_, _], rfl, ?_⟩
                                    refine rg_q (wn_none rfl) (op_ne rfl rfl) rfl rfl ?_
                                    refine rg_nil_then2 ?_
                                    refine cd_cond rfl (fun hb44 => ?_) (fun hb44 => ?_)
                                    · have hp44 := hb44
                                      (try simp only [decide_eq_true_eq, decide_eq_false_iff_not, Bool.not_eq_true', Bool.not_eq_false', ne_eq, Decidable.not_not] at hp44)
                                      exact absurd hb44 (by simp)
                                    · have hp44 := hb44
                                      (try simp only [decide_eq_true_eq, decide_eq_false_iff_not, Bool.not_eq_true', Bool.not_eq_false', ne_eq, Decidable.not_not] at hp44)
                                      refine cd_skip ?_
                                      refine px_blockN ?_
                                      refine px_then ?_
                                      refine cd_region ?_   -- 24
                                      refine ol_q (wn_none rfl) (op_add rfl rfl (by omega) (by omega)) rfl ?_
                                      refine ol_q (wn_none rfl) (op_move (v := .int _ _) rfl) rfl ?_
                                      refine ol_nil ?_
                                      refine px_loop2 (i + 1, (u.add odd (nameR xs[i].parent) xs[i].slot).2) (by dsimp only; omega) (by (try dsimp only); omega) ⟨congrArg (Value.int .i64) (by simp), trivial⟩ ?_ (fun _ s => (((s.del 4).del 3).del 2))
                                      repeat (first | exact kept_over | refine kept_upd rfl ?_ | refine kept_overS (by decide) ?_)
                                  · have hp43 := hb43
                                    (try simp only [decide_eq_true_eq, decide_eq_false_iff_not, Bool.not_eq_true', Bool.not_eq_false', ne_eq, Decidable.not_not] at hp43)
                                    refine cd_skip ?_
                                    refine px_then ?_
                                    refine cd_pull3 ?_
                                    refine cd_pull4 ?_
                                    refine cd_seq ?_   -- 22
                                    refine cd_draw (M := [_, _]) mx [5, 11] (by kernel_rfl) ?_
                                    refine rg_q (wn_none rfl) (op_move (v := .pointer _) rfl) rfl rfl ?_
                                    refine rg_q (wn_none rfl) (op_lda (L := rootC _) 0 ag_30 rfl rfl (rootC_take' _) (by simp [rootC_len])) rfl rfl ?_
                                    refine rg_q (wn_none rfl) (op_lda (L := rootC _) 1 ag_30 rfl rfl (rootC_take' _) (by simp [rootC_len])) rfl rfl ?_
                                    refine rg_q (wn_none rfl) (op_field fld_54_2 rfl) rfl rfl ?_
                                    refine rg_q (wn_none rfl) (op_ld 2 sc_3 rfl rfl (tAddC_a2 _)) rfl rfl ?_
                                    refine rg_i (wn_none rfl) (os_call cb_22 rfl (fun w s => Add_calls _ _ _ _ _  s )) rfl rfl ?_; rintro _ _ ⟨rfl, rfl⟩; refine ⟨[_, _], rfl, ?_⟩
                                    refine rg_q (wn_none rfl) (op_move (v := .pointer _) rfl) rfl rfl ?_
                                    refine rg_q (wn_none rfl) (op_lda (L := rootC _) 0 ag_30 rfl rfl (rootC_take' _) (by simp [rootC_len])) rfl rfl ?_
                                    refine rg_q (wn_none rfl) (op_lda (L := rootC _) 1 ag_30 rfl rfl (rootC_take' _) (by simp [rootC_len])) rfl rfl ?_
                                    refine rg_q (wn_none rfl) (op_field fld_54_2 rfl) rfl rfl ?_
                                    refine rg_q (wn_none rfl) (op_ld 2 sc_3 rfl rfl (tAddC_a2 _)) rfl rfl ?_
                                    refine rg_i (wn_none rfl) (os_pull1 (os_call cb_32 rfl (fun w s => RAdd_calls _ _ _ _ _  s ))) rfl rfl ?_; rintro _ _ ⟨rfl, rfl⟩; refine ⟨[_, _], rfl, ?_⟩
                                    refine rg_q (wn_none rfl) (op_ne rfl rfl) rfl rfl ?_
                                    refine rg_nil_then2 ?_
                                    refine cd_cond rfl (fun hb45 => ?_) (fun hb45 => ?_)
                                    · have hp45 := hb45
                                      (try simp only [decide_eq_true_eq, decide_eq_false_iff_not, Bool.not_eq_true', Bool.not_eq_false', ne_eq, Decidable.not_not] at hp45)
                                      exact absurd hb45 (by simp)
                                    · have hp45 := hb45
                                      (try simp only [decide_eq_true_eq, decide_eq_false_iff_not, Bool.not_eq_true', Bool.not_eq_false', ne_eq, Decidable.not_not] at hp45)
                                      refine cd_skip ?_
                                      refine px_blockN ?_
                                      refine px_then ?_
                                      refine cd_region ?_   -- 24
                                      refine ol_q (wn_none rfl) (op_add rfl rfl (by omega) (by omega)) rfl ?_
                                      refine ol_q (wn_none rfl) (op_move (v := .int _ _) rfl) rfl ?_
                                      refine ol_nil ?_
                                      refine px_loop2 (i + 1, (u.add (nameR xs[i].root) (nameR xs[i].parent) xs[i].slot).2) (by dsimp only; omega) (by (try dsimp only); omega) ⟨congrArg (Value.int .i64) (by simp), trivial⟩ ?_ (fun _ s => (((s.del 4).del 3).del 2))
                                      repeat (first | exact kept_over | refine kept_upd rfl ?_ | refine kept_overS (by decide) ?_)
                              · -- 6
                                refine ei_i rfl rfl (wn_none rfl) (os_alloc (cs := (rootC Root.zero).toArray) zB_30 (by kernel_rfl)) rfl ?_; rintro _ _ ⟨bx13, rfl, rfl⟩; refine ⟨[_, _], rfl, ?_⟩
                                refine et_1 (i := 5) (by kernel_rfl) ?_
                                refine ei_i rfl rfl (wn_none rfl) (os_call cb_20 rfl (fun w s => Name_calls _  s )) rfl ?_; rintro _ l ⟨rfl, rfl⟩; refine ⟨[_, _], rfl, ?_⟩
                                refine et_1 (i := 8) (by kernel_rfl) ?_
                                refine ei_iN rfl rfl (wn_none rfl) (os_storera _ ag_30 rfl rfl (Free.zero _)) ?_; rintro _ _ ⟨rfl, rfl⟩; refine ⟨[_, _], rfl, ?_⟩
                                refine et_1 (i := 9) (by kernel_rfl) ?_
                                refine ei_iN rfl rfl (wn_none rfl) (os_pull1 (os_storera _ ag_30 rfl rfl (Free.zero _))) ?_; rintro _ _ ⟨rfl, rfl⟩; refine ⟨[_, _], rfl, ?_⟩
                                refine et_nil_then (by kernel_rfl) ?_
                                refine cd_seq ?_
                                refine cd_sr ?_   -- 18
                                refine ol_q (wn_none rfl) (op_field fld_54_1 rfl) rfl ?_
                                refine ol_q (wn_none rfl) (op_ld 2 sc_3 rfl rfl (tAddC_a1 _)) rfl ?_
                                refine ol_q (wn_none rfl) (op_eq rfl rfl) rfl ?_
                                refine ol_nil_then ?_
                                refine cd_cond rfl (fun hb46 => ?_) (fun hb46 => ?_)
                                · have hp46 := hb46
                                  (try simp only [decide_eq_true_eq, decide_eq_false_iff_not, Bool.not_eq_true', Bool.not_eq_false', ne_eq, Decidable.not_not] at hp46)
                                  refine cd_region ?_   -- 19
                                  refine ol_q (wn_none rfl) (op_lda (L := rootC _) 5 ag_30 rfl rfl (rootC_take' _) (by simp [rootC_len])) rfl ?_
                                  refine ol_pull1 ?_
                                  refine ol_iN (wn_none rfl) (os_storera _ ag_30 rfl rfl (Free.zero _)) ?_; rintro _ _ ⟨rfl, rfl⟩
                                  refine ol_nil ?_
                                  refine px_then ?_
                                  refine cd_seq ?_
                                  refine cd_sr ?_   -- 20
                                  refine ol_q (wn_none rfl) (op_move (v := .int _ _) rfl) rfl ?_
                                  refine ol_q (wn_none rfl) (op_eq rfl rfl) rfl ?_
                                  refine ol_nil_then ?_
                                  refine cd_cond rfl (fun hb47 => ?_) (fun hb47 => ?_)
                                  · have hp47 := hb47
                                    (try simp only [decide_eq_true_eq, decide_eq_false_iff_not, Bool.not_eq_true', Bool.not_eq_false', ne_eq, Decidable.not_not] at hp47)
                                    refine cd_region ?_   -- 21
                                    refine ol_q (wn_none rfl) (op_lda (L := rootC _) 6 ag_30 rfl rfl (rootC_take' _) (by simp [rootC_len])) rfl ?_
                                    refine ol_pull1 ?_
                                    refine ol_iN (wn_none rfl) (os_storera _ ag_30 rfl rfl (Free.zero _)) ?_; rintro _ _ ⟨rfl, rfl⟩
                                    refine ol_nil ?_
                                    refine px_then ?_
                                    refine cd_pull3 ?_
                                    refine cd_pull4 ?_
                                    refine cd_seq ?_   -- 22
                                    refine cd_draw (M := [_, _]) mx [5, 11] (by kernel_rfl) ?_
                                    refine rg_q (wn_none rfl) (op_move (v := .pointer _) rfl) rfl rfl ?_
                                    refine rg_q (wn_none rfl) (op_lda (L := rootC _) 0 ag_30 rfl rfl (rootC_take' _) (by simp [rootC_len])) rfl rfl ?_
                                    refine rg_q (wn_none rfl) (op_lda (L := rootC _) 1 ag_30 rfl rfl (rootC_take' _) (by simp [rootC_len])) rfl rfl ?_
                                    refine rg_q (wn_none rfl) (op_field fld_54_2 rfl) rfl rfl ?_
                                    refine rg_q (wn_none rfl) (op_ld 2 sc_3 rfl rfl (tAddC_a2 _)) rfl rfl ?_
                                    refine rg_i (wn_none rfl) (os_call cb_22 rfl (fun w s => Add_calls _ _ _ _ _  s )) rfl rfl ?_; rintro _ _ ⟨rfl, rfl⟩; refine ⟨[_, _], rfl, ?_⟩
                                    refine rg_q (wn_none rfl) (op_move (v := .pointer _) rfl) rfl rfl ?_
                                    refine rg_q (wn_none rfl) (op_lda (L := rootC _) 0 ag_30 rfl rfl (rootC_take' _) (by simp [rootC_len])) rfl rfl ?_
                                    refine rg_q (wn_none rfl) (op_lda (L := rootC _) 1 ag_30 rfl rfl (rootC_take' _) (by simp [rootC_len])) rfl rfl ?_
                                    refine rg_q (wn_none rfl) (op_field fld_54_2 rfl) rfl rfl ?_
                                    refine rg_q (wn_none rfl) (op_ld 2 sc_3 rfl rfl (tAddC_a2 _)) rfl rfl ?_
                                    refine rg_i (wn_none rfl) (os_pull1 (os_call cb_32 rfl (fun w s => RAdd_calls _ _ _ _ _  s ))) rfl rfl ?_; rintro _ _ ⟨rfl, rfl⟩; refine ⟨[_, _], rfl, ?_⟩
                                    refine rg_q (wn_none rfl) (op_ne rfl rfl) rfl rfl ?_
                                    refine rg_nil_then2 ?_
                                    refine cd_cond rfl (fun hb48 => ?_) (fun hb48 => ?_)
                                    · have hp48 := hb48
                                      (try simp only [decide_eq_true_eq, decide_eq_false_iff_not, Bool.not_eq_true', Bool.not_eq_false', ne_eq, Decidable.not_not] at hp48)
                                      exact absurd hb48 (by simp)
                                    · have hp48 := hb48
                                      (try simp only [decide_eq_true_eq, decide_eq_false_iff_not, Bool.not_eq_true', Bool.not_eq_false', ne_eq, Decidable.not_not] at hp48)
                                      refine cd_skip ?_
                                      refine px_blockN ?_
                                      refine px_then ?_
                                      refine cd_region ?_   -- 24
                                      refine ol_q (wn_none rfl) (op_add rfl rfl (by omega) (by omega)) rfl ?_
                                      refine ol_q (wn_none rfl) (op_move (v := .int _ _) rfl) rfl ?_
                                      refine ol_nil ?_
                                      refine px_loop2 (i + 1, (u.add odd first xs[i].slot).2) (by dsimp only; omega) (by (try dsimp only); omega) ⟨congrArg (Value.int .i64) (by simp), trivial⟩ ?_ (fun _ s => (((s.del 4).del 3).del 2))
                                      repeat (first | exact kept_over | refine kept_upd rfl ?_ | refine kept_overS (by decide) ?_)
                                  · have hp47 := hb47
                                    (try simp only [decide_eq_true_eq, decide_eq_false_iff_not, Bool.not_eq_true', Bool.not_eq_false', ne_eq, Decidable.not_not] at hp47)
                                    refine cd_skip ?_
                                    refine px_then ?_
                                    refine cd_pull3 ?_
                                    refine cd_pull4 ?_
                                    refine cd_seq ?_   -- 22
                                    refine cd_draw (M := [_, _]) mx [5, 11] (by kernel_rfl) ?_
                                    refine rg_q (wn_none rfl) (op_move (v := .pointer _) rfl) rfl rfl ?_
                                    refine rg_q (wn_none rfl) (op_lda (L := rootC _) 1 ag_30 rfl rfl (rootC_take' _) (by simp [rootC_len])) rfl rfl ?_
                                    refine rg_q (wn_none rfl) (op_lda (L := rootC _) 0 ag_30 rfl rfl (rootC_take' _) (by simp [rootC_len])) rfl rfl ?_
                                    refine rg_q (wn_none rfl) (op_field fld_54_2 rfl) rfl rfl ?_
                                    refine rg_q (wn_none rfl) (op_ld 2 sc_3 rfl rfl (tAddC_a2 _)) rfl rfl ?_
                                    refine rg_i (wn_none rfl) (os_call cb_22 rfl (fun w s => Add_calls _ _ _ _ _  s )) rfl rfl ?_; rintro _ _ ⟨rfl, rfl⟩; refine ⟨[_, _], rfl, ?_⟩
                                    refine rg_q (wn_none rfl) (op_move (v := .pointer _) rfl) rfl rfl ?_
                                    refine rg_q (wn_none rfl) (op_lda (L := rootC _) 1 ag_30 rfl rfl (rootC_take' _) (by simp [rootC_len])) rfl rfl ?_
                                    refine rg_q (wn_none rfl) (op_lda (L := rootC _) 0 ag_30 rfl rfl (rootC_take' _) (by simp [rootC_len])) rfl rfl ?_
                                    refine rg_q (wn_none rfl) (op_field fld_54_2 rfl) rfl rfl ?_
                                    refine rg_q (wn_none rfl) (op_ld 2 sc_3 rfl rfl (tAddC_a2 _)) rfl rfl ?_
                                    refine rg_i (wn_none rfl) (os_pull1 (os_call cb_32 rfl (fun w s => RAdd_calls _ _ _ _ _  s ))) rfl rfl ?_; rintro _ _ ⟨rfl, rfl⟩; refine ⟨[_, _], rfl, ?_⟩
                                    refine rg_q (wn_none rfl) (op_ne rfl rfl) rfl rfl ?_
                                    refine rg_nil_then2 ?_
                                    refine cd_cond rfl (fun hb49 => ?_) (fun hb49 => ?_)
                                    · have hp49 := hb49
                                      (try simp only [decide_eq_true_eq, decide_eq_false_iff_not, Bool.not_eq_true', Bool.not_eq_false', ne_eq, Decidable.not_not] at hp49)
                                      exact absurd hb49 (by simp)
                                    · have hp49 := hb49
                                      (try simp only [decide_eq_true_eq, decide_eq_false_iff_not, Bool.not_eq_true', Bool.not_eq_false', ne_eq, Decidable.not_not] at hp49)
                                      refine cd_skip ?_
                                      refine px_blockN ?_
                                      refine px_then ?_
                                      refine cd_region ?_   -- 24
                                      refine ol_q (wn_none rfl) (op_add rfl rfl (by omega) (by omega)) rfl ?_
                                      refine ol_q (wn_none rfl) (op_move (v := .int _ _) rfl) rfl ?_
                                      refine ol_nil ?_
                                      refine px_loop2 (i + 1, (u.add (nameR xs[i].root) first xs[i].slot).2) (by dsimp only; omega) (by (try dsimp only); omega) ⟨congrArg (Value.int .i64) (by simp), trivial⟩ ?_ (fun _ s => (((s.del 4).del 3).del 2))
                                      repeat (first | exact kept_over | refine kept_upd rfl ?_ | refine kept_overS (by decide) ?_)
                                · have hp46 := hb46
                                  (try simp only [decide_eq_true_eq, decide_eq_false_iff_not, Bool.not_eq_true', Bool.not_eq_false', ne_eq, Decidable.not_not] at hp46)
                                  refine cd_skip ?_
                                  refine px_then ?_
                                  refine cd_seq ?_
                                  refine cd_sr ?_   -- 20
                                  refine ol_q (wn_none rfl) (op_move (v := .int _ _) rfl) rfl ?_
                                  refine ol_q (wn_none rfl) (op_eq rfl rfl) rfl ?_
                                  refine ol_nil_then ?_
                                  refine cd_cond rfl (fun hb50 => ?_) (fun hb50 => ?_)
                                  · have hp50 := hb50
                                    (try simp only [decide_eq_true_eq, decide_eq_false_iff_not, Bool.not_eq_true', Bool.not_eq_false', ne_eq, Decidable.not_not] at hp50)
                                    refine cd_region ?_   -- 21
                                    refine ol_q (wn_none rfl) (op_lda (L := rootC _) 6 ag_30 rfl rfl (rootC_take' _) (by simp [rootC_len])) rfl ?_
                                    refine ol_iN (wn_none rfl) (os_storera _ ag_30 rfl rfl (Free.zero _)) ?_; rintro _ _ ⟨rfl, rfl⟩
                                    refine ol_nil ?_
                                    refine px_then ?_
                                    refine cd_pull3 ?_
                                    refine cd_pull4 ?_
                                    refine cd_seq ?_   -- 22
                                    refine cd_draw (M := [_, _]) mx [5, 11] (by kernel_rfl) ?_
                                    refine rg_q (wn_none rfl) (op_move (v := .pointer _) rfl) rfl rfl ?_
                                    refine rg_q (wn_none rfl) (op_lda (L := rootC _) 0 ag_30 rfl rfl (rootC_take' _) (by simp [rootC_len])) rfl rfl ?_
                                    refine rg_q (wn_none rfl) (op_lda (L := rootC _) 1 ag_30 rfl rfl (rootC_take' _) (by simp [rootC_len])) rfl rfl ?_
                                    refine rg_q (wn_none rfl) (op_field fld_54_2 rfl) rfl rfl ?_
                                    refine rg_q (wn_none rfl) (op_ld 2 sc_3 rfl rfl (tAddC_a2 _)) rfl rfl ?_
                                    refine rg_i (wn_none rfl) (os_call cb_22 rfl (fun w s => Add_calls _ _ _ _ _  s )) rfl rfl ?_; rintro _ _ ⟨rfl, rfl⟩; refine ⟨[_, _], rfl, ?_⟩
                                    refine rg_q (wn_none rfl) (op_move (v := .pointer _) rfl) rfl rfl ?_
                                    refine rg_q (wn_none rfl) (op_lda (L := rootC _) 0 ag_30 rfl rfl (rootC_take' _) (by simp [rootC_len])) rfl rfl ?_
                                    refine rg_q (wn_none rfl) (op_lda (L := rootC _) 1 ag_30 rfl rfl (rootC_take' _) (by simp [rootC_len])) rfl rfl ?_
                                    refine rg_q (wn_none rfl) (op_field fld_54_2 rfl) rfl rfl ?_
                                    refine rg_q (wn_none rfl) (op_ld 2 sc_3 rfl rfl (tAddC_a2 _)) rfl rfl ?_
                                    refine rg_i (wn_none rfl) (os_pull1 (os_call cb_32 rfl (fun w s => RAdd_calls _ _ _ _ _  s ))) rfl rfl ?_; rintro _ _ ⟨rfl, rfl⟩; refine ⟨[_, _], rfl, ?_⟩
                                    refine rg_q (wn_none rfl) (op_ne rfl rfl) rfl rfl ?_
                                    refine rg_nil_then2 ?_
                                    refine cd_cond rfl (fun hb51 => ?_) (fun hb51 => ?_)
                                    · have hp51 := hb51
                                      (try simp only [decide_eq_true_eq, decide_eq_false_iff_not, Bool.not_eq_true', Bool.not_eq_false', ne_eq, Decidable.not_not] at hp51)
                                      exact absurd hb51 (by simp)
                                    · have hp51 := hb51
                                      (try simp only [decide_eq_true_eq, decide_eq_false_iff_not, Bool.not_eq_true', Bool.not_eq_false', ne_eq, Decidable.not_not] at hp51)
                                      refine cd_skip ?_
                                      refine px_blockN ?_
                                      refine px_then ?_
                                      refine cd_region ?_   -- 24
                                      refine ol_q (wn_none rfl) (op_add rfl rfl (by omega) (by omega)) rfl ?_
                                      refine ol_q (wn_none rfl) (op_move (v := .int _ _) rfl) rfl ?_
                                      refine ol_nil ?_
                                      refine px_loop2 (i + 1, (u.add odd (nameR xs[i].parent) xs[i].slot).2) (by dsimp only; omega) (by (try dsimp only); omega) ⟨congrArg (Value.int .i64) (by simp), trivial⟩ ?_ (fun _ s => (((s.del 4).del 3).del 2))
                                      repeat (first | exact kept_over | refine kept_upd rfl ?_ | refine kept_overS (by decide) ?_)
                                  · have hp50 := hb50
                                    (try simp only [decide_eq_true_eq, decide_eq_false_iff_not, Bool.not_eq_true', Bool.not_eq_false', ne_eq, Decidable.not_not] at hp50)
                                    refine cd_skip ?_
                                    refine px_then ?_
                                    refine cd_pull3 ?_
                                    refine cd_pull4 ?_
                                    refine cd_seq ?_   -- 22
                                    refine cd_draw (M := [_, _]) mx [5, 11] (by kernel_rfl) ?_
                                    refine rg_q (wn_none rfl) (op_move (v := .pointer _) rfl) rfl rfl ?_
                                    refine rg_q (wn_none rfl) (op_lda (L := rootC _) 0 ag_30 rfl rfl (rootC_take' _) (by simp [rootC_len])) rfl rfl ?_
                                    refine rg_q (wn_none rfl) (op_lda (L := rootC _) 1 ag_30 rfl rfl (rootC_take' _) (by simp [rootC_len])) rfl rfl ?_
                                    refine rg_q (wn_none rfl) (op_field fld_54_2 rfl) rfl rfl ?_
                                    refine rg_q (wn_none rfl) (op_ld 2 sc_3 rfl rfl (tAddC_a2 _)) rfl rfl ?_
                                    refine rg_i (wn_none rfl) (os_call cb_22 rfl (fun w s => Add_calls _ _ _ _ _  s )) rfl rfl ?_; rintro _ _ ⟨rfl, rfl⟩; refine ⟨[_, _], rfl, ?_⟩
                                    refine rg_q (wn_none rfl) (op_move (v := .pointer _) rfl) rfl rfl ?_
                                    refine rg_q (wn_none rfl) (op_lda (L := rootC _) 0 ag_30 rfl rfl (rootC_take' _) (by simp [rootC_len])) rfl rfl ?_
                                    refine rg_q (wn_none rfl) (op_lda (L := rootC _) 1 ag_30 rfl rfl (rootC_take' _) (by simp [rootC_len])) rfl rfl ?_
                                    refine rg_q (wn_none rfl) (op_field fld_54_2 rfl) rfl rfl ?_
                                    refine rg_q (wn_none rfl) (op_ld 2 sc_3 rfl rfl (tAddC_a2 _)) rfl rfl ?_
                                    refine rg_i (wn_none rfl) (os_pull1 (os_call cb_32 rfl (fun w s => RAdd_calls _ _ _ _ _  s ))) rfl rfl ?_; rintro _ _ ⟨rfl, rfl⟩; refine ⟨[_, _], rfl, ?_⟩
                                    refine rg_q (wn_none rfl) (op_ne rfl rfl) rfl rfl ?_
                                    refine rg_nil_then2 ?_
                                    refine cd_cond rfl (fun hb52 => ?_) (fun hb52 => ?_)
                                    · have hp52 := hb52
                                      (try simp only [decide_eq_true_eq, decide_eq_false_iff_not, Bool.not_eq_true', Bool.not_eq_false', ne_eq, Decidable.not_not] at hp52)
                                      exact absurd hb52 (by simp)
                                    · have hp52 := hb52
                                      (try simp only [decide_eq_true_eq, decide_eq_false_iff_not, Bool.not_eq_true', Bool.not_eq_false', ne_eq, Decidable.not_not] at hp52)
                                      refine cd_skip ?_
                                      refine px_blockN ?_
                                      refine px_then ?_
                                      refine cd_region ?_   -- 24
                                      refine ol_q (wn_none rfl) (op_add rfl rfl (by omega) (by omega)) rfl ?_
                                      refine ol_q (wn_none rfl) (op_move (v := .int _ _) rfl) rfl ?_
                                      refine ol_nil ?_
                                      refine px_loop2 (i + 1, (u.add (nameR xs[i].root) (nameR xs[i].parent) xs[i].slot).2) (by dsimp only; omega) (by (try dsimp only); omega) ⟨congrArg (Value.int .i64) (by simp), trivial⟩ ?_ (fun _ s => (((s.del 4).del 3).del 2))
                                      repeat (first | exact kept_over | refine kept_upd rfl ?_ | refine kept_overS (by decide) ?_)
                          · -- 6
                            refine ei_i rfl rfl (wn_none rfl) (os_alloc (cs := (rootC Root.zero).toArray) zB_30 (by kernel_rfl)) rfl ?_; rintro _ _ ⟨bx14, rfl, rfl⟩; refine ⟨[_], rfl, ?_⟩
                            refine et_2 (i1 := 2) (i2 := 7) (by kernel_rfl) ?_ ?_
                            · -- 2
                              refine ei_i rfl rfl (wn_none rfl) (os_call cb_20 rfl (fun w s => Name_calls _  s )) rfl ?_; rintro _ l ⟨rfl, rfl⟩; refine ⟨[_], rfl, ?_⟩
                              refine et_2 (i1 := 5) (i2 := 7) (by kernel_rfl) ?_ ?_
                              · -- 5
                                refine ei_i rfl rfl (wn_none rfl) (os_call cb_20 rfl (fun w s => Name_calls _  s )) rfl ?_; rintro _ l ⟨rfl, rfl⟩; refine ⟨[_], rfl, ?_⟩
                                refine et_1 (i := 7) (by kernel_rfl) ?_
                                refine ei_i rfl rfl (wn_none rfl) (os_alloc (cs := (rootC Root.zero).toArray) zB_30 (by kernel_rfl)) rfl ?_; rintro _ _ ⟨bx15, rfl, rfl⟩; refine ⟨[_, _], rfl, ?_⟩
                                refine et_1 (i := 8) (by kernel_rfl) ?_
                                refine ei_iN rfl rfl (wn_none rfl) (os_pull1 (os_storera _ ag_30 rfl rfl (Free.zero _))) ?_; rintro _ _ ⟨rfl, rfl⟩; refine ⟨[_, _], rfl, ?_⟩
                                refine et_1 (i := 9) (by kernel_rfl) ?_
                                refine ei_iN rfl rfl (wn_none rfl) (os_pull1 (os_storera _ ag_30 rfl rfl (Free.zero _))) ?_; rintro _ _ ⟨rfl, rfl⟩; refine ⟨[_, _], rfl, ?_⟩
                                refine et_nil_then (by kernel_rfl) ?_
                                refine cd_seq ?_
                                refine cd_sr ?_   -- 18
                                refine ol_q (wn_none rfl) (op_field fld_54_1 rfl) rfl ?_
                                refine ol_q (wn_none rfl) (op_ld 2 sc_3 rfl rfl (tAddC_a1 _)) rfl ?_
                                refine ol_q (wn_none rfl) (op_eq rfl rfl) rfl ?_
                                refine ol_nil_then ?_
                                refine cd_cond rfl (fun hb53 => ?_) (fun hb53 => ?_)
                                · have hp53 := hb53
                                  (try simp only [decide_eq_true_eq, decide_eq_false_iff_not, Bool.not_eq_true', Bool.not_eq_false', ne_eq, Decidable.not_not] at hp53)
                                  refine cd_region ?_   -- 19
                                  refine ol_q (wn_none rfl) (op_lda (L := rootC _) 5 ag_30 rfl rfl (rootC_take' _) (by simp [rootC_len])) rfl ?_
                                  refine ol_pull1 ?_
                                  refine ol_iN (wn_none rfl) (os_storera _ ag_30 rfl rfl (Free.zero _)) ?_; rintro _ _ ⟨rfl, rfl⟩
                                  refine ol_nil ?_
                                  refine px_then ?_
                                  refine cd_seq ?_
                                  refine cd_sr ?_   -- 20
                                  refine ol_q (wn_none rfl) (op_move (v := .int _ _) rfl) rfl ?_
                                  refine ol_q (wn_none rfl) (op_eq rfl rfl) rfl ?_
                                  refine ol_nil_then ?_
                                  refine cd_cond rfl (fun hb54 => ?_) (fun hb54 => ?_)
                                  · have hp54 := hb54
                                    (try simp only [decide_eq_true_eq, decide_eq_false_iff_not, Bool.not_eq_true', Bool.not_eq_false', ne_eq, Decidable.not_not] at hp54)
                                    refine cd_region ?_   -- 21
                                    refine ol_q (wn_none rfl) (op_lda (L := rootC _) 6 ag_30 rfl rfl (rootC_take' _) (by simp [rootC_len])) rfl ?_
                                    refine ol_pull1 ?_
                                    refine ol_iN (wn_none rfl) (os_storera _ ag_30 rfl rfl (Free.zero _)) ?_; rintro _ _ ⟨rfl, rfl⟩
                                    refine ol_nil ?_
                                    refine px_then ?_
                                    refine cd_pull3 ?_
                                    refine cd_pull4 ?_
                                    refine cd_seq ?_   -- 22
                                    refine cd_draw (M := [_, _]) mx [5, 11] (by kernel_rfl) ?_
                                    refine rg_q (wn_none rfl) (op_move (v := .pointer _) rfl) rfl rfl ?_
                                    refine rg_q (wn_none rfl) (op_lda (L := rootC _) 0 ag_30 rfl rfl (rootC_take' _) (by simp [rootC_len])) rfl rfl ?_
                                    refine rg_q (wn_none rfl) (op_lda (L := rootC _) 1 ag_30 rfl rfl (rootC_take' _) (by simp [rootC_len])) rfl rfl ?_
                                    refine rg_q (wn_none rfl) (op_field fld_54_2 rfl) rfl rfl ?_
                                    refine rg_q (wn_none rfl) (op_ld 2 sc_3 rfl rfl (tAddC_a2 _)) rfl rfl ?_
                                    refine rg_i (wn_none rfl) (os_call cb_22 rfl (fun w s => Add_calls _ _ _ _ _  s )) rfl rfl ?_; rintro _ _ ⟨rfl, rfl⟩; refine ⟨[_, _], rfl, ?_⟩
                                    refine rg_q (wn_none rfl) (op_move (v := .pointer _) rfl) rfl rfl ?_
                                    refine rg_q (wn_none rfl) (op_lda (L := rootC _) 0 ag_30 rfl rfl (rootC_take' _) (by simp [rootC_len])) rfl rfl ?_
                                    refine rg_q (wn_none rfl) (op_lda (L := rootC _) 1 ag_30 rfl rfl (rootC_take' _) (by simp [rootC_len])) rfl rfl ?_
                                    refine rg_q (wn_none rfl) (op_field fld_54_2 rfl) rfl rfl ?_
                                    refine rg_q (wn_none rfl) (op_ld 2 sc_3 rfl rfl (tAddC_a2 _)) rfl rfl ?_
                                    refine rg_i (wn_none rfl) (os_pull1 (os_call cb_32 rfl (fun w s => RAdd_calls _ _ _ _ _  s ))) rfl rfl ?_; rintro _ _ ⟨rfl, rfl⟩; refine ⟨[_, _], rfl, ?_⟩
                                    refine rg_q (wn_none rfl) (op_ne rfl rfl) rfl rfl ?_
                                    refine rg_nil_then2 ?_
                                    refine cd_cond rfl (fun hb55 => ?_) (fun hb55 => ?_)
                                    · have hp55 := hb55
                                      (try simp only [decide_eq_true_eq, decide_eq_false_iff_not, Bool.not_eq_true', Bool.not_eq_false', ne_eq, Decidable.not_not] at hp55)
                                      exact absurd hb55 (by simp)
                                    · have hp55 := hb55
                                      (try simp only [decide_eq_true_eq, decide_eq_false_iff_not, Bool.not_eq_true', Bool.not_eq_false', ne_eq, Decidable.not_not] at hp55)
                                      refine cd_skip ?_
                                      refine px_blockN ?_
                                      refine px_then ?_
                                      refine cd_region ?_   -- 24
                                      refine ol_q (wn_none rfl) (op_add rfl rfl (by omega) (by omega)) rfl ?_
                                      refine ol_q (wn_none rfl) (op_move (v := .int _ _) rfl) rfl ?_
                                      refine ol_nil ?_
                                      refine px_loop2 (i + 1, (u.add odd first xs[i].slot).2) (by dsimp only; omega) (by (try dsimp only); omega) ⟨congrArg (Value.int .i64) (by simp), trivial⟩ ?_ (fun _ s => (((s.del 4).del 3).del 2))
                                      repeat (first | exact kept_over | refine kept_upd rfl ?_ | refine kept_overS (by decide) ?_)
                                  · have hp54 := hb54
                                    (try simp only [decide_eq_true_eq, decide_eq_false_iff_not, Bool.not_eq_true', Bool.not_eq_false', ne_eq, Decidable.not_not] at hp54)
                                    refine cd_skip ?_
                                    refine px_then ?_
                                    refine cd_pull3 ?_
                                    refine cd_pull4 ?_
                                    refine cd_seq ?_   -- 22
                                    refine cd_draw (M := [_, _]) mx [5, 11] (by kernel_rfl) ?_
                                    refine rg_q (wn_none rfl) (op_move (v := .pointer _) rfl) rfl rfl ?_
                                    refine rg_q (wn_none rfl) (op_lda (L := rootC _) 1 ag_30 rfl rfl (rootC_take' _) (by simp [rootC_len])) rfl rfl ?_
                                    refine rg_q (wn_none rfl) (op_lda (L := rootC _) 0 ag_30 rfl rfl (rootC_take' _) (by simp [rootC_len])) rfl rfl ?_
                                    refine rg_q (wn_none rfl) (op_field fld_54_2 rfl) rfl rfl ?_
                                    refine rg_q (wn_none rfl) (op_ld 2 sc_3 rfl rfl (tAddC_a2 _)) rfl rfl ?_
                                    refine rg_i (wn_none rfl) (os_call cb_22 rfl (fun w s => Add_calls _ _ _ _ _  s )) rfl rfl ?_; rintro _ _ ⟨rfl, rfl⟩; refine ⟨[_, _], rfl, ?_⟩
                                    refine rg_q (wn_none rfl) (op_move (v := .pointer _) rfl) rfl rfl ?_
                                    refine rg_q (wn_none rfl) (op_lda (L := rootC _) 1 ag_30 rfl rfl (rootC_take' _) (by simp [rootC_len])) rfl rfl ?_
                                    refine rg_q (wn_none rfl) (op_lda (L := rootC _) 0 ag_30 rfl rfl (rootC_take' _) (by simp [rootC_len])) rfl rfl ?_
                                    refine rg_q (wn_none rfl) (op_field fld_54_2 rfl) rfl rfl ?_
                                    refine rg_q (wn_none rfl) (op_ld 2 sc_3 rfl rfl (tAddC_a2 _)) rfl rfl ?_
                                    refine rg_i (wn_none rfl) (os_pull1 (os_call cb_32 rfl (fun w s => RAdd_calls _ _ _ _ _  s ))) rfl rfl ?_; rintro _ _ ⟨rfl, rfl⟩; refine ⟨[_, _], rfl, ?_⟩
                                    refine rg_q (wn_none rfl) (op_ne rfl rfl) rfl rfl ?_
                                    refine rg_nil_then2 ?_
                                    refine cd_cond rfl (fun hb56 => ?_) (fun hb56 => ?_)
                                    · have hp56 := hb56
                                      (try simp only [decide_eq_true_eq, decide_eq_false_iff_not, Bool.not_eq_true', Bool.not_eq_false', ne_eq, Decidable.not_not] at hp56)
                                      exact absurd hb56 (by simp)
                                    · have hp56 := hb56
                                      (try simp only [decide_eq_true_eq, decide_eq_false_iff_not, Bool.not_eq_true', Bool.not_eq_false', ne_eq, Decidable.not_not] at hp56)
                                      refine cd_skip ?_
                                      refine px_blockN ?_
                                      refine px_then ?_
                                      refine cd_region ?_   -- 24
                                      refine ol_q (wn_none rfl) (op_add rfl rfl (by omega) (by omega)) rfl ?_
                                      refine ol_q (wn_none rfl) (op_move (v := .int _ _) rfl) rfl ?_
                                      refine ol_nil ?_
                                      refine px_loop2 (i + 1, (u.add (nameR xs[i].root) first xs[i].slot).2) (by dsimp only; omega) (by (try dsimp only); omega) ⟨congrArg (Value.int .i64) (by simp), trivial⟩ ?_ (fun _ s => (((s.del 4).del 3).del 2))
                                      repeat (first | exact kept_over | refine kept_upd rfl ?_ | refine kept_overS (by decide) ?_)
                                · have hp53 := hb53
                                  (try simp only [decide_eq_true_eq, decide_eq_false_iff_not, Bool.not_eq_true', Bool.not_eq_false', ne_eq, Decidable.not_not] at hp53)
                                  refine cd_skip ?_
                                  refine px_then ?_
                                  refine cd_seq ?_
                                  refine cd_sr ?_   -- 20
                                  refine ol_q (wn_none rfl) (op_move (v := .int _ _) rfl) rfl ?_
                                  refine ol_q (wn_none rfl) (op_eq rfl rfl) rfl ?_
                                  refine ol_nil_then ?_
                                  refine cd_cond rfl (fun hb57 => ?_) (fun hb57 => ?_)
                                  · have hp57 := hb57
                                    (try simp only [decide_eq_true_eq, decide_eq_false_iff_not, Bool.not_eq_true', Bool.not_eq_false', ne_eq, Decidable.not_not] at hp57)
                                    refine cd_region ?_   -- 21
                                    refine ol_q (wn_none rfl) (op_lda (L := rootC _) 6 ag_30 rfl rfl (rootC_take' _) (by simp [rootC_len])) rfl ?_
                                    refine ol_iN (wn_none rfl) (os_storera _ ag_30 rfl rfl (Free.zero _)) ?_; rintro _ _ ⟨rfl, rfl⟩
                                    refine ol_nil ?_
                                    refine px_then ?_
                                    refine cd_pull3 ?_
                                    refine cd_pull4 ?_
                                    refine cd_seq ?_   -- 22
                                    refine cd_draw (M := [_, _]) mx [5, 11] (by kernel_rfl) ?_
                                    refine rg_q (wn_none rfl) (op_move (v := .pointer _) rfl) rfl rfl ?_
                                    refine rg_q (wn_none rfl) (op_lda (L := rootC _) 0 ag_30 rfl rfl (rootC_take' _) (by simp [rootC_len])) rfl rfl ?_
                                    refine rg_q (wn_none rfl) (op_lda (L := rootC _) 1 ag_30 rfl rfl (rootC_take' _) (by simp [rootC_len])) rfl rfl ?_
                                    refine rg_q (wn_none rfl) (op_field fld_54_2 rfl) rfl rfl ?_
                                    refine rg_q (wn_none rfl) (op_ld 2 sc_3 rfl rfl (tAddC_a2 _)) rfl rfl ?_
                                    refine rg_i (wn_none rfl) (os_call cb_22 rfl (fun w s => Add_calls _ _ _ _ _  s )) rfl rfl ?_; rintro _ _ ⟨rfl, rfl⟩; refine ⟨[_, _], rfl, ?_⟩
                                    refine rg_q (wn_none rfl) (op_move (v := .pointer _) rfl) rfl rfl ?_
                                    refine rg_q (wn_none rfl) (op_lda (L := rootC _) 0 ag_30 rfl rfl (rootC_take' _) (by simp [rootC_len])) rfl rfl ?_
                                    refine rg_q (wn_none rfl) (op_lda (L := rootC _) 1 ag_30 rfl rfl (rootC_take' _) (by simp [rootC_len])) rfl rfl ?_
                                    refine rg_q (wn_none rfl) (op_field fld_54_2 rfl) rfl rfl ?_
                                    refine rg_q (wn_none rfl) (op_ld 2 sc_3 rfl rfl (tAddC_a2 _)) rfl rfl ?_
                                    refine rg_i (wn_none rfl) (os_pull1 (os_call cb_32 rfl (fun w s => RAdd_calls _ _ _ _ _  s ))) rfl rfl ?_; rintro _ _ ⟨rfl, rfl⟩; refine ⟨[_, _], rfl, ?_⟩
                                    refine rg_q (wn_none rfl) (op_ne rfl rfl) rfl rfl ?_
                                    refine rg_nil_then2 ?_
                                    refine cd_cond rfl (fun hb58 => ?_) (fun hb58 => ?_)
                                    · have hp58 := hb58
                                      (try simp only [decide_eq_true_eq, decide_eq_false_iff_not, Bool.not_eq_true', Bool.not_eq_false', ne_eq, Decidable.not_not] at hp58)
                                      exact absurd hb58 (by simp)
                                    · have hp58 := hb58
                                      (try simp only [decide_eq_true_eq, decide_eq_false_iff_not, Bool.not_eq_true', Bool.not_eq_false', ne_eq, Decidable.not_not] at hp58)
                                      refine cd_skip ?_
                                      refine px_blockN ?_
                                      refine px_then ?_
                                      refine cd_region ?_   -- 24
                                      refine ol_q (wn_none rfl) (op_add rfl rfl (by omega) (by omega)) rfl ?_
                                      refine ol_q (wn_none rfl) (op_move (v := .int _ _) rfl) rfl ?_
                                      refine ol_nil ?_
                                      refine px_loop2 (i + 1, (u.add odd (nameR xs[i].parent) xs[i].slot).2) (by dsimp only; omega) (by (try dsimp only); omega) ⟨congrArg (Value.int .i64) (by simp), trivial⟩ ?_ (fun _ s => (((s.del 4).del 3).del 2))
                                      repeat (first | exact kept_over | refine kept_upd rfl ?_ | refine kept_overS (by decide) ?_)
                                  · have hp57 := hb57
                                    (try simp only [decide_eq_true_eq, decide_eq_false_iff_not, Bool.not_eq_true', Bool.not_eq_false', ne_eq, Decidable.not_not] at hp57)
                                    refine cd_skip ?_
                                    refine px_then ?_
                                    refine cd_pull3 ?_
                                    refine cd_pull4 ?_
                                    refine cd_seq ?_   -- 22
                                    refine cd_draw (M := [_, _]) mx [5, 11] (by kernel_rfl) ?_
                                    refine rg_q (wn_none rfl) (op_move (v := .pointer _) rfl) rfl rfl ?_
                                    refine rg_q (wn_none rfl) (op_lda (L := rootC _) 0 ag_30 rfl rfl (rootC_take' _) (by simp [rootC_len])) rfl rfl ?_
                                    refine rg_q (wn_none rfl) (op_lda (L := rootC _) 1 ag_30 rfl rfl (rootC_take' _) (by simp [rootC_len])) rfl rfl ?_
                                    refine rg_q (wn_none rfl) (op_field fld_54_2 rfl) rfl rfl ?_
                                    refine rg_q (wn_none rfl) (op_ld 2 sc_3 rfl rfl (tAddC_a2 _)) rfl rfl ?_
                                    refine rg_i (wn_none rfl) (os_call cb_22 rfl (fun w s => Add_calls _ _ _ _ _  s )) rfl rfl ?_; rintro _ _ ⟨rfl, rfl⟩; refine ⟨[_, _], rfl, ?_⟩
                                    refine rg_q (wn_none rfl) (op_move (v := .pointer _) rfl) rfl rfl ?_
                                    refine rg_q (wn_none rfl) (op_lda (L := rootC _) 0 ag_30 rfl rfl (rootC_take' _) (by simp [rootC_len])) rfl rfl ?_
                                    refine rg_q (wn_none rfl) (op_lda (L := rootC _) 1 ag_30 rfl rfl (rootC_take' _) (by simp [rootC_len])) rfl rfl ?_
                                    refine rg_q (wn_none rfl) (op_field fld_54_2 rfl) rfl rfl ?_
                                    refine rg_q (wn_none rfl) (op_ld 2 sc_3 rfl rfl (tAddC_a2 _)) rfl rfl ?_
                                    refine rg_i (wn_none rfl) (os_pull1 (os_call cb_32 rfl (fun w s => RAdd_calls _ _ _ _ _  s ))) rfl rfl ?_; rintro _ _ ⟨rfl, rfl⟩; refine ⟨[_, _], rfl, ?_⟩
                                    refine rg_q (wn_none rfl) (op_ne rfl rfl) rfl rfl ?_
                                    refine rg_nil_then2 ?_
                                    refine cd_cond rfl (fun hb59 => ?_) (fun hb59 => ?_)
                                    · have hp59 := hb59
                                      (try simp only [decide_eq_true_eq, decide_eq_false_iff_not, Bool.not_eq_true', Bool.not_eq_false', ne_eq, Decidable.not_not] at hp59)
                                      exact absurd hb59 (by simp)
                                    · have hp59 := hb59
                                      (try simp only [decide_eq_true_eq, decide_eq_false_iff_not, Bool.not_eq_true', Bool.not_eq_false', ne_eq, Decidable.not_not] at hp59)
                                      refine cd_skip ?_
                                      refine px_blockN ?_
                                      refine px_then ?_
                                      refine cd_region ?_   -- 24
                                      refine ol_q (wn_none rfl) (op_add rfl rfl (by omega) (by omega)) rfl ?_
                                      refine ol_q (wn_none rfl) (op_move (v := .int _ _) rfl) rfl ?_
                                      refine ol_nil ?_
                                      refine px_loop2 (i + 1, (u.add (nameR xs[i].root) (nameR xs[i].parent) xs[i].slot).2) (by dsimp only; omega) (by (try dsimp only); omega) ⟨congrArg (Value.int .i64) (by simp), trivial⟩ ?_ (fun _ s => (((s.del 4).del 3).del 2))
                                      repeat (first | exact kept_over | refine kept_upd rfl ?_ | refine kept_overS (by decide) ?_)
                              · -- 7
                                refine ei_i rfl rfl (wn_none rfl) (os_alloc (cs := (rootC Root.zero).toArray) zB_30 (by kernel_rfl)) rfl ?_; rintro _ _ ⟨bx16, rfl, rfl⟩; refine ⟨[_, _], rfl, ?_⟩
                                refine et_1 (i := 5) (by kernel_rfl) ?_
                                refine ei_i rfl rfl (wn_none rfl) (os_call cb_20 rfl (fun w s => Name_calls _  s )) rfl ?_; rintro _ l ⟨rfl, rfl⟩; refine ⟨[_, _], rfl, ?_⟩
                                refine et_1 (i := 8) (by kernel_rfl) ?_
                                refine ei_iN rfl rfl (wn_none rfl) (os_pull1 (os_storera _ ag_30 rfl rfl (Free.zero _))) ?_; rintro _ _ ⟨rfl, rfl⟩; refine ⟨[_, _], rfl, ?_⟩
                                refine et_1 (i := 9) (by kernel_rfl) ?_
                                refine ei_iN rfl rfl (wn_none rfl) (os_pull1 (os_storera _ ag_30 rfl rfl (Free.zero _))) ?_; rintro _ _ ⟨rfl, rfl⟩; refine ⟨[_, _], rfl, ?_⟩
                                refine et_nil_then (by kernel_rfl) ?_
                                refine cd_seq ?_
                                refine cd_sr ?_   -- 18
                                refine ol_q (wn_none rfl) (op_field fld_54_1 rfl) rfl ?_
                                refine ol_q (wn_none rfl) (op_ld 2 sc_3 rfl rfl (tAddC_a1 _)) rfl ?_
                                refine ol_q (wn_none rfl) (op_eq rfl rfl) rfl ?_
                                refine ol_nil_then ?_
                                refine cd_cond rfl (fun hb60 => ?_) (fun hb60 => ?_)
                                · have hp60 := hb60
                                  (try simp only [decide_eq_true_eq, decide_eq_false_iff_not, Bool.not_eq_true', Bool.not_eq_false', ne_eq, Decidable.not_not] at hp60)
                                  refine cd_region ?_   -- 19
                                  refine ol_q (wn_none rfl) (op_lda (L := rootC _) 5 ag_30 rfl rfl (rootC_take' _) (by simp [rootC_len])) rfl ?_
                                  refine ol_pull1 ?_
                                  refine ol_iN (wn_none rfl) (os_storera _ ag_30 rfl rfl (Free.zero _)) ?_; rintro _ _ ⟨rfl, rfl⟩
                                  refine ol_nil ?_
                                  refine px_then ?_
                                  refine cd_seq ?_
                                  refine cd_sr ?_   -- 20
                                  refine ol_q (wn_none rfl) (op_move (v := .int _ _) rfl) rfl ?_
                                  refine ol_q (wn_none rfl) (op_eq rfl rfl) rfl ?_
                                  refine ol_nil_then ?_
                                  refine cd_cond rfl (fun hb61 => ?_) (fun hb61 => ?_)
                                  · have hp61 := hb61
                                    (try simp only [decide_eq_true_eq, decide_eq_false_iff_not, Bool.not_eq_true', Bool.not_eq_false', ne_eq, Decidable.not_not] at hp61)
                                    refine cd_region ?_   -- 21
                                    refine ol_q (wn_none rfl) (op_lda (L := rootC _) 6 ag_30 rfl rfl (rootC_take' _) (by simp [rootC_len])) rfl ?_
                                    refine ol_pull1 ?_
                                    refine ol_iN (wn_none rfl) (os_storera _ ag_30 rfl rfl (Free.zero _)) ?_; rintro _ _ ⟨rfl, rfl⟩
                                    refine ol_nil ?_
                                    refine px_then ?_
                                    refine cd_pull3 ?_
                                    refine cd_pull4 ?_
                                    refine cd_seq ?_   -- 22
                                    refine cd_draw (M := [_, _]) mx [5, 11] (by kernel_rfl) ?_
                                    refine rg_q (wn_none rfl) (op_move (v := .pointer _) rfl) rfl rfl ?_
                                    refine rg_q (wn_none rfl) (op_lda (L := rootC _) 0 ag_30 rfl rfl (rootC_take' _) (by simp [rootC_len])) rfl rfl ?_
                                    refine rg_q (wn_none rfl) (op_lda (L := rootC _) 1 ag_30 rfl rfl (rootC_take' _) (by simp [rootC_len])) rfl rfl ?_
                                    refine rg_q (wn_none rfl) (op_field fld_54_2 rfl) rfl rfl ?_
                                    refine rg_q (wn_none rfl) (op_ld 2 sc_3 rfl rfl (tAddC_a2 _)) rfl rfl ?_
                                    refine rg_i (wn_none rfl) (os_call cb_22 rfl (fun w s => Add_calls _ _ _ _ _  s )) rfl rfl ?_; rintro _ _ ⟨rfl, rfl⟩; refine ⟨[_, _], rfl, ?_⟩
                                    refine rg_q (wn_none rfl) (op_move (v := .pointer _) rfl) rfl rfl ?_
                                    refine rg_q (wn_none rfl) (op_lda (L := rootC _) 0 ag_30 rfl rfl (rootC_take' _) (by simp [rootC_len])) rfl rfl ?_
                                    refine rg_q (wn_none rfl) (op_lda (L := rootC _) 1 ag_30 rfl rfl (rootC_take' _) (by simp [rootC_len])) rfl rfl ?_
                                    refine rg_q (wn_none rfl) (op_field fld_54_2 rfl) rfl rfl ?_
                                    refine rg_q (wn_none rfl) (op_ld 2 sc_3 rfl rfl (tAddC_a2 _)) rfl rfl ?_
                                    refine rg_i (wn_none rfl) (os_pull1 (os_call cb_32 rfl (fun w s => RAdd_calls _ _ _ _ _  s ))) rfl rfl ?_; rintro _ _ ⟨rfl, rfl⟩; refine ⟨[_, _], rfl, ?_⟩
                                    refine rg_q (wn_none rfl) (op_ne rfl rfl) rfl rfl ?_
                                    refine rg_nil_then2 ?_
                                    refine cd_cond rfl (fun hb62 => ?_) (fun hb62 => ?_)
                                    · have hp62 := hb62
                                      (try simp only [decide_eq_true_eq, decide_eq_false_iff_not, Bool.not_eq_true', Bool.not_eq_false', ne_eq, Decidable.not_not] at hp62)
                                      exact absurd hb62 (by simp)
                                    · have hp62 := hb62
                                      (try simp only [decide_eq_true_eq, decide_eq_false_iff_not, Bool.not_eq_true', Bool.not_eq_false', ne_eq, Decidable.not_not] at hp62)
                                      refine cd_skip ?_
                                      refine px_blockN ?_
                                      refine px_then ?_
                                      refine cd_region ?_   -- 24
                                      refine ol_q (wn_none rfl) (op_add rfl rfl (by omega) (by omega)) rfl ?_
                                      refine ol_q (wn_none rfl) (op_move (v := .int _ _) rfl) rfl ?_
                                      refine ol_nil ?_
                                      refine px_loop2 (i + 1, (u.add odd first xs[i].slot).2) (by dsimp only; omega) (by (try dsimp only); omega) ⟨congrArg (Value.int .i64) (by simp), trivial⟩ ?_ (fun _ s => (((s.del 4).del 3).del 2))
                                      repeat (first | exact kept_over | refine kept_upd rfl ?_ | refine kept_overS (by decide) ?_)
                                  · have hp61 := hb61
                                    (try simp only [decide_eq_true_eq, decide_eq_false_iff_not, Bool.not_eq_true', Bool.not_eq_false', ne_eq, Decidable.not_not] at hp61)
                                    refine cd_skip ?_
                                    refine px_then ?_
                                    refine cd_pull3 ?_
                                    refine cd_pull4 ?_
                                    refine cd_seq ?_   -- 22
                                    refine cd_draw (M := [_, _]) mx [5, 11] (by kernel_rfl) ?_
                                    refine rg_q (wn_none rfl) (op_move (v := .pointer _) rfl) rfl rfl ?_
                                    refine rg_q (wn_none rfl) (op_lda (L := rootC _) 1 ag_30 rfl rfl (rootC_take' _) (by simp [rootC_len])) rfl rfl ?_
                                    refine rg_q (wn_none rfl) (op_lda (L := rootC _) 0 ag_30 rfl rfl (rootC_take' _) (by simp [rootC_len])) rfl rfl ?_
                                    refine rg_q (wn_none rfl) (op_field fld_54_2 rfl) rfl rfl ?_
                                    refine rg_q (wn_none rfl) (op_ld 2 sc_3 rfl rfl (tAddC_a2 _)) rfl rfl ?_
                                    refine rg_i (wn_none rfl) (os_call cb_22 rfl (fun w s => Add_calls _ _ _ _ _  s )) rfl rfl ?_; rintro _ _ ⟨rfl, rfl⟩; refine ⟨[_, _], rfl, ?_⟩
                                    refine rg_q (wn_none rfl) (op_move (v := .pointer _) rfl) rfl rfl ?_
                                    refine rg_q (wn_none rfl) (op_lda (L := rootC _) 1 ag_30 rfl rfl (rootC_take' _) (by simp [rootC_len])) rfl rfl ?_
                                    refine rg_q (wn_none rfl) (op_lda (L := rootC _) 0 ag_30 rfl rfl (rootC_take' _) (by simp [rootC_len])) rfl rfl ?_
                                    refine rg_q (wn_none rfl) (op_field fld_54_2 rfl) rfl rfl ?_
                                    refine rg_q (wn_none rfl) (op_ld 2 sc_3 rfl rfl (tAddC_a2 _)) rfl rfl ?_
                                    refine rg_i (wn_none rfl) (os_pull1 (os_call cb_32 rfl (fun w s => RAdd_calls _ _ _ _ _  s ))) rfl rfl ?_; rintro _ _ ⟨rfl, rfl⟩; refine ⟨[_, _], rfl, ?_⟩
                                    refine rg_q (wn_none rfl) (op_ne rfl rfl) rfl rfl ?_
                                    refine rg_nil_then2 ?_
                                    refine cd_cond rfl (fun hb63 => ?_) (fun hb63 => ?_)
                                    · have hp63 := hb63
                                      (try simp only [decide_eq_true_eq, decide_eq_false_iff_not, Bool.not_eq_true', Bool.not_eq_false', ne_eq, Decidable.not_not] at hp63)
                                      exact absurd hb63 (by simp)
                                    · have hp63 := hb63
                                      (try simp only [decide_eq_true_eq, decide_eq_false_iff_not, Bool.not_eq_true', Bool.not_eq_false', ne_eq, Decidable.not_not] at hp63)
                                      refine cd_skip ?_
                                      refine px_blockN ?_
                                      refine px_then ?_
                                      refine cd_region ?_   -- 24
                                      refine ol_q (wn_none rfl) (op_add rfl rfl (by omega) (by omega)) rfl ?_
                                      refine ol_q (wn_none rfl) (op_move (v := .int _ _) rfl) rfl ?_
                                      refine ol_nil ?_
                                      refine px_loop2 (i + 1, (u.add (nameR xs[i].root) first xs[i].slot).2) (by dsimp only; omega) (by (try dsimp only); omega) ⟨congrArg (Value.int .i64) (by simp), trivial⟩ ?_ (fun _ s => (((s.del 4).del 3).del 2))
                                      repeat (first | exact kept_over | refine kept_upd rfl ?_ | refine kept_overS (by decide) ?_)
                                · have hp60 := hb60
                                  (try simp only [decide_eq_true_eq, decide_eq_false_iff_not, Bool.not_eq_true', Bool.not_eq_false', ne_eq, Decidable.not_not] at hp60)
                                  refine cd_skip ?_
                                  refine px_then ?_
                                  refine cd_seq ?_
                                  refine cd_sr ?_   -- 20
                                  refine ol_q (wn_none rfl) (op_move (v := .int _ _) rfl) rfl ?_
                                  refine ol_q (wn_none rfl) (op_eq rfl rfl) rfl ?_
                                  refine ol_nil_then ?_
                                  refine cd_cond rfl (fun hb64 => ?_) (fun hb64 => ?_)
                                  · have hp64 := hb64
                                    (try simp only [decide_eq_true_eq, decide_eq_false_iff_not, Bool.not_eq_true', Bool.not_eq_false', ne_eq, Decidable.not_not] at hp64)
                                    refine cd_region ?_   -- 21
                                    refine ol_q (wn_none rfl) (op_lda (L := rootC _) 6 ag_30 rfl rfl (rootC_take' _) (by simp [rootC_len])) rfl ?_
                                    refine ol_iN (wn_none rfl) (os_storera _ ag_30 rfl rfl (Free.zero _)) ?_; rintro _ _ ⟨rfl, rfl⟩
                                    refine ol_nil ?_
                                    refine px_then ?_
                                    refine cd_pull3 ?_
                                    refine cd_pull4 ?_
                                    refine cd_seq ?_   -- 22
                                    refine cd_draw (M := [_, _]) mx [5, 11] (by kernel_rfl) ?_
                                    refine rg_q (wn_none rfl) (op_move (v := .pointer _) rfl) rfl rfl ?_
                                    refine rg_q (wn_none rfl) (op_lda (L := rootC _) 0 ag_30 rfl rfl (rootC_take' _) (by simp [rootC_len])) rfl rfl ?_
                                    refine rg_q (wn_none rfl) (op_lda (L := rootC _) 1 ag_30 rfl rfl (rootC_take' _) (by simp [rootC_len])) rfl rfl ?_
                                    refine rg_q (wn_none rfl) (op_field fld_54_2 rfl) rfl rfl ?_
                                    refine rg_q (wn_none rfl) (op_ld 2 sc_3 rfl rfl (tAddC_a2 _)) rfl rfl ?_
                                    refine rg_i (wn_none rfl) (os_call cb_22 rfl (fun w s => Add_calls _ _ _ _ _  s )) rfl rfl ?_; rintro _ _ ⟨rfl, rfl⟩; refine ⟨[_, _], rfl, ?_⟩
                                    refine rg_q (wn_none rfl) (op_move (v := .pointer _) rfl) rfl rfl ?_
                                    refine rg_q (wn_none rfl) (op_lda (L := rootC _) 0 ag_30 rfl rfl (rootC_take' _) (by simp [rootC_len])) rfl rfl ?_
                                    refine rg_q (wn_none rfl) (op_lda (L := rootC _) 1 ag_30 rfl rfl (rootC_take' _) (by simp [rootC_len])) rfl rfl ?_
                                    refine rg_q (wn_none rfl) (op_field fld_54_2 rfl) rfl rfl ?_
                                    refine rg_q (wn_none rfl) (op_ld 2 sc_3 rfl rfl (tAddC_a2 _)) rfl rfl ?_
                                    refine rg_i (wn_none rfl) (os_pull1 (os_call cb_32 rfl (fun w s => RAdd_calls _ _ _ _ _  s ))) rfl rfl ?_; rintro _ _ ⟨rfl, rfl⟩; refine ⟨[_, _], rfl, ?_⟩
                                    refine rg_q (wn_none rfl) (op_ne rfl rfl) rfl rfl ?_
                                    refine rg_nil_then2 ?_
                                    refine cd_cond rfl (fun hb65 => ?_) (fun hb65 => ?_)
                                    · have hp65 := hb65
                                      (try simp only [decide_eq_true_eq, decide_eq_false_iff_not, Bool.not_eq_true', Bool.not_eq_false', ne_eq, Decidable.not_not] at hp65)
                                      exact absurd hb65 (by simp)
                                    · have hp65 := hb65
                                      (try simp only [decide_eq_true_eq, decide_eq_false_iff_not, Bool.not_eq_true', Bool.not_eq_false', ne_eq, Decidable.not_not] at hp65)
                                      refine cd_skip ?_
                                      refine px_blockN ?_
                                      refine px_then ?_
                                      refine cd_region ?_   -- 24
                                      refine ol_q (wn_none rfl) (op_add rfl rfl (by omega) (by omega)) rfl ?_
                                      refine ol_q (wn_none rfl) (op_move (v := .int _ _) rfl) rfl ?_
                                      refine ol_nil ?_
                                      refine px_loop2 (i + 1, (u.add odd (nameR xs[i].parent) xs[i].slot).2) (by dsimp only; omega) (by (try dsimp only); omega) ⟨congrArg (Value.int .i64) (by simp), trivial⟩ ?_ (fun _ s => (((s.del 4).del 3).del 2))
                                      repeat (first | exact kept_over | refine kept_upd rfl ?_ | refine kept_overS (by decide) ?_)
                                  · have hp64 := hb64
                                    (try simp only [decide_eq_true_eq, decide_eq_false_iff_not, Bool.not_eq_true', Bool.not_eq_false', ne_eq, Decidable.not_not] at hp64)
                                    refine cd_skip ?_
                                    refine px_then ?_
                                    refine cd_pull3 ?_
                                    refine cd_pull4 ?_
                                    refine cd_seq ?_   -- 22
                                    refine cd_draw (M := [_, _]) mx [5, 11] (by kernel_rfl) ?_
                                    refine rg_q (wn_none rfl) (op_move (v := .pointer _) rfl) rfl rfl ?_
                                    refine rg_q (wn_none rfl) (op_lda (L := rootC _) 0 ag_30 rfl rfl (rootC_take' _) (by simp [rootC_len])) rfl rfl ?_
                                    refine rg_q (wn_none rfl) (op_lda (L := rootC _) 1 ag_30 rfl rfl (rootC_take' _) (by simp [rootC_len])) rfl rfl ?_
                                    refine rg_q (wn_none rfl) (op_field fld_54_2 rfl) rfl rfl ?_
                                    refine rg_q (wn_none rfl) (op_ld 2 sc_3 rfl rfl (tAddC_a2 _)) rfl rfl ?_
                                    refine rg_i (wn_none rfl) (os_call cb_22 rfl (fun w s => Add_calls _ _ _ _ _  s )) rfl rfl ?_; rintro _ _ ⟨rfl, rfl⟩; refine ⟨[_, _], rfl, ?_⟩
                                    refine rg_q (wn_none rfl) (op_move (v := .pointer _) rfl) rfl rfl ?_
                                    refine rg_q (wn_none rfl) (op_lda (L := rootC _) 0 ag_30 rfl rfl (rootC_take' _) (by simp [rootC_len])) rfl rfl ?_
                                    refine rg_q (wn_none rfl) (op_lda (L := rootC _) 1 ag_30 rfl rfl (rootC_take' _) (by simp [rootC_len])) rfl rfl ?_
                                    refine rg_q (wn_none rfl) (op_field fld_54_2 rfl) rfl rfl ?_
                                    refine rg_q (wn_none rfl) (op_ld 2 sc_3 rfl rfl (tAddC_a2 _)) rfl rfl ?_
                                    refine rg_i (wn_none rfl) (os_pull1 (os_call cb_32 rfl (fun w s => RAdd_calls _ _ _ _ _  s ))) rfl rfl ?_; rintro _ _ ⟨rfl, rfl⟩; refine ⟨[_, _], rfl, ?_⟩
                                    refine rg_q (wn_none rfl) (op_ne rfl rfl) rfl rfl ?_
                                    refine rg_nil_then2 ?_
                                    refine cd_cond rfl (fun hb66 => ?_) (fun hb66 => ?_)
                                    · have hp66 := hb66
                                      (try simp only [decide_eq_true_eq, decide_eq_false_iff_not, Bool.not_eq_true', Bool.not_eq_false', ne_eq, Decidable.not_not] at hp66)
                                      exact absurd hb66 (by simp)
                                    · have hp66 := hb66
                                      (try simp only [decide_eq_true_eq, decide_eq_false_iff_not, Bool.not_eq_true', Bool.not_eq_false', ne_eq, Decidable.not_not] at hp66)
                                      refine cd_skip ?_
                                      refine px_blockN ?_
                                      refine px_then ?_
                                      refine cd_region ?_   -- 24
                                      refine ol_q (wn_none rfl) (op_add rfl rfl (by omega) (by omega)) rfl ?_
                                      refine ol_q (wn_none rfl) (op_move (v := .int _ _) rfl) rfl ?_
                                      refine ol_nil ?_
                                      refine px_loop2 (i + 1, (u.add (nameR xs[i].root) (nameR xs[i].parent) xs[i].slot).2) (by dsimp only; omega) (by (try dsimp only); omega) ⟨congrArg (Value.int .i64) (by simp), trivial⟩ ?_ (fun _ s => (((s.del 4).del 3).del 2))
                                      repeat (first | exact kept_over | refine kept_upd rfl ?_ | refine kept_overS (by decide) ?_)
                            · -- 7
                              refine ei_i rfl rfl (wn_none rfl) (os_alloc (cs := (rootC Root.zero).toArray) zB_30 (by kernel_rfl)) rfl ?_; rintro _ _ ⟨bx17, rfl, rfl⟩; refine ⟨[_, _], rfl, ?_⟩
                              refine et_1 (i := 2) (by kernel_rfl) ?_
                              refine ei_i rfl rfl (wn_none rfl) (os_call cb_20 rfl (fun w s => Name_calls _  s )) rfl ?_; rintro _ l ⟨rfl, rfl⟩; refine ⟨[_, _], rfl, ?_⟩
                              refine et_1 (i := 5) (by kernel_rfl) ?_
                              refine ei_i rfl rfl (wn_none rfl) (os_call cb_20 rfl (fun w s => Name_calls _  s )) rfl ?_; rintro _ l ⟨rfl, rfl⟩; refine ⟨[_, _], rfl, ?_⟩
                              refine et_1 (i := 8) (by kernel_rfl) ?_
                              refine ei_iN rfl rfl (wn_none rfl) (os_pull1 (os_storera _ ag_30 rfl rfl (Free.zero _))) ?_; rintro _ _ ⟨rfl, rfl⟩; refine ⟨[_, _], rfl, ?_⟩
                              refine et_1 (i := 9) (by kernel_rfl) ?_
                              refine ei_iN rfl rfl (wn_none rfl) (os_pull1 (os_storera _ ag_30 rfl rfl (Free.zero _))) ?_; rintro _ _ ⟨rfl, rfl⟩; refine ⟨[_, _], rfl, ?_⟩
                              refine et_nil_then (by kernel_rfl) ?_
                              refine cd_seq ?_
                              refine cd_sr ?_   -- 18
                              refine ol_q (wn_none rfl) (op_field fld_54_1 rfl) rfl ?_
                              refine ol_q (wn_none rfl) (op_ld 2 sc_3 rfl rfl (tAddC_a1 _)) rfl ?_
                              refine ol_q (wn_none rfl) (op_eq rfl rfl) rfl ?_
                              refine ol_nil_then ?_
                              refine cd_cond rfl (fun hb67 => ?_) (fun hb67 => ?_)
                              · have hp67 := hb67
                                (try simp only [decide_eq_true_eq, decide_eq_false_iff_not, Bool.not_eq_true', Bool.not_eq_false', ne_eq, Decidable.not_not] at hp67)
                                refine cd_region ?_   -- 19
                                refine ol_q (wn_none rfl) (op_lda (L := rootC _) 5 ag_30 rfl rfl (rootC_take' _) (by simp [rootC_len])) rfl ?_
                                refine ol_pull1 ?_
                                refine ol_iN (wn_none rfl) (os_storera _ ag_30 rfl rfl (Free.zero _)) ?_; rintro _ _ ⟨rfl, rfl⟩
                                refine ol_nil ?_
                                refine px_then ?_
                                refine cd_seq ?_
                                refine cd_sr ?_   -- 20
                                refine ol_q (wn_none rfl) (op_move (v := .int _ _) rfl) rfl ?_
                                refine ol_q (wn_none rfl) (op_eq rfl rfl) rfl ?_
                                refine ol_nil_then ?_
                                refine cd_cond rfl (fun hb68 => ?_) (fun hb68 => ?_)
                                · have hp68 := hb68
                                  (try simp only [decide_eq_true_eq, decide_eq_false_iff_not, Bool.not_eq_true', Bool.not_eq_false', ne_eq, Decidable.not_not] at hp68)
                                  refine cd_region ?_   -- 21
                                  refine ol_q (wn_none rfl) (op_lda (L := rootC _) 6 ag_30 rfl rfl (rootC_take' _) (by simp [rootC_len])) rfl ?_
                                  refine ol_pull1 ?_
                                  refine ol_iN (wn_none rfl) (os_storera _ ag_30 rfl rfl (Free.zero _)) ?_; rintro _ _ ⟨rfl, rfl⟩
                                  refine ol_nil ?_
                                  refine px_then ?_
                                  refine cd_pull3 ?_
                                  refine cd_pull4 ?_
                                  refine cd_seq ?_   -- 22
                                  refine cd_draw (M := [_, _]) mx [5, 11] (by kernel_rfl) ?_
                                  refine rg_q (wn_none rfl) (op_move (v := .pointer _) rfl) rfl rfl ?_
                                  refine rg_q (wn_none rfl) (op_lda (L := rootC _) 0 ag_30 rfl rfl (rootC_take' _) (by simp [rootC_len])) rfl rfl ?_
                                  refine rg_q (wn_none rfl) (op_lda (L := rootC _) 1 ag_30 rfl rfl (rootC_take' _) (by simp [rootC_len])) rfl rfl ?_
                                  refine rg_q (wn_none rfl) (op_field fld_54_2 rfl) rfl rfl ?_
                                  refine rg_q (wn_none rfl) (op_ld 2 sc_3 rfl rfl (tAddC_a2 _)) rfl rfl ?_
                                  refine rg_i (wn_none rfl) (os_call cb_22 rfl (fun w s => Add_calls _ _ _ _ _  s )) rfl rfl ?_; rintro _ _ ⟨rfl, rfl⟩; refine ⟨[_, _], rfl, ?_⟩
                                  refine rg_q (wn_none rfl) (op_move (v := .pointer _) rfl) rfl rfl ?_
                                  refine rg_q (wn_none rfl) (op_lda (L := rootC _) 0 ag_30 rfl rfl (rootC_take' _) (by simp [rootC_len])) rfl rfl ?_
                                  refine rg_q (wn_none rfl) (op_lda (L := rootC _) 1 ag_30 rfl rfl (rootC_take' _) (by simp [rootC_len])) rfl rfl ?_
                                  refine rg_q (wn_none rfl) (op_field fld_54_2 rfl) rfl rfl ?_
                                  refine rg_q (wn_none rfl) (op_ld 2 sc_3 rfl rfl (tAddC_a2 _)) rfl rfl ?_
                                  refine rg_i (wn_none rfl) (os_pull1 (os_call cb_32 rfl (fun w s => RAdd_calls _ _ _ _ _  s ))) rfl rfl ?_; rintro _ _ ⟨rfl, rfl⟩; refine ⟨[_, _], rfl, ?_⟩
                                  refine rg_q (wn_none rfl) (op_ne rfl rfl) rfl rfl ?_
                                  refine rg_nil_then2 ?_
                                  refine cd_cond rfl (fun hb69 => ?_) (fun hb69 => ?_)
                                  · have hp69 := hb69
                                    (try simp only [decide_eq_true_eq, decide_eq_false_iff_not, Bool.not_eq_true', Bool.not_eq_false', ne_eq, Decidable.not_not] at hp69)
                                    exact absurd hb69 (by simp)
                                  · have hp69 := hb69
                                    (try simp only [decide_eq_true_eq, decide_eq_false_iff_not, Bool.not_eq_true', Bool.not_eq_false', ne_eq, Decidable.not_not] at hp69)
                                    refine cd_skip ?_
                                    refine px_blockN ?_
                                    refine px_then ?_
                                    refine cd_region ?_   -- 24
                                    refine ol_q (wn_none rfl) (op_add rfl rfl (by omega) (by omega)) rfl ?_
                                    refine ol_q (wn_none rfl) (op_move (v := .int _ _) rfl) rfl ?_
                                    refine ol_nil ?_
                                    refine px_loop2 (i + 1, (u.add odd first xs[i].slot).2) (by dsimp only; omega) (by (try dsimp only); omega) ⟨congrArg (Value.int .i64) (by simp), trivial⟩ ?_ (fun _ s => (((s.del 4).del 3).del 2))
                                    repeat (first | exact kept_over | refine kept_upd rfl ?_ | refine kept_overS (by decide) ?_)
                                · have hp68 := hb68
                                  (try simp only [decide_eq_true_eq, decide_eq_false_iff_not, Bool.not_eq_true', Bool.not_eq_false', ne_eq, Decidable.not_not] at hp68)
                                  refine cd_skip ?_
                                  refine px_then ?_
                                  refine cd_pull3 ?_
                                  refine cd_pull4 ?_
                                  refine cd_seq ?_   -- 22
                                  refine cd_draw (M := [_, _]) mx [5, 11] (by kernel_rfl) ?_
                                  refine rg_q (wn_none rfl) (op_move (v := .pointer _) rfl) rfl rfl ?_
                                  refine rg_q (wn_none rfl) (op_lda (L := rootC _) 1 ag_30 rfl rfl (rootC_take' _) (by simp [rootC_len])) rfl rfl ?_
                                  refine rg_q (wn_none rfl) (op_lda (L := rootC _) 0 ag_30 rfl rfl (rootC_take' _) (by simp [rootC_len])) rfl rfl ?_
                                  refine rg_q (wn_none rfl) (op_field fld_54_2 rfl) rfl rfl ?_
                                  refine rg_q (wn_none rfl) (op_ld 2 sc_3 rfl rfl (tAddC_a2 _)) rfl rfl ?_
                                  refine rg_i (wn_none rfl) (os_call cb_22 rfl (fun w s => Add_calls _ _ _ _ _  s )) rfl rfl ?_; rintro _ _ ⟨rfl, rfl⟩; refine ⟨[_, _], rfl, ?_⟩
                                  refine rg_q (wn_none rfl) (op_move (v := .pointer _) rfl) rfl rfl ?_
                                  refine rg_q (wn_none rfl) (op_lda (L := rootC _) 1 ag_30 rfl rfl (rootC_take' _) (by simp [rootC_len])) rfl rfl ?_
                                  refine rg_q (wn_none rfl) (op_lda (L := rootC _) 0 ag_30 rfl rfl (rootC_take' _) (by simp [rootC_len])) rfl rfl ?_
                                  refine rg_q (wn_none rfl) (op_field fld_54_2 rfl) rfl rfl ?_
                                  refine rg_q (wn_none rfl) (op_ld 2 sc_3 rfl rfl (tAddC_a2 _)) rfl rfl ?_
                                  refine rg_i (wn_none rfl) (os_pull1 (os_call cb_32 rfl (fun w s => RAdd_calls _ _ _ _ _  s ))) rfl rfl ?_; rintro _ _ ⟨rfl, rfl⟩; refine ⟨[_, _], rfl, ?_⟩
                                  refine rg_q (wn_none rfl) (op_ne rfl rfl) rfl rfl ?_
                                  refine rg_nil_then2 ?_
                                  refine cd_cond rfl (fun hb70 => ?_) (fun hb70 => ?_)
                                  · have hp70 := hb70
                                    (try simp only [decide_eq_true_eq, decide_eq_false_iff_not, Bool.not_eq_true', Bool.not_eq_false', ne_eq, Decidable.not_not] at hp70)
                                    exact absurd hb70 (by simp)
                                  · have hp70 := hb70
                                    (try simp only [decide_eq_true_eq, decide_eq_false_iff_not, Bool.not_eq_true', Bool.not_eq_false', ne_eq, Decidable.not_not] at hp70)
                                    refine cd_skip ?_
                                    refine px_blockN ?_
                                    refine px_then ?_
                                    refine cd_region ?_   -- 24
                                    refine ol_q (wn_none rfl) (op_add rfl rfl (by omega) (by omega)) rfl ?_
                                    refine ol_q (wn_none rfl) (op_move (v := .int _ _) rfl) rfl ?_
                                    refine ol_nil ?_
                                    refine px_loop2 (i + 1, (u.add (nameR xs[i].root) first xs[i].slot).2) (by dsimp only; omega) (by (try dsimp only); omega) ⟨congrArg (Value.int .i64) (by simp), trivial⟩ ?_ (fun _ s => (((s.del 4).del 3).del 2))
                                    repeat (first | exact kept_over | refine kept_upd rfl ?_ | refine kept_overS (by decide) ?_)
                              · have hp67 := hb67
                                (try simp only [decide_eq_true_eq, decide_eq_false_iff_not, Bool.not_eq_true', Bool.not_eq_false', ne_eq, Decidable.not_not] at hp67)
                                refine cd_skip ?_
                                refine px_then ?_
                                refine cd_seq ?_
                                refine cd_sr ?_   -- 20
                                refine ol_q (wn_none rfl) (op_move (v := .int _ _) rfl) rfl ?_
                                refine ol_q (wn_none rfl) (op_eq rfl rfl) rfl ?_
                                refine ol_nil_then ?_
                                refine cd_cond rfl (fun hb71 => ?_) (fun hb71 => ?_)
                                · have hp71 := hb71
                                  (try simp only [decide_eq_true_eq, decide_eq_false_iff_not, Bool.not_eq_true', Bool.not_eq_false', ne_eq, Decidable.not_not] at hp71)
                                  refine cd_region ?_   -- 21
                                  refine ol_q (wn_none rfl) (op_lda (L := rootC _) 6 ag_30 rfl rfl (rootC_take' _) (by simp [rootC_len])) rfl ?_
                                  refine ol_iN (wn_none rfl) (os_storera _ ag_30 rfl rfl (Free.zero _)) ?_; rintro _ _ ⟨rfl, rfl⟩
                                  refine ol_nil ?_
                                  refine px_then ?_
                                  refine cd_pull3 ?_
                                  refine cd_pull4 ?_
                                  refine cd_seq ?_   -- 22
                                  refine cd_draw (M := [_, _]) mx [5, 11] (by kernel_rfl) ?_
                                  refine rg_q (wn_none rfl) (op_move (v := .pointer _) rfl) rfl rfl ?_
                                  refine rg_q (wn_none rfl) (op_lda (L := rootC _) 0 ag_30 rfl rfl (rootC_take' _) (by simp [rootC_len])) rfl rfl ?_
                                  refine rg_q (wn_none rfl) (op_lda (L := rootC _) 1 ag_30 rfl rfl (rootC_take' _) (by simp [rootC_len])) rfl rfl ?_
                                  refine rg_q (wn_none rfl) (op_field fld_54_2 rfl) rfl rfl ?_
                                  refine rg_q (wn_none rfl) (op_ld 2 sc_3 rfl rfl (tAddC_a2 _)) rfl rfl ?_
                                  refine rg_i (wn_none rfl) (os_call cb_22 rfl (fun w s => Add_calls _ _ _ _ _  s )) rfl rfl ?_; rintro _ _ ⟨rfl, rfl⟩; refine ⟨[_, _], rfl, ?_⟩
                                  refine rg_q (wn_none rfl) (op_move (v := .pointer _) rfl) rfl rfl ?_
                                  refine rg_q (wn_none rfl) (op_lda (L := rootC _) 0 ag_30 rfl rfl (rootC_take' _) (by simp [rootC_len])) rfl rfl ?_
                                  refine rg_q (wn_none rfl) (op_lda (L := rootC _) 1 ag_30 rfl rfl (rootC_take' _) (by simp [rootC_len])) rfl rfl ?_
                                  refine rg_q (wn_none rfl) (op_field fld_54_2 rfl) rfl rfl ?_
                                  refine rg_q (wn_none rfl) (op_ld 2 sc_3 rfl rfl (tAddC_a2 _)) rfl rfl ?_
                                  refine rg_i (wn_none rfl) (os_pull1 (os_call cb_32 rfl (fun w s => RAdd_calls _ _ _ _ _  s ))) rfl rfl ?_; rintro _ _ ⟨rfl, rfl⟩; refine ⟨[_, _], rfl, ?_⟩
                                  refine rg_q (wn_none rfl) (op_ne rfl rfl) rfl rfl ?_
                                  refine rg_nil_then2 ?_
                                  refine cd_cond rfl (fun hb72 => ?_) (fun hb72 => ?_)
                                  · have hp72 := hb72
                                    (try simp only [decide_eq_true_eq, decide_eq_false_iff_not, Bool.not_eq_true', Bool.not_eq_false', ne_eq, Decidable.not_not] at hp72)
                                    exact absurd hb72 (by simp)
                                  · have hp72 := hb72
                                    (try simp only [decide_eq_true_eq, decide_eq_false_iff_not, Bool.not_eq_true', Bool.not_eq_false', ne_eq, Decidable.not_not] at hp72)
                                    refine cd_skip ?_
                                    refine px_blockN ?_
                                    refine px_then ?_
                                    refine cd_region ?_   -- 24
                                    refine ol_q (wn_none rfl) (op_add rfl rfl (by omega) (by omega)) rfl ?_
                                    refine ol_q (wn_none rfl) (op_move (v := .int _ _) rfl) rfl ?_
                                    refine ol_nil ?_
                                    refine px_loop2 (i + 1, (u.add odd (nameR xs[i].parent) xs[i].slot).2) (by dsimp only; omega) (by (try dsimp only); omega) ⟨congrArg (Value.int .i64) (by simp), trivial⟩ ?_ (fun _ s => (((s.del 4).del 3).del 2))
                                    repeat (first | exact kept_over | refine kept_upd rfl ?_ | refine kept_overS (by decide) ?_)
                                · have hp71 := hb71
                                  (try simp only [decide_eq_true_eq, decide_eq_false_iff_not, Bool.not_eq_true', Bool.not_eq_false', ne_eq, Decidable.not_not] at hp71)
                                  refine cd_skip ?_
                                  refine px_then ?_
                                  refine cd_pull3 ?_
                                  refine cd_pull4 ?_
                                  refine cd_seq ?_   -- 22
                                  refine cd_draw (M := [_, _]) mx [5, 11] (by kernel_rfl) ?_
                                  refine rg_q (wn_none rfl) (op_move (v := .pointer _) rfl) rfl rfl ?_
                                  refine rg_q (wn_none rfl) (op_lda (L := rootC _) 0 ag_30 rfl rfl (rootC_take' _) (by simp [rootC_len])) rfl rfl ?_
                                  refine rg_q (wn_none rfl) (op_lda (L := rootC _) 1 ag_30 rfl rfl (rootC_take' _) (by simp [rootC_len])) rfl rfl ?_
                                  refine rg_q (wn_none rfl) (op_field fld_54_2 rfl) rfl rfl ?_
                                  refine rg_q (wn_none rfl) (op_ld 2 sc_3 rfl rfl (tAddC_a2 _)) rfl rfl ?_
                                  refine rg_i (wn_none rfl) (os_call cb_22 rfl (fun w s => Add_calls _ _ _ _ _  s )) rfl rfl ?_; rintro _ _ ⟨rfl, rfl⟩; refine ⟨[_, _], rfl, ?_⟩
                                  refine rg_q (wn_none rfl) (op_move (v := .pointer _) rfl) rfl rfl ?_
                                  refine rg_q (wn_none rfl) (op_lda (L := rootC _) 0 ag_30 rfl rfl (rootC_take' _) (by simp [rootC_len])) rfl rfl ?_
                                  refine rg_q (wn_none rfl) (op_lda (L := rootC _) 1 ag_30 rfl rfl (rootC_take' _) (by simp [rootC_len])) rfl rfl ?_
                                  refine rg_q (wn_none rfl) (op_field fld_54_2 rfl) rfl rfl ?_
                                  refine rg_q (wn_none rfl) (op_ld 2 sc_3 rfl rfl (tAddC_a2 _)) rfl rfl ?_
                                  refine rg_i (wn_none rfl) (os_pull1 (os_call cb_32 rfl (fun w s => RAdd_calls _ _ _ _ _  s ))) rfl rfl ?_; rintro _ _ ⟨rfl, rfl⟩; refine ⟨[_, _], rfl, ?_⟩
                                  refine rg_q (wn_none rfl) (op_ne rfl rfl) rfl rfl ?_
                                  refine rg_nil_then2 ?_
                                  refine cd_cond rfl (fun hb73 => ?_) (fun hb73 => ?_)
                                  · have hp73 := hb73
                                    (try simp only [decide_eq_true_eq, decide_eq_false_iff_not, Bool.not_eq_true', Bool.not_eq_false', ne_eq, Decidable.not_not] at hp73)
                                    exact absurd hb73 (by simp)
                                  · have hp73 := hb73
                                    (try simp only [decide_eq_true_eq, decide_eq_false_iff_not, Bool.not_eq_true', Bool.not_eq_false', ne_eq, Decidable.not_not] at hp73)
                                    refine cd_skip ?_
                                    refine px_blockN ?_
                                    refine px_then ?_
                                    refine cd_region ?_   -- 24
                                    refine ol_q (wn_none rfl) (op_add rfl rfl (by omega) (by omega)) rfl ?_
                                    refine ol_q (wn_none rfl) (op_move (v := .int _ _) rfl) rfl ?_
                                    refine ol_nil ?_
                                    refine px_loop2 (i + 1, (u.add (nameR xs[i].root) (nameR xs[i].parent) xs[i].slot).2) (by dsimp only; omega) (by (try dsimp only); omega) ⟨congrArg (Value.int .i64) (by simp), trivial⟩ ?_ (fun _ s => (((s.del 4).del 3).del 2))
                                    repeat (first | exact kept_over | refine kept_upd rfl ?_ | refine kept_overS (by decide) ?_)
                          · -- 7
                            refine ei_i rfl rfl (wn_none rfl) (os_alloc (cs := (rootC Root.zero).toArray) zB_30 (by kernel_rfl)) rfl ?_; rintro _ _ ⟨bx18, rfl, rfl⟩; refine ⟨[_], rfl, ?_⟩
                            refine et_2 (i1 := 2) (i2 := 6) (by kernel_rfl) ?_ ?_
                            · -- 2
                              refine ei_i rfl rfl (wn_none rfl) (os_call cb_20 rfl (fun w s => Name_calls _  s )) rfl ?_; rintro _ l ⟨rfl, rfl⟩; refine ⟨[_], rfl, ?_⟩
                              refine et_2 (i1 := 5) (i2 := 6) (by kernel_rfl) ?_ ?_
                              · -- 5
                                refine ei_i rfl rfl (wn_none rfl) (os_call cb_20 rfl (fun w s => Name_calls _  s )) rfl ?_; rintro _ l ⟨rfl, rfl⟩; refine ⟨[_], rfl, ?_⟩
                                refine et_1 (i := 6) (by kernel_rfl) ?_
                                refine ei_i rfl rfl (wn_none rfl) (os_alloc (cs := (rootC Root.zero).toArray) zB_30 (by kernel_rfl)) rfl ?_; rintro _ _ ⟨bx19, rfl, rfl⟩; refine ⟨[_, _], rfl, ?_⟩
                                refine et_1 (i := 8) (by kernel_rfl) ?_
                                refine ei_iN rfl rfl (wn_none rfl) (os_storera _ ag_30 rfl rfl (Free.zero _)) ?_; rintro _ _ ⟨rfl, rfl⟩; refine ⟨[_, _], rfl, ?_⟩
                                refine et_1 (i := 9) (by kernel_rfl) ?_
                                refine ei_iN rfl rfl (wn_none rfl) (os_pull1 (os_storera _ ag_30 rfl rfl (Free.zero _))) ?_; rintro _ _ ⟨rfl, rfl⟩; refine ⟨[_, _], rfl, ?_⟩
                                refine et_nil_then (by kernel_rfl) ?_
                                refine cd_seq ?_
                                refine cd_sr ?_   -- 18
                                refine ol_q (wn_none rfl) (op_field fld_54_1 rfl) rfl ?_
                                refine ol_q (wn_none rfl) (op_ld 2 sc_3 rfl rfl (tAddC_a1 _)) rfl ?_
                                refine ol_q (wn_none rfl) (op_eq rfl rfl) rfl ?_
                                refine ol_nil_then ?_
                                refine cd_cond rfl (fun hb74 => ?_) (fun hb74 => ?_)
                                · have hp74 := hb74
                                  (try simp only [decide_eq_true_eq, decide_eq_false_iff_not, Bool.not_eq_true', Bool.not_eq_false', ne_eq, Decidable.not_not] at hp74)
                                  refine cd_region ?_   -- 19
                                  refine ol_q (wn_none rfl) (op_lda (L := rootC _) 5 ag_30 rfl rfl (rootC_take' _) (by simp [rootC_len])) rfl ?_
                                  refine ol_pull1 ?_
                                  refine ol_iN (wn_none rfl) (os_storera _ ag_30 rfl rfl (Free.zero _)) ?_; rintro _ _ ⟨rfl, rfl⟩
                                  refine ol_nil ?_
                                  refine px_then ?_
                                  refine cd_seq ?_
                                  refine cd_sr ?_   -- 20
                                  refine ol_q (wn_none rfl) (op_move (v := .int _ _) rfl) rfl ?_
                                  refine ol_q (wn_none rfl) (op_eq rfl rfl) rfl ?_
                                  refine ol_nil_then ?_
                                  refine cd_cond rfl (fun hb75 => ?_) (fun hb75 => ?_)
                                  · have hp75 := hb75
                                    (try simp only [decide_eq_true_eq, decide_eq_false_iff_not, Bool.not_eq_true', Bool.not_eq_false', ne_eq, Decidable.not_not] at hp75)
                                    refine cd_region ?_   -- 21
                                    refine ol_q (wn_none rfl) (op_lda (L := rootC _) 6 ag_30 rfl rfl (rootC_take' _) (by simp [rootC_len])) rfl ?_
                                    refine ol_pull1 ?_
                                    refine ol_iN (wn_none rfl) (os_storera _ ag_30 rfl rfl (Free.zero _)) ?_; rintro _ _ ⟨rfl, rfl⟩
                                    refine ol_nil ?_
                                    refine px_then ?_
                                    refine cd_pull3 ?_
                                    refine cd_pull4 ?_
                                    refine cd_seq ?_   -- 22
                                    refine cd_draw (M := [_, _]) mx [5, 11] (by kernel_rfl) ?_
                                    refine rg_q (wn_none rfl) (op_move (v := .pointer _) rfl) rfl rfl ?_
                                    refine rg_q (wn_none rfl) (op_lda (L := rootC _) 0 ag_30 rfl rfl (rootC_take' _) (by simp [rootC_len])) rfl rfl ?_
                                    refine rg_q (wn_none rfl) (op_lda (L := rootC _) 1 ag_30 rfl rfl (rootC_take' _) (by simp [rootC_len])) rfl rfl ?_
                                    refine rg_q (wn_none rfl) (op_field fld_54_2 rfl) rfl rfl ?_
                                    refine rg_q (wn_none rfl) (op_ld 2 sc_3 rfl rfl (tAddC_a2 _)) rfl rfl ?_
                                    refine rg_i (wn_none rfl) (os_call cb_22 rfl (fun w s => Add_calls _ _ _ _ _  s )) rfl rfl ?_; rintro _ _ ⟨rfl, rfl⟩; refine ⟨[_, _], rfl, ?_⟩
                                    refine rg_q (wn_none rfl) (op_move (v := .pointer _) rfl) rfl rfl ?_
                                    refine rg_q (wn_none rfl) (op_lda (L := rootC _) 0 ag_30 rfl rfl (rootC_take' _) (by simp [rootC_len])) rfl rfl ?_
                                    refine rg_q (wn_none rfl) (op_lda (L := rootC _) 1 ag_30 rfl rfl (rootC_take' _) (by simp [rootC_len])) rfl rfl ?_
                                    refine rg_q (wn_none rfl) (op_field fld_54_2 rfl) rfl rfl ?_
                                    refine rg_q (wn_none rfl) (op_ld 2 sc_3 rfl rfl (tAddC_a2 _)) rfl rfl ?_
                                    refine rg_i (wn_none rfl) (os_pull1 (os_call cb_32 rfl (fun w s => RAdd_calls _ _ _ _ _  s ))) rfl rfl ?_; rintro _ _ ⟨rfl, rfl⟩; refine ⟨[_, _], rfl, ?_⟩
                                    refine rg_q (wn_none rfl) (op_ne rfl rfl) rfl rfl ?_
                                    refine rg_nil_then2 ?_
                                    refine cd_cond rfl (fun hb76 => ?_) (fun hb76 => ?_)
                                    · have hp76 := hb76
                                      (try simp only [decide_eq_true_eq, decide_eq_false_iff_not, Bool.not_eq_true', Bool.not_eq_false', ne_eq, Decidable.not_not] at hp76)
                                      exact absurd hb76 (by simp)
                                    · have hp76 := hb76
                                      (try simp only [decide_eq_true_eq, decide_eq_false_iff_not, Bool.not_eq_true', Bool.not_eq_false', ne_eq, Decidable.not_not] at hp76)
                                      refine cd_skip ?_
                                      refine px_blockN ?_
                                      refine px_then ?_
                                      refine cd_region ?_   -- 24
                                      refine ol_q (wn_none rfl) (op_add rfl rfl (by omega) (by omega)) rfl ?_
                                      refine ol_q (wn_none rfl) (op_move (v := .int _ _) rfl) rfl ?_
                                      refine ol_nil ?_
                                      refine px_loop2 (i + 1, (u.add odd first xs[i].slot).2) (by dsimp only; omega) (by (try dsimp only); omega) ⟨congrArg (Value.int .i64) (by simp), trivial⟩ ?_ (fun _ s => (((s.del 4).del 3).del 2))
                                      repeat (first | exact kept_over | refine kept_upd rfl ?_ | refine kept_overS (by decide) ?_)
                                  · have hp75 := hb75
                                    (try simp only [decide_eq_true_eq, decide_eq_false_iff_not, Bool.not_eq_true', Bool.not_eq_false', ne_eq, Decidable.not_not] at hp75)
                                    refine cd_skip ?_
                                    refine px_then ?_
                                    refine cd_pull3 ?_
                                    refine cd_pull4 ?_
                                    refine cd_seq ?_   -- 22
                                    refine cd_draw (M := [_, _]) mx [5, 11] (by kernel_rfl) ?_
                                    refine rg_q (wn_none rfl) (op_move (v := .pointer _) rfl) rfl rfl ?_
                                    refine rg_q (wn_none rfl) (op_lda (L := rootC _) 1 ag_30 rfl rfl (rootC_take' _) (by simp [rootC_len])) rfl rfl ?_
                                    refine rg_q (wn_none rfl) (op_lda (L := rootC _) 0 ag_30 rfl rfl (rootC_take' _) (by simp [rootC_len])) rfl rfl ?_
                                    refine rg_q (wn_none rfl) (op_field fld_54_2 rfl) rfl rfl ?_
                                    refine rg_q (wn_none rfl) (op_ld 2 sc_3 rfl rfl (tAddC_a2 _)) rfl rfl ?_
                                    refine rg_i (wn_none rfl) (os_call cb_22 rfl (fun w s => Add_calls _ _ _ _ _  s )) rfl rfl ?_; rintro _ _ ⟨rfl, rfl⟩; refine ⟨[_, _], rfl, ?_⟩
                                    refine rg_q (wn_none rfl) (op_move (v := .pointer _) rfl) rfl rfl ?_
                                    refine rg_q (wn_none rfl) (op_lda (L := rootC _) 1 ag_30 rfl rfl (rootC_take' _) (by simp [rootC_len])) rfl rfl ?_
                                    refine rg_q (wn_none rfl) (op_lda (L := rootC _) 0 ag_30 rfl rfl (rootC_take' _) (by simp [rootC_len])) rfl rfl ?_
                                    refine rg_q (wn_none rfl) (op_field fld_54_2 rfl) rfl rfl ?_
                                    refine rg_q (wn_none rfl) (op_ld 2 sc_3 rfl rfl (tAddC_a2 _)) rfl rfl ?_
                                    refine rg_i (wn_none rfl) (os_pull1 (os_call cb_32 rfl (fun w s => RAdd_calls _ _ _ _ _  s ))) rfl rfl ?_; rintro _ _ ⟨rfl, rfl⟩; refine ⟨[_, _], rfl, ?_⟩
                                    refine rg_q (wn_none rfl) (op_ne rfl rfl) rfl rfl ?_
                                    refine rg_nil_then2 ?_
                                    refine cd_cond rfl (fun hb77 => ?_) (fun hb77 => ?_)
                                    · have hp77 := hb77
                                      (try simp only [decide_eq_true_eq, decide_eq_false_iff_not, Bool.not_eq_true', Bool.not_eq_false', ne_eq, Decidable.not_not] at hp77)
                                      exact absurd hb77 (by simp)
                                    · have hp77 := hb77
                                      (try simp only [decide_eq_true_eq, decide_eq_false_iff_not, Bool.not_eq_true', Bool.not_eq_false', ne_eq, Decidable.not_not] at hp77)
                                      refine cd_skip ?_
                                      refine px_blockN ?_
                                      refine px_then ?_
                                      refine cd_region ?_   -- 24
                                      refine ol_q (wn_none rfl) (op_add rfl rfl (by omega) (by omega)) rfl ?_
                                      refine ol_q (wn_none rfl) (op_move (v := .int _ _) rfl) rfl ?_
                                      refine ol_nil ?_
                                      refine px_loop2 (i + 1, (u.add (nameR xs[i].root) first xs[i].slot).2) (by dsimp only; omega) (by (try dsimp only); omega) ⟨congrArg (Value.int .i64) (by simp), trivial⟩ ?_ (fun _ s => (((s.del 4).del 3).del 2))
                                      repeat (first | exact kept_over | refine kept_upd rfl ?_ | refine kept_overS (by decide) ?_)
                                · have hp74 := hb74
                                  (try simp only [decide_eq_true_eq, decide_eq_false_iff_not, Bool.not_eq_true', Bool.not_eq_false', ne_eq, Decidable.not_not] at hp74)
                                  refine cd_skip ?_
                                  refine px_then ?_
                                  refine cd_seq ?_
                                  refine cd_sr ?_   -- 20
                                  refine ol_q (wn_none rfl) (op_move (v := .int _ _) rfl) rfl ?_
                                  refine ol_q (wn_none rfl) (op_eq rfl rfl) rfl ?_
                                  refine ol_nil_then ?_
                                  refine cd_cond rfl (fun hb78 => ?_) (fun hb78 => ?_)
                                  · have hp78 := hb78
                                    (try simp only [decide_eq_true_eq, decide_eq_false_iff_not, Bool.not_eq_true', Bool.not_eq_false', ne_eq, Decidable.not_not] at hp78)
                                    refine cd_region ?_   -- 21
                                    refine ol_q (wn_none rfl) (op_lda (L := rootC _) 6 ag_30 rfl rfl (rootC_take' _) (by simp [rootC_len])) rfl ?_
                                    refine ol_iN (wn_none rfl) (os_storera _ ag_30 rfl rfl (Free.zero _)) ?_; rintro _ _ ⟨rfl, rfl⟩
                                    refine ol_nil ?_
                                    refine px_then ?_
                                    refine cd_pull3 ?_
                                    refine cd_pull4 ?_
                                    refine cd_seq ?_   -- 22
                                    refine cd_draw (M := [_, _]) mx [5, 11] (by kernel_rfl) ?_
                                    refine rg_q (wn_none rfl) (op_move (v := .pointer _) rfl) rfl rfl ?_
                                    refine rg_q (wn_none rfl) (op_lda (L := rootC _) 0 ag_30 rfl rfl (rootC_take' _) (by simp [rootC_len])) rfl rfl ?_
                                    refine rg_q (wn_none rfl) (op_lda (L := rootC _) 1 ag_30 rfl rfl (rootC_take' _) (by simp [rootC_len])) rfl rfl ?_
                                    refine rg_q (wn_none rfl) (op_field fld_54_2 rfl) rfl rfl ?_
                                    refine rg_q (wn_none rfl) (op_ld 2 sc_3 rfl rfl (tAddC_a2 _)) rfl rfl ?_
                                    refine rg_i (wn_none rfl) (os_call cb_22 rfl (fun w s => Add_calls _ _ _ _ _  s )) rfl rfl ?_; rintro _ _ ⟨rfl, rfl⟩; refine ⟨[_, _], rfl, ?_⟩
                                    refine rg_q (wn_none rfl) (op_move (v := .pointer _) rfl) rfl rfl ?_
                                    refine rg_q (wn_none rfl) (op_lda (L := rootC _) 0 ag_30 rfl rfl (rootC_take' _) (by simp [rootC_len])) rfl rfl ?_
                                    refine rg_q (wn_none rfl) (op_lda (L := rootC _) 1 ag_30 rfl rfl (rootC_take' _) (by simp [rootC_len])) rfl rfl ?_
                                    refine rg_q (wn_none rfl) (op_field fld_54_2 rfl) rfl rfl ?_
                                    refine rg_q (wn_none rfl) (op_ld 2 sc_3 rfl rfl (tAddC_a2 _)) rfl rfl ?_
                                    refine rg_i (wn_none rfl) (os_pull1 (os_call cb_32 rfl (fun w s => RAdd_calls _ _ _ _ _  s ))) rfl rfl ?_; rintro _ _ ⟨rfl, rfl⟩; refine ⟨[_, _], rfl, ?_⟩
                                    refine rg_q (wn_none rfl) (op_ne rfl rfl) rfl rfl ?_
                                    refine rg_nil_then2 ?_
                                    refine cd_cond rfl (fun hb79 => ?_) (fun hb79 => ?_)
                                    · have hp79 := hb79
                                      (try simp only [decide_eq_true_eq, decide_eq_false_iff_not, Bool.not_eq_true', Bool.not_eq_false', ne_eq, Decidable.not_not] at hp79)
                                      exact absurd hb79 (by simp)
                                    · have hp79 := hb79
                                      (try simp only [decide_eq_true_eq, decide_eq_false_iff_not, Bool.not_eq_true', Bool.not_eq_false', ne_eq, Decidable.not_not] at hp79)
                                      refine cd_skip ?_
                                      refine px_blockN ?_
                                      refine px_then ?_
                                      refine cd_region ?_   -- 24
                                      refine ol_q (wn_none rfl) (op_add rfl rfl (by omega) (by omega)) rfl ?_
                                      refine ol_q (wn_none rfl) (op_move (v := .int _ _) rfl) rfl ?_
                                      refine ol_nil ?_
                                      refine px_loop2 (i + 1, (u.add odd (nameR xs[i].parent) xs[i].slot).2) (by dsimp only; omega) (by (try dsimp only); omega) ⟨congrArg (Value.int .i64) (by simp), trivial⟩ ?_ (fun _ s => (((s.del 4).del 3).del 2))
                                      repeat (first | exact kept_over | refine kept_upd rfl ?_ | refine kept_overS (by decide) ?_)
                                  · have hp78 := hb78
                                    (try simp only [decide_eq_true_eq, decide_eq_false_iff_not, Bool.not_eq_true', Bool.not_eq_false', ne_eq, Decidable.not_not] at hp78)
                                    refine cd_skip ?_
                                    refine px_then ?_
                                    refine cd_pull3 ?_
                                    refine cd_pull4 ?_
                                    refine cd_seq ?_   -- 22
                                    refine cd_draw (M := [_, _]) mx [5, 11] (by kernel_rfl) ?_
                                    refine rg_q (wn_none rfl) (op_move (v := .pointer _) rfl) rfl rfl ?_
                                    refine rg_q (wn_none rfl) (op_lda (L := rootC _) 0 ag_30 rfl rfl (rootC_take' _) (by simp [rootC_len])) rfl rfl ?_
                                    refine rg_q (wn_none rfl) (op_lda (L := rootC _) 1 ag_30 rfl rfl (rootC_take' _) (by simp [rootC_len])) rfl rfl ?_
                                    refine rg_q (wn_none rfl) (op_field fld_54_2 rfl) rfl rfl ?_
                                    refine rg_q (wn_none rfl) (op_ld 2 sc_3 rfl rfl (tAddC_a2 _)) rfl rfl ?_
                                    refine rg_i (wn_none rfl) (os_call cb_22 rfl (fun w s => Add_calls _ _ _ _ _  s )) rfl rfl ?_; rintro _ _ ⟨rfl, rfl⟩; refine ⟨[_, _], rfl, ?_⟩
                                    refine rg_q (wn_none rfl) (op_move (v := .pointer _) rfl) rfl rfl ?_
                                    refine rg_q (wn_none rfl) (op_lda (L := rootC _) 0 ag_30 rfl rfl (rootC_take' _) (by simp [rootC_len])) rfl rfl ?_
                                    refine rg_q (wn_none rfl) (op_lda (L := rootC _) 1 ag_30 rfl rfl (rootC_take' _) (by simp [rootC_len])) rfl rfl ?_
                                    refine rg_q (wn_none rfl) (op_field fld_54_2 rfl) rfl rfl ?_
                                    refine rg_q (wn_none rfl) (op_ld 2 sc_3 rfl rfl (tAddC_a2 _)) rfl rfl ?_
                                    refine rg_i (wn_none rfl) (os_pull1 (os_call cb_32 rfl (fun w s => RAdd_calls _ _ _ _ _  s ))) rfl rfl ?_; rintro _ _ ⟨rfl, rfl⟩; refine ⟨[_, _], rfl, ?_⟩
                                    refine rg_q (wn_none rfl) (op_ne rfl rfl) rfl rfl ?_
                                    refine rg_nil_then2 ?_
                                    refine cd_cond rfl (fun hb80 => ?_) (fun hb80 => ?_)
                                    · have hp80 := hb80
                                      (try simp only [decide_eq_true_eq, decide_eq_false_iff_not, Bool.not_eq_true', Bool.not_eq_false', ne_eq, Decidable.not_not] at hp80)
                                      exact absurd hb80 (by simp)
                                    · have hp80 := hb80
                                      (try simp only [decide_eq_true_eq, decide_eq_false_iff_not, Bool.not_eq_true', Bool.not_eq_false', ne_eq, Decidable.not_not] at hp80)
                                      refine cd_skip ?_
                                      refine px_blockN ?_
                                      refine px_then ?_
                                      refine cd_region ?_   -- 24
                                      refine ol_q (wn_none rfl) (op_add rfl rfl (by omega) (by omega)) rfl ?_
                                      refine ol_q (wn_none rfl) (op_move (v := .int _ _) rfl) rfl ?_
                                      refine ol_nil ?_
                                      refine px_loop2 (i + 1, (u.add (nameR xs[i].root) (nameR xs[i].parent) xs[i].slot).2) (by dsimp only; omega) (by (try dsimp only); omega) ⟨congrArg (Value.int .i64) (by simp), trivial⟩ ?_ (fun _ s => (((s.del 4).del 3).del 2))
                                      repeat (first | exact kept_over | refine kept_upd rfl ?_ | refine kept_overS (by decide) ?_)
                              · -- 6
                                refine ei_i rfl rfl (wn_none rfl) (os_alloc (cs := (rootC Root.zero).toArray) zB_30 (by kernel_rfl)) rfl ?_; rintro _ _ ⟨bx20, rfl, rfl⟩; refine ⟨[_, _], rfl, ?_⟩
                                refine et_1 (i := 5) (by kernel_rfl) ?_
                                refine ei_i rfl rfl (wn_none rfl) (os_call cb_20 rfl (fun w s => Name_calls _  s )) rfl ?_; rintro _ l ⟨rfl, rfl⟩; refine ⟨[_, _], rfl, ?_⟩
                                refine et_1 (i := 8) (by kernel_rfl) ?_
                                refine ei_iN rfl rfl (wn_none rfl) (os_storera _ ag_30 rfl rfl (Free.zero _)) ?_; rintro _ _ ⟨rfl, rfl⟩; refine ⟨[_, _], rfl, ?_⟩
                                refine et_1 (i := 9) (by kernel_rfl) ?_
                                refine ei_iN rfl rfl (wn_none rfl) (os_pull1 (os_storera _ ag_30 rfl rfl (Free.zero _))) ?_; rintro _ _ ⟨rfl, rfl⟩; refine ⟨[_, _], rfl, ?_⟩
                                refine et_nil_then (by kernel_rfl) ?_
                                refine cd_seq ?_
                                refine cd_sr ?_   -- 18
                                refine ol_q (wn_none rfl) (op_field fld_54_1 rfl) rfl ?_
                                refine ol_q (wn_none rfl) (op_ld 2 sc_3 rfl rfl (tAddC_a1 _)) rfl ?_
                                refine ol_q (wn_none rfl) (op_eq rfl rfl) rfl ?_
                                refine ol_nil_then ?_
                                refine cd_cond rfl (fun hb81 => ?_) (fun hb81 => ?_)
                                · have hp81 := hb81
                                  (try simp only [decide_eq_true_eq, decide_eq_false_iff_not, Bool.not_eq_true', Bool.not_eq_false', ne_eq, Decidable.not_not] at hp81)
                                  refine cd_region ?_   -- 19
                                  refine ol_q (wn_none rfl) (op_lda (L := rootC _) 5 ag_30 rfl rfl (rootC_take' _) (by simp [rootC_len])) rfl ?_
                                  refine ol_pull1 ?_
                                  refine ol_iN (wn_none rfl) (os_storera _ ag_30 rfl rfl (Free.zero _)) ?_; rintro _ _ ⟨rfl, rfl⟩
                                  refine ol_nil ?_
                                  refine px_then ?_
                                  refine cd_seq ?_
                                  refine cd_sr ?_   -- 20
                                  refine ol_q (wn_none rfl) (op_move (v := .int _ _) rfl) rfl ?_
                                  refine ol_q (wn_none rfl) (op_eq rfl rfl) rfl ?_
                                  refine ol_nil_then ?_
                                  refine cd_cond rfl (fun hb82 => ?_) (fun hb82 => ?_)
                                  · have hp82 := hb82
                                    (try simp only [decide_eq_true_eq, decide_eq_false_iff_not, Bool.not_eq_true', Bool.not_eq_false', ne_eq, Decidable.not_not] at hp82)
                                    refine cd_region ?_   -- 21
                                    refine ol_q (wn_none rfl) (op_lda (L := rootC _) 6 ag_30 rfl rfl (rootC_take' _) (by simp [rootC_len])) rfl ?_
                                    refine ol_pull1 ?_
                                    refine ol_iN (wn_none rfl) (os_storera _ ag_30 rfl rfl (Free.zero _)) ?_; rintro _ _ ⟨rfl, rfl⟩
                                    refine ol_nil ?_
                                    refine px_then ?_
                                    refine cd_pull3 ?_
                                    refine cd_pull4 ?_
                                    refine cd_seq ?_   -- 22
                                    refine cd_draw (M := [_, _]) mx [5, 11] (by kernel_rfl) ?_
                                    refine rg_q (wn_none rfl) (op_move (v := .pointer _) rfl) rfl rfl ?_
                                    refine rg_q (wn_none rfl) (op_lda (L := rootC _) 0 ag_30 rfl rfl (rootC_take' _) (by simp [rootC_len])) rfl rfl ?_
                                    refine rg_q (wn_none rfl) (op_lda (L := rootC _) 1 ag_30 rfl rfl (rootC_take' _) (by simp [rootC_len])) rfl rfl ?_
                                    refine rg_q (wn_none rfl) (op_field fld_54_2 rfl) rfl rfl ?_
                                    refine rg_q (wn_none rfl) (op_ld 2 sc_3 rfl rfl (tAddC_a2 _)) rfl rfl ?_
                                    refine rg_i (wn_none rfl) (os_call cb_22 rfl (fun w s => Add_calls _ _ _ _ _  s )) rfl rfl ?_; rintro _ _ ⟨rfl, rfl⟩; refine ⟨[_, _], rfl, ?_⟩
                                    refine rg_q (wn_none rfl) (op_move (v := .pointer _) rfl) rfl rfl ?_
                                    refine rg_q (wn_none rfl) (op_lda (L := rootC _) 0 ag_30 rfl rfl (rootC_take' _) (by simp [rootC_len])) rfl rfl ?_
                                    refine rg_q (wn_none rfl) (op_lda (L := rootC _) 1 ag_30 rfl rfl (rootC_take' _) (by simp [rootC_len])) rfl rfl ?_
                                    refine rg_q (wn_none rfl) (op_field fld_54_2 rfl) rfl rfl ?_
                                    refine rg_q (wn_none rfl) (op_ld 2 sc_3 rfl rfl (tAddC_a2 _)) rfl rfl ?_
                                    refine rg_i (wn_none rfl) (os_pull1 (os_call cb_32 rfl (fun w s => RAdd_calls _ _ _ _ _  s ))) rfl rfl ?_; rintro _ _ ⟨rfl, rfl⟩; refine ⟨[_, _], rfl, ?_⟩
                                    refine rg_q (wn_none rfl) (op_ne rfl rfl) rfl rfl ?_
                                    refine rg_nil_then2 ?_
                                    refine cd_cond rfl (fun hb83 => ?_) (fun hb83 => ?_)
                                    · have hp83 := hb83
                                      (try simp only [decide_eq_true_eq, decide_eq_false_iff_not, Bool.not_eq_true', Bool.not_eq_false', ne_eq, Decidable.not_not] at hp83)
                                      exact absurd hb83 (by simp)
                                    · have hp83 := hb83
                                      (try simp only [decide_eq_true_eq, decide_eq_false_iff_not, Bool.not_eq_true', Bool.not_eq_false', ne_eq, Decidable.not_not] at hp83)
                                      refine cd_skip ?_
                                      refine px_blockN ?_
                                      refine px_then ?_
                                      refine cd_region ?_   -- 24
                                      refine ol_q (wn_none rfl) (op_add rfl rfl (by omega) (by omega)) rfl ?_
                                      refine ol_q (wn_none rfl) (op_move (v := .int _ _) rfl) rfl ?_
                                      refine ol_nil ?_
                                      refine px_loop2 (i + 1, (u.add odd first xs[i].slot).2) (by dsimp only; omega) (by (try dsimp only); omega) ⟨congrArg (Value.int .i64) (by simp), trivial⟩ ?_ (fun _ s => (((s.del 4).del 3).del 2))
                                      repeat (first | exact kept_over | refine kept_upd rfl ?_ | refine kept_overS (by decide) ?_)
                                  · have hp82 := hb82
                                    (try simp only [decide_eq_true_eq, decide_eq_false_iff_not, Bool.not_eq_true', Bool.not_eq_false', ne_eq, Decidable.not_not] at hp82)
                                    refine cd_skip ?_
                                    refine px_then ?_
                                    refine cd_pull3 ?_
                                    refine cd_pull4 ?_
                                    refine cd_seq ?_   -- 22
                                    refine cd_draw (M := [_, _]) mx [5, 11] (by kernel_rfl) ?_
                                    refine rg_q (wn_none rfl) (op_move (v := .pointer _) rfl) rfl rfl ?_
                                    refine rg_q (wn_none rfl) (op_lda (L := rootC _) 1 ag_30 rfl rfl (rootC_take' _) (by simp [rootC_len])) rfl rfl ?_
                                    refine rg_q (wn_none rfl) (op_lda (L := rootC _) 0 ag_30 rfl rfl (rootC_take' _) (by simp [rootC_len])) rfl rfl ?_
                                    refine rg_q (wn_none rfl) (op_field fld_54_2 rfl) rfl rfl ?_
                                    refine rg_q (wn_none rfl) (op_ld 2 sc_3 rfl rfl (tAddC_a2 _)) rfl rfl ?_
                                    refine rg_i (wn_none rfl) (os_call cb_22 rfl (fun w s => Add_calls _ _ _ _ _  s )) rfl rfl ?_; rintro _ _ ⟨rfl, rfl⟩; refine ⟨[_, _], rfl, ?_⟩
                                    refine rg_q (wn_none rfl) (op_move (v := .pointer _) rfl) rfl rfl ?_
                                    refine rg_q (wn_none rfl) (op_lda (L := rootC _) 1 ag_30 rfl rfl (rootC_take' _) (by simp [rootC_len])) rfl rfl ?_
                                    refine rg_q (wn_none rfl) (op_lda (L := rootC _) 0 ag_30 rfl rfl (rootC_take' _) (by simp [rootC_len])) rfl rfl ?_
                                    refine rg_q (wn_none rfl) (op_field fld_54_2 rfl) rfl rfl ?_
                                    refine rg_q (wn_none rfl) (op_ld 2 sc_3 rfl rfl (tAddC_a2 _)) rfl rfl ?_
                                    refine rg_i (wn_none rfl) (os_pull1 (os_call cb_32 rfl (fun w s => RAdd_calls _ _ _ _ _  s ))) rfl rfl ?_; rintro _ _ ⟨rfl, rfl⟩; refine ⟨[_, _], rfl, ?_⟩
                                    refine rg_q (wn_none rfl) (op_ne rfl rfl) rfl rfl ?_
                                    refine rg_nil_then2 ?_
                                    refine cd_cond rfl (fun hb84 => ?_) (fun hb84 => ?_)
                                    · have hp84 := hb84
                                      (try simp only [decide_eq_true_eq, decide_eq_false_iff_not, Bool.not_eq_true', Bool.not_eq_false', ne_eq, Decidable.not_not] at hp84)
                                      exact absurd hb84 (by simp)
                                    · have hp84 := hb84
                                      (try simp only [decide_eq_true_eq, decide_eq_false_iff_not, Bool.not_eq_true', Bool.not_eq_false', ne_eq, Decidable.not_not] at hp84)
                                      refine cd_skip ?_
                                      refine px_blockN ?_
                                      refine px_then ?_
                                      refine cd_region ?_   -- 24
                                      refine ol_q (wn_none rfl) (op_add rfl rfl (by omega) (by omega)) rfl ?_
                                      refine ol_q (wn_none rfl) (op_move (v := .int _ _) rfl) rfl ?_
                                      refine ol_nil ?_
                                      refine px_loop2 (i + 1, (u.add (nameR xs[i].root) first xs[i].slot).2) (by dsimp only; omega) (by (try dsimp only); omega) ⟨congrArg (Value.int .i64) (by simp), trivial⟩ ?_ (fun _ s => (((s.del 4).del 3).del 2))
                                      repeat (first | exact kept_over | refine kept_upd rfl ?_ | refine kept_overS (by decide) ?_)
                                · have hp81 := hb81
                                  (try simp only [decide_eq_true_eq, decide_eq_false_iff_not, Bool.not_eq_true', Bool.not_eq_false', ne_eq, Decidable.not_not] at hp81)
                                  refine cd_skip ?_
                                  refine px_then ?_
                                  refine cd_seq ?_
                                  refine cd_sr ?_   -- 20
                                  refine ol_q (wn_none rfl) (op_move (v := .int _ _) rfl) rfl ?_
                                  refine ol_q (wn_none rfl) (op_eq rfl rfl) rfl ?_
                                  refine ol_nil_then ?_
                                  refine cd_cond rfl (fun hb85 => ?_) (fun hb85 => ?_)
                                  · have hp85 := hb85
                                    (try simp only [decide_eq_true_eq, decide_eq_false_iff_not, Bool.not_eq_true', Bool.not_eq_false', ne_eq, Decidable.not_not] at hp85)
                                    refine cd_region ?_   -- 21
                                    refine ol_q (wn_none rfl) (op_lda (L := rootC _) 6 ag_30 rfl rfl (rootC_take' _) (by simp [rootC_len])) rfl ?_
                                    refine ol_iN (wn_none rfl) (os_storera _ ag_30 rfl rfl (Free.zero _)) ?_; rintro _ _ ⟨rfl, rfl⟩
                                    refine ol_nil ?_
                                    refine px_then ?_
                                    refine cd_pull3 ?_
                                    refine cd_pull4 ?_
                                    refine cd_seq ?_   -- 22
                                    refine cd_draw (M := [_, _]) mx [5, 11] (by kernel_rfl) ?_
                                    refine rg_q (wn_none rfl) (op_move (v := .pointer _) rfl) rfl rfl ?_
                                    refine rg_q (wn_none rfl) (op_lda (L := rootC _) 0 ag_30 rfl rfl (rootC_take' _) (by simp [rootC_len])) rfl rfl ?_
                                    refine rg_q (wn_none rfl) (op_lda (L := rootC _) 1 ag_30 rfl rfl (rootC_take' _) (by simp [rootC_len])) rfl rfl ?_
                                    refine rg_q (wn_none rfl) (op_field fld_54_2 rfl) rfl rfl ?_
                                    refine rg_q (wn_none rfl) (op_ld 2 sc_3 rfl rfl (tAddC_a2 _)) rfl rfl ?_
                                    refine rg_i (wn_none rfl) (os_call cb_22 rfl (fun w s => Add_calls _ _ _ _ _  s )) rfl rfl ?_; rintro _ _ ⟨rfl, rfl⟩; refine ⟨[_, _], rfl, ?_⟩
                                    refine rg_q (wn_none rfl) (op_move (v := .pointer _) rfl) rfl rfl ?_
                                    refine rg_q (wn_none rfl) (op_lda (L := rootC _) 0 ag_30 rfl rfl (rootC_take' _) (by simp [rootC_len])) rfl rfl ?_
                                    refine rg_q (wn_none rfl) (op_lda (L := rootC _) 1 ag_30 rfl rfl (rootC_take' _) (by simp [rootC_len])) rfl rfl ?_
                                    refine rg_q (wn_none rfl) (op_field fld_54_2 rfl) rfl rfl ?_
                                    refine rg_q (wn_none rfl) (op_ld 2 sc_3 rfl rfl (tAddC_a2 _)) rfl rfl ?_
                                    refine rg_i (wn_none rfl) (os_pull1 (os_call cb_32 rfl (fun w s => RAdd_calls _ _ _ _ _  s ))) rfl rfl ?_; rintro _ _ ⟨rfl, rfl⟩; refine ⟨[_, _], rfl, ?_⟩
                                    refine rg_q (wn_none rfl) (op_ne rfl rfl) rfl rfl ?_
                                    refine rg_nil_then2 ?_
                                    refine cd_cond rfl (fun hb86 => ?_) (fun hb86 => ?_)
                                    · have hp86 := hb86
                                      (try simp only [decide_eq_true_eq, decide_eq_false_iff_not, Bool.not_eq_true', Bool.not_eq_false', ne_eq, Decidable.not_not] at hp86)
                                      exact absurd hb86 (by simp)
                                    · have hp86 := hb86
                                      (try simp only [decide_eq_true_eq, decide_eq_false_iff_not, Bool.not_eq_true', Bool.not_eq_false', ne_eq, Decidable.not_not] at hp86)
                                      refine cd_skip ?_
                                      refine px_blockN ?_
                                      refine px_then ?_
                                      refine cd_region ?_   -- 24
                                      refine ol_q (wn_none rfl) (op_add rfl rfl (by omega) (by omega)) rfl ?_
                                      refine ol_q (wn_none rfl) (op_move (v := .int _ _) rfl) rfl ?_
                                      refine ol_nil ?_
                                      refine px_loop2 (i + 1, (u.add odd (nameR xs[i].parent) xs[i].slot).2) (by dsimp only; omega) (by (try dsimp only); omega) ⟨congrArg (Value.int .i64) (by simp), trivial⟩ ?_ (fun _ s => (((s.del 4).del 3).del 2))
                                      repeat (first | exact kept_over | refine kept_upd rfl ?_ | refine kept_overS (by decide) ?_)
                                  · have hp85 := hb85
                                    (try simp only [decide_eq_true_eq, decide_eq_false_iff_not, Bool.not_eq_true', Bool.not_eq_false', ne_eq, Decidable.not_not] at hp85)
                                    refine cd_skip ?_
                                    refine px_then ?_
                                    refine cd_pull3 ?_
                                    refine cd_pull4 ?_
                                    refine cd_seq ?_   -- 22
                                    refine cd_draw (M := [_, _]) mx [5, 11] (by kernel_rfl) ?_
                                    refine rg_q (wn_none rfl) (op_move (v := .pointer _) rfl) rfl rfl ?_
                                    refine rg_q (wn_none rfl) (op_lda (L := rootC _) 0 ag_30 rfl rfl (rootC_take' _) (by simp [rootC_len])) rfl rfl ?_
                                    refine rg_q (wn_none rfl) (op_lda (L := rootC _) 1 ag_30 rfl rfl (rootC_take' _) (by simp [rootC_len])) rfl rfl ?_
                                    refine rg_q (wn_none rfl) (op_field fld_54_2 rfl) rfl rfl ?_
                                    refine rg_q (wn_none rfl) (op_ld 2 sc_3 rfl rfl (tAddC_a2 _)) rfl rfl ?_
                                    refine rg_i (wn_none rfl) (os_call cb_22 rfl (fun w s => Add_calls _ _ _ _ _  s )) rfl rfl ?_; rintro _ _ ⟨rfl, rfl⟩; refine ⟨[_, _], rfl, ?_⟩
                                    refine rg_q (wn_none rfl) (op_move (v := .pointer _) rfl) rfl rfl ?_
                                    refine rg_q (wn_none rfl) (op_lda (L := rootC _) 0 ag_30 rfl rfl (rootC_take' _) (by simp [rootC_len])) rfl rfl ?_
                                    refine rg_q (wn_none rfl) (op_lda (L := rootC _) 1 ag_30 rfl rfl (rootC_take' _) (by simp [rootC_len])) rfl rfl ?_
                                    refine rg_q (wn_none rfl) (op_field fld_54_2 rfl) rfl rfl ?_
                                    refine rg_q (wn_none rfl) (op_ld 2 sc_3 rfl rfl (tAddC_a2 _)) rfl rfl ?_
                                    refine rg_i (wn_none rfl) (os_pull1 (os_call cb_32 rfl (fun w s => RAdd_calls _ _ _ _ _  s ))) rfl rfl ?_; rintro _ _ ⟨rfl, rfl⟩; refine ⟨[_, _], rfl, ?_⟩
                                    refine rg_q (wn_none rfl) (op_ne rfl rfl) rfl rfl ?_
                                    refine rg_nil_then2 ?_
                                    refine cd_cond rfl (fun hb87 => ?_) (fun hb87 => ?_)
                                    · have hp87 := hb87
                                      (try simp only [decide_eq_true_eq, decide_eq_false_iff_not, Bool.not_eq_true', Bool.not_eq_false', ne_eq, Decidable.not_not] at hp87)
                                      exact absurd hb87 (by simp)
                                    · have hp87 := hb87
                                      (try simp only [decide_eq_true_eq, decide_eq_false_iff_not, Bool.not_eq_true', Bool.not_eq_false', ne_eq, Decidable.not_not] at hp87)
                                      refine cd_skip ?_
                                      refine px_blockN ?_
                                      refine px_then ?_
                                      refine cd_region ?_   -- 24
                                      refine ol_q (wn_none rfl) (op_add rfl rfl (by omega) (by omega)) rfl ?_
                                      refine ol_q (wn_none rfl) (op_move (v := .int _ _) rfl) rfl ?_
                                      refine ol_nil ?_
                                      refine px_loop2 (i + 1, (u.add (nameR xs[i].root) (nameR xs[i].parent) xs[i].slot).2) (by dsimp only; omega) (by (try dsimp only); omega) ⟨congrArg (Value.int .i64) (by simp), trivial⟩ ?_ (fun _ s => (((s.del 4).del 3).del 2))
                                      repeat (first | exact kept_over | refine kept_upd rfl ?_ | refine kept_overS (by decide) ?_)
                            · -- 6
                              refine ei_i rfl rfl (wn_none rfl) (os_alloc (cs := (rootC Root.zero).toArray) zB_30 (by kernel_rfl)) rfl ?_; rintro _ _ ⟨bx21, rfl, rfl⟩; refine ⟨[_, _], rfl, ?_⟩
                              refine et_1 (i := 2) (by kernel_rfl) ?_
                              refine ei_i rfl rfl (wn_none rfl) (os_call cb_20 rfl (fun w s => Name_calls _  s )) rfl ?_; rintro _ l ⟨rfl, rfl⟩; refine ⟨[_, _], rfl, ?_⟩
                              refine et_1 (i := 5) (by kernel_rfl) ?_
                              refine ei_i rfl rfl (wn_none rfl) (os_call cb_20 rfl (fun w s => Name_calls _  s )) rfl ?_; rintro _ l ⟨rfl, rfl⟩; refine ⟨[_, _], rfl, ?_⟩
                              refine et_1 (i := 8) (by kernel_rfl) ?_
                              refine ei_iN rfl rfl (wn_none rfl) (os_storera _ ag_30 rfl rfl (Free.zero _)) ?_; rintro _ _ ⟨rfl, rfl⟩; refine ⟨[_, _], rfl, ?_⟩
                              refine et_1 (i := 9) (by kernel_rfl) ?_
                              refine ei_iN rfl rfl (wn_none rfl) (os_pull1 (os_storera _ ag_30 rfl rfl (Free.zero _))) ?_; rintro _ _ ⟨rfl, rfl⟩; refine ⟨[_, _], rfl, ?_⟩
                              refine et_nil_then (by kernel_rfl) ?_
                              refine cd_seq ?_
                              refine cd_sr ?_   -- 18
                              refine ol_q (wn_none rfl) (op_field fld_54_1 rfl) rfl ?_
                              refine ol_q (wn_none rfl) (op_ld 2 sc_3 rfl rfl (tAddC_a1 _)) rfl ?_
                              refine ol_q (wn_none rfl) (op_eq rfl rfl) rfl ?_
                              refine ol_nil_then ?_
                              refine cd_cond rfl (fun hb88 => ?_) (fun hb88 => ?_)
                              · have hp88 := hb88
                                (try simp only [decide_eq_true_eq, decide_eq_false_iff_not, Bool.not_eq_true', Bool.not_eq_false', ne_eq, Decidable.not_not] at hp88)
                                refine cd_region ?_   -- 19
                                refine ol_q (wn_none rfl) (op_lda (L := rootC _) 5 ag_30 rfl rfl (rootC_take' _) (by simp [rootC_len])) rfl ?_
                                refine ol_pull1 ?_
                                refine ol_iN (wn_none rfl) (os_storera _ ag_30 rfl rfl (Free.zero _)) ?_; rintro _ _ ⟨rfl, rfl⟩
                                refine ol_nil ?_
                                refine px_then ?_
                                refine cd_seq ?_
                                refine cd_sr ?_   -- 20
                                refine ol_q (wn_none rfl) (op_move (v := .int _ _) rfl) rfl ?_
                                refine ol_q (wn_none rfl) (op_eq rfl rfl) rfl ?_
                                refine ol_nil_then ?_
                                refine cd_cond rfl (fun hb89 => ?_) (fun hb89 => ?_)
                                · have hp89 := hb89
                                  (try simp only [decide_eq_true_eq, decide_eq_false_iff_not, Bool.not_eq_true', Bool.not_eq_false', ne_eq, Decidable.not_not] at hp89)
                                  refine cd_region ?_   -- 21
                                  refine ol_q (wn_none rfl) (op_lda (L := rootC _) 6 ag_30 rfl rfl (rootC_take' _) (by simp [rootC_len])) rfl ?_
                                  refine ol_pull1 ?_
                                  refine ol_iN (wn_none rfl) (os_storera _ ag_30 rfl rfl (Free.zero _)) ?_; rintro _ _ ⟨rfl, rfl⟩
                                  refine ol_nil ?_
                                  refine px_then ?_
                                  refine cd_pull3 ?_
                                  refine cd_pull4 ?_
                                  refine cd_seq ?_   -- 22
                                  refine cd_draw (M := [_, _]) mx [5, 11] (by kernel_rfl) ?_
                                  refine rg_q (wn_none rfl) (op_move (v := .pointer _) rfl) rfl rfl ?_
                                  refine rg_q (wn_none rfl) (op_lda (L := rootC _) 0 ag_30 rfl rfl (rootC_take' _) (by simp [rootC_len])) rfl rfl ?_
                                  refine rg_q (wn_none rfl) (op_lda (L := rootC _) 1 ag_30 rfl rfl (rootC_take' _) (by simp [rootC_len])) rfl rfl ?_
                                  refine rg_q (wn_none rfl) (op_field fld_54_2 rfl) rfl rfl ?_
                                  refine rg_q (wn_none rfl) (op_ld 2 sc_3 rfl rfl (tAddC_a2 _)) rfl rfl ?_
                                  refine rg_i (wn_none rfl) (os_call cb_22 rfl (fun w s => Add_calls _ _ _ _ _  s )) rfl rfl ?_; rintro _ _ ⟨rfl, rfl⟩; refine ⟨[_, _], rfl, ?_⟩
                                  refine rg_q (wn_none rfl) (op_move (v := .pointer _) rfl) rfl rfl ?_
                                  refine rg_q (wn_none rfl) (op_lda (L := rootC _) 0 ag_30 rfl rfl (rootC_take' _) (by simp [rootC_len])) rfl rfl ?_
                                  refine rg_q (wn_none rfl) (op_lda (L := rootC _) 1 ag_30 rfl rfl (rootC_take' _) (by simp [rootC_len])) rfl rfl ?_
                                  refine rg_q (wn_none rfl) (op_field fld_54_2 rfl) rfl rfl ?_
                                  refine rg_q (wn_none rfl) (op_ld 2 sc_3 rfl rfl (tAddC_a2 _)) rfl rfl ?_
                                  refine rg_i (wn_none rfl) (os_pull1 (os_call cb_32 rfl (fun w s => RAdd_calls _ _ _ _ _  s ))) rfl rfl ?_; rintro _ _ ⟨rfl, rfl⟩; refine ⟨[_, _], rfl, ?_⟩
                                  refine rg_q (wn_none rfl) (op_ne rfl rfl) rfl rfl ?_
                                  refine rg_nil_then2 ?_
                                  refine cd_cond rfl (fun hb90 => ?_) (fun hb90 => ?_)
                                  · have hp90 := hb90
                                    (try simp only [decide_eq_true_eq, decide_eq_false_iff_not, Bool.not_eq_true', Bool.not_eq_false', ne_eq, Decidable.not_not] at hp90)
                                    exact absurd hb90 (by simp)
                                  · have hp90 := hb90
                                    (try simp only [decide_eq_true_eq, decide_eq_false_iff_not, Bool.not_eq_true', Bool.not_eq_false', ne_eq, Decidable.not_not] at hp90)
                                    refine cd_skip ?_
                                    refine px_blockN ?_
                                    refine px_then ?_
                                    refine cd_region ?_   -- 24
                                    refine ol_q (wn_none rfl) (op_add rfl rfl (by omega) (by omega)) rfl ?_
                                    refine ol_q (wn_none rfl) (op_move (v := .int _ _) rfl) rfl ?_
                                    refine ol_nil ?_
                                    refine px_loop2 (i + 1, (u.add odd first xs[i].slot).2) (by dsimp only; omega) (by (try dsimp only); omega) ⟨congrArg (Value.int .i64) (by simp), trivial⟩ ?_ (fun _ s => (((s.del 4).del 3).del 2))
                                    repeat (first | exact kept_over | refine kept_upd rfl ?_ | refine kept_overS (by decide) ?_)
                                · have hp89 := hb89
                                  (try simp only [decide_eq_true_eq, decide_eq_false_iff_not, Bool.not_eq_true', Bool.not_eq_false', ne_eq, Decidable.not_not] at hp89)
                                  refine cd_skip ?_
                                  refine px_then ?_
                                  refine cd_pull3 ?_
                                  refine cd_pull4 ?_
                                  refine cd_seq ?_   -- 22
                                  refine cd_draw (M := [_, _]) mx [5, 11] (by kernel_rfl) ?_
                                  refine rg_q (wn_none rfl) (op_move (v := .pointer _) rfl) rfl rfl ?_
                                  refine rg_q (wn_none rfl) (op_lda (L := rootC _) 1 ag_30 rfl rfl (rootC_take' _) (by simp [rootC_len])) rfl rfl ?_
                                  refine rg_q (wn_none rfl) (op_lda (L := rootC _) 0 ag_30 rfl rfl (rootC_take' _) (by simp [rootC_len])) rfl rfl ?_
                                  refine rg_q (wn_none rfl) (op_field fld_54_2 rfl) rfl rfl ?_
                                  refine rg_q (wn_none rfl) (op_ld 2 sc_3 rfl rfl (tAddC_a2 _)) rfl rfl ?_
                                  refine rg_i (wn_none rfl) (os_call cb_22 rfl (fun w s => Add_calls _ _ _ _ _  s )) rfl rfl ?_; rintro _ _ ⟨rfl, rfl⟩; refine ⟨[_, _], rfl, ?_⟩
                                  refine rg_q (wn_none rfl) (op_move (v := .pointer _) rfl) rfl rfl ?_
                                  refine rg_q (wn_none rfl) (op_lda (L := rootC _) 1 ag_30 rfl rfl (rootC_take' _) (by simp [rootC_len])) rfl rfl ?_
                                  refine rg_q (wn_none rfl) (op_lda (L := rootC _) 0 ag_30 rfl rfl (rootC_take' _) (by simp [rootC_len])) rfl rfl ?_
                                  refine rg_q (wn_none rfl) (op_field fld_54_2 rfl) rfl rfl ?_
                                  refine rg_q (wn_none rfl) (op_ld 2 sc_3 rfl rfl (tAddC_a2 _)) rfl rfl ?_
                                  refine rg_i (wn_none rfl) (os_pull1 (os_call cb_32 rfl (fun w s => RAdd_calls _ _ _ _ _  s ))) rfl rfl ?_; rintro _ _ ⟨rfl, rfl⟩; refine ⟨[_, _], rfl, ?_⟩
                                  refine rg_q (wn_none rfl) (op_ne rfl rfl) rfl rfl ?_
                                  refine rg_nil_then2 ?_
                                  refine cd_cond rfl (fun hb91 => ?_) (fun hb91 => ?_)
                                  · have hp91 := hb91
                                    (try simp only [decide_eq_true_eq, decide_eq_false_iff_not, Bool.not_eq_true', Bool.not_eq_false', ne_eq, Decidable.not_not] at hp91)
                                    exact absurd hb91 (by simp)
                                  · have hp91 := hb91
                                    (try simp only [decide_eq_true_eq, decide_eq_false_iff_not, Bool.not_eq_true', Bool.not_eq_false', ne_eq, Decidable.not_not] at hp91)
                                    refine cd_skip ?_
                                    refine px_blockN ?_
                                    refine px_then ?_
                                    refine cd_region ?_   -- 24
                                    refine ol_q (wn_none rfl) (op_add rfl rfl (by omega) (by omega)) rfl ?_
                                    refine ol_q (wn_none rfl) (op_move (v := .int _ _) rfl) rfl ?_
                                    refine ol_nil ?_
                                    refine px_loop2 (i + 1, (u.add (nameR xs[i].root) first xs[i].slot).2) (by dsimp only; omega) (by (try dsimp only); omega) ⟨congrArg (Value.int .i64) (by simp), trivial⟩ ?_ (fun _ s => (((s.del 4).del 3).del 2))
                                    repeat (first | exact kept_over | refine kept_upd rfl ?_ | refine kept_overS (by decide) ?_)
                              · have hp88 := hb88
                                (try simp only [decide_eq_true_eq, decide_eq_false_iff_not, Bool.not_eq_true', Bool.not_eq_false', ne_eq, Decidable.not_not] at hp88)
                                refine cd_skip ?_
                                refine px_then ?_
                                refine cd_seq ?_
                                refine cd_sr ?_   -- 20
                                refine ol_q (wn_none rfl) (op_move (v := .int _ _) rfl) rfl ?_
                                refine ol_q (wn_none rfl) (op_eq rfl rfl) rfl ?_
                                refine ol_nil_then ?_
                                refine cd_cond rfl (fun hb92 => ?_) (fun hb92 => ?_)
                                · have hp92 := hb92
                                  (try simp only [decide_eq_true_eq, decide_eq_false_iff_not, Bool.not_eq_true', Bool.not_eq_false', ne_eq, Decidable.not_not] at hp92)
                                  refine cd_region ?_   -- 21
                                  refine ol_q (wn_none rfl) (op_lda (L := rootC _) 6 ag_30 rfl rfl (rootC_take' _) (by simp [rootC_len])) rfl ?_
                                  refine ol_iN (wn_none rfl) (os_storera _ ag_30 rfl rfl (Free.zero _)) ?_; rintro _ _ ⟨rfl, rfl⟩
                                  refine ol_nil ?_
                                  refine px_then ?_
                                  refine cd_pull3 ?_
                                  refine cd_pull4 ?_
                                  refine cd_seq ?_   -- 22
                                  refine cd_draw (M := [_, _]) mx [5, 11] (by kernel_rfl) ?_
                                  refine rg_q (wn_none rfl) (op_move (v := .pointer _) rfl) rfl rfl ?_
                                  refine rg_q (wn_none rfl) (op_lda (L := rootC _) 0 ag_30 rfl rfl (rootC_take' _) (by simp [rootC_len])) rfl rfl ?_
                                  refine rg_q (wn_none rfl) (op_lda (L := rootC _) 1 ag_30 rfl rfl (rootC_take' _) (by simp [rootC_len])) rfl rfl ?_
                                  refine rg_q (wn_none rfl) (op_field fld_54_2 rfl) rfl rfl ?_
                                  refine rg_q (wn_none rfl) (op_ld 2 sc_3 rfl rfl (tAddC_a2 _)) rfl rfl ?_
                                  refine rg_i (wn_none rfl) (os_call cb_22 rfl (fun w s => Add_calls _ _ _ _ _  s )) rfl rfl ?_; rintro _ _ ⟨rfl, rfl⟩; refine ⟨[_, _], rfl, ?_⟩
                                  refine rg_q (wn_none rfl) (op_move (v := .pointer _) rfl) rfl rfl ?_
                                  refine rg_q (wn_none rfl) (op_lda (L := rootC _) 0 ag_30 rfl rfl (rootC_take' _) (by simp [rootC_len])) rfl rfl ?_
                                  refine rg_q (wn_none rfl) (op_lda (L := rootC _) 1 ag_30 rfl rfl (rootC_take' _) (by simp [rootC_len])) rfl rfl ?_
                                  refine rg_q (wn_none rfl) (op_field fld_54_2 rfl) rfl rfl ?_
                                  refine rg_q (wn_none rfl) (op_ld 2 sc_3 rfl rfl (tAddC_a2 _)) rfl rfl ?_
                                  refine rg_i (wn_none rfl) (os_pull1 (os_call cb_32 rfl (fun w s => RAdd_calls _ _ _ _ _  s ))) rfl rfl ?_; rintro _ _ ⟨rfl, rfl⟩; refine ⟨[_, _], rfl, ?_⟩
                                  refine rg_q (wn_none rfl) (op_ne rfl rfl) rfl rfl ?_
                                  refine rg_nil_then2 ?_
                                  refine cd_cond rfl (fun hb93 => ?_) (fun hb93 => ?_)
                                  · have hp93 := hb93
                                    (try simp only [decide_eq_true_eq, decide_eq_false_iff_not, Bool.not_eq_true', Bool.not_eq_false', ne_eq, Decidable.not_not] at hp93)
                                    exact absurd hb93 (by simp)
                                  · have hp93 := hb93
                                    (try simp only [decide_eq_true_eq, decide_eq_false_iff_not, Bool.not_eq_true', Bool.not_eq_false', ne_eq, Decidable.not_not] at hp93)
                                    refine cd_skip ?_
                                    refine px_blockN ?_
                                    refine px_then ?_
                                    refine cd_region ?_   -- 24
                                    refine ol_q (wn_none rfl) (op_add rfl rfl (by omega) (by omega)) rfl ?_
                                    refine ol_q (wn_none rfl) (op_move (v := .int _ _) rfl) rfl ?_
                                    refine ol_nil ?_
                                    refine px_loop2 (i + 1, (u.add odd (nameR xs[i].parent) xs[i].slot).2) (by dsimp only; omega) (by (try dsimp only); omega) ⟨congrArg (Value.int .i64) (by simp), trivial⟩ ?_ (fun _ s => (((s.del 4).del 3).del 2))
                                    repeat (first | exact kept_over | refine kept_upd rfl ?_ | refine kept_overS (by decide) ?_)
                                · have hp92 := hb92
                                  (try simp only [decide_eq_true_eq, decide_eq_false_iff_not, Bool.not_eq_true', Bool.not_eq_false', ne_eq, Decidable.not_not] at hp92)
                                  refine cd_skip ?_
                                  refine px_then ?_
                                  refine cd_pull3 ?_
                                  refine cd_pull4 ?_
                                  refine cd_seq ?_   -- 22
                                  refine cd_draw (M := [_, _]) mx [5, 11] (by kernel_rfl) ?_
                                  refine rg_q (wn_none rfl) (op_move (v := .pointer _) rfl) rfl rfl ?_
                                  refine rg_q (wn_none rfl) (op_lda (L := rootC _) 0 ag_30 rfl rfl (rootC_take' _) (by simp [rootC_len])) rfl rfl ?_
                                  refine rg_q (wn_none rfl) (op_lda (L := rootC _) 1 ag_30 rfl rfl (rootC_take' _) (by simp [rootC_len])) rfl rfl ?_
                                  refine rg_q (wn_none rfl) (op_field fld_54_2 rfl) rfl rfl ?_
                                  refine rg_q (wn_none rfl) (op_ld 2 sc_3 rfl rfl (tAddC_a2 _)) rfl rfl ?_
                                  refine rg_i (wn_none rfl) (os_call cb_22 rfl (fun w s => Add_calls _ _ _ _ _  s )) rfl rfl ?_; rintro _ _ ⟨rfl, rfl⟩; refine ⟨[_, _], rfl, ?_⟩
                                  refine rg_q (wn_none rfl) (op_move (v := .pointer _) rfl) rfl rfl ?_
                                  refine rg_q (wn_none rfl) (op_lda (L := rootC _) 0 ag_30 rfl rfl (rootC_take' _) (by simp [rootC_len])) rfl rfl ?_
                                  refine rg_q (wn_none rfl) (op_lda (L := rootC _) 1 ag_30 rfl rfl (rootC_take' _) (by simp [rootC_len])) rfl rfl ?_
                                  refine rg_q (wn_none rfl) (op_field fld_54_2 rfl) rfl rfl ?_
                                  refine rg_q (wn_none rfl) (op_ld 2 sc_3 rfl rfl (tAddC_a2 _)) rfl rfl ?_
                                  refine rg_i (wn_none rfl) (os_pull1 (os_call cb_32 rfl (fun w s => RAdd_calls _ _ _ _ _  s ))) rfl rfl ?_; rintro _ _ ⟨rfl, rfl⟩; refine ⟨[_, _], rfl, ?_⟩
                                  refine rg_q (wn_none rfl) (op_ne rfl rfl) rfl rfl ?_
                                  refine rg_nil_then2 ?_
                                  refine cd_cond rfl (fun hb94 => ?_) (fun hb94 => ?_)
                                  · have hp94 := hb94
                                    (try simp only [decide_eq_true_eq, decide_eq_false_iff_not, Bool.not_eq_true', Bool.not_eq_false', ne_eq, Decidable.not_not] at hp94)
                                    exact absurd hb94 (by simp)
                                  · have hp94 := hb94
                                    (try simp only [decide_eq_true_eq, decide_eq_false_iff_not, Bool.not_eq_true', Bool.not_eq_false', ne_eq, Decidable.not_not] at hp94)
                                    refine cd_skip ?_
                                    refine px_blockN ?_
                                    refine px_then ?_
                                    refine cd_region ?_   -- 24
                                    refine ol_q (wn_none rfl) (op_add rfl rfl (by omega) (by omega)) rfl ?_
                                    refine ol_q (wn_none rfl) (op_move (v := .int _ _) rfl) rfl ?_
                                    refine ol_nil ?_
                                    refine px_loop2 (i + 1, (u.add (nameR xs[i].root) (nameR xs[i].parent) xs[i].slot).2) (by dsimp only; omega) (by (try dsimp only); omega) ⟨congrArg (Value.int .i64) (by simp), trivial⟩ ?_ (fun _ s => (((s.del 4).del 3).del 2))
                                    repeat (first | exact kept_over | refine kept_upd rfl ?_ | refine kept_overS (by decide) ?_)
                        · have hp10 := hb10
                          (try simp only [decide_eq_true_eq, decide_eq_false_iff_not, Bool.not_eq_true', Bool.not_eq_false', ne_eq, Decidable.not_not] at hp10)
                          refine cd_exit ?_
                          refine px_thenE ?_
                          refine px_thenE ?_
                          refine px_blockE ?_
                          refine px_then ?_
                          refine cd_sr ?_   -- 25
                          refine ol_q (wn_none rfl) (op_move (v := .pointer _) rfl) rfl ?_
                          refine ol_q (wn_none rfl) (op_move (v := .pointer _) rfl) rfl ?_
                          refine ol_pull1 ?_
                          refine ol_i (wn_none rfl) (os_call cb_31 rfl (fun w s => TreeSame_calls _ _ _  s )) rfl ?_; rintro _ _ ⟨rfl, rfl⟩
                          refine ol_q (wn_none rfl) (op_assign (v := .bool _) rfl) rfl ?_
                          refine ol_nil_then ?_
                          refine cd_ret ?_
                          exact px_ret1 rfl (v := .bool _) rfl (fun _ s => ((((s.del 3).del 2).del 1).del 0)) ⟨congrArg Value.bool (by first | rfl | simp), rfl⟩
end Go.SL

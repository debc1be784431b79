import Derived.Test.YtbgnabofcceajaaWeiL4
set_option linter.unusedVariables false
set_option linter.unusedSimpArgs false
namespace Go.SL
open Go.Proofs

set_option maxRecDepth 100000 in
set_option maxHeartbeats 1000000 in
theorem WeighWay_calls {w0 w : World} {l : List HProp} (lo : Option Addr) (lc : Nat) (xs : List WAct) (hs : Sat w0 w (l)) (hr : Rds w0 l encWAct lo xs) (hq : ∀ a ∈ xs, I64 a.kind ∧ I64 a.root ∧ I64 a.parent ∧ I64 a.slot ∧ I64 a.n ∧ I64 a.more) :
    Calls Try.prog 13 #[.slice lo xs.length lc] w (Ret w0 fun v l' => v = .bool true ∧ l' = l) := by
  refine calls_enter Try.func13 rfl rfl rfl hs ?_
  refine cd_sr ?_   -- 0
  refine ol_q (wn_none rfl) (op_assign (v := .bool _) rfl) rfl ?_
  refine ol_nil_then ?_
  refine cd_seq ?_
  refine cd_sr ?_   -- 1
  refine ol_i (wn_none rfl) (os_call cb_33 rfl (fun w s => wlAlive_calls  s )) rfl ?_; rintro _ l ⟨rfl, rfl⟩
  refine ol_q (wn_none rfl) (op_not rfl) rfl ?_
  refine ol_nil_then ?_
  refine cd_cond_f rfl rfl ?_
  refine cd_skip ?_
  refine px_then ?_
  refine cd_seq ?_
  refine cd_sr ?_   -- 3
  refine ol_q (wn_none rfl) (op_move (v := .slice _ _ _) rfl) rfl ?_
  refine ol_q (wn_none rfl) (op_len_slice Try.underlying57 rfl) rfl ?_
  refine ol_q (wn_none rfl) (op_gt rfl rfl) rfl ?_
  refine ol_nil_then ?_
  refine cd_cond rfl (fun hb1 => ?_) (fun hb1 => ?_)
  · have hp1 := hb1
    (try simp only [decide_eq_true_eq, decide_eq_false_iff_not, Bool.not_eq_true', Bool.not_eq_false', ne_eq, Decidable.not_not] at hp1)
    refine cd_sr ?_   -- 4
    refine ol_q (wn_none rfl) (op_assign (v := .bool _) rfl) rfl ?_
    refine ol_nil_then ?_
    refine cd_ret ?_
    refine px_thenR ?_
    exact px_ret1 rfl (v := .bool _) rfl (fun _ s => s) ⟨congrArg Value.bool (rfl), rfl⟩
  · have hp1 := hb1
    (try simp only [decide_eq_true_eq, decide_eq_false_iff_not, Bool.not_eq_true', Bool.not_eq_false', ne_eq, Decidable.not_not] at hp1)
    refine cd_skip ?_
    refine px_then ?_
    refine cd_sr ?_   -- 5
    refine ol_i (wn_none rfl) (os_call cb_40 rfl (fun w s => begun_calls  s )) rfl ?_; rintro _ _ ⟨pt2, pw2, pr2, pm2, rfl, rfl⟩
    refine ol_i (wn_none rfl) (os_alloc zB_66 rfl) rfl ?_; rintro _ _ ⟨bx1, rfl, rfl⟩
    refine ol_iN (wn_none rfl) (os_storea (L' := [_, _, _]) ag_66 rfl rfl rfl (by simp [Value.oneCell']) rfl (Free.zero _) rfl) ?_; rintro _ _ ⟨rfl, rfl⟩
    refine ol_nil_then ?_
    refine cd_seq ?_
    refine cd_sr ?_   -- 6
    refine ol_q (wn_none rfl) (op_move (v := .slice _ _ _) rfl) rfl ?_
    refine ol_q (wn_none rfl) (op_len_slice Try.underlying57 rfl) rfl ?_
    refine ol_q (wn_none rfl) (op_move (v := .int _ _) rfl) rfl ?_
    refine ol_nil_then ?_
    refine cd_block ?_
    refine cd_pull4 ?_
    refine cd_pull4 ?_
    refine cd_pull4 ?_
    refine cd_pull4 ?_
    refine cd_loop2 (α := Nat) [(5, 5), (18, 25)] (fun x => [(18, .int .i64 (x : Int))]) (fun x => TreeObj pt2 (runW (xs.take x)).1 :: WObj pw2 pt2 (runW (xs.take x)).1.nodes (runW (xs.take x)).2 :: RTreeObj pr2 (runW (xs.take x)).1 :: RWObj pm2 pr2 (runW (xs.take x)).2 :: _) (fun x => x ≤ xs.length) (fun x => xs.length - x) 0 (Nat.zero_le _) ⟨rfl, trivial⟩ (fun _ s => by (try dsimp only); rw [List.take_zero]; exact s) ?_
    rintro i hi f; (try dsimp only at hi ⊢)
    have hO := OKW.run (xs.take i)
    refine cd_sr ?_   -- 7
    refine ol_q (wn_none rfl) (op_lt rfl rfl) rfl ?_
    refine ol_nil_then ?_
    refine cd_seq ?_
    refine cd_cond rfl (fun hb2 => ?_) (fun hb2 => ?_)
    · have hp2 := hb2
      (try simp only [decide_eq_true_eq, decide_eq_false_iff_not, Bool.not_eq_true', Bool.not_eq_false', ne_eq, Decidable.not_not] at hp2)
      have hi1 : i < xs.length := by omega
      have hO2 := hO.step xs[i]
      refine cd_skip ?_
      refine px_then ?_
      refine cd_seq ?_
      refine cd_block ?_
      refine cd_sr ?_   -- 8
      refine ol_q (wn_none rfl) (op_index i sB_57 rfl rfl rfl (((((hr.cons _).cons _).cons _).cons _).cons _) rfl (by omega)) rfl ?_
      refine ol_q (wn_none rfl) (op_ldaw (L := wActC _) ag_69 (((((hr.cons _).cons _).cons _).cons _).cons _) rfl (by omega) rfl (wActC_ta _)) rfl ?_
      refine ol_i (wn_none rfl) (os_alloc (cs := (wActC WAct.zero).toArray) zB_69 (by kernel_rfl)) rfl ?_; rintro _ _ ⟨bx2, rfl, rfl⟩
      refine ol_iN (wn_none rfl) (os_storew (wActC _) ag_69 rfl rfl (wActC_len _) (wActC_one _) (by simp [wActC_len]) (Free.zero _)) ?_; rintro _ _ ⟨rfl, rfl⟩
      refine ol_nil_then ?_
      refine cd_region ?_   -- 9
      refine ol_q (wn_none rfl) (op_lda 5 ag_66 rfl rfl (by rfl) (by simp)) rfl ?_
      refine ol_q (wn_none rfl) (op_lda (L := wActC _) 0 ag_69 rfl rfl (wActC_ta _) (by simp [wActC_len])) rfl ?_
      refine ol_pull4 ?_
      refine ol_pull4 ?_
      refine ol_pull4 ?_
      refine ol_pull4 ?_
      refine ol_i (wn_none rfl) (os_call cb_41 rfl (fun w s => do_calls _ _ _ _ _ _ _  s hO.le hO.ow)) rfl ?_; rintro _ _ ⟨rfl, rfl⟩
      refine ol_nil ?_
      refine px_blockN ?_
      refine px_then ?_
      refine cd_region ?_   -- 10
      refine ol_q (wn_none rfl) (op_add rfl rfl (by omega) (by omega)) rfl ?_
      refine ol_q (wn_none rfl) (op_move (v := .int _ _) rfl) rfl ?_
      refine ol_nil ?_
      refine px_loop2 (i + 1) (by omega) (by (try dsimp only); omega) ⟨congrArg (Value.int .i64) (by simp), trivial⟩ ?_ (fun _ s => (by (try dsimp only); rw [runW_succ hi1]; exact (s.del 4)))
      repeat (first | exact kept_over | refine kept_upd rfl ?_ | refine kept_overS (by decide) ?_)
    · have hp2 := hb2
      (try simp only [decide_eq_true_eq, decide_eq_false_iff_not, Bool.not_eq_true', Bool.not_eq_false', ne_eq, Decidable.not_not] at hp2)
      have hF := OKW.run xs
      have hie : i = xs.length := by omega
      rw [hie, List.take_length]
      have hw := hF.wf
      have hOl := growO_len hF.le
      have hOk : OwnOK (growO (runW xs).1.nodes.length (runW xs).2) := hF.ow.zeros _
      have hN1 := hw.le
      have hN2 := hw.m2
      have hN0 := hw.ne
      have hrl := roots_len (runW xs).1
      have hrt0 := hF.rt0
      refine cd_exit ?_
      refine px_thenE ?_
      refine px_thenE ?_
      refine px_blockE ?_
      refine px_then ?_
      refine cd_sr ?_   -- 11
      refine ol_q (wn_none rfl) (op_field fld_66_1 rfl) rfl ?_
      refine ol_q (wn_none rfl) (op_ld 4 sc_58 rfl rfl rfl) rfl ?_
      refine ol_pull1 ?_
      refine ol_pull1 ?_
      refine ol_i (wn_none rfl) (os_call cb_36 rfl (fun w s => Apply_calls (xs := ([] : List Delta)) _ _ _ _ _ _  s hF.le hF.ow (rds_nil _) (by decide))) rfl ?_; rintro _ _ ⟨rfl, rfl⟩; rw [applyO_nil _ _ hF.ow]; (try dsimp only)
      refine ol_nil_then ?_
      refine cd_sr ?_   -- 12
      refine ol_i (wn_none rfl) (os_call cb_20 rfl (fun w s => Name_calls (n := 0)  s )) rfl ?_; rintro _ l2 ⟨rfl, rfl⟩; rw [← hrt0]
      refine ol_i (wn_none rfl) (os_alloc (cs := (rootC Root.zero).toArray) zB_30 (by kernel_rfl)) rfl ?_; rintro _ _ ⟨bx3, rfl, rfl⟩
      refine ol_iN (wn_none rfl) (os_storera _ ag_30 rfl rfl (Free.zero _)) ?_; rintro _ _ ⟨rfl, rfl⟩
      refine ol_nil_then ?_
      refine cd_seq ?_
      refine cd_sr ?_   -- 13
      refine ol_q (wn_none rfl) (op_assign (v := .int _ _) rfl) rfl ?_
      refine ol_nil_then ?_
      refine cd_block ?_
      refine cd_loop2 (α := Nat × Nat) [(2, 2), (7, 9), (30, 81)] (fun x => [(7, .int .i64 (x.2 : Int))]) (fun x => Blk bx3 (.cells (rootC (rtA (runW xs).1.nodes x.1)).toArray 30 (0, 0)) :: _) (fun x => x.1 < (runW xs).1.nodes.length ∧ x.2 ≤ x.1 ∧ leafN (runW xs).1.nodes (oA (sumL (runW xs).1.nodes (growO (runW xs).1.nodes.length (runW xs).2))) (growO (runW xs).1.nodes.length (runW xs).2).length x.1 = leafN (runW xs).1.nodes (oA (sumL (runW xs).1.nodes (growO (runW xs).1.nodes.length (runW xs).2))) (growO (runW xs).1.nodes.length (runW xs).2).length 0) (fun x => (runW xs).1.nodes.length - x.1) (0, 0) ⟨hN0, Nat.le_refl _, rfl⟩ ⟨rfl, trivial⟩ (fun _ s => s) ?_
      rintro ⟨k, c⟩ ⟨hk, hc, hlk⟩ f; (try dsimp only at hk hc hlk ⊢)
      refine cd_seq ?_
      refine cd_sr ?_   -- 14
      refine ol_q (wn_none rfl) (op_move (v := .int _ _) rfl) rfl ?_
      refine ol_q (wn_none rfl) (op_lt rfl rfl) rfl ?_
      refine ol_nil_then ?_
      refine cd_cond rfl (fun hb3 => ?_) (fun hb3 => ?_)
      · have hp3 := hb3
        (try simp only [decide_eq_true_eq, decide_eq_false_iff_not, Bool.not_eq_true', Bool.not_eq_false', ne_eq, Decidable.not_not] at hp3)
        have hi1 : k < (runW xs).1.nodes.length := by omega
        have hkl := kids_len (runW xs).1 (rtA (runW xs).1.nodes k)
        refine cd_skip ?_
        refine px_then ?_
        refine cd_seq ?_
        refine cd_block ?_
        rcases bestN_rg hw.nd hw.pa (oA (sumL (runW xs).1.nodes (growO (runW xs).1.nodes.length (runW xs).2))) (show (growO (runW xs).1.nodes.length (runW xs).2).length ≤ (runW xs).1.nodes.length by omega) k with hbk | ⟨q, hbk, hkq, hqn, hqp⟩
        ·
          have hR1 : bestR (runW xs).1 (growO (runW xs).1.nodes.length (runW xs).2) (rtA (runW xs).1.nodes k) = (Root.zero, false) := by rw [bestR_at hw hi1 (by omega), hbk]; rfl
          have hkn := kids_none hw (o := (growO (runW xs).1.nodes.length (runW xs).2)) hOl hi1
          rw [hbk] at hkn
          have hl0 := hkn.2 (by decide)
          refine cd_sr ?_   -- 16
          refine ol_q (wn_none rfl) (op_field fld_66_1 rfl) rfl ?_
          refine ol_q (wn_none rfl) (op_ld 5 sc_58 rfl rfl rfl) rfl ?_
          refine ol_q (wn_none rfl) (op_lda (L := rootC _) 0 ag_30 rfl rfl (rootC_take' _) (by simp [rootC_len])) rfl ?_
          refine ol_pull2 ?_
          refine ol_pull2 ?_
          refine ol_i (wn_none rfl) (os_call cb_34 rfl (fun w s => Best_calls _ _ _ _ _  s (by omega))) rfl ?_; rintro _ _ ⟨rfl, rfl⟩; rw [hR1]
          refine ol_q (wn_none rfl) (op_move (v := .tuple _) rfl) rfl ?_
          refine ol_q (wn_none rfl) (op_extract (v := .agg _) rfl rfl) rfl ?_
          refine ol_q (wn_none rfl) (op_extract (v := .bool _) rfl rfl) rfl ?_
          refine ol_i (wn_none rfl) (os_alloc (cs := (rootC Root.zero).toArray) zB_30 (by kernel_rfl)) rfl ?_; rintro _ _ ⟨bx4, rfl, rfl⟩
          refine ol_iN (wn_none rfl) (os_storera _ ag_30 rfl rfl (Free.zero _)) ?_; rintro _ _ ⟨rfl, rfl⟩
          refine ol_q (wn_none rfl) (op_assign (v := .bool _) rfl) rfl ?_
          refine ol_nil_then ?_
          refine cd_seq ?_
          refine cd_sr ?_   -- 17
          refine ol_q (wn_none rfl) (op_move (v := .bool _) rfl) rfl ?_
          refine ol_q (wn_none rfl) (op_not rfl) rfl ?_
          refine ol_nil_then ?_
          refine cd_cond rfl (fun hb4 => ?_) (fun hb4 => ?_)
          · have hp4 := hb4
            (try simp only [decide_eq_true_eq, decide_eq_false_iff_not, Bool.not_eq_true', Bool.not_eq_false', ne_eq, Decidable.not_not] at hp4)
            have hlf := leafN_no (ns := (runW xs).1.nodes) (S := oA (sumL (runW xs).1.nodes (growO (runW xs).1.nodes.length (runW xs).2))) (n := (growO (runW xs).1.nodes.length (runW xs).2).length) k (by omega)
            have hhd : headW (runW xs).1.nodes (growO (runW xs).1.nodes.length (runW xs).2) = rtA (runW xs).1.nodes k := by unfold headW; rw [← hlk, hlf]
            refine cd_seq ?_   -- 18
            refine cd_drawt (M := []) mx [3] 9 (by kernel_rfl) rfl rfl ?_
            dsimp only [List.take_succ_cons, List.take_zero, List.drop_succ_cons, List.drop_zero]
            refine rg_q (wn_none rfl) (op_lda (L := rootC _) 3 ag_30 rfl rfl (rootC_take' _) (by simp [rootC_len])) rfl rfl ?_
            refine rg_q (wn_none rfl) (op_field fld_66_1 rfl) rfl rfl ?_
            refine rg_q (wn_none rfl) (op_ld 6 sc_58 rfl rfl rfl) rfl rfl ?_
            refine rg_i (wn_none rfl) (os_back (os_pull2 (os_pull2 (os_call cb_39 rfl (fun w s => Head_calls _ _ _ _  s (by omega) (by omega))))) (fun _ s => (((((((s.pull 6).pull 6).pull 6).pull 6).pull 5).pull 5).pull 6))) rfl rfl ?_; rintro _ _ ⟨rfl, rfl⟩; refine ⟨[], rfl, ?_⟩
            refine rg_q (wn_none rfl) (op_eqroot _ _ rB_30 rfl rfl) rfl rfl ?_
            refine rg_q (wn_none rfl) (op_move (v := .bool _) rfl) rfl rfl ?_
            refine rg_split 48 rfl (fun hb5 => ?_) (fun hb5 => ?_)
            · have hp5 := hb5
              (try simp only [decide_eq_true_eq, decide_eq_false_iff_not, Bool.not_eq_true', Bool.not_eq_false', ne_eq, Decidable.not_not] at hp5)
              refine rg_q (wn_some rfl rfl rfl hb5 rfl) (op_field fld_66_0 rfl) rfl rfl ?_
              refine rg_q (wn_some rfl rfl rfl hb5 rfl) (op_ld 6 sc_24 rfl rfl rfl) rfl rfl ?_
              refine rg_q (wn_some rfl rfl rfl hb5 rfl) (op_lda (L := rootC _) 3 ag_30 rfl rfl (rootC_take' _) (by simp [rootC_len])) rfl rfl ?_
              refine rg_tail0 ?_
              refine ol_pull1 ?_
              refine ol_i (wn_some rfl rfl rfl hb5 rfl) (os_call cb_26 rfl (fun w s => Kids_calls _ _ _  s )) rfl ?_; rintro _ _ ⟨ao8k, ac8k, rfl, rfl⟩
              refine ol_q (wn_some rfl rfl rfl hb5 rfl) (op_len_slice Try.underlying45 rfl) rfl ?_
              refine ol_q (wn_some rfl rfl rfl hb5 rfl) (op_eq rfl rfl) rfl ?_
              refine ol_q (wn_none rfl) (op_pick_t (v := .bool _) rfl hb5 rfl) rfl ?_
              refine ol_q (wn_none rfl) (op_assign (v := .bool _) rfl) rfl ?_
              refine ol_nil_then ?_
              refine cd_ret ?_
              refine px_thenR ?_
              refine px_blockR ?_
              refine px_thenR ?_
              refine px_thenR ?_
              refine px_blockR ?_
              refine px_thenR ?_
              exact px_ret1 rfl (v := .bool _) rfl (fun _ s => ((((((((s.del 7).del 6).del 5).del 4).del 3).del 2).del 1).del 0)) ⟨congrArg Value.bool (by rw [hl0]; rfl), rfl⟩
            · have hp5 := hb5
              (try simp only [decide_eq_true_eq, decide_eq_false_iff_not, Bool.not_eq_true', Bool.not_eq_false', ne_eq, Decidable.not_not] at hp5)
              exact absurd hb5 (by rw [hhd]; simp)
          · have hp4 := hb4
            (try simp only [decide_eq_true_eq, decide_eq_false_iff_not, Bool.not_eq_true', Bool.not_eq_false', ne_eq, Decidable.not_not] at hp4)
            exact absurd hb4 (by simp)
        ·
          have hR1 : bestR (runW xs).1 (growO (runW xs).1.nodes.length (runW xs).2) (rtA (runW xs).1.nodes k) = (rtA (runW xs).1.nodes q, true) := by rw [bestR_at hw hi1 (by omega), hbk]; rfl
          have hkn := kids_none hw (o := (growO (runW xs).1.nodes.length (runW xs).2)) hOl hi1
          rw [hbk] at hkn
          have hl0 : ¬ ((runW xs).1.kids (rtA (runW xs).1.nodes k)).length = 0 := fun h => absurd (hkn.1 h) (by omega)
          refine cd_sr ?_   -- 16
          refine ol_q (wn_none rfl) (op_field fld_66_1 rfl) rfl ?_
          refine ol_q (wn_none rfl) (op_ld 5 sc_58 rfl rfl rfl) rfl ?_
          refine ol_q (wn_none rfl) (op_lda (L := rootC _) 0 ag_30 rfl rfl (rootC_take' _) (by simp [rootC_len])) rfl ?_
          refine ol_pull2 ?_
          refine ol_pull2 ?_
          refine ol_i (wn_none rfl) (os_call cb_34 rfl (fun w s => Best_calls _ _ _ _ _  s (by omega))) rfl ?_; rintro _ _ ⟨rfl, rfl⟩; rw [hR1]
          refine ol_q (wn_none rfl) (op_move (v := .tuple _) rfl) rfl ?_
          refine ol_q (wn_none rfl) (op_extract (v := .agg _) rfl rfl) rfl ?_
          refine ol_q (wn_none rfl) (op_extract (v := .bool _) rfl rfl) rfl ?_
          refine ol_i (wn_none rfl) (os_alloc (cs := (rootC Root.zero).toArray) zB_30 (by kernel_rfl)) rfl ?_; rintro _ _ ⟨bx5, rfl, rfl⟩
          refine ol_iN (wn_none rfl) (os_storera _ ag_30 rfl rfl (Free.zero _)) ?_; rintro _ _ ⟨rfl, rfl⟩
          refine ol_q (wn_none rfl) (op_assign (v := .bool _) rfl) rfl ?_
          refine ol_nil_then ?_
          refine cd_seq ?_
          refine cd_sr ?_   -- 17
          refine ol_q (wn_none rfl) (op_move (v := .bool _) rfl) rfl ?_
          refine ol_q (wn_none rfl) (op_not rfl) rfl ?_
          refine ol_nil_then ?_
          refine cd_cond rfl (fun hb6 => ?_) (fun hb6 => ?_)
          · have hp6 := hb6
            (try simp only [decide_eq_true_eq, decide_eq_false_iff_not, Bool.not_eq_true', Bool.not_eq_false', ne_eq, Decidable.not_not] at hp6)
            exact absurd hb6 (by simp)
          · have hp6 := hb6
            (try simp only [decide_eq_true_eq, decide_eq_false_iff_not, Bool.not_eq_true', Bool.not_eq_false', ne_eq, Decidable.not_not] at hp6)
            refine cd_skip ?_
            refine px_then ?_
            refine cd_seq ?_
            refine cd_pull1 ?_
            refine cd_seq ?_   -- 19
            refine cd_drawe (M := [_]) mx [3, 11, 18, 22] ?_
            -- 0
            refine et_quiet 0 (by kernel_rfl) rfl (by kernel_rfl) (wn_none rfl) (op_field fld_66_0 rfl) rfl ?_
            -- 1
            refine et_quiet 1 (by kernel_rfl) rfl (by kernel_rfl) (wn_none rfl) (op_ld 5 sc_24 rfl rfl rfl) rfl ?_
            -- 2
            refine et_quiet 2 (by kernel_rfl) rfl (by kernel_rfl) (wn_none rfl) (op_lda (L := rootC _) 2 ag_30 rfl rfl (rootC_take' _) (by simp [rootC_len])) rfl ?_
            refine et_1 (i := 3) (by kernel_rfl) ?_
            refine ei_i rfl rfl (wn_none rfl) (os_call cb_26 rfl (fun w s => Kids_calls _ _ _  s )) rfl ?_; rintro _ _ ⟨ao10k, ac10k, rfl, rfl⟩; refine ⟨[_, _], rfl, ?_⟩
            -- 4
            refine et_quiet 4 (by kernel_rfl) rfl (by kernel_rfl) (wn_none rfl) (op_len_slice Try.underlying45 rfl) rfl ?_
            -- 5
            refine et_quiet 5 (by kernel_rfl) rfl (by kernel_rfl) (wn_none rfl) (op_eq rfl rfl) rfl ?_
            -- 6
            refine et_quiet 6 (by kernel_rfl) rfl (by kernel_rfl) (wn_none rfl) (op_move (v := .bool _) rfl) rfl ?_
            refine et_split 62 rfl (fun hb7 => ?_) (fun hb7 => ?_)
            · have hp7 := hb7
              (try simp only [decide_eq_true_eq, decide_eq_false_iff_not, Bool.not_eq_true', Bool.not_eq_false', ne_eq, Decidable.not_not] at hp7)
              exact absurd hb7 (by rw [decide_eq_false (by omega)]; simp)
            · have hp7 := hb7
              (try simp only [decide_eq_true_eq, decide_eq_false_iff_not, Bool.not_eq_true', Bool.not_eq_false', ne_eq, Decidable.not_not] at hp7)
              -- 7
              refine et_quiet 7 (by kernel_rfl) rfl (by kernel_rfl) (wn_some rfl rfl rfl hb7 rfl) (op_field fld_66_0 rfl) rfl ?_
              -- 8
              refine et_quiet 8 (by kernel_rfl) rfl (by kernel_rfl) (wn_some rfl rfl rfl hb7 rfl) (op_ld 5 sc_24 rfl rfl rfl) rfl ?_
              -- 9
              refine et_quiet 9 (by kernel_rfl) rfl (by kernel_rfl) (wn_some rfl rfl rfl hb7 rfl) (op_lda (L := rootC _) 2 ag_30 rfl rfl (rootC_take' _) (by simp [rootC_len])) rfl ?_
              -- 10
              refine et_quiet 10 (by kernel_rfl) rfl (by kernel_rfl) (wn_some rfl rfl rfl hb7 rfl) (op_lda (L := rootC _) 0 ag_30 rfl rfl (rootC_take' _) (by simp [rootC_len])) rfl ?_
              refine et_1 (i := 11) (by kernel_rfl) ?_
              refine ei_i rfl rfl (wn_some rfl rfl rfl hb7 rfl) (os_back (os_pull1 (os_call cb_19 rfl (fun w s => Below_calls _ _ _ _  s ))) (fun _ s => ((((((((s.pull 7).pull 7).pull 7).pull 7).pull 7).pull 7).pull 6).pull 7))) rfl ?_; rintro _ _ ⟨rfl, rfl⟩; rw [below_at hw hi1 (show q < (runW xs).1.nodes.length by omega)]; refine ⟨[_, _], rfl, ?_⟩
              -- 12
              refine et_quiet 12 (by kernel_rfl) rfl (by kernel_rfl) (wn_some rfl rfl rfl hb7 rfl) (op_not rfl) rfl ?_
              -- 13
              refine et_quiet 13 (by kernel_rfl) rfl (by kernel_rfl) (wn_none rfl) (op_pick_f (v := .bool _) rfl hb7 rfl) rfl ?_
              -- 14
              refine et_quiet 14 (by kernel_rfl) rfl (by kernel_rfl) (wn_none rfl) (op_move (v := .bool _) rfl) rfl ?_
              refine et_split 70 rfl (fun hb8 => ?_) (fun hb8 => ?_)
              · have hp8 := hb8
                (try simp only [decide_eq_true_eq, decide_eq_false_iff_not, Bool.not_eq_true', Bool.not_eq_false', ne_eq, Decidable.not_not] at hp8)
                exact absurd hb8 (by rw [belI_pr hw.pa (show q < (runW xs).1.nodes.length by omega) (by omega), hqp, belI_eq]; simp)
              · have hp8 := hb8
                (try simp only [decide_eq_true_eq, decide_eq_false_iff_not, Bool.not_eq_true', Bool.not_eq_false', ne_eq, Decidable.not_not] at hp8)
                -- 15
                refine et_quiet 15 (by kernel_rfl) rfl (by kernel_rfl) (wn_some rfl rfl rfl hb8 rfl) (op_field fld_66_1 rfl) rfl ?_
                -- 16
                refine et_quiet 16 (by kernel_rfl) rfl (by kernel_rfl) (wn_some rfl rfl rfl hb8 rfl) (op_ld 5 sc_58 rfl rfl rfl) rfl ?_
                -- 17
                refine et_quiet 17 (by kernel_rfl) rfl (by kernel_rfl) (wn_some rfl rfl rfl hb8 rfl) (op_lda (L := rootC _) 0 ag_30 rfl rfl (rootC_take' _) (by simp [rootC_len])) rfl ?_
                -- 19
                refine et_quiet 19 (by kernel_rfl) rfl (by kernel_rfl) (wn_some rfl rfl rfl hb8 rfl) (op_field fld_66_1 rfl) rfl ?_
                -- 20
                refine et_quiet 20 (by kernel_rfl) rfl (by kernel_rfl) (wn_some rfl rfl rfl hb8 rfl) (op_ld 5 sc_58 rfl rfl rfl) rfl ?_
                -- 21
                refine et_quiet 21 (by kernel_rfl) rfl (by kernel_rfl) (wn_some rfl rfl rfl hb8 rfl) (op_lda (L := rootC _) 2 ag_30 rfl rfl (rootC_take' _) (by simp [rootC_len])) rfl ?_
                refine et_1 (i := 18) (by kernel_rfl) ?_
                refine ei_i rfl rfl (wn_some rfl rfl rfl hb8 rfl) (os_back (os_pull3 (os_pull2 (os_call cb_38 rfl (fun w s => Weight_calls _ _ _ _ _  s )))) (fun _ s => ((((((((s.pull 7).pull 7).pull 7).pull 7).pull 5).pull 7).pull 6).pull 7))) rfl ?_; rintro _ _ ⟨rfl, rfl⟩; rw [ofF_rt hw (show q < (runW xs).1.nodes.length by omega) (by omega)]; refine ⟨[_, _], rfl, ?_⟩
                refine et_1 (i := 22) (by kernel_rfl) ?_
                refine ei_i rfl rfl (wn_some rfl rfl rfl hb8 rfl) (os_back (os_pull3 (os_pull2 (os_call cb_38 rfl (fun w s => Weight_calls _ _ _ _ _  s )))) (fun _ s => ((((((((s.pull 7).pull 7).pull 7).pull 7).pull 5).pull 7).pull 6).pull 7))) rfl ?_; rintro _ _ ⟨rfl, rfl⟩; rw [ofF_rt hw hi1 (by omega)]; refine ⟨[_, _], rfl, ?_⟩
                -- 23
                refine et_quiet 23 (by kernel_rfl) rfl (by kernel_rfl) (wn_some rfl rfl rfl hb8 rfl) (op_gt rfl rfl) rfl ?_
                -- 24
                refine et_quiet 24 (by kernel_rfl) rfl (by kernel_rfl) (wn_none rfl) (op_pick_f (v := .bool _) rfl hb8 rfl) rfl ?_
                refine et_nil_then (by kernel_rfl) ?_
                refine cd_cond rfl (fun hb9 => ?_) (fun hb9 => ?_)
                · have hp9 := hb9
                  (try simp only [decide_eq_true_eq, decide_eq_false_iff_not, Bool.not_eq_true', Bool.not_eq_false', ne_eq, Decidable.not_not] at hp9)
                  exact absurd hb9 (by have := kid_le hw (o := (growO (runW xs).1.nodes.length (runW xs).2)) (by omega) hOk.nn (show q < (runW xs).1.nodes.length by omega) hkq hqp; simp; omega)
                · have hp9 := hb9
                  (try simp only [decide_eq_true_eq, decide_eq_false_iff_not, Bool.not_eq_true', Bool.not_eq_false', ne_eq, Decidable.not_not] at hp9)
                  refine cd_skip ?_
                  refine px_then ?_
                  refine cd_region ?_   -- 21
                  refine ol_q (wn_none rfl) (op_lda (L := rootC _) 2 ag_30 rfl rfl (rootC_take' _) (by simp [rootC_len])) rfl ?_
                  refine ol_pull4 ?_
                  refine ol_iN (wn_none rfl) (os_storera _ ag_30 rfl rfl (Free.zero _)) ?_; rintro _ _ ⟨rfl, rfl⟩
                  refine ol_nil ?_
                  refine px_blockN ?_
                  refine px_then ?_
                  refine cd_region ?_   -- 15
                  refine ol_q (wn_none rfl) (op_move (v := .int _ _) rfl) rfl ?_
                  refine ol_q (wn_none rfl) (op_add rfl rfl (by omega) (by omega)) rfl ?_
                  refine ol_q (wn_none rfl) (op_assign (v := .int _ _) rfl) rfl ?_
                  refine ol_nil ?_
                  refine px_loop2 (q, c + 1) ⟨by dsimp only; omega, by dsimp only; omega, by dsimp only; rw [← leafN_yes hw.nd hw.pa (by omega) hbk]; exact hlk⟩ (by (try dsimp only); omega) ⟨congrArg (Value.int .i64) (by simp), trivial⟩ ?_ (fun _ s => ((s.del 3).del 1))
                  repeat (first | exact kept_over | refine kept_upd rfl ?_ | refine kept_overS (by decide) ?_)
      · have hp3 := hb3
        (try simp only [decide_eq_true_eq, decide_eq_false_iff_not, Bool.not_eq_true', Bool.not_eq_false', ne_eq, Decidable.not_not] at hp3)
        omega
end Go.SL

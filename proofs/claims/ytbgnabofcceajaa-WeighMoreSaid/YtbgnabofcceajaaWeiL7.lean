import Derived.Test.YtbgnabofcceajaaWeiL4
set_option linter.unusedVariables false
set_option linter.unusedSimpArgs false
namespace Go.SL
open Go.Proofs

set_option maxRecDepth 100000 in
set_option maxHeartbeats 1000000 in
theorem WeighMore_calls {w0 w : World} {l : List HProp} (lo : Option Addr) (lc : Nat) (xs : List WAct) (at_ more : Int) (hs : Sat w0 w (l)) (hr : Rds w0 l encWAct lo xs) (hq : ∀ a ∈ xs, I64 a.kind ∧ I64 a.root ∧ I64 a.parent ∧ I64 a.slot ∧ I64 a.n ∧ I64 a.more) :
    Calls Try.prog 12 #[.slice lo xs.length lc, .int .i64 at_, .int .i64 more] w (Ret w0 fun v l' => v = .bool true ∧ l' = l) := by
  refine calls_enter Try.func12 rfl rfl rfl hs ?_
  refine cd_sr ?_   -- 0
  refine ol_q (wn_none rfl) (op_assign (v := .bool _) rfl) rfl ?_
  refine ol_nil_then ?_
  refine cd_seq ?_
  refine cd_sr ?_   -- 1
  refine ol_i (wn_none rfl) (os_call cb_33 rfl (fun w s => wlAlive_calls  s )) rfl ?_; rintro _ l ⟨rfl, rfl⟩
  refine ol_q (wn_none rfl) (op_not rfl) rfl ?_
  refine ol_nil_then ?_
  refine cd_cond_f rfl rfl ?_
  refine cd_skip ?_
  refine px_then ?_
  refine cd_seq ?_
  refine cd_sr ?_   -- 3
  refine ol_q (wn_none rfl) (op_move (v := .slice _ _ _) rfl) rfl ?_
  refine ol_q (wn_none rfl) (op_len_slice Try.underlying57 rfl) rfl ?_
  refine ol_q (wn_none rfl) (op_gt rfl rfl) rfl ?_
  refine ol_q (wn_none rfl) (op_move (v := .bool _) rfl) rfl ?_
  refine ol_split 26 rfl (fun hb1 => ?_) (fun hb1 => ?_)
  · have hp1 := hb1
    (try simp only [decide_eq_true_eq, decide_eq_false_iff_not, Bool.not_eq_true', Bool.not_eq_false', ne_eq, Decidable.not_not] at hp1)
    refine ol_skip (wn_some rfl rfl rfl hb1 rfl) rfl ?_
    refine ol_skip (wn_some rfl rfl rfl hb1 rfl) rfl ?_
    refine ol_q (wn_none rfl) (op_pick_t (v := .bool _) rfl hb1 rfl) rfl ?_
    refine ol_q (wn_none rfl) (op_move (v := .bool _) rfl) rfl ?_
    refine ol_skip (wn_some rfl rfl rfl rfl rfl) rfl ?_
    refine ol_skip (wn_some rfl rfl rfl rfl rfl) rfl ?_
    refine ol_q (wn_none rfl) (op_pick_t (v := .bool _) rfl rfl rfl) rfl ?_
    refine ol_nil_then ?_
    refine cd_cond_t rfl rfl ?_
    refine cd_sr ?_   -- 4
    refine ol_q (wn_none rfl) (op_assign (v := .bool _) rfl) rfl ?_
    refine ol_nil_then ?_
    refine cd_ret ?_
    refine px_thenR ?_
    exact px_ret1 rfl (v := .bool _) rfl (fun _ s => s) ⟨congrArg Value.bool (rfl), rfl⟩
  · have hp1 := hb1
    (try simp only [decide_eq_true_eq, decide_eq_false_iff_not, Bool.not_eq_true', Bool.not_eq_false', ne_eq, Decidable.not_not] at hp1)
    refine ol_q (wn_some rfl rfl rfl hb1 rfl) (op_move (v := .int _ _) rfl) rfl ?_
    refine ol_q (wn_some rfl rfl rfl hb1 rfl) (op_lt rfl rfl) rfl ?_
    refine ol_q (wn_none rfl) (op_pick_f (v := .bool _) rfl hb1 rfl) rfl ?_
    refine ol_q (wn_none rfl) (op_move (v := .bool _) rfl) rfl ?_
    refine ol_split 30 rfl (fun hb2 => ?_) (fun hb2 => ?_)
    · have hp2 := hb2
      (try simp only [decide_eq_true_eq, decide_eq_false_iff_not, Bool.not_eq_true', Bool.not_eq_false', ne_eq, Decidable.not_not] at hp2)
      refine ol_skip (wn_some rfl rfl rfl hb2 rfl) rfl ?_
      refine ol_skip (wn_some rfl rfl rfl hb2 rfl) rfl ?_
      refine ol_q (wn_none rfl) (op_pick_t (v := .bool _) rfl hb2 rfl) rfl ?_
      refine ol_nil_then ?_
      refine cd_cond_t rfl rfl ?_
      refine cd_sr ?_   -- 4
      refine ol_q (wn_none rfl) (op_assign (v := .bool _) rfl) rfl ?_
      refine ol_nil_then ?_
      refine cd_ret ?_
      refine px_thenR ?_
      exact px_ret1 rfl (v := .bool _) rfl (fun _ s => s) ⟨congrArg Value.bool (rfl), rfl⟩
    · have hp2 := hb2
      (try simp only [decide_eq_true_eq, decide_eq_false_iff_not, Bool.not_eq_true', Bool.not_eq_false', ne_eq, Decidable.not_not] at hp2)
      refine ol_q (wn_some rfl rfl rfl hb2 rfl) (op_move (v := .int _ _) rfl) rfl ?_
      refine ol_q (wn_some rfl rfl rfl hb2 rfl) (op_gt rfl rfl) rfl ?_
      refine ol_q (wn_none rfl) (op_pick_f (v := .bool _) rfl hb2 rfl) rfl ?_
      refine ol_nil_then ?_
      refine cd_cond rfl (fun hb3 => ?_) (fun hb3 => ?_)
      · have hp3 := hb3
        (try simp only [decide_eq_true_eq, decide_eq_false_iff_not, Bool.not_eq_true', Bool.not_eq_false', ne_eq, Decidable.not_not] at hp3)
        refine cd_sr ?_   -- 4
        refine ol_q (wn_none rfl) (op_assign (v := .bool _) rfl) rfl ?_
        refine ol_nil_then ?_
        refine cd_ret ?_
        refine px_thenR ?_
        exact px_ret1 rfl (v := .bool _) rfl (fun _ s => s) ⟨congrArg Value.bool (rfl), rfl⟩
      · have hp3 := hb3
        (try simp only [decide_eq_true_eq, decide_eq_false_iff_not, Bool.not_eq_true', Bool.not_eq_false', ne_eq, Decidable.not_not] at hp3)
        refine cd_skip ?_
        refine px_then ?_
        refine cd_sr ?_   -- 5
        refine ol_i (wn_none rfl) (os_call cb_40 rfl (fun w s => begun_calls  s )) rfl ?_; rintro _ _ ⟨pt2, pw2, pr2, pm2, rfl, rfl⟩
        refine ol_i (wn_none rfl) (os_alloc zB_66 rfl) rfl ?_; rintro _ _ ⟨bx1, rfl, rfl⟩
        refine ol_iN (wn_none rfl) (os_storea (L' := [_, _, _]) ag_66 rfl rfl rfl (by simp [Value.oneCell']) rfl (Free.zero _) rfl) ?_; rintro _ _ ⟨rfl, rfl⟩
        refine ol_nil_then ?_
        refine cd_seq ?_
        refine cd_sr ?_   -- 6
        refine ol_q (wn_none rfl) (op_move (v := .slice _ _ _) rfl) rfl ?_
        refine ol_q (wn_none rfl) (op_len_slice Try.underlying57 rfl) rfl ?_
        refine ol_q (wn_none rfl) (op_move (v := .int _ _) rfl) rfl ?_
        refine ol_nil_then ?_
        refine cd_block ?_
        refine cd_pull4 ?_
        refine cd_pull4 ?_
        refine cd_pull4 ?_
        refine cd_pull4 ?_
        refine cd_loop2 (α := Nat) [(9, 9), (37, 44)] (fun x => [(37, .int .i64 (x : Int))]) (fun x => TreeObj pt2 (runW (xs.take x)).1 :: WObj pw2 pt2 (runW (xs.take x)).1.nodes (runW (xs.take x)).2 :: RTreeObj pr2 (runW (xs.take x)).1 :: RWObj pm2 pr2 (runW (xs.take x)).2 :: _) (fun x => x ≤ xs.length) (fun x => xs.length - x) 0 (Nat.zero_le _) ⟨rfl, trivial⟩ (fun _ s => by (try dsimp only); rw [List.take_zero]; exact s) ?_
        rintro i hi f; (try dsimp only at hi ⊢)
        have hO := OKW.run (xs.take i)
        refine cd_sr ?_   -- 7
        refine ol_q (wn_none rfl) (op_lt rfl rfl) rfl ?_
        refine ol_nil_then ?_
        refine cd_seq ?_
        refine cd_cond rfl (fun hb4 => ?_) (fun hb4 => ?_)
        · have hp4 := hb4
          (try simp only [decide_eq_true_eq, decide_eq_false_iff_not, Bool.not_eq_true', Bool.not_eq_false', ne_eq, Decidable.not_not] at hp4)
          have hi1 : i < xs.length := by omega
          have hO2 := hO.step xs[i]
          refine cd_skip ?_
          refine px_then ?_
          refine cd_seq ?_
          refine cd_block ?_
          refine cd_sr ?_   -- 8
          refine ol_q (wn_none rfl) (op_index i sB_57 rfl rfl rfl (((((hr.cons _).cons _).cons _).cons _).cons _) (by first | rfl | (rw [tab_len]) | (rw [tab_len]; omega)) (by omega)) rfl ?_
          refine ol_q (wn_none rfl) (op_ldaw (L := wActC _) ag_69 (((((hr.cons _).cons _).cons _).cons _).cons _) rfl (by omega) rfl (wActC_ta _)) rfl ?_
          refine ol_i (wn_none rfl) (os_alloc (cs := (wActC WAct.zero).toArray) zB_69 (by kernel_rfl)) rfl ?_; rintro _ _ ⟨bx2, rfl, rfl⟩
          refine ol_iN (wn_none rfl) (os_storew (wActC _) ag_69 rfl rfl (wActC_len _) (wActC_one _) (by simp [wActC_len]) (Free.zero _)) ?_; rintro _ _ ⟨rfl, rfl⟩
          refine ol_nil_then ?_
          refine cd_region ?_   -- 9
          refine ol_q (wn_none rfl) (op_lda 5 ag_66 rfl rfl (by rfl) (by simp)) rfl ?_
          refine ol_q (wn_none rfl) (op_lda (L := wActC _) 0 ag_69 rfl rfl (wActC_ta _) (by simp [wActC_len])) rfl ?_
          refine ol_pull4 ?_
          refine ol_pull4 ?_
          refine ol_pull4 ?_
          refine ol_pull4 ?_
          refine ol_i (wn_none rfl) (os_call cb_41 rfl (fun w s => do_calls _ _ _ _ _ _ _  s hO.le hO.ow)) rfl ?_; rintro _ _ ⟨rfl, rfl⟩
          refine ol_nil ?_
          refine px_blockN ?_
          refine px_then ?_
          refine cd_region ?_   -- 10
          refine ol_q (wn_none rfl) (op_add rfl rfl (by omega) (by omega)) rfl ?_
          refine ol_q (wn_none rfl) (op_move (v := .int _ _) rfl) rfl ?_
          refine ol_nil ?_
          refine px_loop2 (i + 1) (by omega) (by (try dsimp only); omega) ⟨congrArg (Value.int .i64) (by simp), trivial⟩ ?_ (fun _ s => (by (try dsimp only); rw [runW_succ hi1]; exact (s.del 4)))
          repeat (first | exact kept_over | refine kept_upd rfl ?_ | refine kept_overS (by decide) ?_)
        · have hp4 := hb4
          (try simp only [decide_eq_true_eq, decide_eq_false_iff_not, Bool.not_eq_true', Bool.not_eq_false', ne_eq, Decidable.not_not] at hp4)
          have hF := OKW.run xs
          have hie : i = xs.length := by omega
          rw [hie, List.take_length]
          have hw := hF.wf
          have hOl := growO_len hF.le
          have hOk : OwnOK (growO (runW xs).1.nodes.length (runW xs).2) := hF.ow.zeros _
          have hN1 := hw.le
          have hN2 := hw.m2
          have hN0 := hw.ne
          have hrl := roots_len (runW xs).1
          have hrt0 := hF.rt0
          refine cd_exit ?_
          refine px_thenE ?_
          refine px_thenE ?_
          refine px_blockE ?_
          refine px_then ?_
          refine cd_sr ?_   -- 11
          refine ol_q (wn_none rfl) (op_field fld_66_1 rfl) rfl ?_
          refine ol_q (wn_none rfl) (op_ld 4 sc_58 rfl rfl rfl) rfl ?_
          refine ol_pull1 ?_
          refine ol_pull1 ?_
          refine ol_i (wn_none rfl) (os_call cb_36 rfl (fun w s => Apply_calls (xs := ([] : List Delta)) _ _ _ _ _ _  s hF.le hF.ow (rds_nil _) (by decide))) rfl ?_; rintro _ _ ⟨rfl, rfl⟩; rw [applyO_nil _ _ hF.ow]; (try dsimp only)
          refine ol_nil_then ?_
          refine cd_sr ?_   -- 12
          refine ol_q (wn_none rfl) (op_field fld_66_0 rfl) rfl ?_
          refine ol_q (wn_none rfl) (op_ld 4 sc_24 rfl rfl rfl) rfl ?_
          refine ol_i (wn_none rfl) (os_call cb_29 rfl (fun w s => Roots_calls _ _  s )) rfl ?_; rintro _ _ ⟨ao5, ac5, rfl, rfl⟩
          refine ol_q (wn_none rfl) (op_assign (v := .slice _ _ _) rfl) rfl ?_
          refine ol_nil_then ?_
          refine cd_seq ?_
          refine cd_sr ?_   -- 13
          refine ol_q (wn_none rfl) (op_move (v := .slice _ _ _) rfl) rfl ?_
          refine ol_q (wn_none rfl) (op_len_slice Try.underlying45 rfl) rfl ?_
          refine ol_q (wn_none rfl) (op_eq rfl rfl) rfl ?_
          refine ol_nil_then ?_
          refine cd_cond rfl (fun hb5 => ?_) (fun hb5 => ?_)
          · have hp5 := hb5
            (try simp only [decide_eq_true_eq, decide_eq_false_iff_not, Bool.not_eq_true', Bool.not_eq_false', ne_eq, Decidable.not_not] at hp5)
            omega
          · have hp5 := hb5
            (try simp only [decide_eq_true_eq, decide_eq_false_iff_not, Bool.not_eq_true', Bool.not_eq_false', ne_eq, Decidable.not_not] at hp5)
            refine cd_skip ?_
            refine px_then ?_
            refine cd_sr ?_   -- 15
            refine ol_q (wn_none rfl) (op_move (v := .slice _ _ _) rfl) rfl ?_
            refine ol_q (wn_none rfl) (op_move (v := .int _ _) rfl) rfl ?_
            refine ol_q (wn_none rfl) (op_conv64i Try.underlying78 (by rw [Try.underlying3]; rfl) rfl) rfl ?_
            refine ol_q (wn_none rfl) (op_move (v := .slice _ _ _) rfl) rfl ?_
            refine ol_q (wn_none rfl) (op_len_slice Try.underlying45 rfl) rfl ?_
            refine ol_q (wn_none rfl) (op_conv64 Try.underlying78 (by rw [Try.underlying3]; rfl) rfl (by omega)) rfl ?_
            refine ol_q (wn_none rfl) (op_remn rfl rfl (by omega)) rfl ?_
            refine ol_q (wn_none rfl) (op_convint Try.underlying3 (by rw [Try.underlying78]; rfl) rfl (Nat.lt_of_lt_of_le (Nat.mod_lt _ (by omega)) (by omega))) rfl ?_
            refine ol_q (wn_none rfl) (op_index _ sB_45 rfl rfl rfl (rds_row 0 rfl rfl) (by first | rfl | (rw [tab_len]) | (rw [tab_len]; omega)) (Nat.mod_lt _ (by omega))) rfl ?_
            refine ol_q (wn_none rfl) (op_ldaw (L := rootC _) ag_30 (rds_row 0 rfl rfl) rfl (Nat.mod_lt _ (by omega)) rfl (rootC_ta _)) rfl ?_
            refine ol_i (wn_none rfl) (os_alloc (cs := (rootC Root.zero).toArray) zB_30 (by kernel_rfl)) rfl ?_; rintro _ _ ⟨bx3, rfl, rfl⟩
            refine ol_iN (wn_none rfl) (os_storera _ ag_30 rfl rfl (Free.zero _)) ?_; rintro _ _ ⟨rfl, rfl⟩
            refine ol_nil_then ?_
            have ha : u64N at_ % (runW xs).1.roots.length < (runW xs).1.roots.length := Nat.mod_lt _ (by omega)
            rw [roots_at ha]
            generalize u64N at_ % (runW xs).1.roots.length = a0 at ha ⊢
            have ha2 : a0 < (runW xs).1.nodes.length := by omega
            refine cd_sr ?_   -- 16
            refine ol_q (wn_none rfl) (op_assign (v := .slice _ _ _) rfl) rfl ?_
            refine ol_nil_then ?_
            refine cd_seq ?_
            refine cd_sr ?_   -- 17
            refine ol_q (wn_none rfl) (op_move (v := .slice _ _ _) rfl) rfl ?_
            refine ol_q (wn_none rfl) (op_len_slice Try.underlying45 rfl) rfl ?_
            refine ol_q (wn_none rfl) (op_move (v := .int _ _) rfl) rfl ?_
            refine ol_nil_then ?_
            refine cd_block ?_
            refine cd_imp (fun _ s => Sat.rowNil (E := encI64) (e := 3) s) ?_
            refine cd_loop2 (α := Nat × Option Addr × Nat) [(12, 12), (14, 14), (66, 77)] (fun x => [(12, .slice x.2.1 (tab x.1 (sumN (runW xs).1.nodes (growO (runW xs).1.nodes.length (runW xs).2))).length x.2.2), (66, .int .i64 (x.1 : Int))]) (fun x => Row 3 encI64 (.slice x.2.1 (tab x.1 (sumN (runW xs).1.nodes (growO (runW xs).1.nodes.length (runW xs).2))).length x.2.2) (tab x.1 (sumN (runW xs).1.nodes (growO (runW xs).1.nodes.length (runW xs).2))) :: _) (fun x => x.1 ≤ (runW xs).1.roots.length) (fun x => (runW xs).1.roots.length - x.1) (0, none, 0) (Nat.zero_le _) ⟨rfl, rfl, trivial⟩ (fun _ s => s) ?_
            rintro ⟨j, b1, d1⟩ hj f; (try dsimp only at hj ⊢)
            refine cd_sr ?_   -- 18
            refine ol_q (wn_none rfl) (op_lt rfl rfl) rfl ?_
            refine ol_nil_then ?_
            refine cd_seq ?_
            refine cd_cond rfl (fun hb6 => ?_) (fun hb6 => ?_)
            · have hp6 := hb6
              (try simp only [decide_eq_true_eq, decide_eq_false_iff_not, Bool.not_eq_true', Bool.not_eq_false', ne_eq, Decidable.not_not] at hp6)
              have hi1 : j < (runW xs).1.nodes.length := by omega
              refine cd_skip ?_
              refine px_then ?_
              refine cd_seq ?_
              refine cd_block ?_
              refine cd_sr ?_   -- 19
              refine ol_q (wn_none rfl) (op_index j sB_45 rfl rfl rfl (rds_row 2 rfl rfl) (by first | rfl | (rw [tab_len]) | (rw [tab_len]; omega)) (by omega)) rfl ?_
              refine ol_q (wn_none rfl) (op_ldaw (L := rootC _) ag_30 (rds_row 2 rfl rfl) rfl (by omega) rfl (rootC_ta _)) rfl ?_
              refine ol_i (wn_none rfl) (os_alloc (cs := (rootC Root.zero).toArray) zB_30 (by kernel_rfl)) rfl ?_; rintro _ _ ⟨bx4, rfl, rfl⟩
              refine ol_iN (wn_none rfl) (os_storera _ ag_30 rfl rfl (Free.zero _)) ?_; rintro _ _ ⟨rfl, rfl⟩
              refine ol_nil_then ?_
              rw [roots_at (t := (runW xs).1) (i := j) (by omega)]
              refine cd_region ?_   -- 20
              refine ol_q (wn_none rfl) (op_move (v := .slice _ _ _) rfl) rfl ?_
              refine ol_q (wn_none rfl) (op_field fld_66_1 rfl) rfl ?_
              refine ol_q (wn_none rfl) (op_ld 8 sc_58 rfl rfl rfl) rfl ?_
              refine ol_q (wn_none rfl) (op_lda (L := rootC _) 0 ag_30 rfl rfl (rootC_take' _) (by simp [rootC_len])) rfl ?_
              refine ol_pull5 ?_
              refine ol_pull5 ?_
              refine ol_i (wn_none rfl) (os_call cb_38 rfl (fun w s => Weight_calls _ _ _ _ _  s )) rfl ?_; rintro _ _ ⟨rfl, rfl⟩; rw [ofF_rt hw hi1 (by omega)]
              refine ol_i (wn_none rfl) (os_bslice (E := encI64) [_] (ys := [_]) sB_71 zv_3 rfl rfl rfl rfl (by decide)) rfl ?_; rintro _ _ ⟨ao1, rfl, rfl⟩
              refine ol_pull4 ?_
              refine ol_i (wn_none rfl) (os_append (E := encI64) rfl sB_71 zv_3 rfl rfl rfl (fun w s => (rds_row 1 rfl rfl) [] w s) (by first | rfl | (rw [tab_len]) | (rw [tab_len]; omega)) (by rw [tab_len]; simp; omega) (by unfold maxLen; rw [tab_len]; simp; omega)) rfl ?_; rintro _ _ ⟨ao2, ac2, rfl, rfl⟩
              refine ol_q (wn_none rfl) (op_assign (v := .slice _ _ _) rfl) rfl ?_
              refine ol_nil ?_
              refine px_blockN ?_
              refine px_then ?_
              refine cd_region ?_   -- 21
              refine ol_q (wn_none rfl) (op_add rfl rfl (by omega) (by omega)) rfl ?_
              refine ol_q (wn_none rfl) (op_move (v := .int _ _) rfl) rfl ?_
              refine ol_nil ?_
              refine px_loop2 (j + 1, ao2, ac2) (by dsimp only; omega) (by (try dsimp only); omega) ⟨congrArg (fun q => Value.slice ao2 (List.length q) ac2) (tab_snoc j _), congrArg (Value.int .i64) (by simp), trivial⟩ ?_ (fun _ s => (by (try dsimp only); rw [← tab_snoc]; exact ((((((((((s.del 4).del 1).pull 7).pull 7).pull 7).pull 5).pull 5).pull 7).pull 7).pull 7)))
              repeat (first | exact kept_over | refine kept_upd rfl ?_ | refine kept_overS (by decide) ?_)
            · have hp6 := hb6
              (try simp only [decide_eq_true_eq, decide_eq_false_iff_not, Bool.not_eq_true', Bool.not_eq_false', ne_eq, Decidable.not_not] at hp6)
              have hje : j = (runW xs).1.nodes.length := by omega
              rw [hje]
              refine cd_exit ?_
              refine px_thenE ?_
              refine px_thenE ?_
              refine px_blockE ?_
              refine px_then ?_
              refine cd_sr ?_   -- 22
              refine ol_q (wn_none rfl) (op_field fld_66_1 rfl) rfl ?_
              refine ol_q (wn_none rfl) (op_ld 7 sc_58 rfl rfl rfl) rfl ?_
              refine ol_pull4 ?_
              refine ol_pull4 ?_
              refine ol_i (wn_none rfl) (os_call cb_39 rfl (fun w s => Head_calls _ _ _ _  s (by omega) (by omega))) rfl ?_; rintro _ _ ⟨rfl, rfl⟩
              refine ol_i (wn_none rfl) (os_alloc (cs := (rootC Root.zero).toArray) zB_30 (by kernel_rfl)) rfl ?_; rintro _ _ ⟨bx5, rfl, rfl⟩
              refine ol_iN (wn_none rfl) (os_storera _ ag_30 rfl rfl (Free.zero _)) ?_; rintro _ _ ⟨rfl, rfl⟩
              refine ol_nil_then ?_
              refine cd_seq ?_
              refine cd_sr ?_   -- 23
              refine ol_q (wn_none rfl) (op_move (v := .slice _ _ _) rfl) rfl ?_
              refine ol_q (wn_none rfl) (op_index 0 sB_71 rfl rfl rfl (rds_row 3 rfl rfl) (by first | rfl | (rw [tab_len]) | (rw [tab_len]; omega)) (by rw [tab_len]; omega)) rfl ?_
              refine ol_q (wn_none rfl) (op_ldw sc_3 (rds_row 3 rfl rfl) rfl (by rw [tab_len]; omega) rfl) rfl ?_
              refine ol_q (wn_none rfl) (op_gt rfl rfl) rfl ?_
              refine ol_nil_then ?_
              refine cd_cond rfl (fun hb7 => ?_) (fun hb7 => ?_)
              · have hp7 := hb7
                (try simp only [decide_eq_true_eq, decide_eq_false_iff_not, Bool.not_eq_true', Bool.not_eq_false', ne_eq, Decidable.not_not] at hp7)
                refine cd_sr ?_   -- 24
                refine ol_q (wn_none rfl) (op_assign (v := .bool _) rfl) rfl ?_
                refine ol_nil_then ?_
                refine cd_ret ?_
                refine px_thenR ?_
                exact px_ret1 rfl (v := .bool _) rfl (fun _ s => (((((((((s.del 8).del 7).del 6).del 5).del 4).del 3).del 2).del 1).del 0)) ⟨congrArg Value.bool (rfl), rfl⟩
              · have hp7 := hb7
                (try simp only [decide_eq_true_eq, decide_eq_false_iff_not, Bool.not_eq_true', Bool.not_eq_false', ne_eq, Decidable.not_not] at hp7)
                have htl : tot (growO (runW xs).1.nodes.length (runW xs).2) ≤ 2305843009213693952 := by
                  rw [← sumN_first (ns := (runW xs).1.nodes) (o := (growO (runW xs).1.nodes.length (runW xs).2)) hw.pa (by omega)]
                  have h9 := hp7
                  rw [tab_get] at h9
                  omega
                have hap := apply_more hw hOk hOl ha2 (m := more) (by omega) (by omega)
                refine cd_skip ?_
                refine px_then ?_
                refine cd_seq ?_
                refine cd_sr ?_   -- 25
                refine ol_q (wn_none rfl) (op_field fld_66_1 rfl) rfl ?_
                refine ol_q (wn_none rfl) (op_ld 8 sc_58 rfl rfl rfl) rfl ?_
                refine ol_q (wn_none rfl) (op_lda (L := rootC _) 4 ag_30 rfl rfl (rootC_take' _) (by simp [rootC_len])) rfl ?_
                refine ol_q (wn_none rfl) (op_move (v := .int _ _) rfl) rfl ?_
                refine ol_q (wn_none rfl) (op_build (L := deltaC _) (vs := [(0, .agg (rootC _).toArray), (1, .int _ _)]) bB_80 rfl ⟨⟨by simp [Value.cells, rootC_len], by rw [deltaC_len]; rfl⟩, ⟨rfl, by rw [deltaC_len]; rfl⟩, trivial⟩ ((deltaC_b0 _ _ _).trans ((deltaC_b1 _ _ _).trans rfl))) rfl ?_
                refine ol_i (wn_none rfl) (os_bslice (E := encDelta) [_] (ys := [_]) sB_77 zv_80 rfl rfl rfl rfl (by decide)) rfl ?_; rintro _ _ ⟨ao3, rfl, rfl⟩
                refine ol_pull3 ?_
                refine ol_pull3 ?_
                refine ol_i (wn_none rfl) (os_call cb_36 rfl (fun w s => Apply_calls (xs := [⟨rtA (runW xs).1.nodes a0, more⟩]) _ _ _ _ _ _  s (by omega) hOk (rds_row 0 rfl rfl) (by show 1 ≤ 1000; decide))) rfl ?_; rintro _ _ ⟨rfl, rfl⟩; rw [hap.1]; (try dsimp only)
                refine ol_q (wn_none rfl) (op_ne rfl rfl) rfl ?_
                refine ol_nil_then ?_
                refine cd_cond rfl (fun hb8 => ?_) (fun hb8 => ?_)
                · have hp8 := hb8
                  (try simp only [decide_eq_true_eq, decide_eq_false_iff_not, Bool.not_eq_true', Bool.not_eq_false', ne_eq, Decidable.not_not] at hp8)
                  exact absurd hb8 (by simp)
                · have hp8 := hb8
                  (try simp only [decide_eq_true_eq, decide_eq_false_iff_not, Bool.not_eq_true', Bool.not_eq_false', ne_eq, Decidable.not_not] at hp8)
                  refine cd_skip ?_
                  refine px_then ?_
                  refine cd_seq ?_
                  refine cd_sr ?_   -- 27
                  refine ol_q (wn_none rfl) (op_move (v := .slice _ _ _) rfl) rfl ?_
                  refine ol_q (wn_none rfl) (op_len_slice Try.underlying45 rfl) rfl ?_
                  refine ol_q (wn_none rfl) (op_move (v := .int _ _) rfl) rfl ?_
                  refine ol_nil_then ?_
                  refine cd_block ?_
                  refine cd_loop2 (α := Nat) [(6, 6), (16, 18), (95, 118)] (fun x => [(95, .int .i64 (x : Int))]) (fun _ => _) (fun x => x ≤ (runW xs).1.roots.length) (fun x => (runW xs).1.roots.length - x) 0 (Nat.zero_le _) ⟨rfl, trivial⟩ (fun _ s => s) ?_
                  rintro j2 hj f; (try dsimp only at hj ⊢)
                  refine cd_sr ?_   -- 28
                  refine ol_q (wn_none rfl) (op_lt rfl rfl) rfl ?_
                  refine ol_nil_then ?_
                  refine cd_seq ?_
                  refine cd_cond rfl (fun hb9 => ?_) (fun hb9 => ?_)
                  · have hp9 := hb9
                    (try simp only [decide_eq_true_eq, decide_eq_false_iff_not, Bool.not_eq_true', Bool.not_eq_false', ne_eq, Decidable.not_not] at hp9)
                    have hi1 : j2 < (runW xs).1.nodes.length := by omega
                    have hsp := sumN_nonneg (ns := (runW xs).1.nodes) (o := (growO (runW xs).1.nodes.length (runW xs).2)) (a := j2) hOk.nn
                    have hst := sumN_tot (ns := (runW xs).1.nodes) (o := (growO (runW xs).1.nodes.length (runW xs).2)) (a := j2) hOk.nn
                    refine cd_skip ?_
                    refine px_then ?_
                    refine cd_seq ?_
                    refine cd_block ?_
                    refine cd_sr ?_   -- 29
                    refine ol_q (wn_none rfl) (op_move (v := .int _ _) rfl) rfl ?_
                    refine ol_q (wn_none rfl) (op_index j2 sB_45 rfl rfl rfl (rds_row 6 rfl rfl) (by first | rfl | (rw [tab_len]) | (rw [tab_len]; omega)) (by omega)) rfl ?_
                    refine ol_q (wn_none rfl) (op_ldaw (L := rootC _) ag_30 (rds_row 6 rfl rfl) rfl (by omega) rfl (rootC_ta _)) rfl ?_
                    refine ol_i (wn_none rfl) (os_alloc (cs := (rootC Root.zero).toArray) zB_30 (by kernel_rfl)) rfl ?_; rintro _ _ ⟨bx6, rfl, rfl⟩
                    refine ol_q (wn_none rfl) (op_assign (v := .int _ _) rfl) rfl ?_
                    refine ol_iN (wn_none rfl) (os_storera _ ag_30 rfl rfl (Free.zero _)) ?_; rintro _ _ ⟨rfl, rfl⟩
                    refine ol_nil_then ?_
                    rw [roots_at (t := (runW xs).1) (i := j2) (by omega)]
                    refine cd_sr ?_   -- 30
                    refine ol_q (wn_none rfl) (op_move (v := .slice _ _ _) rfl) rfl ?_
                    refine ol_q (wn_none rfl) (op_move (v := .int _ _) rfl) rfl ?_
                    refine ol_q (wn_none rfl) (op_index j2 sB_71 rfl rfl rfl (rds_row 5 rfl rfl) (by first | rfl | (rw [tab_len]) | (rw [tab_len]; omega)) (by rw [tab_len]; omega)) rfl ?_
                    refine ol_q (wn_none rfl) (op_ldw sc_3 (rds_row 5 rfl rfl) rfl (by rw [tab_len]; omega) rfl) rfl ?_
                    refine ol_q (wn_none rfl) (op_assign (v := .int _ _) rfl) rfl ?_
                    refine ol_nil_then ?_
                    refine cd_seq ?_
                    refine cd_sr ?_   -- 31
                    refine ol_q (wn_none rfl) (op_field fld_66_0 rfl) rfl ?_
                    refine ol_q (wn_none rfl) (op_ld 10 sc_24 rfl rfl rfl) rfl ?_
                    refine ol_q (wn_none rfl) (op_lda (L := rootC _) 0 ag_30 rfl rfl (rootC_take' _) (by simp [rootC_len])) rfl ?_
                    refine ol_q (wn_none rfl) (op_lda (L := rootC _) 6 ag_30 rfl rfl (rootC_take' _) (by simp [rootC_len])) rfl ?_
                    refine ol_pull1 ?_
                    refine ol_i (wn_none rfl) (os_call cb_19 rfl (fun w s => Below_calls _ _ _ _  s )) rfl ?_; rintro _ _ ⟨rfl, rfl⟩; rw [below_at hw hi1 ha2]
                    refine ol_nil_then ?_
                    refine cd_cond rfl (fun hb10 => ?_) (fun hb10 => ?_)
                    · have hp10 := hb10
                      (try simp only [decide_eq_true_eq, decide_eq_false_iff_not, Bool.not_eq_true', Bool.not_eq_false', ne_eq, Decidable.not_not] at hp10)
                      have hbl : belI (runW xs).1.nodes j2 (a0 : Int) = true := hb10
                      refine cd_region ?_   -- 32
                      refine ol_q (wn_none rfl) (op_move (v := .int _ _) rfl) rfl ?_
                      refine ol_q (wn_none rfl) (op_move (v := .int _ _) rfl) rfl ?_
                      refine ol_q (wn_none rfl) (op_add rfl rfl (by rw [tab_get]; omega) (by rw [tab_get]; omega)) rfl ?_
                      refine ol_q (wn_none rfl) (op_assign (v := .int _ _) rfl) rfl ?_
                      refine ol_nil ?_
                      refine px_then ?_
                      refine cd_sr ?_   -- 33
                      refine ol_q (wn_none rfl) (op_field fld_66_1 rfl) rfl ?_
                      refine ol_q (wn_none rfl) (op_ld 10 sc_58 rfl rfl rfl) rfl ?_
                      refine ol_q (wn_none rfl) (op_lda (L := rootC _) 1 ag_30 rfl rfl (rootC_take' _) (by simp [rootC_len])) rfl ?_
                      refine ol_pull2 ?_
                      refine ol_pull1 ?_
                      refine ol_i (wn_none rfl) (os_call cb_38 rfl (fun w s => Weight_calls _ _ _ _ _  s )) rfl ?_; rintro _ _ ⟨rfl, rfl⟩; rw [ofF_rt hw hi1 (by rw [addL_len]; omega), sum_add (by omega)]
                      refine ol_q (wn_none rfl) (op_move (v := .int _ _) rfl) rfl ?_
                      refine ol_q (wn_none rfl) (op_ne rfl rfl) rfl ?_
                      refine ol_nil_then ?_
                      refine cd_cond rfl (fun hb11 => ?_) (fun hb11 => ?_)
                      · have hp11 := hb11
                        (try simp only [decide_eq_true_eq, decide_eq_false_iff_not, Bool.not_eq_true', Bool.not_eq_false', ne_eq, Decidable.not_not] at hp11)
                        exact absurd hb11 (by rw [tab_get, if_pos hbl]; simp)
                      · have hp11 := hb11
                        (try simp only [decide_eq_true_eq, decide_eq_false_iff_not, Bool.not_eq_true', Bool.not_eq_false', ne_eq, Decidable.not_not] at hp11)
                        refine cd_skip ?_
                        refine px_blockN ?_
                        refine px_then ?_
                        refine cd_region ?_   -- 35
                        refine ol_q (wn_none rfl) (op_add rfl rfl (by omega) (by omega)) rfl ?_
                        refine ol_q (wn_none rfl) (op_move (v := .int _ _) rfl) rfl ?_
                        refine ol_nil ?_
                        refine px_loop2 (j2 + 1) (by omega) (by (try dsimp only); omega) ⟨congrArg (Value.int .i64) (by simp), trivial⟩ ?_ (fun _ s => (s.del 2))
                        repeat (first | exact kept_over | refine kept_upd rfl ?_ | refine kept_overS (by decide) ?_)
                    · have hp10 := hb10
                      (try simp only [decide_eq_true_eq, decide_eq_false_iff_not, Bool.not_eq_true', Bool.not_eq_false', ne_eq, Decidable.not_not] at hp10)
                      have hbl : ¬ belI (runW xs).1.nodes j2 (a0 : Int) = true := by simpa using hb10
                      refine cd_skip ?_
                      refine px_then ?_
                      refine cd_sr ?_   -- 33
                      refine ol_q (wn_none rfl) (op_field fld_66_1 rfl) rfl ?_
                      refine ol_q (wn_none rfl) (op_ld 10 sc_58 rfl rfl rfl) rfl ?_
                      refine ol_q (wn_none rfl) (op_lda (L := rootC _) 1 ag_30 rfl rfl (rootC_take' _) (by simp [rootC_len])) rfl ?_
                      refine ol_pull2 ?_
                      refine ol_pull1 ?_
                      refine ol_i (wn_none rfl) (os_call cb_38 rfl (fun w s => Weight_calls _ _ _ _ _  s )) rfl ?_; rintro _ _ ⟨rfl, rfl⟩; rw [ofF_rt hw hi1 (by rw [addL_len]; omega), sum_add (by omega)]
                      refine ol_q (wn_none rfl) (op_move (v := .int _ _) rfl) rfl ?_
                      refine ol_q (wn_none rfl) (op_ne rfl rfl) rfl ?_
                      refine ol_nil_then ?_
                      refine cd_cond rfl (fun hb12 => ?_) (fun hb12 => ?_)
                      · have hp12 := hb12
                        (try simp only [decide_eq_true_eq, decide_eq_false_iff_not, Bool.not_eq_true', Bool.not_eq_false', ne_eq, Decidable.not_not] at hp12)
                        exact absurd hb12 (by rw [tab_get, if_neg hbl]; simp)
                      · have hp12 := hb12
                        (try simp only [decide_eq_true_eq, decide_eq_false_iff_not, Bool.not_eq_true', Bool.not_eq_false', ne_eq, Decidable.not_not] at hp12)
                        refine cd_skip ?_
                        refine px_blockN ?_
                        refine px_then ?_
                        refine cd_region ?_   -- 35
                        refine ol_q (wn_none rfl) (op_add rfl rfl (by omega) (by omega)) rfl ?_
                        refine ol_q (wn_none rfl) (op_move (v := .int _ _) rfl) rfl ?_
                        refine ol_nil ?_
                        refine px_loop2 (j2 + 1) (by omega) (by (try dsimp only); omega) ⟨congrArg (Value.int .i64) (by simp), trivial⟩ ?_ (fun _ s => (s.del 2))
                        repeat (first | exact kept_over | refine kept_upd rfl ?_ | refine kept_overS (by decide) ?_)
                  · have hp9 := hb9
                    (try simp only [decide_eq_true_eq, decide_eq_false_iff_not, Bool.not_eq_true', Bool.not_eq_false', ne_eq, Decidable.not_not] at hp9)
                    refine cd_exit ?_
                    refine px_thenE ?_
                    refine px_thenE ?_
                    refine px_blockE ?_
                    refine px_then ?_
                    refine cd_seq ?_
                    refine cd_sr ?_   -- 36
                    refine ol_q (wn_none rfl) (op_field fld_66_1 rfl) rfl ?_
                    refine ol_q (wn_none rfl) (op_ld 9 sc_58 rfl rfl rfl) rfl ?_
                    refine ol_q (wn_none rfl) (op_lda (L := rootC _) 5 ag_30 rfl rfl (rootC_take' _) (by simp [rootC_len])) rfl ?_
                    refine ol_q (wn_none rfl) (op_move (v := .int _ _) rfl) rfl ?_
                    refine ol_q (wn_none rfl) (op_neg rfl) rfl ?_
                    refine ol_q (wn_none rfl) (op_build (L := deltaC _) (vs := [(0, .agg (rootC _).toArray), (1, .int _ _)]) bB_80 rfl ⟨⟨by simp [Value.cells, rootC_len], by rw [deltaC_len]; rfl⟩, ⟨rfl, by rw [deltaC_len]; rfl⟩, trivial⟩ ((deltaC_b0 _ _ _).trans ((deltaC_b1 _ _ _).trans rfl))) rfl ?_
                    refine ol_i (wn_none rfl) (os_bslice (E := encDelta) [_] (ys := [_]) sB_77 zv_80 rfl rfl rfl rfl (by decide)) rfl ?_; rintro _ _ ⟨ao4, rfl, rfl⟩; rw [show IntKind.i64.wrap (0 - more) = -more from by rw [wrap_i64 (by omega) (by omega)]; omega]
                    refine ol_pull2 ?_
                    refine ol_pull2 ?_
                    refine ol_i (wn_none rfl) (os_call cb_36 rfl (fun w s => Apply_calls (xs := [⟨rtA (runW xs).1.nodes a0, -more⟩]) _ _ _ _ _ _  s (by rw [addL_len]; omega) hap.2 (rds_row 0 rfl rfl) (by show 1 ≤ 1000; decide))) rfl ?_; rintro _ _ ⟨rfl, rfl⟩; rw [apply_less hw hOk hOl ha2 (by omega) (by omega)]; (try dsimp only)
                    refine ol_q (wn_none rfl) (op_ne rfl rfl) rfl ?_
                    refine ol_nil_then ?_
                    refine cd_cond rfl (fun hb13 => ?_) (fun hb13 => ?_)
                    · have hp13 := hb13
                      (try simp only [decide_eq_true_eq, decide_eq_false_iff_not, Bool.not_eq_true', Bool.not_eq_false', ne_eq, Decidable.not_not] at hp13)
                      exact absurd hb13 (by simp)
                    · have hp13 := hb13
                      (try simp only [decide_eq_true_eq, decide_eq_false_iff_not, Bool.not_eq_true', Bool.not_eq_false', ne_eq, Decidable.not_not] at hp13)
                      refine cd_skip ?_
                      refine px_then ?_
                      refine cd_seq ?_
                      refine cd_sr ?_   -- 38
                      refine ol_q (wn_none rfl) (op_move (v := .slice _ _ _) rfl) rfl ?_
                      refine ol_q (wn_none rfl) (op_len_slice Try.underlying45 rfl) rfl ?_
                      refine ol_q (wn_none rfl) (op_move (v := .int _ _) rfl) rfl ?_
                      refine ol_nil_then ?_
                      refine cd_block ?_
                      refine cd_loop2 (α := Nat) [(6, 6), (19, 20), (130, 144)] (fun x => [(130, .int .i64 (x : Int))]) (fun _ => _) (fun x => x ≤ (runW xs).1.roots.length) (fun x => (runW xs).1.roots.length - x) 0 (Nat.zero_le _) ⟨rfl, trivial⟩ (fun _ s => s) ?_
                      rintro j3 hj f; (try dsimp only at hj ⊢)
                      refine cd_sr ?_   -- 39
                      refine ol_q (wn_none rfl) (op_lt rfl rfl) rfl ?_
                      refine ol_nil_then ?_
                      refine cd_seq ?_
                      refine cd_cond rfl (fun hb14 => ?_) (fun hb14 => ?_)
                      · have hp14 := hb14
                        (try simp only [decide_eq_true_eq, decide_eq_false_iff_not, Bool.not_eq_true', Bool.not_eq_false', ne_eq, Decidable.not_not] at hp14)
                        have hi1 : j3 < (runW xs).1.nodes.length := by omega
                        refine cd_skip ?_
                        refine px_then ?_
                        refine cd_seq ?_
                        refine cd_block ?_
                        refine cd_sr ?_   -- 40
                        refine ol_q (wn_none rfl) (op_move (v := .int _ _) rfl) rfl ?_
                        refine ol_q (wn_none rfl) (op_index j3 sB_45 rfl rfl rfl (rds_row 7 rfl rfl) (by first | rfl | (rw [tab_len]) | (rw [tab_len]; omega)) (by omega)) rfl ?_
                        refine ol_q (wn_none rfl) (op_ldaw (L := rootC _) ag_30 (rds_row 7 rfl rfl) rfl (by omega) rfl (rootC_ta _)) rfl ?_
                        refine ol_i (wn_none rfl) (os_alloc (cs := (rootC Root.zero).toArray) zB_30 (by kernel_rfl)) rfl ?_; rintro _ _ ⟨bx7, rfl, rfl⟩
                        refine ol_q (wn_none rfl) (op_assign (v := .int _ _) rfl) rfl ?_
                        refine ol_iN (wn_none rfl) (os_storera _ ag_30 rfl rfl (Free.zero _)) ?_; rintro _ _ ⟨rfl, rfl⟩
                        refine ol_nil_then ?_
                        rw [roots_at (t := (runW xs).1) (i := j3) (by omega)]
                        refine cd_seq ?_   -- 41
                        refine cd_draw (M := []) mx [3] (by kernel_rfl) ?_
                        refine rg_q (wn_none rfl) (op_field fld_66_1 rfl) rfl rfl ?_
                        refine rg_q (wn_none rfl) (op_ld 11 sc_58 rfl rfl rfl) rfl rfl ?_
                        refine rg_q (wn_none rfl) (op_lda (L := rootC _) 0 ag_30 rfl rfl (rootC_take' _) (by simp [rootC_len])) rfl rfl ?_
                        refine rg_i (wn_none rfl) (os_back (os_pull2 (os_pull2 (os_call cb_38 rfl (fun w s => Weight_calls _ _ _ _ _  s )))) (fun _ s => ((((((((((((s.pull 11).pull 11).pull 11).pull 11).pull 11).pull 11).pull 11).pull 11).pull 11).pull 10).pull 10).pull 11))) rfl rfl ?_; rintro _ _ ⟨rfl, rfl⟩; rw [ofF_rt hw hi1 (by omega)]; refine ⟨[], rfl, ?_⟩
                        refine rg_q (wn_none rfl) (op_move (v := .slice _ _ _) rfl) rfl rfl ?_
                        refine rg_q (wn_none rfl) (op_move (v := .int _ _) rfl) rfl rfl ?_
                        refine rg_q (wn_none rfl) (op_index j3 sB_71 rfl rfl rfl (rds_row 6 rfl rfl) (by first | rfl | (rw [tab_len]) | (rw [tab_len]; omega)) (by rw [tab_len]; omega)) rfl rfl ?_
                        refine rg_q (wn_none rfl) (op_ldw sc_3 (rds_row 6 rfl rfl) rfl (by rw [tab_len]; omega) rfl) rfl rfl ?_
                        refine rg_q (wn_none rfl) (op_ne rfl rfl) rfl rfl ?_
                        refine rg_nil_then0 ?_
                        refine cd_cond rfl (fun hb15 => ?_) (fun hb15 => ?_)
                        · have hp15 := hb15
                          (try simp only [decide_eq_true_eq, decide_eq_false_iff_not, Bool.not_eq_true', Bool.not_eq_false', ne_eq, Decidable.not_not] at hp15)
                          exact absurd hb15 (by rw [tab_get]; simp)
                        · have hp15 := hb15
                          (try simp only [decide_eq_true_eq, decide_eq_false_iff_not, Bool.not_eq_true', Bool.not_eq_false', ne_eq, Decidable.not_not] at hp15)
                          refine cd_skip ?_
                          refine px_blockN ?_
                          refine px_then ?_
                          refine cd_region ?_   -- 43
                          refine ol_q (wn_none rfl) (op_add rfl rfl (by omega) (by omega)) rfl ?_
                          refine ol_q (wn_none rfl) (op_move (v := .int _ _) rfl) rfl ?_
                          refine ol_nil ?_
                          refine px_loop2 (j3 + 1) (by omega) (by (try dsimp only); omega) ⟨congrArg (Value.int .i64) (by simp), trivial⟩ ?_ (fun _ s => (s.del 0))
                          repeat (first | exact kept_over | refine kept_upd rfl ?_ | refine kept_overS (by decide) ?_)
                      · have hp14 := hb14
                        (try simp only [decide_eq_true_eq, decide_eq_false_iff_not, Bool.not_eq_true', Bool.not_eq_false', ne_eq, Decidable.not_not] at hp14)
                        refine cd_exit ?_
                        refine px_thenE ?_
                        refine px_thenE ?_
                        refine px_blockE ?_
                        refine px_then ?_
                        refine cd_seq ?_   -- 44
                        refine cd_draw (M := []) mx [2] (by kernel_rfl) ?_
                        refine rg_q (wn_none rfl) (op_field fld_66_1 rfl) rfl rfl ?_
                        refine rg_q (wn_none rfl) (op_ld 10 sc_58 rfl rfl rfl) rfl rfl ?_
                        refine rg_i (wn_none rfl) (os_back (os_pull1 (os_pull1 (os_call cb_39 rfl (fun w s => Head_calls _ _ _ _  s (by omega) (by omega))))) (fun _ s => s)) rfl rfl ?_; rintro _ _ ⟨rfl, rfl⟩; refine ⟨[], rfl, ?_⟩
                        refine rg_q (wn_none rfl) (op_lda (L := rootC _) 4 ag_30 rfl rfl (rootC_take' _) (by simp [rootC_len])) rfl rfl ?_
                        refine rg_q (wn_none rfl) (op_eqroot _ _ rB_30 rfl rfl) rfl rfl ?_
                        refine rg_q (wn_none rfl) (op_assign (v := .bool _) rfl) rfl rfl ?_
                        refine rg_nil_then0 ?_
                        refine cd_ret ?_
                        exact px_ret1 rfl (v := .bool _) rfl (fun _ s => (((((((((((s.del 10).del 9).del 8).del 7).del 6).del 5).del 4).del 3).del 2).del 1).del 0)) ⟨congrArg Value.bool (by simp), rfl⟩
end Go.SL

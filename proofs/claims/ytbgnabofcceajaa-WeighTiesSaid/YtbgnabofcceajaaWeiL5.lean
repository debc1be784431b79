import Derived.Test.YtbgnabofcceajaaWeiL4
set_option linter.unusedVariables false
set_option linter.unusedSimpArgs false
namespace Go.SL
open Go.Proofs

set_option maxRecDepth 100000 in
set_option maxHeartbeats 1000000 in
theorem WeighTies_calls {w0 w : World} {l : List HProp} (lo : Option Addr) (lc : Nat) (xs : List WAct) (hs : Sat w0 w (l)) (hr : Rds w0 l encWAct lo xs) (hq : ∀ a ∈ xs, I64 a.kind ∧ I64 a.root ∧ I64 a.parent ∧ I64 a.slot ∧ I64 a.n ∧ I64 a.more) :
    Calls Try.prog 14 #[.slice lo xs.length lc] w (Ret w0 fun v l' => v = .bool true ∧ l' = l) := by
  refine calls_enter Try.func14 rfl rfl rfl hs ?_
  refine cd_sr ?_   -- 0
  refine ol_q (wn_none rfl) (op_assign (v := .bool _) rfl) rfl ?_
  refine ol_nil_then ?_
  refine cd_seq ?_
  refine cd_sr ?_   -- 1
  refine ol_i (wn_none rfl) (os_call cb_33 rfl (fun w s => wlAlive_calls  s )) rfl ?_; rintro _ l ⟨rfl, rfl⟩
  refine ol_q (wn_none rfl) (op_not rfl) rfl ?_
  refine ol_nil_then ?_
  refine cd_cond_f rfl rfl ?_
  refine cd_skip ?_
  refine px_then ?_
  refine cd_seq ?_
  refine cd_sr ?_   -- 3
  refine ol_q (wn_none rfl) (op_move (v := .slice _ _ _) rfl) rfl ?_
  refine ol_q (wn_none rfl) (op_len_slice Try.underlying57 rfl) rfl ?_
  refine ol_q (wn_none rfl) (op_gt rfl rfl) rfl ?_
  refine ol_nil_then ?_
  refine cd_cond rfl (fun hb1 => ?_) (fun hb1 => ?_)
  · have hp1 := hb1
    (try simp only [decide_eq_true_eq, decide_eq_false_iff_not, Bool.not_eq_true', Bool.not_eq_false', ne_eq, Decidable.not_not] at hp1)
    refine cd_sr ?_   -- 4
    refine ol_q (wn_none rfl) (op_assign (v := .bool _) rfl) rfl ?_
    refine ol_nil_then ?_
    refine cd_ret ?_
    refine px_thenR ?_
    exact px_ret1 rfl (v := .bool _) rfl (fun _ s => s) ⟨congrArg Value.bool (rfl), rfl⟩
  · have hp1 := hb1
    (try simp only [decide_eq_true_eq, decide_eq_false_iff_not, Bool.not_eq_true', Bool.not_eq_false', ne_eq, Decidable.not_not] at hp1)
    refine cd_skip ?_
    refine px_then ?_
    refine cd_sr ?_   -- 5
    refine ol_i (wn_none rfl) (os_call cb_40 rfl (fun w s => begun_calls  s )) rfl ?_; rintro _ _ ⟨pt2, pw2, pr2, pm2, rfl, rfl⟩
    refine ol_i (wn_none rfl) (os_alloc zB_66 rfl) rfl ?_; rintro _ _ ⟨bx1, rfl, rfl⟩
    refine ol_iN (wn_none rfl) (os_storea (L' := [_, _, _]) ag_66 rfl rfl rfl (by simp [Value.oneCell']) rfl (Free.zero _) rfl) ?_; rintro _ _ ⟨rfl, rfl⟩
    refine ol_nil_then ?_
    refine cd_seq ?_
    refine cd_sr ?_   -- 6
    refine ol_q (wn_none rfl) (op_move (v := .slice _ _ _) rfl) rfl ?_
    refine ol_q (wn_none rfl) (op_len_slice Try.underlying57 rfl) rfl ?_
    refine ol_q (wn_none rfl) (op_move (v := .int _ _) rfl) rfl ?_
    refine ol_nil_then ?_
    refine cd_block ?_
    refine cd_pull4 ?_
    refine cd_pull4 ?_
    refine cd_pull4 ?_
    refine cd_pull4 ?_
    refine cd_loop2 (α := Nat) [(5, 5), (21, 31)] (fun x => [(21, .int .i64 (x : Int))]) (fun x => TreeObj pt2 (runA (xs.take x)).1 :: WObj pw2 pt2 (runA (xs.take x)).1.nodes (runA (xs.take x)).2 :: RTreeObj pr2 (runA (xs.take x)).1 :: RWObj pm2 pr2 (runA (xs.take x)).2 :: _) (fun x => x ≤ xs.length) (fun x => xs.length - x) 0 (Nat.zero_le _) ⟨rfl, trivial⟩ (fun _ s => by (try dsimp only); rw [List.take_zero]; exact s) ?_
    rintro i hi f; (try dsimp only at hi ⊢)
    have hO := (OKW.runA (xs.take i)).1
    refine cd_sr ?_   -- 7
    refine ol_q (wn_none rfl) (op_lt rfl rfl) rfl ?_
    refine ol_nil_then ?_
    refine cd_seq ?_
    refine cd_cond rfl (fun hb2 => ?_) (fun hb2 => ?_)
    · have hp2 := hb2
      (try simp only [decide_eq_true_eq, decide_eq_false_iff_not, Bool.not_eq_true', Bool.not_eq_false', ne_eq, Decidable.not_not] at hp2)
      have hi1 : i < xs.length := by omega
      refine cd_skip ?_
      refine px_then ?_
      refine cd_seq ?_
      refine cd_block ?_
      refine cd_sr ?_   -- 8
      refine ol_q (wn_none rfl) (op_index i sB_57 rfl rfl rfl (((((hr.cons _).cons _).cons _).cons _).cons _) rfl (by omega)) rfl ?_
      refine ol_q (wn_none rfl) (op_ldaw (L := wActC _) ag_69 (((((hr.cons _).cons _).cons _).cons _).cons _) rfl (by omega) rfl (wActC_ta _)) rfl ?_
      refine ol_i (wn_none rfl) (os_alloc (cs := (wActC WAct.zero).toArray) zB_69 (by kernel_rfl)) rfl ?_; rintro _ _ ⟨bx2, rfl, rfl⟩
      refine ol_iN (wn_none rfl) (os_storew (wActC _) ag_69 rfl rfl (wActC_len _) (wActC_one _) (by simp [wActC_len]) (Free.zero _)) ?_; rintro _ _ ⟨rfl, rfl⟩
      refine ol_nil_then ?_
      refine cd_sr ?_   -- 9
      refine ol_q (wn_none rfl) (op_field fld_69_0 rfl) rfl ?_
      refine ol_q (wn_none rfl) (op_ld 0 sc_3 rfl rfl (wActC_a0 _)) rfl ?_
      refine ol_q (wn_none rfl) (op_eq rfl rfl) rfl ?_
      refine ol_nil_then ?_
      refine cd_cond rfl (fun hb3 => ?_) (fun hb3 => ?_)
      · have hp3 := hb3
        (try simp only [decide_eq_true_eq, decide_eq_false_iff_not, Bool.not_eq_true', Bool.not_eq_false', ne_eq, Decidable.not_not] at hp3)
        refine cd_region ?_   -- 10
        refine ol_q (wn_none rfl) (op_lda 5 ag_66 rfl rfl (by rfl) (by simp)) rfl ?_
        refine ol_q (wn_none rfl) (op_lda (L := wActC _) 0 ag_69 rfl rfl (wActC_ta _) (by simp [wActC_len])) rfl ?_
        refine ol_pull4 ?_
        refine ol_pull4 ?_
        refine ol_pull4 ?_
        refine ol_pull4 ?_
        refine ol_i (wn_none rfl) (os_call cb_41 rfl (fun w s => do_calls _ _ _ _ _ _ _  s hO.le hO.ow)) rfl ?_; rintro _ _ ⟨rfl, rfl⟩
        refine ol_nil ?_
        refine px_blockN ?_
        refine px_then ?_
        refine cd_region ?_   -- 11
        refine ol_q (wn_none rfl) (op_add rfl rfl (by omega) (by omega)) rfl ?_
        refine ol_q (wn_none rfl) (op_move (v := .int _ _) rfl) rfl ?_
        refine ol_nil ?_
        refine px_loop2 (i + 1) (by omega) (by (try dsimp only); omega) ⟨congrArg (Value.int .i64) (by simp), trivial⟩ ?_ (fun _ s => (by (try dsimp only); rw [runA_succ hi1]; unfold stepA; rw [if_pos (by omega)]; exact (s.del 4)))
        repeat (first | exact kept_over | refine kept_upd rfl ?_ | refine kept_overS (by decide) ?_)
      · have hp3 := hb3
        (try simp only [decide_eq_true_eq, decide_eq_false_iff_not, Bool.not_eq_true', Bool.not_eq_false', ne_eq, Decidable.not_not] at hp3)
        refine cd_skip ?_
        refine px_blockN ?_
        refine px_then ?_
        refine cd_region ?_   -- 11
        refine ol_q (wn_none rfl) (op_add rfl rfl (by omega) (by omega)) rfl ?_
        refine ol_q (wn_none rfl) (op_move (v := .int _ _) rfl) rfl ?_
        refine ol_nil ?_
        refine px_loop2 (i + 1) (by omega) (by (try dsimp only); omega) ⟨congrArg (Value.int .i64) (by simp), trivial⟩ ?_ (fun _ s => (by (try dsimp only); rw [runA_succ hi1]; unfold stepA; rw [if_neg (by omega)]; exact (s.del 0)))
        repeat (first | exact kept_over | refine kept_upd rfl ?_ | refine kept_overS (by decide) ?_)
    · have hp2 := hb2
      (try simp only [decide_eq_true_eq, decide_eq_false_iff_not, Bool.not_eq_true', Bool.not_eq_false', ne_eq, Decidable.not_not] at hp2)
      have hF2 := OKW.runA xs
      have hF := hF2.1
      have hie : i = xs.length := by omega
      rw [hie, List.take_length]
      have hw := hF.wf
      have hOl := growO_len hF.le
      have hOk : OwnOK (growO (runA xs).1.nodes.length (runA xs).2) := hF.ow.zeros _
      have hN1 := hw.le
      have hN2 := hw.m2
      have hN0 := hw.ne
      have hrl := roots_len (runA xs).1
      have hrt0 := hF.rt0
      have hOz : ∀ q, oA (growO (runA xs).1.nodes.length (runA xs).2) q = 0 := fun q => by rw [grow_oA, hF2.2, s0_zero]
      refine cd_exit ?_
      refine px_thenE ?_
      refine px_thenE ?_
      refine px_blockE ?_
      refine px_then ?_
      refine cd_sr ?_   -- 12
      refine ol_q (wn_none rfl) (op_field fld_66_1 rfl) rfl ?_
      refine ol_q (wn_none rfl) (op_ld 4 sc_58 rfl rfl rfl) rfl ?_
      refine ol_pull1 ?_
      refine ol_pull1 ?_
      refine ol_i (wn_none rfl) (os_call cb_36 rfl (fun w s => Apply_calls (xs := ([] : List Delta)) _ _ _ _ _ _  s hF.le hF.ow (rds_nil _) (by decide))) rfl ?_; rintro _ _ ⟨rfl, rfl⟩; rw [applyO_nil _ _ hF.ow]; (try dsimp only)
      refine ol_nil_then ?_
      refine cd_seq ?_
      refine cd_sr ?_   -- 13
      refine ol_q (wn_none rfl) (op_field fld_66_0 rfl) rfl ?_
      refine ol_q (wn_none rfl) (op_ld 4 sc_24 rfl rfl rfl) rfl ?_
      refine ol_i (wn_none rfl) (os_call cb_29 rfl (fun w s => Roots_calls _ _  s )) rfl ?_; rintro _ _ ⟨ao5, ac5, rfl, rfl⟩
      refine ol_q (wn_none rfl) (op_len_slice Try.underlying45 rfl) rfl ?_
      refine ol_q (wn_none rfl) (op_move (v := .int _ _) rfl) rfl ?_
      refine ol_nil_then ?_
      refine cd_block ?_
      refine cd_loop2 (α := Nat) [(2, 2), (7, 10), (12, 12), (39, 76)] (fun x => [(39, .int .i64 (x : Int))]) (fun _ => _) (fun x => x ≤ (runA xs).1.roots.length) (fun x => (runA xs).1.roots.length - x) 0 (Nat.zero_le _) ⟨rfl, trivial⟩ (fun _ s => s) ?_
      rintro j hj f; (try dsimp only at hj ⊢)
      refine cd_sr ?_   -- 14
      refine ol_q (wn_none rfl) (op_lt rfl rfl) rfl ?_
      refine ol_nil_then ?_
      refine cd_seq ?_
      refine cd_cond rfl (fun hb4 => ?_) (fun hb4 => ?_)
      · have hp4 := hb4
        (try simp only [decide_eq_true_eq, decide_eq_false_iff_not, Bool.not_eq_true', Bool.not_eq_false', ne_eq, Decidable.not_not] at hp4)
        have hi1 : j < (runA xs).1.nodes.length := by omega
        have hkl := kids_len (runA xs).1 (rtA (runA xs).1.nodes j)
        refine cd_skip ?_
        refine px_then ?_
        refine cd_seq ?_
        refine cd_block ?_
        refine cd_sr ?_   -- 15
        refine ol_q (wn_none rfl) (op_index j sB_45 rfl rfl rfl (rds_row 0 rfl rfl) rfl (by omega)) rfl ?_
        refine ol_q (wn_none rfl) (op_ldaw (L := rootC _) ag_30 (rds_row 0 rfl rfl) rfl (by omega) rfl (rootC_ta _)) rfl ?_
        refine ol_i (wn_none rfl) (os_alloc (cs := (rootC Root.zero).toArray) zB_30 (by kernel_rfl)) rfl ?_; rintro _ _ ⟨bx3, rfl, rfl⟩
        refine ol_iN (wn_none rfl) (os_storera _ ag_30 rfl rfl (Free.zero _)) ?_; rintro _ _ ⟨rfl, rfl⟩
        refine ol_nil_then ?_
        rw [roots_at (t := (runA xs).1) (i := j) (by omega)]
        rcases bestN_rg hw.nd hw.pa (oA (sumL (runA xs).1.nodes (growO (runA xs).1.nodes.length (runA xs).2))) (show (growO (runA xs).1.nodes.length (runA xs).2).length ≤ (runA xs).1.nodes.length by omega) j with hbk | ⟨q, hbk, hkq, hqn, hqp⟩
        ·
          have hR1 : bestR (runA xs).1 (growO (runA xs).1.nodes.length (runA xs).2) (rtA (runA xs).1.nodes j) = (Root.zero, false) := by rw [bestR_at hw hi1 (by omega), hbk]; rfl
          have hkn := kids_none hw (o := (growO (runA xs).1.nodes.length (runA xs).2)) hOl hi1
          rw [hbk] at hkn
          have hl0 := hkn.2 (by decide)
          refine cd_sr ?_   -- 16
          refine ol_q (wn_none rfl) (op_field fld_66_1 rfl) rfl ?_
          refine ol_q (wn_none rfl) (op_ld 6 sc_58 rfl rfl rfl) rfl ?_
          refine ol_q (wn_none rfl) (op_lda (L := rootC _) 0 ag_30 rfl rfl (rootC_take' _) (by simp [rootC_len])) rfl ?_
          refine ol_pull3 ?_
          refine ol_pull3 ?_
          refine ol_i (wn_none rfl) (os_call cb_34 rfl (fun w s => Best_calls _ _ _ _ _  s (by omega))) rfl ?_; rintro _ _ ⟨rfl, rfl⟩; rw [hR1]
          refine ol_q (wn_none rfl) (op_move (v := .tuple _) rfl) rfl ?_
          refine ol_q (wn_none rfl) (op_extract (v := .agg _) rfl rfl) rfl ?_
          refine ol_q (wn_none rfl) (op_extract (v := .bool _) rfl rfl) rfl ?_
          refine ol_i (wn_none rfl) (os_alloc (cs := (rootC Root.zero).toArray) zB_30 (by kernel_rfl)) rfl ?_; rintro _ _ ⟨bx4, rfl, rfl⟩
          refine ol_iN (wn_none rfl) (os_storera _ ag_30 rfl rfl (Free.zero _)) ?_; rintro _ _ ⟨rfl, rfl⟩
          refine ol_q (wn_none rfl) (op_assign (v := .bool _) rfl) rfl ?_
          refine ol_nil_then ?_
          refine cd_sr ?_   -- 17
          refine ol_q (wn_none rfl) (op_field fld_66_0 rfl) rfl ?_
          refine ol_q (wn_none rfl) (op_ld 7 sc_24 rfl rfl rfl) rfl ?_
          refine ol_q (wn_none rfl) (op_lda (L := rootC _) 3 ag_30 rfl rfl (rootC_take' _) (by simp [rootC_len])) rfl ?_
          refine ol_pull1 ?_
          refine ol_i (wn_none rfl) (os_call cb_26 rfl (fun w s => Kids_calls _ _ _  s )) rfl ?_; rintro _ _ ⟨ao7k, ac7k, rfl, rfl⟩
          refine ol_q (wn_none rfl) (op_assign (v := .slice _ _ _) rfl) rfl ?_
          refine ol_nil_then ?_
          refine cd_seq ?_
          refine cd_sr ?_   -- 18
          refine ol_q (wn_none rfl) (op_move (v := .bool _) rfl) rfl ?_
          refine ol_q (wn_none rfl) (op_move (v := .slice _ _ _) rfl) rfl ?_
          refine ol_q (wn_none rfl) (op_len_slice Try.underlying45 rfl) rfl ?_
          refine ol_q (wn_none rfl) (op_gt rfl rfl) rfl ?_
          refine ol_q (wn_none rfl) (op_bneq Try.underlying4 rfl rfl) rfl ?_
          refine ol_q (wn_none rfl) (op_move (v := .bool _) rfl) rfl ?_
          refine ol_split 59 rfl (fun hb5 => ?_) (fun hb5 => ?_)
          · have hp5 := hb5
            (try simp only [decide_eq_true_eq, decide_eq_false_iff_not, Bool.not_eq_true', Bool.not_eq_false', ne_eq, Decidable.not_not] at hp5)
            exact absurd hb5 (by rw [hl0]; simp)
          · have hp5 := hb5
            (try simp only [decide_eq_true_eq, decide_eq_false_iff_not, Bool.not_eq_true', Bool.not_eq_false', ne_eq, Decidable.not_not] at hp5)
            refine ol_q (wn_some rfl rfl rfl hb5 rfl) (op_field fld_66_1 rfl) rfl ?_
            refine ol_q (wn_some rfl rfl rfl hb5 rfl) (op_ld 8 sc_58 rfl rfl rfl) rfl ?_
            refine ol_q (wn_some rfl rfl rfl hb5 rfl) (op_lda (L := rootC _) 4 ag_30 rfl rfl (rootC_take' _) (by simp [rootC_len])) rfl ?_
            refine ol_pull3 ?_
            refine ol_pull2 ?_
            refine ol_i (wn_some rfl rfl rfl hb5 rfl) (os_call cb_38 rfl (fun w s => Weight_calls _ _ _ _ _  s )) rfl ?_; rintro _ _ ⟨rfl, rfl⟩; rw [ofF_rt hw hi1 (by omega), sum_zero hOz]
            refine ol_q (wn_some rfl rfl rfl hb5 rfl) (op_ne rfl rfl) rfl ?_
            refine ol_q (wn_none rfl) (op_pick_f (v := .bool _) rfl hb5 rfl) rfl ?_
            refine ol_nil_then ?_
            refine cd_cond rfl (fun hb6 => ?_) (fun hb6 => ?_)
            · have hp6 := hb6
              (try simp only [decide_eq_true_eq, decide_eq_false_iff_not, Bool.not_eq_true', Bool.not_eq_false', ne_eq, Decidable.not_not] at hp6)
              exact absurd hb6 (by simp)
            · have hp6 := hb6
              (try simp only [decide_eq_true_eq, decide_eq_false_iff_not, Bool.not_eq_true', Bool.not_eq_false', ne_eq, Decidable.not_not] at hp6)
              refine cd_skip ?_
              refine px_then ?_
              refine cd_sr ?_   -- 20
              refine ol_q (wn_none rfl) (op_move (v := .slice _ _ _) rfl) rfl ?_
              refine ol_q (wn_none rfl) (op_len_slice Try.underlying45 rfl) rfl ?_
              refine ol_q (wn_none rfl) (op_move (v := .int _ _) rfl) rfl ?_
              refine ol_nil_then ?_
              refine cd_block ?_
              refine cd_loop2 (α := Nat) [(2, 2), (12, 12), (68, 75)] (fun x => [(68, .int .i64 (x : Int))]) (fun _ => _) (fun x => x ≤ ((runA xs).1.kids (rtA (runA xs).1.nodes j)).length) (fun x => ((runA xs).1.kids (rtA (runA xs).1.nodes j)).length - x) 0 (Nat.zero_le _) ⟨rfl, trivial⟩ (fun _ s => s) ?_
              rintro y hy f; (try dsimp only at hy ⊢)
              refine cd_sr ?_   -- 21
              refine ol_q (wn_none rfl) (op_lt rfl rfl) rfl ?_
              refine ol_nil_then ?_
              refine cd_seq ?_
              refine cd_cond rfl (fun hb7 => ?_) (fun hb7 => ?_)
              · have hp7 := hb7
                (try simp only [decide_eq_true_eq, decide_eq_false_iff_not, Bool.not_eq_true', Bool.not_eq_false', ne_eq, Decidable.not_not] at hp7)
                omega
              · have hp7 := hb7
                (try simp only [decide_eq_true_eq, decide_eq_false_iff_not, Bool.not_eq_true', Bool.not_eq_false', ne_eq, Decidable.not_not] at hp7)
                refine cd_exit ?_
                refine px_thenE ?_
                refine px_thenE ?_
                refine px_blockE ?_
                refine px_blockN ?_
                refine px_then ?_
                refine cd_region ?_   -- 26
                refine ol_q (wn_none rfl) (op_add rfl rfl (by omega) (by omega)) rfl ?_
                refine ol_q (wn_none rfl) (op_move (v := .int _ _) rfl) rfl ?_
                refine ol_nil ?_
                refine px_loop2 (j + 1) (by omega) (by (try dsimp only); omega) ⟨congrArg (Value.int .i64) (by simp), trivial⟩ ?_ (fun _ s => (((((((((s.del 4).del 3).del 2).pull 5).pull 5).pull 5).pull 4).pull 4).pull 5))
                repeat (first | exact kept_over | refine kept_upd rfl ?_ | refine kept_overS (by decide) ?_)
        ·
          have hR1 : bestR (runA xs).1 (growO (runA xs).1.nodes.length (runA xs).2) (rtA (runA xs).1.nodes j) = (rtA (runA xs).1.nodes q, true) := by rw [bestR_at hw hi1 (by omega), hbk]; rfl
          have hkn := kids_none hw (o := (growO (runA xs).1.nodes.length (runA xs).2)) hOl hi1
          rw [hbk] at hkn
          have hl0 : ¬ ((runA xs).1.kids (rtA (runA xs).1.nodes j)).length = 0 := fun h => absurd (hkn.1 h) (by omega)
          refine cd_sr ?_   -- 16
          refine ol_q (wn_none rfl) (op_field fld_66_1 rfl) rfl ?_
          refine ol_q (wn_none rfl) (op_ld 6 sc_58 rfl rfl rfl) rfl ?_
          refine ol_q (wn_none rfl) (op_lda (L := rootC _) 0 ag_30 rfl rfl (rootC_take' _) (by simp [rootC_len])) rfl ?_
          refine ol_pull3 ?_
          refine ol_pull3 ?_
          refine ol_i (wn_none rfl) (os_call cb_34 rfl (fun w s => Best_calls _ _ _ _ _  s (by omega))) rfl ?_; rintro _ _ ⟨rfl, rfl⟩; rw [hR1]
          refine ol_q (wn_none rfl) (op_move (v := .tuple _) rfl) rfl ?_
          refine ol_q (wn_none rfl) (op_extract (v := .agg _) rfl rfl) rfl ?_
          refine ol_q (wn_none rfl) (op_extract (v := .bool _) rfl rfl) rfl ?_
          refine ol_i (wn_none rfl) (os_alloc (cs := (rootC Root.zero).toArray) zB_30 (by kernel_rfl)) rfl ?_; rintro _ _ ⟨bx5, rfl, rfl⟩
          refine ol_iN (wn_none rfl) (os_storera _ ag_30 rfl rfl (Free.zero _)) ?_; rintro _ _ ⟨rfl, rfl⟩
          refine ol_q (wn_none rfl) (op_assign (v := .bool _) rfl) rfl ?_
          refine ol_nil_then ?_
          refine cd_sr ?_   -- 17
          refine ol_q (wn_none rfl) (op_field fld_66_0 rfl) rfl ?_
          refine ol_q (wn_none rfl) (op_ld 7 sc_24 rfl rfl rfl) rfl ?_
          refine ol_q (wn_none rfl) (op_lda (L := rootC _) 3 ag_30 rfl rfl (rootC_take' _) (by simp [rootC_len])) rfl ?_
          refine ol_pull1 ?_
          refine ol_i (wn_none rfl) (os_call cb_26 rfl (fun w s => Kids_calls _ _ _  s )) rfl ?_; rintro _ _ ⟨ao10k, ac10k, rfl, rfl⟩
          refine ol_q (wn_none rfl) (op_assign (v := .slice _ _ _) rfl) rfl ?_
          refine ol_nil_then ?_
          refine cd_seq ?_
          refine cd_sr ?_   -- 18
          refine ol_q (wn_none rfl) (op_move (v := .bool _) rfl) rfl ?_
          refine ol_q (wn_none rfl) (op_move (v := .slice _ _ _) rfl) rfl ?_
          refine ol_q (wn_none rfl) (op_len_slice Try.underlying45 rfl) rfl ?_
          refine ol_q (wn_none rfl) (op_gt rfl rfl) rfl ?_
          refine ol_q (wn_none rfl) (op_bneq Try.underlying4 rfl rfl) rfl ?_
          refine ol_q (wn_none rfl) (op_move (v := .bool _) rfl) rfl ?_
          refine ol_split 59 rfl (fun hb8 => ?_) (fun hb8 => ?_)
          · have hp8 := hb8
            (try simp only [decide_eq_true_eq, decide_eq_false_iff_not, Bool.not_eq_true', Bool.not_eq_false', ne_eq, Decidable.not_not] at hp8)
            exact absurd hb8 (by rw [decide_eq_true (show ((((runA xs).1.kids (rtA (runA xs).1.nodes j)).length : Nat) : Int) > 0 by omega)]; simp)
          · have hp8 := hb8
            (try simp only [decide_eq_true_eq, decide_eq_false_iff_not, Bool.not_eq_true', Bool.not_eq_false', ne_eq, Decidable.not_not] at hp8)
            refine ol_q (wn_some rfl rfl rfl hb8 rfl) (op_field fld_66_1 rfl) rfl ?_
            refine ol_q (wn_some rfl rfl rfl hb8 rfl) (op_ld 8 sc_58 rfl rfl rfl) rfl ?_
            refine ol_q (wn_some rfl rfl rfl hb8 rfl) (op_lda (L := rootC _) 4 ag_30 rfl rfl (rootC_take' _) (by simp [rootC_len])) rfl ?_
            refine ol_pull3 ?_
            refine ol_pull2 ?_
            refine ol_i (wn_some rfl rfl rfl hb8 rfl) (os_call cb_38 rfl (fun w s => Weight_calls _ _ _ _ _  s )) rfl ?_; rintro _ _ ⟨rfl, rfl⟩; rw [ofF_rt hw hi1 (by omega), sum_zero hOz]
            refine ol_q (wn_some rfl rfl rfl hb8 rfl) (op_ne rfl rfl) rfl ?_
            refine ol_q (wn_none rfl) (op_pick_f (v := .bool _) rfl hb8 rfl) rfl ?_
            refine ol_nil_then ?_
            refine cd_cond rfl (fun hb9 => ?_) (fun hb9 => ?_)
            · have hp9 := hb9
              (try simp only [decide_eq_true_eq, decide_eq_false_iff_not, Bool.not_eq_true', Bool.not_eq_false', ne_eq, Decidable.not_not] at hp9)
              exact absurd hb9 (by simp)
            · have hp9 := hb9
              (try simp only [decide_eq_true_eq, decide_eq_false_iff_not, Bool.not_eq_true', Bool.not_eq_false', ne_eq, Decidable.not_not] at hp9)
              refine cd_skip ?_
              refine px_then ?_
              refine cd_sr ?_   -- 20
              refine ol_q (wn_none rfl) (op_move (v := .slice _ _ _) rfl) rfl ?_
              refine ol_q (wn_none rfl) (op_len_slice Try.underlying45 rfl) rfl ?_
              refine ol_q (wn_none rfl) (op_move (v := .int _ _) rfl) rfl ?_
              refine ol_nil_then ?_
              refine cd_block ?_
              refine cd_loop2 (α := Nat) [(2, 2), (12, 12), (68, 75)] (fun x => [(68, .int .i64 (x : Int))]) (fun _ => _) (fun x => x ≤ ((runA xs).1.kids (rtA (runA xs).1.nodes j)).length) (fun x => ((runA xs).1.kids (rtA (runA xs).1.nodes j)).length - x) 0 (Nat.zero_le _) ⟨rfl, trivial⟩ (fun _ s => s) ?_
              rintro y hy f; (try dsimp only at hy ⊢)
              refine cd_sr ?_   -- 21
              refine ol_q (wn_none rfl) (op_lt rfl rfl) rfl ?_
              refine ol_nil_then ?_
              refine cd_seq ?_
              refine cd_cond rfl (fun hb10 => ?_) (fun hb10 => ?_)
              · have hp10 := hb10
                (try simp only [decide_eq_true_eq, decide_eq_false_iff_not, Bool.not_eq_true', Bool.not_eq_false', ne_eq, Decidable.not_not] at hp10)
                obtain ⟨b, hkb, hb1, hb2, hb3⟩ := kid_get hw hi1 (y := y) (by omega)
                obtain ⟨k0, hk0, hk1⟩ := ties hw hOl hOz hb2 hb3
                obtain rfl : k0 = q := by omega
                refine cd_skip ?_
                refine px_then ?_
                refine cd_seq ?_
                refine cd_block ?_
                refine cd_sr ?_   -- 22
                refine ol_q (wn_none rfl) (op_index y sB_45 rfl rfl rfl (rds_row 2 rfl rfl) rfl (by omega)) rfl ?_
                refine ol_q (wn_none rfl) (op_ldaw (L := rootC _) ag_30 (rds_row 2 rfl rfl) rfl (by omega) rfl (rootC_ta _)) rfl ?_
                refine ol_i (wn_none rfl) (os_alloc (cs := (rootC Root.zero).toArray) zB_30 (by kernel_rfl)) rfl ?_; rintro _ _ ⟨bx6, rfl, rfl⟩
                refine ol_iN (wn_none rfl) (os_storera _ ag_30 rfl rfl (Free.zero _)) ?_; rintro _ _ ⟨rfl, rfl⟩
                refine ol_nil_then ?_
                rw [hkb]
                refine cd_sr ?_   -- 23
                refine ol_q (wn_none rfl) (op_lda (L := rootC _) 4 ag_30 rfl rfl (rootC_take' _) (by simp [rootC_len])) rfl ?_
                refine ol_q (wn_none rfl) (op_lda (L := rootC _) 0 ag_30 rfl rfl (rootC_take' _) (by simp [rootC_len])) rfl ?_
                refine ol_i (wn_none rfl) (os_call cb_46 rfl (fun w s => RLess_calls _ _  s )) rfl ?_; rintro _ l ⟨rfl, rfl⟩
                refine ol_nil_then ?_
                refine cd_cond rfl (fun hb11 => ?_) (fun hb11 => ?_)
                · have hp11 := hb11
                  (try simp only [decide_eq_true_eq, decide_eq_false_iff_not, Bool.not_eq_true', Bool.not_eq_false', ne_eq, Decidable.not_not] at hp11)
                  exact absurd hb11 (by rw [hk1]; simp)
                · have hp11 := hb11
                  (try simp only [decide_eq_true_eq, decide_eq_false_iff_not, Bool.not_eq_true', Bool.not_eq_false', ne_eq, Decidable.not_not] at hp11)
                  refine cd_skip ?_
                  refine px_blockN ?_
                  refine px_then ?_
                  refine cd_region ?_   -- 25
                  refine ol_q (wn_none rfl) (op_add rfl rfl (by omega) (by omega)) rfl ?_
                  refine ol_q (wn_none rfl) (op_move (v := .int _ _) rfl) rfl ?_
                  refine ol_nil ?_
                  refine px_loop2 (y + 1) (by omega) (by (try dsimp only); omega) ⟨congrArg (Value.int .i64) (by simp), trivial⟩ ?_ (fun _ s => (s.del 0))
                  repeat (first | exact kept_over | refine kept_upd rfl ?_ | refine kept_overS (by decide) ?_)
              · have hp10 := hb10
                (try simp only [decide_eq_true_eq, decide_eq_false_iff_not, Bool.not_eq_true', Bool.not_eq_false', ne_eq, Decidable.not_not] at hp10)
                refine cd_exit ?_
                refine px_thenE ?_
                refine px_thenE ?_
                refine px_blockE ?_
                refine px_blockN ?_
                refine px_then ?_
                refine cd_region ?_   -- 26
                refine ol_q (wn_none rfl) (op_add rfl rfl (by omega) (by omega)) rfl ?_
                refine ol_q (wn_none rfl) (op_move (v := .int _ _) rfl) rfl ?_
                refine ol_nil ?_
                refine px_loop2 (j + 1) (by omega) (by (try dsimp only); omega) ⟨congrArg (Value.int .i64) (by simp), trivial⟩ ?_ (fun _ s => (((((((((s.del 4).del 3).del 2).pull 5).pull 5).pull 5).pull 4).pull 4).pull 5))
                repeat (first | exact kept_over | refine kept_upd rfl ?_ | refine kept_overS (by decide) ?_)
      · have hp4 := hb4
        (try simp only [decide_eq_true_eq, decide_eq_false_iff_not, Bool.not_eq_true', Bool.not_eq_false', ne_eq, Decidable.not_not] at hp4)
        refine cd_exit ?_
        refine px_thenE ?_
        refine px_thenE ?_
        refine px_blockE ?_
        refine px_then ?_
        refine cd_sr ?_   -- 27
        refine ol_q (wn_none rfl) (op_assign (v := .bool _) rfl) rfl ?_
        refine ol_nil_then ?_
        refine cd_ret ?_
        exact px_ret1 rfl (v := .bool _) rfl (fun _ s => ((((((s.del 5).del 4).del 3).del 2).del 1).del 0)) ⟨congrArg Value.bool (rfl), rfl⟩
end Go.SL

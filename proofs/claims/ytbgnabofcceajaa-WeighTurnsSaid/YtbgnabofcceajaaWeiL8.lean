import Derived.Test.YtbgnabofcceajaaWeiL4
set_option linter.unusedVariables false
set_option linter.unusedSimpArgs false
namespace Go.SL
open Go.Proofs

set_option maxRecDepth 100000 in
set_option maxHeartbeats 1000000 in
theorem WeighTurns_calls {w0 w : World} {l : List HProp} (lo : Option Addr) (lc : Nat) (xs : List WAct) (ha : Option Addr) (hc : Nat) (ats : List Int) (ma : Option Addr) (mc : Nat) (mo : List Int) (hs : Sat w0 w (l)) (hr : Rds w0 l encWAct lo xs) (hq : ∀ a ∈ xs, I64 a.kind ∧ I64 a.root ∧ I64 a.parent ∧ I64 a.slot ∧ I64 a.n ∧ I64 a.more) (hra : Rds w0 l encI64 ha ats) (hqa : ∀ a ∈ ats, I64 a) (hrm : Rds w0 l encI64 ma mo) (hqm : ∀ a ∈ mo, I64 a) :
    Calls Try.prog 10 #[.slice lo xs.length lc, .slice ha ats.length hc, .slice ma mo.length mc] w (Ret w0 fun v l' => v = .bool true ∧ l' = l) := by
  refine calls_enter Try.func10 rfl rfl rfl hs ?_
  refine cd_sr ?_   -- 0
  refine ol_q (wn_none rfl) (op_assign (v := .bool _) rfl) rfl ?_
  refine ol_nil_then ?_
  refine cd_seq ?_
  refine cd_sr ?_   -- 1
  refine ol_i (wn_none rfl) (os_call cb_33 rfl (fun w s => wlAlive_calls  s )) rfl ?_; rintro _ l ⟨rfl, rfl⟩
  refine ol_q (wn_none rfl) (op_not rfl) rfl ?_
  refine ol_nil_then ?_
  refine cd_cond_f rfl rfl ?_
  refine cd_skip ?_
  refine px_then ?_
  refine cd_seq ?_
  refine cd_sr ?_   -- 3
  refine ol_q (wn_none rfl) (op_move (v := .slice _ _ _) rfl) rfl ?_
  refine ol_q (wn_none rfl) (op_len_slice Try.underlying57 rfl) rfl ?_
  refine ol_q (wn_none rfl) (op_gt rfl rfl) rfl ?_
  refine ol_q (wn_none rfl) (op_move (v := .bool _) rfl) rfl ?_
  refine ol_split 23 rfl (fun hb1 => ?_) (fun hb1 => ?_)
  · have hp1 := hb1
    (try simp only [decide_eq_true_eq, decide_eq_false_iff_not, Bool.not_eq_true', Bool.not_eq_false', ne_eq, Decidable.not_not] at hp1)
    refine ol_skip (wn_some rfl rfl rfl hb1 rfl) rfl ?_
    refine ol_skip (wn_some rfl rfl rfl hb1 rfl) rfl ?_
    refine ol_skip (wn_some rfl rfl rfl hb1 rfl) rfl ?_
    refine ol_q (wn_none rfl) (op_pick_t (v := .bool _) rfl hb1 rfl) rfl ?_
    refine ol_q (wn_none rfl) (op_move (v := .bool _) rfl) rfl ?_
    refine ol_skip (wn_some rfl rfl rfl rfl rfl) rfl ?_
    refine ol_skip (wn_some rfl rfl rfl rfl rfl) rfl ?_
    refine ol_skip (wn_some rfl rfl rfl rfl rfl) rfl ?_
    refine ol_skip (wn_some rfl rfl rfl rfl rfl) rfl ?_
    refine ol_skip (wn_some rfl rfl rfl rfl rfl) rfl ?_
    refine ol_q (wn_none rfl) (op_pick_t (v := .bool _) rfl rfl rfl) rfl ?_
    refine ol_nil_then ?_
    refine cd_cond_t rfl rfl ?_
    refine cd_sr ?_   -- 4
    refine ol_q (wn_none rfl) (op_assign (v := .bool _) rfl) rfl ?_
    refine ol_nil_then ?_
    refine cd_ret ?_
    refine px_thenR ?_
    exact px_ret1 rfl (v := .bool _) rfl (fun _ s => s) ⟨congrArg Value.bool (rfl), rfl⟩
  · have hp1 := hb1
    (try simp only [decide_eq_true_eq, decide_eq_false_iff_not, Bool.not_eq_true', Bool.not_eq_false', ne_eq, Decidable.not_not] at hp1)
    refine ol_q (wn_some rfl rfl rfl hb1 rfl) (op_move (v := .slice _ _ _) rfl) rfl ?_
    refine ol_q (wn_some rfl rfl rfl hb1 rfl) (op_len_slice Try.underlying71 rfl) rfl ?_
    refine ol_q (wn_some rfl rfl rfl hb1 rfl) (op_gt rfl rfl) rfl ?_
    refine ol_q (wn_none rfl) (op_pick_f (v := .bool _) rfl hb1 rfl) rfl ?_
    refine ol_q (wn_none rfl) (op_move (v := .bool _) rfl) rfl ?_
    refine ol_split 28 rfl (fun hb2 => ?_) (fun hb2 => ?_)
    · have hp2 := hb2
      (try simp only [decide_eq_true_eq, decide_eq_false_iff_not, Bool.not_eq_true', Bool.not_eq_false', ne_eq, Decidable.not_not] at hp2)
      refine ol_skip (wn_some rfl rfl rfl hb2 rfl) rfl ?_
      refine ol_skip (wn_some rfl rfl rfl hb2 rfl) rfl ?_
      refine ol_skip (wn_some rfl rfl rfl hb2 rfl) rfl ?_
      refine ol_skip (wn_some rfl rfl rfl hb2 rfl) rfl ?_
      refine ol_skip (wn_some rfl rfl rfl hb2 rfl) rfl ?_
      refine ol_q (wn_none rfl) (op_pick_t (v := .bool _) rfl hb2 rfl) rfl ?_
      refine ol_nil_then ?_
      refine cd_cond_t rfl rfl ?_
      refine cd_sr ?_   -- 4
      refine ol_q (wn_none rfl) (op_assign (v := .bool _) rfl) rfl ?_
      refine ol_nil_then ?_
      refine cd_ret ?_
      refine px_thenR ?_
      exact px_ret1 rfl (v := .bool _) rfl (fun _ s => s) ⟨congrArg Value.bool (rfl), rfl⟩
    · have hp2 := hb2
      (try simp only [decide_eq_true_eq, decide_eq_false_iff_not, Bool.not_eq_true', Bool.not_eq_false', ne_eq, Decidable.not_not] at hp2)
      refine ol_q (wn_some rfl rfl rfl hb2 rfl) (op_move (v := .slice _ _ _) rfl) rfl ?_
      refine ol_q (wn_some rfl rfl rfl hb2 rfl) (op_len_slice Try.underlying71 rfl) rfl ?_
      refine ol_q (wn_some rfl rfl rfl hb2 rfl) (op_move (v := .slice _ _ _) rfl) rfl ?_
      refine ol_q (wn_some rfl rfl rfl hb2 rfl) (op_len_slice Try.underlying71 rfl) rfl ?_
      refine ol_q (wn_some rfl rfl rfl hb2 rfl) (op_ne rfl rfl) rfl ?_
      refine ol_q (wn_none rfl) (op_pick_f (v := .bool _) rfl hb2 rfl) rfl ?_
      refine ol_nil_then ?_
      refine cd_cond rfl (fun hb3 => ?_) (fun hb3 => ?_)
      · have hp3 := hb3
        (try simp only [decide_eq_true_eq, decide_eq_false_iff_not, Bool.not_eq_true', Bool.not_eq_false', ne_eq, Decidable.not_not] at hp3)
        refine cd_sr ?_   -- 4
        refine ol_q (wn_none rfl) (op_assign (v := .bool _) rfl) rfl ?_
        refine ol_nil_then ?_
        refine cd_ret ?_
        refine px_thenR ?_
        exact px_ret1 rfl (v := .bool _) rfl (fun _ s => s) ⟨congrArg Value.bool (rfl), rfl⟩
      · have hp3 := hb3
        (try simp only [decide_eq_true_eq, decide_eq_false_iff_not, Bool.not_eq_true', Bool.not_eq_false', ne_eq, Decidable.not_not] at hp3)
        refine cd_skip ?_
        refine px_then ?_
        refine cd_sr ?_   -- 5
        refine ol_i (wn_none rfl) (os_call cb_40 rfl (fun w s => begun_calls  s )) rfl ?_; rintro _ _ ⟨pt2, pw2, pr2, pm2, rfl, rfl⟩
        refine ol_i (wn_none rfl) (os_call cb_40 rfl (fun w s => begun_calls  s )) rfl ?_; rintro _ _ ⟨pt3, pw3, pr3, pm3, rfl, rfl⟩
        refine ol_i (wn_none rfl) (os_alloc zB_66 rfl) rfl ?_; rintro _ _ ⟨bx1, rfl, rfl⟩
        refine ol_i (wn_none rfl) (os_alloc zB_66 rfl) rfl ?_; rintro _ _ ⟨bx2, rfl, rfl⟩
        refine ol_pull1 ?_
        refine ol_iN (wn_none rfl) (os_storea (L' := [_, _, _]) ag_66 rfl rfl rfl (by simp [Value.oneCell']) rfl (Free.zero _) rfl) ?_; rintro _ _ ⟨rfl, rfl⟩
        refine ol_pull1 ?_
        refine ol_iN (wn_none rfl) (os_storea (L' := [_, _, _]) ag_66 rfl rfl rfl (by simp [Value.oneCell']) rfl (Free.zero _) rfl) ?_; rintro _ _ ⟨rfl, rfl⟩
        refine ol_nil_then ?_
        refine cd_seq ?_
        refine cd_sr ?_   -- 6
        refine ol_q (wn_none rfl) (op_move (v := .slice _ _ _) rfl) rfl ?_
        refine ol_q (wn_none rfl) (op_len_slice Try.underlying57 rfl) rfl ?_
        refine ol_q (wn_none rfl) (op_move (v := .int _ _) rfl) rfl ?_
        refine ol_nil_then ?_
        refine cd_block ?_
        refine cd_pull5 ?_
        refine cd_pull5 ?_
        refine cd_pull5 ?_
        refine cd_pull5 ?_
        refine cd_pull9 ?_
        refine cd_pull9 ?_
        refine cd_pull9 ?_
        refine cd_pull9 ?_
        refine cd_loop2 (α := Nat) [(10, 10), (39, 50)] (fun x => [(39, .int .i64 (x : Int))]) (fun x => TreeObj pt2 (runZ (xs.take x)).1 :: WObj pw2 pt2 (runZ (xs.take x)).1.nodes (runZ (xs.take x)).2 :: RTreeObj pr2 (runZ (xs.take x)).1 :: RWObj pm2 pr2 (runZ (xs.take x)).2 :: TreeObj pt3 (runZ (xs.take x)).1 :: WObj pw3 pt3 (runZ (xs.take x)).1.nodes (runZ (xs.take x)).2 :: RTreeObj pr3 (runZ (xs.take x)).1 :: RWObj pm3 pr3 (runZ (xs.take x)).2 :: _) (fun x => x ≤ xs.length) (fun x => xs.length - x) 0 (Nat.zero_le _) ⟨rfl, trivial⟩ (fun _ s => by (try dsimp only); rw [List.take_zero]; exact s) ?_
        rintro i hi f; (try dsimp only at hi ⊢)
        have hO := (OKW.runZ (xs.take i)).1
        refine cd_sr ?_   -- 7
        refine ol_q (wn_none rfl) (op_lt rfl rfl) rfl ?_
        refine ol_nil_then ?_
        refine cd_seq ?_
        refine cd_cond rfl (fun hb4 => ?_) (fun hb4 => ?_)
        · have hp4 := hb4
          (try simp only [decide_eq_true_eq, decide_eq_false_iff_not, Bool.not_eq_true', Bool.not_eq_false', ne_eq, Decidable.not_not] at hp4)
          have hi1 : i < xs.length := by omega
          have hO2 := (hO.step { xs[i] with kind := 0 })
          refine cd_skip ?_
          refine px_then ?_
          refine cd_seq ?_
          refine cd_block ?_
          refine cd_sr ?_   -- 8
          refine ol_q (wn_none rfl) (op_index i sB_57 rfl rfl rfl ((((((((((hr.cons _).cons _).cons _).cons _).cons _).cons _).cons _).cons _).cons _).cons _) rfl (by omega)) rfl ?_
          refine ol_q (wn_none rfl) (op_ldaw (L := wActC _) ag_69 ((((((((((hr.cons _).cons _).cons _).cons _).cons _).cons _).cons _).cons _).cons _).cons _) rfl (by omega) rfl (wActC_ta _)) rfl ?_
          refine ol_i (wn_none rfl) (os_alloc (cs := (wActC WAct.zero).toArray) zB_69 (by kernel_rfl)) rfl ?_; rintro _ _ ⟨bx3, rfl, rfl⟩
          refine ol_iN (wn_none rfl) (os_storew (wActC _) ag_69 rfl rfl (wActC_len _) (wActC_one _) (by simp [wActC_len]) (Free.zero _)) ?_; rintro _ _ ⟨rfl, rfl⟩
          refine ol_nil_then ?_
          refine cd_sr ?_   -- 9
          refine ol_q (wn_none rfl) (op_field fld_69_0 rfl) rfl ?_
          refine ol_iN (wn_none rfl) (os_store (v := .int _ _) sc_3 rfl rfl rfl (by simp [wActC_len]) (Free.zero _) (wActC_s0 _ _)) ?_; rintro _ _ ⟨rfl, rfl⟩
          refine ol_nil_then ?_
          refine cd_sr ?_   -- 10
          refine ol_q (wn_none rfl) (op_lda 10 ag_66 rfl rfl (by rfl) (by simp)) rfl ?_
          refine ol_q (wn_none rfl) (op_lda (L := wActC _) 0 ag_69 rfl rfl (wActC_ta _) (by simp [wActC_len])) rfl ?_
          refine ol_pull4 ?_
          refine ol_pull4 ?_
          refine ol_pull4 ?_
          refine ol_pull4 ?_
          refine ol_i (wn_none rfl) (os_call cb_41 rfl (fun w s => do_calls _ _ _ _ _ _ _  s hO.le hO.ow)) rfl ?_; rintro _ _ ⟨rfl, rfl⟩
          refine ol_nil_then ?_
          refine cd_region ?_   -- 11
          refine ol_q (wn_none rfl) (op_lda 9 ag_66 rfl rfl (by rfl) (by simp)) rfl ?_
          refine ol_q (wn_none rfl) (op_lda (L := wActC _) 4 ag_69 rfl rfl (wActC_ta _) (by simp [wActC_len])) rfl ?_
          refine ol_pull8 ?_
          refine ol_pull8 ?_
          refine ol_pull8 ?_
          refine ol_pull8 ?_
          refine ol_i (wn_none rfl) (os_call cb_41 rfl (fun w s => do_calls _ _ _ _ _ _ _  s hO.le hO.ow)) rfl ?_; rintro _ _ ⟨rfl, rfl⟩
          refine ol_nil ?_
          refine px_blockN ?_
          refine px_then ?_
          refine cd_region ?_   -- 12
          refine ol_q (wn_none rfl) (op_add rfl rfl (by omega) (by omega)) rfl ?_
          refine ol_q (wn_none rfl) (op_move (v := .int _ _) rfl) rfl ?_
          refine ol_nil ?_
          refine px_loop2 (i + 1) (by omega) (by (try dsimp only); omega) ⟨congrArg (Value.int .i64) (by simp), trivial⟩ ?_ (fun _ s => (by (try dsimp only); rw [runZ_succ hi1]; exact (((((((((((s.del 8).pull 9).pull 9).pull 5).pull 5).pull 5).pull 5).pull 9).pull 9).pull 9).pull 9)))
          repeat (first | exact kept_over | refine kept_upd rfl ?_ | refine kept_overS (by decide) ?_)
        · have hp4 := hb4
          (try simp only [decide_eq_true_eq, decide_eq_false_iff_not, Bool.not_eq_true', Bool.not_eq_false', ne_eq, Decidable.not_not] at hp4)
          have hF2 := OKW.runZ xs
          have hF := hF2.1
          have hie : i = xs.length := by omega
          rw [hie, List.take_length]
          have hw := hF.wf
          have hOl := growO_len hF.le
          have hOk : OwnOK (growO (runZ xs).1.nodes.length (runZ xs).2) := hF.ow.zeros _
          have hN1 := hw.le
          have hN2 := hw.m2
          have hN0 := hw.ne
          have hrl := roots_len (runZ xs).1
          have hrt0 := hF.rt0
          have s0t : tot (growO (runZ xs).1.nodes.length (runZ xs).2) = 0 := by rw [hF2.2]; exact s0_tot
          refine cd_exit ?_
          refine px_thenE ?_
          refine px_thenE ?_
          refine px_blockE ?_
          refine px_then ?_
          refine cd_sr ?_   -- 13
          refine ol_q (wn_none rfl) (op_field fld_66_0 rfl) rfl ?_
          refine ol_q (wn_none rfl) (op_ld 9 sc_24 rfl rfl rfl) rfl ?_
          refine ol_i (wn_none rfl) (os_call cb_29 rfl (fun w s => Roots_calls _ _  s )) rfl ?_; rintro _ _ ⟨ao6, ac6, rfl, rfl⟩
          refine ol_q (wn_none rfl) (op_assign (v := .slice _ _ _) rfl) rfl ?_
          refine ol_nil_then ?_
          refine cd_seq ?_
          refine cd_sr ?_   -- 14
          refine ol_q (wn_none rfl) (op_move (v := .slice _ _ _) rfl) rfl ?_
          refine ol_q (wn_none rfl) (op_len_slice Try.underlying45 rfl) rfl ?_
          refine ol_q (wn_none rfl) (op_eq rfl rfl) rfl ?_
          refine ol_nil_then ?_
          refine cd_cond rfl (fun hb5 => ?_) (fun hb5 => ?_)
          · have hp5 := hb5
            (try simp only [decide_eq_true_eq, decide_eq_false_iff_not, Bool.not_eq_true', Bool.not_eq_false', ne_eq, Decidable.not_not] at hp5)
            omega
          · have hp5 := hb5
            (try simp only [decide_eq_true_eq, decide_eq_false_iff_not, Bool.not_eq_true', Bool.not_eq_false', ne_eq, Decidable.not_not] at hp5)
            refine cd_skip ?_
            refine px_then ?_
            refine cd_sr ?_   -- 16
            refine ol_q (wn_none rfl) (op_assign (v := .slice _ _ _) rfl) rfl ?_
            refine ol_nil_then ?_
            refine cd_seq ?_
            refine cd_sr ?_   -- 17
            refine ol_q (wn_none rfl) (op_move (v := .slice _ _ _) rfl) rfl ?_
            refine ol_q (wn_none rfl) (op_len_slice Try.underlying71 rfl) rfl ?_
            refine ol_q (wn_none rfl) (op_move (v := .int _ _) rfl) rfl ?_
            refine ol_nil_then ?_
            refine cd_block ?_
            refine cd_imp (fun _ s => Sat.rowNil (E := encDelta) (e := 80) s) ?_
            refine cd_loop2 (α := Nat × Option Addr × Nat) [(6, 6), (12, 14), (59, 88)] (fun x => [(12, .slice x.2.1 ((pl (runZ xs).1.nodes.length ats mo x.1).reverse.map (toD (runZ xs).1.nodes)).length x.2.2), (59, .int .i64 (x.1 : Int))]) (fun x => Row 80 encDelta (.slice x.2.1 ((pl (runZ xs).1.nodes.length ats mo x.1).reverse.map (toD (runZ xs).1.nodes)).length x.2.2) ((pl (runZ xs).1.nodes.length ats mo x.1).reverse.map (toD (runZ xs).1.nodes)) :: _) (fun x => x.1 ≤ mo.length ∧ ∀ q, q < x.1 → 0 ≤ oA mo q ∧ oA mo q ≤ 1099511627776) (fun x => mo.length - x.1) (0, none, 0) ⟨Nat.zero_le _, fun q h => absurd h (Nat.not_lt_zero _)⟩ ⟨rfl, rfl, trivial⟩ (fun _ s => s) ?_
            rintro ⟨j, b1, d1⟩ ⟨hj, hjs⟩ f; (try dsimp only at hj hjs ⊢)
            refine cd_sr ?_   -- 18
            refine ol_q (wn_none rfl) (op_lt rfl rfl) rfl ?_
            refine ol_nil_then ?_
            refine cd_seq ?_
            refine cd_cond rfl (fun hb6 => ?_) (fun hb6 => ?_)
            · have hp6 := hb6
              (try simp only [decide_eq_true_eq, decide_eq_false_iff_not, Bool.not_eq_true', Bool.not_eq_false', ne_eq, Decidable.not_not] at hp6)
              have hj1 : j < mo.length := by omega
              refine cd_skip ?_
              refine px_then ?_
              refine cd_seq ?_
              refine cd_block ?_
              refine cd_sr ?_   -- 19
              refine ol_q (wn_none rfl) (op_move (v := .int _ _) rfl) rfl ?_
              refine ol_q (wn_none rfl) (op_index j sB_71 rfl rfl rfl ((((((((((((hrm.cons _).cons _).cons _).cons _).cons _).cons _).cons _).cons _).cons _).cons _).cons _).cons _) rfl (by omega)) rfl ?_
              refine ol_q (wn_none rfl) (op_ldw sc_3 ((((((((((((hrm.cons _).cons _).cons _).cons _).cons _).cons _).cons _).cons _).cons _).cons _).cons _).cons _) rfl (by omega) rfl) rfl ?_
              refine ol_q (wn_none rfl) (op_assign (v := .int _ _) rfl) rfl ?_
              refine ol_q (wn_none rfl) (op_assign (v := .int _ _) rfl) rfl ?_
              refine ol_nil_then ?_
              refine cd_seq ?_
              refine cd_sr ?_   -- 20
              refine ol_q (wn_none rfl) (op_move (v := .int _ _) rfl) rfl ?_
              refine ol_q (wn_none rfl) (op_lt rfl rfl) rfl ?_
              refine ol_q (wn_none rfl) (op_move (v := .bool _) rfl) rfl ?_
              refine ol_split 66 rfl (fun hb7 => ?_) (fun hb7 => ?_)
              · have hp7 := hb7
                (try simp only [decide_eq_true_eq, decide_eq_false_iff_not, Bool.not_eq_true', Bool.not_eq_false', ne_eq, Decidable.not_not] at hp7)
                refine ol_skip (wn_some rfl rfl rfl hb7 rfl) rfl ?_
                refine ol_skip (wn_some rfl rfl rfl hb7 rfl) rfl ?_
                refine ol_q (wn_none rfl) (op_pick_t (v := .bool _) rfl hb7 rfl) rfl ?_
                refine ol_nil_then ?_
                refine cd_cond_t rfl rfl ?_
                refine cd_sr ?_   -- 21
                refine ol_q (wn_none rfl) (op_assign (v := .bool _) rfl) rfl ?_
                refine ol_nil_then ?_
                refine cd_ret ?_
                refine px_thenR ?_
                refine px_blockR ?_
                refine px_thenR ?_
                refine px_thenR ?_
                refine px_blockR ?_
                refine px_thenR ?_
                exact px_ret1 rfl (v := .bool _) rfl (fun _ s => ((((((((((((s.del 11).del 10).del 9).del 8).del 7).del 6).del 5).del 4).del 3).del 2).del 1).del 0)) ⟨congrArg Value.bool (rfl), rfl⟩
              · have hp7 := hb7
                (try simp only [decide_eq_true_eq, decide_eq_false_iff_not, Bool.not_eq_true', Bool.not_eq_false', ne_eq, Decidable.not_not] at hp7)
                refine ol_q (wn_some rfl rfl rfl hb7 rfl) (op_move (v := .int _ _) rfl) rfl ?_
                refine ol_q (wn_some rfl rfl rfl hb7 rfl) (op_gt rfl rfl) rfl ?_
                refine ol_q (wn_none rfl) (op_pick_f (v := .bool _) rfl hb7 rfl) rfl ?_
                refine ol_nil_then ?_
                refine cd_cond rfl (fun hb8 => ?_) (fun hb8 => ?_)
                · have hp8 := hb8
                  (try simp only [decide_eq_true_eq, decide_eq_false_iff_not, Bool.not_eq_true', Bool.not_eq_false', ne_eq, Decidable.not_not] at hp8)
                  refine cd_sr ?_   -- 21
                  refine ol_q (wn_none rfl) (op_assign (v := .bool _) rfl) rfl ?_
                  refine ol_nil_then ?_
                  refine cd_ret ?_
                  refine px_thenR ?_
                  refine px_blockR ?_
                  refine px_thenR ?_
                  refine px_thenR ?_
                  refine px_blockR ?_
                  refine px_thenR ?_
                  exact px_ret1 rfl (v := .bool _) rfl (fun _ s => ((((((((((((s.del 11).del 10).del 9).del 8).del 7).del 6).del 5).del 4).del 3).del 2).del 1).del 0)) ⟨congrArg Value.bool (rfl), rfl⟩
                · have hp8 := hb8
                  (try simp only [decide_eq_true_eq, decide_eq_false_iff_not, Bool.not_eq_true', Bool.not_eq_false', ne_eq, Decidable.not_not] at hp8)
                  refine cd_skip ?_
                  refine px_then ?_
                  refine cd_region ?_   -- 22
                  refine ol_q (wn_none rfl) (op_move (v := .slice _ _ _) rfl) rfl ?_
                  refine ol_q (wn_none rfl) (op_move (v := .slice _ _ _) rfl) rfl ?_
                  refine ol_q (wn_none rfl) (op_move (v := .int _ _) rfl) rfl ?_
                  refine ol_q (wn_none rfl) (op_index j sB_71 rfl rfl rfl ((((((((((((hra.cons _).cons _).cons _).cons _).cons _).cons _).cons _).cons _).cons _).cons _).cons _).cons _) rfl (by omega)) rfl ?_
                  refine ol_q (wn_none rfl) (op_ldw sc_3 ((((((((((((hra.cons _).cons _).cons _).cons _).cons _).cons _).cons _).cons _).cons _).cons _).cons _).cons _) rfl (by omega) rfl) rfl ?_
                  refine ol_q (wn_none rfl) (op_conv64i Try.underlying78 (by rw [Try.underlying3]; rfl) rfl) rfl ?_
                  refine ol_q (wn_none rfl) (op_move (v := .slice _ _ _) rfl) rfl ?_
                  refine ol_q (wn_none rfl) (op_len_slice Try.underlying45 rfl) rfl ?_
                  refine ol_q (wn_none rfl) (op_conv64 Try.underlying78 (by rw [Try.underlying3]; rfl) rfl (by omega)) rfl ?_
                  refine ol_q (wn_none rfl) (op_remn rfl rfl (by omega)) rfl ?_
                  refine ol_q (wn_none rfl) (op_convint Try.underlying3 (by rw [Try.underlying78]; rfl) rfl (Nat.lt_of_lt_of_le (Nat.mod_lt _ (by omega)) (by omega))) rfl ?_
                  refine ol_q (wn_none rfl) (op_index _ sB_45 rfl rfl rfl (rds_row 1 rfl rfl) rfl (Nat.mod_lt _ (by omega))) rfl ?_
                  refine ol_q (wn_none rfl) (op_ldaw (L := rootC _) ag_30 (rds_row 1 rfl rfl) rfl (Nat.mod_lt _ (by omega)) rfl (rootC_ta _)) rfl ?_
                  refine ol_q (wn_none rfl) (op_move (v := .int _ _) rfl) rfl ?_
                  refine ol_q (wn_none rfl) (op_build (L := deltaC _) (vs := [(0, .agg (rootC _).toArray), (1, .int _ _)]) bB_80 rfl ⟨⟨by simp [Value.cells, rootC_len], by rw [deltaC_len]; rfl⟩, ⟨rfl, by rw [deltaC_len]; rfl⟩, trivial⟩ ((deltaC_b0 _ _ _).trans ((deltaC_b1 _ _ _).trans rfl))) rfl ?_
                  refine ol_i (wn_none rfl) (os_bslice (E := encDelta) [_] (ys := [_]) sB_77 zv_80 rfl rfl rfl rfl (by decide)) rfl ?_; rintro _ _ ⟨ao1, rfl, rfl⟩; rw [roots_at (Nat.mod_lt _ (by omega)), show (⟨rtA (runZ xs).1.nodes (u64N ats[j] % (runZ xs).1.roots.length), mo[j]⟩ : Delta) = toD (runZ xs).1.nodes (u64N (oA ats j) % (runZ xs).1.nodes.length, oA mo j) from by rw [oA_get (show j < ats.length by omega), oA_get hj1, hrl]; rfl]
                  refine ol_q (wn_none rfl) (op_move (v := .slice _ _ _) rfl) rfl ?_
                  refine ol_i (wn_none rfl) (os_append (E := encDelta) rfl sB_77 zv_80 rfl rfl rfl (fun w s => (rds_row 1 rfl rfl) [] w s) rfl (by simp; have := pl_len (runZ xs).1.nodes.length ats mo j; omega) (by unfold maxLen; simp; have := pl_len (runZ xs).1.nodes.length ats mo j; omega)) rfl ?_; rintro _ _ ⟨ao2, ac2, rfl, rfl⟩
                  refine ol_q (wn_none rfl) (op_assign (v := .slice _ _ _) rfl) rfl ?_
                  refine ol_nil ?_
                  refine px_blockN ?_
                  refine px_then ?_
                  refine cd_region ?_   -- 23
                  refine ol_q (wn_none rfl) (op_add rfl rfl (by omega) (by omega)) rfl ?_
                  refine ol_q (wn_none rfl) (op_move (v := .int _ _) rfl) rfl ?_
                  refine ol_nil ?_
                  have eL : [toD (runZ xs).1.nodes (u64N (oA ats j) % (runZ xs).1.nodes.length, oA mo j)] ++ ((pl (runZ xs).1.nodes.length ats mo j).reverse.map (toD (runZ xs).1.nodes)) = ((pl (runZ xs).1.nodes.length ats mo (j + 1)).reverse.map (toD (runZ xs).1.nodes)) := by rw [pl_succ, List.reverse_append, List.map_append]; rfl
                  refine px_loop2 (j + 1, ao2, ac2) ⟨by dsimp only; omega, fun q hq => by rcases Nat.lt_succ_iff_lt_or_eq.1 hq with h | h; exact hjs q h; subst h; rw [oA_get hj1]; omega⟩ (by (try dsimp only); omega) ⟨congrArg (fun q => Value.slice ao2 (List.length q) ac2) eL, congrArg (Value.int .i64) (by simp), trivial⟩ ?_ (fun _ s => by (try dsimp only); rw [← eL]; exact (s.del 1))
                  repeat (first | exact kept_over | refine kept_upd rfl ?_ | refine kept_overS (by decide) ?_)
            · have hp6 := hb6
              (try simp only [decide_eq_true_eq, decide_eq_false_iff_not, Bool.not_eq_true', Bool.not_eq_false', ne_eq, Decidable.not_not] at hp6)
              have hje : j = mo.length := by omega
              rw [hje] at hjs ⊢
              have hLl : ((pl (runZ xs).1.nodes.length ats mo mo.length).reverse.map (toD (runZ xs).1.nodes)).length = mo.length := by simp [pl_len]
              refine cd_exit ?_
              refine px_thenE ?_
              refine px_thenE ?_
              refine px_blockE ?_
              refine px_then ?_
              refine cd_seq ?_
              refine cd_sr ?_   -- 24
              refine ol_q (wn_none rfl) (op_field fld_66_1 rfl) rfl ?_
              refine ol_q (wn_none rfl) (op_ld 10 sc_58 rfl rfl rfl) rfl ?_
              refine ol_q (wn_none rfl) (op_move (v := .slice _ _ _) rfl) rfl ?_
              refine ol_pull7 ?_
              refine ol_pull7 ?_
              refine ol_i (wn_none rfl) (os_call cb_36 rfl (fun w s => Apply_calls (xs := ((pl (runZ xs).1.nodes.length ats mo mo.length).reverse.map (toD (runZ xs).1.nodes))) _ _ _ _ _ _  s hF.le hF.ow (rds_row 0 rfl rfl) (by rw [hLl]; omega))) rfl ?_; rintro _ _ ⟨rfl, rfl⟩; rw [applyO_grow _ _ _ hF.le, turn_all hw (by omega) hjs hOk s0t hOl]; (try dsimp only)
              refine ol_q (wn_none rfl) (op_ne rfl rfl) rfl ?_
              refine ol_q (wn_none rfl) (op_move (v := .bool _) rfl) rfl ?_
              refine ol_split 94 rfl (fun hb9 => ?_) (fun hb9 => ?_)
              · have hp9 := hb9
                (try simp only [decide_eq_true_eq, decide_eq_false_iff_not, Bool.not_eq_true', Bool.not_eq_false', ne_eq, Decidable.not_not] at hp9)
                exact absurd hb9 (by simp)
              · have hp9 := hb9
                (try simp only [decide_eq_true_eq, decide_eq_false_iff_not, Bool.not_eq_true', Bool.not_eq_false', ne_eq, Decidable.not_not] at hp9)
                refine ol_q (wn_some rfl rfl rfl hb9 rfl) (op_field fld_66_1 rfl) rfl ?_
                refine ol_q (wn_some rfl rfl rfl hb9 rfl) (op_ld 11 sc_58 rfl rfl rfl) rfl ?_
                refine ol_pull5 ?_
                refine ol_pull5 ?_
                refine ol_i (wn_some rfl rfl rfl hb9 rfl) (os_call cb_36 rfl (fun w s => Apply_calls (xs := ([] : List Delta)) _ _ _ _ _ _  s hF.le hF.ow (rds_nil _) (by decide))) rfl ?_; rintro _ _ ⟨rfl, rfl⟩; rw [applyO_nil _ _ hF.ow]; (try dsimp only)
                refine ol_q (wn_some rfl rfl rfl hb9 rfl) (op_ne rfl rfl) rfl ?_
                refine ol_q (wn_none rfl) (op_pick_f (v := .bool _) rfl hb9 rfl) rfl ?_
                refine ol_nil_then ?_
                refine cd_cond rfl (fun hb10 => ?_) (fun hb10 => ?_)
                · have hp10 := hb10
                  (try simp only [decide_eq_true_eq, decide_eq_false_iff_not, Bool.not_eq_true', Bool.not_eq_false', ne_eq, Decidable.not_not] at hp10)
                  exact absurd hb10 (by simp)
                · have hp10 := hb10
                  (try simp only [decide_eq_true_eq, decide_eq_false_iff_not, Bool.not_eq_true', Bool.not_eq_false', ne_eq, Decidable.not_not] at hp10)
                  refine cd_skip ?_
                  refine px_then ?_
                  refine cd_seq ?_
                  refine cd_sr ?_   -- 26
                  refine ol_q (wn_none rfl) (op_move (v := .slice _ _ _) rfl) rfl ?_
                  refine ol_q (wn_none rfl) (op_len_slice Try.underlying77 rfl) rfl ?_
                  refine ol_q (wn_none rfl) (op_sub rfl rfl (by omega) (by omega)) rfl ?_
                  refine ol_q (wn_none rfl) (op_assign (v := .int _ _) rfl) rfl ?_
                  refine ol_nil_then ?_
                  refine cd_block ?_
                  refine cd_pull1 ?_
                  refine cd_loop2 (α := Int) [(6, 6), (15, 15), (103, 115)] (fun x => [(15, .int .i64 x)]) (fun x => WObj pw2 pt2 (runZ xs).1.nodes (addL (growO (runZ xs).1.nodes.length (runZ xs).2) (pl (runZ xs).1.nodes.length ats mo ((mo.length : Int) - 1 - x).toNat)) :: _) (fun x => -1 ≤ x ∧ x < mo.length) (fun x => (x + 1).toNat) ((((pl (runZ xs).1.nodes.length ats mo mo.length).reverse.map (toD (runZ xs).1.nodes)).length : Int) - 1) (by rw [hLl]; omega) ⟨rfl, trivial⟩ (fun _ s => by (try dsimp only); rw [show ((mo.length : Int) - 1 - ((((pl (runZ xs).1.nodes.length ats mo mo.length).reverse.map (toD (runZ xs).1.nodes)).length : Int) - 1)).toNat = 0 by rw [hLl]; omega]; exact s) ?_
                  rintro i ⟨hi0, hi⟩ f; (try dsimp only at hi0 hi ⊢)
                  refine cd_seq ?_
                  refine cd_sr ?_   -- 27
                  refine ol_q (wn_none rfl) (op_move (v := .int _ _) rfl) rfl ?_
                  refine ol_q (wn_none rfl) (op_ge rfl rfl) rfl ?_
                  refine ol_nil_then ?_
                  refine cd_cond rfl (fun hb11 => ?_) (fun hb11 => ?_)
                  · have hp11 := hb11
                    (try simp only [decide_eq_true_eq, decide_eq_false_iff_not, Bool.not_eq_true', Bool.not_eq_false', ne_eq, Decidable.not_not] at hp11)
                    obtain ⟨i0, rfl⟩ : ∃ i0 : Nat, i = i0 := ⟨i.toNat, by omega⟩
                    have hto := turn_one hw (x := ats) (y := mo) (i := mo.length) (m := ((mo.length : Int) - 1 - (i0 : Int)).toNat) (by omega) (by omega) hjs hOk s0t hOl
                    have hmm : ((mo.length : Int) - 1 - ((i0 : Int) - 1)).toNat = ((mo.length : Int) - 1 - (i0 : Int)).toNat + 1 := by omega
                    have hel : ((pl (runZ xs).1.nodes.length ats mo mo.length).reverse.map (toD (runZ xs).1.nodes))[i0]'(by rw [hLl]; omega) = toD (runZ xs).1.nodes (u64N (oA ats ((mo.length : Int) - 1 - (i0 : Int)).toNat) % (runZ xs).1.nodes.length, oA mo ((mo.length : Int) - 1 - (i0 : Int)).toNat) := by
                      rw [List.getElem_map, List.getElem_reverse, pl_get]
                      simp only [pl_len]
                      rw [show mo.length - 1 - i0 = ((mo.length : Int) - 1 - (i0 : Int)).toNat by omega]
                    refine cd_skip ?_
                    refine px_then ?_
                    refine cd_seq ?_
                    refine cd_block ?_
                    refine cd_pull1 ?_
                    refine cd_pull1 ?_
                    refine cd_seq ?_   -- 29
                    refine cd_draw (M := [_, _]) mx [6, 7] (by kernel_rfl) ?_
                    refine rg_q (wn_none rfl) (op_field fld_66_1 rfl) rfl rfl ?_
                    refine rg_q (wn_none rfl) (op_ld 9 sc_58 rfl rfl rfl) rfl rfl ?_
                    refine rg_q (wn_none rfl) (op_move (v := .slice _ _ _) rfl) rfl rfl ?_
                    refine rg_q (wn_none rfl) (op_move (v := .int _ _) rfl) rfl rfl ?_
                    refine rg_q (wn_none rfl) (op_index i0 sB_77 rfl rfl rfl (rds_row 2 rfl rfl) rfl (by rw [hLl]; omega)) rfl rfl ?_
                    refine rg_q (wn_none rfl) (op_ldaw (L := deltaC _) ag_80 (rds_row 2 rfl rfl) rfl (by rw [hLl]; omega) rfl (deltaC_ta _)) rfl rfl ?_
                    refine rg_i (wn_none rfl) (os_bslice (E := encDelta) [_] (ys := [_]) sB_77 zv_80 rfl rfl rfl rfl (by decide)) rfl rfl ?_; rintro _ _ ⟨ao3, rfl, rfl⟩; rw [hel]; refine ⟨[_, _, _], rfl, ?_⟩
                    refine rg_i (wn_none rfl) (os_pull1 (os_pull2 (os_call cb_36 rfl (fun w s => Apply_calls (xs := [toD (runZ xs).1.nodes (u64N (oA ats ((mo.length : Int) - 1 - (i0 : Int)).toNat) % (runZ xs).1.nodes.length, oA mo ((mo.length : Int) - 1 - (i0 : Int)).toNat)]) _ _ _ _ _ _  s (by rw [addL_len]; omega) hto.1 (rds_row 0 rfl rfl) (by show 1 ≤ 1000; decide))))) rfl rfl ?_; rintro _ _ ⟨rfl, rfl⟩; rw [hto.2]; (try dsimp only); refine ⟨[_, _, _], rfl, ?_⟩
                    refine rg_q (wn_none rfl) (op_ne rfl rfl) rfl rfl ?_
                    refine rg_nil_then3 ?_
                    refine cd_cond rfl (fun hb12 => ?_) (fun hb12 => ?_)
                    · have hp12 := hb12
                      (try simp only [decide_eq_true_eq, decide_eq_false_iff_not, Bool.not_eq_true', Bool.not_eq_false', ne_eq, Decidable.not_not] at hp12)
                      exact absurd hb12 (by simp)
                    · have hp12 := hb12
                      (try simp only [decide_eq_true_eq, decide_eq_false_iff_not, Bool.not_eq_true', Bool.not_eq_false', ne_eq, Decidable.not_not] at hp12)
                      refine cd_skip ?_
                      refine px_blockN ?_
                      refine px_then ?_
                      refine cd_region ?_   -- 28
                      refine ol_q (wn_none rfl) (op_move (v := .int _ _) rfl) rfl ?_
                      refine ol_q (wn_none rfl) (op_sub rfl rfl (by omega) (by omega)) rfl ?_
                      refine ol_q (wn_none rfl) (op_assign (v := .int _ _) rfl) rfl ?_
                      refine ol_nil ?_
                      refine px_loop2 ((i0 : Int) - 1) (by omega) (by (try dsimp only); omega) ⟨rfl, trivial⟩ ?_ (fun _ s => (by (try dsimp only); rw [hmm]; exact (((((((((((((s.del 2).pull 11).pull 11).pull 11).pull 11).pull 11).pull 11).pull 11).pull 11).pull 11).pull 11).pull 10).pull 11)))
                      repeat (first | exact kept_over | refine kept_upd rfl ?_ | refine kept_overS (by decide) ?_)
                  · have hp11 := hb11
                    (try simp only [decide_eq_true_eq, decide_eq_false_iff_not, Bool.not_eq_true', Bool.not_eq_false', ne_eq, Decidable.not_not] at hp11)
                    have hie2 : i = -1 := by omega
                    rw [show ((mo.length : Int) - 1 - i).toNat = mo.length by omega]
                    refine cd_exit ?_
                    refine px_thenE ?_
                    refine px_thenE ?_
                    refine px_blockE ?_
                    refine px_then ?_
                    refine cd_seq ?_
                    refine cd_sr ?_   -- 31
                    refine ol_q (wn_none rfl) (op_move (v := .slice _ _ _) rfl) rfl ?_
                    refine ol_q (wn_none rfl) (op_len_slice Try.underlying45 rfl) rfl ?_
                    refine ol_q (wn_none rfl) (op_move (v := .int _ _) rfl) rfl ?_
                    refine ol_nil_then ?_
                    refine cd_block ?_
                    refine cd_loop2 (α := Nat) [(6, 6), (17, 17), (118, 142)] (fun x => [(118, .int .i64 (x : Int))]) (fun _ => _) (fun x => x ≤ (runZ xs).1.roots.length) (fun x => (runZ xs).1.roots.length - x) 0 (Nat.zero_le _) ⟨rfl, trivial⟩ (fun _ s => s) ?_
                    rintro j3 hj3 f; (try dsimp only at hj3 ⊢)
                    refine cd_sr ?_   -- 32
                    refine ol_q (wn_none rfl) (op_lt rfl rfl) rfl ?_
                    refine ol_nil_then ?_
                    refine cd_seq ?_
                    refine cd_cond rfl (fun hb13 => ?_) (fun hb13 => ?_)
                    · have hp13 := hb13
                      (try simp only [decide_eq_true_eq, decide_eq_false_iff_not, Bool.not_eq_true', Bool.not_eq_false', ne_eq, Decidable.not_not] at hp13)
                      refine cd_skip ?_
                      refine px_then ?_
                      refine cd_seq ?_
                      refine cd_block ?_
                      refine cd_sr ?_   -- 33
                      refine ol_q (wn_none rfl) (op_index j3 sB_45 rfl rfl rfl (rds_row 5 rfl rfl) rfl (by omega)) rfl ?_
                      refine ol_q (wn_none rfl) (op_ldaw (L := rootC _) ag_30 (rds_row 5 rfl rfl) rfl (by omega) rfl (rootC_ta _)) rfl ?_
                      refine ol_i (wn_none rfl) (os_alloc (cs := (rootC Root.zero).toArray) zB_30 (by kernel_rfl)) rfl ?_; rintro _ _ ⟨bx4, rfl, rfl⟩
                      refine ol_iN (wn_none rfl) (os_storera _ ag_30 rfl rfl (Free.zero _)) ?_; rintro _ _ ⟨rfl, rfl⟩
                      refine ol_nil_then ?_
                      refine cd_seq ?_   -- 34
                      refine cd_drawe (M := []) mx [3, 7, 13, 17] ?_
                      -- 0
                      refine et_quiet 0 (by kernel_rfl) rfl (by kernel_rfl) (wn_none rfl) (op_field fld_66_1 rfl) rfl ?_
                      -- 1
                      refine et_quiet 1 (by kernel_rfl) rfl (by kernel_rfl) (wn_none rfl) (op_ld 12 sc_58 rfl rfl rfl) rfl ?_
                      -- 2
                      refine et_quiet 2 (by kernel_rfl) rfl (by kernel_rfl) (wn_none rfl) (op_lda (L := rootC _) 0 ag_30 rfl rfl (rootC_take' _) (by simp [rootC_len])) rfl ?_
                      -- 4
                      refine et_quiet 4 (by kernel_rfl) rfl (by kernel_rfl) (wn_none rfl) (op_field fld_66_1 rfl) rfl ?_
                      -- 5
                      refine et_quiet 5 (by kernel_rfl) rfl (by kernel_rfl) (wn_none rfl) (op_ld 11 sc_58 rfl rfl rfl) rfl ?_
                      -- 6
                      refine et_quiet 6 (by kernel_rfl) rfl (by kernel_rfl) (wn_none rfl) (op_lda (L := rootC _) 0 ag_30 rfl rfl (rootC_take' _) (by simp [rootC_len])) rfl ?_
                      refine et_1 (i := 3) (by kernel_rfl) ?_
                      refine ei_i rfl rfl (wn_none rfl) (os_back (os_pull1 (os_pull2 (os_call cb_38 rfl (fun w s => Weight_calls _ _ _ _ _  s )))) (fun _ s => (((((((((((((s.pull 12).pull 12).pull 12).pull 12).pull 12).pull 12).pull 12).pull 12).pull 12).pull 12).pull 10).pull 11).pull 12))) rfl ?_; rintro _ _ ⟨rfl, rfl⟩; refine ⟨[], rfl, ?_⟩
                      refine et_1 (i := 7) (by kernel_rfl) ?_
                      refine ei_i rfl rfl (wn_none rfl) (os_back (os_pull4 (os_pull4 (os_call cb_38 rfl (fun w s => Weight_calls _ _ _ _ _  s )))) (fun _ s => (((((((((((((s.pull 12).pull 12).pull 12).pull 12).pull 12).pull 12).pull 12).pull 12).pull 9).pull 9).pull 12).pull 12).pull 12))) rfl ?_; rintro _ _ ⟨rfl, rfl⟩; refine ⟨[], rfl, ?_⟩
                      -- 8
                      refine et_quiet 8 (by kernel_rfl) rfl (by kernel_rfl) (wn_none rfl) (op_ne rfl rfl) rfl ?_
                      -- 9
                      refine et_quiet 9 (by kernel_rfl) rfl (by kernel_rfl) (wn_none rfl) (op_move (v := .bool _) rfl) rfl ?_
                      refine et_split 131 rfl (fun hb14 => ?_) (fun hb14 => ?_)
                      · have hp14 := hb14
                        (try simp only [decide_eq_true_eq, decide_eq_false_iff_not, Bool.not_eq_true', Bool.not_eq_false', ne_eq, Decidable.not_not] at hp14)
                        exact absurd hb14 (by simp)
                      · have hp14 := hb14
                        (try simp only [decide_eq_true_eq, decide_eq_false_iff_not, Bool.not_eq_true', Bool.not_eq_false', ne_eq, Decidable.not_not] at hp14)
                        -- 10
                        refine et_quiet 10 (by kernel_rfl) rfl (by kernel_rfl) (wn_some rfl rfl rfl hb14 rfl) (op_field fld_66_1 rfl) rfl ?_
                        -- 11
                        refine et_quiet 11 (by kernel_rfl) rfl (by kernel_rfl) (wn_some rfl rfl rfl hb14 rfl) (op_ld 12 sc_58 rfl rfl rfl) rfl ?_
                        -- 12
                        refine et_quiet 12 (by kernel_rfl) rfl (by kernel_rfl) (wn_some rfl rfl rfl hb14 rfl) (op_lda (L := rootC _) 0 ag_30 rfl rfl (rootC_take' _) (by simp [rootC_len])) rfl ?_
                        -- 14
                        refine et_quiet 14 (by kernel_rfl) rfl (by kernel_rfl) (wn_some rfl rfl rfl hb14 rfl) (op_field fld_66_1 rfl) rfl ?_
                        -- 15
                        refine et_quiet 15 (by kernel_rfl) rfl (by kernel_rfl) (wn_some rfl rfl rfl hb14 rfl) (op_ld 11 sc_58 rfl rfl rfl) rfl ?_
                        -- 16
                        refine et_quiet 16 (by kernel_rfl) rfl (by kernel_rfl) (wn_some rfl rfl rfl hb14 rfl) (op_lda (L := rootC _) 0 ag_30 rfl rfl (rootC_take' _) (by simp [rootC_len])) rfl ?_
                        refine et_1 (i := 13) (by kernel_rfl) ?_
                        refine ei_i rfl rfl (wn_some rfl rfl rfl hb14 rfl) (os_back (os_pull1 (os_pull2 (os_call cb_37 rfl (fun w s => Own_calls _ _ _ _ _  s )))) (fun _ s => (((((((((((((s.pull 12).pull 12).pull 12).pull 12).pull 12).pull 12).pull 12).pull 12).pull 12).pull 12).pull 10).pull 11).pull 12))) rfl ?_; rintro _ _ ⟨rfl, rfl⟩; refine ⟨[], rfl, ?_⟩
                        refine et_1 (i := 17) (by kernel_rfl) ?_
                        refine ei_i rfl rfl (wn_some rfl rfl rfl hb14 rfl) (os_back (os_pull4 (os_pull4 (os_call cb_37 rfl (fun w s => Own_calls _ _ _ _ _  s )))) (fun _ s => (((((((((((((s.pull 12).pull 12).pull 12).pull 12).pull 12).pull 12).pull 12).pull 12).pull 9).pull 9).pull 12).pull 12).pull 12))) rfl ?_; rintro _ _ ⟨rfl, rfl⟩; refine ⟨[], rfl, ?_⟩
                        -- 18
                        refine et_quiet 18 (by kernel_rfl) rfl (by kernel_rfl) (wn_some rfl rfl rfl hb14 rfl) (op_ne rfl rfl) rfl ?_
                        -- 19
                        refine et_quiet 19 (by kernel_rfl) rfl (by kernel_rfl) (wn_none rfl) (op_pick_f (v := .bool _) rfl hb14 rfl) rfl ?_
                        refine et_nil_then (by kernel_rfl) ?_
                        refine cd_cond rfl (fun hb15 => ?_) (fun hb15 => ?_)
                        · have hp15 := hb15
                          (try simp only [decide_eq_true_eq, decide_eq_false_iff_not, Bool.not_eq_true', Bool.not_eq_false', ne_eq, Decidable.not_not] at hp15)
                          exact absurd hb15 (by simp)
                        · have hp15 := hb15
                          (try simp only [decide_eq_true_eq, decide_eq_false_iff_not, Bool.not_eq_true', Bool.not_eq_false', ne_eq, Decidable.not_not] at hp15)
                          refine cd_skip ?_
                          refine px_blockN ?_
                          refine px_then ?_
                          refine cd_region ?_   -- 36
                          refine ol_q (wn_none rfl) (op_add rfl rfl (by omega) (by omega)) rfl ?_
                          refine ol_q (wn_none rfl) (op_move (v := .int _ _) rfl) rfl ?_
                          refine ol_nil ?_
                          refine px_loop2 (j3 + 1) (by omega) (by (try dsimp only); omega) ⟨congrArg (Value.int .i64) (by simp), trivial⟩ ?_ (fun _ s => (s.del 0))
                          repeat (first | exact kept_over | refine kept_upd rfl ?_ | refine kept_overS (by decide) ?_)
                    · have hp13 := hb13
                      (try simp only [decide_eq_true_eq, decide_eq_false_iff_not, Bool.not_eq_true', Bool.not_eq_false', ne_eq, Decidable.not_not] at hp13)
                      refine cd_exit ?_
                      refine px_thenE ?_
                      refine px_thenE ?_
                      refine px_blockE ?_
                      refine px_then ?_
                      refine cd_seq ?_   -- 37
                      refine cd_draw (M := []) mx [2, 5] (by kernel_rfl) ?_
                      refine rg_q (wn_none rfl) (op_field fld_66_1 rfl) rfl rfl ?_
                      refine rg_q (wn_none rfl) (op_ld 11 sc_58 rfl rfl rfl) rfl rfl ?_
                      refine rg_i (wn_none rfl) (os_back (os_pull1 (os_call cb_39 rfl (fun w s => Head_calls _ _ _ _  s (by rw [addL_len]; omega) (by rw [addL_len]; omega)))) (fun _ s => ((((((((((((s.pull 11).pull 11).pull 11).pull 11).pull 11).pull 11).pull 11).pull 11).pull 11).pull 11).pull 10).pull 11))) rfl rfl ?_; rintro _ _ ⟨rfl, rfl⟩; refine ⟨[], rfl, ?_⟩
                      refine rg_q (wn_none rfl) (op_field fld_66_1 rfl) rfl rfl ?_
                      refine rg_q (wn_none rfl) (op_ld 10 sc_58 rfl rfl rfl) rfl rfl ?_
                      refine rg_i (wn_none rfl) (os_back (os_pull3 (os_pull3 (os_call cb_39 rfl (fun w s => Head_calls _ _ _ _  s (by rw [addL_len]; omega) (by rw [addL_len]; omega))))) (fun _ s => ((((((((((((s.pull 11).pull 11).pull 11).pull 11).pull 11).pull 11).pull 11).pull 11).pull 9).pull 9).pull 11).pull 11))) rfl rfl ?_; rintro _ _ ⟨rfl, rfl⟩; refine ⟨[], rfl, ?_⟩
                      refine rg_q (wn_none rfl) (op_eqroot _ _ rB_30 rfl rfl) rfl rfl ?_
                      refine rg_q (wn_none rfl) (op_assign (v := .bool _) rfl) rfl rfl ?_
                      refine rg_nil_then0 ?_
                      refine cd_ret ?_
                      exact px_ret1 rfl (v := .bool _) rfl (fun _ s => ((((((((((((s.del 11).del 10).del 9).del 8).del 7).del 6).del 5).del 4).del 3).del 2).del 1).del 0)) ⟨congrArg Value.bool (by simp), rfl⟩
end Go.SL

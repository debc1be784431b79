import Derived.Test.YtbgnabofcceajaaWeiL3
import Derived.Test.YtbgnabofcceajaaMWei4
import Derived.Test.YtbgnabofcceajaaTreeL
import Derived.Test.YtbgnabofcceajaaRoots
set_option linter.unusedVariables false
set_option linter.unusedSimpArgs false
namespace Go.SL
open Go.Proofs

set_option maxRecDepth 100000 in
set_option maxHeartbeats 1000000 in
theorem WeighSums_calls {w0 w : World} {l : List HProp} (lo : Option Addr) (lc : Nat) (xs : List WAct) (hs : Sat w0 w (l)) (hr : Rds w0 l encWAct lo xs) (hq : ∀ a ∈ xs, I64 a.kind ∧ I64 a.root ∧ I64 a.parent ∧ I64 a.slot ∧ I64 a.n ∧ I64 a.more) :
    Calls Try.prog 11 #[.slice lo xs.length lc] w (Ret w0 fun v l' => v = .bool true ∧ l' = l) := by
  refine calls_enter Try.func11 rfl rfl rfl hs ?_
  refine cd_sr ?_   -- 0
  refine ol_q (wn_none rfl) (op_assign (v := .bool _) rfl) rfl ?_
  refine ol_nil_then ?_
  refine cd_seq ?_
  refine cd_sr ?_   -- 1
  refine ol_i (wn_none rfl) (os_call cb_33 rfl (fun w s => wlAlive_calls  s )) rfl ?_; rintro _ l ⟨rfl, rfl⟩
  refine ol_q (wn_none rfl) (op_not rfl) rfl ?_
  refine ol_nil_then ?_
  refine cd_cond_f rfl rfl ?_
  refine cd_skip ?_
  refine px_then ?_
  refine cd_seq ?_
  refine cd_sr ?_   -- 3
  refine ol_q (wn_none rfl) (op_move (v := .slice _ _ _) rfl) rfl ?_
  refine ol_q (wn_none rfl) (op_len_slice Try.underlying57 rfl) rfl ?_
  refine ol_q (wn_none rfl) (op_gt rfl rfl) rfl ?_
  refine ol_nil_then ?_
  refine cd_cond rfl (fun hb1 => ?_) (fun hb1 => ?_)
  · have hp1 := hb1
    (try simp only [decide_eq_true_eq, decide_eq_false_iff_not, Bool.not_eq_true', Bool.not_eq_false', ne_eq, Decidable.not_not] at hp1)
    refine cd_sr ?_   -- 4
    refine ol_q (wn_none rfl) (op_assign (v := .bool _) rfl) rfl ?_
    refine ol_nil_then ?_
    refine cd_ret ?_
    refine px_thenR ?_
    exact px_ret1 rfl (v := .bool _) rfl (fun _ s => s) ⟨congrArg Value.bool (rfl), rfl⟩
  · have hp1 := hb1
    (try simp only [decide_eq_true_eq, decide_eq_false_iff_not, Bool.not_eq_true', Bool.not_eq_false', ne_eq, Decidable.not_not] at hp1)
    refine cd_skip ?_
    refine px_then ?_
    refine cd_sr ?_   -- 5
    refine ol_i (wn_none rfl) (os_call cb_40 rfl (fun w s => begun_calls  s )) rfl ?_; rintro _ _ ⟨pt2, pw2, pr2, pm2, rfl, rfl⟩
    refine ol_i (wn_none rfl) (os_alloc zB_66 rfl) rfl ?_; rintro _ _ ⟨bx1, rfl, rfl⟩
    refine ol_iN (wn_none rfl) (os_storea (L' := [_, _, _]) ag_66 rfl rfl rfl (by simp [Value.oneCell']) rfl (Free.zero _) rfl) ?_; rintro _ _ ⟨rfl, rfl⟩
    refine ol_nil_then ?_
    refine cd_seq ?_
    refine cd_sr ?_   -- 6
    refine ol_q (wn_none rfl) (op_move (v := .slice _ _ _) rfl) rfl ?_
    refine ol_q (wn_none rfl) (op_len_slice Try.underlying57 rfl) rfl ?_
    refine ol_q (wn_none rfl) (op_move (v := .int _ _) rfl) rfl ?_
    refine ol_nil_then ?_
    refine cd_block ?_
    refine cd_pull4 ?_
    refine cd_pull4 ?_
    refine cd_pull4 ?_
    refine cd_pull4 ?_
    refine cd_loop2 (α := Nat) [(5, 5), (19, 26)] (fun x => [(19, .int .i64 (x : Int))]) (fun x => TreeObj pt2 (runW (xs.take x)).1 :: WObj pw2 pt2 (runW (xs.take x)).1.nodes (runW (xs.take x)).2 :: RTreeObj pr2 (runW (xs.take x)).1 :: RWObj pm2 pr2 (runW (xs.take x)).2 :: _) (fun x => x ≤ xs.length) (fun x => xs.length - x) 0 (Nat.zero_le _) ⟨rfl, trivial⟩ (fun _ s => by (try dsimp only); rw [List.take_zero]; exact s) ?_
    rintro i hi f; (try dsimp only at hi ⊢)
    have hO := OKW.run (xs.take i)
    refine cd_sr ?_   -- 7
    refine ol_q (wn_none rfl) (op_lt rfl rfl) rfl ?_
    refine ol_nil_then ?_
    refine cd_seq ?_
    refine cd_cond rfl (fun hb2 => ?_) (fun hb2 => ?_)
    · have hp2 := hb2
      (try simp only [decide_eq_true_eq, decide_eq_false_iff_not, Bool.not_eq_true', Bool.not_eq_false', ne_eq, Decidable.not_not] at hp2)
      have hi1 : i < xs.length := by omega
      have hO2 := hO.step xs[i]
      refine cd_skip ?_
      refine px_then ?_
      refine cd_seq ?_
      refine cd_block ?_
      refine cd_sr ?_   -- 8
      refine ol_q (wn_none rfl) (op_index i sB_57 rfl rfl rfl (((((hr.cons _).cons _).cons _).cons _).cons _) rfl (by omega)) rfl ?_
      refine ol_q (wn_none rfl) (op_ldaw (L := wActC _) ag_69 (((((hr.cons _).cons _).cons _).cons _).cons _) rfl (by omega) rfl (wActC_ta _)) rfl ?_
      refine ol_i (wn_none rfl) (os_alloc (cs := (wActC WAct.zero).toArray) zB_69 (by kernel_rfl)) rfl ?_; rintro _ _ ⟨bx2, rfl, rfl⟩
      refine ol_iN (wn_none rfl) (os_storew (wActC _) ag_69 rfl rfl (wActC_len _) (wActC_one _) (by simp [wActC_len]) (Free.zero _)) ?_; rintro _ _ ⟨rfl, rfl⟩
      refine ol_nil_then ?_
      refine cd_region ?_   -- 9
      refine ol_q (wn_none rfl) (op_lda 5 ag_66 rfl rfl (by rfl) (by simp)) rfl ?_
      refine ol_q (wn_none rfl) (op_lda (L := wActC _) 0 ag_69 rfl rfl (wActC_ta _) (by simp [wActC_len])) rfl ?_
      refine ol_pull4 ?_
      refine ol_pull4 ?_
      refine ol_pull4 ?_
      refine ol_pull4 ?_
      refine ol_i (wn_none rfl) (os_call cb_41 rfl (fun w s => do_calls _ _ _ _ _ _ _  s hO.le hO.ow)) rfl ?_; rintro _ _ ⟨rfl, rfl⟩
      refine ol_nil ?_
      refine px_blockN ?_
      refine px_then ?_
      refine cd_region ?_   -- 10
      refine ol_q (wn_none rfl) (op_add rfl rfl (by omega) (by omega)) rfl ?_
      refine ol_q (wn_none rfl) (op_move (v := .int _ _) rfl) rfl ?_
      refine ol_nil ?_
      refine px_loop2 (i + 1) (by omega) (by (try dsimp only); omega) ⟨congrArg (Value.int .i64) (by simp), trivial⟩ ?_ (fun _ s => (by (try dsimp only); rw [runW_succ hi1]; exact (s.del 4)))
      repeat (first | exact kept_over | refine kept_upd rfl ?_ | refine kept_overS (by decide) ?_)
    · have hp2 := hb2
      (try simp only [decide_eq_true_eq, decide_eq_false_iff_not, Bool.not_eq_true', Bool.not_eq_false', ne_eq, Decidable.not_not] at hp2)
      have hF := OKW.run xs
      have hie : i = xs.length := by omega
      rw [hie, List.take_length]
      have hw := hF.wf
      have hOl := growO_len hF.le
      have hOk : OwnOK (growO (runW xs).1.nodes.length (runW xs).2) := hF.ow.zeros _
      have hN1 := hw.le
      have hN2 := hw.m2
      have hN0 := hw.ne
      have hrl := roots_len (runW xs).1
      have hrt0 := hF.rt0
      refine cd_exit ?_
      refine px_thenE ?_
      refine px_thenE ?_
      refine px_blockE ?_
      refine px_then ?_
      refine cd_sr ?_   -- 11
      refine ol_q (wn_none rfl) (op_field fld_66_1 rfl) rfl ?_
      refine ol_q (wn_none rfl) (op_ld 4 sc_58 rfl rfl rfl) rfl ?_
      refine ol_pull1 ?_
      refine ol_pull1 ?_
      refine ol_i (wn_none rfl) (os_call cb_36 rfl (fun w s => Apply_calls (xs := ([] : List Delta)) _ _ _ _ _ _  s hF.le hF.ow (rds_nil _) (by decide))) rfl ?_; rintro _ _ ⟨rfl, rfl⟩; rw [applyO_nil _ _ hF.ow]; (try dsimp only)
      refine ol_nil_then ?_
      refine cd_sr ?_   -- 12
      refine ol_q (wn_none rfl) (op_assign (v := .int _ _) rfl) rfl ?_
      refine ol_nil_then ?_
      refine cd_seq ?_
      refine cd_sr ?_   -- 13
      refine ol_q (wn_none rfl) (op_field fld_66_0 rfl) rfl ?_
      refine ol_q (wn_none rfl) (op_ld 4 sc_24 rfl rfl rfl) rfl ?_
      refine ol_i (wn_none rfl) (os_call cb_29 rfl (fun w s => Roots_calls _ _  s )) rfl ?_; rintro _ _ ⟨ao5, ac5, rfl, rfl⟩
      refine ol_q (wn_none rfl) (op_len_slice Try.underlying45 rfl) rfl ?_
      refine ol_q (wn_none rfl) (op_move (v := .int _ _) rfl) rfl ?_
      refine ol_nil_then ?_
      refine cd_block ?_
      refine cd_loop2 (α := Nat) [(2, 2), (6, 6), (8, 8), (10, 10), (34, 79)] (fun x => [(6, .int .i64 (sg (oA (growO (runW xs).1.nodes.length (runW xs).2)) x)), (34, .int .i64 (x : Int))]) (fun _ => _) (fun x => x ≤ (runW xs).1.roots.length) (fun x => (runW xs).1.roots.length - x) 0 (Nat.zero_le _) ⟨rfl, rfl, trivial⟩ (fun _ s => s) ?_
      rintro j hj f; (try dsimp only at hj ⊢)
      refine cd_sr ?_   -- 14
      refine ol_q (wn_none rfl) (op_lt rfl rfl) rfl ?_
      refine ol_nil_then ?_
      refine cd_seq ?_
      refine cd_cond rfl (fun hb3 => ?_) (fun hb3 => ?_)
      · have hp3 := hb3
        (try simp only [decide_eq_true_eq, decide_eq_false_iff_not, Bool.not_eq_true', Bool.not_eq_false', ne_eq, Decidable.not_not] at hp3)
        have hi1 : j < (runW xs).1.nodes.length := by omega
        have hkl := kids_len (runW xs).1 (rtA (runW xs).1.nodes j)
        have hs0 := sg_nonneg (f := oA (growO (runW xs).1.nodes.length (runW xs).2)) (m := j) (fun q _ => hOk.nn q)
        have hs1 := sg_mono (f := oA (growO (runW xs).1.nodes.length (runW xs).2)) (m := j) (n := (growO (runW xs).1.nodes.length (runW xs).2).length) (by omega) (fun q _ => hOk.nn q)
        have htt := hOk.tt
        unfold tot at htt
        have hoj := hOk.ent j
        refine cd_skip ?_
        refine px_then ?_
        refine cd_seq ?_
        refine cd_block ?_
        refine cd_sr ?_   -- 15
        refine ol_q (wn_none rfl) (op_index j sB_45 rfl rfl rfl (rds_row 0 rfl rfl) rfl (by omega)) rfl ?_
        refine ol_q (wn_none rfl) (op_ldaw (L := rootC _) ag_30 (rds_row 0 rfl rfl) rfl (by omega) rfl (rootC_ta _)) rfl ?_
        refine ol_i (wn_none rfl) (os_alloc (cs := (rootC Root.zero).toArray) zB_30 (by kernel_rfl)) rfl ?_; rintro _ _ ⟨bx3, rfl, rfl⟩
        refine ol_iN (wn_none rfl) (os_storera _ ag_30 rfl rfl (Free.zero _)) ?_; rintro _ _ ⟨rfl, rfl⟩
        refine ol_nil_then ?_
        rw [roots_at (t := (runW xs).1) (i := j) (by omega)]
        refine cd_sr ?_   -- 16
        refine ol_q (wn_none rfl) (op_move (v := .int _ _) rfl) rfl ?_
        refine ol_q (wn_none rfl) (op_field fld_66_1 rfl) rfl ?_
        refine ol_q (wn_none rfl) (op_ld 6 sc_58 rfl rfl rfl) rfl ?_
        refine ol_q (wn_none rfl) (op_lda (L := rootC _) 0 ag_30 rfl rfl (rootC_take' _) (by simp [rootC_len])) rfl ?_
        refine ol_pull3 ?_
        refine ol_pull3 ?_
        refine ol_i (wn_none rfl) (os_call cb_37 rfl (fun w s => Own_calls _ _ _ _ _  s )) rfl ?_; rintro _ _ ⟨rfl, rfl⟩; rw [ofF_rt hw hi1 (by omega)]
        refine ol_q (wn_none rfl) (op_add rfl rfl (by omega) (by omega)) rfl ?_
        refine ol_q (wn_none rfl) (op_assign (v := .int _ _) rfl) rfl ?_
        refine ol_nil_then ?_
        refine cd_seq ?_
        refine cd_sr ?_   -- 17
        refine ol_q (wn_none rfl) (op_field fld_66_0 rfl) rfl ?_
        refine ol_q (wn_none rfl) (op_ld 6 sc_24 rfl rfl rfl) rfl ?_
        refine ol_q (wn_none rfl) (op_lda (L := rootC _) 2 ag_30 rfl rfl (rootC_take' _) (by simp [rootC_len])) rfl ?_
        refine ol_i (wn_none rfl) (os_call cb_26 rfl (fun w s => Kids_calls _ _ _  s )) rfl ?_; rintro _ _ ⟨ao7k, ac7k, rfl, rfl⟩
        refine ol_q (wn_none rfl) (op_len_slice Try.underlying45 rfl) rfl ?_
        refine ol_q (wn_none rfl) (op_move (v := .int _ _) rfl) rfl ?_
        refine ol_nil_then ?_
        refine cd_block ?_
        refine cd_loop2 (α := Nat) [(2, 2), (10, 10), (49, 62)] (fun x => [(49, .int .i64 (x : Int))]) (fun _ => _) (fun x => x ≤ ((runW xs).1.kids (rtA (runW xs).1.nodes j)).length) (fun x => ((runW xs).1.kids (rtA (runW xs).1.nodes j)).length - x) 0 (Nat.zero_le _) ⟨rfl, trivial⟩ (fun _ s => s) ?_
        rintro y hy f; (try dsimp only at hy ⊢)
        refine cd_sr ?_   -- 18
        refine ol_q (wn_none rfl) (op_lt rfl rfl) rfl ?_
        refine ol_nil_then ?_
        refine cd_seq ?_
        refine cd_cond rfl (fun hb4 => ?_) (fun hb4 => ?_)
        · have hp4 := hb4
          (try simp only [decide_eq_true_eq, decide_eq_false_iff_not, Bool.not_eq_true', Bool.not_eq_false', ne_eq, Decidable.not_not] at hp4)
          obtain ⟨b, hkb, hb1, hb2, hb3⟩ := kid_get hw hi1 (y := y) (by omega)
          refine cd_skip ?_
          refine px_then ?_
          refine cd_seq ?_
          refine cd_block ?_
          refine cd_sr ?_   -- 19
          refine ol_q (wn_none rfl) (op_index y sB_45 rfl rfl rfl (rds_row 0 rfl rfl) rfl (by omega)) rfl ?_
          refine ol_q (wn_none rfl) (op_ldaw (L := rootC _) ag_30 (rds_row 0 rfl rfl) rfl (by omega) rfl (rootC_ta _)) rfl ?_
          refine ol_i (wn_none rfl) (os_alloc (cs := (rootC Root.zero).toArray) zB_30 (by kernel_rfl)) rfl ?_; rintro _ _ ⟨bx4, rfl, rfl⟩
          refine ol_iN (wn_none rfl) (os_storera _ ag_30 rfl rfl (Free.zero _)) ?_; rintro _ _ ⟨rfl, rfl⟩
          refine ol_nil_then ?_
          rw [hkb]
          refine cd_seq ?_   -- 20
          refine cd_draw (M := []) mx [3, 7] (by kernel_rfl) ?_
          refine rg_q (wn_none rfl) (op_field fld_66_1 rfl) rfl rfl ?_
          refine rg_q (wn_none rfl) (op_ld 8 sc_58 rfl rfl rfl) rfl rfl ?_
          refine rg_q (wn_none rfl) (op_lda (L := rootC _) 0 ag_30 rfl rfl (rootC_take' _) (by simp [rootC_len])) rfl rfl ?_
          refine rg_i (wn_none rfl) (os_back (os_pull3 (os_pull3 (os_call cb_38 rfl (fun w s => Weight_calls _ _ _ _ _  s )))) (fun _ s => (((((((((s.pull 8).pull 8).pull 8).pull 8).pull 8).pull 6).pull 6).pull 8).pull 8))) rfl rfl ?_; rintro _ _ ⟨rfl, rfl⟩; rw [ofF_rt hw hb2 (by omega)]; refine ⟨[], rfl, ?_⟩
          refine rg_q (wn_none rfl) (op_field fld_66_1 rfl) rfl rfl ?_
          refine rg_q (wn_none rfl) (op_ld 8 sc_58 rfl rfl rfl) rfl rfl ?_
          refine rg_q (wn_none rfl) (op_lda (L := rootC _) 4 ag_30 rfl rfl (rootC_take' _) (by simp [rootC_len])) rfl rfl ?_
          refine rg_i (wn_none rfl) (os_back (os_pull3 (os_pull3 (os_call cb_38 rfl (fun w s => Weight_calls _ _ _ _ _  s )))) (fun _ s => (((((((((s.pull 8).pull 8).pull 8).pull 8).pull 8).pull 6).pull 6).pull 8).pull 8))) rfl rfl ?_; rintro _ _ ⟨rfl, rfl⟩; rw [ofF_rt hw hi1 (by omega)]; refine ⟨[], rfl, ?_⟩
          refine rg_q (wn_none rfl) (op_gt rfl rfl) rfl rfl ?_
          refine rg_nil_then0 ?_
          refine cd_cond rfl (fun hb5 => ?_) (fun hb5 => ?_)
          · have hp5 := hb5
            (try simp only [decide_eq_true_eq, decide_eq_false_iff_not, Bool.not_eq_true', Bool.not_eq_false', ne_eq, Decidable.not_not] at hp5)
            exact absurd hb5 (by have := kid_le hw (o := (growO (runW xs).1.nodes.length (runW xs).2)) (by omega) hOk.nn hb2 hb1 hb3; simp; omega)
          · have hp5 := hb5
            (try simp only [decide_eq_true_eq, decide_eq_false_iff_not, Bool.not_eq_true', Bool.not_eq_false', ne_eq, Decidable.not_not] at hp5)
            refine cd_skip ?_
            refine px_blockN ?_
            refine px_then ?_
            refine cd_region ?_   -- 22
            refine ol_q (wn_none rfl) (op_add rfl rfl (by omega) (by omega)) rfl ?_
            refine ol_q (wn_none rfl) (op_move (v := .int _ _) rfl) rfl ?_
            refine ol_nil ?_
            refine px_loop2 (y + 1) (by omega) (by (try dsimp only); omega) ⟨congrArg (Value.int .i64) (by simp), trivial⟩ ?_ (fun _ s => (s.del 0))
            repeat (first | exact kept_over | refine kept_upd rfl ?_ | refine kept_overS (by decide) ?_)
        · have hp4 := hb4
          (try simp only [decide_eq_true_eq, decide_eq_false_iff_not, Bool.not_eq_true', Bool.not_eq_false', ne_eq, Decidable.not_not] at hp4)
          refine cd_exit ?_
          refine px_thenE ?_
          refine px_thenE ?_
          refine px_blockE ?_
          refine px_then ?_
          refine cd_seq ?_   -- 23
          refine cd_drawe (M := []) mx [3, 9, 13] ?_
          -- 0
          refine et_quiet 0 (by kernel_rfl) rfl (by kernel_rfl) (wn_none rfl) (op_field fld_66_1 rfl) rfl ?_
          -- 1
          refine et_quiet 1 (by kernel_rfl) rfl (by kernel_rfl) (wn_none rfl) (op_ld 7 sc_58 rfl rfl rfl) rfl ?_
          -- 2
          refine et_quiet 2 (by kernel_rfl) rfl (by kernel_rfl) (wn_none rfl) (op_lda (L := rootC _) 3 ag_30 rfl rfl (rootC_take' _) (by simp [rootC_len])) rfl ?_
          refine et_1 (i := 3) (by kernel_rfl) ?_
          refine ei_i rfl rfl (wn_none rfl) (os_back (os_pull2 (os_pull2 (os_call cb_37 rfl (fun w s => Own_calls _ _ _ _ _  s )))) (fun _ s => ((((((((s.pull 7).pull 7).pull 7).pull 7).pull 7).pull 6).pull 6).pull 7))) rfl ?_; rintro _ _ ⟨rfl, rfl⟩; rw [ofF_rt hw hi1 (by omega)]; refine ⟨[], rfl, ?_⟩
          -- 4
          refine et_quiet 4 (by kernel_rfl) rfl (by kernel_rfl) (wn_none rfl) (op_lt rfl rfl) rfl ?_
          -- 5
          refine et_quiet 5 (by kernel_rfl) rfl (by kernel_rfl) (wn_none rfl) (op_move (v := .bool _) rfl) rfl ?_
          refine et_split 68 rfl (fun hb6 => ?_) (fun hb6 => ?_)
          · have hp6 := hb6
            (try simp only [decide_eq_true_eq, decide_eq_false_iff_not, Bool.not_eq_true', Bool.not_eq_false', ne_eq, Decidable.not_not] at hp6)
            exact absurd hb6 (by simp; omega)
          · have hp6 := hb6
            (try simp only [decide_eq_true_eq, decide_eq_false_iff_not, Bool.not_eq_true', Bool.not_eq_false', ne_eq, Decidable.not_not] at hp6)
            -- 6
            refine et_quiet 6 (by kernel_rfl) rfl (by kernel_rfl) (wn_some rfl rfl rfl hb6 rfl) (op_field fld_66_1 rfl) rfl ?_
            -- 7
            refine et_quiet 7 (by kernel_rfl) rfl (by kernel_rfl) (wn_some rfl rfl rfl hb6 rfl) (op_ld 7 sc_58 rfl rfl rfl) rfl ?_
            -- 8
            refine et_quiet 8 (by kernel_rfl) rfl (by kernel_rfl) (wn_some rfl rfl rfl hb6 rfl) (op_lda (L := rootC _) 3 ag_30 rfl rfl (rootC_take' _) (by simp [rootC_len])) rfl ?_
            -- 10
            refine et_quiet 10 (by kernel_rfl) rfl (by kernel_rfl) (wn_some rfl rfl rfl hb6 rfl) (op_field fld_66_1 rfl) rfl ?_
            -- 11
            refine et_quiet 11 (by kernel_rfl) rfl (by kernel_rfl) (wn_some rfl rfl rfl hb6 rfl) (op_ld 7 sc_58 rfl rfl rfl) rfl ?_
            -- 12
            refine et_quiet 12 (by kernel_rfl) rfl (by kernel_rfl) (wn_some rfl rfl rfl hb6 rfl) (op_lda (L := rootC _) 3 ag_30 rfl rfl (rootC_take' _) (by simp [rootC_len])) rfl ?_
            refine et_1 (i := 9) (by kernel_rfl) ?_
            refine ei_i rfl rfl (wn_some rfl rfl rfl hb6 rfl) (os_back (os_pull2 (os_pull2 (os_call cb_37 rfl (fun w s => Own_calls _ _ _ _ _  s )))) (fun _ s => ((((((((s.pull 7).pull 7).pull 7).pull 7).pull 7).pull 6).pull 6).pull 7))) rfl ?_; rintro _ _ ⟨rfl, rfl⟩; rw [ofF_rt hw hi1 (by omega)]; refine ⟨[], rfl, ?_⟩
            refine et_1 (i := 13) (by kernel_rfl) ?_
            refine ei_i rfl rfl (wn_some rfl rfl rfl hb6 rfl) (os_back (os_pull2 (os_pull2 (os_call cb_38 rfl (fun w s => Weight_calls _ _ _ _ _  s )))) (fun _ s => ((((((((s.pull 7).pull 7).pull 7).pull 7).pull 7).pull 6).pull 6).pull 7))) rfl ?_; rintro _ _ ⟨rfl, rfl⟩; rw [ofF_rt hw hi1 (by omega)]; refine ⟨[], rfl, ?_⟩
            -- 14
            refine et_quiet 14 (by kernel_rfl) rfl (by kernel_rfl) (wn_some rfl rfl rfl hb6 rfl) (op_gt rfl rfl) rfl ?_
            -- 15
            refine et_quiet 15 (by kernel_rfl) rfl (by kernel_rfl) (wn_none rfl) (op_pick_f (v := .bool _) rfl hb6 rfl) rfl ?_
            refine et_nil_then (by kernel_rfl) ?_
            refine cd_cond rfl (fun hb7 => ?_) (fun hb7 => ?_)
            · have hp7 := hb7
              (try simp only [decide_eq_true_eq, decide_eq_false_iff_not, Bool.not_eq_true', Bool.not_eq_false', ne_eq, Decidable.not_not] at hp7)
              exact absurd hb7 (by have := sumN_own (ns := (runW xs).1.nodes) (o := (growO (runW xs).1.nodes.length (runW xs).2)) (a := j) hOk.nn (by omega); simp; omega)
            · have hp7 := hb7
              (try simp only [decide_eq_true_eq, decide_eq_false_iff_not, Bool.not_eq_true', Bool.not_eq_false', ne_eq, Decidable.not_not] at hp7)
              refine cd_skip ?_
              refine px_blockN ?_
              refine px_then ?_
              refine cd_region ?_   -- 25
              refine ol_q (wn_none rfl) (op_add rfl rfl (by omega) (by omega)) rfl ?_
              refine ol_q (wn_none rfl) (op_move (v := .int _ _) rfl) rfl ?_
              refine ol_nil ?_
              refine px_loop2 (j + 1) (by omega) (by (try dsimp only); omega) ⟨congrArg (Value.int .i64) sg_succ.symm, congrArg (Value.int .i64) (by simp), trivial⟩ ?_ (fun _ s => ((((((((s.del 3).del 0).pull 5).pull 5).pull 5).pull 4).pull 4).pull 5))
              repeat (first | exact kept_over | refine kept_upd rfl ?_ | refine kept_overS (by decide) ?_)
      · have hp3 := hb3
        (try simp only [decide_eq_true_eq, decide_eq_false_iff_not, Bool.not_eq_true', Bool.not_eq_false', ne_eq, Decidable.not_not] at hp3)
        have hje : j = (growO (runW xs).1.nodes.length (runW xs).2).length := by omega
        rw [hje]
        refine cd_exit ?_
        refine px_thenE ?_
        refine px_thenE ?_
        refine px_blockE ?_
        refine px_then ?_
        refine cd_seq ?_   -- 26
        refine cd_draw (M := []) mx [2, 3] (by kernel_rfl) ?_
        refine rg_q (wn_none rfl) (op_field fld_66_1 rfl) rfl rfl ?_
        refine rg_q (wn_none rfl) (op_ld 5 sc_58 rfl rfl rfl) rfl rfl ?_
        refine rg_i (wn_none rfl) (os_call cb_20 rfl (fun w s => Name_calls (n := 0)  s )) rfl rfl ?_; rintro _ l ⟨rfl, rfl⟩; refine ⟨[], rfl, ?_⟩
        refine rg_i (wn_none rfl) (os_back (os_pull2 (os_pull2 (os_call cb_38 rfl (fun w s => Weight_calls _ _ _ _ _  s )))) (fun _ s => ((((((s.pull 5).pull 5).pull 5).pull 4).pull 4).pull 5))) rfl rfl ?_; rintro _ _ ⟨rfl, rfl⟩; rw [← hrt0, ofF_rt hw hN0 (by omega), sumN_first hw.pa (by omega)]; refine ⟨[], rfl, ?_⟩
        refine rg_q (wn_none rfl) (op_move (v := .int _ _) rfl) rfl rfl ?_
        refine rg_q (wn_none rfl) (op_eq rfl rfl) rfl rfl ?_
        refine rg_q (wn_none rfl) (op_assign (v := .bool _) rfl) rfl rfl ?_
        refine rg_nil_then0 ?_
        refine cd_ret ?_
        exact px_ret1 rfl (v := .bool _) rfl (fun _ s => ((((((s.del 5).del 4).del 3).del 2).del 1).del 0)) ⟨congrArg Value.bool (by unfold tot; simp), rfl⟩
end Go.SL

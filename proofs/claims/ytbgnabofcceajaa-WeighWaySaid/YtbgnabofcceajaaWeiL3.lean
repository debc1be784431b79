import Derived.Test.YtbgnabofcceajaaWeiL2
set_option linter.unusedVariables false
set_option linter.unusedSimpArgs false
namespace Go.SL
open Go.Proofs

theorem cd_rtreeOpen {w0 : World} {n : Nat} {Q : Exit → Act → World → Prop} {f : Fr} {c : Code} {l : List HProp} {pr : Nat} {t : TreeS} (h : ∀ a1 c1 a2 c2 a3 c3 R Sl Pa, t.WF → RTreeOf t R Sl Pa → CD Try.prog w0 n c Q f (Blk pr (.cells #[.slice a1 R.length c1, .slice a2 Sl.length c2, .slice a3 Pa.length c3, .int .i64 t.most] 73 (0, 0)) :: Row 30 encRoot (.slice a1 R.length c1) R :: Row 3 encI64 (.slice a2 Sl.length c2) Sl :: Row 30 encRoot (.slice a3 Pa.length c3) Pa :: l)) : CD Try.prog w0 n c Q f (RTreeObj pr t :: l) := fun a w r s =>
  let ⟨a1, c1, a2, c2, a3, c3, R, Sl, Pa, hw, hR, s'⟩ := s.rtreeOpen
  h a1 c1 a2 c2 a3 c3 R Sl Pa hw hR a w r s'

set_option maxRecDepth 100000 in
set_option maxHeartbeats 1000000 in
theorem WeighDoes_calls {w0 w : World} {l : List HProp} (lo : Option Addr) (lc : Nat) (xs : List WAct) (odd : Root) (hs : Sat w0 w (l)) (hr : Rds w0 l encWAct lo xs) (hq : ∀ a ∈ xs, I64 a.kind ∧ I64 a.root ∧ I64 a.parent ∧ I64 a.slot ∧ I64 a.n ∧ I64 a.more) :
    Calls Try.prog 9 #[.slice lo xs.length lc, .agg (rootC odd).toArray] w (Ret w0 fun v l' => v = .bool true ∧ l' = l) := by
  refine calls_enter Try.func9 rfl rfl rfl hs ?_
  refine cd_sr ?_   -- 0
  refine ol_i (wn_none rfl) (os_boxa rfl) rfl ?_; rintro _ _ ⟨bx1, rfl, rfl⟩
  refine ol_q (wn_none rfl) (op_assign (v := .bool _) rfl) rfl ?_
  refine ol_nil_then ?_
  refine cd_seq ?_
  refine cd_sr ?_   -- 1
  refine ol_i (wn_none rfl) (os_call cb_33 rfl (fun w s => wlAlive_calls  s )) rfl ?_; rintro _ l ⟨rfl, rfl⟩
  refine ol_q (wn_none rfl) (op_not rfl) rfl ?_
  refine ol_nil_then ?_
  refine cd_cond_f rfl rfl ?_
  refine cd_skip ?_
  refine px_then ?_
  refine cd_seq ?_
  refine cd_sr ?_   -- 3
  refine ol_q (wn_none rfl) (op_move (v := .slice _ _ _) rfl) rfl ?_
  refine ol_q (wn_none rfl) (op_len_slice Try.underlying57 rfl) rfl ?_
  refine ol_q (wn_none rfl) (op_gt rfl rfl) rfl ?_
  refine ol_nil_then ?_
  refine cd_cond rfl (fun hb1 => ?_) (fun hb1 => ?_)
  · have hp1 := hb1
    (try simp only [decide_eq_true_eq, decide_eq_false_iff_not, Bool.not_eq_true', Bool.not_eq_false', ne_eq, Decidable.not_not] at hp1)
    refine cd_sr ?_   -- 4
    refine ol_q (wn_none rfl) (op_assign (v := .bool _) rfl) rfl ?_
    refine ol_nil_then ?_
    refine cd_ret ?_
    refine px_thenR ?_
    exact px_ret1 rfl (v := .bool _) rfl (fun _ s => (s.del 0)) ⟨congrArg Value.bool (rfl), rfl⟩
  · have hp1 := hb1
    (try simp only [decide_eq_true_eq, decide_eq_false_iff_not, Bool.not_eq_true', Bool.not_eq_false', ne_eq, Decidable.not_not] at hp1)
    refine cd_skip ?_
    refine px_then ?_
    refine cd_sr ?_   -- 5
    refine ol_q (wn_none rfl) (op_assign (v := .pointer _) rfl) rfl ?_
    refine ol_nil_then ?_
    refine cd_sr ?_   -- 6
    refine ol_q (wn_none rfl) (op_move (v := .pointer _) rfl) rfl ?_
    refine ol_q (wn_none rfl) (op_lda (L := rootC _) 0 ag_30 rfl rfl (rootC_take' _) (by simp [rootC_len])) rfl ?_
    refine ol_i (wn_none rfl) (os_call cb_34 rfl (fun w s => Best_nil _  s )) rfl ?_; rintro _ l ⟨rfl, rfl⟩
    refine ol_q (wn_none rfl) (op_move (v := .tuple _) rfl) rfl ?_
    refine ol_q (wn_none rfl) (op_extract (v := .agg _) rfl rfl) rfl ?_
    refine ol_q (wn_none rfl) (op_extract (v := .bool _) rfl rfl) rfl ?_
    refine ol_i (wn_none rfl) (os_alloc (cs := (rootC Root.zero).toArray) zB_30 (by kernel_rfl)) rfl ?_; rintro _ _ ⟨bx2, rfl, rfl⟩
    refine ol_iN (wn_none rfl) (os_storera _ ag_30 rfl rfl (Free.zero _)) ?_; rintro _ _ ⟨rfl, rfl⟩
    refine ol_q (wn_none rfl) (op_assign (v := .bool _) rfl) rfl ?_
    refine ol_nil_then ?_
    refine cd_seq ?_
    refine cd_sr ?_   -- 7
    refine ol_i (wn_none rfl) (os_call cb_35 rfl (fun w s => WNew_nil  s )) rfl ?_; rintro _ l ⟨rfl, rfl⟩
    refine ol_q (wn_none rfl) (op_nenil Try.underlying58 rfl rfl) rfl ?_
    refine ol_q (wn_none rfl) (op_move (v := .bool _) rfl) rfl ?_
    refine ol_q (wn_some rfl rfl rfl rfl rfl) (op_move (v := .pointer _) rfl) rfl ?_
    refine ol_i (wn_some rfl rfl rfl rfl rfl) (os_call cb_36 rfl (fun w s => Apply_nil _  s )) rfl ?_; rintro _ l ⟨rfl, rfl⟩
    refine ol_q (wn_some rfl rfl rfl rfl rfl) (op_ne rfl rfl) rfl ?_
    refine ol_q (wn_none rfl) (op_pick_f (v := .bool _) rfl rfl rfl) rfl ?_
    refine ol_q (wn_none rfl) (op_move (v := .bool _) rfl) rfl ?_
    refine ol_split 35 rfl (fun hb2 => ?_) (fun hb2 => ?_)
    · have hp2 := hb2
      (try simp only [decide_eq_true_eq, decide_eq_false_iff_not, Bool.not_eq_true', Bool.not_eq_false', ne_eq, Decidable.not_not] at hp2)
      exact absurd hb2 (by simp)
    · have hp2 := hb2
      (try simp only [decide_eq_true_eq, decide_eq_false_iff_not, Bool.not_eq_true', Bool.not_eq_false', ne_eq, Decidable.not_not] at hp2)
      refine ol_q (wn_some rfl rfl rfl hb2 rfl) (op_move (v := .pointer _) rfl) rfl ?_
      refine ol_q (wn_some rfl rfl rfl hb2 rfl) (op_lda (L := rootC _) 1 ag_30 rfl rfl (rootC_take' _) (by simp [rootC_len])) rfl ?_
      refine ol_i (wn_some rfl rfl rfl hb2 rfl) (os_call cb_37 rfl (fun w s => Own_nil _  s )) rfl ?_; rintro _ l ⟨rfl, rfl⟩
      refine ol_q (wn_some rfl rfl rfl hb2 rfl) (op_ne rfl rfl) rfl ?_
      refine ol_q (wn_none rfl) (op_pick_f (v := .bool _) rfl hb2 rfl) rfl ?_
      refine ol_q (wn_none rfl) (op_move (v := .bool _) rfl) rfl ?_
      refine ol_split 41 rfl (fun hb3 => ?_) (fun hb3 => ?_)
      · have hp3 := hb3
        (try simp only [decide_eq_true_eq, decide_eq_false_iff_not, Bool.not_eq_true', Bool.not_eq_false', ne_eq, Decidable.not_not] at hp3)
        exact absurd hb3 (by simp)
      · have hp3 := hb3
        (try simp only [decide_eq_true_eq, decide_eq_false_iff_not, Bool.not_eq_true', Bool.not_eq_false', ne_eq, Decidable.not_not] at hp3)
        refine ol_q (wn_some rfl rfl rfl hb3 rfl) (op_move (v := .pointer _) rfl) rfl ?_
        refine ol_q (wn_some rfl rfl rfl hb3 rfl) (op_lda (L := rootC _) 1 ag_30 rfl rfl (rootC_take' _) (by simp [rootC_len])) rfl ?_
        refine ol_i (wn_some rfl rfl rfl hb3 rfl) (os_call cb_38 rfl (fun w s => Weight_nil _  s )) rfl ?_; rintro _ l ⟨rfl, rfl⟩
        refine ol_q (wn_some rfl rfl rfl hb3 rfl) (op_ne rfl rfl) rfl ?_
        refine ol_q (wn_none rfl) (op_pick_f (v := .bool _) rfl hb3 rfl) rfl ?_
        refine ol_q (wn_none rfl) (op_move (v := .bool _) rfl) rfl ?_
        refine ol_split 47 rfl (fun hb4 => ?_) (fun hb4 => ?_)
        · have hp4 := hb4
          (try simp only [decide_eq_true_eq, decide_eq_false_iff_not, Bool.not_eq_true', Bool.not_eq_false', ne_eq, Decidable.not_not] at hp4)
          exact absurd hb4 (by simp)
        · have hp4 := hb4
          (try simp only [decide_eq_true_eq, decide_eq_false_iff_not, Bool.not_eq_true', Bool.not_eq_false', ne_eq, Decidable.not_not] at hp4)
          refine ol_q (wn_some rfl rfl rfl hb4 rfl) (op_move (v := .bool _) rfl) rfl ?_
          refine ol_q (wn_none rfl) (op_pick_f (v := .bool _) rfl hb4 rfl) rfl ?_
          refine ol_q (wn_none rfl) (op_move (v := .bool _) rfl) rfl ?_
          refine ol_split 50 rfl (fun hb5 => ?_) (fun hb5 => ?_)
          · have hp5 := hb5
            (try simp only [decide_eq_true_eq, decide_eq_false_iff_not, Bool.not_eq_true', Bool.not_eq_false', ne_eq, Decidable.not_not] at hp5)
            exact absurd hb5 (by simp)
          · have hp5 := hb5
            (try simp only [decide_eq_true_eq, decide_eq_false_iff_not, Bool.not_eq_true', Bool.not_eq_false', ne_eq, Decidable.not_not] at hp5)
            refine ol_q (wn_some rfl rfl rfl hb5 rfl) (op_move (v := .pointer _) rfl) rfl ?_
            refine ol_i (wn_some rfl rfl rfl hb5 rfl) (os_call cb_39 rfl (fun w s => Head_nil  s )) rfl ?_; rintro _ l ⟨rfl, rfl⟩
            refine ol_q (wn_some rfl rfl rfl hb5 rfl) (op_buildr rfl rB_30 zBr_30) rfl ?_
            refine ol_q (wn_some rfl rfl rfl hb5 rfl) (op_neroot _ _ rB_30 rfl rfl) rfl ?_
            refine ol_q (wn_none rfl) (op_pick_f (v := .bool _) rfl hb5 rfl) rfl ?_
            refine ol_nil_then ?_
            refine cd_cond rfl (fun hb6 => ?_) (fun hb6 => ?_)
            · have hp6 := hb6
              (try simp only [decide_eq_true_eq, decide_eq_false_iff_not, Bool.not_eq_true', Bool.not_eq_false', ne_eq, Decidable.not_not] at hp6)
              exact absurd hb6 (by simp)
            · have hp6 := hb6
              (try simp only [decide_eq_true_eq, decide_eq_false_iff_not, Bool.not_eq_true', Bool.not_eq_false', ne_eq, Decidable.not_not] at hp6)
              refine cd_skip ?_
              refine px_then ?_
              refine cd_sr ?_   -- 9
              refine ol_i (wn_none rfl) (os_call cb_40 rfl (fun w s => begun_calls  s )) rfl ?_; rintro _ _ ⟨pt8, pw8, pr8, pm8, rfl, rfl⟩
              refine ol_i (wn_none rfl) (os_alloc zB_66 rfl) rfl ?_; rintro _ _ ⟨bx3, rfl, rfl⟩
              refine ol_iN (wn_none rfl) (os_storea (L' := [_, _, _]) ag_66 rfl rfl rfl (by simp [Value.oneCell']) rfl (Free.zero _) rfl) ?_; rintro _ _ ⟨rfl, rfl⟩
              refine ol_nil_then ?_
              refine cd_seq ?_
              refine cd_sr ?_   -- 10
              refine ol_q (wn_none rfl) (op_move (v := .slice _ _ _) rfl) rfl ?_
              refine ol_q (wn_none rfl) (op_len_slice Try.underlying57 rfl) rfl ?_
              refine ol_q (wn_none rfl) (op_move (v := .int _ _) rfl) rfl ?_
              refine ol_nil_then ?_
              refine cd_block ?_
              refine cd_pull4 ?_
              refine cd_pull4 ?_
              refine cd_pull4 ?_
              refine cd_pull4 ?_
              refine cd_loop2 (α := Nat) [(4, 4), (10, 10), (59, 76)] (fun x => [(59, .int .i64 (x : Int))]) (fun x => TreeObj pt8 (runW (xs.take x)).1 :: WObj pw8 pt8 (runW (xs.take x)).1.nodes (runW (xs.take x)).2 :: RTreeObj pr8 (runW (xs.take x)).1 :: RWObj pm8 pr8 (runW (xs.take x)).2 :: _) (fun x => x ≤ xs.length) (fun x => xs.length - x) 0 (Nat.zero_le _) ⟨rfl, trivial⟩ (fun _ s => by (try dsimp only); rw [List.take_zero]; exact s) ?_
              rintro i hi f; (try dsimp only at hi ⊢)
              have hO := OKW.run (xs.take i)
              refine cd_sr ?_   -- 11
              refine ol_q (wn_none rfl) (op_lt rfl rfl) rfl ?_
              refine ol_nil_then ?_
              refine cd_seq ?_
              refine cd_cond rfl (fun hb7 => ?_) (fun hb7 => ?_)
              · have hp7 := hb7
                (try simp only [decide_eq_true_eq, decide_eq_false_iff_not, Bool.not_eq_true', Bool.not_eq_false', ne_eq, Decidable.not_not] at hp7)
                have hi1 : i < xs.length := by omega
                have hO2 := hO.step xs[i]
                refine cd_skip ?_
                refine px_then ?_
                refine cd_seq ?_
                refine cd_block ?_
                refine cd_sr ?_   -- 12
                refine ol_q (wn_none rfl) (op_index i sB_57 rfl rfl rfl (((((((hr.cons _).cons _).cons _).cons _).cons _).cons _).cons _) rfl (by omega)) rfl ?_
                refine ol_q (wn_none rfl) (op_ldaw (L := wActC _) ag_69 (((((((hr.cons _).cons _).cons _).cons _).cons _).cons _).cons _) rfl (by omega) rfl (wActC_ta _)) rfl ?_
                refine ol_i (wn_none rfl) (os_alloc (cs := (wActC WAct.zero).toArray) zB_69 (by kernel_rfl)) rfl ?_; rintro _ _ ⟨bx4, rfl, rfl⟩
                refine ol_iN (wn_none rfl) (os_storew (wActC _) ag_69 rfl rfl (wActC_len _) (wActC_one _) (by simp [wActC_len]) (Free.zero _)) ?_; rintro _ _ ⟨rfl, rfl⟩
                refine ol_nil_then ?_
                refine cd_pull1 ?_
                refine cd_pull2 ?_
                refine cd_pull3 ?_
                refine cd_pull4 ?_
                refine cd_seq ?_   -- 13
                refine cd_drawe (M := [_, _, _, _]) mx [2, 7, 10] ?_
                -- 0
                refine et_quiet 0 (by kernel_rfl) rfl (by kernel_rfl) (wn_none rfl) (op_lda 1 ag_66 rfl rfl (by rfl) (by simp)) rfl ?_
                -- 1
                refine et_quiet 1 (by kernel_rfl) rfl (by kernel_rfl) (wn_none rfl) (op_lda (L := wActC _) 0 ag_69 rfl rfl (wActC_ta _) (by simp [wActC_len])) rfl ?_
                refine et_1 (i := 2) (by kernel_rfl) ?_
                refine ei_i rfl rfl (wn_none rfl) (os_pull1 (os_pull2 (os_pull3 (os_call cb_41 rfl (fun w s => do_calls _ _ _ _ _ _ _  s hO.le hO.ow))))) rfl ?_; rintro _ _ ⟨rfl, rfl⟩; refine ⟨[_, _, _, _], rfl, ?_⟩
                -- 3
                refine et_quiet 3 (by kernel_rfl) rfl (by kernel_rfl) (wn_none rfl) (op_not rfl) rfl ?_
                -- 4
                refine et_quiet 4 (by kernel_rfl) rfl (by kernel_rfl) (wn_none rfl) (op_move (v := .bool _) rfl) rfl ?_
                -- 5
                refine et_quiet 5 (by kernel_rfl) rfl (by kernel_rfl) (wn_some rfl rfl rfl rfl rfl) (op_field fld_66_1 rfl) rfl ?_
                -- 6
                refine et_quiet 6 (by kernel_rfl) rfl (by kernel_rfl) (wn_some rfl rfl rfl rfl rfl) (op_ld 1 sc_58 rfl rfl rfl) rfl ?_
                -- 8
                refine et_quiet 8 (by kernel_rfl) rfl (by kernel_rfl) (wn_some rfl rfl rfl rfl rfl) (op_field fld_66_2 rfl) rfl ?_
                -- 9
                refine et_quiet 9 (by kernel_rfl) rfl (by kernel_rfl) (wn_some rfl rfl rfl rfl rfl) (op_ld 1 sc_64 rfl rfl rfl) rfl ?_
                refine et_1 (i := 7) (by kernel_rfl) ?_
                refine ei_i rfl rfl (wn_some rfl rfl rfl rfl rfl) (os_back (os_pull1 (os_pull1 (os_call cb_39 rfl (fun w s => Head_calls _ _ _ _  s hO2.le hO2.pos)))) (fun _ s => s)) rfl ?_; rintro _ _ ⟨rfl, rfl⟩; refine ⟨[_, _, _, _], rfl, ?_⟩
                refine et_1 (i := 10) (by kernel_rfl) ?_
                refine ei_i rfl rfl (wn_some rfl rfl rfl rfl rfl) (os_back (os_pull3 (os_pull3 (os_call cb_42 rfl (fun w s => RHeadW_calls _ _ _ _  s hO2.le hO2.ow hO2.pos)))) (fun _ s => ((((((((s.pull 7).pull 7).pull 7).pull 7).pull 5).pull 5).pull 7).pull 7))) rfl ?_; rintro _ _ ⟨rfl, rfl⟩; refine ⟨[_, _, _, _], rfl, ?_⟩
                -- 11
                refine et_quiet 11 (by kernel_rfl) rfl (by kernel_rfl) (wn_some rfl rfl rfl rfl rfl) (op_neroot _ _ rB_30 rfl rfl) rfl ?_
                -- 12
                refine et_quiet 12 (by kernel_rfl) rfl (by kernel_rfl) (wn_none rfl) (op_pick_f (v := .bool _) rfl rfl rfl) rfl ?_
                refine et_nil_then (by kernel_rfl) ?_
                refine cd_cond rfl (fun hb8 => ?_) (fun hb8 => ?_)
                · have hp8 := hb8
                  (try simp only [decide_eq_true_eq, decide_eq_false_iff_not, Bool.not_eq_true', Bool.not_eq_false', ne_eq, Decidable.not_not] at hp8)
                  exact absurd hb8 (by simp)
                · have hp8 := hb8
                  (try simp only [decide_eq_true_eq, decide_eq_false_iff_not, Bool.not_eq_true', Bool.not_eq_false', ne_eq, Decidable.not_not] at hp8)
                  refine cd_skip ?_
                  refine px_blockN ?_
                  refine px_then ?_
                  refine cd_region ?_   -- 15
                  refine ol_q (wn_none rfl) (op_add rfl rfl (by omega) (by omega)) rfl ?_
                  refine ol_q (wn_none rfl) (op_move (v := .int _ _) rfl) rfl ?_
                  refine ol_nil ?_
                  refine px_loop2 (i + 1) (by omega) (by (try dsimp only); omega) ⟨congrArg (Value.int .i64) (by simp), trivial⟩ ?_ (fun _ s => (by (try dsimp only); rw [runW_succ hi1]; exact (s.del 4)))
                  repeat (first | exact kept_over | refine kept_upd rfl ?_ | refine kept_overS (by decide) ?_)
              · have hp7 := hb7
                (try simp only [decide_eq_true_eq, decide_eq_false_iff_not, Bool.not_eq_true', Bool.not_eq_false', ne_eq, Decidable.not_not] at hp7)
                have hF := OKW.run xs
                have hie : i = xs.length := by omega
                rw [hie, List.take_length]
                refine cd_exit ?_
                refine px_thenE ?_
                refine px_thenE ?_
                refine px_blockE ?_
                refine px_then ?_
                refine cd_seq ?_
                refine cd_sr ?_   -- 16
                refine ol_q (wn_none rfl) (op_assign (v := .int _ _) rfl) rfl ?_
                refine ol_nil_then ?_
                refine cd_block ?_
                refine cd_loop2 (α := Nat) [(4, 4), (11, 16), (77, 156)] (fun x => [(11, .int .i64 (x : Int))]) (fun _ => RTreeObj pr8 (runW xs).1 :: RWObj pm8 pr8 (runW xs).2 :: TreeObj pt8 (runW xs).1 :: WObj pw8 pt8 (runW xs).1.nodes (runW xs).2 :: Blk bx3 (.cells #[.pointer (some ⟨pt8, 0, none⟩), .pointer (some ⟨pw8, 0, none⟩), .pointer (some ⟨pm8, 0, none⟩)] 66 (0, 0)) :: Blk bx1 (.cells (rootC odd).toArray 30 (0, 0)) :: l) (fun x => x ≤ (runW xs).1.nodes.length + 1) (fun x => (runW xs).1.nodes.length + 1 - x) 0 (by omega) ⟨rfl, trivial⟩ (fun _ s => (((((((s.del 5).pull 5).pull 5).pull 3).pull 3).pull 5).pull 5)) ?_
                rintro i hi f; (try dsimp only at hi ⊢)
                refine cd_seq ?_
                refine cd_rtreeOpen ?_; intro a1 c1 a2 c2 a3 c3 R Sl Pa hw hR
                have hRl : R.length = (runW xs).1.nodes.length := by rw [hR.r, List.length_map]
                have hle := hw.le
                have hm2 := hw.m2
                refine cd_pull4 ?_
                refine cd_rwOpen ?_; intro a4 c4
                refine cd_sr ?_   -- 17
                refine ol_q (wn_none rfl) (op_move (v := .int _ _) rfl) rfl ?_
                refine ol_q (wn_none rfl) (op_field fld_66_2 rfl) rfl ?_
                refine ol_q (wn_none rfl) (op_ld 8 sc_64 rfl rfl rfl) rfl ?_
                refine ol_q (wn_none rfl) (op_nilck rfl) rfl ?_
                refine ol_q (wn_none rfl) (op_field fld_75_0 rfl) rfl ?_
                refine ol_q (wn_none rfl) (op_ld 0 sc_25 rfl rfl rfl) rfl ?_
                refine ol_q (wn_none rfl) (op_nilck rfl) rfl ?_
                refine ol_q (wn_none rfl) (op_field fld_73_0 rfl) rfl ?_
                refine ol_q (wn_none rfl) (op_ld 2 sc_45 rfl rfl rfl) rfl ?_
                refine ol_q (wn_none rfl) (op_len_slice Try.underlying45 rfl) rfl ?_
                refine ol_q (wn_none rfl) (op_le rfl rfl) rfl ?_
                refine ol_nil_then ?_
                refine cd_cond rfl (fun hb9 => ?_) (fun hb9 => ?_)
                · have hp9 := hb9
                  (try simp only [decide_eq_true_eq, decide_eq_false_iff_not, Bool.not_eq_true', Bool.not_eq_false', ne_eq, Decidable.not_not] at hp9)
                  refine cd_skip ?_
                  refine px_then ?_
                  refine cd_seq ?_
                  refine cd_block ?_
                  refine cd_sr ?_   -- 19
                  refine ol_q (wn_none rfl) (op_lda (L := rootC _) 9 ag_30 rfl rfl (rootC_take' _) (by simp [rootC_len])) rfl ?_
                  refine ol_i (wn_none rfl) (os_alloc (cs := (rootC Root.zero).toArray) zB_30 (by kernel_rfl)) rfl ?_; rintro _ _ ⟨bx5, rfl, rfl⟩
                  refine ol_iN (wn_none rfl) (os_storera _ ag_30 rfl rfl (Free.zero _)) ?_; rintro _ _ ⟨rfl, rfl⟩
                  refine ol_nil_then ?_
                  refine cd_seq ?_
                  refine cd_sr ?_   -- 20
                  refine ol_q (wn_none rfl) (op_move (v := .int _ _) rfl) rfl ?_
                  refine ol_q (wn_none rfl) (op_field fld_66_2 rfl) rfl ?_
                  refine ol_q (wn_none rfl) (op_ld 9 sc_64 rfl rfl rfl) rfl ?_
                  refine ol_q (wn_none rfl) (op_nilck rfl) rfl ?_
                  refine ol_q (wn_none rfl) (op_field fld_75_0 rfl) rfl ?_
                  refine ol_q (wn_none rfl) (op_ld 1 sc_25 rfl rfl rfl) rfl ?_
                  refine ol_q (wn_none rfl) (op_nilck rfl) rfl ?_
                  refine ol_q (wn_none rfl) (op_field fld_73_0 rfl) rfl ?_
                  refine ol_q (wn_none rfl) (op_ld 3 sc_45 rfl rfl rfl) rfl ?_
                  refine ol_q (wn_none rfl) (op_len_slice Try.underlying45 rfl) rfl ?_
                  refine ol_q (wn_none rfl) (op_lt rfl rfl) rfl ?_
                  refine ol_nil_then ?_
                  refine cd_cond rfl (fun hb10 => ?_) (fun hb10 => ?_)
                  · have hp10 := hb10
                    (try simp only [decide_eq_true_eq, decide_eq_false_iff_not, Bool.not_eq_true', Bool.not_eq_false', ne_eq, Decidable.not_not] at hp10)
                    refine cd_region ?_   -- 21
                    refine ol_q (wn_none rfl) (op_field fld_66_2 rfl) rfl ?_
                    refine ol_q (wn_none rfl) (op_ld 9 sc_64 rfl rfl rfl) rfl ?_
                    refine ol_q (wn_none rfl) (op_nilck rfl) rfl ?_
                    refine ol_q (wn_none rfl) (op_field fld_75_0 rfl) rfl ?_
                    refine ol_q (wn_none rfl) (op_ld 1 sc_25 rfl rfl rfl) rfl ?_
                    refine ol_q (wn_none rfl) (op_nilck rfl) rfl ?_
                    refine ol_q (wn_none rfl) (op_field fld_73_0 rfl) rfl ?_
                    refine ol_q (wn_none rfl) (op_ld 3 sc_45 rfl rfl rfl) rfl ?_
                    refine ol_q (wn_none rfl) (op_move (v := .int _ _) rfl) rfl ?_
                    refine ol_q (wn_none rfl) (op_index i sB_45 rfl rfl rfl (rds_row 4 rfl rfl) rfl (by omega)) rfl ?_
                    refine ol_q (wn_none rfl) (op_ldaw (L := rootC _) ag_30 (rds_row 4 rfl rfl) rfl (by omega) rfl (rootC_ta _)) rfl ?_
                    refine ol_iN (wn_none rfl) (os_storera _ ag_30 rfl rfl (Free.zero _)) ?_; rintro _ _ ⟨rfl, rfl⟩
                    refine ol_nil ?_
                    refine px_then ?_
                    refine cd_imp (l' := RTreeObj pr8 (runW xs).1 :: RWObj pm8 pr8 (runW xs).2 :: TreeObj pt8 (runW xs).1 :: WObj pw8 pt8 (runW xs).1.nodes (runW xs).2 :: Blk bx3 (.cells #[.pointer (some ⟨pt8, 0, none⟩), .pointer (some ⟨pw8, 0, none⟩), .pointer (some ⟨pm8, 0, none⟩)] 66 (0, 0)) :: Blk bx1 (.cells (rootC odd).toArray 30 (0, 0)) :: Blk bx5 (.cells (rootC R[i]).toArray 30 (0, 0)) :: l) (fun _ s => by
                      have s2 : Sat _ _ (RWObj pm8 pr8 (runW xs).2 :: Blk pr8 (.cells #[.slice a1 R.length c1, .slice a2 Sl.length c2, .slice a3 Pa.length c3, .int .i64 (runW xs).1.most] 73 (0, 0)) :: Row 30 encRoot (.slice a1 R.length c1) R :: Row 3 encI64 (.slice a2 Sl.length c2) Sl :: Row 30 encRoot (.slice a3 Pa.length c3) Pa :: TreeObj pt8 (runW xs).1 :: WObj pw8 pt8 (runW xs).1.nodes (runW xs).2 :: Blk bx3 (.cells #[.pointer (some ⟨pt8, 0, none⟩), .pointer (some ⟨pw8, 0, none⟩), .pointer (some ⟨pm8, 0, none⟩)] 66 (0, 0)) :: Blk bx1 (.cells (rootC odd).toArray 30 (0, 0)) :: Blk bx5 (.cells (rootC R[i]).toArray 30 (0, 0)) :: l) := Sat.rwMk rfl rfl ((((((((((s.pull 10).pull 10).pull 10).pull 10).pull 10).pull 10).pull 10).pull 10).pull 10).pull 10)
                      have s3 : Sat _ _ (Blk pr8 (.cells #[.slice a1 R.length c1, .slice a2 Sl.length c2, .slice a3 Pa.length c3, .int .i64 (runW xs).1.most] 73 (0, 0)) :: Row 30 encRoot (.slice a1 R.length c1) R :: Row 3 encI64 (.slice a2 Sl.length c2) Sl :: Row 30 encRoot (.slice a3 Pa.length c3) Pa :: RWObj pm8 pr8 (runW xs).2 :: TreeObj pt8 (runW xs).1 :: WObj pw8 pt8 (runW xs).1.nodes (runW xs).2 :: Blk bx3 (.cells #[.pointer (some ⟨pt8, 0, none⟩), .pointer (some ⟨pw8, 0, none⟩), .pointer (some ⟨pm8, 0, none⟩)] 66 (0, 0)) :: Blk bx1 (.cells (rootC odd).toArray 30 (0, 0)) :: Blk bx5 (.cells (rootC R[i]).toArray 30 (0, 0)) :: l) := (((s2.pull 4).pull 4).pull 4).pull 4
                      exact Sat.rtreeMk hw hR rfl rfl rfl s3) ?_
                    refine cd_sr ?_   -- 22
                    refine ol_q (wn_none rfl) (op_field fld_66_1 rfl) rfl ?_
                    refine ol_q (wn_none rfl) (op_ld 4 sc_58 rfl rfl rfl) rfl ?_
                    refine ol_q (wn_none rfl) (op_lda (L := rootC _) 6 ag_30 rfl rfl (rootC_take' _) (by simp [rootC_len])) rfl ?_
                    refine ol_pull3 ?_
                    refine ol_pull3 ?_
                    refine ol_i (wn_none rfl) (os_call cb_34 rfl (fun w s => Best_calls _ _ _ _ _  s hF.le)) rfl ?_; rintro _ _ ⟨rfl, rfl⟩
                    refine ol_q (wn_none rfl) (op_move (v := .tuple _) rfl) rfl ?_
                    refine ol_q (wn_none rfl) (op_extract (v := .agg _) rfl rfl) rfl ?_
                    refine ol_q (wn_none rfl) (op_extract (v := .bool _) rfl rfl) rfl ?_
                    refine ol_i (wn_none rfl) (os_alloc (cs := (rootC Root.zero).toArray) zB_30 (by kernel_rfl)) rfl ?_; rintro _ _ ⟨bx6, rfl, rfl⟩
                    refine ol_iN (wn_none rfl) (os_storera _ ag_30 rfl rfl (Free.zero _)) ?_; rintro _ _ ⟨rfl, rfl⟩
                    refine ol_q (wn_none rfl) (op_assign (v := .bool _) rfl) rfl ?_
                    refine ol_nil_then ?_
                    refine cd_sr ?_   -- 23
                    refine ol_q (wn_none rfl) (op_field fld_66_2 rfl) rfl ?_
                    refine ol_q (wn_none rfl) (op_ld 5 sc_64 rfl rfl rfl) rfl ?_
                    refine ol_q (wn_none rfl) (op_lda (L := rootC _) 7 ag_30 rfl rfl (rootC_take' _) (by simp [rootC_len])) rfl ?_
                    refine ol_pull4 ?_
                    refine ol_pull4 ?_
                    refine ol_i (wn_none rfl) (os_call cb_43 rfl (fun w s => RBestW_calls _ _ _ _ _  s hF.le hF.ow)) rfl ?_; rintro _ _ ⟨rfl, rfl⟩
                    refine ol_q (wn_none rfl) (op_move (v := .tuple _) rfl) rfl ?_
                    refine ol_q (wn_none rfl) (op_extract (v := .agg _) rfl rfl) rfl ?_
                    refine ol_q (wn_none rfl) (op_extract (v := .bool _) rfl rfl) rfl ?_
                    refine ol_i (wn_none rfl) (os_alloc (cs := (rootC Root.zero).toArray) zB_30 (by kernel_rfl)) rfl ?_; rintro _ _ ⟨bx7, rfl, rfl⟩
                    refine ol_iN (wn_none rfl) (os_storera _ ag_30 rfl rfl (Free.zero _)) ?_; rintro _ _ ⟨rfl, rfl⟩
                    refine ol_q (wn_none rfl) (op_assign (v := .bool _) rfl) rfl ?_
                    refine ol_nil_then ?_
                    refine cd_seq ?_   -- 24
                    refine cd_drawe (M := []) mx [3, 7, 13, 17] ?_
                    -- 0
                    refine et_quiet 0 (by kernel_rfl) rfl (by kernel_rfl) (wn_none rfl) (op_field fld_66_1 rfl) rfl ?_
                    -- 1
                    refine et_quiet 1 (by kernel_rfl) rfl (by kernel_rfl) (wn_none rfl) (op_ld 6 sc_58 rfl rfl rfl) rfl ?_
                    -- 2
                    refine et_quiet 2 (by kernel_rfl) rfl (by kernel_rfl) (wn_none rfl) (op_lda (L := rootC _) 8 ag_30 rfl rfl (rootC_take' _) (by simp [rootC_len])) rfl ?_
                    -- 4
                    refine et_quiet 4 (by kernel_rfl) rfl (by kernel_rfl) (wn_none rfl) (op_field fld_66_2 rfl) rfl ?_
                    -- 5
                    refine et_quiet 5 (by kernel_rfl) rfl (by kernel_rfl) (wn_none rfl) (op_ld 6 sc_64 rfl rfl rfl) rfl ?_
                    -- 6
                    refine et_quiet 6 (by kernel_rfl) rfl (by kernel_rfl) (wn_none rfl) (op_lda (L := rootC _) 8 ag_30 rfl rfl (rootC_take' _) (by simp [rootC_len])) rfl ?_
                    refine et_1 (i := 3) (by kernel_rfl) ?_
                    refine ei_i rfl rfl (wn_none rfl) (os_back (os_pull5 (os_pull5 (os_call cb_37 rfl (fun w s => Own_calls _ _ _ _ _  s )))) (fun _ s => (((((((((s.pull 8).pull 8).pull 8).pull 4).pull 4).pull 8).pull 8).pull 8).pull 8))) rfl ?_; rintro _ _ ⟨rfl, rfl⟩; refine ⟨[], rfl, ?_⟩
                    refine et_1 (i := 7) (by kernel_rfl) ?_
                    refine ei_i rfl rfl (wn_none rfl) (os_back (os_pull2 (os_pull2 (os_call cb_44 rfl (fun w s => ROwnOf_calls _ _ _ _ _  s hF.le hF.ow)))) (fun _ s => (((((((((s.pull 8).pull 8).pull 8).pull 8).pull 8).pull 8).pull 7).pull 7).pull 8))) rfl ?_; rintro _ _ ⟨rfl, rfl⟩; refine ⟨[], rfl, ?_⟩
                    -- 8
                    refine et_quiet 8 (by kernel_rfl) rfl (by kernel_rfl) (wn_none rfl) (op_ne rfl rfl) rfl ?_
                    -- 9
                    refine et_quiet 9 (by kernel_rfl) rfl (by kernel_rfl) (wn_none rfl) (op_move (v := .bool _) rfl) rfl ?_
                    refine et_split 136 rfl (fun hb11 => ?_) (fun hb11 => ?_)
                    · have hp11 := hb11
                      (try simp only [decide_eq_true_eq, decide_eq_false_iff_not, Bool.not_eq_true', Bool.not_eq_false', ne_eq, Decidable.not_not] at hp11)
                      exact absurd hb11 (by simp)
                    · have hp11 := hb11
                      (try simp only [decide_eq_true_eq, decide_eq_false_iff_not, Bool.not_eq_true', Bool.not_eq_false', ne_eq, Decidable.not_not] at hp11)
                      -- 10
                      refine et_quiet 10 (by kernel_rfl) rfl (by kernel_rfl) (wn_some rfl rfl rfl hb11 rfl) (op_field fld_66_1 rfl) rfl ?_
                      -- 11
                      refine et_quiet 11 (by kernel_rfl) rfl (by kernel_rfl) (wn_some rfl rfl rfl hb11 rfl) (op_ld 6 sc_58 rfl rfl rfl) rfl ?_
                      -- 12
                      refine et_quiet 12 (by kernel_rfl) rfl (by kernel_rfl) (wn_some rfl rfl rfl hb11 rfl) (op_lda (L := rootC _) 8 ag_30 rfl rfl (rootC_take' _) (by simp [rootC_len])) rfl ?_
                      -- 14
                      refine et_quiet 14 (by kernel_rfl) rfl (by kernel_rfl) (wn_some rfl rfl rfl hb11 rfl) (op_field fld_66_2 rfl) rfl ?_
                      -- 15
                      refine et_quiet 15 (by kernel_rfl) rfl (by kernel_rfl) (wn_some rfl rfl rfl hb11 rfl) (op_ld 6 sc_64 rfl rfl rfl) rfl ?_
                      -- 16
                      refine et_quiet 16 (by kernel_rfl) rfl (by kernel_rfl) (wn_some rfl rfl rfl hb11 rfl) (op_lda (L := rootC _) 8 ag_30 rfl rfl (rootC_take' _) (by simp [rootC_len])) rfl ?_
                      refine et_1 (i := 13) (by kernel_rfl) ?_
                      refine ei_i rfl rfl (wn_some rfl rfl rfl hb11 rfl) (os_back (os_pull5 (os_pull5 (os_call cb_38 rfl (fun w s => Weight_calls _ _ _ _ _  s )))) (fun _ s => (((((((((s.pull 8).pull 8).pull 8).pull 4).pull 4).pull 8).pull 8).pull 8).pull 8))) rfl ?_; rintro _ _ ⟨rfl, rfl⟩; refine ⟨[], rfl, ?_⟩
                      refine et_1 (i := 17) (by kernel_rfl) ?_
                      refine ei_i rfl rfl (wn_some rfl rfl rfl hb11 rfl) (os_back (os_pull2 (os_pull2 (os_call cb_45 rfl (fun w s => RWeight_calls _ _ _ _ _  s hF.le hF.ow)))) (fun _ s => (((((((((s.pull 8).pull 8).pull 8).pull 8).pull 8).pull 8).pull 7).pull 7).pull 8))) rfl ?_; rintro _ _ ⟨rfl, rfl⟩; refine ⟨[], rfl, ?_⟩
                      -- 18
                      refine et_quiet 18 (by kernel_rfl) rfl (by kernel_rfl) (wn_some rfl rfl rfl hb11 rfl) (op_ne rfl rfl) rfl ?_
                      -- 19
                      refine et_quiet 19 (by kernel_rfl) rfl (by kernel_rfl) (wn_none rfl) (op_pick_f (v := .bool _) rfl hb11 rfl) rfl ?_
                      -- 20
                      refine et_quiet 20 (by kernel_rfl) rfl (by kernel_rfl) (wn_none rfl) (op_move (v := .bool _) rfl) rfl ?_
                      refine et_split 147 rfl (fun hb12 => ?_) (fun hb12 => ?_)
                      · have hp12 := hb12
                        (try simp only [decide_eq_true_eq, decide_eq_false_iff_not, Bool.not_eq_true', Bool.not_eq_false', ne_eq, Decidable.not_not] at hp12)
                        exact absurd hb12 (by simp)
                      · have hp12 := hb12
                        (try simp only [decide_eq_true_eq, decide_eq_false_iff_not, Bool.not_eq_true', Bool.not_eq_false', ne_eq, Decidable.not_not] at hp12)
                        -- 21
                        refine et_quiet 21 (by kernel_rfl) rfl (by kernel_rfl) (wn_some rfl rfl rfl hb12 rfl) (op_lda (L := rootC _) 3 ag_30 rfl rfl (rootC_take' _) (by simp [rootC_len])) rfl ?_
                        -- 22
                        refine et_quiet 22 (by kernel_rfl) rfl (by kernel_rfl) (wn_some rfl rfl rfl hb12 rfl) (op_lda (L := rootC _) 0 ag_30 rfl rfl (rootC_take' _) (by simp [rootC_len])) rfl ?_
                        -- 23
                        refine et_quiet 23 (by kernel_rfl) rfl (by kernel_rfl) (wn_some rfl rfl rfl hb12 rfl) (op_neroot _ _ rB_30 rfl rfl) rfl ?_
                        -- 24
                        refine et_quiet 24 (by kernel_rfl) rfl (by kernel_rfl) (wn_none rfl) (op_pick_f (v := .bool _) rfl hb12 rfl) rfl ?_
                        -- 25
                        refine et_quiet 25 (by kernel_rfl) rfl (by kernel_rfl) (wn_none rfl) (op_move (v := .bool _) rfl) rfl ?_
                        refine et_split 152 rfl (fun hb13 => ?_) (fun hb13 => ?_)
                        · have hp13 := hb13
                          (try simp only [decide_eq_true_eq, decide_eq_false_iff_not, Bool.not_eq_true', Bool.not_eq_false', ne_eq, Decidable.not_not] at hp13)
                          exact absurd hb13 (by simp)
                        · have hp13 := hb13
                          (try simp only [decide_eq_true_eq, decide_eq_false_iff_not, Bool.not_eq_true', Bool.not_eq_false', ne_eq, Decidable.not_not] at hp13)
                          -- 26
                          refine et_quiet 26 (by kernel_rfl) rfl (by kernel_rfl) (wn_some rfl rfl rfl hb13 rfl) (op_move (v := .bool _) rfl) rfl ?_
                          -- 27
                          refine et_quiet 27 (by kernel_rfl) rfl (by kernel_rfl) (wn_some rfl rfl rfl hb13 rfl) (op_move (v := .bool _) rfl) rfl ?_
                          -- 28
                          refine et_quiet 28 (by kernel_rfl) rfl (by kernel_rfl) (wn_some rfl rfl rfl hb13 rfl) (op_bneq Try.underlying4 rfl rfl) rfl ?_
                          -- 29
                          refine et_quiet 29 (by kernel_rfl) rfl (by kernel_rfl) (wn_none rfl) (op_pick_f (v := .bool _) rfl hb13 rfl) rfl ?_
                          refine et_nil_then (by kernel_rfl) ?_
                          refine cd_cond rfl (fun hb14 => ?_) (fun hb14 => ?_)
                          · have hp14 := hb14
                            (try simp only [decide_eq_true_eq, decide_eq_false_iff_not, Bool.not_eq_true', Bool.not_eq_false', ne_eq, Decidable.not_not] at hp14)
                            exact absurd hb14 (by simp)
                          · have hp14 := hb14
                            (try simp only [decide_eq_true_eq, decide_eq_false_iff_not, Bool.not_eq_true', Bool.not_eq_false', ne_eq, Decidable.not_not] at hp14)
                            refine cd_skip ?_
                            refine px_blockN ?_
                            refine px_then ?_
                            refine cd_region ?_   -- 18
                            refine ol_q (wn_none rfl) (op_move (v := .int _ _) rfl) rfl ?_
                            refine ol_q (wn_none rfl) (op_add rfl rfl (by omega) (by omega)) rfl ?_
                            refine ol_q (wn_none rfl) (op_assign (v := .int _ _) rfl) rfl ?_
                            refine ol_nil ?_
                            refine px_loop2 (i + 1) (by omega) (by (try dsimp only); omega) ⟨congrArg (Value.int .i64) (by simp), trivial⟩ ?_ (fun _ s => (((s.del 8).del 3).del 0))
                            repeat (first | exact kept_over | refine kept_upd rfl ?_ | refine kept_overS (by decide) ?_)
                  · have hp10 := hb10
                    (try simp only [decide_eq_true_eq, decide_eq_false_iff_not, Bool.not_eq_true', Bool.not_eq_false', ne_eq, Decidable.not_not] at hp10)
                    refine cd_skip ?_
                    refine px_then ?_
                    refine cd_imp (l' := RTreeObj pr8 (runW xs).1 :: RWObj pm8 pr8 (runW xs).2 :: TreeObj pt8 (runW xs).1 :: WObj pw8 pt8 (runW xs).1.nodes (runW xs).2 :: Blk bx3 (.cells #[.pointer (some ⟨pt8, 0, none⟩), .pointer (some ⟨pw8, 0, none⟩), .pointer (some ⟨pm8, 0, none⟩)] 66 (0, 0)) :: Blk bx1 (.cells (rootC odd).toArray 30 (0, 0)) :: Blk bx5 (.cells (rootC odd).toArray 30 (0, 0)) :: l) (fun _ s => by
                      have s2 : Sat _ _ (RWObj pm8 pr8 (runW xs).2 :: Blk pr8 (.cells #[.slice a1 R.length c1, .slice a2 Sl.length c2, .slice a3 Pa.length c3, .int .i64 (runW xs).1.most] 73 (0, 0)) :: Row 30 encRoot (.slice a1 R.length c1) R :: Row 3 encI64 (.slice a2 Sl.length c2) Sl :: Row 30 encRoot (.slice a3 Pa.length c3) Pa :: TreeObj pt8 (runW xs).1 :: WObj pw8 pt8 (runW xs).1.nodes (runW xs).2 :: Blk bx3 (.cells #[.pointer (some ⟨pt8, 0, none⟩), .pointer (some ⟨pw8, 0, none⟩), .pointer (some ⟨pm8, 0, none⟩)] 66 (0, 0)) :: Blk bx1 (.cells (rootC odd).toArray 30 (0, 0)) :: Blk bx5 (.cells (rootC odd).toArray 30 (0, 0)) :: l) := Sat.rwMk rfl rfl ((((((((((s.pull 10).pull 10).pull 10).pull 10).pull 10).pull 10).pull 10).pull 10).pull 10).pull 10)
                      have s3 : Sat _ _ (Blk pr8 (.cells #[.slice a1 R.length c1, .slice a2 Sl.length c2, .slice a3 Pa.length c3, .int .i64 (runW xs).1.most] 73 (0, 0)) :: Row 30 encRoot (.slice a1 R.length c1) R :: Row 3 encI64 (.slice a2 Sl.length c2) Sl :: Row 30 encRoot (.slice a3 Pa.length c3) Pa :: RWObj pm8 pr8 (runW xs).2 :: TreeObj pt8 (runW xs).1 :: WObj pw8 pt8 (runW xs).1.nodes (runW xs).2 :: Blk bx3 (.cells #[.pointer (some ⟨pt8, 0, none⟩), .pointer (some ⟨pw8, 0, none⟩), .pointer (some ⟨pm8, 0, none⟩)] 66 (0, 0)) :: Blk bx1 (.cells (rootC odd).toArray 30 (0, 0)) :: Blk bx5 (.cells (rootC odd).toArray 30 (0, 0)) :: l) := (((s2.pull 4).pull 4).pull 4).pull 4
                      exact Sat.rtreeMk hw hR rfl rfl rfl s3) ?_
                    refine cd_sr ?_   -- 22
                    refine ol_q (wn_none rfl) (op_field fld_66_1 rfl) rfl ?_
                    refine ol_q (wn_none rfl) (op_ld 4 sc_58 rfl rfl rfl) rfl ?_
                    refine ol_q (wn_none rfl) (op_lda (L := rootC _) 6 ag_30 rfl rfl (rootC_take' _) (by simp [rootC_len])) rfl ?_
                    refine ol_pull3 ?_
                    refine ol_pull3 ?_
                    refine ol_i (wn_none rfl) (os_call cb_34 rfl (fun w s => Best_calls _ _ _ _ _  s hF.le)) rfl ?_; rintro _ _ ⟨rfl, rfl⟩
                    refine ol_q (wn_none rfl) (op_move (v := .tuple _) rfl) rfl ?_
                    refine ol_q (wn_none rfl) (op_extract (v := .agg _) rfl rfl) rfl ?_
                    refine ol_q (wn_none rfl) (op_extract (v := .bool _) rfl rfl) rfl ?_
                    refine ol_i (wn_none rfl) (os_alloc (cs := (rootC Root.zero).toArray) zB_30 (by kernel_rfl)) rfl ?_; rintro _ _ ⟨bx8, rfl, rfl⟩
                    refine ol_iN (wn_none rfl) (os_storera _ ag_30 rfl rfl (Free.zero _)) ?_; rintro _ _ ⟨rfl, rfl⟩
                    refine ol_q (wn_none rfl) (op_assign (v := .bool _) rfl) rfl ?_
                    refine ol_nil_then ?_
                    refine cd_sr ?_   -- 23
                    refine ol_q (wn_none rfl) (op_field fld_66_2 rfl) rfl ?_
                    refine ol_q (wn_none rfl) (op_ld 5 sc_64 rfl rfl rfl) rfl ?_
                    refine ol_q (wn_none rfl) (op_lda (L := rootC _) 7 ag_30 rfl rfl (rootC_take' _) (by simp [rootC_len])) rfl ?_
                    refine ol_pull4 ?_
                    refine ol_pull4 ?_
                    refine ol_i (wn_none rfl) (os_call cb_43 rfl (fun w s => RBestW_calls _ _ _ _ _  s hF.le hF.ow)) rfl ?_; rintro _ _ ⟨rfl, rfl⟩
                    refine ol_q (wn_none rfl) (op_move (v := .tuple _) rfl) rfl ?_
                    refine ol_q (wn_none rfl) (op_extract (v := .agg _) rfl rfl) rfl ?_
                    refine ol_q (wn_none rfl) (op_extract (v := .bool _) rfl rfl) rfl ?_
                    refine ol_i (wn_none rfl) (os_alloc (cs := (rootC Root.zero).toArray) zB_30 (by kernel_rfl)) rfl ?_; rintro _ _ ⟨bx9, rfl, rfl⟩
                    refine ol_iN (wn_none rfl) (os_storera _ ag_30 rfl rfl (Free.zero _)) ?_; rintro _ _ ⟨rfl, rfl⟩
                    refine ol_q (wn_none rfl) (op_assign (v := .bool _) rfl) rfl ?_
                    refine ol_nil_then ?_
                    refine cd_seq ?_   -- 24
                    refine cd_drawe (M := []) mx [3, 7, 13, 17] ?_
                    -- 0
                    refine et_quiet 0 (by kernel_rfl) rfl (by kernel_rfl) (wn_none rfl) (op_field fld_66_1 rfl) rfl ?_
                    -- 1
                    refine et_quiet 1 (by kernel_rfl) rfl (by kernel_rfl) (wn_none rfl) (op_ld 6 sc_58 rfl rfl rfl) rfl ?_
                    -- 2
                    refine et_quiet 2 (by kernel_rfl) rfl (by kernel_rfl) (wn_none rfl) (op_lda (L := rootC _) 8 ag_30 rfl rfl (rootC_take' _) (by simp [rootC_len])) rfl ?_
                    -- 4
                    refine et_quiet 4 (by kernel_rfl) rfl (by kernel_rfl) (wn_none rfl) (op_field fld_66_2 rfl) rfl ?_
                    -- 5
                    refine et_quiet 5 (by kernel_rfl) rfl (by kernel_rfl) (wn_none rfl) (op_ld 6 sc_64 rfl rfl rfl) rfl ?_
                    -- 6
                    refine et_quiet 6 (by kernel_rfl) rfl (by kernel_rfl) (wn_none rfl) (op_lda (L := rootC _) 8 ag_30 rfl rfl (rootC_take' _) (by simp [rootC_len])) rfl ?_
                    refine et_1 (i := 3) (by kernel_rfl) ?_
                    refine ei_i rfl rfl (wn_none rfl) (os_back (os_pull5 (os_pull5 (os_call cb_37 rfl (fun w s => Own_calls _ _ _ _ _  s )))) (fun _ s => (((((((((s.pull 8).pull 8).pull 8).pull 4).pull 4).pull 8).pull 8).pull 8).pull 8))) rfl ?_; rintro _ _ ⟨rfl, rfl⟩; refine ⟨[], rfl, ?_⟩
                    refine et_1 (i := 7) (by kernel_rfl) ?_
                    refine ei_i rfl rfl (wn_none rfl) (os_back (os_pull2 (os_pull2 (os_call cb_44 rfl (fun w s => ROwnOf_calls _ _ _ _ _  s hF.le hF.ow)))) (fun _ s => (((((((((s.pull 8).pull 8).pull 8).pull 8).pull 8).pull 8).pull 7).pull 7).pull 8))) rfl ?_; rintro _ _ ⟨rfl, rfl⟩; refine ⟨[], rfl, ?_⟩
                    -- 8
                    refine et_quiet 8 (by kernel_rfl) rfl (by kernel_rfl) (wn_none rfl) (op_ne rfl rfl) rfl ?_
                    -- 9
                    refine et_quiet 9 (by kernel_rfl) rfl (by kernel_rfl) (wn_none rfl) (op_move (v := .bool _) rfl) rfl ?_
                    refine et_split 136 rfl (fun hb15 => ?_) (fun hb15 => ?_)
                    · have hp15 := hb15
                      (try simp only [decide_eq_true_eq, decide_eq_false_iff_not, Bool.not_eq_true', Bool.not_eq_false', ne_eq, Decidable.not_not] at hp15)
                      exact absurd hb15 (by simp)
                    · have hp15 := hb15
                      (try simp only [decide_eq_true_eq, decide_eq_false_iff_not, Bool.not_eq_true', Bool.not_eq_false', ne_eq, Decidable.not_not] at hp15)
                      -- 10
                      refine et_quiet 10 (by kernel_rfl) rfl (by kernel_rfl) (wn_some rfl rfl rfl hb15 rfl) (op_field fld_66_1 rfl) rfl ?_
                      -- 11
                      refine et_quiet 11 (by kernel_rfl) rfl (by kernel_rfl) (wn_some rfl rfl rfl hb15 rfl) (op_ld 6 sc_58 rfl rfl rfl) rfl ?_
                      -- 12
                      refine et_quiet 12 (by kernel_rfl) rfl (by kernel_rfl) (wn_some rfl rfl rfl hb15 rfl) (op_lda (L := rootC _) 8 ag_30 rfl rfl (rootC_take' _) (by simp [rootC_len])) rfl ?_
                      -- 14
                      refine et_quiet 14 (by kernel_rfl) rfl (by kernel_rfl) (wn_some rfl rfl rfl hb15 rfl) (op_field fld_66_2 rfl) rfl ?_
                      -- 15
                      refine et_quiet 15 (by kernel_rfl) rfl (by kernel_rfl) (wn_some rfl rfl rfl hb15 rfl) (op_ld 6 sc_64 rfl rfl rfl) rfl ?_
                      -- 16
                      refine et_quiet 16 (by kernel_rfl) rfl (by kernel_rfl) (wn_some rfl rfl rfl hb15 rfl) (op_lda (L := rootC _) 8 ag_30 rfl rfl (rootC_take' _) (by simp [rootC_len])) rfl ?_
                      refine et_1 (i := 13) (by kernel_rfl) ?_
                      refine ei_i rfl rfl (wn_some rfl rfl rfl hb15 rfl) (os_back (os_pull5 (os_pull5 (os_call cb_38 rfl (fun w s => Weight_calls _ _ _ _ _  s )))) (fun _ s => (((((((((s.pull 8).pull 8).pull 8).pull 4).pull 4).pull 8).pull 8).pull 8).pull 8))) rfl ?_; rintro _ _ ⟨rfl, rfl⟩; refine ⟨[], rfl, ?_⟩
                      refine et_1 (i := 17) (by kernel_rfl) ?_
                      refine ei_i rfl rfl (wn_some rfl rfl rfl hb15 rfl) (os_back (os_pull2 (os_pull2 (os_call cb_45 rfl (fun w s => RWeight_calls _ _ _ _ _  s hF.le hF.ow)))) (fun _ s => (((((((((s.pull 8).pull 8).pull 8).pull 8).pull 8).pull 8).pull 7).pull 7).pull 8))) rfl ?_; rintro _ _ ⟨rfl, rfl⟩; refine ⟨[], rfl, ?_⟩
                      -- 18
                      refine et_quiet 18 (by kernel_rfl) rfl (by kernel_rfl) (wn_some rfl rfl rfl hb15 rfl) (op_ne rfl rfl) rfl ?_
                      -- 19
                      refine et_quiet 19 (by kernel_rfl) rfl (by kernel_rfl) (wn_none rfl) (op_pick_f (v := .bool _) rfl hb15 rfl) rfl ?_
                      -- 20
                      refine et_quiet 20 (by kernel_rfl) rfl (by kernel_rfl) (wn_none rfl) (op_move (v := .bool _) rfl) rfl ?_
                      refine et_split 147 rfl (fun hb16 => ?_) (fun hb16 => ?_)
                      · have hp16 := hb16
                        (try simp only [decide_eq_true_eq, decide_eq_false_iff_not, Bool.not_eq_true', Bool.not_eq_false', ne_eq, Decidable.not_not] at hp16)
                        exact absurd hb16 (by simp)
                      · have hp16 := hb16
                        (try simp only [decide_eq_true_eq, decide_eq_false_iff_not, Bool.not_eq_true', Bool.not_eq_false', ne_eq, Decidable.not_not] at hp16)
                        -- 21
                        refine et_quiet 21 (by kernel_rfl) rfl (by kernel_rfl) (wn_some rfl rfl rfl hb16 rfl) (op_lda (L := rootC _) 3 ag_30 rfl rfl (rootC_take' _) (by simp [rootC_len])) rfl ?_
                        -- 22
                        refine et_quiet 22 (by kernel_rfl) rfl (by kernel_rfl) (wn_some rfl rfl rfl hb16 rfl) (op_lda (L := rootC _) 0 ag_30 rfl rfl (rootC_take' _) (by simp [rootC_len])) rfl ?_
                        -- 23
                        refine et_quiet 23 (by kernel_rfl) rfl (by kernel_rfl) (wn_some rfl rfl rfl hb16 rfl) (op_neroot _ _ rB_30 rfl rfl) rfl ?_
                        -- 24
                        refine et_quiet 24 (by kernel_rfl) rfl (by kernel_rfl) (wn_none rfl) (op_pick_f (v := .bool _) rfl hb16 rfl) rfl ?_
                        -- 25
                        refine et_quiet 25 (by kernel_rfl) rfl (by kernel_rfl) (wn_none rfl) (op_move (v := .bool _) rfl) rfl ?_
                        refine et_split 152 rfl (fun hb17 => ?_) (fun hb17 => ?_)
                        · have hp17 := hb17
                          (try simp only [decide_eq_true_eq, decide_eq_false_iff_not, Bool.not_eq_true', Bool.not_eq_false', ne_eq, Decidable.not_not] at hp17)
                          exact absurd hb17 (by simp)
                        · have hp17 := hb17
                          (try simp only [decide_eq_true_eq, decide_eq_false_iff_not, Bool.not_eq_true', Bool.not_eq_false', ne_eq, Decidable.not_not] at hp17)
                          -- 26
                          refine et_quiet 26 (by kernel_rfl) rfl (by kernel_rfl) (wn_some rfl rfl rfl hb17 rfl) (op_move (v := .bool _) rfl) rfl ?_
                          -- 27
                          refine et_quiet 27 (by kernel_rfl) rfl (by kernel_rfl) (wn_some rfl rfl rfl hb17 rfl) (op_move (v := .bool _) rfl) rfl ?_
                          -- 28
                          refine et_quiet 28 (by kernel_rfl) rfl (by kernel_rfl) (wn_some rfl rfl rfl hb17 rfl) (op_bneq Try.underlying4 rfl rfl) rfl ?_
                          -- 29
                          refine et_quiet 29 (by kernel_rfl) rfl (by kernel_rfl) (wn_none rfl) (op_pick_f (v := .bool _) rfl hb17 rfl) rfl ?_
                          refine et_nil_then (by kernel_rfl) ?_
                          refine cd_cond rfl (fun hb18 => ?_) (fun hb18 => ?_)
                          · have hp18 := hb18
                            (try simp only [decide_eq_true_eq, decide_eq_false_iff_not, Bool.not_eq_true', Bool.not_eq_false', ne_eq, Decidable.not_not] at hp18)
                            exact absurd hb18 (by simp)
                          · have hp18 := hb18
                            (try simp only [decide_eq_true_eq, decide_eq_false_iff_not, Bool.not_eq_true', Bool.not_eq_false', ne_eq, Decidable.not_not] at hp18)
                            refine cd_skip ?_
                            refine px_blockN ?_
                            refine px_then ?_
                            refine cd_region ?_   -- 18
                            refine ol_q (wn_none rfl) (op_move (v := .int _ _) rfl) rfl ?_
                            refine ol_q (wn_none rfl) (op_add rfl rfl (by omega) (by omega)) rfl ?_
                            refine ol_q (wn_none rfl) (op_assign (v := .int _ _) rfl) rfl ?_
                            refine ol_nil ?_
                            refine px_loop2 (i + 1) (by omega) (by (try dsimp only); omega) ⟨congrArg (Value.int .i64) (by simp), trivial⟩ ?_ (fun _ s => (((s.del 8).del 3).del 0))
                            repeat (first | exact kept_over | refine kept_upd rfl ?_ | refine kept_overS (by decide) ?_)
                · have hp9 := hb9
                  (try simp only [decide_eq_true_eq, decide_eq_false_iff_not, Bool.not_eq_true', Bool.not_eq_false', ne_eq, Decidable.not_not] at hp9)
                  refine cd_exit ?_
                  refine px_thenE ?_
                  refine px_thenE ?_
                  refine px_blockE ?_
                  refine px_then ?_
                  refine cd_sr ?_   -- 26
                  refine ol_q (wn_none rfl) (op_assign (v := .bool _) rfl) rfl ?_
                  refine ol_nil_then ?_
                  refine cd_ret ?_
                  exact px_ret1 rfl (v := .bool _) rfl (fun _ s => ((((((((((s.del 9).del 8).del 7).del 6).del 5).del 4).del 3).del 2).del 1).del 0)) ⟨congrArg Value.bool (rfl), rfl⟩
end Go.SL

import Derived.Test.YtgdlddjalilmhaaMGen3
import Derived.Test.YtgdlddjalilmhaaGen6
set_option linter.unusedVariables false
set_option linter.unusedSimpArgs false
namespace Go.SL
open Go.Proofs

set_option maxRecDepth 100000 in
set_option maxHeartbeats 1000000 in
theorem GenesisLess_calls {w0 w : World} {l : List HProp} (ao : Option Addr) (c : Nat) (xs : List Val) (n1 n2 n3 n4 n5 n6 n7 n8 n9 n10 n11 : Int) (lo : Option Addr) (lc : Nat) (ls : List Int) (hs : Sat w0 w (l)) (hr : Rds w0 l encVal ao xs) (hq : ∀ y ∈ xs, I64 y.stake ∧ y.key.length ≤ maxLen) (hr2 : Rds w0 l encI64 lo ls) (hq2 : ∀ y ∈ ls, I64 y) :
    Calls Try.prog 7 #[.agg (cfgC ⟨⟨ao, xs.length, c⟩, n1, n2, n3, n4, n5, n6, n7, n8, n9, n10, n11⟩).toArray, .slice lo ls.length lc] w (Ret w0 fun v l' => v = .bool true ∧ l' = l) := by
  refine calls_enter Try.func7 rfl rfl rfl hs ?_
  refine cd_sr ?_   -- 0
  refine ol_i (wn_none rfl) (os_boxa rfl) rfl ?_; rintro _ _ ⟨bx1, rfl, rfl⟩
  refine ol_q (wn_none rfl) (op_assign (v := .bool _) rfl) rfl ?_
  refine ol_nil_then ?_
  refine cd_seq ?_
  refine cd_sr ?_   -- 1
  refine ol_i (wn_none rfl) (os_call cb_15 rfl (fun w s => gAlive_calls  s )) rfl ?_; rintro _ l ⟨rfl, rfl⟩
  refine ol_q (wn_none rfl) (op_not rfl) rfl ?_
  refine ol_nil_then ?_
  refine cd_cond_f rfl rfl ?_
  refine cd_skip ?_
  refine px_then ?_
  refine cd_seq ?_
  refine cd_sr ?_   -- 3
  refine ol_q (wn_none rfl) (op_lda (L := cfgC _) 0 ag_24 rfl rfl (cfgC_ta _) (by simp [cfgC_len])) rfl ?_
  refine ol_i (wn_none rfl) (os_call cb_16 rfl (fun w s => Great_calls _ _ _ _ _ _ _ _ _ _ _ _ _ _  s (hr.cons _))) rfl ?_; rintro _ l ⟨rfl, rfl⟩
  refine ol_q (wn_none rfl) (op_move (v := .bool _) rfl) rfl ?_
  refine ol_split 13 rfl (fun hb1 => ?_) (fun hb1 => ?_)
  · have hp1 := hb1
    (try simp only [decide_eq_true_eq, decide_eq_false_iff_not, Bool.not_eq_true', Bool.not_eq_false', ne_eq, Decidable.not_not] at hp1)
    refine ol_skip (wn_some rfl rfl rfl hb1 rfl) rfl ?_
    refine ol_skip (wn_some rfl rfl rfl hb1 rfl) rfl ?_
    refine ol_skip (wn_some rfl rfl rfl hb1 rfl) rfl ?_
    refine ol_q (wn_none rfl) (op_pick_t (v := .bool _) rfl hb1 rfl) rfl ?_
    refine ol_q (wn_none rfl) (op_move (v := .bool _) rfl) rfl ?_
    refine ol_skip (wn_some rfl rfl rfl rfl rfl) rfl ?_
    refine ol_skip (wn_some rfl rfl rfl rfl rfl) rfl ?_
    refine ol_skip (wn_some rfl rfl rfl rfl rfl) rfl ?_
    refine ol_q (wn_none rfl) (op_pick_t (v := .bool _) rfl rfl rfl) rfl ?_
    refine ol_nil_then ?_
    refine cd_cond_t rfl rfl ?_
    refine cd_sr ?_   -- 4
    refine ol_q (wn_none rfl) (op_assign (v := .bool _) rfl) rfl ?_
    refine ol_nil_then ?_
    refine cd_ret ?_
    refine px_thenR ?_
    exact px_ret1 rfl (v := .bool _) rfl (fun _ s => (s.del 0)) ⟨congrArg Value.bool (by first | rfl | (simp; done) | exact hg2), rfl⟩
  · have hp1 := hb1
    (try simp only [decide_eq_true_eq, decide_eq_false_iff_not, Bool.not_eq_true', Bool.not_eq_false', ne_eq, Decidable.not_not] at hp1)
    have hgr : greatC xs = false := by simpa using hb1
    have hxl : xs.length ≤ 100 := by unfold greatC at hgr; rw [Bool.or_eq_false_iff] at hgr; have := of_decide_eq_false hgr.1; omega
    refine ol_q (wn_some rfl rfl rfl hb1 rfl) (op_lda (L := cfgC _) 0 ag_24 rfl rfl (cfgC_ta _) (by simp [cfgC_len])) rfl ?_
    refine ol_i (wn_some rfl rfl rfl hb1 rfl) (os_call cb_20 rfl (fun w s => RGood_calls _ _ _ _ _ _ _ _ _ _ _ _ _ _  s (hr.cons _) (by first | omega | (simp; done) | (simp; omega)) (by assumption))) rfl ?_; rintro _ l ⟨rfl, rfl⟩
    refine ol_q (wn_some rfl rfl rfl hb1 rfl) (op_not rfl) rfl ?_
    refine ol_q (wn_none rfl) (op_pick_f (v := .bool _) rfl hb1 rfl) rfl ?_
    refine ol_q (wn_none rfl) (op_move (v := .bool _) rfl) rfl ?_
    refine ol_split 18 rfl (fun hb2 => ?_) (fun hb2 => ?_)
    · have hp2 := hb2
      (try simp only [decide_eq_true_eq, decide_eq_false_iff_not, Bool.not_eq_true', Bool.not_eq_false', ne_eq, Decidable.not_not] at hp2)
      refine ol_skip (wn_some rfl rfl rfl hb2 rfl) rfl ?_
      refine ol_skip (wn_some rfl rfl rfl hb2 rfl) rfl ?_
      refine ol_skip (wn_some rfl rfl rfl hb2 rfl) rfl ?_
      refine ol_q (wn_none rfl) (op_pick_t (v := .bool _) rfl hb2 rfl) rfl ?_
      refine ol_nil_then ?_
      refine cd_cond_t rfl rfl ?_
      refine cd_sr ?_   -- 4
      refine ol_q (wn_none rfl) (op_assign (v := .bool _) rfl) rfl ?_
      refine ol_nil_then ?_
      refine cd_ret ?_
      refine px_thenR ?_
      exact px_ret1 rfl (v := .bool _) rfl (fun _ s => (s.del 0)) ⟨congrArg Value.bool (by first | rfl | (simp; done) | exact hg2), rfl⟩
    · have hp2 := hb2
      (try simp only [decide_eq_true_eq, decide_eq_false_iff_not, Bool.not_eq_true', Bool.not_eq_false', ne_eq, Decidable.not_not] at hp2)
      have hgood : goodC ⟨⟨ao, xs.length, c⟩, n1, n2, n3, n4, n5, n6, n7, n8, n9, n10, n11⟩ xs = true := by simpa using hb2
      have hns := goodC_ns hgood
      refine ol_q (wn_some rfl rfl rfl hb2 rfl) (op_move (v := .slice _ _ _) rfl) rfl ?_
      refine ol_q (wn_some rfl rfl rfl hb2 rfl) (op_len_slice Try.underlying35 rfl) rfl ?_
      refine ol_q (wn_some rfl rfl rfl hb2 rfl) (op_ne rfl rfl) rfl ?_
      refine ol_q (wn_none rfl) (op_pick_f (v := .bool _) rfl hb2 rfl) rfl ?_
      refine ol_nil_then ?_
      refine cd_cond rfl (fun hb3 => ?_) (fun hb3 => ?_)
      · have hp3 := hb3
        (try simp only [decide_eq_true_eq, decide_eq_false_iff_not, Bool.not_eq_true', Bool.not_eq_false', ne_eq, Decidable.not_not] at hp3)
        refine cd_sr ?_   -- 4
        refine ol_q (wn_none rfl) (op_assign (v := .bool _) rfl) rfl ?_
        refine ol_nil_then ?_
        refine cd_ret ?_
        refine px_thenR ?_
        exact px_ret1 rfl (v := .bool _) rfl (fun _ s => (s.del 0)) ⟨congrArg Value.bool (by first | rfl | (simp; done) | exact hg2), rfl⟩
      · have hp3 := hb3
        (try simp only [decide_eq_true_eq, decide_eq_false_iff_not, Bool.not_eq_true', Bool.not_eq_false', ne_eq, Decidable.not_not] at hp3)
        have hll : ls.length = 11 := by omega
        refine cd_skip ?_
        refine px_then ?_
        refine cd_sr ?_   -- 5
        refine ol_q (wn_none rfl) (op_lda (L := cfgC _) 0 ag_24 rfl rfl (cfgC_ta _) (by simp [cfgC_len])) rfl ?_
        refine ol_i (wn_none rfl) (os_alloc (cs := (cfgC Cfg.zero).toArray) zB_24 (by kernel_rfl)) rfl ?_; rintro _ _ ⟨bx2, rfl, rfl⟩
        refine ol_iN (wn_none rfl) (os_storew (cfgC _) ag_24 rfl rfl (cfgC_len _) (cfgC_one _) (by simp [cfgC_len]) (Free.zero _)) ?_; rintro _ _ ⟨rfl, rfl⟩
        refine ol_nil_then ?_
        refine cd_sr ?_   -- 6
        refine ol_q (wn_none rfl) (op_field fld_24_1 rfl) rfl ?_
        refine ol_q (wn_none rfl) (op_field fld_24_2 rfl) rfl ?_
        refine ol_q (wn_none rfl) (op_field fld_24_3 rfl) rfl ?_
        refine ol_q (wn_none rfl) (op_field fld_24_4 rfl) rfl ?_
        refine ol_q (wn_none rfl) (op_field fld_24_5 rfl) rfl ?_
        refine ol_q (wn_none rfl) (op_field fld_24_6 rfl) rfl ?_
        refine ol_q (wn_none rfl) (op_field fld_24_7 rfl) rfl ?_
        refine ol_q (wn_none rfl) (op_field fld_24_8 rfl) rfl ?_
        refine ol_q (wn_none rfl) (op_field fld_24_9 rfl) rfl ?_
        refine ol_q (wn_none rfl) (op_field fld_24_10 rfl) rfl ?_
        refine ol_q (wn_none rfl) (op_field fld_24_11 rfl) rfl ?_
        refine ol_i (wn_none rfl) (os_bslice (E := encPtr) [_, _, _, _, _, _, _, _, _, _, _] (ys := ptrs11 bx2) sB_37 zv_36 rfl rfl rfl rfl (by decide)) rfl ?_; rintro _ _ ⟨ao1, rfl, rfl⟩
        refine ol_q (wn_none rfl) (op_assign (v := .slice _ _ _) rfl) rfl ?_
        refine ol_nil_then ?_
        refine cd_seq ?_
        refine cd_sr ?_   -- 7
        refine ol_q (wn_none rfl) (op_move (v := .slice _ _ _) rfl) rfl ?_
        refine ol_q (wn_none rfl) (op_len_slice Try.underlying37 rfl) rfl ?_
        refine ol_q (wn_none rfl) (op_move (v := .int _ _) rfl) rfl ?_
        refine ol_nil_then ?_
        refine cd_block ?_
        have hpl := ptrs11_len bx2
        refine cd_loop2 (α := Nat) [(4, 4), (7, 8), (38, 59)] (fun x => [(38, .int .i64 (x : Int))]) (fun x => Row 36 encPtr (.slice ao1 (ptrs11 bx2).length 11) (ptrs11 bx2) :: Blk bx2 (.cells (cfgL ⟨ao, xs.length, c⟩ (lessL [n1, n2, n3, n4, n5, n6, n7, n8, n9, n10, n11] ls x)).toArray 24 (0, 0)) :: Blk bx1 (.cells (cfgC ⟨⟨ao, xs.length, c⟩, n1, n2, n3, n4, n5, n6, n7, n8, n9, n10, n11⟩).toArray 24 (0, 0)) :: l) (fun x => x ≤ 11 ∧ ∀ j, j < x → 0 ≤ ls.getD j 0) (fun x => 11 - x) 0 ⟨Nat.zero_le _, fun j h => absurd h (Nat.not_lt_zero _)⟩ ⟨rfl, trivial⟩ (fun _ s => s) ?_
        rintro i ⟨hi, hno⟩ f; (try dsimp only at hi hno ⊢)
        refine cd_sr ?_   -- 8
        refine ol_q (wn_none rfl) (op_lt rfl rfl) rfl ?_
        refine ol_nil_then ?_
        refine cd_seq ?_
        refine cd_cond rfl (fun hb4 => ?_) (fun hb4 => ?_)
        · have hp4 := hb4
          (try simp only [decide_eq_true_eq, decide_eq_false_iff_not, Bool.not_eq_true', Bool.not_eq_false', ne_eq, Decidable.not_not] at hp4)
          have hi11 : i < 11 := by omega
          have hpi := ptrs11_at bx2 i (by omega)
          obtain ⟨hn1, hn2⟩ := hns i hi11
          refine cd_skip ?_
          refine px_then ?_
          refine cd_seq ?_
          refine cd_block ?_
          refine cd_sr ?_   -- 9
          refine ol_q (wn_none rfl) (op_move (v := .int _ _) rfl) rfl ?_
          refine ol_q (wn_none rfl) (op_index _ sB_37 rfl rfl rfl (rds_row 0 rfl rfl) rfl (by omega)) rfl ?_
          refine ol_q (wn_none rfl) (op_ldw sc_36 (rds_row 0 rfl rfl) rfl (by omega) rfl) rfl ?_
          refine ol_q (wn_none rfl) (op_assign (v := .int _ _) rfl) rfl ?_
          refine ol_q (wn_none rfl) (op_assign (v := .pointer _) rfl) rfl ?_
          refine ol_nil_then ?_
          refine cd_seq ?_
          refine cd_sr ?_   -- 10
          refine ol_q (wn_none rfl) (op_move (v := .slice _ _ _) rfl) rfl ?_
          refine ol_q (wn_none rfl) (op_move (v := .int _ _) rfl) rfl ?_
          refine ol_q (wn_none rfl) (op_index _ sB_35 rfl rfl rfl (((hr2.cons _).cons _).cons _) rfl (by omega)) rfl ?_
          refine ol_q (wn_none rfl) (op_ldw sc_3 (((hr2.cons _).cons _).cons _) rfl (by omega) rfl) rfl ?_
          refine ol_q (wn_none rfl) (op_lt rfl rfl) rfl ?_
          refine ol_nil_then ?_
          refine cd_cond rfl (fun hb5 => ?_) (fun hb5 => ?_)
          · have hp5 := hb5
            (try simp only [decide_eq_true_eq, decide_eq_false_iff_not, Bool.not_eq_true', Bool.not_eq_false', ne_eq, Decidable.not_not] at hp5)
            refine cd_sr ?_   -- 11
            refine ol_q (wn_none rfl) (op_assign (v := .bool _) rfl) rfl ?_
            refine ol_nil_then ?_
            refine cd_ret ?_
            refine px_thenR ?_
            refine px_blockR ?_
            refine px_thenR ?_
            refine px_thenR ?_
            refine px_blockR ?_
            refine px_thenR ?_
            exact px_ret1 rfl (v := .bool _) rfl (fun _ s => (((s.del 2).del 1).del 0)) ⟨congrArg Value.bool (by first | rfl | (simp; done) | exact hg2), rfl⟩
          · have hp5 := hb5
            (try simp only [decide_eq_true_eq, decide_eq_false_iff_not, Bool.not_eq_true', Bool.not_eq_false', ne_eq, Decidable.not_not] at hp5)
            have hli := hq2 ls[i] (List.getElem_mem _)
            unfold I64 at hli
            have hld : ls.getD i 0 = ls[i] := by simp [List.getD_eq_getElem?_getD, hll, hi11]
            have hmx : (if [n1, n2, n3, n4, n5, n6, n7, n8, n9, n10, n11].getD i 0 - ls[i] < 1 then 1 else [n1, n2, n3, n4, n5, n6, n7, n8, n9, n10, n11].getD i 0 - ls[i]) = mx1 ([n1, n2, n3, n4, n5, n6, n7, n8, n9, n10, n11].getD i 0 - ls.getD i 0) := by rw [hld]; rfl
            refine cd_skip ?_
            refine px_then ?_
            -- 12
            refine cd_drawt (M := []) mx [] 11 (by kernel_rfl) rfl rfl ?_
            dsimp only [List.take_succ_cons, List.take_zero, List.drop_succ_cons, List.drop_zero]
            refine rg_q (wn_none rfl) (op_move (v := .pointer _) rfl) rfl rfl ?_
            refine rg_q (wn_none rfl) (op_move (v := .pointer _) rfl) rfl rfl ?_
            refine rg_q (wn_none rfl) (op_nilck (congrArg Value.pointer hpi)) rfl rfl ?_
            
            refine rg_q (wn_none rfl) (op_ld 1 sc_3 rfl rfl (cfgL_at _ _ _ _ hi11)) rfl rfl ?_
            
            refine rg_q (wn_none rfl) (op_move (v := .slice _ _ _) rfl) rfl rfl ?_
            refine rg_q (wn_none rfl) (op_move (v := .int _ _) rfl) rfl rfl ?_
            refine rg_q (wn_none rfl) (op_index _ sB_35 rfl rfl rfl (((hr2.cons _).cons _).cons _) rfl (by omega)) rfl rfl ?_
            refine rg_q (wn_none rfl) (op_ldw sc_3 (((hr2.cons _).cons _).cons _) rfl (by omega) rfl) rfl rfl ?_
            refine rg_q (wn_none rfl) (op_sub rfl rfl (by omega) (by omega)) rfl rfl ?_
            refine rg_q (wn_none rfl) (op_max rfl rfl) rfl rfl ?_
            refine rg_q (wn_none rfl) (op_nilck (congrArg Value.pointer hpi)) rfl rfl ?_
            
            refine rg_tail0 ?_
            refine ol_pull1 ?_
            refine ol_iN (wn_none rfl) (os_store (v := .int _ _) sc_3 rfl rfl rfl (Nat.ble_eq_true_of_le (by rw [cfgL_size]; omega)) (Free.zero _) (cfgL_set _ _ _ _ hi11 hmx)) ?_; rintro _ _ ⟨rfl, rfl⟩
            
            refine ol_nil ?_
            refine px_blockN ?_
            refine px_then ?_
            refine cd_region ?_   -- 13
            refine ol_q (wn_none rfl) (op_add rfl rfl (by omega) (by omega)) rfl ?_
            refine ol_q (wn_none rfl) (op_move (v := .int _ _) rfl) rfl ?_
            refine ol_nil ?_
            refine px_loop2 (i + 1) ⟨by omega, fun j h2 => by rcases Nat.lt_succ_iff_lt_or_eq.1 h2 with h3 | h3; exact hno j h3; subst h3; rw [hld]; omega⟩ (by (try dsimp only); omega) ⟨congrArg (Value.int .i64) (by simp), trivial⟩ ?_ (fun _ s => (((s.pull 2).pull 1).pull 2))
            repeat (first | exact kept_over | refine kept_upd rfl ?_ | refine kept_overS (by decide) ?_)
        · have hp4 := hb4
          (try simp only [decide_eq_true_eq, decide_eq_false_iff_not, Bool.not_eq_true', Bool.not_eq_false', ne_eq, Decidable.not_not] at hp4)
          obtain rfl : i = 11 := by omega
          obtain ⟨b0, b1, b2, b3, b4, b5, b6, b7, b8, b9, b10, he⟩ := list_len11 (lessL_len [n1, n2, n3, n4, n5, n6, n7, n8, n9, n10, n11] ls 11)
          have hg2 := goodC_less hgood he hno
          rw [show cfgL ⟨ao, xs.length, c⟩ (lessL [n1, n2, n3, n4, n5, n6, n7, n8, n9, n10, n11] ls 11) = cfgC ⟨⟨ao, xs.length, c⟩, b0, b1, b2, b3, b4, b5, b6, b7, b8, b9, b10⟩ by rw [he]; rfl]
          refine cd_exit ?_
          refine px_thenE ?_
          refine px_thenE ?_
          refine px_blockE ?_
          refine px_then ?_
          refine cd_sr ?_   -- 14
          refine ol_q (wn_none rfl) (op_lda (L := cfgC _) 2 ag_24 rfl rfl (cfgC_ta _) (by simp [cfgC_len])) rfl ?_
          refine ol_i (wn_none rfl) (os_call cb_19 rfl (fun w s => Good_calls _ _ _ _ _ _ _ _ _ _ _ _ _ _  s (((hr.cons _).cons _).cons _) (by first | omega | (simp; done) | (simp; omega)))) rfl ?_; rintro _ l ⟨rfl, rfl⟩
          refine ol_q (wn_none rfl) (op_move (v := .bool _) rfl) rfl ?_
          refine ol_split 62 rfl (fun hb6 => ?_) (fun hb6 => ?_)
          · have hp6 := hb6
            (try simp only [decide_eq_true_eq, decide_eq_false_iff_not, Bool.not_eq_true', Bool.not_eq_false', ne_eq, Decidable.not_not] at hp6)
            refine ol_q (wn_some rfl rfl rfl hb6 rfl) (op_lda (L := cfgC _) 1 ag_24 rfl rfl (cfgC_ta _) (by simp [cfgC_len])) rfl ?_
            refine ol_i (wn_some rfl rfl rfl hb6 rfl) (os_call cb_19 rfl (fun w s => Good_calls _ _ _ _ _ _ _ _ _ _ _ _ _ _  s (((hr.cons _).cons _).cons _) (by first | omega | (simp; done) | (simp; omega)))) rfl ?_; rintro _ l ⟨rfl, rfl⟩
            refine ol_q (wn_none rfl) (op_pick_t (v := .bool _) rfl hb6 rfl) rfl ?_
            refine ol_q (wn_none rfl) (op_assign (v := .bool _) rfl) rfl ?_
            refine ol_nil_then ?_
            refine cd_ret ?_
            exact px_ret1 rfl (v := .bool _) rfl (fun _ s => (((s.del 2).del 1).del 0)) ⟨congrArg Value.bool (by first | rfl | (simp; done) | exact hg2), rfl⟩
          · have hp6 := hb6
            (try simp only [decide_eq_true_eq, decide_eq_false_iff_not, Bool.not_eq_true', Bool.not_eq_false', ne_eq, Decidable.not_not] at hp6)
            exact absurd hb6 (by simp [hgood])
end Go.SL

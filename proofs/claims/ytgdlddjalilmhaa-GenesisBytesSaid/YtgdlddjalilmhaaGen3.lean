import Derived.Test.YtgdlddjalilmhaaGen2
set_option linter.unusedVariables false
set_option linter.unusedSimpArgs false
namespace Go.SL
open Go.Proofs

set_option maxRecDepth 100000 in
set_option maxHeartbeats 1000000 in
theorem RGood_calls {w0 w : World} {l : List HProp} (ao : Option Addr) (c : Nat) (xs : List Val) (n1 n2 n3 n4 n5 n6 n7 n8 n9 n10 n11 : Int) (hs : Sat w0 w (l)) (hr : Rds w0 l encVal ao xs) (hxl : xs.length ≤ 1000000) (hq : ∀ y ∈ xs, I64 y.stake ∧ y.key.length ≤ maxLen) :
    Calls Try.prog 20 #[.agg (cfgC ⟨⟨ao, xs.length, c⟩, n1, n2, n3, n4, n5, n6, n7, n8, n9, n10, n11⟩).toArray] w (Ret w0 fun v l' => v = .bool (goodC ⟨⟨ao, xs.length, c⟩, n1, n2, n3, n4, n5, n6, n7, n8, n9, n10, n11⟩ xs) ∧ l' = l) := by
  have hcl : (numsC ⟨⟨ao, xs.length, c⟩, n1, n2, n3, n4, n5, n6, n7, n8, n9, n10, n11⟩ xs.length).length = 12 := rfl
  have hnl : (numsL ⟨⟨ao, xs.length, c⟩, n1, n2, n3, n4, n5, n6, n7, n8, n9, n10, n11⟩ xs.length).length = 24 := rfl
  refine calls_enter Try.func20 rfl rfl rfl hs ?_
  refine cd_sr ?_   -- 0
  refine ol_i (wn_none rfl) (os_boxa rfl) rfl ?_; rintro _ _ ⟨bx1, rfl, rfl⟩
  refine ol_q (wn_none rfl) (op_assign (v := .bool _) rfl) rfl ?_
  refine ol_nil_then ?_
  refine cd_sr ?_   -- 1
  refine ol_q (wn_none rfl) (op_lda (L := cfgC _) 0 ag_24 rfl rfl (cfgC_ta _) (by simp [cfgC_len])) rfl ?_
  refine ol_i (wn_none rfl) (os_call cb_43 rfl (fun w s => Numbers_calls _ _ _ _ _ _ _ _ _ _ _ _ _ _  s (hr.cons _))) rfl ?_; rintro _ _ ⟨no1, nc1, rfl, rfl⟩
  refine ol_q (wn_none rfl) (op_assign (v := .slice _ _ _) rfl) rfl ?_
  refine ol_nil_then ?_
  refine cd_seq ?_
  refine cd_sr ?_   -- 2
  refine ol_q (wn_none rfl) (op_assign (v := .int _ _) rfl) rfl ?_
  refine ol_nil_then ?_
  refine cd_block ?_
  refine cd_loop2 (α := Nat) [(2, 2), (4, 4), (9, 31)] (fun x => [(4, .int .i64 ((2 * x : Nat) : Int))]) (fun _ => _) (fun x => x ≤ 12 ∧ ∀ j (h : j < (numsC ⟨⟨ao, xs.length, c⟩, n1, n2, n3, n4, n5, n6, n7, n8, n9, n10, n11⟩ xs.length).length), j < x → inR (numsC ⟨⟨ao, xs.length, c⟩, n1, n2, n3, n4, n5, n6, n7, n8, n9, n10, n11⟩ xs.length)[j] = true) (fun x => 12 - x) 0 ⟨Nat.zero_le _, fun j h h2 => absurd h2 (Nat.not_lt_zero _)⟩ ⟨rfl, trivial⟩ (fun _ s => s) ?_
  rintro i ⟨hi, hno⟩ f; (try dsimp only at hi hno ⊢)
  refine cd_seq ?_
  refine cd_sr ?_   -- 3
  refine ol_q (wn_none rfl) (op_move (v := .int _ _) rfl) rfl ?_
  refine ol_q (wn_none rfl) (op_move (v := .slice _ _ _) rfl) rfl ?_
  refine ol_q (wn_none rfl) (op_len_slice Try.underlying35 rfl) rfl ?_
  refine ol_q (wn_none rfl) (op_lt rfl rfl) rfl ?_
  refine ol_nil_then ?_
  refine cd_cond rfl (fun hb1 => ?_) (fun hb1 => ?_)
  · have hp1 := hb1
    (try simp only [decide_eq_true_eq, decide_eq_false_iff_not, Bool.not_eq_true', Bool.not_eq_false', ne_eq, Decidable.not_not] at hp1)
    refine cd_skip ?_
    refine px_then ?_
    refine cd_seq ?_
    refine cd_block ?_
    obtain ⟨na1, na2⟩ := nums_at ⟨⟨ao, xs.length, c⟩, n1, n2, n3, n4, n5, n6, n7, n8, n9, n10, n11⟩ xs.length i (by omega) (by omega) (by omega) (by omega)
    refine cd_seq ?_   -- 5
    refine cd_draw (M := []) mx [] (by kernel_rfl) ?_
    refine rg_q (wn_none rfl) (op_move (v := .slice _ _ _) rfl) rfl rfl ?_
    refine rg_q (wn_none rfl) (op_move (v := .int _ _) rfl) rfl rfl ?_
    refine rg_q (wn_none rfl) (op_index (2 * i) sB_35 rfl rfl rfl (rds_row 0 rfl rfl) rfl (by omega)) rfl rfl ?_
    refine rg_q (wn_none rfl) (op_ldw sc_3 (rds_row 0 rfl rfl) rfl (by omega) rfl) rfl rfl ?_
    refine rg_q (wn_none rfl) (op_lt rfl rfl) rfl rfl ?_
    refine rg_q (wn_none rfl) (op_move (v := .bool _) rfl) rfl rfl ?_
    refine rg_split 20 rfl (fun hb2 => ?_) (fun hb2 => ?_)
    · have hp2 := hb2
      (try simp only [decide_eq_true_eq, decide_eq_false_iff_not, Bool.not_eq_true', Bool.not_eq_false', ne_eq, Decidable.not_not] at hp2)
      have hin : inR (numsC ⟨⟨ao, xs.length, c⟩, n1, n2, n3, n4, n5, n6, n7, n8, n9, n10, n11⟩ xs.length)[i] = false := decide_eq_false (by omega)
      refine rg_skip (wn_some rfl rfl rfl hb2 rfl) rfl ?_
      refine rg_skip (wn_some rfl rfl rfl hb2 rfl) rfl ?_
      refine rg_skip (wn_some rfl rfl rfl hb2 rfl) rfl ?_
      refine rg_skip (wn_some rfl rfl rfl hb2 rfl) rfl ?_
      refine rg_skip (wn_some rfl rfl rfl hb2 rfl) rfl ?_
      refine rg_skip (wn_some rfl rfl rfl hb2 rfl) rfl ?_
      refine rg_skip (wn_some rfl rfl rfl hb2 rfl) rfl ?_
      refine rg_skip (wn_some rfl rfl rfl hb2 rfl) rfl ?_
      refine rg_skip (wn_some rfl rfl rfl hb2 rfl) rfl ?_
      refine rg_skip (wn_some rfl rfl rfl hb2 rfl) rfl ?_
      refine rg_q (wn_none rfl) (op_pick_t (v := .bool _) rfl hb2 rfl) rfl rfl ?_
      refine rg_nil_then0 ?_
      refine cd_cond_t rfl rfl ?_
      refine cd_sr ?_   -- 6
      refine ol_q (wn_none rfl) (op_assign (v := .bool _) rfl) rfl ?_
      refine ol_nil_then ?_
      refine cd_ret ?_
      refine px_blockR ?_
      refine px_thenR ?_
      refine px_thenR ?_
      refine px_blockR ?_
      refine px_thenR ?_
      exact px_ret1 rfl (v := .bool _) rfl (fun _ s => ((s.del 1).del 0)) ⟨congrArg Value.bool ((goodC_no (by omega) hin).symm), rfl⟩
    · have hp2 := hb2
      (try simp only [decide_eq_true_eq, decide_eq_false_iff_not, Bool.not_eq_true', Bool.not_eq_false', ne_eq, Decidable.not_not] at hp2)
      refine rg_q (wn_some rfl rfl rfl hb2 rfl) (op_move (v := .slice _ _ _) rfl) rfl rfl ?_
      refine rg_q (wn_some rfl rfl rfl hb2 rfl) (op_move (v := .int _ _) rfl) rfl rfl ?_
      refine rg_q (wn_some rfl rfl rfl hb2 rfl) (op_index (2 * i) sB_35 rfl rfl rfl (rds_row 0 rfl rfl) rfl (by omega)) rfl rfl ?_
      refine rg_q (wn_some rfl rfl rfl hb2 rfl) (op_ldw sc_3 (rds_row 0 rfl rfl) rfl (by omega) rfl) rfl rfl ?_
      refine rg_q (wn_some rfl rfl rfl hb2 rfl) (op_move (v := .slice _ _ _) rfl) rfl rfl ?_
      refine rg_q (wn_some rfl rfl rfl hb2 rfl) (op_move (v := .int _ _) rfl) rfl rfl ?_
      refine rg_q (wn_some rfl rfl rfl hb2 rfl) (op_add rfl rfl (by omega) (by omega)) rfl rfl ?_
      refine rg_q (wn_some rfl rfl rfl hb2 rfl) (op_index (2 * i + 1) sB_35 rfl rfl (by omega) (rds_row 0 rfl rfl) rfl (by omega)) rfl rfl ?_
      refine rg_q (wn_some rfl rfl rfl hb2 rfl) (op_ldw sc_3 (rds_row 0 rfl rfl) rfl (by omega) rfl) rfl rfl ?_
      refine rg_q (wn_some rfl rfl rfl hb2 rfl) (op_gt rfl rfl) rfl rfl ?_
      refine rg_q (wn_none rfl) (op_pick_f (v := .bool _) rfl hb2 rfl) rfl rfl ?_
      refine rg_nil_then0 ?_
      refine cd_cond rfl (fun hb3 => ?_) (fun hb3 => ?_)
      · have hp3 := hb3
        (try simp only [decide_eq_true_eq, decide_eq_false_iff_not, Bool.not_eq_true', Bool.not_eq_false', ne_eq, Decidable.not_not] at hp3)
        have hin : inR (numsC ⟨⟨ao, xs.length, c⟩, n1, n2, n3, n4, n5, n6, n7, n8, n9, n10, n11⟩ xs.length)[i] = false := decide_eq_false (by omega)
        refine cd_sr ?_   -- 6
        refine ol_q (wn_none rfl) (op_assign (v := .bool _) rfl) rfl ?_
        refine ol_nil_then ?_
        refine cd_ret ?_
        refine px_blockR ?_
        refine px_thenR ?_
        refine px_thenR ?_
        refine px_blockR ?_
        refine px_thenR ?_
        exact px_ret1 rfl (v := .bool _) rfl (fun _ s => ((s.del 1).del 0)) ⟨congrArg Value.bool ((goodC_no (by omega) hin).symm), rfl⟩
      · have hp3 := hb3
        (try simp only [decide_eq_true_eq, decide_eq_false_iff_not, Bool.not_eq_true', Bool.not_eq_false', ne_eq, Decidable.not_not] at hp3)
        have hin : inR (numsC ⟨⟨ao, xs.length, c⟩, n1, n2, n3, n4, n5, n6, n7, n8, n9, n10, n11⟩ xs.length)[i] = true := decide_eq_true (by omega)
        refine cd_skip ?_
        refine px_blockN ?_
        refine px_then ?_
        refine cd_region ?_   -- 4
        refine ol_q (wn_none rfl) (op_move (v := .int _ _) rfl) rfl ?_
        refine ol_q (wn_none rfl) (op_add rfl rfl (by omega) (by omega)) rfl ?_
        refine ol_q (wn_none rfl) (op_assign (v := .int _ _) rfl) rfl ?_
        refine ol_nil ?_
        refine px_loop2 (i + 1) ⟨by omega, fun j h h2 => by rcases Nat.lt_succ_iff_lt_or_eq.1 h2 with h3 | h3; exact hno j h h3; subst h3; exact hin⟩ (by (try dsimp only); omega) ⟨congrArg (Value.int .i64) (by omega), trivial⟩ ?_ (fun _ s => s)
        repeat (first | exact kept_over | refine kept_upd rfl ?_ | refine kept_overS (by decide) ?_)
  · have hp1 := hb1
    (try simp only [decide_eq_true_eq, decide_eq_false_iff_not, Bool.not_eq_true', Bool.not_eq_false', ne_eq, Decidable.not_not] at hp1)
    refine cd_exit ?_
    refine px_thenE ?_
    refine px_thenE ?_
    refine px_blockE ?_
    refine px_then ?_
    refine cd_sr ?_   -- 7
    refine ol_q (wn_none rfl) (op_field fld_24_0 rfl) rfl ?_
    refine ol_q (wn_none rfl) (op_ld 1 sc_22 rfl rfl (cfgC_a0 _)) rfl ?_
    refine ol_i (wn_none rfl) (os_call cb_18 rfl (fun w s => RTotal_calls _ _ _  s ((hr.cons _).cons _) (by first | omega | (simp; done) | (simp; omega)) (by assumption))) rfl ?_; rintro _ l ⟨rfl, rfl⟩
    refine ol_q (wn_none rfl) (op_move (v := .tuple _) rfl) rfl ?_
    refine ol_q (wn_none rfl) (op_extract (v := .int _ _) rfl rfl) rfl ?_
    refine ol_q (wn_none rfl) (op_extract (v := .bool _) rfl rfl) rfl ?_
    refine ol_q (wn_none rfl) (op_assign (v := .int _ _) rfl) rfl ?_
    refine ol_q (wn_none rfl) (op_assign (v := .bool _) rfl) rfl ?_
    refine ol_nil_then ?_
    refine cd_sr ?_   -- 8
    refine ol_q (wn_none rfl) (op_move (v := .bool _) rfl) rfl ?_
    refine ol_q (wn_none rfl) (op_assign (v := .bool _) rfl) rfl ?_
    refine ol_nil_then ?_
    refine cd_ret ?_
    exact px_ret1 rfl (v := .bool _) rfl (fun _ s => ((s.del 1).del 0)) ⟨congrArg Value.bool ((goodC_yes fun j hj => hno j hj (by omega)).symm), rfl⟩

set_option maxRecDepth 100000 in
set_option maxHeartbeats 1000000 in
theorem Epoch_calls {w0 w : World} {l : List HProp} (ao : Option Addr) (c : Nat) (xs : List Val) (n1 n2 n3 n4 n5 n6 n7 n8 n9 n10 n11 : Int) (sl : Int) (hs : Sat w0 w (l)) (h0 : 0 ≤ sl) (h1 : 1 ≤ n1) (h2 : sl ≤ 9223372036854775807) :
    Calls Try.prog 23 #[.agg (cfgC ⟨⟨ao, xs.length, c⟩, n1, n2, n3, n4, n5, n6, n7, n8, n9, n10, n11⟩).toArray, .int .i64 sl] w (Ret w0 fun v l' => v = .int .i64 (sl / n1) ∧ l' = l) := by
  refine calls_enter Try.func23 rfl rfl rfl hs ?_
  refine cd_sr ?_   -- 0
  refine ol_i (wn_none rfl) (os_boxa rfl) rfl ?_; rintro _ _ ⟨bx1, rfl, rfl⟩
  refine ol_q (wn_none rfl) (op_assign (v := .int _ _) rfl) rfl ?_
  refine ol_nil_then ?_
  refine cd_sr ?_   -- 1
  refine ol_q (wn_none rfl) (op_move (v := .int _ _) rfl) rfl ?_
  refine ol_q (wn_none rfl) (op_field fld_24_1 rfl) rfl ?_
  refine ol_q (wn_none rfl) (op_ld 0 sc_3 rfl rfl (cfgC_a1 _)) rfl ?_
  refine ol_q (wn_none rfl) (op_quo (b := n1) rfl rfl (by omega) (by omega) (by omega)) rfl ?_
  refine ol_q (wn_none rfl) (op_assign (v := .int _ _) rfl) rfl ?_
  refine ol_nil_then ?_
  refine cd_ret ?_
  exact px_ret1 rfl (v := .int _ _) rfl (fun _ s => (s.del 0)) ⟨rfl, rfl⟩

set_option maxRecDepth 100000 in
set_option maxHeartbeats 1000000 in
theorem GBytes_calls {w0 w : World} {l : List HProp} (ao : Option Addr) (c : Nat) (xs : List Val) (n1 n2 n3 n4 n5 n6 n7 n8 n9 n10 n11 : Int) (hs : Sat w0 w (l)) (hr : Rds w0 l encVal ao xs) (hxl : xs.length ≤ 64) (hk : ∀ y ∈ xs, y.key.length ≤ 32) :
    Calls Try.prog 21 #[.agg (cfgC ⟨⟨ao, xs.length, c⟩, n1, n2, n3, n4, n5, n6, n7, n8, n9, n10, n11⟩).toArray] w (Ret w0 fun v l' => v = .string (B (bytesC ⟨⟨ao, xs.length, c⟩, n1, n2, n3, n4, n5, n6, n7, n8, n9, n10, n11⟩ xs)) ∧ l' = l) := by
  have h12 : (nums12 ⟨⟨ao, xs.length, c⟩, n1, n2, n3, n4, n5, n6, n7, n8, n9, n10, n11⟩ xs.length).length = 12 := rfl
  refine calls_enter Try.func21 rfl rfl rfl hs ?_
  refine cd_sr ?_   -- 0
  refine ol_i (wn_none rfl) (os_boxa rfl) rfl ?_; rintro _ _ ⟨bx1, rfl, rfl⟩
  refine ol_q (wn_none rfl) (op_assign (v := .string _) rfl) rfl ?_
  refine ol_nil_then ?_
  refine cd_sr ?_   -- 1
  refine ol_q (wn_none rfl) (op_assign (v := .slice _ _ _) rfl) rfl ?_
  refine ol_nil_then ?_
  refine cd_seq ?_
  refine cd_sr ?_   -- 2
  refine ol_q (wn_none rfl) (op_field fld_24_1 rfl) rfl ?_
  refine ol_q (wn_none rfl) (op_ld 0 sc_3 rfl rfl (cfgC_a1 _)) rfl ?_
  refine ol_q (wn_none rfl) (op_field fld_24_2 rfl) rfl ?_
  refine ol_q (wn_none rfl) (op_ld 0 sc_3 rfl rfl (cfgC_a2 _)) rfl ?_
  refine ol_q (wn_none rfl) (op_field fld_24_3 rfl) rfl ?_
  refine ol_q (wn_none rfl) (op_ld 0 sc_3 rfl rfl (cfgC_a3 _)) rfl ?_
  refine ol_q (wn_none rfl) (op_field fld_24_4 rfl) rfl ?_
  refine ol_q (wn_none rfl) (op_ld 0 sc_3 rfl rfl (cfgC_a4 _)) rfl ?_
  refine ol_q (wn_none rfl) (op_field fld_24_5 rfl) rfl ?_
  refine ol_q (wn_none rfl) (op_ld 0 sc_3 rfl rfl (cfgC_a5 _)) rfl ?_
  refine ol_q (wn_none rfl) (op_field fld_24_6 rfl) rfl ?_
  refine ol_q (wn_none rfl) (op_ld 0 sc_3 rfl rfl (cfgC_a6 _)) rfl ?_
  refine ol_q (wn_none rfl) (op_field fld_24_7 rfl) rfl ?_
  refine ol_q (wn_none rfl) (op_ld 0 sc_3 rfl rfl (cfgC_a7 _)) rfl ?_
  refine ol_q (wn_none rfl) (op_field fld_24_8 rfl) rfl ?_
  refine ol_q (wn_none rfl) (op_ld 0 sc_3 rfl rfl (cfgC_a8 _)) rfl ?_
  refine ol_q (wn_none rfl) (op_field fld_24_9 rfl) rfl ?_
  refine ol_q (wn_none rfl) (op_ld 0 sc_3 rfl rfl (cfgC_a9 _)) rfl ?_
  refine ol_q (wn_none rfl) (op_field fld_24_10 rfl) rfl ?_
  refine ol_q (wn_none rfl) (op_ld 0 sc_3 rfl rfl (cfgC_a10 _)) rfl ?_
  refine ol_q (wn_none rfl) (op_field fld_24_11 rfl) rfl ?_
  refine ol_q (wn_none rfl) (op_ld 0 sc_3 rfl rfl (cfgC_a11 _)) rfl ?_
  refine ol_q (wn_none rfl) (op_field fld_24_0 rfl) rfl ?_
  refine ol_q (wn_none rfl) (op_ld 0 sc_22 rfl rfl (cfgC_a0 _)) rfl ?_
  refine ol_q (wn_none rfl) (op_len_slice Try.underlying22 rfl) rfl ?_
  refine ol_i (wn_none rfl) (os_bslice (E := encI64) [_, _, _, _, _, _, _, _, _, _, _, _] (ys := (nums12 ⟨⟨ao, xs.length, c⟩, n1, n2, n3, n4, n5, n6, n7, n8, n9, n10, n11⟩ xs.length)) sB_35 zv_3 rfl rfl rfl rfl (by decide)) rfl ?_; rintro _ _ ⟨ao1, rfl, rfl⟩
  refine ol_q (wn_none rfl) (op_len_slice Try.underlying35 rfl) rfl ?_
  refine ol_q (wn_none rfl) (op_move (v := .int _ _) rfl) rfl ?_
  refine ol_nil_then ?_
  refine cd_block ?_
  refine cd_loop2 (α := Nat × Option Addr × Nat) [(3, 3), (5, 5), (35, 43)] (fun x => [(3, .slice x.2.1 (bytesA ((nums12 ⟨⟨ao, xs.length, c⟩, n1, n2, n3, n4, n5, n6, n7, n8, n9, n10, n11⟩ xs.length).take x.1)).length x.2.2), (35, .int .i64 (x.1 : Int))]) (fun x => Row 5 encU8 (.slice x.2.1 (bytesA ((nums12 ⟨⟨ao, xs.length, c⟩, n1, n2, n3, n4, n5, n6, n7, n8, n9, n10, n11⟩ xs.length).take x.1)).length x.2.2) (bytesA ((nums12 ⟨⟨ao, xs.length, c⟩, n1, n2, n3, n4, n5, n6, n7, n8, n9, n10, n11⟩ xs.length).take x.1)) :: Row 3 encI64 (.slice ao1 (nums12 ⟨⟨ao, xs.length, c⟩, n1, n2, n3, n4, n5, n6, n7, n8, n9, n10, n11⟩ xs.length).length 12) (nums12 ⟨⟨ao, xs.length, c⟩, n1, n2, n3, n4, n5, n6, n7, n8, n9, n10, n11⟩ xs.length) :: Blk bx1 (.cells (cfgC ⟨⟨ao, xs.length, c⟩, n1, n2, n3, n4, n5, n6, n7, n8, n9, n10, n11⟩).toArray 24 (0, 0)) :: l) (fun x => x.1 ≤ 12) (fun x => 12 - x.1) (0, none, 0) (Nat.zero_le _) ⟨rfl, rfl, trivial⟩ (fun _ s => Sat.rowNil s) ?_
  rintro ⟨i, vo, vc⟩ hi f; (try dsimp only at hi ⊢); have hbl := bytesA_length ((nums12 ⟨⟨ao, xs.length, c⟩, n1, n2, n3, n4, n5, n6, n7, n8, n9, n10, n11⟩ xs.length).take i); rw [List.length_take] at hbl
  refine cd_sr ?_   -- 3
  refine ol_q (wn_none rfl) (op_lt rfl rfl) rfl ?_
  refine ol_nil_then ?_
  refine cd_seq ?_
  refine cd_cond rfl (fun hb1 => ?_) (fun hb1 => ?_)
  · have hp1 := hb1
    (try simp only [decide_eq_true_eq, decide_eq_false_iff_not, Bool.not_eq_true', Bool.not_eq_false', ne_eq, Decidable.not_not] at hp1)
    refine cd_skip ?_
    refine px_then ?_
    refine cd_seq ?_
    refine cd_block ?_
    refine cd_sr ?_   -- 4
    refine ol_q (wn_none rfl) (op_index _ sB_35 rfl rfl rfl (rds_row 1 rfl rfl) rfl (by omega)) rfl ?_
    refine ol_q (wn_none rfl) (op_ldw sc_3 (rds_row 1 rfl rfl) rfl (by omega) rfl) rfl ?_
    refine ol_q (wn_none rfl) (op_assign (v := .int _ _) rfl) rfl ?_
    refine ol_nil_then ?_
    have hu4 := u64N_lt ((nums12 ⟨⟨ao, xs.length, c⟩, n1, n2, n3, n4, n5, n6, n7, n8, n9, n10, n11⟩ xs.length)[i])
    refine cd_region ?_   -- 5
    refine ol_q (wn_none rfl) (op_move (v := .slice _ _ _) rfl) rfl ?_
    refine ol_q (wn_none rfl) (op_move (v := .int _ _) rfl) rfl ?_
    refine ol_q (wn_none rfl) (op_conv64i Try.underlying32 (by rw [Try.underlying3]; rfl) rfl) rfl ?_
    refine ol_i (wn_none rfl) (os_call cb_44 rfl (fun w s => Put_calls (wd := 4) _ _ _ _  s (by omega) (by first | omega | (simp; done) | (simp; omega)))) rfl ?_; rintro _ _ ⟨pa1, pc1, rfl, rfl⟩
    refine ol_q (wn_none rfl) (op_assign (v := .slice _ _ _) rfl) rfl ?_
    refine ol_nil ?_
    refine px_blockN ?_
    refine px_then ?_
    refine cd_region ?_   -- 6
    refine ol_q (wn_none rfl) (op_add rfl rfl (by omega) (by omega)) rfl ?_
    refine ol_q (wn_none rfl) (op_move (v := .int _ _) rfl) rfl ?_
    refine ol_nil ?_
    have e1 := bytesA_succ (nums12 ⟨⟨ao, xs.length, c⟩, n1, n2, n3, n4, n5, n6, n7, n8, n9, n10, n11⟩ xs.length) i (by omega)
    refine px_loop2 (i + 1, pa1, pc1) (by dsimp only; omega) (by (try dsimp only); omega) ⟨congrArg (fun q => Value.slice pa1 (List.length q) pc1) e1.symm, congrArg (Value.int .i64) (by simp), trivial⟩ ?_ (fun _ s => (by rw [e1]; exact s))
    repeat (first | exact kept_over | refine kept_upd rfl ?_ | refine kept_overS (by decide) ?_)
  · have hp1 := hb1
    (try simp only [decide_eq_true_eq, decide_eq_false_iff_not, Bool.not_eq_true', Bool.not_eq_false', ne_eq, Decidable.not_not] at hp1)
    refine cd_exit ?_
    refine px_thenE ?_
    refine px_thenE ?_
    refine px_blockE ?_
    refine px_then ?_
    refine cd_seq ?_
    refine cd_sr ?_   -- 7
    refine ol_q (wn_none rfl) (op_field fld_24_0 rfl) rfl ?_
    refine ol_q (wn_none rfl) (op_ld 2 sc_22 rfl rfl (cfgC_a0 _)) rfl ?_
    refine ol_q (wn_none rfl) (op_len_slice Try.underlying22 rfl) rfl ?_
    refine ol_q (wn_none rfl) (op_move (v := .int _ _) rfl) rfl ?_
    refine ol_nil_then ?_
    refine cd_block ?_
    obtain rfl : i = 12 := by omega
    have e0 : bytesA ((nums12 ⟨⟨ao, xs.length, c⟩, n1, n2, n3, n4, n5, n6, n7, n8, n9, n10, n11⟩ xs.length).take 12) = bytesA (nums12 ⟨⟨ao, xs.length, c⟩, n1, n2, n3, n4, n5, n6, n7, n8, n9, n10, n11⟩ xs.length) ++ bytesV (xs.take 0) := by rw [List.take_of_length_le (by omega)]; simp [bytesV]
    refine cd_loop2 (α := Nat × Option Addr × Nat) [(3, 3), (7, 7), (47, 64)] (fun x => [(3, .slice x.2.1 (bytesA (nums12 ⟨⟨ao, xs.length, c⟩, n1, n2, n3, n4, n5, n6, n7, n8, n9, n10, n11⟩ xs.length) ++ bytesV (xs.take x.1)).length x.2.2), (47, .int .i64 (x.1 : Int))]) (fun x => Row 5 encU8 (.slice x.2.1 (bytesA (nums12 ⟨⟨ao, xs.length, c⟩, n1, n2, n3, n4, n5, n6, n7, n8, n9, n10, n11⟩ xs.length) ++ bytesV (xs.take x.1)).length x.2.2) (bytesA (nums12 ⟨⟨ao, xs.length, c⟩, n1, n2, n3, n4, n5, n6, n7, n8, n9, n10, n11⟩ xs.length) ++ bytesV (xs.take x.1)) :: Blk bx1 (.cells (cfgC ⟨⟨ao, xs.length, c⟩, n1, n2, n3, n4, n5, n6, n7, n8, n9, n10, n11⟩).toArray 24 (0, 0)) :: l) (fun x => x.1 ≤ xs.length) (fun x => xs.length - x.1) (0, vo, vc) (Nat.zero_le _) ⟨congrArg (fun q => Value.slice vo (List.length q) vc) e0, rfl, trivial⟩ (fun _ s => by rw [← e0]; exact (s.del 1)) ?_
    rintro ⟨j, vo2, vc2⟩ hj f; (try dsimp only at hj ⊢); have hbl2 := bytesA_length (nums12 ⟨⟨ao, xs.length, c⟩, n1, n2, n3, n4, n5, n6, n7, n8, n9, n10, n11⟩ xs.length); have hbv := bytesV_length (l := xs.take j) fun y hy => hk y (List.mem_of_mem_take hy); rw [List.length_take] at hbv; have hbs : (bytesA (nums12 ⟨⟨ao, xs.length, c⟩, n1, n2, n3, n4, n5, n6, n7, n8, n9, n10, n11⟩ xs.length)).length + (bytesV (xs.take j)).length ≤ 3000 := by omega
    refine cd_sr ?_   -- 8
    refine ol_q (wn_none rfl) (op_lt rfl rfl) rfl ?_
    refine ol_nil_then ?_
    refine cd_seq ?_
    refine cd_cond rfl (fun hb2 => ?_) (fun hb2 => ?_)
    · have hp2 := hb2
      (try simp only [decide_eq_true_eq, decide_eq_false_iff_not, Bool.not_eq_true', Bool.not_eq_false', ne_eq, Decidable.not_not] at hp2)
      refine cd_skip ?_
      refine px_then ?_
      refine cd_seq ?_
      refine cd_block ?_
      refine cd_sr ?_   -- 9
      refine ol_q (wn_none rfl) (op_index _ sB_22 rfl rfl rfl ((hr.cons _).cons _) rfl (by omega)) rfl ?_
      refine ol_q (wn_none rfl) (op_ldaw (L := valC _) ag_60 ((hr.cons _).cons _) rfl (by omega) rfl (valC_ta _)) rfl ?_
      refine ol_i (wn_none rfl) (os_alloc (cs := (valC Val.zero).toArray) zB_60 (by kernel_rfl)) rfl ?_; rintro _ _ ⟨bx2, rfl, rfl⟩
      refine ol_iN (wn_none rfl) (os_storew (valC _) ag_60 rfl rfl (valC_len _) (valC_one _) (by simp [valC_len]) (Free.zero _)) ?_; rintro _ _ ⟨rfl, rfl⟩
      refine ol_nil_then ?_
      have hu8 := u64N_lt xs[j].stake
      have hk1 := hk xs[j] (List.getElem_mem _)
      have hp8 : (putB (u64N xs[j].stake) (clamp8 8)).length = 8 := by rw [putB_length]; rfl
      have hp1 : (putB xs[j].key.length (clamp8 1)).length = 1 := by rw [putB_length]; rfl
      refine cd_pull1 ?_
      -- 10
      refine cd_drawt (M := [_]) mx [4, 9] 12 (by kernel_rfl) rfl rfl ?_
      dsimp only [List.take_succ_cons, List.take_zero, List.drop_succ_cons, List.drop_zero]
      refine rg_q (wn_none rfl) (op_move (v := .slice _ _ _) rfl) rfl rfl ?_
      refine rg_q (wn_none rfl) (op_field fld_60_0 rfl) rfl rfl ?_
      refine rg_q (wn_none rfl) (op_ld 0 sc_3 rfl rfl (valC_a0 _)) rfl rfl ?_
      refine rg_q (wn_none rfl) (op_conv64i Try.underlying32 (by rw [Try.underlying3]; rfl) rfl) rfl rfl ?_
      refine rg_i (wn_none rfl) (os_call cb_44 rfl (fun w s => Put_calls (wd := 8) _ _ _ _  s (by omega) (by first | omega | (simp; done) | (simp; omega)))) rfl rfl ?_; rintro _ _ ⟨pa2, pc2, rfl, rfl⟩; refine ⟨[_], rfl, ?_⟩
      refine rg_q (wn_none rfl) (op_field fld_60_1 rfl) rfl rfl ?_
      refine rg_q (wn_none rfl) (op_ld 0 sc_9 rfl rfl (valC_a1 _)) rfl rfl ?_
      refine rg_q (wn_none rfl) (op_len_string Try.underlying9 rfl) rfl rfl ?_
      refine rg_q (wn_none rfl) (op_conv64 Try.underlying32 (by rw [Try.underlying3]; rfl) rfl (by omega)) rfl rfl ?_
      refine rg_i (wn_none rfl) (os_call cb_44 rfl (fun w s => Put_calls (wd := 1) _ _ _ _  s (by omega) (by first | omega | (simp; done) | (simp; omega)))) rfl rfl ?_; rintro _ _ ⟨pa3, pc3, rfl, rfl⟩; refine ⟨[_], rfl, ?_⟩
      refine rg_q (wn_none rfl) (op_field fld_60_1 rfl) rfl rfl ?_
      refine rg_q (wn_none rfl) (op_ld 0 sc_9 rfl rfl (valC_a1 _)) rfl rfl ?_
      refine rg_tail1 ?_
      refine ol_i (wn_none rfl) (os_appendS rfl sB_55 Try.underlying9 zv_5 rfl rfl rfl (by simp; omega) (by unfold maxLen; simp; omega)) rfl ?_; rintro _ _ ⟨ao2, ac2, rfl, rfl⟩
      refine ol_q (wn_none rfl) (op_assign (v := .slice _ _ _) rfl) rfl ?_
      refine ol_nil ?_
      refine px_blockN ?_
      refine px_then ?_
      refine cd_region ?_   -- 11
      refine ol_q (wn_none rfl) (op_add rfl rfl (by omega) (by omega)) rfl ?_
      refine ol_q (wn_none rfl) (op_move (v := .int _ _) rfl) rfl ?_
      refine ol_nil ?_
      have e2 := bytesV_succ xs j (by omega)
      have e3 : bytesA (nums12 ⟨⟨ao, xs.length, c⟩, n1, n2, n3, n4, n5, n6, n7, n8, n9, n10, n11⟩ xs.length) ++ bytesV (xs.take (j + 1)) = bytesA (nums12 ⟨⟨ao, xs.length, c⟩, n1, n2, n3, n4, n5, n6, n7, n8, n9, n10, n11⟩ xs.length) ++ bytesV (xs.take j) ++ putB (u64N xs[j].stake) (clamp8 8) ++ putB xs[j].key.length (clamp8 1) ++ xs[j].key := by rw [e2]; simp only [List.append_assoc]; rfl
      refine px_loop2 (j + 1, ao2, ac2) (by dsimp only; omega) (by (try dsimp only); omega) ⟨congrArg (fun q => Value.slice ao2 (List.length q) ac2) e3.symm, congrArg (Value.int .i64) (by simp), trivial⟩ ?_ (fun _ s => (by rw [e3]; exact (s.del 1)))
      repeat (first | exact kept_over | refine kept_upd rfl ?_ | refine kept_overS (by decide) ?_)
    · have hp2 := hb2
      (try simp only [decide_eq_true_eq, decide_eq_false_iff_not, Bool.not_eq_true', Bool.not_eq_false', ne_eq, Decidable.not_not] at hp2)
      refine cd_exit ?_
      refine px_thenE ?_
      refine px_thenE ?_
      refine px_blockE ?_
      refine px_then ?_
      refine cd_sr ?_   -- 12
      refine ol_q (wn_none rfl) (op_move (v := .slice _ _ _) rfl) rfl ?_
      refine ol_q (wn_none rfl) (op_b2s sB_55 Try.underlying5 Try.underlying9 rfl (rds_row 0 rfl rfl) rfl) rfl ?_
      refine ol_q (wn_none rfl) (op_assign (v := .string _) rfl) rfl ?_
      refine ol_nil_then ?_
      refine cd_ret ?_
      obtain rfl : j = xs.length := by omega
      exact px_ret1 rfl (v := .string _) rfl (fun _ s => ((s.del 1).del 0)) ⟨by unfold bytesC; rw [List.take_length], rfl⟩
end Go.SL

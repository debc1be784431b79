import Derived.Test.YtgdlddjalilmhaaMGen3
import Derived.Test.YtgdlddjalilmhaaGen6
set_option linter.unusedVariables false
set_option linter.unusedSimpArgs false
namespace Go.SL
open Go.Proofs

set_option maxRecDepth 100000 in
set_option maxHeartbeats 1000000 in
theorem Same_calls {w0 w : World} {l : List HProp} (ao : Option Addr) (c : Nat) (xs : List Val) (n1 n2 n3 n4 n5 n6 n7 n8 n9 n10 n11 : Int) (bo : Option Addr) (d : Nat) (ys : List Val) (m1 m2 m3 m4 m5 m6 m7 m8 m9 m10 m11 : Int) (hs : Sat w0 w (l)) (hr : Rds w0 l encVal ao xs) (hr2 : Rds w0 l encVal bo ys) (hxl : xs.length ≤ 1000000) :
    Calls Try.prog 22 #[.agg (cfgC ⟨⟨ao, xs.length, c⟩, n1, n2, n3, n4, n5, n6, n7, n8, n9, n10, n11⟩).toArray, .agg (cfgC ⟨⟨bo, ys.length, d⟩, m1, m2, m3, m4, m5, m6, m7, m8, m9, m10, m11⟩).toArray] w (Ret w0 fun v l' => v = .bool (sameC ⟨⟨ao, xs.length, c⟩, n1, n2, n3, n4, n5, n6, n7, n8, n9, n10, n11⟩ ⟨⟨bo, ys.length, d⟩, m1, m2, m3, m4, m5, m6, m7, m8, m9, m10, m11⟩ xs ys) ∧ l' = l) := by
  have hna : (numsL ⟨⟨ao, xs.length, c⟩, n1, n2, n3, n4, n5, n6, n7, n8, n9, n10, n11⟩ xs.length).length = 24 := rfl
  have hnb : (numsL ⟨⟨bo, ys.length, d⟩, m1, m2, m3, m4, m5, m6, m7, m8, m9, m10, m11⟩ ys.length).length = 24 := rfl
  refine calls_enter Try.func22 rfl rfl rfl hs ?_
  refine cd_sr ?_   -- 0
  refine ol_i (wn_none rfl) (os_boxa rfl) rfl ?_; rintro _ _ ⟨bx1, rfl, rfl⟩
  refine ol_i (wn_none rfl) (os_boxa rfl) rfl ?_; rintro _ _ ⟨bx2, rfl, rfl⟩
  refine ol_q (wn_none rfl) (op_assign (v := .bool _) rfl) rfl ?_
  refine ol_nil_then ?_
  refine cd_seq ?_   -- 1
  refine cd_draw (M := []) mx [1, 3] (by kernel_rfl) ?_
  refine rg_q (wn_none rfl) (op_lda (L := cfgC _) 1 ag_24 rfl rfl (cfgC_ta _) (by simp [cfgC_len])) rfl rfl ?_
  refine rg_i (wn_none rfl) (os_call cb_43 rfl (fun w s => Numbers_calls _ _ _ _ _ _ _ _ _ _ _ _ _ _  s ((hr.cons _).cons _))) rfl rfl ?_; rintro _ _ ⟨no1, nc1, rfl, rfl⟩; refine ⟨[_], rfl, ?_⟩
  refine rg_q (wn_none rfl) (op_lda (L := cfgC _) 0 ag_24 rfl rfl (cfgC_ta _) (by simp [cfgC_len])) rfl rfl ?_
  refine rg_i (wn_none rfl) (os_call cb_43 rfl (fun w s => Numbers_calls _ _ _ _ _ _ _ _ _ _ _ _ _ _  s (((hr2.cons _).cons _).cons _))) rfl rfl ?_; rintro _ _ ⟨no2, nc2, rfl, rfl⟩; refine ⟨[_, _], rfl, ?_⟩
  refine rg_q (wn_none rfl) (op_assign (v := .slice _ _ _) rfl) rfl rfl ?_
  refine rg_q (wn_none rfl) (op_assign (v := .slice _ _ _) rfl) rfl rfl ?_
  refine rg_nil_then2 ?_
  refine cd_seq ?_
  refine cd_sr ?_   -- 2
  refine ol_q (wn_none rfl) (op_move (v := .slice _ _ _) rfl) rfl ?_
  refine ol_q (wn_none rfl) (op_len_slice Try.underlying35 rfl) rfl ?_
  refine ol_q (wn_none rfl) (op_move (v := .int _ _) rfl) rfl ?_
  refine ol_nil_then ?_
  refine cd_block ?_
  refine cd_loop2 (α := Nat) [(4, 4), (7, 7), (15, 27)] (fun x => [(15, .int .i64 (x : Int))]) (fun _ => _) (fun x => x ≤ 24 ∧ ∀ q (h1 : q < (numsL ⟨⟨ao, xs.length, c⟩, n1, n2, n3, n4, n5, n6, n7, n8, n9, n10, n11⟩ xs.length).length) (h2 : q < (numsL ⟨⟨bo, ys.length, d⟩, m1, m2, m3, m4, m5, m6, m7, m8, m9, m10, m11⟩ ys.length).length), q < x → (numsL ⟨⟨ao, xs.length, c⟩, n1, n2, n3, n4, n5, n6, n7, n8, n9, n10, n11⟩ xs.length)[q] = (numsL ⟨⟨bo, ys.length, d⟩, m1, m2, m3, m4, m5, m6, m7, m8, m9, m10, m11⟩ ys.length)[q]) (fun x => 24 - x) 0 ⟨Nat.zero_le _, fun q h h1 h2 => absurd h2 (Nat.not_lt_zero _)⟩ ⟨rfl, trivial⟩ (fun _ s => s) ?_
  rintro i ⟨hi, hno⟩ f; (try dsimp only at hi hno ⊢)
  refine cd_sr ?_   -- 3
  refine ol_q (wn_none rfl) (op_lt rfl rfl) rfl ?_
  refine ol_nil_then ?_
  refine cd_seq ?_
  refine cd_cond rfl (fun hb1 => ?_) (fun hb1 => ?_)
  · have hp1 := hb1
    (try simp only [decide_eq_true_eq, decide_eq_false_iff_not, Bool.not_eq_true', Bool.not_eq_false', ne_eq, Decidable.not_not] at hp1)
    refine cd_skip ?_
    refine px_then ?_
    refine cd_seq ?_
    refine cd_block ?_
    refine cd_sr ?_   -- 4
    refine ol_q (wn_none rfl) (op_move (v := .int _ _) rfl) rfl ?_
    refine ol_q (wn_none rfl) (op_assign (v := .int _ _) rfl) rfl ?_
    refine ol_nil_then ?_
    refine cd_seq ?_   -- 5
    refine cd_draw (M := []) mx [] (by kernel_rfl) ?_
    refine rg_q (wn_none rfl) (op_move (v := .slice _ _ _) rfl) rfl rfl ?_
    refine rg_q (wn_none rfl) (op_move (v := .int _ _) rfl) rfl rfl ?_
    refine rg_q (wn_none rfl) (op_index _ sB_35 rfl rfl rfl (rds_row 1 rfl rfl) rfl (by omega)) rfl rfl ?_
    refine rg_q (wn_none rfl) (op_ldw sc_3 (rds_row 1 rfl rfl) rfl (by omega) rfl) rfl rfl ?_
    refine rg_q (wn_none rfl) (op_move (v := .slice _ _ _) rfl) rfl rfl ?_
    refine rg_q (wn_none rfl) (op_move (v := .int _ _) rfl) rfl rfl ?_
    refine rg_q (wn_none rfl) (op_index _ sB_35 rfl rfl rfl (rds_row 0 rfl rfl) rfl (by omega)) rfl rfl ?_
    refine rg_q (wn_none rfl) (op_ldw sc_3 (rds_row 0 rfl rfl) rfl (by omega) rfl) rfl rfl ?_
    refine rg_q (wn_none rfl) (op_ne rfl rfl) rfl rfl ?_
    refine rg_nil_then0 ?_
    refine cd_cond rfl (fun hb2 => ?_) (fun hb2 => ?_)
    · have hp2 := hb2
      (try simp only [decide_eq_true_eq, decide_eq_false_iff_not, Bool.not_eq_true', Bool.not_eq_false', ne_eq, Decidable.not_not] at hp2)
      have hne1 : (numsL ⟨⟨ao, xs.length, c⟩, n1, n2, n3, n4, n5, n6, n7, n8, n9, n10, n11⟩ xs.length)[i] ≠ (numsL ⟨⟨bo, ys.length, d⟩, m1, m2, m3, m4, m5, m6, m7, m8, m9, m10, m11⟩ ys.length)[i] := by simpa using hb2
      refine cd_sr ?_   -- 6
      refine ol_q (wn_none rfl) (op_assign (v := .bool _) rfl) rfl ?_
      refine ol_nil_then ?_
      refine cd_ret ?_
      refine px_blockR ?_
      refine px_thenR ?_
      refine px_thenR ?_
      refine px_blockR ?_
      refine px_thenR ?_
      exact px_ret1 rfl (v := .bool _) rfl (fun _ s => ((((s.del 3).del 2).del 1).del 0)) ⟨congrArg Value.bool ((sameC_no1 (by omega) (by omega) hne1).symm), rfl⟩
    · have hp2 := hb2
      (try simp only [decide_eq_true_eq, decide_eq_false_iff_not, Bool.not_eq_true', Bool.not_eq_false', ne_eq, Decidable.not_not] at hp2)
      have hne1 : (numsL ⟨⟨ao, xs.length, c⟩, n1, n2, n3, n4, n5, n6, n7, n8, n9, n10, n11⟩ xs.length)[i] = (numsL ⟨⟨bo, ys.length, d⟩, m1, m2, m3, m4, m5, m6, m7, m8, m9, m10, m11⟩ ys.length)[i] := by simpa using hb2
      refine cd_skip ?_
      refine px_blockN ?_
      refine px_then ?_
      refine cd_region ?_   -- 7
      refine ol_q (wn_none rfl) (op_add rfl rfl (by omega) (by omega)) rfl ?_
      refine ol_q (wn_none rfl) (op_move (v := .int _ _) rfl) rfl ?_
      refine ol_nil ?_
      refine px_loop2 (i + 1) ⟨by omega, fun q h h1 h2 => by rcases Nat.lt_succ_iff_lt_or_eq.1 h2 with h3 | h3; exact hno q h h1 h3; subst h3; exact hne1⟩ (by (try dsimp only); omega) ⟨congrArg (Value.int .i64) (by simp), trivial⟩ ?_ (fun _ s => s)
      repeat (first | exact kept_over | refine kept_upd rfl ?_ | refine kept_overS (by decide) ?_)
  · have hp1 := hb1
    (try simp only [decide_eq_true_eq, decide_eq_false_iff_not, Bool.not_eq_true', Bool.not_eq_false', ne_eq, Decidable.not_not] at hp1)
    refine cd_exit ?_
    refine px_thenE ?_
    refine px_thenE ?_
    refine px_blockE ?_
    refine px_then ?_
    refine cd_seq ?_
    refine cd_sr ?_   -- 8
    refine ol_q (wn_none rfl) (op_field fld_24_0 rfl) rfl ?_
    refine ol_q (wn_none rfl) (op_ld 3 sc_22 rfl rfl (show (cfgC _).toArray[0]? = some (.slice ao xs.length c) from cfgC_a0 _)) rfl ?_
    refine ol_q (wn_none rfl) (op_len_slice Try.underlying22 rfl) rfl ?_
    refine ol_q (wn_none rfl) (op_field fld_24_0 rfl) rfl ?_
    refine ol_q (wn_none rfl) (op_ld 2 sc_22 rfl rfl (show (cfgC _).toArray[0]? = some (.slice bo ys.length d) from cfgC_a0 _)) rfl ?_
    refine ol_q (wn_none rfl) (op_len_slice Try.underlying22 rfl) rfl ?_
    refine ol_q (wn_none rfl) (op_ne rfl rfl) rfl ?_
    refine ol_nil_then ?_
    refine cd_cond rfl (fun hb3 => ?_) (fun hb3 => ?_)
    · have hp3 := hb3
      (try simp only [decide_eq_true_eq, decide_eq_false_iff_not, Bool.not_eq_true', Bool.not_eq_false', ne_eq, Decidable.not_not] at hp3)
      have hlen : xs.length ≠ ys.length := fun h => by simp [h] at hb3
      refine cd_sr ?_   -- 9
      refine ol_q (wn_none rfl) (op_assign (v := .bool _) rfl) rfl ?_
      refine ol_nil_then ?_
      refine cd_ret ?_
      refine px_thenR ?_
      exact px_ret1 rfl (v := .bool _) rfl (fun _ s => ((((s.del 3).del 2).del 1).del 0)) ⟨congrArg Value.bool ((sameC_no2 fun h => hlen (congrArg List.length h)).symm), rfl⟩
    · have hp3 := hb3
      (try simp only [decide_eq_true_eq, decide_eq_false_iff_not, Bool.not_eq_true', Bool.not_eq_false', ne_eq, Decidable.not_not] at hp3)
      have hlen : xs.length = ys.length := Int.ofNat_inj.1 (by simpa using hb3)
      refine cd_skip ?_
      refine px_then ?_
      refine cd_seq ?_
      refine cd_sr ?_   -- 10
      refine ol_q (wn_none rfl) (op_field fld_24_0 rfl) rfl ?_
      refine ol_q (wn_none rfl) (op_ld 3 sc_22 rfl rfl (show (cfgC _).toArray[0]? = some (.slice ao xs.length c) from cfgC_a0 _)) rfl ?_
      refine ol_q (wn_none rfl) (op_len_slice Try.underlying22 rfl) rfl ?_
      refine ol_q (wn_none rfl) (op_move (v := .int _ _) rfl) rfl ?_
      refine ol_nil_then ?_
      refine cd_block ?_
      refine cd_loop2 (α := Nat) [(4, 4), (8, 8), (38, 52)] (fun x => [(38, .int .i64 (x : Int))]) (fun _ => _) (fun x => x ≤ xs.length ∧ ∀ q (h1 : q < xs.length) (h2 : q < ys.length), q < x → xs[q] = ys[q]) (fun x => xs.length - x) 0 ⟨Nat.zero_le _, fun q h h1 h2 => absurd h2 (Nat.not_lt_zero _)⟩ ⟨rfl, trivial⟩ (fun _ s => s) ?_
      rintro j ⟨hj, hno2⟩ f; (try dsimp only at hj hno2 ⊢)
      refine cd_sr ?_   -- 11
      refine ol_q (wn_none rfl) (op_lt rfl rfl) rfl ?_
      refine ol_nil_then ?_
      refine cd_seq ?_
      refine cd_cond rfl (fun hb4 => ?_) (fun hb4 => ?_)
      · have hp4 := hb4
        (try simp only [decide_eq_true_eq, decide_eq_false_iff_not, Bool.not_eq_true', Bool.not_eq_false', ne_eq, Decidable.not_not] at hp4)
        refine cd_skip ?_
        refine px_then ?_
        refine cd_seq ?_
        refine cd_block ?_
        refine cd_sr ?_   -- 12
        refine ol_q (wn_none rfl) (op_move (v := .int _ _) rfl) rfl ?_
        refine ol_q (wn_none rfl) (op_assign (v := .int _ _) rfl) rfl ?_
        refine ol_nil_then ?_
        refine cd_seq ?_   -- 13
        refine cd_draw (M := []) mx [] (by kernel_rfl) ?_
        refine rg_q (wn_none rfl) (op_field fld_24_0 rfl) rfl rfl ?_
        refine rg_q (wn_none rfl) (op_ld 3 sc_22 rfl rfl (show (cfgC _).toArray[0]? = some (.slice ao xs.length c) from cfgC_a0 _)) rfl rfl ?_
        refine rg_q (wn_none rfl) (op_move (v := .int _ _) rfl) rfl rfl ?_
        refine rg_q (wn_none rfl) (op_index _ sB_22 rfl rfl rfl ((((hr.cons _).cons _).cons _).cons _) rfl (by omega)) rfl rfl ?_
        refine rg_q (wn_none rfl) (op_ldaw (L := valC _) ag_60 ((((hr.cons _).cons _).cons _).cons _) rfl (by omega) rfl (valC_ta _)) rfl rfl ?_
        refine rg_q (wn_none rfl) (op_field fld_24_0 rfl) rfl rfl ?_
        refine rg_q (wn_none rfl) (op_ld 2 sc_22 rfl rfl (show (cfgC _).toArray[0]? = some (.slice bo ys.length d) from cfgC_a0 _)) rfl rfl ?_
        refine rg_q (wn_none rfl) (op_move (v := .int _ _) rfl) rfl rfl ?_
        refine rg_q (wn_none rfl) (op_index _ sB_22 rfl rfl rfl ((((hr2.cons _).cons _).cons _).cons _) rfl (by omega)) rfl rfl ?_
        refine rg_q (wn_none rfl) (op_ldaw (L := valC _) ag_60 ((((hr2.cons _).cons _).cons _).cons _) rfl (by omega) rfl (valC_ta _)) rfl rfl ?_
        refine rg_q (wn_none rfl) (op_nes stB_60 rfl rfl (feq_Val fs_60 Try.underlying3 Try.underlying9 _ _)) rfl rfl ?_
        refine rg_nil_then0 ?_
        refine cd_cond rfl (fun hb5 => ?_) (fun hb5 => ?_)
        · have hp5 := hb5
          (try simp only [decide_eq_true_eq, decide_eq_false_iff_not, Bool.not_eq_true', Bool.not_eq_false', ne_eq, Decidable.not_not] at hp5)
          have hne2 : xs[j] ≠ ys[j] := by simpa using hb5
          refine cd_sr ?_   -- 14
          refine ol_q (wn_none rfl) (op_assign (v := .bool _) rfl) rfl ?_
          refine ol_nil_then ?_
          refine cd_ret ?_
          refine px_blockR ?_
          refine px_thenR ?_
          refine px_thenR ?_
          refine px_blockR ?_
          refine px_thenR ?_
          exact px_ret1 rfl (v := .bool _) rfl (fun _ s => ((((s.del 3).del 2).del 1).del 0)) ⟨congrArg Value.bool ((sameC_no2 fun h => hne2 (by simp [h])).symm), rfl⟩
        · have hp5 := hb5
          (try simp only [decide_eq_true_eq, decide_eq_false_iff_not, Bool.not_eq_true', Bool.not_eq_false', ne_eq, Decidable.not_not] at hp5)
          have hne2 : xs[j] = ys[j] := by simpa using hb5
          refine cd_skip ?_
          refine px_blockN ?_
          refine px_then ?_
          refine cd_region ?_   -- 15
          refine ol_q (wn_none rfl) (op_add rfl rfl (by omega) (by omega)) rfl ?_
          refine ol_q (wn_none rfl) (op_move (v := .int _ _) rfl) rfl ?_
          refine ol_nil ?_
          refine px_loop2 (j + 1) ⟨by omega, fun q h h1 h2 => by rcases Nat.lt_succ_iff_lt_or_eq.1 h2 with h3 | h3; exact hno2 q h h1 h3; subst h3; exact hne2⟩ (by (try dsimp only); omega) ⟨congrArg (Value.int .i64) (by simp), trivial⟩ ?_ (fun _ s => s)
          repeat (first | exact kept_over | refine kept_upd rfl ?_ | refine kept_overS (by decide) ?_)
      · have hp4 := hb4
        (try simp only [decide_eq_true_eq, decide_eq_false_iff_not, Bool.not_eq_true', Bool.not_eq_false', ne_eq, Decidable.not_not] at hp4)
        refine cd_exit ?_
        refine px_thenE ?_
        refine px_thenE ?_
        refine px_blockE ?_
        refine px_then ?_
        refine cd_sr ?_   -- 16
        refine ol_q (wn_none rfl) (op_assign (v := .bool _) rfl) rfl ?_
        refine ol_nil_then ?_
        refine cd_ret ?_
        exact px_ret1 rfl (v := .bool _) rfl (fun _ s => ((((s.del 3).del 2).del 1).del 0)) ⟨congrArg Value.bool ((sameC_yes (fun q h1 h2 => hno q h1 h2 (by omega)) hlen (fun q h1 h2 => hno2 q h1 h2 (by omega))).symm), rfl⟩

set_option maxRecDepth 100000 in
set_option maxHeartbeats 1000000 in
theorem GenesisOne_calls {w0 w : World} {l : List HProp} (ao : Option Addr) (c : Nat) (xs : List Val) (n1 n2 n3 n4 n5 n6 n7 n8 n9 n10 n11 : Int) (bo : Option Addr) (d : Nat) (ys : List Val) (m1 m2 m3 m4 m5 m6 m7 m8 m9 m10 m11 : Int) (hs : Sat w0 w (l)) (hr : Rds w0 l encVal ao xs) (hq : ∀ y ∈ xs, I64 y.stake ∧ y.key.length ≤ maxLen) (hr2 : Rds w0 l encVal bo ys) (hq2 : ∀ y ∈ ys, I64 y.stake ∧ y.key.length ≤ maxLen) :
    Calls Try.prog 4 #[.agg (cfgC ⟨⟨ao, xs.length, c⟩, n1, n2, n3, n4, n5, n6, n7, n8, n9, n10, n11⟩).toArray, .agg (cfgC ⟨⟨bo, ys.length, d⟩, m1, m2, m3, m4, m5, m6, m7, m8, m9, m10, m11⟩).toArray] w (Ret w0 fun v l' => v = .bool true ∧ l' = l) := by
  refine calls_enter Try.func4 rfl rfl rfl hs ?_
  refine cd_sr ?_   -- 0
  refine ol_i (wn_none rfl) (os_boxa rfl) rfl ?_; rintro _ _ ⟨bx1, rfl, rfl⟩
  refine ol_i (wn_none rfl) (os_boxa rfl) rfl ?_; rintro _ _ ⟨bx2, rfl, rfl⟩
  refine ol_q (wn_none rfl) (op_assign (v := .bool _) rfl) rfl ?_
  refine ol_nil_then ?_
  refine cd_seq ?_
  refine cd_sr ?_   -- 1
  refine ol_i (wn_none rfl) (os_call cb_15 rfl (fun w s => gAlive_calls  s )) rfl ?_; rintro _ l ⟨rfl, rfl⟩
  refine ol_q (wn_none rfl) (op_not rfl) rfl ?_
  refine ol_nil_then ?_
  refine cd_cond_f rfl rfl ?_
  refine cd_skip ?_
  refine px_then ?_
  refine cd_seq ?_
  refine cd_sr ?_   -- 3
  refine ol_q (wn_none rfl) (op_lda (L := cfgC _) 1 ag_24 rfl rfl (cfgC_ta _) (by simp [cfgC_len])) rfl ?_
  refine ol_i (wn_none rfl) (os_call cb_16 rfl (fun w s => Great_calls _ _ _ _ _ _ _ _ _ _ _ _ _ _  s ((hr.cons _).cons _))) rfl ?_; rintro _ l ⟨rfl, rfl⟩
  refine ol_q (wn_none rfl) (op_move (v := .bool _) rfl) rfl ?_
  refine ol_split 9 rfl (fun hb1 => ?_) (fun hb1 => ?_)
  · have hp1 := hb1
    (try simp only [decide_eq_true_eq, decide_eq_false_iff_not, Bool.not_eq_true', Bool.not_eq_false', ne_eq, Decidable.not_not] at hp1)
    refine ol_skip (wn_some rfl rfl rfl hb1 rfl) rfl ?_
    refine ol_skip (wn_some rfl rfl rfl hb1 rfl) rfl ?_
    refine ol_q (wn_none rfl) (op_pick_t (v := .bool _) rfl hb1 rfl) rfl ?_
    refine ol_q (wn_none rfl) (op_move (v := .bool _) rfl) rfl ?_
    refine ol_skip (wn_some rfl rfl rfl rfl rfl) rfl ?_
    refine ol_skip (wn_some rfl rfl rfl rfl rfl) rfl ?_
    refine ol_skip (wn_some rfl rfl rfl rfl rfl) rfl ?_
    refine ol_q (wn_none rfl) (op_pick_t (v := .bool _) rfl rfl rfl) rfl ?_
    refine ol_q (wn_none rfl) (op_move (v := .bool _) rfl) rfl ?_
    refine ol_skip (wn_some rfl rfl rfl rfl rfl) rfl ?_
    refine ol_skip (wn_some rfl rfl rfl rfl rfl) rfl ?_
    refine ol_skip (wn_some rfl rfl rfl rfl rfl) rfl ?_
    refine ol_q (wn_none rfl) (op_pick_t (v := .bool _) rfl rfl rfl) rfl ?_
    refine ol_nil_then ?_
    refine cd_cond_t rfl rfl ?_
    refine cd_sr ?_   -- 4
    refine ol_q (wn_none rfl) (op_assign (v := .bool _) rfl) rfl ?_
    refine ol_nil_then ?_
    refine cd_ret ?_
    refine px_thenR ?_
    exact px_ret1 rfl (v := .bool _) rfl (fun _ s => ((s.del 1).del 0)) ⟨congrArg Value.bool (by first | rfl | (simp; done) | (rw [bytesC_one hgood hgood2]; simp)), rfl⟩
  · have hp1 := hb1
    (try simp only [decide_eq_true_eq, decide_eq_false_iff_not, Bool.not_eq_true', Bool.not_eq_false', ne_eq, Decidable.not_not] at hp1)
    have hgr : greatC xs = false := by simpa using hb1
    have hxl : xs.length ≤ 100 := by unfold greatC at hgr; rw [Bool.or_eq_false_iff] at hgr; have := of_decide_eq_false hgr.1; omega
    refine ol_q (wn_some rfl rfl rfl hb1 rfl) (op_lda (L := cfgC _) 0 ag_24 rfl rfl (cfgC_ta _) (by simp [cfgC_len])) rfl ?_
    refine ol_i (wn_some rfl rfl rfl hb1 rfl) (os_call cb_16 rfl (fun w s => Great_calls _ _ _ _ _ _ _ _ _ _ _ _ _ _  s ((hr2.cons _).cons _))) rfl ?_; rintro _ l ⟨rfl, rfl⟩
    refine ol_q (wn_none rfl) (op_pick_f (v := .bool _) rfl hb1 rfl) rfl ?_
    refine ol_q (wn_none rfl) (op_move (v := .bool _) rfl) rfl ?_
    refine ol_split 13 rfl (fun hb2 => ?_) (fun hb2 => ?_)
    · have hp2 := hb2
      (try simp only [decide_eq_true_eq, decide_eq_false_iff_not, Bool.not_eq_true', Bool.not_eq_false', ne_eq, Decidable.not_not] at hp2)
      refine ol_skip (wn_some rfl rfl rfl hb2 rfl) rfl ?_
      refine ol_skip (wn_some rfl rfl rfl hb2 rfl) rfl ?_
      refine ol_skip (wn_some rfl rfl rfl hb2 rfl) rfl ?_
      refine ol_q (wn_none rfl) (op_pick_t (v := .bool _) rfl hb2 rfl) rfl ?_
      refine ol_q (wn_none rfl) (op_move (v := .bool _) rfl) rfl ?_
      refine ol_skip (wn_some rfl rfl rfl rfl rfl) rfl ?_
      refine ol_skip (wn_some rfl rfl rfl rfl rfl) rfl ?_
      refine ol_skip (wn_some rfl rfl rfl rfl rfl) rfl ?_
      refine ol_q (wn_none rfl) (op_pick_t (v := .bool _) rfl rfl rfl) rfl ?_
      refine ol_nil_then ?_
      refine cd_cond_t rfl rfl ?_
      refine cd_sr ?_   -- 4
      refine ol_q (wn_none rfl) (op_assign (v := .bool _) rfl) rfl ?_
      refine ol_nil_then ?_
      refine cd_ret ?_
      refine px_thenR ?_
      exact px_ret1 rfl (v := .bool _) rfl (fun _ s => ((s.del 1).del 0)) ⟨congrArg Value.bool (by first | rfl | (simp; done) | (rw [bytesC_one hgood hgood2]; simp)), rfl⟩
    · have hp2 := hb2
      (try simp only [decide_eq_true_eq, decide_eq_false_iff_not, Bool.not_eq_true', Bool.not_eq_false', ne_eq, Decidable.not_not] at hp2)
      have hgrb : greatC ys = false := by simpa using hb2
      have hyl : ys.length ≤ 100 := by unfold greatC at hgrb; rw [Bool.or_eq_false_iff] at hgrb; have := of_decide_eq_false hgrb.1; omega
      refine ol_q (wn_some rfl rfl rfl hb2 rfl) (op_lda (L := cfgC _) 1 ag_24 rfl rfl (cfgC_ta _) (by simp [cfgC_len])) rfl ?_
      refine ol_i (wn_some rfl rfl rfl hb2 rfl) (os_call cb_20 rfl (fun w s => RGood_calls _ _ _ _ _ _ _ _ _ _ _ _ _ _  s ((hr.cons _).cons _) (by first | omega | (simp; done) | (simp; omega)) (by assumption))) rfl ?_; rintro _ l ⟨rfl, rfl⟩
      refine ol_q (wn_some rfl rfl rfl hb2 rfl) (op_not rfl) rfl ?_
      refine ol_q (wn_none rfl) (op_pick_f (v := .bool _) rfl hb2 rfl) rfl ?_
      refine ol_q (wn_none rfl) (op_move (v := .bool _) rfl) rfl ?_
      refine ol_split 18 rfl (fun hb3 => ?_) (fun hb3 => ?_)
      · have hp3 := hb3
        (try simp only [decide_eq_true_eq, decide_eq_false_iff_not, Bool.not_eq_true', Bool.not_eq_false', ne_eq, Decidable.not_not] at hp3)
        refine ol_skip (wn_some rfl rfl rfl hb3 rfl) rfl ?_
        refine ol_skip (wn_some rfl rfl rfl hb3 rfl) rfl ?_
        refine ol_skip (wn_some rfl rfl rfl hb3 rfl) rfl ?_
        refine ol_q (wn_none rfl) (op_pick_t (v := .bool _) rfl hb3 rfl) rfl ?_
        refine ol_nil_then ?_
        refine cd_cond_t rfl rfl ?_
        refine cd_sr ?_   -- 4
        refine ol_q (wn_none rfl) (op_assign (v := .bool _) rfl) rfl ?_
        refine ol_nil_then ?_
        refine cd_ret ?_
        refine px_thenR ?_
        exact px_ret1 rfl (v := .bool _) rfl (fun _ s => ((s.del 1).del 0)) ⟨congrArg Value.bool (by first | rfl | (simp; done) | (rw [bytesC_one hgood hgood2]; simp)), rfl⟩
      · have hp3 := hb3
        (try simp only [decide_eq_true_eq, decide_eq_false_iff_not, Bool.not_eq_true', Bool.not_eq_false', ne_eq, Decidable.not_not] at hp3)
        have hgood : goodC ⟨⟨ao, xs.length, c⟩, n1, n2, n3, n4, n5, n6, n7, n8, n9, n10, n11⟩ xs = true := by simpa using hb3
        refine ol_q (wn_some rfl rfl rfl hb3 rfl) (op_lda (L := cfgC _) 0 ag_24 rfl rfl (cfgC_ta _) (by simp [cfgC_len])) rfl ?_
        refine ol_i (wn_some rfl rfl rfl hb3 rfl) (os_call cb_20 rfl (fun w s => RGood_calls _ _ _ _ _ _ _ _ _ _ _ _ _ _  s ((hr2.cons _).cons _) (by omega) (by assumption))) rfl ?_; rintro _ l ⟨rfl, rfl⟩
        refine ol_q (wn_some rfl rfl rfl hb3 rfl) (op_not rfl) rfl ?_
        refine ol_q (wn_none rfl) (op_pick_f (v := .bool _) rfl hb3 rfl) rfl ?_
        refine ol_nil_then ?_
        refine cd_cond rfl (fun hb4 => ?_) (fun hb4 => ?_)
        · have hp4 := hb4
          (try simp only [decide_eq_true_eq, decide_eq_false_iff_not, Bool.not_eq_true', Bool.not_eq_false', ne_eq, Decidable.not_not] at hp4)
          refine cd_sr ?_   -- 4
          refine ol_q (wn_none rfl) (op_assign (v := .bool _) rfl) rfl ?_
          refine ol_nil_then ?_
          refine cd_ret ?_
          refine px_thenR ?_
          exact px_ret1 rfl (v := .bool _) rfl (fun _ s => ((s.del 1).del 0)) ⟨congrArg Value.bool (by first | rfl | (simp; done) | (rw [bytesC_one hgood hgood2]; simp)), rfl⟩
        · have hp4 := hb4
          (try simp only [decide_eq_true_eq, decide_eq_false_iff_not, Bool.not_eq_true', Bool.not_eq_false', ne_eq, Decidable.not_not] at hp4)
          have hgood2 : goodC ⟨⟨bo, ys.length, d⟩, m1, m2, m3, m4, m5, m6, m7, m8, m9, m10, m11⟩ ys = true := by simpa using hb4
          obtain ⟨_, hxs, hval⟩ := goodC_rg hgood
          obtain ⟨_, hys, hval2⟩ := goodC_rg hgood2
          have hkx : ∀ y ∈ xs, y.key.length ≤ 32 := fun y hy => (of_decide_eq_true (hval y hy)).2.2
          have hky : ∀ y ∈ ys, y.key.length ≤ 32 := fun y hy => (of_decide_eq_true (hval2 y hy)).2.2
          refine cd_skip ?_
          refine px_then ?_
          refine cd_seq ?_   -- 5
          refine cd_drawe (M := []) mx [1, 3, 7] ?_
          -- 0
          refine et_quiet 0 (by kernel_rfl) rfl (by kernel_rfl) (wn_none rfl) (op_lda (L := cfgC _) 1 ag_24 rfl rfl (cfgC_ta _) (by simp [cfgC_len])) rfl ?_
          -- 2
          refine et_quiet 2 (by kernel_rfl) rfl (by kernel_rfl) (wn_none rfl) (op_lda (L := cfgC _) 0 ag_24 rfl rfl (cfgC_ta _) (by simp [cfgC_len])) rfl ?_
          -- 5
          refine et_quiet 5 (by kernel_rfl) rfl (by kernel_rfl) (wn_none rfl) (op_lda (L := cfgC _) 1 ag_24 rfl rfl (cfgC_ta _) (by simp [cfgC_len])) rfl ?_
          -- 6
          refine et_quiet 6 (by kernel_rfl) rfl (by kernel_rfl) (wn_none rfl) (op_lda (L := cfgC _) 0 ag_24 rfl rfl (cfgC_ta _) (by simp [cfgC_len])) rfl ?_
          refine et_1 (i := 1) (by kernel_rfl) ?_
          refine ei_i rfl rfl (wn_none rfl) (os_call cb_21 rfl (fun w s => GBytes_calls _ _ _ _ _ _ _ _ _ _ _ _ _ _  s ((hr.cons _).cons _) (by omega) (by assumption))) rfl ?_; rintro _ l ⟨rfl, rfl⟩; refine ⟨[], rfl, ?_⟩
          refine et_1 (i := 3) (by kernel_rfl) ?_
          refine ei_i rfl rfl (wn_none rfl) (os_call cb_21 rfl (fun w s => GBytes_calls _ _ _ _ _ _ _ _ _ _ _ _ _ _  s ((hr2.cons _).cons _) (by omega) (by assumption))) rfl ?_; rintro _ l ⟨rfl, rfl⟩; refine ⟨[], rfl, ?_⟩
          -- 4
          refine et_quiet 4 (by kernel_rfl) rfl (by kernel_rfl) (wn_none rfl) (op_seql rfl rfl) rfl ?_
          refine et_1 (i := 7) (by kernel_rfl) ?_
          refine ei_i rfl rfl (wn_none rfl) (os_call cb_22 rfl (fun w s => Same_calls _ _ _ _ _ _ _ _ _ _ _ _ _ _ _ _ _ _ _ _ _ _ _ _ _ _ _ _  s ((hr.cons _).cons _) ((hr2.cons _).cons _) (by omega))) rfl ?_; rintro _ l ⟨rfl, rfl⟩; refine ⟨[], rfl, ?_⟩
          -- 8
          refine et_quiet 8 (by kernel_rfl) rfl (by kernel_rfl) (wn_none rfl) (op_beql Try.underlying4 rfl rfl) rfl ?_
          -- 9
          refine et_quiet 9 (by kernel_rfl) rfl (by kernel_rfl) (wn_none rfl) (op_assign (v := .bool _) rfl) rfl ?_
          refine et_nil_then (by kernel_rfl) ?_
          refine cd_ret ?_
          exact px_ret1 rfl (v := .bool _) rfl (fun _ s => ((s.del 1).del 0)) ⟨congrArg Value.bool (by first | rfl | (simp; done) | (rw [bytesC_one hgood hgood2]; simp)), rfl⟩
end Go.SL

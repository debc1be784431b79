import Derived.Test.YtgdlddjalilmhaaMRef
import Derived.Test.YtgdlddjalilmhaaSha3
set_option linter.unusedVariables false
set_option linter.unusedSimpArgs false
namespace Go.SL
open Go.Proofs

set_option maxRecDepth 100000 in
set_option maxHeartbeats 1000000 in
theorem Mul64_calls {w0 w : World} {l : List HProp} (x y : Nat) (hs : Sat w0 w (l)) (hx : x < 18446744073709551616) (hy : y < 18446744073709551616) :
    Calls Try.prog 76 #[.int .u64 (x : Int), .int .u64 (y : Int)] w (Ret w0 fun v l' => v = .tuple #[.int .u64 ((mul64 x y).1 : Int), .int .u64 ((mul64 x y).2 : Int)] ∧ l' = l) := by
  refine calls_enter Try.func76 rfl rfl rfl hs ?_
  refine cd_sr ?_   -- 0
  refine ol_q (wn_none rfl) (op_assign (v := .int _ _) rfl) rfl ?_
  refine ol_q (wn_none rfl) (op_assign (v := .int _ _) rfl) rfl ?_
  refine ol_nil_then ?_
  refine cd_sr ?_   -- 1
  refine ol_q (wn_none rfl) (op_move (v := .int _ _) rfl) rfl ?_
  refine ol_q (wn_none rfl) (op_andlo rfl (by omega) rfl) rfl ?_
  refine ol_q (wn_none rfl) (op_assign (v := .int _ _) rfl) rfl ?_
  refine ol_nil_then ?_
  refine cd_sr ?_   -- 2
  refine ol_q (wn_none rfl) (op_move (v := .int _ _) rfl) rfl ?_
  refine ol_q (wn_none rfl) (op_shr_nat (m := 32) rfl rfl (by decide)) rfl ?_
  refine ol_q (wn_none rfl) (op_assign (v := .int _ _) rfl) rfl ?_
  refine ol_nil_then ?_
  refine cd_sr ?_   -- 3
  refine ol_q (wn_none rfl) (op_move (v := .int _ _) rfl) rfl ?_
  refine ol_q (wn_none rfl) (op_andlo rfl (by omega) rfl) rfl ?_
  refine ol_q (wn_none rfl) (op_assign (v := .int _ _) rfl) rfl ?_
  refine ol_nil_then ?_
  refine cd_sr ?_   -- 4
  refine ol_q (wn_none rfl) (op_move (v := .int _ _) rfl) rfl ?_
  refine ol_q (wn_none rfl) (op_shr_nat (m := 32) rfl rfl (by decide)) rfl ?_
  refine ol_q (wn_none rfl) (op_assign (v := .int _ _) rfl) rfl ?_
  refine ol_nil_then ?_
  refine cd_sr ?_   -- 5
  refine ol_q (wn_none rfl) (op_move (v := .int _ _) rfl) rfl ?_
  refine ol_q (wn_none rfl) (op_move (v := .int _ _) rfl) rfl ?_
  refine ol_q (wn_none rfl) (op_mulw64 rfl rfl) rfl ?_
  refine ol_q (wn_none rfl) (op_assign (v := .int _ _) rfl) rfl ?_
  refine ol_nil_then ?_
  refine cd_sr ?_   -- 6
  refine ol_q (wn_none rfl) (op_move (v := .int _ _) rfl) rfl ?_
  refine ol_q (wn_none rfl) (op_move (v := .int _ _) rfl) rfl ?_
  refine ol_q (wn_none rfl) (op_mulw64 rfl rfl) rfl ?_
  refine ol_q (wn_none rfl) (op_move (v := .int _ _) rfl) rfl ?_
  refine ol_q (wn_none rfl) (op_shr_nat (m := 32) rfl rfl (by decide)) rfl ?_
  refine ol_q (wn_none rfl) (op_addw64 rfl rfl) rfl ?_
  refine ol_q (wn_none rfl) (op_assign (v := .int _ _) rfl) rfl ?_
  refine ol_nil_then ?_
  refine cd_sr ?_   -- 7
  refine ol_q (wn_none rfl) (op_move (v := .int _ _) rfl) rfl ?_
  refine ol_q (wn_none rfl) (op_andlo rfl (by omega) rfl) rfl ?_
  refine ol_q (wn_none rfl) (op_assign (v := .int _ _) rfl) rfl ?_
  refine ol_nil_then ?_
  refine cd_sr ?_   -- 8
  refine ol_q (wn_none rfl) (op_move (v := .int _ _) rfl) rfl ?_
  refine ol_q (wn_none rfl) (op_shr_nat (m := 32) rfl rfl (by decide)) rfl ?_
  refine ol_q (wn_none rfl) (op_assign (v := .int _ _) rfl) rfl ?_
  refine ol_nil_then ?_
  refine cd_sr ?_   -- 9
  refine ol_q (wn_none rfl) (op_move (v := .int _ _) rfl) rfl ?_
  refine ol_q (wn_none rfl) (op_move (v := .int _ _) rfl) rfl ?_
  refine ol_q (wn_none rfl) (op_move (v := .int _ _) rfl) rfl ?_
  refine ol_q (wn_none rfl) (op_mulw64 rfl rfl) rfl ?_
  refine ol_q (wn_none rfl) (op_addw64 rfl rfl) rfl ?_
  refine ol_q (wn_none rfl) (op_assign (v := .int _ _) rfl) rfl ?_
  refine ol_nil_then ?_
  refine cd_sr ?_   -- 10
  refine ol_q (wn_none rfl) (op_move (v := .int _ _) rfl) rfl ?_
  refine ol_q (wn_none rfl) (op_move (v := .int _ _) rfl) rfl ?_
  refine ol_q (wn_none rfl) (op_mulw64 rfl rfl) rfl ?_
  refine ol_q (wn_none rfl) (op_move (v := .int _ _) rfl) rfl ?_
  refine ol_q (wn_none rfl) (op_addw64 rfl rfl) rfl ?_
  refine ol_q (wn_none rfl) (op_move (v := .int _ _) rfl) rfl ?_
  refine ol_q (wn_none rfl) (op_shr_nat (m := 32) rfl rfl (by decide)) rfl ?_
  refine ol_q (wn_none rfl) (op_addw64 rfl rfl) rfl ?_
  refine ol_q (wn_none rfl) (op_assign (v := .int _ _) rfl) rfl ?_
  refine ol_nil_then ?_
  refine cd_sr ?_   -- 11
  refine ol_q (wn_none rfl) (op_move (v := .int _ _) rfl) rfl ?_
  refine ol_q (wn_none rfl) (op_move (v := .int _ _) rfl) rfl ?_
  refine ol_q (wn_none rfl) (op_mulw64 rfl rfl) rfl ?_
  refine ol_q (wn_none rfl) (op_assign (v := .int _ _) rfl) rfl ?_
  refine ol_nil_then ?_
  refine cd_ret ?_
  exact px_ret2 rfl (v1 := .int _ _) (v2 := .int _ _) rfl rfl (fun _ s => s) ⟨rfl, rfl⟩

set_option maxRecDepth 100000 in
set_option maxHeartbeats 1000000 in
theorem above_calls {w0 w : World} {l : List HProp} (x p : Nat) (power : Int) (hs : Sat w0 w (l)) (hx : x < 18446744073709551616) :
    Calls Try.prog 71 #[.int .u64 (x : Int), .int .u64 (p : Int), .int .i64 power] w (Ret w0 fun v l' => v = .bool (aboveM x p power) ∧ l' = l) := by
  refine calls_enter Try.func71 rfl rfl rfl hs ?_
  refine cd_sr ?_   -- 0
  refine ol_q (wn_none rfl) (op_assign (v := .bool _) rfl) rfl ?_
  refine ol_nil_then ?_
  refine cd_sr ?_   -- 1
  refine ol_q (wn_none rfl) (op_move (v := .int _ _) rfl) rfl ?_
  refine ol_q (wn_none rfl) (op_move (v := .int _ _) rfl) rfl ?_
  refine ol_i (wn_none rfl) (os_call cb_76 rfl (fun w s => Mul64_calls _ _  s hx hx)) rfl ?_; rintro _ l ⟨rfl, rfl⟩
  refine ol_q (wn_none rfl) (op_move (v := .tuple _) rfl) rfl ?_
  refine ol_q (wn_none rfl) (op_extract (v := .int _ _) rfl rfl) rfl ?_
  refine ol_q (wn_none rfl) (op_extract (v := .int _ _) rfl rfl) rfl ?_
  refine ol_q (wn_none rfl) (op_assign (v := .int _ _) rfl) rfl ?_
  refine ol_q (wn_none rfl) (op_assign (v := .int _ _) rfl) rfl ?_
  refine ol_nil_then ?_
  refine cd_seq ?_
  refine cd_sr ?_   -- 2
  refine ol_q (wn_none rfl) (op_move (v := .int _ _) rfl) rfl ?_
  refine ol_q (wn_none rfl) (op_eq rfl rfl) rfl ?_
  refine ol_nil_then ?_
  refine cd_cond rfl (fun hb1 => ?_) (fun hb1 => ?_)
  · have hp1 := hb1
    (try simp only [decide_eq_true_eq, decide_eq_false_iff_not, Bool.not_eq_true', Bool.not_eq_false', ne_eq, Decidable.not_not] at hp1)
    have hpow : power = 2 := by omega
    refine cd_sr ?_   -- 3
    refine ol_q (wn_none rfl) (op_move (v := .int _ _) rfl) rfl ?_
    refine ol_q (wn_none rfl) (op_move (v := .int _ _) rfl) rfl ?_
    refine ol_q (wn_none rfl) (op_gt rfl rfl) rfl ?_
    refine ol_q (wn_none rfl) (op_move (v := .bool _) rfl) rfl ?_
    refine ol_split 28 rfl (fun hb2 => ?_) (fun hb2 => ?_)
    · have hp2 := hb2
      (try simp only [decide_eq_true_eq, decide_eq_false_iff_not, Bool.not_eq_true', Bool.not_eq_false', ne_eq, Decidable.not_not] at hp2)
      refine ol_skip (wn_some rfl rfl rfl hb2 rfl) rfl ?_
      refine ol_skip (wn_some rfl rfl rfl hb2 rfl) rfl ?_
      refine ol_skip (wn_some rfl rfl rfl hb2 rfl) rfl ?_
      refine ol_skip (wn_some rfl rfl rfl hb2 rfl) rfl ?_
      refine ol_skip (wn_undef rfl rfl rfl rfl) rfl ?_
      refine ol_skip (wn_undef rfl rfl rfl rfl) rfl ?_
      refine ol_skip (wn_some rfl rfl rfl hb2 rfl) rfl ?_
      refine ol_q (wn_none rfl) (op_pick_t (v := .bool _) rfl hb2 rfl) rfl ?_
      refine ol_q (wn_none rfl) (op_assign (v := .bool _) rfl) rfl ?_
      refine ol_nil_then ?_
      refine cd_ret ?_
      refine px_thenR ?_
      exact px_ret1 rfl (v := .bool _) rfl (fun _ s => s) ⟨congrArg Value.bool (by unfold aboveM; rw [if_pos hpow, decide_eq_true (show p < (mul64 x x).1 by omega)]; rfl), rfl⟩
    · have hp2 := hb2
      (try simp only [decide_eq_true_eq, decide_eq_false_iff_not, Bool.not_eq_true', Bool.not_eq_false', ne_eq, Decidable.not_not] at hp2)
      refine ol_q (wn_some rfl rfl rfl hb2 rfl) (op_move (v := .int _ _) rfl) rfl ?_
      refine ol_q (wn_some rfl rfl rfl hb2 rfl) (op_move (v := .int _ _) rfl) rfl ?_
      refine ol_q (wn_some rfl rfl rfl hb2 rfl) (op_eqn rfl rfl) rfl ?_
      refine ol_q (wn_some rfl rfl rfl hb2 rfl) (op_move (v := .bool _) rfl) rfl ?_
      refine ol_split 32 rfl (fun hb3 => ?_) (fun hb3 => ?_)
      · have hp3 := hb3
        (try simp only [decide_eq_true_eq, decide_eq_false_iff_not, Bool.not_eq_true', Bool.not_eq_false', ne_eq, Decidable.not_not] at hp3)
        refine ol_q (wn_some rfl rfl rfl hb3 rfl) (op_move (v := .int _ _) rfl) rfl ?_
        refine ol_q (wn_some rfl rfl rfl hb3 rfl) (op_gt rfl rfl) rfl ?_
        refine ol_q (wn_some rfl rfl rfl hb2 rfl) (op_pick_t (v := .bool _) rfl hb3 rfl) rfl ?_
        refine ol_q (wn_none rfl) (op_pick_f (v := .bool _) rfl hb2 rfl) rfl ?_
        refine ol_q (wn_none rfl) (op_assign (v := .bool _) rfl) rfl ?_
        refine ol_nil_then ?_
        refine cd_ret ?_
        refine px_thenR ?_
        exact px_ret1 rfl (v := .bool _) rfl (fun _ s => s) ⟨congrArg Value.bool (by unfold aboveM; rw [if_pos hpow, decide_eq_false (show ¬ p < (mul64 x x).1 by omega), decide_eq_true (show (mul64 x x).1 = p by omega), Bool.false_or, Bool.true_and]; exact decide_eq_decide.2 (by omega)), rfl⟩
      · have hp3 := hb3
        (try simp only [decide_eq_true_eq, decide_eq_false_iff_not, Bool.not_eq_true', Bool.not_eq_false', ne_eq, Decidable.not_not] at hp3)
        refine ol_skip (wn_some rfl rfl rfl hb3 rfl) rfl ?_
        refine ol_skip (wn_some rfl rfl rfl hb3 rfl) rfl ?_
        refine ol_q (wn_some rfl rfl rfl hb2 rfl) (op_pick_f (v := .bool _) rfl hb3 rfl) rfl ?_
        refine ol_q (wn_none rfl) (op_pick_f (v := .bool _) rfl hb2 rfl) rfl ?_
        refine ol_q (wn_none rfl) (op_assign (v := .bool _) rfl) rfl ?_
        refine ol_nil_then ?_
        refine cd_ret ?_
        refine px_thenR ?_
        exact px_ret1 rfl (v := .bool _) rfl (fun _ s => s) ⟨congrArg Value.bool (by unfold aboveM; rw [if_pos hpow, decide_eq_false (show ¬ p < (mul64 x x).1 by omega), decide_eq_false (show ¬ (mul64 x x).1 = p by omega)]; rfl), rfl⟩
  · have hp1 := hb1
    (try simp only [decide_eq_true_eq, decide_eq_false_iff_not, Bool.not_eq_true', Bool.not_eq_false', ne_eq, Decidable.not_not] at hp1)
    have hpow : ¬ power = 2 := by omega
    refine cd_skip ?_
    refine px_then ?_
    refine cd_sr ?_   -- 4
    refine ol_q (wn_none rfl) (op_move (v := .int _ _) rfl) rfl ?_
    refine ol_q (wn_none rfl) (op_move (v := .int _ _) rfl) rfl ?_
    refine ol_i (wn_none rfl) (os_call cb_76 rfl (fun w s => Mul64_calls _ _  s (mul64_lt _ _).1 hx)) rfl ?_; rintro _ l ⟨rfl, rfl⟩
    refine ol_q (wn_none rfl) (op_move (v := .tuple _) rfl) rfl ?_
    refine ol_q (wn_none rfl) (op_extract (v := .int _ _) rfl rfl) rfl ?_
    refine ol_q (wn_none rfl) (op_extract (v := .int _ _) rfl rfl) rfl ?_
    refine ol_q (wn_none rfl) (op_assign (v := .int _ _) rfl) rfl ?_
    refine ol_q (wn_none rfl) (op_assign (v := .int _ _) rfl) rfl ?_
    refine ol_nil_then ?_
    refine cd_sr ?_   -- 5
    refine ol_q (wn_none rfl) (op_move (v := .int _ _) rfl) rfl ?_
    refine ol_q (wn_none rfl) (op_move (v := .int _ _) rfl) rfl ?_
    refine ol_i (wn_none rfl) (os_call cb_76 rfl (fun w s => Mul64_calls _ _  s (mul64_lt _ _).2 hx)) rfl ?_; rintro _ l ⟨rfl, rfl⟩
    refine ol_q (wn_none rfl) (op_move (v := .tuple _) rfl) rfl ?_
    refine ol_q (wn_none rfl) (op_extract (v := .int _ _) rfl rfl) rfl ?_
    refine ol_q (wn_none rfl) (op_extract (v := .int _ _) rfl rfl) rfl ?_
    refine ol_q (wn_none rfl) (op_assign (v := .int _ _) rfl) rfl ?_
    refine ol_q (wn_none rfl) (op_assign (v := .int _ _) rfl) rfl ?_
    refine ol_nil_then ?_
    refine cd_sr ?_   -- 6
    refine ol_q (wn_none rfl) (op_move (v := .int _ _) rfl) rfl ?_
    refine ol_q (wn_none rfl) (op_move (v := .int _ _) rfl) rfl ?_
    refine ol_q (wn_none rfl) (op_add64x Try.func77 (by kernel_rfl) (by kernel_rfl) (by kernel_rfl) (by kernel_rfl) rfl rfl rfl) rfl ?_
    
    refine ol_q (wn_none rfl) (op_move (v := .tuple _) rfl) rfl ?_
    refine ol_q (wn_none rfl) (op_extract (v := .int _ _) rfl rfl) rfl ?_
    refine ol_q (wn_none rfl) (op_extract (v := .int _ _) rfl rfl) rfl ?_
    refine ol_q (wn_none rfl) (op_assign (v := .int _ _) rfl) rfl ?_
    refine ol_q (wn_none rfl) (op_assign (v := .int _ _) rfl) rfl ?_
    refine ol_nil_then ?_
    refine cd_sr ?_   -- 7
    refine ol_q (wn_none rfl) (op_move (v := .int _ _) rfl) rfl ?_
    refine ol_q (wn_none rfl) (op_move (v := .int _ _) rfl) rfl ?_
    refine ol_q (wn_none rfl) (op_addw64 rfl rfl) rfl ?_
    refine ol_q (wn_none rfl) (op_assign (v := .int _ _) rfl) rfl ?_
    refine ol_nil_then ?_
    refine cd_seq ?_
    refine cd_sr ?_   -- 8
    refine ol_q (wn_none rfl) (op_move (v := .int _ _) rfl) rfl ?_
    refine ol_q (wn_none rfl) (op_move (v := .int _ _) rfl) rfl ?_
    refine ol_q (wn_none rfl) (op_shr_nat (m := 32) rfl rfl (by decide)) rfl ?_
    refine ol_q (wn_none rfl) (op_ne rfl rfl) rfl ?_
    refine ol_nil_then ?_
    refine cd_cond rfl (fun hb4 => ?_) (fun hb4 => ?_)
    · have hp4 := hb4
      (try simp only [decide_eq_true_eq, decide_eq_false_iff_not, Bool.not_eq_true', Bool.not_eq_false', ne_eq, Decidable.not_not] at hp4)
      refine cd_sr ?_   -- 9
      refine ol_q (wn_none rfl) (op_move (v := .int _ _) rfl) rfl ?_
      refine ol_q (wn_none rfl) (op_move (v := .int _ _) rfl) rfl ?_
      refine ol_q (wn_none rfl) (op_shr_nat (m := 32) rfl rfl (by decide)) rfl ?_
      refine ol_q (wn_none rfl) (op_gt rfl rfl) rfl ?_
      refine ol_q (wn_none rfl) (op_assign (v := .bool _) rfl) rfl ?_
      refine ol_nil_then ?_
      refine cd_ret ?_
      refine px_thenR ?_
      exact px_ret1 rfl (v := .bool _) rfl (fun _ s => s) ⟨congrArg Value.bool (by unfold aboveM; rw [if_neg hpow, if_pos (show (((mul64 (mul64 x x).1 x).1 + ((mul64 (mul64 x x).1 x).2 + (mul64 (mul64 x x).2 x).1) / 18446744073709551616) % 18446744073709551616) ≠ p / 2 ^ 32 by omega)]; exact decide_eq_decide.2 (by omega)), rfl⟩
    · have hp4 := hb4
      (try simp only [decide_eq_true_eq, decide_eq_false_iff_not, Bool.not_eq_true', Bool.not_eq_false', ne_eq, Decidable.not_not] at hp4)
      refine cd_skip ?_
      refine px_then ?_
      refine cd_sr ?_   -- 10
      refine ol_q (wn_none rfl) (op_move (v := .int _ _) rfl) rfl ?_
      refine ol_q (wn_none rfl) (op_shlw64 (m := 32) rfl rfl (by decide)) rfl ?_
      refine ol_q (wn_none rfl) (op_assign (v := .int _ _) rfl) rfl ?_
      refine ol_nil_then ?_
      refine cd_seq ?_
      refine cd_sr ?_   -- 11
      refine ol_q (wn_none rfl) (op_move (v := .int _ _) rfl) rfl ?_
      refine ol_q (wn_none rfl) (op_move (v := .int _ _) rfl) rfl ?_
      refine ol_q (wn_none rfl) (op_ne rfl rfl) rfl ?_
      refine ol_nil_then ?_
      refine cd_cond rfl (fun hb5 => ?_) (fun hb5 => ?_)
      · have hp5 := hb5
        (try simp only [decide_eq_true_eq, decide_eq_false_iff_not, Bool.not_eq_true', Bool.not_eq_false', ne_eq, Decidable.not_not] at hp5)
        refine cd_sr ?_   -- 12
        refine ol_q (wn_none rfl) (op_move (v := .int _ _) rfl) rfl ?_
        refine ol_q (wn_none rfl) (op_move (v := .int _ _) rfl) rfl ?_
        refine ol_q (wn_none rfl) (op_gt rfl rfl) rfl ?_
        refine ol_q (wn_none rfl) (op_assign (v := .bool _) rfl) rfl ?_
        refine ol_nil_then ?_
        refine cd_ret ?_
        refine px_thenR ?_
        exact px_ret1 rfl (v := .bool _) rfl (fun _ s => s) ⟨congrArg Value.bool (by unfold aboveM; rw [if_neg hpow, if_neg (show ¬ (((mul64 (mul64 x x).1 x).1 + ((mul64 (mul64 x x).1 x).2 + (mul64 (mul64 x x).2 x).1) / 18446744073709551616) % 18446744073709551616) ≠ p / 2 ^ 32 by omega), if_pos (show (((mul64 (mul64 x x).1 x).2 + (mul64 (mul64 x x).2 x).1) % 18446744073709551616) ≠ (p * 2 ^ 32 % 18446744073709551616) by omega)]; exact decide_eq_decide.2 (by omega)), rfl⟩
      · have hp5 := hb5
        (try simp only [decide_eq_true_eq, decide_eq_false_iff_not, Bool.not_eq_true', Bool.not_eq_false', ne_eq, Decidable.not_not] at hp5)
        refine cd_skip ?_
        refine px_then ?_
        refine cd_sr ?_   -- 13
        refine ol_q (wn_none rfl) (op_move (v := .int _ _) rfl) rfl ?_
        refine ol_q (wn_none rfl) (op_gt rfl rfl) rfl ?_
        refine ol_q (wn_none rfl) (op_assign (v := .bool _) rfl) rfl ?_
        refine ol_nil_then ?_
        refine cd_ret ?_
        exact px_ret1 rfl (v := .bool _) rfl (fun _ s => s) ⟨congrArg Value.bool (by unfold aboveM; rw [if_neg hpow, if_neg (show ¬ (((mul64 (mul64 x x).1 x).1 + ((mul64 (mul64 x x).1 x).2 + (mul64 (mul64 x x).2 x).1) / 18446744073709551616) % 18446744073709551616) ≠ p / 2 ^ 32 by omega), if_neg (show ¬ (((mul64 (mul64 x x).1 x).2 + (mul64 (mul64 x x).2 x).1) % 18446744073709551616) ≠ (p * 2 ^ 32 % 18446744073709551616) by omega)]; exact decide_eq_decide.2 (by omega)), rfl⟩

set_option maxRecDepth 100000 in
set_option maxHeartbeats 1000000 in
theorem right_calls {w0 w : World} {l : List HProp} (X : UInt32) (k : Int) (hs : Sat w0 w (l)) (h0 : 0 < k) (h1 : k < 32) :
    Calls Try.prog 72 #[.int .u32 (X.toNat : Int), .int .i64 k] w (Ret w0 fun v l' => v = .int .u32 ((rotr X k.toNat).toNat : Int) ∧ l' = l) := by
  refine calls_enter Try.func72 rfl rfl rfl hs ?_
  refine cd_sr ?_   -- 0
  refine ol_q (wn_none rfl) (op_assign (v := .int _ _) rfl) rfl ?_
  refine ol_nil_then ?_
  refine cd_sr ?_   -- 1
  refine ol_q (wn_none rfl) (op_move (v := .int _ _) rfl) rfl ?_
  refine ol_q (wn_none rfl) (op_move (v := .int _ _) rfl) rfl ?_
  refine ol_q (wn_none rfl) (op_conv64m (k.toNat) Try.underlying84 (by rw [Try.underlying3]; rfl) rfl (by omega) (by omega)) rfl ?_
  refine ol_q (wn_none rfl) (op_shr32 (m := k.toNat) _ rfl rfl (by omega)) rfl ?_
  refine ol_q (wn_none rfl) (op_move (v := .int _ _) rfl) rfl ?_
  refine ol_q (wn_none rfl) (op_move (v := .int _ _) rfl) rfl ?_
  refine ol_q (wn_none rfl) (op_sub rfl rfl (by omega) (by omega)) rfl ?_
  refine ol_q (wn_none rfl) (op_conv64m (32 - k.toNat) Try.underlying84 (by rw [Try.underlying3]; rfl) rfl (by omega) (by omega)) rfl ?_
  refine ol_q (wn_none rfl) (op_shl32 (m := 32 - k.toNat) _ rfl rfl (by omega)) rfl ?_
  refine ol_q (wn_none rfl) (op_or32 _ _ rfl rfl) rfl ?_
  refine ol_q (wn_none rfl) (op_assign (v := .int _ _) rfl) rfl ?_
  refine ol_nil_then ?_
  refine cd_ret ?_
  exact px_ret1 rfl (v := .int _ _) rfl (fun _ s => s) ⟨by unfold rotr; rw [UInt32.or_comm], rfl⟩

set_option maxRecDepth 100000 in
set_option maxHeartbeats 1000000 in
theorem root_calls {w0 w : World} {l : List HProp} (p : Nat) (power : Int) (hs : Sat w0 w (l))  :
    Calls Try.prog 68 #[.int .u64 (p : Int), .int .i64 power] w (Ret w0 fun v l' => v = .int .u32 ((rootM p power).toNat : Int) ∧ l' = l) := by
  refine calls_enter Try.func68 rfl rfl rfl hs ?_
  refine cd_sr ?_   -- 0
  refine ol_q (wn_none rfl) (op_assign (v := .int _ _) rfl) rfl ?_
  refine ol_nil_then ?_
  refine cd_sr ?_   -- 1
  refine ol_q (wn_none rfl) (op_assign (v := .int _ _) rfl) rfl ?_
  refine ol_nil_then ?_
  refine cd_seq ?_
  refine cd_sr ?_   -- 2
  refine ol_q (wn_none rfl) (op_assign (v := .int _ _) rfl) rfl ?_
  refine ol_nil_then ?_
  refine cd_block ?_
  refine cd_loop2 (α := Nat) [(5, 24)] (fun x => [(5, .int .u64 (rootN p power x : Int)), (6, .int .i64 (39 - (x : Int)))]) (fun _ => _) (fun x => x ≤ 40) (fun x => 40 - x) 0 (Nat.zero_le _) ⟨rfl, congrArg (Value.int .i64) (by simp), trivial⟩ (fun _ s => s) ?_
  rintro i hi f; (try dsimp only at hi ⊢)
  refine cd_seq ?_
  refine cd_sr ?_   -- 3
  refine ol_q (wn_none rfl) (op_move (v := .int _ _) rfl) rfl ?_
  refine ol_q (wn_none rfl) (op_ge rfl rfl) rfl ?_
  refine ol_nil_then ?_
  refine cd_cond rfl (fun hb1 => ?_) (fun hb1 => ?_)
  · have hp1 := hb1
    (try simp only [decide_eq_true_eq, decide_eq_false_iff_not, Bool.not_eq_true', Bool.not_eq_false', ne_eq, Decidable.not_not] at hp1)
    have hi40 : i < 40 := by omega
    refine cd_skip ?_
    refine px_then ?_
    refine cd_seq ?_
    refine cd_block ?_
    refine cd_sr ?_   -- 5
    refine ol_q (wn_none rfl) (op_move (v := .int _ _) rfl) rfl ?_
    refine ol_q (wn_none rfl) (op_move (v := .int _ _) rfl) rfl ?_
    refine ol_q (wn_none rfl) (op_conv64m (39 - i) Try.underlying84 (by rw [Try.underlying3]; rfl) rfl (by omega) (by omega)) rfl ?_
    refine ol_q (wn_none rfl) (op_shl_nat (A := 1) (m := 39 - i) rfl rfl (by omega) (pow39 i)) rfl ?_
    refine ol_q (wn_none rfl) (op_addw64 rfl rfl) rfl ?_
    refine ol_q (wn_none rfl) (op_move (v := .int _ _) rfl) rfl ?_
    refine ol_q (wn_none rfl) (op_move (v := .int _ _) rfl) rfl ?_
    refine ol_i (wn_none rfl) (os_call cb_71 rfl (fun w s => above_calls _ _ _  s (Nat.mod_lt _ (by decide)))) rfl ?_; rintro _ l ⟨rfl, rfl⟩
    refine ol_q (wn_none rfl) (op_not rfl) rfl ?_
    refine ol_nil_then ?_
    refine cd_cond rfl (fun hb2 => ?_) (fun hb2 => ?_)
    · have hp2 := hb2
      (try simp only [decide_eq_true_eq, decide_eq_false_iff_not, Bool.not_eq_true', Bool.not_eq_false', ne_eq, Decidable.not_not] at hp2)
      refine cd_region ?_   -- 6
      refine ol_q (wn_none rfl) (op_move (v := .int _ _) rfl) rfl ?_
      refine ol_q (wn_none rfl) (op_move (v := .int _ _) rfl) rfl ?_
      refine ol_q (wn_none rfl) (op_conv64m (39 - i) Try.underlying84 (by rw [Try.underlying3]; rfl) rfl (by omega) (by omega)) rfl ?_
      refine ol_q (wn_none rfl) (op_shl_nat (A := 1) (m := 39 - i) rfl rfl (by omega) (pow39 i)) rfl ?_
      refine ol_q (wn_none rfl) (op_addw64 rfl rfl) rfl ?_
      refine ol_q (wn_none rfl) (op_assign (v := .int _ _) rfl) rfl ?_
      refine ol_nil ?_
      refine px_blockN ?_
      refine px_then ?_
      refine cd_region ?_   -- 4
      refine ol_q (wn_none rfl) (op_move (v := .int _ _) rfl) rfl ?_
      refine ol_q (wn_none rfl) (op_sub rfl rfl (by omega) (by omega)) rfl ?_
      refine ol_q (wn_none rfl) (op_assign (v := .int _ _) rfl) rfl ?_
      refine ol_nil ?_
      have e1 : rootN p power (i + 1) = (rootN p power i + 1 * 2 ^ (39 - i)) % 18446744073709551616 := by rw [rootN, if_neg (by simpa using hb2)]
      refine px_loop2 (i + 1) (by omega) (by (try dsimp only); omega) ⟨congrArg (fun q : Nat => Value.int .u64 (q : Int)) e1.symm, congrArg (Value.int .i64) (by omega), trivial⟩ ?_ (fun _ s => s)
      repeat (first | exact kept_over | refine kept_upd rfl ?_ | refine kept_overS (by decide) ?_)
    · have hp2 := hb2
      (try simp only [decide_eq_true_eq, decide_eq_false_iff_not, Bool.not_eq_true', Bool.not_eq_false', ne_eq, Decidable.not_not] at hp2)
      refine cd_skip ?_
      refine px_blockN ?_
      refine px_then ?_
      refine cd_region ?_   -- 4
      refine ol_q (wn_none rfl) (op_move (v := .int _ _) rfl) rfl ?_
      refine ol_q (wn_none rfl) (op_sub rfl rfl (by omega) (by omega)) rfl ?_
      refine ol_q (wn_none rfl) (op_assign (v := .int _ _) rfl) rfl ?_
      refine ol_nil ?_
      have e1 : rootN p power (i + 1) = rootN p power i := by rw [rootN, if_pos (by simpa using hb2)]
      refine px_loop2 (i + 1) (by omega) (by (try dsimp only); omega) ⟨congrArg (fun q : Nat => Value.int .u64 (q : Int)) e1.symm, congrArg (Value.int .i64) (by omega), trivial⟩ ?_ (fun _ s => s)
      repeat (first | exact kept_over | refine kept_upd rfl ?_ | refine kept_overS (by decide) ?_)
  · have hp1 := hb1
    (try simp only [decide_eq_true_eq, decide_eq_false_iff_not, Bool.not_eq_true', Bool.not_eq_false', ne_eq, Decidable.not_not] at hp1)
    obtain rfl : i = 40 := by omega
    refine cd_exit ?_
    refine px_thenE ?_
    refine px_thenE ?_
    refine px_blockE ?_
    refine px_then ?_
    refine cd_sr ?_   -- 7
    refine ol_q (wn_none rfl) (op_move (v := .int _ _) rfl) rfl ?_
    refine ol_q (wn_none rfl) (op_remn (C := 4294967296) rfl rfl (by first | decide | omega)) rfl ?_
    refine ol_q (wn_none rfl) (op_conv32 Try.underlying90 (by rw [Try.underlying32]; rfl) rfl) rfl ?_
    refine ol_q (wn_none rfl) (op_assign (v := .int _ _) rfl) rfl ?_
    refine ol_nil_then ?_
    refine cd_ret ?_
    exact px_ret1 rfl (v := .int _ _) rfl (fun _ s => s) ⟨rfl, rfl⟩

set_option maxRecDepth 100000 in
set_option maxHeartbeats 1000000 in
theorem primes_calls {w0 w : World} {l : List HProp} (n : Int) (hs : Sat w0 w (l)) (h0 : 0 ≤ n) (h1 : n ≤ 64) :
    Calls Try.prog 67 #[.int .i64 n] w (Ret w0 fun v l' => ∃ ao c, v = .slice ao (prm n.toNat).length c ∧ l' = Row 32 encU64 (.slice ao (prm n.toNat).length c) (prm n.toNat) :: l) := by
  refine calls_enter Try.func67 rfl rfl rfl hs ?_
  refine cd_sr ?_   -- 0
  refine ol_q (wn_none rfl) (op_assign (v := .slice _ _ _) rfl) rfl ?_
  refine ol_nil_then ?_
  refine cd_sr ?_   -- 1
  refine ol_q (wn_none rfl) (op_assign (v := .slice _ _ _) rfl) rfl ?_
  refine ol_nil_then ?_
  refine cd_seq ?_
  refine cd_sr ?_   -- 2
  refine ol_q (wn_none rfl) (op_assign (v := .int _ _) rfl) rfl ?_
  refine ol_nil_then ?_
  refine cd_block ?_
  refine cd_loop2 (α := Nat × Option Addr × Nat) [(3, 5), (7, 32)] (fun x => [(3, .slice x.2.1 (PLs x.1).length x.2.2), (4, .int .u64 ((x.1 + 2 : Nat) : Int))]) (fun x => Row 32 encU64 (.slice x.2.1 (PLs x.1).length x.2.2) (PLs x.1) :: l) (fun x => x.1 ≤ 310 ∧ ((PLs x.1).length : Int) ≤ n) (fun x => 310 - x.1) (0, none, 0) ⟨Nat.zero_le _, h0⟩ ⟨rfl, rfl, trivial⟩ (fun _ s => Sat.rowNil s) ?_
  rintro ⟨i, vo, vc⟩ ⟨hi, hlen⟩ f; (try dsimp only at hi hlen ⊢)
  refine cd_seq ?_
  refine cd_sr ?_   -- 3
  refine ol_q (wn_none rfl) (op_move (v := .slice _ _ _) rfl) rfl ?_
  refine ol_q (wn_none rfl) (op_len_slice Try.underlying97 rfl) rfl ?_
  refine ol_q (wn_none rfl) (op_move (v := .int _ _) rfl) rfl ?_
  refine ol_q (wn_none rfl) (op_lt rfl rfl) rfl ?_
  refine ol_nil_then ?_
  refine cd_cond rfl (fun hb1 => ?_) (fun hb1 => ?_)
  · have hp1 := hb1
    (try simp only [decide_eq_true_eq, decide_eq_false_iff_not, Bool.not_eq_true', Bool.not_eq_false', ne_eq, Decidable.not_not] at hp1)
    have hlt : ((PLs i).length : Int) < n := hp1
    have hi310 : i < 310 := by
      rcases Nat.lt_or_ge i 310 with h | h
      · exact h
      · have e9 : i = 310 := by omega
        rw [e9, PLs_64] at hlt
        omega
    refine cd_skip ?_
    refine px_then ?_
    refine cd_seq ?_
    refine cd_block ?_
    refine cd_sr ?_   -- 5
    refine ol_q (wn_none rfl) (op_assign (v := .bool _) rfl) rfl ?_
    refine ol_nil_then ?_
    refine cd_seq ?_
    refine cd_sr ?_   -- 6
    refine ol_q (wn_none rfl) (op_move (v := .slice _ _ _) rfl) rfl ?_
    refine ol_q (wn_none rfl) (op_len_slice Try.underlying97 rfl) rfl ?_
    refine ol_q (wn_none rfl) (op_move (v := .int _ _) rfl) rfl ?_
    refine ol_nil_then ?_
    refine cd_block ?_
    refine cd_loop2 (α := Nat) [(5, 5), (7, 7), (16, 27)] (fun x => [(5, .bool (((PLs i).take x).all (fun p => decide ((i + 2) % p ≠ 0)))), (16, .int .i64 (x : Int))]) (fun _ => _) (fun x => x ≤ (PLs i).length) (fun x => (PLs i).length - x) 0 (Nat.zero_le _) ⟨rfl, rfl, trivial⟩ (fun _ s => s) ?_
    rintro j hj f; (try dsimp only at hj ⊢)
    refine cd_sr ?_   -- 7
    refine ol_q (wn_none rfl) (op_lt rfl rfl) rfl ?_
    refine ol_nil_then ?_
    refine cd_seq ?_
    refine cd_cond rfl (fun hb2 => ?_) (fun hb2 => ?_)
    · have hp2 := hb2
      (try simp only [decide_eq_true_eq, decide_eq_false_iff_not, Bool.not_eq_true', Bool.not_eq_false', ne_eq, Decidable.not_not] at hp2)
      have hj1 : j < (PLs i).length := by omega
      have hrg := PLs_rg i (PLs i)[j] (List.getElem_mem hj1)
      have hp0 : 0 < (PLs i)[j] := by omega
      refine cd_skip ?_
      refine px_then ?_
      refine cd_seq ?_
      refine cd_block ?_
      refine cd_sr ?_   -- 8
      refine ol_q (wn_none rfl) (op_index _ sB_97 rfl rfl rfl (rds_row 0 rfl rfl) rfl (by omega)) rfl ?_
      refine ol_q (wn_none rfl) (op_ldw sc_32 (rds_row 0 rfl rfl) rfl (by omega) rfl) rfl ?_
      refine ol_q (wn_none rfl) (op_assign (v := .int _ _) rfl) rfl ?_
      refine ol_nil_then ?_
      refine cd_region ?_   -- 9
      refine ol_q (wn_none rfl) (op_move (v := .bool _) rfl) rfl ?_
      refine ol_q (wn_none rfl) (op_move (v := .bool _) rfl) rfl ?_
      refine ol_split 21 rfl (fun hb3 => ?_) (fun hb3 => ?_)
      · have hp3 := hb3
        (try simp only [decide_eq_true_eq, decide_eq_false_iff_not, Bool.not_eq_true', Bool.not_eq_false', ne_eq, Decidable.not_not] at hp3)
        refine ol_q (wn_some rfl rfl rfl hb3 rfl) (op_move (v := .int _ _) rfl) rfl ?_
        refine ol_q (wn_some rfl rfl rfl hb3 rfl) (op_move (v := .int _ _) rfl) rfl ?_
        refine ol_q (wn_some rfl rfl rfl hb3 rfl) (op_remn rfl rfl hp0) rfl ?_
        refine ol_q (wn_some rfl rfl rfl hb3 rfl) (op_ne rfl rfl) rfl ?_
        refine ol_q (wn_none rfl) (op_pick_t (v := .bool _) rfl hb3 rfl) rfl ?_
        refine ol_q (wn_none rfl) (op_assign (v := .bool _) rfl) rfl ?_
        refine ol_nil ?_
        refine px_blockN ?_
        refine px_then ?_
        refine cd_region ?_   -- 10
        refine ol_q (wn_none rfl) (op_add rfl rfl (by omega) (by omega)) rfl ?_
        refine ol_q (wn_none rfl) (op_move (v := .int _ _) rfl) rfl ?_
        refine ol_nil ?_
        have e1 := all_step (fun p => decide ((i + 2) % p ≠ 0)) hj1
        refine px_loop2 (j + 1) (by omega) (by (try dsimp only); omega) ⟨congrArg Value.bool (by rw [e1, hb3]; first | exact decide_eq_decide.2 (not_congr Int.natCast_eq_zero) | (rw [Bool.true_and]; exact decide_eq_decide.2 (not_congr Int.natCast_eq_zero)) | simp), congrArg (Value.int .i64) (by simp), trivial⟩ ?_ (fun _ s => s)
        repeat (first | exact kept_over | refine kept_upd rfl ?_ | refine kept_overS (by decide) ?_)
      · have hp3 := hb3
        (try simp only [decide_eq_true_eq, decide_eq_false_iff_not, Bool.not_eq_true', Bool.not_eq_false', ne_eq, Decidable.not_not] at hp3)
        refine ol_skip (wn_some rfl rfl rfl hb3 rfl) rfl ?_
        refine ol_skip (wn_some rfl rfl rfl hb3 rfl) rfl ?_
        refine ol_skip (wn_some rfl rfl rfl hb3 rfl) rfl ?_
        refine ol_skip (wn_some rfl rfl rfl hb3 rfl) rfl ?_
        refine ol_q (wn_none rfl) (op_pick_f (v := .bool _) rfl hb3 rfl) rfl ?_
        refine ol_q (wn_none rfl) (op_assign (v := .bool _) rfl) rfl ?_
        refine ol_nil ?_
        refine px_blockN ?_
        refine px_then ?_
        refine cd_region ?_   -- 10
        refine ol_q (wn_none rfl) (op_add rfl rfl (by omega) (by omega)) rfl ?_
        refine ol_q (wn_none rfl) (op_move (v := .int _ _) rfl) rfl ?_
        refine ol_nil ?_
        have e1 := all_step (fun p => decide ((i + 2) % p ≠ 0)) hj1
        refine px_loop2 (j + 1) (by omega) (by (try dsimp only); omega) ⟨congrArg Value.bool (by rw [e1, hb3]; first | exact decide_eq_decide.2 (not_congr Int.natCast_eq_zero) | (rw [Bool.true_and]; exact decide_eq_decide.2 (not_congr Int.natCast_eq_zero)) | simp), congrArg (Value.int .i64) (by simp), trivial⟩ ?_ (fun _ s => s)
        repeat (first | exact kept_over | refine kept_upd rfl ?_ | refine kept_overS (by decide) ?_)
    · have hp2 := hb2
      (try simp only [decide_eq_true_eq, decide_eq_false_iff_not, Bool.not_eq_true', Bool.not_eq_false', ne_eq, Decidable.not_not] at hp2)
      obtain rfl : j = (PLs i).length := by omega
      rw [List.take_length]
      refine cd_exit ?_
      refine px_thenE ?_
      refine px_thenE ?_
      refine px_blockE ?_
      refine px_then ?_
      refine cd_sr ?_   -- 11
      refine ol_q (wn_none rfl) (op_move (v := .bool _) rfl) rfl ?_
      refine ol_nil_then ?_
      refine cd_cond rfl (fun hb4 => ?_) (fun hb4 => ?_)
      · have hp4 := hb4
        (try simp only [decide_eq_true_eq, decide_eq_false_iff_not, Bool.not_eq_true', Bool.not_eq_false', ne_eq, Decidable.not_not] at hp4)
        refine cd_region ?_   -- 12
        refine ol_q (wn_none rfl) (op_move (v := .slice _ _ _) rfl) rfl ?_
        refine ol_q (wn_none rfl) (op_move (v := .int _ _) rfl) rfl ?_
        refine ol_i (wn_none rfl) (os_bslice (E := encU64) [_] (ys := [_]) sB_97 zv_32 rfl rfl rfl rfl (by decide)) rfl ?_; rintro _ _ ⟨ao1, rfl, rfl⟩
        refine ol_pull1 ?_
        refine ol_i (wn_none rfl) (os_append (E := encU64) rfl sB_97 zv_32 rfl rfl rfl (fun w s => (rds_row 1 rfl rfl) [] w s) rfl (by simp; omega) (by unfold maxLen; simp; omega)) rfl ?_; rintro _ _ ⟨ao2, ac2, rfl, rfl⟩
        refine ol_q (wn_none rfl) (op_assign (v := .slice _ _ _) rfl) rfl ?_
        refine ol_nil ?_
        refine px_blockN ?_
        refine px_then ?_
        refine cd_region ?_   -- 4
        refine ol_q (wn_none rfl) (op_move (v := .int _ _) rfl) rfl ?_
        refine ol_q (wn_none rfl) (op_addn (C := 1) rfl rfl (by omega)) rfl ?_
        refine ol_q (wn_none rfl) (op_assign (v := .int _ _) rfl) rfl ?_
        refine ol_nil ?_
        have e2 : PLs (i + 1) = PLs i ++ [i + 2] := by rw [PLs_step, if_pos hb4]
        have e3 := PLs_len_le (i := i)
        refine px_loop2 (i + 1, ao2, ac2) ⟨by dsimp only; omega, by dsimp only; omega⟩ (by (try dsimp only); omega) ⟨congrArg (fun q => Value.slice ao2 (List.length q) ac2) e2.symm, congrArg (Value.int .u64) (by omega), trivial⟩ ?_ (fun _ s => (by (try dsimp only); rw [e2]; exact (s.del 1)))
        repeat (first | exact kept_over | refine kept_upd rfl ?_ | refine kept_overS (by decide) ?_)
      · have hp4 := hb4
        (try simp only [decide_eq_true_eq, decide_eq_false_iff_not, Bool.not_eq_true', Bool.not_eq_false', ne_eq, Decidable.not_not] at hp4)
        refine cd_skip ?_
        refine px_blockN ?_
        refine px_then ?_
        refine cd_region ?_   -- 4
        refine ol_q (wn_none rfl) (op_move (v := .int _ _) rfl) rfl ?_
        refine ol_q (wn_none rfl) (op_addn (C := 1) rfl rfl (by omega)) rfl ?_
        refine ol_q (wn_none rfl) (op_assign (v := .int _ _) rfl) rfl ?_
        refine ol_nil ?_
        have e2 : PLs (i + 1) = PLs i := by rw [PLs_step, if_neg (by rw [hb4]; simp)]
        have e3 := PLs_len_le (i := i)
        refine px_loop2 (i + 1, vo, vc) ⟨by dsimp only; omega, by dsimp only; omega⟩ (by (try dsimp only); omega) ⟨congrArg (fun q => Value.slice vo (List.length q) vc) e2.symm, congrArg (Value.int .u64) (by omega), trivial⟩ ?_ (fun _ s => (by (try dsimp only); rw [e2]; exact s))
        repeat (first | exact kept_over | refine kept_upd rfl ?_ | refine kept_overS (by decide) ?_)
  · have hp1 := hb1
    (try simp only [decide_eq_true_eq, decide_eq_false_iff_not, Bool.not_eq_true', Bool.not_eq_false', ne_eq, Decidable.not_not] at hp1)
    have hprm : PLs i = prm n.toNat := PLs_is hi (by omega)
    rw [hprm]
    refine cd_exit ?_
    refine px_thenE ?_
    refine px_thenE ?_
    refine px_blockE ?_
    refine px_then ?_
    refine cd_sr ?_   -- 13
    refine ol_q (wn_none rfl) (op_move (v := .slice _ _ _) rfl) rfl ?_
    refine ol_q (wn_none rfl) (op_assign (v := .slice _ _ _) rfl) rfl ?_
    refine ol_nil_then ?_
    refine cd_ret ?_
    exact px_ret1 rfl (v := .slice _ _ _) rfl (fun _ s => s) ⟨_, _, rfl, rfl⟩
end Go.SL

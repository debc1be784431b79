import Derived.Test.YtgdlddjalilmhaaMGen
import Derived.Test.YtgdlddjalilmhaaFacts
set_option linter.unusedVariables false
set_option linter.unusedSimpArgs false
namespace Go.SL
open Go.Proofs

set_option maxRecDepth 100000 in
set_option maxHeartbeats 1000000 in
theorem In_calls {w0 w : World} {l : List HProp} (a b : Int) (hs : Sat w0 w (l))  :
    Calls Try.prog 41 #[.int .i64 a, .int .i64 b] w (Ret w0 fun v l' => v = .bool (inR (a, b)) ∧ l' = l) := by
  refine calls_enter Try.func41 rfl rfl rfl hs ?_
  refine cd_sr ?_   -- 0
  refine ol_q (wn_none rfl) (op_assign (v := .bool _) rfl) rfl ?_
  refine ol_nil_then ?_
  refine cd_sr ?_   -- 1
  refine ol_q (wn_none rfl) (op_move (v := .int _ _) rfl) rfl ?_
  refine ol_q (wn_none rfl) (op_ge rfl rfl) rfl ?_
  refine ol_q (wn_none rfl) (op_move (v := .bool _) rfl) rfl ?_
  refine ol_split 7 rfl (fun hb1 => ?_) (fun hb1 => ?_)
  · have hp1 := hb1
    (try simp only [decide_eq_true_eq, decide_eq_false_iff_not, Bool.not_eq_true', Bool.not_eq_false', ne_eq, Decidable.not_not] at hp1)
    refine ol_q (wn_some rfl rfl rfl hb1 rfl) (op_move (v := .int _ _) rfl) rfl ?_
    refine ol_q (wn_some rfl rfl rfl hb1 rfl) (op_move (v := .int _ _) rfl) rfl ?_
    refine ol_q (wn_some rfl rfl rfl hb1 rfl) (op_le rfl rfl) rfl ?_
    refine ol_q (wn_none rfl) (op_pick_t (v := .bool _) rfl hb1 rfl) rfl ?_
    refine ol_q (wn_none rfl) (op_assign (v := .bool _) rfl) rfl ?_
    refine ol_nil_then ?_
    refine cd_ret ?_
    exact px_ret1 rfl (v := .bool _) rfl (fun _ s => s) ⟨congrArg Value.bool (by unfold inR; dsimp only; symm; first | exact decide_eq_true ⟨by omega, by omega⟩ | exact decide_eq_false (by omega) | (rw [Bool.eq_iff_iff]; simp; omega)), rfl⟩
  · have hp1 := hb1
    (try simp only [decide_eq_true_eq, decide_eq_false_iff_not, Bool.not_eq_true', Bool.not_eq_false', ne_eq, Decidable.not_not] at hp1)
    refine ol_skip (wn_some rfl rfl rfl hb1 rfl) rfl ?_
    refine ol_skip (wn_some rfl rfl rfl hb1 rfl) rfl ?_
    refine ol_skip (wn_some rfl rfl rfl hb1 rfl) rfl ?_
    refine ol_q (wn_none rfl) (op_pick_f (v := .bool _) rfl hb1 rfl) rfl ?_
    refine ol_q (wn_none rfl) (op_assign (v := .bool _) rfl) rfl ?_
    refine ol_nil_then ?_
    refine cd_ret ?_
    exact px_ret1 rfl (v := .bool _) rfl (fun _ s => s) ⟨congrArg Value.bool (by unfold inR; dsimp only; symm; first | exact decide_eq_true ⟨by omega, by omega⟩ | exact decide_eq_false (by omega) | (rw [Bool.eq_iff_iff]; simp; omega)), rfl⟩

set_option maxRecDepth 100000 in
set_option maxHeartbeats 1000000 in
theorem Validator_calls {w0 w : World} {l : List HProp} (u : Val) (hs : Sat w0 w (l))  :
    Calls Try.prog 40 #[.agg (valC u).toArray] w (Ret w0 fun v l' => v = .bool (valOK u && decide (u.stake < 4611686018427387904)) ∧ l' = l) := by
  refine calls_enter Try.func40 rfl rfl rfl hs ?_
  refine cd_sr ?_   -- 0
  refine ol_i (wn_none rfl) (os_boxa rfl) rfl ?_; rintro _ _ ⟨bx1, rfl, rfl⟩
  refine ol_q (wn_none rfl) (op_assign (v := .bool _) rfl) rfl ?_
  refine ol_nil_then ?_
  refine cd_sr ?_   -- 1
  refine ol_q (wn_none rfl) (op_field fld_60_0 rfl) rfl ?_
  refine ol_q (wn_none rfl) (op_ld 0 sc_3 rfl rfl (valC_a0 _)) rfl ?_
  refine ol_q (wn_none rfl) (op_ge rfl rfl) rfl ?_
  refine ol_q (wn_none rfl) (op_move (v := .bool _) rfl) rfl ?_
  refine ol_split 6 rfl (fun hb1 => ?_) (fun hb1 => ?_)
  · have hp1 := hb1
    (try simp only [decide_eq_true_eq, decide_eq_false_iff_not, Bool.not_eq_true', Bool.not_eq_false', ne_eq, Decidable.not_not] at hp1)
    refine ol_q (wn_some rfl rfl rfl hb1 rfl) (op_field fld_60_0 rfl) rfl ?_
    refine ol_q (wn_some rfl rfl rfl hb1 rfl) (op_ld 0 sc_3 rfl rfl (valC_a0 _)) rfl ?_
    refine ol_q (wn_some rfl rfl rfl hb1 rfl) (op_lt rfl rfl) rfl ?_
    refine ol_q (wn_none rfl) (op_pick_t (v := .bool _) rfl hb1 rfl) rfl ?_
    refine ol_q (wn_none rfl) (op_move (v := .bool _) rfl) rfl ?_
    refine ol_split 11 rfl (fun hb2 => ?_) (fun hb2 => ?_)
    · have hp2 := hb2
      (try simp only [decide_eq_true_eq, decide_eq_false_iff_not, Bool.not_eq_true', Bool.not_eq_false', ne_eq, Decidable.not_not] at hp2)
      refine ol_q (wn_some rfl rfl rfl hb2 rfl) (op_field fld_60_1 rfl) rfl ?_
      refine ol_q (wn_some rfl rfl rfl hb2 rfl) (op_ld 0 sc_9 rfl rfl (valC_a1 _)) rfl ?_
      refine ol_q (wn_some rfl rfl rfl hb2 rfl) (op_len_string Try.underlying9 rfl) rfl ?_
      refine ol_i (wn_some rfl rfl rfl hb2 rfl) (os_call cb_41 rfl (fun w s => In_calls (b := 32) _  s )) rfl ?_; rintro _ l ⟨rfl, rfl⟩
      refine ol_q (wn_none rfl) (op_pick_t (v := .bool _) rfl hb2 rfl) rfl ?_
      refine ol_q (wn_none rfl) (op_assign (v := .bool _) rfl) rfl ?_
      refine ol_nil_then ?_
      refine cd_ret ?_
      exact px_ret1 rfl (v := .bool _) rfl (fun _ s => (s.del 0)) ⟨congrArg Value.bool (by unfold valOK; (try unfold inR); rw [Bool.eq_iff_iff]; simp; omega), rfl⟩
    · have hp2 := hb2
      (try simp only [decide_eq_true_eq, decide_eq_false_iff_not, Bool.not_eq_true', Bool.not_eq_false', ne_eq, Decidable.not_not] at hp2)
      refine ol_skip (wn_some rfl rfl rfl hb2 rfl) rfl ?_
      refine ol_skip (wn_some rfl rfl rfl hb2 rfl) rfl ?_
      refine ol_skip (wn_some rfl rfl rfl hb2 rfl) rfl ?_
      refine ol_skip (wn_some rfl rfl rfl hb2 rfl) rfl ?_
      refine ol_q (wn_none rfl) (op_pick_f (v := .bool _) rfl hb2 rfl) rfl ?_
      refine ol_q (wn_none rfl) (op_assign (v := .bool _) rfl) rfl ?_
      refine ol_nil_then ?_
      refine cd_ret ?_
      exact px_ret1 rfl (v := .bool _) rfl (fun _ s => (s.del 0)) ⟨congrArg Value.bool (by unfold valOK; (try unfold inR); rw [Bool.eq_iff_iff]; simp; omega), rfl⟩
  · have hp1 := hb1
    (try simp only [decide_eq_true_eq, decide_eq_false_iff_not, Bool.not_eq_true', Bool.not_eq_false', ne_eq, Decidable.not_not] at hp1)
    refine ol_skip (wn_some rfl rfl rfl hb1 rfl) rfl ?_
    refine ol_skip (wn_some rfl rfl rfl hb1 rfl) rfl ?_
    refine ol_skip (wn_some rfl rfl rfl hb1 rfl) rfl ?_
    refine ol_q (wn_none rfl) (op_pick_f (v := .bool _) rfl hb1 rfl) rfl ?_
    refine ol_q (wn_none rfl) (op_move (v := .bool _) rfl) rfl ?_
    refine ol_skip (wn_some rfl rfl rfl rfl rfl) rfl ?_
    refine ol_skip (wn_some rfl rfl rfl rfl rfl) rfl ?_
    refine ol_skip (wn_some rfl rfl rfl rfl rfl) rfl ?_
    refine ol_skip (wn_some rfl rfl rfl rfl rfl) rfl ?_
    refine ol_q (wn_none rfl) (op_pick_f (v := .bool _) rfl rfl rfl) rfl ?_
    refine ol_q (wn_none rfl) (op_assign (v := .bool _) rfl) rfl ?_
    refine ol_nil_then ?_
    refine cd_ret ?_
    exact px_ret1 rfl (v := .bool _) rfl (fun _ s => (s.del 0)) ⟨congrArg Value.bool (by unfold valOK; (try unfold inR); rw [Bool.eq_iff_iff]; simp; omega), rfl⟩

set_option maxRecDepth 100000 in
set_option maxHeartbeats 1000000 in
theorem Total_calls {w0 w : World} {l : List HProp} (ao : Option Addr) (c : Nat) (xs : List Val) (hs : Sat w0 w (l)) (hr : Rds w0 l encVal ao xs) (hxl : xs.length ≤ 1000000) :
    Calls Try.prog 17 #[.slice ao xs.length c] w (Ret w0 fun v l' => v = .tuple #[.int .i64 ((totF 0 xs).getD 0), .bool (totF 0 xs).isSome] ∧ l' = l) := by
  refine calls_enter Try.func17 rfl rfl rfl hs ?_
  refine cd_sr ?_   -- 0
  refine ol_q (wn_none rfl) (op_assign (v := .int _ _) rfl) rfl ?_
  refine ol_q (wn_none rfl) (op_assign (v := .bool _) rfl) rfl ?_
  refine ol_nil_then ?_
  refine cd_sr ?_   -- 1
  refine ol_q (wn_none rfl) (op_assign (v := .int _ _) rfl) rfl ?_
  refine ol_nil_then ?_
  refine cd_seq ?_
  refine cd_sr ?_   -- 2
  refine ol_q (wn_none rfl) (op_move (v := .slice _ _ _) rfl) rfl ?_
  refine ol_q (wn_none rfl) (op_len_slice Try.underlying22 rfl) rfl ?_
  refine ol_q (wn_none rfl) (op_move (v := .int _ _) rfl) rfl ?_
  refine ol_nil_then ?_
  refine cd_block ?_
  refine cd_loop2 (α := Nat × Int) [(2, 4), (6, 6), (9, 27)] (fun x => [(4, .int .i64 x.2), (9, .int .i64 (x.1 : Int))]) (fun _ => _) (fun x => x.1 ≤ xs.length ∧ 0 ≤ x.2 ∧ x.2 < 4611686018427387904 ∧ totF 0 xs = totF x.2 (xs.drop x.1)) (fun x => xs.length - x.1) (0, 0) ⟨Nat.zero_le _, by decide, by decide, rfl⟩ ⟨rfl, rfl, trivial⟩ (fun _ s => s) ?_
  rintro ⟨i, s⟩ ⟨hi, hs0, hs1, heq⟩ f; (try dsimp only at hi hs0 hs1 heq ⊢)
  refine cd_sr ?_   -- 3
  refine ol_q (wn_none rfl) (op_lt rfl rfl) rfl ?_
  refine ol_nil_then ?_
  refine cd_seq ?_
  refine cd_cond rfl (fun hb1 => ?_) (fun hb1 => ?_)
  · have hp1 := hb1
    (try simp only [decide_eq_true_eq, decide_eq_false_iff_not, Bool.not_eq_true', Bool.not_eq_false', ne_eq, Decidable.not_not] at hp1)
    refine cd_skip ?_
    refine px_then ?_
    refine cd_seq ?_
    refine cd_block ?_
    refine cd_sr ?_   -- 4
    refine ol_q (wn_none rfl) (op_index _ sB_22 rfl rfl rfl hr rfl (by omega)) rfl ?_
    refine ol_q (wn_none rfl) (op_ldaw (L := valC _) ag_60 hr rfl (by omega) rfl (valC_ta _)) rfl ?_
    refine ol_i (wn_none rfl) (os_alloc (cs := (valC Val.zero).toArray) zB_60 (by kernel_rfl)) rfl ?_; rintro _ _ ⟨bx1, rfl, rfl⟩
    refine ol_iN (wn_none rfl) (os_storew (valC _) ag_60 rfl rfl (valC_len _) (valC_one _) (by simp [valC_len]) (Free.zero _)) ?_; rintro _ _ ⟨rfl, rfl⟩
    refine ol_nil_then ?_
    refine cd_seq ?_
    refine cd_sr ?_   -- 5
    refine ol_q (wn_none rfl) (op_lda (L := valC _) 0 ag_60 rfl rfl (valC_ta _) (by simp [valC_len])) rfl ?_
    refine ol_i (wn_none rfl) (os_call cb_40 rfl (fun w s => Validator_calls _  s )) rfl ?_; rintro _ l ⟨rfl, rfl⟩
    refine ol_q (wn_none rfl) (op_not rfl) rfl ?_
    refine ol_q (wn_none rfl) (op_move (v := .bool _) rfl) rfl ?_
    refine ol_split 16 rfl (fun hb2 => ?_) (fun hb2 => ?_)
    · have hp2 := hb2
      (try simp only [decide_eq_true_eq, decide_eq_false_iff_not, Bool.not_eq_true', Bool.not_eq_false', ne_eq, Decidable.not_not] at hp2)
      have hvo : ¬ (valOK xs[i] = true ∧ xs[i].stake < 4611686018427387904) := fun h => by have h3 := hb2; simp [h.1] at h3; omega
      refine ol_skip (wn_some rfl rfl rfl hb2 rfl) rfl ?_
      refine ol_skip (wn_some rfl rfl rfl hb2 rfl) rfl ?_
      refine ol_skip (wn_some rfl rfl rfl hb2 rfl) rfl ?_
      refine ol_skip (wn_some rfl rfl rfl hb2 rfl) rfl ?_
      refine ol_skip (wn_some rfl rfl rfl hb2 rfl) rfl ?_
      refine ol_q (wn_none rfl) (op_pick_t (v := .bool _) rfl hb2 rfl) rfl ?_
      refine ol_nil_then ?_
      refine cd_cond_t rfl rfl ?_
      refine cd_sr ?_   -- 6
      refine ol_q (wn_none rfl) (op_assign (v := .int _ _) rfl) rfl ?_
      refine ol_q (wn_none rfl) (op_assign (v := .bool _) rfl) rfl ?_
      refine ol_nil_then ?_
      refine cd_ret ?_
      refine px_thenR ?_
      refine px_blockR ?_
      refine px_thenR ?_
      refine px_thenR ?_
      refine px_blockR ?_
      refine px_thenR ?_
      have e : totF 0 xs = none := by rw [heq, totF_drop (by omega), if_neg (fun h => hvo ⟨h.1, by omega⟩)]
      rw [e]
      exact px_ret2 rfl (v1 := .int _ _) (v2 := .bool _) rfl rfl (fun _ s => (s.del 0)) ⟨rfl, rfl⟩
    · have hp2 := hb2
      (try simp only [decide_eq_true_eq, decide_eq_false_iff_not, Bool.not_eq_true', Bool.not_eq_false', ne_eq, Decidable.not_not] at hp2)
      have hvo : valOK xs[i] = true ∧ xs[i].stake < 4611686018427387904 := by simpa using hb2
      have hvo2 := of_decide_eq_true hvo.1
      refine ol_q (wn_some rfl rfl rfl hb2 rfl) (op_move (v := .int _ _) rfl) rfl ?_
      refine ol_q (wn_some rfl rfl rfl hb2 rfl) (op_field fld_60_0 rfl) rfl ?_
      refine ol_q (wn_some rfl rfl rfl hb2 rfl) (op_ld 0 sc_3 rfl rfl (valC_a0 _)) rfl ?_
      refine ol_q (wn_some rfl rfl rfl hb2 rfl) (op_add rfl rfl (by omega) (by omega)) rfl ?_
      refine ol_q (wn_some rfl rfl rfl hb2 rfl) (op_ge rfl rfl) rfl ?_
      refine ol_q (wn_none rfl) (op_pick_f (v := .bool _) rfl hb2 rfl) rfl ?_
      refine ol_nil_then ?_
      refine cd_cond rfl (fun hb3 => ?_) (fun hb3 => ?_)
      · have hp3 := hb3
        (try simp only [decide_eq_true_eq, decide_eq_false_iff_not, Bool.not_eq_true', Bool.not_eq_false', ne_eq, Decidable.not_not] at hp3)
        refine cd_sr ?_   -- 6
        refine ol_q (wn_none rfl) (op_assign (v := .int _ _) rfl) rfl ?_
        refine ol_q (wn_none rfl) (op_assign (v := .bool _) rfl) rfl ?_
        refine ol_nil_then ?_
        refine cd_ret ?_
        refine px_thenR ?_
        refine px_blockR ?_
        refine px_thenR ?_
        refine px_thenR ?_
        refine px_blockR ?_
        refine px_thenR ?_
        have e : totF 0 xs = none := by rw [heq, totF_drop (by omega), if_neg (by omega)]
        rw [e]
        exact px_ret2 rfl (v1 := .int _ _) (v2 := .bool _) rfl rfl (fun _ s => (s.del 0)) ⟨rfl, rfl⟩
      · have hp3 := hb3
        (try simp only [decide_eq_true_eq, decide_eq_false_iff_not, Bool.not_eq_true', Bool.not_eq_false', ne_eq, Decidable.not_not] at hp3)
        refine cd_skip ?_
        refine px_then ?_
        refine cd_region ?_   -- 7
        refine ol_q (wn_none rfl) (op_move (v := .int _ _) rfl) rfl ?_
        refine ol_q (wn_none rfl) (op_field fld_60_0 rfl) rfl ?_
        refine ol_q (wn_none rfl) (op_ld 0 sc_3 rfl rfl (valC_a0 _)) rfl ?_
        refine ol_q (wn_none rfl) (op_add rfl rfl (by omega) (by omega)) rfl ?_
        refine ol_q (wn_none rfl) (op_assign (v := .int _ _) rfl) rfl ?_
        refine ol_nil ?_
        refine px_blockN ?_
        refine px_then ?_
        refine cd_region ?_   -- 8
        refine ol_q (wn_none rfl) (op_add rfl rfl (by omega) (by omega)) rfl ?_
        refine ol_q (wn_none rfl) (op_move (v := .int _ _) rfl) rfl ?_
        refine ol_nil ?_
        have e1 : totF 0 xs = totF (s + xs[i].stake) (xs.drop (i + 1)) := by rw [heq, totF_drop (by omega), if_pos ⟨hvo.1, by omega⟩]
        refine px_loop2 (i + 1, s + xs[i].stake) ⟨by dsimp only; omega, by dsimp only; omega, by dsimp only; omega, e1⟩ (by (try dsimp only); omega) ⟨rfl, congrArg (Value.int .i64) (by simp), trivial⟩ ?_ (fun _ s => (s.del 0))
        repeat (first | exact kept_over | refine kept_upd rfl ?_ | refine kept_overS (by decide) ?_)
  · have hp1 := hb1
    (try simp only [decide_eq_true_eq, decide_eq_false_iff_not, Bool.not_eq_true', Bool.not_eq_false', ne_eq, Decidable.not_not] at hp1)
    refine cd_exit ?_
    refine px_thenE ?_
    refine px_thenE ?_
    refine px_blockE ?_
    refine px_then ?_
    refine cd_sr ?_   -- 9
    refine ol_q (wn_none rfl) (op_move (v := .int _ _) rfl) rfl ?_
    refine ol_q (wn_none rfl) (op_assign (v := .int _ _) rfl) rfl ?_
    refine ol_q (wn_none rfl) (op_assign (v := .bool _) rfl) rfl ?_
    refine ol_nil_then ?_
    refine cd_ret ?_
    have e : totF 0 xs = some s := by rw [heq, totF_end (by omega)]
    rw [e]
    exact px_ret2 rfl (v1 := .int _ _) (v2 := .bool _) rfl rfl (fun _ s => s) ⟨rfl, rfl⟩

set_option maxRecDepth 100000 in
set_option maxHeartbeats 1000000 in
theorem Great_calls {w0 w : World} {l : List HProp} (ao : Option Addr) (c : Nat) (xs : List Val) (n1 n2 n3 n4 n5 n6 n7 n8 n9 n10 n11 : Int) (hs : Sat w0 w (l)) (hr : Rds w0 l encVal ao xs) :
    Calls Try.prog 16 #[.agg (cfgC ⟨⟨ao, xs.length, c⟩, n1, n2, n3, n4, n5, n6, n7, n8, n9, n10, n11⟩).toArray] w (Ret w0 fun v l' => v = .bool (greatC xs) ∧ l' = l) := by
  refine calls_enter Try.func16 rfl rfl rfl hs ?_
  refine cd_sr ?_   -- 0
  refine ol_i (wn_none rfl) (os_boxa rfl) rfl ?_; rintro _ _ ⟨bx1, rfl, rfl⟩
  refine ol_q (wn_none rfl) (op_assign (v := .bool _) rfl) rfl ?_
  refine ol_nil_then ?_
  refine cd_seq ?_
  refine cd_sr ?_   -- 1
  refine ol_q (wn_none rfl) (op_field fld_24_0 rfl) rfl ?_
  refine ol_q (wn_none rfl) (op_ld 0 sc_22 rfl rfl (cfgC_a0 _)) rfl ?_
  refine ol_q (wn_none rfl) (op_len_slice Try.underlying22 rfl) rfl ?_
  refine ol_q (wn_none rfl) (op_gt rfl rfl) rfl ?_
  refine ol_nil_then ?_
  refine cd_cond rfl (fun hb1 => ?_) (fun hb1 => ?_)
  · have hp1 := hb1
    (try simp only [decide_eq_true_eq, decide_eq_false_iff_not, Bool.not_eq_true', Bool.not_eq_false', ne_eq, Decidable.not_not] at hp1)
    refine cd_sr ?_   -- 2
    refine ol_q (wn_none rfl) (op_assign (v := .bool _) rfl) rfl ?_
    refine ol_nil_then ?_
    refine cd_ret ?_
    refine px_thenR ?_
    exact px_ret1 rfl (v := .bool _) rfl (fun _ s => (s.del 0)) ⟨congrArg Value.bool (by unfold greatC; rw [decide_eq_true (by omega)]; rfl), rfl⟩
  · have hp1 := hb1
    (try simp only [decide_eq_true_eq, decide_eq_false_iff_not, Bool.not_eq_true', Bool.not_eq_false', ne_eq, Decidable.not_not] at hp1)
    refine cd_skip ?_
    refine px_then ?_
    refine cd_seq ?_
    refine cd_sr ?_   -- 3
    refine ol_q (wn_none rfl) (op_field fld_24_0 rfl) rfl ?_
    refine ol_q (wn_none rfl) (op_ld 0 sc_22 rfl rfl (cfgC_a0 _)) rfl ?_
    refine ol_q (wn_none rfl) (op_len_slice Try.underlying22 rfl) rfl ?_
    refine ol_q (wn_none rfl) (op_move (v := .int _ _) rfl) rfl ?_
    refine ol_nil_then ?_
    refine cd_block ?_
    refine cd_loop2 (α := Nat) [(2, 2), (4, 4), (12, 20)] (fun x => [(12, .int .i64 (x : Int))]) (fun _ => _) (fun x => x ≤ xs.length ∧ ∀ j (h : j < xs.length), j < x → xs[j].key.length ≤ 200) (fun x => xs.length - x) 0 ⟨Nat.zero_le _, fun j h h2 => absurd h2 (Nat.not_lt_zero _)⟩ ⟨rfl, trivial⟩ (fun _ s => s) ?_
    rintro i ⟨hi, hno⟩ f; (try dsimp only at hi hno ⊢)
    refine cd_sr ?_   -- 4
    refine ol_q (wn_none rfl) (op_lt rfl rfl) rfl ?_
    refine ol_nil_then ?_
    refine cd_seq ?_
    refine cd_cond rfl (fun hb2 => ?_) (fun hb2 => ?_)
    · have hp2 := hb2
      (try simp only [decide_eq_true_eq, decide_eq_false_iff_not, Bool.not_eq_true', Bool.not_eq_false', ne_eq, Decidable.not_not] at hp2)
      refine cd_skip ?_
      refine px_then ?_
      refine cd_seq ?_
      refine cd_block ?_
      refine cd_sr ?_   -- 5
      refine ol_q (wn_none rfl) (op_index _ sB_22 rfl rfl rfl (hr.cons _) rfl (by omega)) rfl ?_
      refine ol_q (wn_none rfl) (op_ldaw (L := valC _) ag_60 (hr.cons _) rfl (by omega) rfl (valC_ta _)) rfl ?_
      refine ol_i (wn_none rfl) (os_alloc (cs := (valC Val.zero).toArray) zB_60 (by kernel_rfl)) rfl ?_; rintro _ _ ⟨bx2, rfl, rfl⟩
      refine ol_iN (wn_none rfl) (os_storew (valC _) ag_60 rfl rfl (valC_len _) (valC_one _) (by simp [valC_len]) (Free.zero _)) ?_; rintro _ _ ⟨rfl, rfl⟩
      refine ol_nil_then ?_
      refine cd_sr ?_   -- 6
      refine ol_q (wn_none rfl) (op_field fld_60_1 rfl) rfl ?_
      refine ol_q (wn_none rfl) (op_ld 0 sc_9 rfl rfl (valC_a1 _)) rfl ?_
      refine ol_q (wn_none rfl) (op_len_string Try.underlying9 rfl) rfl ?_
      refine ol_q (wn_none rfl) (op_gt rfl rfl) rfl ?_
      refine ol_nil_then ?_
      refine cd_cond rfl (fun hb3 => ?_) (fun hb3 => ?_)
      · have hp3 := hb3
        (try simp only [decide_eq_true_eq, decide_eq_false_iff_not, Bool.not_eq_true', Bool.not_eq_false', ne_eq, Decidable.not_not] at hp3)
        have hk1 := of_decide_eq_true hb3
        refine cd_sr ?_   -- 7
        refine ol_q (wn_none rfl) (op_assign (v := .bool _) rfl) rfl ?_
        refine ol_nil_then ?_
        refine cd_ret ?_
        refine px_blockR ?_
        refine px_thenR ?_
        refine px_thenR ?_
        refine px_blockR ?_
        refine px_thenR ?_
        exact px_ret1 rfl (v := .bool _) rfl (fun _ s => ((s.del 1).del 0)) ⟨congrArg Value.bool (by unfold greatC; symm; rw [Bool.or_eq_true]; right; exact List.any_eq_true.2 ⟨xs[i], List.getElem_mem _, decide_eq_true (by omega)⟩), rfl⟩
      · have hp3 := hb3
        (try simp only [decide_eq_true_eq, decide_eq_false_iff_not, Bool.not_eq_true', Bool.not_eq_false', ne_eq, Decidable.not_not] at hp3)
        have hk1 := of_decide_eq_false hb3
        refine cd_skip ?_
        refine px_blockN ?_
        refine px_then ?_
        refine cd_region ?_   -- 8
        refine ol_q (wn_none rfl) (op_add rfl rfl (by omega) (by omega)) rfl ?_
        refine ol_q (wn_none rfl) (op_move (v := .int _ _) rfl) rfl ?_
        refine ol_nil ?_
        refine px_loop2 (i + 1) ⟨by omega, fun j h h2 => by rcases Nat.lt_succ_iff_lt_or_eq.1 h2 with h3 | h3; exact hno j h h3; subst h3; omega⟩ (by (try dsimp only); omega) ⟨congrArg (Value.int .i64) (by simp), trivial⟩ ?_ (fun _ s => (s.del 0))
        repeat (first | exact kept_over | refine kept_upd rfl ?_ | refine kept_overS (by decide) ?_)
    · have hp2 := hb2
      (try simp only [decide_eq_true_eq, decide_eq_false_iff_not, Bool.not_eq_true', Bool.not_eq_false', ne_eq, Decidable.not_not] at hp2)
      refine cd_exit ?_
      refine px_thenE ?_
      refine px_thenE ?_
      refine px_blockE ?_
      refine px_then ?_
      refine cd_sr ?_   -- 9
      refine ol_q (wn_none rfl) (op_assign (v := .bool _) rfl) rfl ?_
      refine ol_nil_then ?_
      refine cd_ret ?_
      exact px_ret1 rfl (v := .bool _) rfl (fun _ s => (s.del 0)) ⟨congrArg Value.bool (by unfold greatC; symm; rw [Bool.or_eq_false_iff]; refine ⟨decide_eq_false (by omega), List.any_eq_false.2 fun u hu => ?_⟩; obtain ⟨j, hj, rfl⟩ := List.mem_iff_getElem.1 hu; have := hno j hj (by omega); simp; omega), rfl⟩

set_option maxRecDepth 100000 in
set_option maxHeartbeats 1000000 in
theorem Index_calls {w0 w : World} {l : List HProp} (ao : Option Addr) (c : Nat) (xs : List Bool) (b : Bool) (hs : Sat w0 w (l)) (hr : Rds w0 l encBool ao xs) (hxl : xs.length ≤ 1000000) :
    Calls Try.prog 62 #[.slice ao xs.length c, .bool b] w (Ret w0 fun v l' => v = .int .i64 (idxB xs b) ∧ l' = l) := by
  refine calls_enter Try.func62 rfl rfl rfl hs ?_
  refine cd_sr ?_   -- 0
  refine ol_q (wn_none rfl) (op_assign (v := .int _ _) rfl) rfl ?_
  refine ol_nil_then ?_
  refine cd_seq ?_
  refine cd_sr ?_   -- 1
  refine ol_q (wn_none rfl) (op_move (v := .slice _ _ _) rfl) rfl ?_
  refine ol_q (wn_none rfl) (op_len_slice Try.underlying41 rfl) rfl ?_
  refine ol_q (wn_none rfl) (op_move (v := .int _ _) rfl) rfl ?_
  refine ol_nil_then ?_
  refine cd_block ?_
  refine cd_loop2 (α := Nat) [(4, 5), (8, 18)] (fun x => [(8, .int .i64 (x : Int))]) (fun _ => _) (fun x => x ≤ xs.length ∧ ∀ j (h : j < xs.length), j < x → b ≠ xs[j]) (fun x => xs.length - x) 0 ⟨Nat.zero_le _, fun j h h2 => absurd h2 (Nat.not_lt_zero _)⟩ ⟨rfl, trivial⟩ (fun _ s => s) ?_
  rintro i ⟨hi, hno⟩ f; (try dsimp only at hi hno ⊢)
  refine cd_sr ?_   -- 2
  refine ol_q (wn_none rfl) (op_lt rfl rfl) rfl ?_
  refine ol_nil_then ?_
  refine cd_seq ?_
  refine cd_cond rfl (fun hb1 => ?_) (fun hb1 => ?_)
  · have hp1 := hb1
    (try simp only [decide_eq_true_eq, decide_eq_false_iff_not, Bool.not_eq_true', Bool.not_eq_false', ne_eq, Decidable.not_not] at hp1)
    refine cd_skip ?_
    refine px_then ?_
    refine cd_seq ?_
    refine cd_block ?_
    refine cd_sr ?_   -- 3
    refine ol_q (wn_none rfl) (op_move (v := .int _ _) rfl) rfl ?_
    refine ol_q (wn_none rfl) (op_assign (v := .int _ _) rfl) rfl ?_
    refine ol_nil_then ?_
    refine cd_sr ?_   -- 4
    refine ol_q (wn_none rfl) (op_move (v := .bool _) rfl) rfl ?_
    refine ol_q (wn_none rfl) (op_move (v := .slice _ _ _) rfl) rfl ?_
    refine ol_q (wn_none rfl) (op_move (v := .int _ _) rfl) rfl ?_
    refine ol_q (wn_none rfl) (op_index _ sB_41 rfl rfl rfl hr rfl (by omega)) rfl ?_
    refine ol_q (wn_none rfl) (op_ldw sc_4 hr rfl (by omega) rfl) rfl ?_
    refine ol_q (wn_none rfl) (op_beql Try.underlying4 rfl rfl) rfl ?_
    refine ol_nil_then ?_
    refine cd_cond rfl (fun hb2 => ?_) (fun hb2 => ?_)
    · have hp2 := hb2
      (try simp only [decide_eq_true_eq, decide_eq_false_iff_not, Bool.not_eq_true', Bool.not_eq_false', ne_eq, Decidable.not_not] at hp2)
      have hbb : b = xs[i] := by simpa using hb2
      refine cd_sr ?_   -- 5
      refine ol_q (wn_none rfl) (op_move (v := .int _ _) rfl) rfl ?_
      refine ol_q (wn_none rfl) (op_assign (v := .int _ _) rfl) rfl ?_
      refine ol_nil_then ?_
      refine cd_ret ?_
      refine px_blockR ?_
      refine px_thenR ?_
      refine px_thenR ?_
      refine px_blockR ?_
      refine px_thenR ?_
      exact px_ret1 rfl (v := .int _ _) rfl (fun _ s => s) ⟨congrArg (Value.int .i64) ((idxB_some (by omega) hbb hno).symm), rfl⟩
    · have hp2 := hb2
      (try simp only [decide_eq_true_eq, decide_eq_false_iff_not, Bool.not_eq_true', Bool.not_eq_false', ne_eq, Decidable.not_not] at hp2)
      have hbb : b ≠ xs[i] := by simpa using hb2
      refine cd_skip ?_
      refine px_blockN ?_
      refine px_then ?_
      refine cd_region ?_   -- 6
      refine ol_q (wn_none rfl) (op_add rfl rfl (by omega) (by omega)) rfl ?_
      refine ol_q (wn_none rfl) (op_move (v := .int _ _) rfl) rfl ?_
      refine ol_nil ?_
      refine px_loop2 (i + 1) ⟨by omega, fun j h h2 => by rcases Nat.lt_succ_iff_lt_or_eq.1 h2 with h3 | h3; exact hno j h h3; subst h3; exact hbb⟩ (by (try dsimp only); omega) ⟨congrArg (Value.int .i64) (by simp), trivial⟩ ?_ (fun _ s => s)
      repeat (first | exact kept_over | refine kept_upd rfl ?_ | refine kept_overS (by decide) ?_)
  · have hp1 := hb1
    (try simp only [decide_eq_true_eq, decide_eq_false_iff_not, Bool.not_eq_true', Bool.not_eq_false', ne_eq, Decidable.not_not] at hp1)
    refine cd_exit ?_
    refine px_thenE ?_
    refine px_thenE ?_
    refine px_blockE ?_
    refine px_then ?_
    refine cd_sr ?_   -- 7
    refine ol_q (wn_none rfl) (op_assign (v := .int _ _) rfl) rfl ?_
    refine ol_nil_then ?_
    refine cd_ret ?_
    exact px_ret1 rfl (v := .int _ _) rfl (fun _ s => s) ⟨congrArg (Value.int .i64) ((idxB_none fun j hj => hno j hj (by omega)).symm), rfl⟩

set_option maxRecDepth 100000 in
set_option maxHeartbeats 1000000 in
theorem Contains_calls {w0 w : World} {l : List HProp} (ao : Option Addr) (c : Nat) (xs : List Bool) (b : Bool) (hs : Sat w0 w (l)) (hr : Rds w0 l encBool ao xs) (hxl : xs.length ≤ 1000000) :
    Calls Try.prog 42 #[.slice ao xs.length c, .bool b] w (Ret w0 fun v l' => v = .bool (xs.contains b) ∧ l' = l) := by
  refine calls_enter Try.func42 rfl rfl rfl hs ?_
  refine cd_sr ?_   -- 0
  refine ol_q (wn_none rfl) (op_assign (v := .bool _) rfl) rfl ?_
  refine ol_nil_then ?_
  refine cd_sr ?_   -- 1
  refine ol_q (wn_none rfl) (op_move (v := .slice _ _ _) rfl) rfl ?_
  refine ol_q (wn_none rfl) (op_move (v := .bool _) rfl) rfl ?_
  refine ol_i (wn_none rfl) (os_call cb_62 rfl (fun w s => Index_calls _ _ _ _  s hr (by first | omega | (simp; done) | (simp; omega)))) rfl ?_; rintro _ l ⟨rfl, rfl⟩
  refine ol_q (wn_none rfl) (op_ge rfl rfl) rfl ?_
  refine ol_q (wn_none rfl) (op_assign (v := .bool _) rfl) rfl ?_
  refine ol_nil_then ?_
  refine cd_ret ?_
  exact px_ret1 rfl (v := .bool _) rfl (fun _ s => s) ⟨congrArg Value.bool (by rw [← idxB_contains]), rfl⟩
end Go.SL

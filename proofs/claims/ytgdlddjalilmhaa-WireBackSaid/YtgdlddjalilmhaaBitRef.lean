import Derived.Test.YtgdlddjalilmhaaBitLaws
set_option linter.unusedVariables false
set_option linter.unusedSimpArgs false
namespace Go.SL
open Go.Proofs

set_option maxRecDepth 100000 in
set_option maxHeartbeats 1000000 in
theorem RefBytes_calls {w0 w : World} {l : List HProp} (lo : Option Addr) (lc : Nat) (xs : List Bool) (hs : Sat w0 w (l)) (hr : Rds w0 l encBool lo xs) (hx : xs.length ≤ 1000) :
    Calls Try.prog 61 #[.slice lo xs.length lc] w (Ret w0 fun v l' => v = .string (B (enc8 xs)) ∧ l' = l) := by
  obtain ⟨Y, hYe⟩ : ∃ Y : List Bool, Y = [] ++ xs ++ [true] := ⟨_, rfl⟩
  have hY : Y.length = xs.length + 1 := by rw [hYe]; simp
  have hG : ∀ i q, (putB (low (Y.take i)) q).length = q := fun i q => putB_length _ _
  refine calls_enter Try.func61 rfl rfl rfl hs ?_
  refine cd_sr ?_   -- 0
  refine ol_q (wn_none rfl) (op_assign (v := .string _) rfl) rfl ?_
  refine ol_nil_then ?_
  refine cd_sr ?_   -- 1
  refine ol_i (wn_none rfl) (os_bslice (E := encBool) [] (ys := []) sB_41 zv_4 rfl rfl rfl rfl (by decide)) rfl ?_; rintro _ _ ⟨ao1, rfl, rfl⟩
  refine ol_q (wn_none rfl) (op_move (v := .slice _ _ _) rfl) rfl ?_
  refine ol_i (wn_none rfl) (os_append (E := encBool) rfl sB_41 zv_4 rfl rfl rfl (fun w s => (hr.cons _) [] w s) rfl (by simp; omega) (by unfold maxLen; simp; omega)) rfl ?_; rintro _ _ ⟨ao2, ac2, rfl, rfl⟩
  refine ol_i (wn_none rfl) (os_bslice (E := encBool) [_] (ys := [_]) sB_41 zv_4 rfl rfl rfl rfl (by decide)) rfl ?_; rintro _ _ ⟨ao3, rfl, rfl⟩
  refine ol_pull1 ?_
  refine ol_i (wn_none rfl) (os_append (E := encBool) rfl sB_41 zv_4 rfl rfl rfl (fun w s => (rds_row 1 rfl rfl) [] w s) rfl (by simp; omega) (by unfold maxLen; simp; omega)) rfl ?_; rintro _ _ ⟨ao4, ac4, rfl, rfl⟩; rw [← hYe]
  refine ol_q (wn_none rfl) (op_assign (v := .slice _ _ _) rfl) rfl ?_
  refine ol_nil_then ?_
  refine cd_sr ?_   -- 2
  refine ol_q (wn_none rfl) (op_assign (v := .slice _ _ _) rfl) rfl ?_
  refine ol_nil_then ?_
  refine cd_seq ?_
  refine cd_sr ?_   -- 3
  refine ol_q (wn_none rfl) (op_move (v := .slice _ _ _) rfl) rfl ?_
  refine ol_q (wn_none rfl) (op_len_slice Try.underlying41 rfl) rfl ?_
  refine ol_q (wn_none rfl) (op_move (v := .int _ _) rfl) rfl ?_
  refine ol_nil_then ?_
  refine cd_block ?_
  refine cd_loop (α := Nat × Option Addr × Nat) (fun x => [(3, .slice ao4 Y.length ac4), (4, .slice x.2.1 (putB (low (Y.take (x.1))) ((x.1 + 7) / 8)).length x.2.2), (14, .slice ao4 Y.length ac4), (15, .int .i64 Y.length), (16, .int .i64 x.1)]) (fun x => Row 5 encU8 (.slice x.2.1 (putB (low (Y.take (x.1))) ((x.1 + 7) / 8)).length x.2.2) (putB (low (Y.take (x.1))) ((x.1 + 7) / 8)) :: Row 4 encBool (.slice ao4 Y.length ac4) Y :: l) (fun x => x.1 ≤ Y.length) (fun x => Y.length - x.1) (0, none, 0) (Nat.zero_le _) ⟨rfl, rfl, rfl, rfl, rfl, trivial⟩ (fun _ s => Sat.rowNil (s.del 1)) ?_
  rintro ⟨i, v1, v2⟩ hi f; (try dsimp only at hi ⊢)
  refine cd_sr ?_   -- 4
  refine ol_q (wn_none rfl) (op_lt rfl rfl) rfl ?_
  refine ol_nil_then ?_
  refine cd_seq ?_
  refine cd_cond rfl (fun hb1 => ?_) (fun hb1 => ?_)
  · have hp1 := hb1
    (try simp only [decide_eq_true_eq, decide_eq_false_iff_not, Bool.not_eq_true', Bool.not_eq_false', ne_eq, Decidable.not_not] at hp1)
    have hi1 : i < Y.length := by omega
    have hML := low_take_lt Y i
    have hst := low_step Y i hi1
    refine cd_skip ?_
    refine px_then ?_
    refine cd_seq ?_
    refine cd_block ?_
    refine cd_sr ?_   -- 5
    refine ol_q (wn_none rfl) (op_move (v := .int _ _) rfl) rfl ?_
    refine ol_q (wn_none rfl) (op_index _ sB_41 rfl rfl rfl (rds_row 1 rfl rfl) rfl (by omega)) rfl ?_
    refine ol_q (wn_none rfl) (op_ldw sc_4 (rds_row 1 rfl rfl) rfl (by omega) rfl) rfl ?_
    refine ol_q (wn_none rfl) (op_assign (v := .int _ _) rfl) rfl ?_
    refine ol_q (wn_none rfl) (op_assign (v := .bool _) rfl) rfl ?_
    refine ol_nil_then ?_
    refine cd_seq ?_
    refine cd_sr ?_   -- 6
    refine ol_q (wn_none rfl) (op_move (v := .int _ _) rfl) rfl ?_
    refine ol_q (wn_none rfl) (op_remn (A := i) (C := 8) rfl rfl (by decide)) rfl ?_
    refine ol_q (wn_none rfl) (op_eq rfl rfl) rfl ?_
    refine ol_nil_then ?_
    refine cd_cond rfl (fun hb2 => ?_) (fun hb2 => ?_)
    · have hp2 := hb2
      (try simp only [decide_eq_true_eq, decide_eq_false_iff_not, Bool.not_eq_true', Bool.not_eq_false', ne_eq, Decidable.not_not] at hp2)
      have hgr := putB_grow (low (Y.take i)) i hML (by omega)
      refine cd_region ?_   -- 7
      refine ol_q (wn_none rfl) (op_move (v := .slice _ _ _) rfl) rfl ?_
      refine ol_i (wn_none rfl) (os_bslice (E := encU8) [_] (ys := [0]) sB_55 zv_5 rfl rfl rfl rfl (by decide)) rfl ?_; rintro _ _ ⟨ao5, rfl, rfl⟩
      refine ol_pull1 ?_
      refine ol_i (wn_none rfl) (os_append (E := encU8) rfl sB_55 zv_5 rfl rfl rfl (fun w s => (rds_row 1 rfl rfl) [] w s) rfl (by rw [hG]; simp only [List.length_cons, List.length_nil]; omega) (by rw [hG]; unfold maxLen; simp only [List.length_cons, List.length_nil]; omega)) rfl ?_; rintro _ _ ⟨ao6, ac6, rfl, rfl⟩; rw [hgr]
      refine ol_q (wn_none rfl) (op_assign (v := .slice _ _ _) rfl) rfl ?_
      refine ol_nil ?_
      refine px_then ?_
      refine cd_sr ?_   -- 8
      refine ol_q (wn_none rfl) (op_move (v := .bool _) rfl) rfl ?_
      refine ol_nil_then ?_
      refine cd_cond rfl (fun hb3 => ?_) (fun hb3 => ?_)
      · have hp3 := hb3
        (try simp only [decide_eq_true_eq, decide_eq_false_iff_not, Bool.not_eq_true', Bool.not_eq_false', ne_eq, Decidable.not_not] at hp3)
        rw [if_pos hb3] at hst
        have hpa := put_add (low (Y.take i)) (i / 8 + 1) i (by omega) hML (by rw [hG]; omega)
        rw [← hst] at hpa
        have hfin : putB (low (Y.take (i + 1))) (i / 8 + 1) = putB (low (Y.take (i + 1))) ((i + 1 + 7) / 8) := by rw [show (i + 1 + 7) / 8 = i / 8 + 1 by omega]
        refine cd_sr ?_   -- 9
        refine ol_q (wn_none rfl) (op_assign (v := .int _ _) rfl) rfl ?_
        refine ol_nil_then ?_
        refine cd_seq ?_
        refine cd_sr ?_   -- 10
        refine ol_q (wn_none rfl) (op_assign (v := .int _ _) rfl) rfl ?_
        refine ol_nil_then ?_
        refine cd_block ?_
        refine cd_loop (α := Nat) (fun k => [(3, .slice ao4 Y.length ac4), (4, .slice ao6 (putB (low (Y.take (i))) (i / 8 + 1)).length ac6), (5, .int .i64 i), (7, .int .i64 (2 ^ k : Nat)), (8, .int .i64 k), (14, .slice ao4 Y.length ac4), (15, .int .i64 Y.length), (16, .int .i64 i)]) (fun k => Row 5 encU8 (.slice ao6 (putB (low (Y.take (i))) (i / 8 + 1)).length ac6) (putB (low (Y.take (i))) (i / 8 + 1)) :: Row 4 encBool (.slice ao4 Y.length ac4) Y :: l) (fun k => k ≤ i % 8) (fun k => i % 8 - k) 0 (Nat.zero_le _) ⟨rfl, rfl, rfl, rfl, rfl, rfl, rfl, rfl, trivial⟩ (fun _ s => (s.del 1)) ?_
        intro k hk f; (try dsimp only at hk ⊢)
        refine cd_seq ?_
        refine cd_sr ?_   -- 11
        refine ol_q (wn_none rfl) (op_move (v := .int _ _) rfl) rfl ?_
        refine ol_q (wn_none rfl) (op_move (v := .int _ _) rfl) rfl ?_
        refine ol_q (wn_none rfl) (op_remn (A := i) (C := 8) rfl rfl (by decide)) rfl ?_
        refine ol_q (wn_none rfl) (op_lt rfl rfl) rfl ?_
        refine ol_nil_then ?_
        refine cd_cond rfl (fun hb4 => ?_) (fun hb4 => ?_)
        · have hp4 := hb4
          (try simp only [decide_eq_true_eq, decide_eq_false_iff_not, Bool.not_eq_true', Bool.not_eq_false', ne_eq, Decidable.not_not] at hp4)
          have hk8 : 2 ^ k ≤ 128 := Nat.pow_le_pow_right (show 0 < 2 by decide) (show k ≤ 7 by omega)
          have hk0 : (0 : Int) ≤ ((2 ^ k : Nat) : Int) := Int.natCast_nonneg _
          refine cd_skip ?_
          refine px_then ?_
          refine cd_seq ?_
          refine cd_block ?_
          refine cd_region ?_   -- 13
          refine ol_q (wn_none rfl) (op_move (v := .int _ _) rfl) rfl ?_
          refine ol_q (wn_none rfl) (op_mul rfl rfl (by omega) (by omega)) rfl ?_
          refine ol_q (wn_none rfl) (op_assign (v := .int _ _) rfl) rfl ?_
          refine ol_nil ?_
          refine px_blockN ?_
          refine px_then ?_
          refine cd_region ?_   -- 12
          refine ol_q (wn_none rfl) (op_move (v := .int _ _) rfl) rfl ?_
          refine ol_q (wn_none rfl) (op_add rfl rfl (by omega) (by omega)) rfl ?_
          refine ol_q (wn_none rfl) (op_assign (v := .int _ _) rfl) rfl ?_
          refine ol_nil ?_
          exact px_loop (k + 1) (by omega) (by omega) ⟨rfl, rfl, rfl, congrArg (Value.int .i64) (by rw [Nat.pow_succ]; omega), congrArg (Value.int .i64) (by simp), rfl, rfl, rfl, trivial⟩ (fun _ s => s)
        · have hp4 := hb4
          (try simp only [decide_eq_true_eq, decide_eq_false_iff_not, Bool.not_eq_true', Bool.not_eq_false', ne_eq, Decidable.not_not] at hp4)
          have e : k = i % 8 := by omega
          subst e
          refine cd_exit ?_
          refine px_thenE ?_
          refine px_thenE ?_
          refine px_blockE ?_
          refine px_then ?_
          refine cd_region ?_   -- 14
          refine ol_q (wn_none rfl) (op_move (v := .slice _ _ _) rfl) rfl ?_
          refine ol_q (wn_none rfl) (op_move (v := .slice _ _ _) rfl) rfl ?_
          refine ol_q (wn_none rfl) (op_len_slice Try.underlying55 rfl) rfl ?_
          refine ol_q (wn_none rfl) (op_sub rfl rfl (by rw [hG]; omega) (by rw [hG]; omega)) rfl ?_
          refine ol_q (wn_none rfl) (op_move (v := .slice _ _ _) rfl) rfl ?_
          refine ol_q (wn_none rfl) (op_move (v := .slice _ _ _) rfl) rfl ?_
          refine ol_q (wn_none rfl) (op_len_slice Try.underlying55 rfl) rfl ?_
          refine ol_q (wn_none rfl) (op_sub rfl rfl (by rw [hG]; omega) (by rw [hG]; omega)) rfl ?_
          refine ol_q (wn_none rfl) (op_index (i / 8) sB_55 rfl rfl (by rw [hG]; omega) (rds_row 0 rfl rfl) rfl (by rw [hG]; omega)) rfl ?_
          refine ol_q (wn_none rfl) (op_ldw sc_5 (rds_row 0 rfl rfl) rfl (by rw [hG]; omega) rfl) rfl ?_
          refine ol_q (wn_none rfl) (op_move (v := .int _ _) rfl) rfl ?_
          refine ol_q (wn_none rfl) (op_conv8 Try.underlying5 (by rw [Try.underlying3]; rfl) rfl) rfl ?_
          refine ol_q (wn_none rfl) (op_add8 _ _ rfl rfl) rfl ?_
          refine ol_q (wn_none rfl) (op_index (i / 8) sB_55 rfl rfl (by rw [hG]; omega) (rds_row 0 rfl rfl) rfl (by rw [hG]; omega)) rfl ?_
          refine ol_iN (wn_none rfl) (os_stsw  sc_5 rfl rfl rfl (by rw [hG]; omega) rfl rfl) ?_; rintro _ _ ⟨rfl, rfl⟩
          refine ol_nil ?_
          refine px_blockN ?_
          refine px_then ?_
          refine cd_region ?_   -- 15
          refine ol_q (wn_none rfl) (op_add rfl rfl (by omega) (by omega)) rfl ?_
          refine ol_q (wn_none rfl) (op_move (v := .int _ _) rfl) rfl ?_
          refine ol_nil ?_
          have hlen : (putB (low (Y.take i)) (i / 8 + 1)).length = (putB (low (Y.take (i + 1))) ((i + 1 + 7) / 8)).length := by rw [hG, hG]; omega
          exact px_loop (i + 1, ao6, ac6) (by dsimp only; omega) (by dsimp only; omega) ⟨rfl, congrArg (fun q => Value.slice ao6 q ac6) hlen, rfl, rfl, congrArg (Value.int .i64) (by simp), trivial⟩ (fun _ s => by rw [hpa, hlen, hfin] at s; exact s)
      · have hp3 := hb3
        (try simp only [decide_eq_true_eq, decide_eq_false_iff_not, Bool.not_eq_true', Bool.not_eq_false', ne_eq, Decidable.not_not] at hp3)
        rw [if_neg (by simp [hb3])] at hst
        have hfin : putB (low (Y.take i)) (i / 8 + 1) = putB (low (Y.take (i + 1))) ((i + 1 + 7) / 8) := by rw [show (i + 1 + 7) / 8 = i / 8 + 1 by omega, hst]
        refine cd_skip ?_
        refine px_blockN ?_
        refine px_then ?_
        refine cd_region ?_   -- 15
        refine ol_q (wn_none rfl) (op_add rfl rfl (by omega) (by omega)) rfl ?_
        refine ol_q (wn_none rfl) (op_move (v := .int _ _) rfl) rfl ?_
        refine ol_nil ?_
        have hlen : (putB (low (Y.take i)) (i / 8 + 1)).length = (putB (low (Y.take (i + 1))) ((i + 1 + 7) / 8)).length := by rw [hG, hG]; omega
        exact px_loop (i + 1, ao6, ac6) (by dsimp only; omega) (by dsimp only; omega) ⟨rfl, congrArg (fun q => Value.slice ao6 q ac6) hlen, rfl, rfl, congrArg (Value.int .i64) (by simp), trivial⟩ (fun _ s => by rw [hfin] at s; exact (s.del 1))
    · have hp2 := hb2
      (try simp only [decide_eq_true_eq, decide_eq_false_iff_not, Bool.not_eq_true', Bool.not_eq_false', ne_eq, Decidable.not_not] at hp2)
      have hgr : (i + 7) / 8 = i / 8 + 1 := by omega
      rw [hgr]
      refine cd_skip ?_
      refine px_then ?_
      refine cd_sr ?_   -- 8
      refine ol_q (wn_none rfl) (op_move (v := .bool _) rfl) rfl ?_
      refine ol_nil_then ?_
      refine cd_cond rfl (fun hb5 => ?_) (fun hb5 => ?_)
      · have hp5 := hb5
        (try simp only [decide_eq_true_eq, decide_eq_false_iff_not, Bool.not_eq_true', Bool.not_eq_false', ne_eq, Decidable.not_not] at hp5)
        rw [if_pos hb5] at hst
        have hpa := put_add (low (Y.take i)) (i / 8 + 1) i (by omega) hML (by rw [hG]; omega)
        rw [← hst] at hpa
        have hfin : putB (low (Y.take (i + 1))) (i / 8 + 1) = putB (low (Y.take (i + 1))) ((i + 1 + 7) / 8) := by rw [show (i + 1 + 7) / 8 = i / 8 + 1 by omega]
        refine cd_sr ?_   -- 9
        refine ol_q (wn_none rfl) (op_assign (v := .int _ _) rfl) rfl ?_
        refine ol_nil_then ?_
        refine cd_seq ?_
        refine cd_sr ?_   -- 10
        refine ol_q (wn_none rfl) (op_assign (v := .int _ _) rfl) rfl ?_
        refine ol_nil_then ?_
        refine cd_block ?_
        refine cd_loop (α := Nat) (fun k => [(3, .slice ao4 Y.length ac4), (4, .slice v1 (putB (low (Y.take (i))) (i / 8 + 1)).length v2), (5, .int .i64 i), (7, .int .i64 (2 ^ k : Nat)), (8, .int .i64 k), (14, .slice ao4 Y.length ac4), (15, .int .i64 Y.length), (16, .int .i64 i)]) (fun k => Row 5 encU8 (.slice v1 (putB (low (Y.take (i))) (i / 8 + 1)).length v2) (putB (low (Y.take (i))) (i / 8 + 1)) :: Row 4 encBool (.slice ao4 Y.length ac4) Y :: l) (fun k => k ≤ i % 8) (fun k => i % 8 - k) 0 (Nat.zero_le _) ⟨rfl, rfl, rfl, rfl, rfl, rfl, rfl, rfl, trivial⟩ (fun _ s => s) ?_
        intro k hk f; (try dsimp only at hk ⊢)
        refine cd_seq ?_
        refine cd_sr ?_   -- 11
        refine ol_q (wn_none rfl) (op_move (v := .int _ _) rfl) rfl ?_
        refine ol_q (wn_none rfl) (op_move (v := .int _ _) rfl) rfl ?_
        refine ol_q (wn_none rfl) (op_remn (A := i) (C := 8) rfl rfl (by decide)) rfl ?_
        refine ol_q (wn_none rfl) (op_lt rfl rfl) rfl ?_
        refine ol_nil_then ?_
        refine cd_cond rfl (fun hb6 => ?_) (fun hb6 => ?_)
        · have hp6 := hb6
          (try simp only [decide_eq_true_eq, decide_eq_false_iff_not, Bool.not_eq_true', Bool.not_eq_false', ne_eq, Decidable.not_not] at hp6)
          have hk8 : 2 ^ k ≤ 128 := Nat.pow_le_pow_right (show 0 < 2 by decide) (show k ≤ 7 by omega)
          have hk0 : (0 : Int) ≤ ((2 ^ k : Nat) : Int) := Int.natCast_nonneg _
          refine cd_skip ?_
          refine px_then ?_
          refine cd_seq ?_
          refine cd_block ?_
          refine cd_region ?_   -- 13
          refine ol_q (wn_none rfl) (op_move (v := .int _ _) rfl) rfl ?_
          refine ol_q (wn_none rfl) (op_mul rfl rfl (by omega) (by omega)) rfl ?_
          refine ol_q (wn_none rfl) (op_assign (v := .int _ _) rfl) rfl ?_
          refine ol_nil ?_
          refine px_blockN ?_
          refine px_then ?_
          refine cd_region ?_   -- 12
          refine ol_q (wn_none rfl) (op_move (v := .int _ _) rfl) rfl ?_
          refine ol_q (wn_none rfl) (op_add rfl rfl (by omega) (by omega)) rfl ?_
          refine ol_q (wn_none rfl) (op_assign (v := .int _ _) rfl) rfl ?_
          refine ol_nil ?_
          exact px_loop (k + 1) (by omega) (by omega) ⟨rfl, rfl, rfl, congrArg (Value.int .i64) (by rw [Nat.pow_succ]; omega), congrArg (Value.int .i64) (by simp), rfl, rfl, rfl, trivial⟩ (fun _ s => s)
        · have hp6 := hb6
          (try simp only [decide_eq_true_eq, decide_eq_false_iff_not, Bool.not_eq_true', Bool.not_eq_false', ne_eq, Decidable.not_not] at hp6)
          have e : k = i % 8 := by omega
          subst e
          refine cd_exit ?_
          refine px_thenE ?_
          refine px_thenE ?_
          refine px_blockE ?_
          refine px_then ?_
          refine cd_region ?_   -- 14
          refine ol_q (wn_none rfl) (op_move (v := .slice _ _ _) rfl) rfl ?_
          refine ol_q (wn_none rfl) (op_move (v := .slice _ _ _) rfl) rfl ?_
          refine ol_q (wn_none rfl) (op_len_slice Try.underlying55 rfl) rfl ?_
          refine ol_q (wn_none rfl) (op_sub rfl rfl (by rw [hG]; omega) (by rw [hG]; omega)) rfl ?_
          refine ol_q (wn_none rfl) (op_move (v := .slice _ _ _) rfl) rfl ?_
          refine ol_q (wn_none rfl) (op_move (v := .slice _ _ _) rfl) rfl ?_
          refine ol_q (wn_none rfl) (op_len_slice Try.underlying55 rfl) rfl ?_
          refine ol_q (wn_none rfl) (op_sub rfl rfl (by rw [hG]; omega) (by rw [hG]; omega)) rfl ?_
          refine ol_q (wn_none rfl) (op_index (i / 8) sB_55 rfl rfl (by rw [hG]; omega) (rds_row 0 rfl rfl) rfl (by rw [hG]; omega)) rfl ?_
          refine ol_q (wn_none rfl) (op_ldw sc_5 (rds_row 0 rfl rfl) rfl (by rw [hG]; omega) rfl) rfl ?_
          refine ol_q (wn_none rfl) (op_move (v := .int _ _) rfl) rfl ?_
          refine ol_q (wn_none rfl) (op_conv8 Try.underlying5 (by rw [Try.underlying3]; rfl) rfl) rfl ?_
          refine ol_q (wn_none rfl) (op_add8 _ _ rfl rfl) rfl ?_
          refine ol_q (wn_none rfl) (op_index (i / 8) sB_55 rfl rfl (by rw [hG]; omega) (rds_row 0 rfl rfl) rfl (by rw [hG]; omega)) rfl ?_
          refine ol_iN (wn_none rfl) (os_stsw  sc_5 rfl rfl rfl (by rw [hG]; omega) rfl rfl) ?_; rintro _ _ ⟨rfl, rfl⟩
          refine ol_nil ?_
          refine px_blockN ?_
          refine px_then ?_
          refine cd_region ?_   -- 15
          refine ol_q (wn_none rfl) (op_add rfl rfl (by omega) (by omega)) rfl ?_
          refine ol_q (wn_none rfl) (op_move (v := .int _ _) rfl) rfl ?_
          refine ol_nil ?_
          have hlen : (putB (low (Y.take i)) (i / 8 + 1)).length = (putB (low (Y.take (i + 1))) ((i + 1 + 7) / 8)).length := by rw [hG, hG]; omega
          exact px_loop (i + 1, v1, v2) (by dsimp only; omega) (by dsimp only; omega) ⟨rfl, congrArg (fun q => Value.slice v1 q v2) hlen, rfl, rfl, congrArg (Value.int .i64) (by simp), trivial⟩ (fun _ s => by rw [hpa, hlen, hfin] at s; exact s)
      · have hp5 := hb5
        (try simp only [decide_eq_true_eq, decide_eq_false_iff_not, Bool.not_eq_true', Bool.not_eq_false', ne_eq, Decidable.not_not] at hp5)
        rw [if_neg (by simp [hb5])] at hst
        have hfin : putB (low (Y.take i)) (i / 8 + 1) = putB (low (Y.take (i + 1))) ((i + 1 + 7) / 8) := by rw [show (i + 1 + 7) / 8 = i / 8 + 1 by omega, hst]
        refine cd_skip ?_
        refine px_blockN ?_
        refine px_then ?_
        refine cd_region ?_   -- 15
        refine ol_q (wn_none rfl) (op_add rfl rfl (by omega) (by omega)) rfl ?_
        refine ol_q (wn_none rfl) (op_move (v := .int _ _) rfl) rfl ?_
        refine ol_nil ?_
        have hlen : (putB (low (Y.take i)) (i / 8 + 1)).length = (putB (low (Y.take (i + 1))) ((i + 1 + 7) / 8)).length := by rw [hG, hG]; omega
        exact px_loop (i + 1, v1, v2) (by dsimp only; omega) (by dsimp only; omega) ⟨rfl, congrArg (fun q => Value.slice v1 q v2) hlen, rfl, rfl, congrArg (Value.int .i64) (by simp), trivial⟩ (fun _ s => by rw [hfin] at s; exact s)
  · have hp1 := hb1
    (try simp only [decide_eq_true_eq, decide_eq_false_iff_not, Bool.not_eq_true', Bool.not_eq_false', ne_eq, Decidable.not_not] at hp1)
    have e : i = Y.length := by omega
    subst e
    rw [List.take_length]
    refine cd_exit ?_
    refine px_thenE ?_
    refine px_thenE ?_
    refine px_blockE ?_
    refine px_then ?_
    refine cd_sr ?_   -- 16
    refine ol_q (wn_none rfl) (op_move (v := .slice _ _ _) rfl) rfl ?_
    refine ol_q (wn_none rfl) (op_b2s sB_55 Try.underlying5 Try.underlying9 rfl (rds_row 0 rfl rfl) rfl) rfl ?_
    refine ol_q (wn_none rfl) (op_assign (v := .string _) rfl) rfl ?_
    refine ol_nil_then ?_
    refine cd_ret ?_
    exact px_ret1 rfl (v := .string _) rfl (fun _ s => ((s.del 1).del 0)) ⟨congrArg Value.string (congrArg B (by rw [hY, hYe]; unfold enc8 num; rw [List.nil_append, low_snoc, show (xs.length + 1 + 7) / 8 = xs.length / 8 + 1 by omega]; simp)), rfl⟩

set_option maxRecDepth 100000 in
set_option maxHeartbeats 1000000 in
theorem RefGet_calls {w0 w : World} {l : List HProp} (s : List UInt8) (most : Int) (hs : Sat w0 w (l)) (hs1 : s.length ≤ 1000) :
    Calls Try.prog 52 #[.string (B s), .int .i64 most] w (Ret w0 fun v l' => ∃ row ao c, v = .tuple #[.slice ao (List.length row) c, .bool (getB s most).isSome] ∧ l' = Row 4 encBool (.slice ao (List.length row) c) row :: l ∧ ((getB s most).isSome = true → row = getD' s most)) := by
  have hLn : ∀ n, (bitsOf (leNat s) n).length = n := fun n => bitsOf_length _ _
  refine calls_enter Try.func52 rfl rfl rfl hs ?_
  refine cd_sr ?_   -- 0
  refine ol_q (wn_none rfl) (op_assign (v := .slice _ _ _) rfl) rfl ?_
  refine ol_q (wn_none rfl) (op_assign (v := .bool _) rfl) rfl ?_
  refine ol_nil_then ?_
  refine cd_sr ?_   -- 1
  refine ol_q (wn_none rfl) (op_assign (v := .slice _ _ _) rfl) rfl ?_
  refine ol_nil_then ?_
  refine cd_seq ?_
  refine cd_sr ?_   -- 2
  refine ol_q (wn_none rfl) (op_assign (v := .int _ _) rfl) rfl ?_
  refine ol_nil_then ?_
  refine cd_block ?_
  refine cd_loop (α := Nat × Option Addr × Nat) (fun x => [(0, .string (B s)), (1, .int .i64 most), (6, .slice x.2.1 (bitsOf (leNat s) (8 * x.1)).length x.2.2), (7, .int .i64 x.1)]) (fun x => Row 4 encBool (.slice x.2.1 (bitsOf (leNat s) (8 * x.1)).length x.2.2) (bitsOf (leNat s) (8 * x.1)) :: l) (fun x => x.1 ≤ s.length) (fun x => s.length - x.1) (0, none, 0) (Nat.zero_le _) ⟨rfl, rfl, rfl, rfl, trivial⟩ (fun _ s => s.rowNil) ?_
  rintro ⟨i, v1, v2⟩ hi f; (try dsimp only at hi ⊢)
  refine cd_seq ?_
  refine cd_sr ?_   -- 3
  refine ol_q (wn_none rfl) (op_move (v := .int _ _) rfl) rfl ?_
  refine ol_q (wn_none rfl) (op_move (v := .string _) rfl) rfl ?_
  refine ol_q (wn_none rfl) (op_len_string Try.underlying9 rfl) rfl ?_
  refine ol_q (wn_none rfl) (op_lt rfl rfl) rfl ?_
  refine ol_nil_then ?_
  refine cd_cond rfl (fun hb1 => ?_) (fun hb1 => ?_)
  · have hp1 := hb1
    (try simp only [decide_eq_true_eq, decide_eq_false_iff_not, Bool.not_eq_true', Bool.not_eq_false', ne_eq, Decidable.not_not] at hp1)
    have hi1 : i < s.length := by omega
    refine cd_skip ?_
    refine px_then ?_
    refine cd_seq ?_
    refine cd_block ?_
    refine cd_sr ?_   -- 5
    refine ol_q (wn_none rfl) (op_move (v := .string _) rfl) rfl ?_
    refine ol_q (wn_none rfl) (op_move (v := .int _ _) rfl) rfl ?_
    refine ol_q (wn_none rfl) (op_sidx i Try.underlying9 rfl rfl (by first | rfl | omega) (by omega)) rfl ?_
    refine ol_q (wn_none rfl) (op_convint Try.underlying3 (by rw [Try.underlying5]; rfl) rfl (Nat.lt_of_lt_of_le (UInt8.toNat_lt _) (by decide))) rfl ?_
    refine ol_q (wn_none rfl) (op_assign (v := .int _ _) rfl) rfl ?_
    refine ol_nil_then ?_
    refine cd_sr ?_   -- 6
    refine ol_q (wn_none rfl) (op_assign (v := .int _ _) rfl) rfl ?_
    refine ol_nil_then ?_
    refine cd_block ?_
    refine cd_loop (α := Nat × Option Addr × Nat) (fun x => [(0, .string (B s)), (1, .int .i64 most), (6, .slice x.2.1 (bitsOf (leNat s) (8 * i + x.1)).length x.2.2), (7, .int .i64 i), (8, .int .i64 ((s.getD i 0).toNat / 2 ^ x.1 : Nat)), (9, .int .i64 x.1)]) (fun x => Row 4 encBool (.slice x.2.1 (bitsOf (leNat s) (8 * i + x.1)).length x.2.2) (bitsOf (leNat s) (8 * i + x.1)) :: l) (fun x => x.1 ≤ 8) (fun x => 8 - x.1) (0, v1, v2) (Nat.zero_le _) ⟨rfl, rfl, rfl, rfl, congrArg (Value.int .i64) (by simp), rfl, trivial⟩ (fun _ s => s) ?_
    rintro ⟨k, v3, v4⟩ hk f; (try dsimp only at hk ⊢)
    refine cd_seq ?_
    refine cd_sr ?_   -- 7
    refine ol_q (wn_none rfl) (op_move (v := .int _ _) rfl) rfl ?_
    refine ol_q (wn_none rfl) (op_lt rfl rfl) rfl ?_
    refine ol_nil_then ?_
    refine cd_cond rfl (fun hb2 => ?_) (fun hb2 => ?_)
    · have hp2 := hb2
      (try simp only [decide_eq_true_eq, decide_eq_false_iff_not, Bool.not_eq_true', Bool.not_eq_false', ne_eq, Decidable.not_not] at hp2)
      have hk1 : k < 8 := by omega
      have hbb : bitsOf (leNat s) (8 * i + k) ++ [decide ((((s.getD i 0).toNat / 2 ^ k % 2 : Nat) : Int) = 1)] = bitsOf (leNat s) (8 * i + k + 1) := by
        rw [bitsOf, bit_of, show (8 * i + k) / 8 = i by omega, show (8 * i + k) % 8 = k by omega]
        congr 3
        exact propext (by omega)
      refine cd_skip ?_
      refine px_then ?_
      refine cd_seq ?_
      refine cd_block ?_
      refine cd_sr ?_   -- 9
      refine ol_q (wn_none rfl) (op_move (v := .slice _ _ _) rfl) rfl ?_
      refine ol_q (wn_none rfl) (op_move (v := .int _ _) rfl) rfl ?_
      refine ol_q (wn_none rfl) (op_remn (A := (s.getD i 0).toNat / 2 ^ k) (C := 2) rfl rfl (by decide)) rfl ?_
      refine ol_q (wn_none rfl) (op_eq rfl rfl) rfl ?_
      refine ol_i (wn_none rfl) (os_bslice (E := encBool) [_] (ys := [_]) sB_41 zv_4 rfl rfl rfl rfl (by decide)) rfl ?_; rintro _ _ ⟨ao1, rfl, rfl⟩
      refine ol_pull1 ?_
      refine ol_i (wn_none rfl) (os_append (E := encBool) rfl sB_41 zv_4 rfl rfl rfl (fun w s => (rds_row 1 rfl rfl) [] w s) rfl (by rw [hLn]; simp; omega) (by rw [hLn]; unfold maxLen; simp; omega)) rfl ?_; rintro _ _ ⟨ao2, ac2, rfl, rfl⟩; rw [hbb]
      refine ol_q (wn_none rfl) (op_assign (v := .slice _ _ _) rfl) rfl ?_
      refine ol_nil_then ?_
      refine cd_region ?_   -- 10
      refine ol_q (wn_none rfl) (op_move (v := .int _ _) rfl) rfl ?_
      refine ol_q (wn_none rfl) (op_quonk (A := (s.getD i 0).toNat / 2 ^ k) (C := 2) rfl rfl (by decide) (Nat.lt_of_le_of_lt (Nat.div_le_self _ _) (Nat.lt_of_lt_of_le (UInt8.toNat_lt _) (by decide)))) rfl ?_
      refine ol_q (wn_none rfl) (op_assign (v := .int _ _) rfl) rfl ?_
      refine ol_nil ?_
      refine px_blockN ?_
      refine px_then ?_
      refine cd_region ?_   -- 8
      refine ol_q (wn_none rfl) (op_move (v := .int _ _) rfl) rfl ?_
      refine ol_q (wn_none rfl) (op_add rfl rfl (by omega) (by omega)) rfl ?_
      refine ol_q (wn_none rfl) (op_assign (v := .int _ _) rfl) rfl ?_
      refine ol_nil ?_
      exact px_loop (k + 1, ao2, ac2) (by dsimp only; omega) (by dsimp only; omega) ⟨rfl, rfl, rfl, rfl, congrArg (Value.int .i64) (by rw [Nat.pow_succ, ← Nat.div_div_eq_div_mul]), congrArg (Value.int .i64) (by simp), trivial⟩ (fun _ s => (s.del 1))
    · have hp2 := hb2
      (try simp only [decide_eq_true_eq, decide_eq_false_iff_not, Bool.not_eq_true', Bool.not_eq_false', ne_eq, Decidable.not_not] at hp2)
      have e : k = 8 := by omega
      subst e
      refine cd_exit ?_
      refine px_thenE ?_
      refine px_thenE ?_
      refine px_blockE ?_
      refine px_blockN ?_
      refine px_then ?_
      refine cd_region ?_   -- 4
      refine ol_q (wn_none rfl) (op_move (v := .int _ _) rfl) rfl ?_
      refine ol_q (wn_none rfl) (op_add rfl rfl (by omega) (by omega)) rfl ?_
      refine ol_q (wn_none rfl) (op_assign (v := .int _ _) rfl) rfl ?_
      refine ol_nil ?_
      exact px_loop (i + 1, v3, v4) (by dsimp only; omega) (by dsimp only; omega) ⟨rfl, rfl, rfl, congrArg (Value.int .i64) (by simp), trivial⟩ (fun _ s => s)
  · have hp1 := hb1
    (try simp only [decide_eq_true_eq, decide_eq_false_iff_not, Bool.not_eq_true', Bool.not_eq_false', ne_eq, Decidable.not_not] at hp1)
    have e : i = s.length := by omega
    subst e
    refine cd_exit ?_
    refine px_thenE ?_
    refine px_thenE ?_
    refine px_blockE ?_
    refine px_then ?_
    refine cd_seq ?_
    refine cd_sr ?_   -- 11
    refine ol_q (wn_none rfl) (op_move (v := .slice _ _ _) rfl) rfl ?_
    refine ol_q (wn_none rfl) (op_len_slice Try.underlying41 rfl) rfl ?_
    refine ol_q (wn_none rfl) (op_sub rfl rfl (by rw [hLn]; omega) (by rw [hLn]; omega)) rfl ?_
    refine ol_q (wn_none rfl) (op_assign (v := .int _ _) rfl) rfl ?_
    refine ol_nil_then ?_
    refine cd_block ?_
    refine cd_loop (α := Nat) (fun j => [(1, .int .i64 most), (6, .slice v1 (bitsOf (leNat s) (8 * s.length)).length v2), (10, .int .i64 ((j : Int) - 1))]) (fun _ => Row 4 encBool (.slice v1 (bitsOf (leNat s) (8 * s.length)).length v2) (bitsOf (leNat s) (8 * s.length)) :: l) (fun j => leNat s < 2 ^ j ∧ j ≤ 8 * s.length ∧ 8 * s.length ≤ j + 8) (fun j => j) (8 * s.length) ⟨by have := leNat_lt s; rw [pow256] at this; exact this, Nat.le_refl _, Nat.le_add_right _ _⟩ ⟨rfl, rfl, congrArg (fun q : Nat => Value.int .i64 ((q : Int) - 1)) (hLn _), trivial⟩ (fun _ s => s) ?_
    rintro j ⟨hj1, hj2, hj3⟩ f; (try dsimp only at hj1 hj2 hj3 ⊢)
    refine cd_seq ?_
    refine cd_sr ?_   -- 12
    refine ol_q (wn_none rfl) (op_move (v := .int _ _) rfl) rfl ?_
    refine ol_q (wn_none rfl) (op_ge rfl rfl) rfl ?_
    refine ol_q (wn_none rfl) (op_move (v := .bool _) rfl) rfl ?_
    refine ol_split 38 rfl (fun hb3 => ?_) (fun hb3 => ?_)
    · have hp3 := hb3
      (try simp only [decide_eq_true_eq, decide_eq_false_iff_not, Bool.not_eq_true', Bool.not_eq_false', ne_eq, Decidable.not_not] at hp3)
      obtain ⟨j, rfl⟩ : ∃ q, j = q + 1 := ⟨j - 1, by omega⟩
      have hL8 := hLn (8 * s.length)
      have hjl : j < (bitsOf (leNat s) (8 * s.length)).length := by rw [hLn]; omega
      refine ol_q (wn_some rfl rfl rfl hb3 rfl) (op_move (v := .int _ _) rfl) rfl ?_
      refine ol_q (wn_some rfl rfl rfl hb3 rfl) (op_move (v := .slice _ _ _) rfl) rfl ?_
      refine ol_q (wn_some rfl rfl rfl hb3 rfl) (op_len_slice Try.underlying41 rfl) rfl ?_
      refine ol_q (wn_some rfl rfl rfl hb3 rfl) (op_sub rfl rfl (by rw [hLn]; omega) (by rw [hLn]; omega)) rfl ?_
      refine ol_q (wn_some rfl rfl rfl hb3 rfl) (op_ge rfl rfl) rfl ?_
      refine ol_q (wn_none rfl) (op_pick_t (v := .bool _) rfl hb3 rfl) rfl ?_
      refine ol_nil_then ?_
      refine cd_cond rfl (fun hb4 => ?_) (fun hb4 => ?_)
      · have hp4 := hb4
        (try simp only [decide_eq_true_eq, decide_eq_false_iff_not, Bool.not_eq_true', Bool.not_eq_false', ne_eq, Decidable.not_not] at hp4)
        refine cd_skip ?_
        refine px_then ?_
        refine cd_seq ?_
        refine cd_block ?_
        refine cd_sr ?_   -- 14
        refine ol_q (wn_none rfl) (op_move (v := .slice _ _ _) rfl) rfl ?_
        refine ol_q (wn_none rfl) (op_move (v := .int _ _) rfl) rfl ?_
        refine ol_q (wn_none rfl) (op_index j sB_41 rfl rfl (by omega) (rds_row 0 rfl rfl) rfl (by rw [hLn]; omega)) rfl ?_
        refine ol_q (wn_none rfl) (op_ldw sc_4 (rds_row 0 rfl rfl) rfl (by rw [hLn]; omega) rfl) rfl ?_
        refine ol_nil_then ?_
        refine cd_cond rfl (fun hb5 => ?_) (fun hb5 => ?_)
        · have hp5 := hb5
          (try simp only [decide_eq_true_eq, decide_eq_false_iff_not, Bool.not_eq_true', Bool.not_eq_false', ne_eq, Decidable.not_not] at hp5)
          obtain ⟨hth, htg⟩ := top_here (s := s) (j := j) most hj1 (by rw [← bitsOf_get _ _ _ hjl]; exact hp5) (by omega) (by omega)
          refine cd_sr ?_   -- 15
          refine ol_q (wn_none rfl) (op_move (v := .slice _ _ _) rfl) rfl ?_
          refine ol_q (wn_none rfl) (op_move (v := .int _ _) rfl) rfl ?_
          refine ol_i (wn_none rfl) (os_slicerow_to j sB_41 rfl rfl (by omega) rfl (by rw [hLn]; omega)) rfl ?_; rintro _ _ ⟨rfl, rfl⟩
          refine ol_q (wn_none rfl) (op_move (v := .int _ _) rfl) rfl ?_
          refine ol_q (wn_none rfl) (op_move (v := .int _ _) rfl) rfl ?_
          refine ol_q (wn_none rfl) (op_le rfl rfl) rfl ?_
          refine ol_q (wn_none rfl) (op_assign (v := .slice _ _ _) rfl) rfl ?_
          refine ol_q (wn_none rfl) (op_assign (v := .bool _) rfl) rfl ?_
          refine ol_nil_then ?_
          refine cd_ret ?_
          refine px_blockR ?_
          refine px_thenR ?_
          refine px_thenR ?_
          refine px_blockR ?_
          refine px_thenR ?_
          exact px_ret2 rfl (v1 := .slice _ _ _) (v2 := .bool _) rfl rfl (fun _ s => s) ⟨_, _, _, by rw [hth, show ((j + 1 : Nat) : Int) - 1 = (j : Int) by omega], rfl, fun h => by rw [hth] at h; rw [htg (by simpa using h)]; exact bitsOf_take _ _ _ (by omega)⟩
        · have hp5 := hb5
          (try simp only [decide_eq_true_eq, decide_eq_false_iff_not, Bool.not_eq_true', Bool.not_eq_false', ne_eq, Decidable.not_not] at hp5)
          have hdn := top_down (leNat s) j hj1 (by rw [← bitsOf_get _ _ _ hjl]; exact hp5)
          rw [hLn] at *
          refine cd_skip ?_
          refine px_blockN ?_
          refine px_then ?_
          refine cd_region ?_   -- 13
          refine ol_q (wn_none rfl) (op_move (v := .int _ _) rfl) rfl ?_
          refine ol_q (wn_none rfl) (op_sub rfl rfl (by omega) (by omega)) rfl ?_
          refine ol_q (wn_none rfl) (op_assign (v := .int _ _) rfl) rfl ?_
          refine ol_nil ?_
          exact px_loop j ⟨hdn, by omega, by omega⟩ (by omega) ⟨rfl, rfl, congrArg (Value.int .i64) (by omega), trivial⟩ (fun _ s => s)
      · have hp4 := hb4
        (try simp only [decide_eq_true_eq, decide_eq_false_iff_not, Bool.not_eq_true', Bool.not_eq_false', ne_eq, Decidable.not_not] at hp4)
        refine cd_exit ?_
        refine px_thenE ?_
        refine px_thenE ?_
        refine px_blockE ?_
        refine px_then ?_
        refine cd_sr ?_   -- 16
        refine ol_q (wn_none rfl) (op_assign (v := .slice _ _ _) rfl) rfl ?_
        refine ol_q (wn_none rfl) (op_assign (v := .bool _) rfl) rfl ?_
        refine ol_nil_then ?_
        refine cd_ret ?_
        have hnone := top_none most hj1 (by omega) (by omega)
        exact px_ret2 rfl (v1 := .slice none 0 0) (v2 := .bool false) rfl rfl (l' := Row 4 encBool (.slice none ([] : List Bool).length 0) [] :: l) (fun _ s' => Sat.rowNil (s'.del 0)) ⟨[], none, 0, by rw [hnone]; rfl, rfl, fun h => by rw [hnone] at h; cases h⟩
    · have hp3 := hb3
      (try simp only [decide_eq_true_eq, decide_eq_false_iff_not, Bool.not_eq_true', Bool.not_eq_false', ne_eq, Decidable.not_not] at hp3)
      refine ol_skip (wn_some rfl rfl rfl hb3 rfl) rfl ?_
      refine ol_skip (wn_some rfl rfl rfl hb3 rfl) rfl ?_
      refine ol_skip (wn_some rfl rfl rfl hb3 rfl) rfl ?_
      refine ol_skip (wn_some rfl rfl rfl hb3 rfl) rfl ?_
      refine ol_skip (wn_some rfl rfl rfl hb3 rfl) rfl ?_
      refine ol_q (wn_none rfl) (op_pick_f (v := .bool _) rfl hb3 rfl) rfl ?_
      refine ol_nil_then ?_
      refine cd_cond_f rfl rfl ?_
      refine cd_exit ?_
      refine px_thenE ?_
      refine px_thenE ?_
      refine px_blockE ?_
      refine px_then ?_
      refine cd_sr ?_   -- 16
      refine ol_q (wn_none rfl) (op_assign (v := .slice _ _ _) rfl) rfl ?_
      refine ol_q (wn_none rfl) (op_assign (v := .bool _) rfl) rfl ?_
      refine ol_nil_then ?_
      refine cd_ret ?_
      have hnone := top_none most hj1 (by omega) (by omega)
      exact px_ret2 rfl (v1 := .slice none 0 0) (v2 := .bool false) rfl rfl (l' := Row 4 encBool (.slice none ([] : List Bool).length 0) [] :: l) (fun _ s' => Sat.rowNil (s'.del 0)) ⟨[], none, 0, by rw [hnone]; rfl, rfl, fun h => by rw [hnone] at h; cases h⟩
end Go.SL

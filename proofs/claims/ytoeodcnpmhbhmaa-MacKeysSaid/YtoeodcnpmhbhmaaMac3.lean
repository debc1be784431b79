import Derived.Test.YtoeodcnpmhbhmaaMac
set_option linter.unusedVariables false
set_option linter.unusedSimpArgs false
namespace Go.SL
open Go.Proofs

set_option maxRecDepth 100000 in
set_option maxHeartbeats 1000000 in
theorem MacKeys_calls {w0 w : World} {l : List HProp} (key : List UInt8) (n : Int) (s : List UInt8) (hs : Sat w0 w (l)) (hk9 : key.length ≤ reachBytes) (hs9 : s.length ≤ reachBytes) :
    Calls Try.prog 7 #[.string (B key), .int .i64 n, .string (B s)] w (Ret w0 fun v l' => v = .bool true ∧ l' = l) := by
  have hrb := reach_lt
  refine calls_enter Try.func7 rfl rfl rfl hs ?_
  refine cd_sr ?_   -- 0
  refine ol_q (wn_none rfl) (op_assign (v := .bool _) rfl) rfl ?_
  refine ol_nil_then ?_
  refine cd_seq ?_
  refine cd_sr ?_   -- 1
  refine ol_i (wn_none rfl) (os_call cb_16 rfl (fun w s => mAlive_calls  s )) rfl ?_; rintro _ l ⟨rfl, rfl⟩
  refine ol_q (wn_none rfl) (op_not rfl) rfl ?_
  refine ol_nil_then ?_
  refine cd_cond_f rfl rfl ?_
  refine cd_skip ?_
  refine px_then ?_
  refine cd_seq ?_
  refine cd_sr ?_   -- 3
  refine ol_q (wn_none rfl) (op_move (v := .string _) rfl) rfl ?_
  refine ol_q (wn_none rfl) (op_len_string Try.underlying9 rfl) rfl ?_
  refine ol_q (wn_none rfl) (op_gt rfl rfl) rfl ?_
  refine ol_q (wn_none rfl) (op_move (v := .bool _) rfl) rfl ?_
  refine ol_split 14 rfl (fun hb1 => ?_) (fun hb1 => ?_)
  · have hp1 := hb1
    (try simp only [decide_eq_true_eq, decide_eq_false_iff_not, Bool.not_eq_true', Bool.not_eq_false', ne_eq, Decidable.not_not] at hp1)
    refine ol_skip (wn_some rfl rfl rfl hb1 rfl) rfl ?_
    refine ol_skip (wn_some rfl rfl rfl hb1 rfl) rfl ?_
    refine ol_q (wn_none rfl) (op_pick_t (v := .bool _) rfl hb1 rfl) rfl ?_
    refine ol_q (wn_none rfl) (op_move (v := .bool _) rfl) rfl ?_
    refine ol_skip (wn_some rfl rfl rfl rfl rfl) rfl ?_
    refine ol_skip (wn_some rfl rfl rfl rfl rfl) rfl ?_
    refine ol_q (wn_none rfl) (op_pick_t (v := .bool _) rfl rfl rfl) rfl ?_
    refine ol_q (wn_none rfl) (op_move (v := .bool _) rfl) rfl ?_
    refine ol_skip (wn_some rfl rfl rfl rfl rfl) rfl ?_
    refine ol_skip (wn_some rfl rfl rfl rfl rfl) rfl ?_
    refine ol_skip (wn_some rfl rfl rfl rfl rfl) rfl ?_
    refine ol_skip (wn_some rfl rfl rfl rfl rfl) rfl ?_
    refine ol_skip (wn_some rfl rfl rfl rfl rfl) rfl ?_
    refine ol_q (wn_none rfl) (op_pick_t (v := .bool _) rfl rfl rfl) rfl ?_
    refine ol_nil_then ?_
    refine cd_cond_t rfl rfl ?_
    refine cd_sr ?_   -- 4
    refine ol_q (wn_none rfl) (op_assign (v := .bool _) rfl) rfl ?_
    refine ol_nil_then ?_
    refine cd_ret ?_
    refine px_thenR ?_
    exact px_ret1 rfl (v := .bool _) rfl (fun _ s => s) ⟨congrArg Value.bool (by first | rfl | (rw [macM_zero (by omega)]; simp)), rfl⟩
  · have hp1 := hb1
    (try simp only [decide_eq_true_eq, decide_eq_false_iff_not, Bool.not_eq_true', Bool.not_eq_false', ne_eq, Decidable.not_not] at hp1)
    refine ol_q (wn_some rfl rfl rfl hb1 rfl) (op_move (v := .int _ _) rfl) rfl ?_
    refine ol_q (wn_some rfl rfl rfl hb1 rfl) (op_lt rfl rfl) rfl ?_
    refine ol_q (wn_none rfl) (op_pick_f (v := .bool _) rfl hb1 rfl) rfl ?_
    refine ol_q (wn_none rfl) (op_move (v := .bool _) rfl) rfl ?_
    refine ol_split 18 rfl (fun hb2 => ?_) (fun hb2 => ?_)
    · have hp2 := hb2
      (try simp only [decide_eq_true_eq, decide_eq_false_iff_not, Bool.not_eq_true', Bool.not_eq_false', ne_eq, Decidable.not_not] at hp2)
      refine ol_skip (wn_some rfl rfl rfl hb2 rfl) rfl ?_
      refine ol_skip (wn_some rfl rfl rfl hb2 rfl) rfl ?_
      refine ol_q (wn_none rfl) (op_pick_t (v := .bool _) rfl hb2 rfl) rfl ?_
      refine ol_q (wn_none rfl) (op_move (v := .bool _) rfl) rfl ?_
      refine ol_skip (wn_some rfl rfl rfl rfl rfl) rfl ?_
      refine ol_skip (wn_some rfl rfl rfl rfl rfl) rfl ?_
      refine ol_skip (wn_some rfl rfl rfl rfl rfl) rfl ?_
      refine ol_skip (wn_some rfl rfl rfl rfl rfl) rfl ?_
      refine ol_skip (wn_some rfl rfl rfl rfl rfl) rfl ?_
      refine ol_q (wn_none rfl) (op_pick_t (v := .bool _) rfl rfl rfl) rfl ?_
      refine ol_nil_then ?_
      refine cd_cond_t rfl rfl ?_
      refine cd_sr ?_   -- 4
      refine ol_q (wn_none rfl) (op_assign (v := .bool _) rfl) rfl ?_
      refine ol_nil_then ?_
      refine cd_ret ?_
      refine px_thenR ?_
      exact px_ret1 rfl (v := .bool _) rfl (fun _ s => s) ⟨congrArg Value.bool (by first | rfl | (rw [macM_zero (by omega)]; simp)), rfl⟩
    · have hp2 := hb2
      (try simp only [decide_eq_true_eq, decide_eq_false_iff_not, Bool.not_eq_true', Bool.not_eq_false', ne_eq, Decidable.not_not] at hp2)
      refine ol_q (wn_some rfl rfl rfl hb2 rfl) (op_move (v := .int _ _) rfl) rfl ?_
      refine ol_q (wn_some rfl rfl rfl hb2 rfl) (op_gt rfl rfl) rfl ?_
      refine ol_q (wn_none rfl) (op_pick_f (v := .bool _) rfl hb2 rfl) rfl ?_
      refine ol_q (wn_none rfl) (op_move (v := .bool _) rfl) rfl ?_
      refine ol_split 22 rfl (fun hb3 => ?_) (fun hb3 => ?_)
      · have hp3 := hb3
        (try simp only [decide_eq_true_eq, decide_eq_false_iff_not, Bool.not_eq_true', Bool.not_eq_false', ne_eq, Decidable.not_not] at hp3)
        refine ol_skip (wn_some rfl rfl rfl hb3 rfl) rfl ?_
        refine ol_skip (wn_some rfl rfl rfl hb3 rfl) rfl ?_
        refine ol_skip (wn_some rfl rfl rfl hb3 rfl) rfl ?_
        refine ol_skip (wn_some rfl rfl rfl hb3 rfl) rfl ?_
        refine ol_skip (wn_some rfl rfl rfl hb3 rfl) rfl ?_
        refine ol_q (wn_none rfl) (op_pick_t (v := .bool _) rfl hb3 rfl) rfl ?_
        refine ol_nil_then ?_
        refine cd_cond_t rfl rfl ?_
        refine cd_sr ?_   -- 4
        refine ol_q (wn_none rfl) (op_assign (v := .bool _) rfl) rfl ?_
        refine ol_nil_then ?_
        refine cd_ret ?_
        refine px_thenR ?_
        exact px_ret1 rfl (v := .bool _) rfl (fun _ s => s) ⟨congrArg Value.bool (by first | rfl | (rw [macM_zero (by omega)]; simp)), rfl⟩
      · have hp3 := hb3
        (try simp only [decide_eq_true_eq, decide_eq_false_iff_not, Bool.not_eq_true', Bool.not_eq_false', ne_eq, Decidable.not_not] at hp3)
        refine ol_q (wn_some rfl rfl rfl hb3 rfl) (op_move (v := .string _) rfl) rfl ?_
        refine ol_q (wn_some rfl rfl rfl hb3 rfl) (op_len_string Try.underlying9 rfl) rfl ?_
        refine ol_q (wn_some rfl rfl rfl hb3 rfl) (op_move (v := .int _ _) rfl) rfl ?_
        refine ol_q (wn_some rfl rfl rfl hb3 rfl) (op_add rfl rfl (by omega) (by omega)) rfl ?_
        refine ol_q (wn_some rfl rfl rfl hb3 rfl) (op_gt rfl rfl) rfl ?_
        refine ol_q (wn_none rfl) (op_pick_f (v := .bool _) rfl hb3 rfl) rfl ?_
        refine ol_nil_then ?_
        refine cd_cond rfl (fun hb4 => ?_) (fun hb4 => ?_)
        · have hp4 := hb4
          (try simp only [decide_eq_true_eq, decide_eq_false_iff_not, Bool.not_eq_true', Bool.not_eq_false', ne_eq, Decidable.not_not] at hp4)
          refine cd_sr ?_   -- 4
          refine ol_q (wn_none rfl) (op_assign (v := .bool _) rfl) rfl ?_
          refine ol_nil_then ?_
          refine cd_ret ?_
          refine px_thenR ?_
          exact px_ret1 rfl (v := .bool _) rfl (fun _ s => s) ⟨congrArg Value.bool (by first | rfl | (rw [macM_zero (by omega)]; simp)), rfl⟩
        · have hp4 := hb4
          (try simp only [decide_eq_true_eq, decide_eq_false_iff_not, Bool.not_eq_true', Bool.not_eq_false', ne_eq, Decidable.not_not] at hp4)
          have hkk : (key.length : Int) + n ≤ 64 := by omega
          refine cd_skip ?_
          refine px_then ?_
          obtain ⟨k, rfl⟩ : ∃ k : Nat, n = (k : Int) := ⟨n.toNat, by omega⟩
          refine cd_sr ?_   -- 5
          refine ol_q (wn_none rfl) (op_move (v := .string _) rfl) rfl ?_
          refine ol_q (wn_none rfl) (op_assign (v := .string _) rfl) rfl ?_
          refine ol_nil_then ?_
          refine cd_seq ?_
          refine cd_sr ?_   -- 6
          refine ol_q (wn_none rfl) (op_assign (v := .int _ _) rfl) rfl ?_
          refine ol_nil_then ?_
          refine cd_block ?_
          refine cd_loop2 (α := Nat) [(7, 8), (30, 36)] (fun x => [(7, .string (B (key ++ List.replicate x 0))), (8, .int .i64 (x : Int))]) (fun _ => _) (fun x => x ≤ k) (fun x => k - x) 0 (Nat.zero_le _) ⟨congrArg (fun q => Value.string (B q)) (by simp), rfl, trivial⟩ (fun _ s => s) ?_
          rintro i hi f; (try dsimp only at hi ⊢)
          refine cd_seq ?_
          refine cd_sr ?_   -- 7
          refine ol_q (wn_none rfl) (op_move (v := .int _ _) rfl) rfl ?_
          refine ol_q (wn_none rfl) (op_move (v := .int _ _) rfl) rfl ?_
          refine ol_q (wn_none rfl) (op_lt rfl rfl) rfl ?_
          refine ol_nil_then ?_
          refine cd_cond rfl (fun hb5 => ?_) (fun hb5 => ?_)
          · have hp5 := hb5
            (try simp only [decide_eq_true_eq, decide_eq_false_iff_not, Bool.not_eq_true', Bool.not_eq_false', ne_eq, Decidable.not_not] at hp5)
            refine cd_skip ?_
            refine px_then ?_
            refine cd_seq ?_
            refine cd_block ?_
            refine cd_region ?_   -- 9
            refine ol_q (wn_none rfl) (op_move (v := .string _) rfl) rfl ?_
            refine ol_q (wn_none rfl) (op_sadd rfl rfl (by first | omega | (simp; omega))) rfl ?_
            refine ol_q (wn_none rfl) (op_assign (v := .string _) rfl) rfl ?_
            refine ol_nil ?_
            refine px_blockN ?_
            refine px_then ?_
            refine cd_region ?_   -- 8
            refine ol_q (wn_none rfl) (op_move (v := .int _ _) rfl) rfl ?_
            refine ol_q (wn_none rfl) (op_add rfl rfl (by omega) (by omega)) rfl ?_
            refine ol_q (wn_none rfl) (op_assign (v := .int _ _) rfl) rfl ?_
            refine ol_nil ?_
            have e1 : key ++ List.replicate (i + 1) 0 = key ++ List.replicate i 0 ++ [0] := by rw [List.replicate_succ', List.append_assoc]
            refine px_loop2 (i + 1) (by omega) (by (try dsimp only); omega) ⟨congrArg (fun q => Value.string (B q)) e1.symm, congrArg (Value.int .i64) (by simp), trivial⟩ ?_ (fun _ s => s)
            repeat (first | exact kept_over | refine kept_upd rfl ?_ | refine kept_overS (by decide) ?_)
          · have hp5 := hb5
            (try simp only [decide_eq_true_eq, decide_eq_false_iff_not, Bool.not_eq_true', Bool.not_eq_false', ne_eq, Decidable.not_not] at hp5)
            obtain rfl : i = k := by omega
            refine cd_exit ?_
            refine px_thenE ?_
            refine px_thenE ?_
            refine px_blockE ?_
            refine px_then ?_
            refine cd_sr ?_   -- 10
            refine ol_q (wn_none rfl) (op_move (v := .string _) rfl) rfl ?_
            refine ol_q (wn_none rfl) (op_move (v := .string _) rfl) rfl ?_
            refine ol_i (wn_none rfl) (os_bslice (E := encStr) [_] (ys := [_]) sB_24 zv_9 rfl rfl rfl rfl (by decide)) rfl ?_; rintro _ _ ⟨ao1, rfl, rfl⟩
            refine ol_i (wn_none rfl) (os_call cb_17 rfl (fun w s => Mac_calls _ _ _ _  s (rds_row 0 rfl rfl) (by first | omega | (simp; done) | (simp; omega)) (by first | omega | (simp; done) | (simp; omega)) (by first | omega | (simp; done) | (simp; omega)))) rfl ?_; rintro _ l ⟨rfl, rfl⟩
            refine ol_q (wn_none rfl) (op_move (v := .string _) rfl) rfl ?_
            refine ol_q (wn_none rfl) (op_move (v := .string _) rfl) rfl ?_
            refine ol_i (wn_none rfl) (os_bslice (E := encStr) [_] (ys := [_]) sB_24 zv_9 rfl rfl rfl rfl (by decide)) rfl ?_; rintro _ _ ⟨ao2, rfl, rfl⟩
            refine ol_i (wn_none rfl) (os_call cb_17 rfl (fun w s => Mac_calls _ _ _ _  s (rds_row 0 rfl rfl) (by first | omega | (simp; done) | (simp; omega)) (by first | omega | (simp; done) | (simp; omega)) (by first | omega | (simp; done) | (simp; omega)))) rfl ?_; rintro _ l ⟨rfl, rfl⟩
            refine ol_q (wn_none rfl) (op_eqtag _ _ tB_34 rfl rfl) rfl ?_
            refine ol_q (wn_none rfl) (op_assign (v := .bool _) rfl) rfl ?_
            refine ol_nil_then ?_
            refine cd_ret ?_
            exact px_ret1 rfl (v := .bool _) rfl (fun _ s => ((s.del 1).del 0)) ⟨congrArg Value.bool (by first | rfl | (rw [macM_zero (by omega)]; simp)), rfl⟩
end Go.SL

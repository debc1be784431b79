import Derived.Test.YtoeodcnpmhbhmaaSha3
set_option linter.unusedVariables false
set_option linter.unusedSimpArgs false
namespace Go.SL
open Go.Proofs

set_option maxRecDepth 100000 in
set_option maxHeartbeats 1000000 in
theorem ShaCuts_calls {w0 w : World} {l : List HProp} (s : List UInt8) (ao : Option Addr) (c : Nat) (xs : List Int) (hs : Sat w0 w (l)) (hr : Rds w0 l encI64 ao xs) (hq : ∀ y ∈ xs, I64 y) :
    Calls Try.prog 3 #[.string (B s), .slice ao xs.length c] w (Ret w0 fun v l' => v = .bool true ∧ l' = l) := by
  refine calls_enter Try.func3 rfl rfl rfl hs ?_
  refine cd_sr ?_   -- 0
  refine ol_q (wn_none rfl) (op_assign (v := .bool _) rfl) rfl ?_
  refine ol_nil_then ?_
  refine cd_seq ?_
  refine cd_sr ?_   -- 1
  refine ol_i (wn_none rfl) (os_call cb_12 rfl (fun w s => sAlive_calls  s )) rfl ?_; rintro _ l ⟨rfl, rfl⟩
  refine ol_q (wn_none rfl) (op_not rfl) rfl ?_
  refine ol_nil_then ?_
  refine cd_cond_f rfl rfl ?_
  refine cd_skip ?_
  refine px_then ?_
  refine cd_seq ?_
  refine cd_sr ?_   -- 3
  refine ol_q (wn_none rfl) (op_move (v := .string _) rfl) rfl ?_
  refine ol_q (wn_none rfl) (op_len_string Try.underlying9 rfl) rfl ?_
  refine ol_q (wn_none rfl) (op_gt rfl rfl) rfl ?_
  refine ol_q (wn_none rfl) (op_move (v := .bool _) rfl) rfl ?_
  refine ol_split 15 rfl (fun hb1 => ?_) (fun hb1 => ?_)
  · have hp1 := hb1
    (try simp only [decide_eq_true_eq, decide_eq_false_iff_not, Bool.not_eq_true', Bool.not_eq_false', ne_eq, Decidable.not_not] at hp1)
    refine ol_skip (wn_some rfl rfl rfl hb1 rfl) rfl ?_
    refine ol_skip (wn_some rfl rfl rfl hb1 rfl) rfl ?_
    refine ol_skip (wn_some rfl rfl rfl hb1 rfl) rfl ?_
    refine ol_q (wn_none rfl) (op_pick_t (v := .bool _) rfl hb1 rfl) rfl ?_
    refine ol_nil_then ?_
    refine cd_cond_t rfl rfl ?_
    refine cd_sr ?_   -- 4
    refine ol_q (wn_none rfl) (op_assign (v := .bool _) rfl) rfl ?_
    refine ol_nil_then ?_
    refine cd_ret ?_
    refine px_thenR ?_
    exact px_ret1 rfl (v := .bool _) rfl (fun _ s => s) ⟨congrArg Value.bool (by first | rfl | (rw [hfl]; simp)), rfl⟩
  · have hp1 := hb1
    (try simp only [decide_eq_true_eq, decide_eq_false_iff_not, Bool.not_eq_true', Bool.not_eq_false', ne_eq, Decidable.not_not] at hp1)
    refine ol_q (wn_some rfl rfl rfl hb1 rfl) (op_move (v := .slice _ _ _) rfl) rfl ?_
    refine ol_q (wn_some rfl rfl rfl hb1 rfl) (op_len_slice Try.underlying22 rfl) rfl ?_
    refine ol_q (wn_some rfl rfl rfl hb1 rfl) (op_gt rfl rfl) rfl ?_
    refine ol_q (wn_none rfl) (op_pick_f (v := .bool _) rfl hb1 rfl) rfl ?_
    refine ol_nil_then ?_
    refine cd_cond rfl (fun hb2 => ?_) (fun hb2 => ?_)
    · have hp2 := hb2
      (try simp only [decide_eq_true_eq, decide_eq_false_iff_not, Bool.not_eq_true', Bool.not_eq_false', ne_eq, Decidable.not_not] at hp2)
      refine cd_sr ?_   -- 4
      refine ol_q (wn_none rfl) (op_assign (v := .bool _) rfl) rfl ?_
      refine ol_nil_then ?_
      refine cd_ret ?_
      refine px_thenR ?_
      exact px_ret1 rfl (v := .bool _) rfl (fun _ s => s) ⟨congrArg Value.bool (by first | rfl | (rw [hfl]; simp)), rfl⟩
    · have hp2 := hb2
      (try simp only [decide_eq_true_eq, decide_eq_false_iff_not, Bool.not_eq_true', Bool.not_eq_false', ne_eq, Decidable.not_not] at hp2)
      have hsl : s.length ≤ 2000 := by omega
      have hxl : xs.length ≤ 50 := by omega
      refine cd_skip ?_
      refine px_then ?_
      refine cd_sr ?_   -- 5
      refine ol_q (wn_none rfl) (op_assign (v := .slice _ _ _) rfl) rfl ?_
      refine ol_nil_then ?_
      refine cd_sr ?_   -- 6
      refine ol_q (wn_none rfl) (op_move (v := .string _) rfl) rfl ?_
      refine ol_q (wn_none rfl) (op_assign (v := .string _) rfl) rfl ?_
      refine ol_nil_then ?_
      refine cd_seq ?_
      refine cd_sr ?_   -- 7
      refine ol_q (wn_none rfl) (op_move (v := .slice _ _ _) rfl) rfl ?_
      refine ol_q (wn_none rfl) (op_len_slice Try.underlying22 rfl) rfl ?_
      refine ol_q (wn_none rfl) (op_move (v := .int _ _) rfl) rfl ?_
      refine ol_nil_then ?_
      refine cd_block ?_
      refine cd_loop2 (α := List (List UInt8) × List UInt8 × Nat × Option Addr × Nat) [(5, 6), (8, 9), (23, 41)] (fun x => [(5, .slice x.2.2.2.1 x.1.length x.2.2.2.2), (6, .string (B x.2.1)), (23, .int .i64 (x.2.2.1 : Int))]) (fun x => Row 9 encStr (.slice x.2.2.2.1 x.1.length x.2.2.2.2) x.1 :: l) (fun x => x.2.2.1 ≤ xs.length ∧ x.1.flatten ++ x.2.1 = s ∧ x.1.length = x.2.2.1) (fun x => xs.length - x.2.2.1) ([], s, 0, none, 0) ⟨Nat.zero_le _, rfl, rfl⟩ ⟨rfl, rfl, rfl, trivial⟩ (fun _ s => Sat.rowNil s) ?_
      rintro ⟨P, R, i, vo, vc⟩ ⟨hi, hPR, hPl⟩ f; (try dsimp only at hi hPR hPl ⊢)
      refine cd_sr ?_   -- 8
      refine ol_q (wn_none rfl) (op_lt rfl rfl) rfl ?_
      refine ol_nil_then ?_
      refine cd_seq ?_
      refine cd_cond rfl (fun hb3 => ?_) (fun hb3 => ?_)
      · have hp3 := hb3
        (try simp only [decide_eq_true_eq, decide_eq_false_iff_not, Bool.not_eq_true', Bool.not_eq_false', ne_eq, Decidable.not_not] at hp3)
        have hi1 : i < xs.length := by omega
        have hRl := congrArg List.length hPR
        rw [List.length_append] at hRl
        refine cd_skip ?_
        refine px_then ?_
        refine cd_seq ?_
        refine cd_block ?_
        refine cd_sr ?_   -- 9
        refine ol_q (wn_none rfl) (op_index _ sB_22 rfl rfl rfl (hr.cons _) rfl (by omega)) rfl ?_
        refine ol_q (wn_none rfl) (op_ldw sc_3 (hr.cons _) rfl (by omega) rfl) rfl ?_
        refine ol_q (wn_none rfl) (op_assign (v := .int _ _) rfl) rfl ?_
        refine ol_nil_then ?_
        refine cd_sr ?_   -- 10
        refine ol_q (wn_none rfl) (op_move (v := .int _ _) rfl) rfl ?_
        refine ol_q (wn_none rfl) (op_max rfl rfl) rfl ?_
        refine ol_q (wn_none rfl) (op_move (v := .string _) rfl) rfl ?_
        refine ol_q (wn_none rfl) (op_len_string Try.underlying9 rfl) rfl ?_
        refine ol_q (wn_none rfl) (op_min rfl rfl) rfl ?_
        refine ol_q (wn_none rfl) (op_assign (v := .int _ _) rfl) rfl ?_
        refine ol_nil_then ?_
        obtain ⟨k, hkk, hkl⟩ : ∃ k : Nat, (if (R.length : Int) < (if xs[i] < 0 then 0 else xs[i]) then (R.length : Int) else (if xs[i] < 0 then 0 else xs[i])) = (k : Int) ∧ k ≤ R.length := ⟨((if (R.length : Int) < (if xs[i] < 0 then 0 else xs[i]) then (R.length : Int) else (if xs[i] < 0 then 0 else xs[i]))).toNat, by split <;> split <;> omega, by split <;> split <;> omega⟩
        rw [hkk]
        refine cd_sr ?_   -- 11
        refine ol_q (wn_none rfl) (op_move (v := .slice _ _ _) rfl) rfl ?_
        refine ol_q (wn_none rfl) (op_move (v := .string _) rfl) rfl ?_
        refine ol_q (wn_none rfl) (op_move (v := .int _ _) rfl) rfl ?_
        refine ol_q (wn_none rfl) (op_sslice_to _ Try.underlying9 rfl rfl rfl (by omega)) rfl ?_
        refine ol_i (wn_none rfl) (os_bslice (E := encStr) [_] (ys := [_]) sB_24 zv_9 rfl rfl rfl rfl (by decide)) rfl ?_; rintro _ _ ⟨ao1, rfl, rfl⟩
        refine ol_pull1 ?_
        refine ol_i (wn_none rfl) (os_append (E := encStr) rfl sB_24 zv_9 rfl rfl rfl (fun w s => (rds_row 1 rfl rfl) [] w s) rfl (by simp; omega) (by unfold maxLen; simp; omega)) rfl ?_; rintro _ _ ⟨ao2, ac2, rfl, rfl⟩
        refine ol_q (wn_none rfl) (op_assign (v := .slice _ _ _) rfl) rfl ?_
        refine ol_nil_then ?_
        refine cd_region ?_   -- 12
        refine ol_q (wn_none rfl) (op_move (v := .string _) rfl) rfl ?_
        refine ol_q (wn_none rfl) (op_move (v := .int _ _) rfl) rfl ?_
        refine ol_q (wn_none rfl) (op_sslice_from _ Try.underlying9 rfl rfl rfl (by omega)) rfl ?_
        refine ol_q (wn_none rfl) (op_assign (v := .string _) rfl) rfl ?_
        refine ol_nil ?_
        refine px_blockN ?_
        refine px_then ?_
        refine cd_region ?_   -- 13
        refine ol_q (wn_none rfl) (op_add rfl rfl (by omega) (by omega)) rfl ?_
        refine ol_q (wn_none rfl) (op_move (v := .int _ _) rfl) rfl ?_
        refine ol_nil ?_
        have e1 : (P ++ [R.take k]).flatten ++ R.drop k = s := by rw [List.flatten_append, List.flatten_cons, List.flatten_nil, List.append_nil, List.append_assoc, List.take_append_drop]; exact hPR
        refine px_loop2 (P ++ [R.take k], R.drop k, i + 1, ao2, ac2) ⟨by dsimp only; omega, e1, by dsimp only; rw [List.length_append, hPl]; rfl⟩ (by (try dsimp only); omega) ⟨rfl, rfl, congrArg (Value.int .i64) (by simp), trivial⟩ ?_ (fun _ s => (s.del 1))
        repeat (first | exact kept_over | refine kept_upd rfl ?_ | refine kept_overS (by decide) ?_)
      · have hp3 := hb3
        (try simp only [decide_eq_true_eq, decide_eq_false_iff_not, Bool.not_eq_true', Bool.not_eq_false', ne_eq, Decidable.not_not] at hp3)
        have hRl := congrArg List.length hPR
        rw [List.length_append] at hRl
        have hfl : (P ++ [R]).flatten = s := by rw [List.flatten_append, List.flatten_cons, List.flatten_nil, List.append_nil]; exact hPR
        refine cd_exit ?_
        refine px_thenE ?_
        refine px_thenE ?_
        refine px_blockE ?_
        refine px_then ?_
        refine cd_sr ?_   -- 14
        refine ol_q (wn_none rfl) (op_move (v := .slice _ _ _) rfl) rfl ?_
        refine ol_q (wn_none rfl) (op_move (v := .string _) rfl) rfl ?_
        refine ol_i (wn_none rfl) (os_bslice (E := encStr) [_] (ys := [_]) sB_24 zv_9 rfl rfl rfl rfl (by decide)) rfl ?_; rintro _ _ ⟨ao3, rfl, rfl⟩
        refine ol_pull1 ?_
        refine ol_i (wn_none rfl) (os_append (E := encStr) rfl sB_24 zv_9 rfl rfl rfl (fun w s => (rds_row 1 rfl rfl) [] w s) rfl (by simp; omega) (by unfold maxLen; simp; omega)) rfl ?_; rintro _ _ ⟨ao4, ac4, rfl, rfl⟩
        refine ol_q (wn_none rfl) (op_assign (v := .slice _ _ _) rfl) rfl ?_
        refine ol_nil_then ?_
        refine cd_sr ?_   -- 15
        refine ol_q (wn_none rfl) (op_move (v := .slice _ _ _) rfl) rfl ?_
        refine ol_i (wn_none rfl) (os_call cb_13 rfl (fun w s => Of_calls _ _ _  s (rds_row 0 rfl rfl) (by rw [hfl]; omega) (by simp; omega))) rfl ?_; rintro _ l ⟨rfl, rfl⟩
        refine ol_q (wn_none rfl) (op_move (v := .string _) rfl) rfl ?_
        refine ol_i (wn_none rfl) (os_bslice (E := encStr) [_] (ys := [_]) sB_24 zv_9 rfl rfl rfl rfl (by decide)) rfl ?_; rintro _ _ ⟨ao5, rfl, rfl⟩
        refine ol_i (wn_none rfl) (os_call cb_13 rfl (fun w s => Of_calls _ _ _  s (rds_row 0 rfl rfl) (by simp; omega) (by simp))) rfl ?_; rintro _ l ⟨rfl, rfl⟩
        refine ol_q (wn_none rfl) (op_eqroot _ _ rB_26 rfl rfl) rfl ?_
        refine ol_q (wn_none rfl) (op_assign (v := .bool _) rfl) rfl ?_
        refine ol_nil_then ?_
        refine cd_ret ?_
        exact px_ret1 rfl (v := .bool _) rfl (fun _ s => (((s.del 2).del 1).del 0)) ⟨congrArg Value.bool (by first | rfl | (rw [hfl]; simp)), rfl⟩

set_option maxRecDepth 100000 in
set_option maxHeartbeats 1000000 in
theorem ShaShows_calls {w0 w : World} {l : List HProp} (a b : Root) (hs : Sat w0 w (l))  :
    Calls Try.prog 4 #[.agg (rootC a).toArray, .agg (rootC b).toArray] w (Ret w0 fun v l' => v = .bool true ∧ l' = l) := by
  have hl64 : (hexS a.1).length = 64 := by rw [hexS_len, a.2]
  refine calls_enter Try.func4 rfl rfl rfl hs ?_
  refine cd_sr ?_   -- 0
  refine ol_i (wn_none rfl) (os_boxa rfl) rfl ?_; rintro _ _ ⟨bx1, rfl, rfl⟩
  refine ol_i (wn_none rfl) (os_boxa rfl) rfl ?_; rintro _ _ ⟨bx2, rfl, rfl⟩
  refine ol_q (wn_none rfl) (op_assign (v := .bool _) rfl) rfl ?_
  refine ol_nil_then ?_
  refine cd_seq ?_
  refine cd_sr ?_   -- 1
  refine ol_i (wn_none rfl) (os_call cb_12 rfl (fun w s => sAlive_calls  s )) rfl ?_; rintro _ l ⟨rfl, rfl⟩
  refine ol_q (wn_none rfl) (op_not rfl) rfl ?_
  refine ol_nil_then ?_
  refine cd_cond_f rfl rfl ?_
  refine cd_skip ?_
  refine px_then ?_
  refine cd_sr ?_   -- 3
  refine ol_q (wn_none rfl) (op_lda (L := rootC _) 1 ag_26 rfl rfl (rootC_take' _) (by simp [rootC_len])) rfl ?_
  refine ol_i (wn_none rfl) (os_call cb_14 rfl (fun w s => Show_calls _  s )) rfl ?_; rintro _ l ⟨rfl, rfl⟩
  refine ol_q (wn_none rfl) (op_assign (v := .string _) rfl) rfl ?_
  refine ol_nil_then ?_
  refine cd_seq ?_
  refine cd_sr ?_   -- 4
  refine ol_q (wn_none rfl) (op_assign (v := .int _ _) rfl) rfl ?_
  refine ol_nil_then ?_
  refine cd_block ?_
  refine cd_loop2 (α := Nat) [(4, 4), (6, 6), (11, 39)] (fun x => [(6, .int .i64 (x : Int))]) (fun _ => _) (fun x => x ≤ 64) (fun x => 64 - x) 0 (Nat.zero_le _) ⟨rfl, trivial⟩ (fun _ s => s) ?_
  rintro i hi f; (try dsimp only at hi ⊢)
  refine cd_seq ?_
  refine cd_sr ?_   -- 5
  refine ol_q (wn_none rfl) (op_move (v := .int _ _) rfl) rfl ?_
  refine ol_q (wn_none rfl) (op_move (v := .string _) rfl) rfl ?_
  refine ol_q (wn_none rfl) (op_len_string Try.underlying9 rfl) rfl ?_
  refine ol_q (wn_none rfl) (op_lt rfl rfl) rfl ?_
  refine ol_nil_then ?_
  refine cd_cond rfl (fun hb1 => ?_) (fun hb1 => ?_)
  · have hp1 := hb1
    (try simp only [decide_eq_true_eq, decide_eq_false_iff_not, Bool.not_eq_true', Bool.not_eq_false', ne_eq, Decidable.not_not] at hp1)
    have hi1 : i < (hexS a.1).length := by omega
    have hk := hexS_ok (show (hexS a.1).getD i 0 ∈ hexS a.1 by rw [List.getD_eq_getElem?_getD, List.getElem?_eq_getElem hi1]; exact List.getElem_mem hi1)
    refine cd_skip ?_
    refine px_then ?_
    refine cd_seq ?_
    refine cd_block ?_
    refine cd_sr ?_   -- 7
    refine ol_q (wn_none rfl) (op_move (v := .string _) rfl) rfl ?_
    refine ol_q (wn_none rfl) (op_move (v := .int _ _) rfl) rfl ?_
    refine ol_q (wn_none rfl) (op_sidx _ Try.underlying9 rfl rfl (by first | rfl | omega) hi1) rfl ?_
    refine ol_q (wn_none rfl) (op_ge rfl rfl) rfl ?_
    refine ol_q (wn_none rfl) (op_move (v := .bool _) rfl) rfl ?_
    refine ol_split 21 rfl (fun hb2 => ?_) (fun hb2 => ?_)
    · have hp2 := hb2
      (try simp only [decide_eq_true_eq, decide_eq_false_iff_not, Bool.not_eq_true', Bool.not_eq_false', ne_eq, Decidable.not_not] at hp2)
      refine ol_q (wn_some rfl rfl rfl hb2 rfl) (op_move (v := .string _) rfl) rfl ?_
      refine ol_q (wn_some rfl rfl rfl hb2 rfl) (op_move (v := .int _ _) rfl) rfl ?_
      refine ol_q (wn_some rfl rfl rfl hb2 rfl) (op_sidx _ Try.underlying9 rfl rfl (by first | rfl | omega) hi1) rfl ?_
      refine ol_q (wn_some rfl rfl rfl hb2 rfl) (op_le rfl rfl) rfl ?_
      refine ol_q (wn_none rfl) (op_pick_t (v := .bool _) rfl hb2 rfl) rfl ?_
      refine ol_q (wn_none rfl) (op_move (v := .bool _) rfl) rfl ?_
      refine ol_split 27 rfl (fun hb3 => ?_) (fun hb3 => ?_)
      · have hp3 := hb3
        (try simp only [decide_eq_true_eq, decide_eq_false_iff_not, Bool.not_eq_true', Bool.not_eq_false', ne_eq, Decidable.not_not] at hp3)
        refine ol_skip (wn_some rfl rfl rfl hb3 rfl) rfl ?_
        refine ol_skip (wn_some rfl rfl rfl hb3 rfl) rfl ?_
        refine ol_skip (wn_some rfl rfl rfl hb3 rfl) rfl ?_
        refine ol_skip (wn_some rfl rfl rfl hb3 rfl) rfl ?_
        refine ol_skip (wn_some rfl rfl rfl hb3 rfl) rfl ?_
        refine ol_skip (wn_undef rfl rfl rfl rfl) rfl ?_
        refine ol_skip (wn_undef rfl rfl rfl rfl) rfl ?_
        refine ol_skip (wn_undef rfl rfl rfl rfl) rfl ?_
        refine ol_skip (wn_undef rfl rfl rfl rfl) rfl ?_
        refine ol_skip (wn_some rfl rfl rfl hb3 rfl) rfl ?_
        refine ol_q (wn_none rfl) (op_pick_t (v := .bool _) rfl hb3 rfl) rfl ?_
        refine ol_q (wn_none rfl) (op_not rfl) rfl ?_
        refine ol_nil_then ?_
        refine cd_cond_f rfl rfl ?_
        refine cd_skip ?_
        refine px_blockN ?_
        refine px_then ?_
        refine cd_region ?_   -- 6
        refine ol_q (wn_none rfl) (op_move (v := .int _ _) rfl) rfl ?_
        refine ol_q (wn_none rfl) (op_add rfl rfl (by omega) (by omega)) rfl ?_
        refine ol_q (wn_none rfl) (op_assign (v := .int _ _) rfl) rfl ?_
        refine ol_nil ?_
        refine px_loop2 (i + 1) (by omega) (by (try dsimp only); omega) ⟨congrArg (Value.int .i64) (by simp), trivial⟩ ?_ (fun _ s => s)
        repeat (first | exact kept_over | refine kept_upd rfl ?_ | refine kept_overS (by decide) ?_)
      · have hp3 := hb3
        (try simp only [decide_eq_true_eq, decide_eq_false_iff_not, Bool.not_eq_true', Bool.not_eq_false', ne_eq, Decidable.not_not] at hp3)
        refine ol_q (wn_some rfl rfl rfl hb3 rfl) (op_move (v := .string _) rfl) rfl ?_
        refine ol_q (wn_some rfl rfl rfl hb3 rfl) (op_move (v := .int _ _) rfl) rfl ?_
        refine ol_q (wn_some rfl rfl rfl hb3 rfl) (op_sidx _ Try.underlying9 rfl rfl (by first | rfl | omega) hi1) rfl ?_
        refine ol_q (wn_some rfl rfl rfl hb3 rfl) (op_ge rfl rfl) rfl ?_
        refine ol_q (wn_some rfl rfl rfl hb3 rfl) (op_move (v := .bool _) rfl) rfl ?_
        refine ol_split 32 rfl (fun hb4 => ?_) (fun hb4 => ?_)
        · have hp4 := hb4
          (try simp only [decide_eq_true_eq, decide_eq_false_iff_not, Bool.not_eq_true', Bool.not_eq_false', ne_eq, Decidable.not_not] at hp4)
          refine ol_q (wn_some rfl rfl rfl hb4 rfl) (op_move (v := .string _) rfl) rfl ?_
          refine ol_q (wn_some rfl rfl rfl hb4 rfl) (op_move (v := .int _ _) rfl) rfl ?_
          refine ol_q (wn_some rfl rfl rfl hb4 rfl) (op_sidx _ Try.underlying9 rfl rfl (by first | rfl | omega) hi1) rfl ?_
          refine ol_q (wn_some rfl rfl rfl hb4 rfl) (op_le rfl rfl) rfl ?_
          refine ol_q (wn_some rfl rfl rfl hb3 rfl) (op_pick_t (v := .bool _) rfl hb4 rfl) rfl ?_
          refine ol_q (wn_none rfl) (op_pick_f (v := .bool _) rfl hb3 rfl) rfl ?_
          refine ol_q (wn_none rfl) (op_not rfl) rfl ?_
          refine ol_nil_then ?_
          refine cd_cond rfl (fun hb5 => ?_) (fun hb5 => ?_)
          · have hp5 := hb5
            (try simp only [decide_eq_true_eq, decide_eq_false_iff_not, Bool.not_eq_true', Bool.not_eq_false', ne_eq, Decidable.not_not] at hp5)
            exfalso; omega
          · have hp5 := hb5
            (try simp only [decide_eq_true_eq, decide_eq_false_iff_not, Bool.not_eq_true', Bool.not_eq_false', ne_eq, Decidable.not_not] at hp5)
            refine cd_skip ?_
            refine px_blockN ?_
            refine px_then ?_
            refine cd_region ?_   -- 6
            refine ol_q (wn_none rfl) (op_move (v := .int _ _) rfl) rfl ?_
            refine ol_q (wn_none rfl) (op_add rfl rfl (by omega) (by omega)) rfl ?_
            refine ol_q (wn_none rfl) (op_assign (v := .int _ _) rfl) rfl ?_
            refine ol_nil ?_
            refine px_loop2 (i + 1) (by omega) (by (try dsimp only); omega) ⟨congrArg (Value.int .i64) (by simp), trivial⟩ ?_ (fun _ s => s)
            repeat (first | exact kept_over | refine kept_upd rfl ?_ | refine kept_overS (by decide) ?_)
        · have hp4 := hb4
          (try simp only [decide_eq_true_eq, decide_eq_false_iff_not, Bool.not_eq_true', Bool.not_eq_false', ne_eq, Decidable.not_not] at hp4)
          refine ol_skip (wn_some rfl rfl rfl hb4 rfl) rfl ?_
          refine ol_skip (wn_some rfl rfl rfl hb4 rfl) rfl ?_
          refine ol_skip (wn_some rfl rfl rfl hb4 rfl) rfl ?_
          refine ol_skip (wn_some rfl rfl rfl hb4 rfl) rfl ?_
          refine ol_q (wn_some rfl rfl rfl hb3 rfl) (op_pick_f (v := .bool _) rfl hb4 rfl) rfl ?_
          refine ol_q (wn_none rfl) (op_pick_f (v := .bool _) rfl hb3 rfl) rfl ?_
          refine ol_q (wn_none rfl) (op_not rfl) rfl ?_
          refine ol_nil_then ?_
          refine cd_cond_t rfl rfl ?_
          refine cd_sr ?_   -- 8
          refine ol_q (wn_none rfl) (op_assign (v := .bool _) rfl) rfl ?_
          refine ol_nil_then ?_
          refine cd_ret ?_
          refine px_blockR ?_
          refine px_thenR ?_
          refine px_thenR ?_
          refine px_blockR ?_
          refine px_thenR ?_
          exact px_ret1 rfl (v := .bool _) rfl (fun _ s => ((s.del 1).del 0)) ⟨congrArg Value.bool (by first | rfl | (exfalso; omega) | (rw [hexR]; simp)), rfl⟩
    · have hp2 := hb2
      (try simp only [decide_eq_true_eq, decide_eq_false_iff_not, Bool.not_eq_true', Bool.not_eq_false', ne_eq, Decidable.not_not] at hp2)
      refine ol_skip (wn_some rfl rfl rfl hb2 rfl) rfl ?_
      refine ol_skip (wn_some rfl rfl rfl hb2 rfl) rfl ?_
      refine ol_skip (wn_some rfl rfl rfl hb2 rfl) rfl ?_
      refine ol_skip (wn_some rfl rfl rfl hb2 rfl) rfl ?_
      refine ol_q (wn_none rfl) (op_pick_f (v := .bool _) rfl hb2 rfl) rfl ?_
      refine ol_q (wn_none rfl) (op_move (v := .bool _) rfl) rfl ?_
      refine ol_q (wn_some rfl rfl rfl rfl rfl) (op_move (v := .string _) rfl) rfl ?_
      refine ol_q (wn_some rfl rfl rfl rfl rfl) (op_move (v := .int _ _) rfl) rfl ?_
      refine ol_q (wn_some rfl rfl rfl rfl rfl) (op_sidx _ Try.underlying9 rfl rfl (by first | rfl | omega) hi1) rfl ?_
      refine ol_q (wn_some rfl rfl rfl rfl rfl) (op_ge rfl rfl) rfl ?_
      refine ol_q (wn_some rfl rfl rfl rfl rfl) (op_move (v := .bool _) rfl) rfl ?_
      refine ol_split 32 rfl (fun hb6 => ?_) (fun hb6 => ?_)
      · have hp6 := hb6
        (try simp only [decide_eq_true_eq, decide_eq_false_iff_not, Bool.not_eq_true', Bool.not_eq_false', ne_eq, Decidable.not_not] at hp6)
        refine ol_q (wn_some rfl rfl rfl hb6 rfl) (op_move (v := .string _) rfl) rfl ?_
        refine ol_q (wn_some rfl rfl rfl hb6 rfl) (op_move (v := .int _ _) rfl) rfl ?_
        refine ol_q (wn_some rfl rfl rfl hb6 rfl) (op_sidx _ Try.underlying9 rfl rfl (by first | rfl | omega) hi1) rfl ?_
        refine ol_q (wn_some rfl rfl rfl hb6 rfl) (op_le rfl rfl) rfl ?_
        refine ol_q (wn_some rfl rfl rfl rfl rfl) (op_pick_t (v := .bool _) rfl hb6 rfl) rfl ?_
        refine ol_q (wn_none rfl) (op_pick_f (v := .bool _) rfl rfl rfl) rfl ?_
        refine ol_q (wn_none rfl) (op_not rfl) rfl ?_
        refine ol_nil_then ?_
        refine cd_cond rfl (fun hb7 => ?_) (fun hb7 => ?_)
        · have hp7 := hb7
          (try simp only [decide_eq_true_eq, decide_eq_false_iff_not, Bool.not_eq_true', Bool.not_eq_false', ne_eq, Decidable.not_not] at hp7)
          exfalso; omega
        · have hp7 := hb7
          (try simp only [decide_eq_true_eq, decide_eq_false_iff_not, Bool.not_eq_true', Bool.not_eq_false', ne_eq, Decidable.not_not] at hp7)
          refine cd_skip ?_
          refine px_blockN ?_
          refine px_then ?_
          refine cd_region ?_   -- 6
          refine ol_q (wn_none rfl) (op_move (v := .int _ _) rfl) rfl ?_
          refine ol_q (wn_none rfl) (op_add rfl rfl (by omega) (by omega)) rfl ?_
          refine ol_q (wn_none rfl) (op_assign (v := .int _ _) rfl) rfl ?_
          refine ol_nil ?_
          refine px_loop2 (i + 1) (by omega) (by (try dsimp only); omega) ⟨congrArg (Value.int .i64) (by simp), trivial⟩ ?_ (fun _ s => s)
          repeat (first | exact kept_over | refine kept_upd rfl ?_ | refine kept_overS (by decide) ?_)
      · have hp6 := hb6
        (try simp only [decide_eq_true_eq, decide_eq_false_iff_not, Bool.not_eq_true', Bool.not_eq_false', ne_eq, Decidable.not_not] at hp6)
        refine ol_skip (wn_some rfl rfl rfl hb6 rfl) rfl ?_
        refine ol_skip (wn_some rfl rfl rfl hb6 rfl) rfl ?_
        refine ol_skip (wn_some rfl rfl rfl hb6 rfl) rfl ?_
        refine ol_skip (wn_some rfl rfl rfl hb6 rfl) rfl ?_
        refine ol_q (wn_some rfl rfl rfl rfl rfl) (op_pick_f (v := .bool _) rfl hb6 rfl) rfl ?_
        refine ol_q (wn_none rfl) (op_pick_f (v := .bool _) rfl rfl rfl) rfl ?_
        refine ol_q (wn_none rfl) (op_not rfl) rfl ?_
        refine ol_nil_then ?_
        refine cd_cond_t rfl rfl ?_
        refine cd_sr ?_   -- 8
        refine ol_q (wn_none rfl) (op_assign (v := .bool _) rfl) rfl ?_
        refine ol_nil_then ?_
        refine cd_ret ?_
        refine px_blockR ?_
        refine px_thenR ?_
        refine px_thenR ?_
        refine px_blockR ?_
        refine px_thenR ?_
        exact px_ret1 rfl (v := .bool _) rfl (fun _ s => ((s.del 1).del 0)) ⟨congrArg Value.bool (by first | rfl | (exfalso; omega) | (rw [hexR]; simp)), rfl⟩
  · have hp1 := hb1
    (try simp only [decide_eq_true_eq, decide_eq_false_iff_not, Bool.not_eq_true', Bool.not_eq_false', ne_eq, Decidable.not_not] at hp1)
    refine cd_exit ?_
    refine px_thenE ?_
    refine px_thenE ?_
    refine px_blockE ?_
    refine px_then ?_
    refine cd_seq ?_   -- 9
    refine cd_draw (M := []) mx [2] (by kernel_rfl) ?_
    refine rg_q (wn_none rfl) (op_move (v := .string _) rfl) rfl rfl ?_
    refine rg_q (wn_none rfl) (op_lda (L := rootC _) 0 ag_26 rfl rfl (rootC_take' _) (by simp [rootC_len])) rfl rfl ?_
    refine rg_i (wn_none rfl) (os_call cb_14 rfl (fun w s => Show_calls _  s )) rfl rfl ?_; rintro _ l ⟨rfl, rfl⟩; refine ⟨[], rfl, ?_⟩
    refine rg_q (wn_none rfl) (op_seql rfl rfl) rfl rfl ?_
    refine rg_q (wn_none rfl) (op_lda (L := rootC _) 1 ag_26 rfl rfl (rootC_take' _) (by simp [rootC_len])) rfl rfl ?_
    refine rg_q (wn_none rfl) (op_lda (L := rootC _) 0 ag_26 rfl rfl (rootC_take' _) (by simp [rootC_len])) rfl rfl ?_
    refine rg_q (wn_none rfl) (op_eqroot _ _ rB_26 rfl rfl) rfl rfl ?_
    refine rg_q (wn_none rfl) (op_beql Try.underlying4 rfl rfl) rfl rfl ?_
    refine rg_q (wn_none rfl) (op_assign (v := .bool _) rfl) rfl rfl ?_
    refine rg_nil_then0 ?_
    refine cd_ret ?_
    exact px_ret1 rfl (v := .bool _) rfl (fun _ s => ((s.del 1).del 0)) ⟨congrArg Value.bool (by first | rfl | (exfalso; omega) | (rw [hexR]; simp)), rfl⟩

set_option maxRecDepth 100000 in
set_option maxHeartbeats 1000000 in
theorem ShaOrder_calls {w0 w : World} {l : List HProp} (a b c : Root) (hs : Sat w0 w (l))  :
    Calls Try.prog 6 #[.agg (rootC a).toArray, .agg (rootC b).toArray, .agg (rootC c).toArray] w (Ret w0 fun v l' => v = .bool true ∧ l' = l) := by
  refine calls_enter Try.func6 rfl rfl rfl hs ?_
  refine cd_sr ?_   -- 0
  refine ol_i (wn_none rfl) (os_boxa rfl) rfl ?_; rintro _ _ ⟨bx1, rfl, rfl⟩
  refine ol_i (wn_none rfl) (os_boxa rfl) rfl ?_; rintro _ _ ⟨bx2, rfl, rfl⟩
  refine ol_i (wn_none rfl) (os_boxa rfl) rfl ?_; rintro _ _ ⟨bx3, rfl, rfl⟩
  refine ol_q (wn_none rfl) (op_assign (v := .bool _) rfl) rfl ?_
  refine ol_nil_then ?_
  refine cd_seq ?_
  refine cd_sr ?_   -- 1
  refine ol_i (wn_none rfl) (os_call cb_12 rfl (fun w s => sAlive_calls  s )) rfl ?_; rintro _ l ⟨rfl, rfl⟩
  refine ol_q (wn_none rfl) (op_not rfl) rfl ?_
  refine ol_nil_then ?_
  refine cd_cond_f rfl rfl ?_
  refine cd_skip ?_
  refine px_then ?_
  refine cd_seq ?_
  refine cd_seq ?_   -- 3
  refine cd_drawe (M := []) mx [2, 6, 11, 16] ?_
  -- 0
  refine et_quiet 0 (by kernel_rfl) rfl (by kernel_rfl) (wn_none rfl) (op_lda (L := rootC _) 2 ag_26 rfl rfl (rootC_take' _) (by simp [rootC_len])) rfl ?_
  -- 1
  refine et_quiet 1 (by kernel_rfl) rfl (by kernel_rfl) (wn_none rfl) (op_lda (L := rootC _) 1 ag_26 rfl rfl (rootC_take' _) (by simp [rootC_len])) rfl ?_
  refine et_1 (i := 2) (by kernel_rfl) ?_
  refine ei_i rfl rfl (wn_none rfl) (os_call cb_15 rfl (fun w s => Less_calls _ _  s )) rfl ?_; rintro _ l ⟨rfl, rfl⟩; refine ⟨[], rfl, ?_⟩
  -- 3
  refine et_quiet 3 (by kernel_rfl) rfl (by kernel_rfl) (wn_none rfl) (op_move (v := .bool _) rfl) rfl ?_
  refine et_split 12 rfl (fun hb1 => ?_) (fun hb1 => ?_)
  · have hp1 := hb1
    (try simp only [decide_eq_true_eq, decide_eq_false_iff_not, Bool.not_eq_true', Bool.not_eq_false', ne_eq, Decidable.not_not] at hp1)
    have hab : Op.bytesLess a.1 b.1 = true := hb1
    -- 4
    refine et_quiet 4 (by kernel_rfl) rfl (by kernel_rfl) (wn_some rfl rfl rfl hb1 rfl) (op_lda (L := rootC _) 1 ag_26 rfl rfl (rootC_take' _) (by simp [rootC_len])) rfl ?_
    -- 5
    refine et_quiet 5 (by kernel_rfl) rfl (by kernel_rfl) (wn_some rfl rfl rfl hb1 rfl) (op_lda (L := rootC _) 2 ag_26 rfl rfl (rootC_take' _) (by simp [rootC_len])) rfl ?_
    refine et_1 (i := 6) (by kernel_rfl) ?_
    refine ei_i rfl rfl (wn_some rfl rfl rfl hb1 rfl) (os_call cb_15 rfl (fun w s => Less_calls _ _  s )) rfl ?_; rintro _ l ⟨rfl, rfl⟩; refine ⟨[], rfl, ?_⟩
    -- 7
    refine et_quiet 7 (by kernel_rfl) rfl (by kernel_rfl) (wn_none rfl) (op_pick_t (v := .bool _) rfl hb1 rfl) rfl ?_
    -- 8
    refine et_quiet 8 (by kernel_rfl) rfl (by kernel_rfl) (wn_none rfl) (op_move (v := .bool _) rfl) rfl ?_
    refine et_split 17 rfl (fun hb2 => ?_) (fun hb2 => ?_)
    · have hp2 := hb2
      (try simp only [decide_eq_true_eq, decide_eq_false_iff_not, Bool.not_eq_true', Bool.not_eq_false', ne_eq, Decidable.not_not] at hp2)
      exact absurd hb2 (by rw [bl_asymm hab]; simp)
    · have hp2 := hb2
      (try simp only [decide_eq_true_eq, decide_eq_false_iff_not, Bool.not_eq_true', Bool.not_eq_false', ne_eq, Decidable.not_not] at hp2)
      -- 9
      refine et_quiet 9 (by kernel_rfl) rfl (by kernel_rfl) (wn_some rfl rfl rfl hb2 rfl) (op_lda (L := rootC _) 2 ag_26 rfl rfl (rootC_take' _) (by simp [rootC_len])) rfl ?_
      -- 10
      refine et_quiet 10 (by kernel_rfl) rfl (by kernel_rfl) (wn_some rfl rfl rfl hb2 rfl) (op_lda (L := rootC _) 1 ag_26 rfl rfl (rootC_take' _) (by simp [rootC_len])) rfl ?_
      -- 19
      refine et_quiet 19 (by kernel_rfl) rfl (by kernel_rfl) (wn_some rfl rfl rfl hb2 rfl) (op_lda (L := rootC _) 2 ag_26 rfl rfl (rootC_take' _) (by simp [rootC_len])) rfl ?_
      -- 20
      refine et_quiet 20 (by kernel_rfl) rfl (by kernel_rfl) (wn_some rfl rfl rfl hb2 rfl) (op_lda (L := rootC _) 1 ag_26 rfl rfl (rootC_take' _) (by simp [rootC_len])) rfl ?_
      -- 21
      refine et_quiet 21 (by kernel_rfl) rfl (by kernel_rfl) (wn_some rfl rfl rfl hb2 rfl) (op_eqroot _ _ rB_26 rfl rfl) rfl ?_
      refine et_1 (i := 11) (by kernel_rfl) ?_
      refine ei_i rfl rfl (wn_some rfl rfl rfl hb2 rfl) (os_call cb_15 rfl (fun w s => Less_calls _ _  s )) rfl ?_; rintro _ l ⟨rfl, rfl⟩; refine ⟨[], rfl, ?_⟩
      -- 12
      refine et_quiet 12 (by kernel_rfl) rfl (by kernel_rfl) (wn_some rfl rfl rfl hb2 rfl) (op_not rfl) rfl ?_
      -- 13
      refine et_quiet 13 (by kernel_rfl) rfl (by kernel_rfl) (wn_some rfl rfl rfl hb2 rfl) (op_move (v := .bool _) rfl) rfl ?_
      refine et_split 22 rfl (fun hb3 => ?_) (fun hb3 => ?_)
      · have hp3 := hb3
        (try simp only [decide_eq_true_eq, decide_eq_false_iff_not, Bool.not_eq_true', Bool.not_eq_false', ne_eq, Decidable.not_not] at hp3)
        exact absurd hb3 (by rw [hab]; simp)
      · have hp3 := hb3
        (try simp only [decide_eq_true_eq, decide_eq_false_iff_not, Bool.not_eq_true', Bool.not_eq_false', ne_eq, Decidable.not_not] at hp3)
        -- 14
        refine et_skip 14 (by kernel_rfl) rfl (by kernel_rfl) (wn_some rfl rfl rfl hb3 rfl) rfl ?_
        -- 15
        refine et_skip 15 (by kernel_rfl) rfl (by kernel_rfl) (wn_some rfl rfl rfl hb3 rfl) rfl ?_
        refine et_1 (i := 16) (by kernel_rfl) ?_
        refine ei_skip rfl (wn_some rfl rfl rfl hb3 rfl) rfl ?_
        -- 17
        refine et_skip 17 (by kernel_rfl) rfl (by kernel_rfl) (wn_some rfl rfl rfl hb3 rfl) rfl ?_
        -- 18
        refine et_quiet 18 (by kernel_rfl) rfl (by kernel_rfl) (wn_some rfl rfl rfl hb2 rfl) (op_pick_f (v := .bool _) rfl hb3 rfl) rfl ?_
        -- 22
        refine et_quiet 22 (by kernel_rfl) rfl (by kernel_rfl) (wn_some rfl rfl rfl hb2 rfl) (op_bneq Try.underlying4 rfl rfl) rfl ?_
        -- 23
        refine et_quiet 23 (by kernel_rfl) rfl (by kernel_rfl) (wn_none rfl) (op_pick_f (v := .bool _) rfl hb2 rfl) rfl ?_
        refine et_nil_then (by kernel_rfl) ?_
        refine cd_cond rfl (fun hb4 => ?_) (fun hb4 => ?_)
        · have hp4 := hb4
          (try simp only [decide_eq_true_eq, decide_eq_false_iff_not, Bool.not_eq_true', Bool.not_eq_false', ne_eq, Decidable.not_not] at hp4)
          exact absurd hb4 (by simp [bl_ne hab])
        · have hp4 := hb4
          (try simp only [decide_eq_true_eq, decide_eq_false_iff_not, Bool.not_eq_true', Bool.not_eq_false', ne_eq, Decidable.not_not] at hp4)
          refine cd_skip ?_
          refine px_then ?_
          refine cd_seq ?_
          refine cd_sr ?_   -- 5
          refine ol_q (wn_none rfl) (op_lda (L := rootC _) 2 ag_26 rfl rfl (rootC_take' _) (by simp [rootC_len])) rfl ?_
          refine ol_q (wn_none rfl) (op_lda (L := rootC _) 1 ag_26 rfl rfl (rootC_take' _) (by simp [rootC_len])) rfl ?_
          refine ol_i (wn_none rfl) (os_call cb_15 rfl (fun w s => Less_calls _ _  s )) rfl ?_; rintro _ l ⟨rfl, rfl⟩
          refine ol_q (wn_none rfl) (op_move (v := .bool _) rfl) rfl ?_
          refine ol_split 36 rfl (fun hb5 => ?_) (fun hb5 => ?_)
          · have hp5 := hb5
            (try simp only [decide_eq_true_eq, decide_eq_false_iff_not, Bool.not_eq_true', Bool.not_eq_false', ne_eq, Decidable.not_not] at hp5)
            have h5 : Op.bytesLess a.1 b.1 = true := hb5
            refine ol_q (wn_some rfl rfl rfl hb5 rfl) (op_lda (L := rootC _) 1 ag_26 rfl rfl (rootC_take' _) (by simp [rootC_len])) rfl ?_
            refine ol_q (wn_some rfl rfl rfl hb5 rfl) (op_lda (L := rootC _) 0 ag_26 rfl rfl (rootC_take' _) (by simp [rootC_len])) rfl ?_
            refine ol_i (wn_some rfl rfl rfl hb5 rfl) (os_call cb_15 rfl (fun w s => Less_calls _ _  s )) rfl ?_; rintro _ l ⟨rfl, rfl⟩
            refine ol_q (wn_none rfl) (op_pick_t (v := .bool _) rfl hb5 rfl) rfl ?_
            refine ol_q (wn_none rfl) (op_move (v := .bool _) rfl) rfl ?_
            refine ol_split 41 rfl (fun hb6 => ?_) (fun hb6 => ?_)
            · have hp6 := hb6
              (try simp only [decide_eq_true_eq, decide_eq_false_iff_not, Bool.not_eq_true', Bool.not_eq_false', ne_eq, Decidable.not_not] at hp6)
              have h6 : Op.bytesLess b.1 c.1 = true := hb6
              refine ol_q (wn_some rfl rfl rfl hb6 rfl) (op_lda (L := rootC _) 2 ag_26 rfl rfl (rootC_take' _) (by simp [rootC_len])) rfl ?_
              refine ol_q (wn_some rfl rfl rfl hb6 rfl) (op_lda (L := rootC _) 0 ag_26 rfl rfl (rootC_take' _) (by simp [rootC_len])) rfl ?_
              refine ol_i (wn_some rfl rfl rfl hb6 rfl) (os_call cb_15 rfl (fun w s => Less_calls _ _  s )) rfl ?_; rintro _ l ⟨rfl, rfl⟩
              refine ol_q (wn_some rfl rfl rfl hb6 rfl) (op_not rfl) rfl ?_
              refine ol_q (wn_none rfl) (op_pick_t (v := .bool _) rfl hb6 rfl) rfl ?_
              refine ol_nil_then ?_
              refine cd_cond rfl (fun hb7 => ?_) (fun hb7 => ?_)
              · have hp7 := hb7
                (try simp only [decide_eq_true_eq, decide_eq_false_iff_not, Bool.not_eq_true', Bool.not_eq_false', ne_eq, Decidable.not_not] at hp7)
                exact absurd hb7 (by rw [bl_trans h5 h6]; simp)
              · have hp7 := hb7
                (try simp only [decide_eq_true_eq, decide_eq_false_iff_not, Bool.not_eq_true', Bool.not_eq_false', ne_eq, Decidable.not_not] at hp7)
                refine cd_skip ?_
                refine px_then ?_
                refine cd_seq ?_   -- 7
                refine cd_drawt (M := []) mx [2, 4] 6 (by kernel_rfl) rfl rfl ?_
                dsimp only [List.take_succ_cons, List.take_zero, List.drop_succ_cons, List.drop_zero]
                refine rg_q (wn_none rfl) (op_lda (L := rootC _) 2 ag_26 rfl rfl (rootC_take' _) (by simp [rootC_len])) rfl rfl ?_
                refine rg_q (wn_none rfl) (op_lda (L := rootC _) 1 ag_26 rfl rfl (rootC_take' _) (by simp [rootC_len])) rfl rfl ?_
                refine rg_i (wn_none rfl) (os_call cb_15 rfl (fun w s => Less_calls _ _  s )) rfl rfl ?_; rintro _ l ⟨rfl, rfl⟩; refine ⟨[], rfl, ?_⟩
                refine rg_q (wn_none rfl) (op_lda (L := rootC _) 2 ag_26 rfl rfl (rootC_take' _) (by simp [rootC_len])) rfl rfl ?_
                refine rg_i (wn_none rfl) (os_call cb_14 rfl (fun w s => Show_calls _  s )) rfl rfl ?_; rintro _ l ⟨rfl, rfl⟩; refine ⟨[], rfl, ?_⟩
                refine rg_q (wn_none rfl) (op_lda (L := rootC _) 1 ag_26 rfl rfl (rootC_take' _) (by simp [rootC_len])) rfl rfl ?_
                refine rg_tail0 ?_
                refine ol_i (wn_none rfl) (os_call cb_14 rfl (fun w s => Show_calls _  s )) rfl ?_; rintro _ l ⟨rfl, rfl⟩
                refine ol_q (wn_none rfl) (op_slss rfl rfl) rfl ?_
                refine ol_q (wn_none rfl) (op_beql Try.underlying4 rfl rfl) rfl ?_
                refine ol_q (wn_none rfl) (op_move (v := .bool _) rfl) rfl ?_
                refine ol_split 56 rfl (fun hb8 => ?_) (fun hb8 => ?_)
                · have hp8 := hb8
                  (try simp only [decide_eq_true_eq, decide_eq_false_iff_not, Bool.not_eq_true', Bool.not_eq_false', ne_eq, Decidable.not_not] at hp8)
                  refine ol_q (wn_some rfl rfl rfl hb8 rfl) (op_lda (L := rootC _) 2 ag_26 rfl rfl (rootC_take' _) (by simp [rootC_len])) rfl ?_
                  refine ol_i (wn_some rfl rfl rfl hb8 rfl) (os_call cb_14 rfl (fun w s => Show_calls _  s )) rfl ?_; rintro _ l ⟨rfl, rfl⟩
                  refine ol_q (wn_some rfl rfl rfl hb8 rfl) (op_len_string Try.underlying9 rfl) rfl ?_
                  refine ol_q (wn_some rfl rfl rfl hb8 rfl) (op_eq rfl rfl) rfl ?_
                  refine ol_q (wn_none rfl) (op_pick_t (v := .bool _) rfl hb8 rfl) rfl ?_
                  refine ol_q (wn_none rfl) (op_assign (v := .bool _) rfl) rfl ?_
                  refine ol_nil_then ?_
                  refine cd_ret ?_
                  exact px_ret1 rfl (v := .bool _) rfl (fun _ s => (((s.del 2).del 1).del 0)) ⟨congrArg Value.bool (by first | rfl | (simp [hexS_len, root_len]; done)), rfl⟩
                · have hp8 := hb8
                  (try simp only [decide_eq_true_eq, decide_eq_false_iff_not, Bool.not_eq_true', Bool.not_eq_false', ne_eq, Decidable.not_not] at hp8)
                  exact absurd hb8 (by rw [bl_hex]; simp)
            · have hp6 := hb6
              (try simp only [decide_eq_true_eq, decide_eq_false_iff_not, Bool.not_eq_true', Bool.not_eq_false', ne_eq, Decidable.not_not] at hp6)
              refine ol_skip (wn_some rfl rfl rfl hb6 rfl) rfl ?_
              refine ol_skip (wn_some rfl rfl rfl hb6 rfl) rfl ?_
              refine ol_skip (wn_some rfl rfl rfl hb6 rfl) rfl ?_
              refine ol_skip (wn_some rfl rfl rfl hb6 rfl) rfl ?_
              refine ol_q (wn_none rfl) (op_pick_f (v := .bool _) rfl hb6 rfl) rfl ?_
              refine ol_nil_then ?_
              refine cd_cond_f rfl rfl ?_
              refine cd_skip ?_
              refine px_then ?_
              refine cd_seq ?_   -- 7
              refine cd_drawt (M := []) mx [2, 4] 6 (by kernel_rfl) rfl rfl ?_
              dsimp only [List.take_succ_cons, List.take_zero, List.drop_succ_cons, List.drop_zero]
              refine rg_q (wn_none rfl) (op_lda (L := rootC _) 2 ag_26 rfl rfl (rootC_take' _) (by simp [rootC_len])) rfl rfl ?_
              refine rg_q (wn_none rfl) (op_lda (L := rootC _) 1 ag_26 rfl rfl (rootC_take' _) (by simp [rootC_len])) rfl rfl ?_
              refine rg_i (wn_none rfl) (os_call cb_15 rfl (fun w s => Less_calls _ _  s )) rfl rfl ?_; rintro _ l ⟨rfl, rfl⟩; refine ⟨[], rfl, ?_⟩
              refine rg_q (wn_none rfl) (op_lda (L := rootC _) 2 ag_26 rfl rfl (rootC_take' _) (by simp [rootC_len])) rfl rfl ?_
              refine rg_i (wn_none rfl) (os_call cb_14 rfl (fun w s => Show_calls _  s )) rfl rfl ?_; rintro _ l ⟨rfl, rfl⟩; refine ⟨[], rfl, ?_⟩
              refine rg_q (wn_none rfl) (op_lda (L := rootC _) 1 ag_26 rfl rfl (rootC_take' _) (by simp [rootC_len])) rfl rfl ?_
              refine rg_tail0 ?_
              refine ol_i (wn_none rfl) (os_call cb_14 rfl (fun w s => Show_calls _  s )) rfl ?_; rintro _ l ⟨rfl, rfl⟩
              refine ol_q (wn_none rfl) (op_slss rfl rfl) rfl ?_
              refine ol_q (wn_none rfl) (op_beql Try.underlying4 rfl rfl) rfl ?_
              refine ol_q (wn_none rfl) (op_move (v := .bool _) rfl) rfl ?_
              refine ol_split 56 rfl (fun hb9 => ?_) (fun hb9 => ?_)
              · have hp9 := hb9
                (try simp only [decide_eq_true_eq, decide_eq_false_iff_not, Bool.not_eq_true', Bool.not_eq_false', ne_eq, Decidable.not_not] at hp9)
                refine ol_q (wn_some rfl rfl rfl hb9 rfl) (op_lda (L := rootC _) 2 ag_26 rfl rfl (rootC_take' _) (by simp [rootC_len])) rfl ?_
                refine ol_i (wn_some rfl rfl rfl hb9 rfl) (os_call cb_14 rfl (fun w s => Show_calls _  s )) rfl ?_; rintro _ l ⟨rfl, rfl⟩
                refine ol_q (wn_some rfl rfl rfl hb9 rfl) (op_len_string Try.underlying9 rfl) rfl ?_
                refine ol_q (wn_some rfl rfl rfl hb9 rfl) (op_eq rfl rfl) rfl ?_
                refine ol_q (wn_none rfl) (op_pick_t (v := .bool _) rfl hb9 rfl) rfl ?_
                refine ol_q (wn_none rfl) (op_assign (v := .bool _) rfl) rfl ?_
                refine ol_nil_then ?_
                refine cd_ret ?_
                exact px_ret1 rfl (v := .bool _) rfl (fun _ s => (((s.del 2).del 1).del 0)) ⟨congrArg Value.bool (by first | rfl | (simp [hexS_len, root_len]; done)), rfl⟩
              · have hp9 := hb9
                (try simp only [decide_eq_true_eq, decide_eq_false_iff_not, Bool.not_eq_true', Bool.not_eq_false', ne_eq, Decidable.not_not] at hp9)
                exact absurd hb9 (by rw [bl_hex]; simp)
          · have hp5 := hb5
            (try simp only [decide_eq_true_eq, decide_eq_false_iff_not, Bool.not_eq_true', Bool.not_eq_false', ne_eq, Decidable.not_not] at hp5)
            refine ol_skip (wn_some rfl rfl rfl hb5 rfl) rfl ?_
            refine ol_skip (wn_some rfl rfl rfl hb5 rfl) rfl ?_
            refine ol_skip (wn_some rfl rfl rfl hb5 rfl) rfl ?_
            refine ol_q (wn_none rfl) (op_pick_f (v := .bool _) rfl hb5 rfl) rfl ?_
            refine ol_q (wn_none rfl) (op_move (v := .bool _) rfl) rfl ?_
            refine ol_skip (wn_some rfl rfl rfl rfl rfl) rfl ?_
            refine ol_skip (wn_some rfl rfl rfl rfl rfl) rfl ?_
            refine ol_skip (wn_some rfl rfl rfl rfl rfl) rfl ?_
            refine ol_skip (wn_some rfl rfl rfl rfl rfl) rfl ?_
            refine ol_q (wn_none rfl) (op_pick_f (v := .bool _) rfl rfl rfl) rfl ?_
            refine ol_nil_then ?_
            refine cd_cond_f rfl rfl ?_
            refine cd_skip ?_
            refine px_then ?_
            refine cd_seq ?_   -- 7
            refine cd_drawt (M := []) mx [2, 4] 6 (by kernel_rfl) rfl rfl ?_
            dsimp only [List.take_succ_cons, List.take_zero, List.drop_succ_cons, List.drop_zero]
            refine rg_q (wn_none rfl) (op_lda (L := rootC _) 2 ag_26 rfl rfl (rootC_take' _) (by simp [rootC_len])) rfl rfl ?_
            refine rg_q (wn_none rfl) (op_lda (L := rootC _) 1 ag_26 rfl rfl (rootC_take' _) (by simp [rootC_len])) rfl rfl ?_
            refine rg_i (wn_none rfl) (os_call cb_15 rfl (fun w s => Less_calls _ _  s )) rfl rfl ?_; rintro _ l ⟨rfl, rfl⟩; refine ⟨[], rfl, ?_⟩
            refine rg_q (wn_none rfl) (op_lda (L := rootC _) 2 ag_26 rfl rfl (rootC_take' _) (by simp [rootC_len])) rfl rfl ?_
            refine rg_i (wn_none rfl) (os_call cb_14 rfl (fun w s => Show_calls _  s )) rfl rfl ?_; rintro _ l ⟨rfl, rfl⟩; refine ⟨[], rfl, ?_⟩
            refine rg_q (wn_none rfl) (op_lda (L := rootC _) 1 ag_26 rfl rfl (rootC_take' _) (by simp [rootC_len])) rfl rfl ?_
            refine rg_tail0 ?_
            refine ol_i (wn_none rfl) (os_call cb_14 rfl (fun w s => Show_calls _  s )) rfl ?_; rintro _ l ⟨rfl, rfl⟩
            refine ol_q (wn_none rfl) (op_slss rfl rfl) rfl ?_
            refine ol_q (wn_none rfl) (op_beql Try.underlying4 rfl rfl) rfl ?_
            refine ol_q (wn_none rfl) (op_move (v := .bool _) rfl) rfl ?_
            refine ol_split 56 rfl (fun hb10 => ?_) (fun hb10 => ?_)
            · have hp10 := hb10
              (try simp only [decide_eq_true_eq, decide_eq_false_iff_not, Bool.not_eq_true', Bool.not_eq_false', ne_eq, Decidable.not_not] at hp10)
              refine ol_q (wn_some rfl rfl rfl hb10 rfl) (op_lda (L := rootC _) 2 ag_26 rfl rfl (rootC_take' _) (by simp [rootC_len])) rfl ?_
              refine ol_i (wn_some rfl rfl rfl hb10 rfl) (os_call cb_14 rfl (fun w s => Show_calls _  s )) rfl ?_; rintro _ l ⟨rfl, rfl⟩
              refine ol_q (wn_some rfl rfl rfl hb10 rfl) (op_len_string Try.underlying9 rfl) rfl ?_
              refine ol_q (wn_some rfl rfl rfl hb10 rfl) (op_eq rfl rfl) rfl ?_
              refine ol_q (wn_none rfl) (op_pick_t (v := .bool _) rfl hb10 rfl) rfl ?_
              refine ol_q (wn_none rfl) (op_assign (v := .bool _) rfl) rfl ?_
              refine ol_nil_then ?_
              refine cd_ret ?_
              exact px_ret1 rfl (v := .bool _) rfl (fun _ s => (((s.del 2).del 1).del 0)) ⟨congrArg Value.bool (by first | rfl | (simp [hexS_len, root_len]; done)), rfl⟩
            · have hp10 := hb10
              (try simp only [decide_eq_true_eq, decide_eq_false_iff_not, Bool.not_eq_true', Bool.not_eq_false', ne_eq, Decidable.not_not] at hp10)
              exact absurd hb10 (by rw [bl_hex]; simp)
  · have hp1 := hb1
    (try simp only [decide_eq_true_eq, decide_eq_false_iff_not, Bool.not_eq_true', Bool.not_eq_false', ne_eq, Decidable.not_not] at hp1)
    have hab : Op.bytesLess a.1 b.1 = false := hb1
    -- 4
    refine et_skip 4 (by kernel_rfl) rfl (by kernel_rfl) (wn_some rfl rfl rfl hb1 rfl) rfl ?_
    -- 5
    refine et_skip 5 (by kernel_rfl) rfl (by kernel_rfl) (wn_some rfl rfl rfl hb1 rfl) rfl ?_
    refine et_1 (i := 6) (by kernel_rfl) ?_
    refine ei_skip rfl (wn_some rfl rfl rfl hb1 rfl) rfl ?_
    -- 7
    refine et_quiet 7 (by kernel_rfl) rfl (by kernel_rfl) (wn_none rfl) (op_pick_f (v := .bool _) rfl hb1 rfl) rfl ?_
    -- 8
    refine et_quiet 8 (by kernel_rfl) rfl (by kernel_rfl) (wn_none rfl) (op_move (v := .bool _) rfl) rfl ?_
    -- 9
    refine et_quiet 9 (by kernel_rfl) rfl (by kernel_rfl) (wn_some rfl rfl rfl rfl rfl) (op_lda (L := rootC _) 2 ag_26 rfl rfl (rootC_take' _) (by simp [rootC_len])) rfl ?_
    -- 10
    refine et_quiet 10 (by kernel_rfl) rfl (by kernel_rfl) (wn_some rfl rfl rfl rfl rfl) (op_lda (L := rootC _) 1 ag_26 rfl rfl (rootC_take' _) (by simp [rootC_len])) rfl ?_
    -- 19
    refine et_quiet 19 (by kernel_rfl) rfl (by kernel_rfl) (wn_some rfl rfl rfl rfl rfl) (op_lda (L := rootC _) 2 ag_26 rfl rfl (rootC_take' _) (by simp [rootC_len])) rfl ?_
    -- 20
    refine et_quiet 20 (by kernel_rfl) rfl (by kernel_rfl) (wn_some rfl rfl rfl rfl rfl) (op_lda (L := rootC _) 1 ag_26 rfl rfl (rootC_take' _) (by simp [rootC_len])) rfl ?_
    -- 21
    refine et_quiet 21 (by kernel_rfl) rfl (by kernel_rfl) (wn_some rfl rfl rfl rfl rfl) (op_eqroot _ _ rB_26 rfl rfl) rfl ?_
    refine et_1 (i := 11) (by kernel_rfl) ?_
    refine ei_i rfl rfl (wn_some rfl rfl rfl rfl rfl) (os_call cb_15 rfl (fun w s => Less_calls _ _  s )) rfl ?_; rintro _ l ⟨rfl, rfl⟩; refine ⟨[], rfl, ?_⟩
    -- 12
    refine et_quiet 12 (by kernel_rfl) rfl (by kernel_rfl) (wn_some rfl rfl rfl rfl rfl) (op_not rfl) rfl ?_
    -- 13
    refine et_quiet 13 (by kernel_rfl) rfl (by kernel_rfl) (wn_some rfl rfl rfl rfl rfl) (op_move (v := .bool _) rfl) rfl ?_
    refine et_split 22 rfl (fun hb11 => ?_) (fun hb11 => ?_)
    · have hp11 := hb11
      (try simp only [decide_eq_true_eq, decide_eq_false_iff_not, Bool.not_eq_true', Bool.not_eq_false', ne_eq, Decidable.not_not] at hp11)
      -- 14
      refine et_quiet 14 (by kernel_rfl) rfl (by kernel_rfl) (wn_some rfl rfl rfl hb11 rfl) (op_lda (L := rootC _) 1 ag_26 rfl rfl (rootC_take' _) (by simp [rootC_len])) rfl ?_
      -- 15
      refine et_quiet 15 (by kernel_rfl) rfl (by kernel_rfl) (wn_some rfl rfl rfl hb11 rfl) (op_lda (L := rootC _) 2 ag_26 rfl rfl (rootC_take' _) (by simp [rootC_len])) rfl ?_
      refine et_1 (i := 16) (by kernel_rfl) ?_
      refine ei_i rfl rfl (wn_some rfl rfl rfl hb11 rfl) (os_call cb_15 rfl (fun w s => Less_calls _ _  s )) rfl ?_; rintro _ l ⟨rfl, rfl⟩; refine ⟨[], rfl, ?_⟩
      -- 17
      refine et_quiet 17 (by kernel_rfl) rfl (by kernel_rfl) (wn_some rfl rfl rfl hb11 rfl) (op_not rfl) rfl ?_
      -- 18
      refine et_quiet 18 (by kernel_rfl) rfl (by kernel_rfl) (wn_some rfl rfl rfl rfl rfl) (op_pick_t (v := .bool _) rfl hb11 rfl) rfl ?_
      -- 22
      refine et_quiet 22 (by kernel_rfl) rfl (by kernel_rfl) (wn_some rfl rfl rfl rfl rfl) (op_bneq Try.underlying4 rfl rfl) rfl ?_
      -- 23
      refine et_quiet 23 (by kernel_rfl) rfl (by kernel_rfl) (wn_none rfl) (op_pick_f (v := .bool _) rfl rfl rfl) rfl ?_
      refine et_nil_then (by kernel_rfl) ?_
      refine cd_cond rfl (fun hb12 => ?_) (fun hb12 => ?_)
      · have hp12 := hb12
        (try simp only [decide_eq_true_eq, decide_eq_false_iff_not, Bool.not_eq_true', Bool.not_eq_false', ne_eq, Decidable.not_not] at hp12)
        exact absurd hb12 (by have h9 := bl_tri (a := a.1) (b := b.1) (by rw [a.2, b.2]) hab; cases e : Op.bytesLess b.1 a.1 with | false => (have e2 : a = b := Subtype.ext (h9 e); simp [e2]) | true => (have e2 : a ≠ b := fun h => bl_ne e h.symm; simp [e2]))
      · have hp12 := hb12
        (try simp only [decide_eq_true_eq, decide_eq_false_iff_not, Bool.not_eq_true', Bool.not_eq_false', ne_eq, Decidable.not_not] at hp12)
        refine cd_skip ?_
        refine px_then ?_
        refine cd_seq ?_
        refine cd_sr ?_   -- 5
        refine ol_q (wn_none rfl) (op_lda (L := rootC _) 2 ag_26 rfl rfl (rootC_take' _) (by simp [rootC_len])) rfl ?_
        refine ol_q (wn_none rfl) (op_lda (L := rootC _) 1 ag_26 rfl rfl (rootC_take' _) (by simp [rootC_len])) rfl ?_
        refine ol_i (wn_none rfl) (os_call cb_15 rfl (fun w s => Less_calls _ _  s )) rfl ?_; rintro _ l ⟨rfl, rfl⟩
        refine ol_q (wn_none rfl) (op_move (v := .bool _) rfl) rfl ?_
        refine ol_split 36 rfl (fun hb13 => ?_) (fun hb13 => ?_)
        · have hp13 := hb13
          (try simp only [decide_eq_true_eq, decide_eq_false_iff_not, Bool.not_eq_true', Bool.not_eq_false', ne_eq, Decidable.not_not] at hp13)
          have h5 : Op.bytesLess a.1 b.1 = true := hb13
          refine ol_q (wn_some rfl rfl rfl hb13 rfl) (op_lda (L := rootC _) 1 ag_26 rfl rfl (rootC_take' _) (by simp [rootC_len])) rfl ?_
          refine ol_q (wn_some rfl rfl rfl hb13 rfl) (op_lda (L := rootC _) 0 ag_26 rfl rfl (rootC_take' _) (by simp [rootC_len])) rfl ?_
          refine ol_i (wn_some rfl rfl rfl hb13 rfl) (os_call cb_15 rfl (fun w s => Less_calls _ _  s )) rfl ?_; rintro _ l ⟨rfl, rfl⟩
          refine ol_q (wn_none rfl) (op_pick_t (v := .bool _) rfl hb13 rfl) rfl ?_
          refine ol_q (wn_none rfl) (op_move (v := .bool _) rfl) rfl ?_
          refine ol_split 41 rfl (fun hb14 => ?_) (fun hb14 => ?_)
          · have hp14 := hb14
            (try simp only [decide_eq_true_eq, decide_eq_false_iff_not, Bool.not_eq_true', Bool.not_eq_false', ne_eq, Decidable.not_not] at hp14)
            have h6 : Op.bytesLess b.1 c.1 = true := hb14
            refine ol_q (wn_some rfl rfl rfl hb14 rfl) (op_lda (L := rootC _) 2 ag_26 rfl rfl (rootC_take' _) (by simp [rootC_len])) rfl ?_
            refine ol_q (wn_some rfl rfl rfl hb14 rfl) (op_lda (L := rootC _) 0 ag_26 rfl rfl (rootC_take' _) (by simp [rootC_len])) rfl ?_
            refine ol_i (wn_some rfl rfl rfl hb14 rfl) (os_call cb_15 rfl (fun w s => Less_calls _ _  s )) rfl ?_; rintro _ l ⟨rfl, rfl⟩
            refine ol_q (wn_some rfl rfl rfl hb14 rfl) (op_not rfl) rfl ?_
            refine ol_q (wn_none rfl) (op_pick_t (v := .bool _) rfl hb14 rfl) rfl ?_
            refine ol_nil_then ?_
            refine cd_cond rfl (fun hb15 => ?_) (fun hb15 => ?_)
            · have hp15 := hb15
              (try simp only [decide_eq_true_eq, decide_eq_false_iff_not, Bool.not_eq_true', Bool.not_eq_false', ne_eq, Decidable.not_not] at hp15)
              exact absurd hb15 (by rw [bl_trans h5 h6]; simp)
            · have hp15 := hb15
              (try simp only [decide_eq_true_eq, decide_eq_false_iff_not, Bool.not_eq_true', Bool.not_eq_false', ne_eq, Decidable.not_not] at hp15)
              refine cd_skip ?_
              refine px_then ?_
              refine cd_seq ?_   -- 7
              refine cd_drawt (M := []) mx [2, 4] 6 (by kernel_rfl) rfl rfl ?_
              dsimp only [List.take_succ_cons, List.take_zero, List.drop_succ_cons, List.drop_zero]
              refine rg_q (wn_none rfl) (op_lda (L := rootC _) 2 ag_26 rfl rfl (rootC_take' _) (by simp [rootC_len])) rfl rfl ?_
              refine rg_q (wn_none rfl) (op_lda (L := rootC _) 1 ag_26 rfl rfl (rootC_take' _) (by simp [rootC_len])) rfl rfl ?_
              refine rg_i (wn_none rfl) (os_call cb_15 rfl (fun w s => Less_calls _ _  s )) rfl rfl ?_; rintro _ l ⟨rfl, rfl⟩; refine ⟨[], rfl, ?_⟩
              refine rg_q (wn_none rfl) (op_lda (L := rootC _) 2 ag_26 rfl rfl (rootC_take' _) (by simp [rootC_len])) rfl rfl ?_
              refine rg_i (wn_none rfl) (os_call cb_14 rfl (fun w s => Show_calls _  s )) rfl rfl ?_; rintro _ l ⟨rfl, rfl⟩; refine ⟨[], rfl, ?_⟩
              refine rg_q (wn_none rfl) (op_lda (L := rootC _) 1 ag_26 rfl rfl (rootC_take' _) (by simp [rootC_len])) rfl rfl ?_
              refine rg_tail0 ?_
              refine ol_i (wn_none rfl) (os_call cb_14 rfl (fun w s => Show_calls _  s )) rfl ?_; rintro _ l ⟨rfl, rfl⟩
              refine ol_q (wn_none rfl) (op_slss rfl rfl) rfl ?_
              refine ol_q (wn_none rfl) (op_beql Try.underlying4 rfl rfl) rfl ?_
              refine ol_q (wn_none rfl) (op_move (v := .bool _) rfl) rfl ?_
              refine ol_split 56 rfl (fun hb16 => ?_) (fun hb16 => ?_)
              · have hp16 := hb16
                (try simp only [decide_eq_true_eq, decide_eq_false_iff_not, Bool.not_eq_true', Bool.not_eq_false', ne_eq, Decidable.not_not] at hp16)
                refine ol_q (wn_some rfl rfl rfl hb16 rfl) (op_lda (L := rootC _) 2 ag_26 rfl rfl (rootC_take' _) (by simp [rootC_len])) rfl ?_
                refine ol_i (wn_some rfl rfl rfl hb16 rfl) (os_call cb_14 rfl (fun w s => Show_calls _  s )) rfl ?_; rintro _ l ⟨rfl, rfl⟩
                refine ol_q (wn_some rfl rfl rfl hb16 rfl) (op_len_string Try.underlying9 rfl) rfl ?_
                refine ol_q (wn_some rfl rfl rfl hb16 rfl) (op_eq rfl rfl) rfl ?_
                refine ol_q (wn_none rfl) (op_pick_t (v := .bool _) rfl hb16 rfl) rfl ?_
                refine ol_q (wn_none rfl) (op_assign (v := .bool _) rfl) rfl ?_
                refine ol_nil_then ?_
                refine cd_ret ?_
                exact px_ret1 rfl (v := .bool _) rfl (fun _ s => (((s.del 2).del 1).del 0)) ⟨congrArg Value.bool (by first | rfl | (simp [hexS_len, root_len]; done)), rfl⟩
              · have hp16 := hb16
                (try simp only [decide_eq_true_eq, decide_eq_false_iff_not, Bool.not_eq_true', Bool.not_eq_false', ne_eq, Decidable.not_not] at hp16)
                exact absurd hb16 (by rw [bl_hex]; simp)
          · have hp14 := hb14
            (try simp only [decide_eq_true_eq, decide_eq_false_iff_not, Bool.not_eq_true', Bool.not_eq_false', ne_eq, Decidable.not_not] at hp14)
            refine ol_skip (wn_some rfl rfl rfl hb14 rfl) rfl ?_
            refine ol_skip (wn_some rfl rfl rfl hb14 rfl) rfl ?_
            refine ol_skip (wn_some rfl rfl rfl hb14 rfl) rfl ?_
            refine ol_skip (wn_some rfl rfl rfl hb14 rfl) rfl ?_
            refine ol_q (wn_none rfl) (op_pick_f (v := .bool _) rfl hb14 rfl) rfl ?_
            refine ol_nil_then ?_
            refine cd_cond_f rfl rfl ?_
            refine cd_skip ?_
            refine px_then ?_
            refine cd_seq ?_   -- 7
            refine cd_drawt (M := []) mx [2, 4] 6 (by kernel_rfl) rfl rfl ?_
            dsimp only [List.take_succ_cons, List.take_zero, List.drop_succ_cons, List.drop_zero]
            refine rg_q (wn_none rfl) (op_lda (L := rootC _) 2 ag_26 rfl rfl (rootC_take' _) (by simp [rootC_len])) rfl rfl ?_
            refine rg_q (wn_none rfl) (op_lda (L := rootC _) 1 ag_26 rfl rfl (rootC_take' _) (by simp [rootC_len])) rfl rfl ?_
            refine rg_i (wn_none rfl) (os_call cb_15 rfl (fun w s => Less_calls _ _  s )) rfl rfl ?_; rintro _ l ⟨rfl, rfl⟩; refine ⟨[], rfl, ?_⟩
            refine rg_q (wn_none rfl) (op_lda (L := rootC _) 2 ag_26 rfl rfl (rootC_take' _) (by simp [rootC_len])) rfl rfl ?_
            refine rg_i (wn_none rfl) (os_call cb_14 rfl (fun w s => Show_calls _  s )) rfl rfl ?_; rintro _ l ⟨rfl, rfl⟩; refine ⟨[], rfl, ?_⟩
            refine rg_q (wn_none rfl) (op_lda (L := rootC _) 1 ag_26 rfl rfl (rootC_take' _) (by simp [rootC_len])) rfl rfl ?_
            refine rg_tail0 ?_
            refine ol_i (wn_none rfl) (os_call cb_14 rfl (fun w s => Show_calls _  s )) rfl ?_; rintro _ l ⟨rfl, rfl⟩
            refine ol_q (wn_none rfl) (op_slss rfl rfl) rfl ?_
            refine ol_q (wn_none rfl) (op_beql Try.underlying4 rfl rfl) rfl ?_
            refine ol_q (wn_none rfl) (op_move (v := .bool _) rfl) rfl ?_
            refine ol_split 56 rfl (fun hb17 => ?_) (fun hb17 => ?_)
            · have hp17 := hb17
              (try simp only [decide_eq_true_eq, decide_eq_false_iff_not, Bool.not_eq_true', Bool.not_eq_false', ne_eq, Decidable.not_not] at hp17)
              refine ol_q (wn_some rfl rfl rfl hb17 rfl) (op_lda (L := rootC _) 2 ag_26 rfl rfl (rootC_take' _) (by simp [rootC_len])) rfl ?_
              refine ol_i (wn_some rfl rfl rfl hb17 rfl) (os_call cb_14 rfl (fun w s => Show_calls _  s )) rfl ?_; rintro _ l ⟨rfl, rfl⟩
              refine ol_q (wn_some rfl rfl rfl hb17 rfl) (op_len_string Try.underlying9 rfl) rfl ?_
              refine ol_q (wn_some rfl rfl rfl hb17 rfl) (op_eq rfl rfl) rfl ?_
              refine ol_q (wn_none rfl) (op_pick_t (v := .bool _) rfl hb17 rfl) rfl ?_
              refine ol_q (wn_none rfl) (op_assign (v := .bool _) rfl) rfl ?_
              refine ol_nil_then ?_
              refine cd_ret ?_
              exact px_ret1 rfl (v := .bool _) rfl (fun _ s => (((s.del 2).del 1).del 0)) ⟨congrArg Value.bool (by first | rfl | (simp [hexS_len, root_len]; done)), rfl⟩
            · have hp17 := hb17
              (try simp only [decide_eq_true_eq, decide_eq_false_iff_not, Bool.not_eq_true', Bool.not_eq_false', ne_eq, Decidable.not_not] at hp17)
              exact absurd hb17 (by rw [bl_hex]; simp)
        · have hp13 := hb13
          (try simp only [decide_eq_true_eq, decide_eq_false_iff_not, Bool.not_eq_true', Bool.not_eq_false', ne_eq, Decidable.not_not] at hp13)
          refine ol_skip (wn_some rfl rfl rfl hb13 rfl) rfl ?_
          refine ol_skip (wn_some rfl rfl rfl hb13 rfl) rfl ?_
          refine ol_skip (wn_some rfl rfl rfl hb13 rfl) rfl ?_
          refine ol_q (wn_none rfl) (op_pick_f (v := .bool _) rfl hb13 rfl) rfl ?_
          refine ol_q (wn_none rfl) (op_move (v := .bool _) rfl) rfl ?_
          refine ol_skip (wn_some rfl rfl rfl rfl rfl) rfl ?_
          refine ol_skip (wn_some rfl rfl rfl rfl rfl) rfl ?_
          refine ol_skip (wn_some rfl rfl rfl rfl rfl) rfl ?_
          refine ol_skip (wn_some rfl rfl rfl rfl rfl) rfl ?_
          refine ol_q (wn_none rfl) (op_pick_f (v := .bool _) rfl rfl rfl) rfl ?_
          refine ol_nil_then ?_
          refine cd_cond_f rfl rfl ?_
          refine cd_skip ?_
          refine px_then ?_
          refine cd_seq ?_   -- 7
          refine cd_drawt (M := []) mx [2, 4] 6 (by kernel_rfl) rfl rfl ?_
          dsimp only [List.take_succ_cons, List.take_zero, List.drop_succ_cons, List.drop_zero]
          refine rg_q (wn_none rfl) (op_lda (L := rootC _) 2 ag_26 rfl rfl (rootC_take' _) (by simp [rootC_len])) rfl rfl ?_
          refine rg_q (wn_none rfl) (op_lda (L := rootC _) 1 ag_26 rfl rfl (rootC_take' _) (by simp [rootC_len])) rfl rfl ?_
          refine rg_i (wn_none rfl) (os_call cb_15 rfl (fun w s => Less_calls _ _  s )) rfl rfl ?_; rintro _ l ⟨rfl, rfl⟩; refine ⟨[], rfl, ?_⟩
          refine rg_q (wn_none rfl) (op_lda (L := rootC _) 2 ag_26 rfl rfl (rootC_take' _) (by simp [rootC_len])) rfl rfl ?_
          refine rg_i (wn_none rfl) (os_call cb_14 rfl (fun w s => Show_calls _  s )) rfl rfl ?_; rintro _ l ⟨rfl, rfl⟩; refine ⟨[], rfl, ?_⟩
          refine rg_q (wn_none rfl) (op_lda (L := rootC _) 1 ag_26 rfl rfl (rootC_take' _) (by simp [rootC_len])) rfl rfl ?_
          refine rg_tail0 ?_
          refine ol_i (wn_none rfl) (os_call cb_14 rfl (fun w s => Show_calls _  s )) rfl ?_; rintro _ l ⟨rfl, rfl⟩
          refine ol_q (wn_none rfl) (op_slss rfl rfl) rfl ?_
          refine ol_q (wn_none rfl) (op_beql Try.underlying4 rfl rfl) rfl ?_
          refine ol_q (wn_none rfl) (op_move (v := .bool _) rfl) rfl ?_
          refine ol_split 56 rfl (fun hb18 => ?_) (fun hb18 => ?_)
          · have hp18 := hb18
            (try simp only [decide_eq_true_eq, decide_eq_false_iff_not, Bool.not_eq_true', Bool.not_eq_false', ne_eq, Decidable.not_not] at hp18)
            refine ol_q (wn_some rfl rfl rfl hb18 rfl) (op_lda (L := rootC _) 2 ag_26 rfl rfl (rootC_take' _) (by simp [rootC_len])) rfl ?_
            refine ol_i (wn_some rfl rfl rfl hb18 rfl) (os_call cb_14 rfl (fun w s => Show_calls _  s )) rfl ?_; rintro _ l ⟨rfl, rfl⟩
            refine ol_q (wn_some rfl rfl rfl hb18 rfl) (op_len_string Try.underlying9 rfl) rfl ?_
            refine ol_q (wn_some rfl rfl rfl hb18 rfl) (op_eq rfl rfl) rfl ?_
            refine ol_q (wn_none rfl) (op_pick_t (v := .bool _) rfl hb18 rfl) rfl ?_
            refine ol_q (wn_none rfl) (op_assign (v := .bool _) rfl) rfl ?_
            refine ol_nil_then ?_
            refine cd_ret ?_
            exact px_ret1 rfl (v := .bool _) rfl (fun _ s => (((s.del 2).del 1).del 0)) ⟨congrArg Value.bool (by first | rfl | (simp [hexS_len, root_len]; done)), rfl⟩
          · have hp18 := hb18
            (try simp only [decide_eq_true_eq, decide_eq_false_iff_not, Bool.not_eq_true', Bool.not_eq_false', ne_eq, Decidable.not_not] at hp18)
            exact absurd hb18 (by rw [bl_hex]; simp)
    · have hp11 := hb11
      (try simp only [decide_eq_true_eq, decide_eq_false_iff_not, Bool.not_eq_true', Bool.not_eq_false', ne_eq, Decidable.not_not] at hp11)
      exact absurd hb11 (by rw [hab]; simp)

set_option maxRecDepth 100000 in
set_option maxHeartbeats 1000000 in
theorem ShaEmpty_calls {w0 w : World} {l : List HProp} (a b : List UInt8) (n : Int) (hs : Sat w0 w (l))  :
    Calls Try.prog 5 #[.string (B a), .string (B b), .int .i64 n] w (Ret w0 fun v l' => v = .bool true ∧ l' = l) := by
  refine calls_enter Try.func5 rfl rfl rfl hs ?_
  refine cd_sr ?_   -- 0
  refine ol_q (wn_none rfl) (op_assign (v := .bool _) rfl) rfl ?_
  refine ol_nil_then ?_
  refine cd_seq ?_
  refine cd_sr ?_   -- 1
  refine ol_i (wn_none rfl) (os_call cb_12 rfl (fun w s => sAlive_calls  s )) rfl ?_; rintro _ l ⟨rfl, rfl⟩
  refine ol_q (wn_none rfl) (op_not rfl) rfl ?_
  refine ol_nil_then ?_
  refine cd_cond_f rfl rfl ?_
  refine cd_skip ?_
  refine px_then ?_
  refine cd_seq ?_
  refine cd_sr ?_   -- 3
  refine ol_q (wn_none rfl) (op_move (v := .string _) rfl) rfl ?_
  refine ol_q (wn_none rfl) (op_len_string Try.underlying9 rfl) rfl ?_
  refine ol_q (wn_none rfl) (op_gt rfl rfl) rfl ?_
  refine ol_q (wn_none rfl) (op_move (v := .bool _) rfl) rfl ?_
  refine ol_split 14 rfl (fun hb1 => ?_) (fun hb1 => ?_)
  · have hp1 := hb1
    (try simp only [decide_eq_true_eq, decide_eq_false_iff_not, Bool.not_eq_true', Bool.not_eq_false', ne_eq, Decidable.not_not] at hp1)
    refine ol_skip (wn_some rfl rfl rfl hb1 rfl) rfl ?_
    refine ol_skip (wn_some rfl rfl rfl hb1 rfl) rfl ?_
    refine ol_skip (wn_some rfl rfl rfl hb1 rfl) rfl ?_
    refine ol_q (wn_none rfl) (op_pick_t (v := .bool _) rfl hb1 rfl) rfl ?_
    refine ol_q (wn_none rfl) (op_move (v := .bool _) rfl) rfl ?_
    refine ol_skip (wn_some rfl rfl rfl rfl rfl) rfl ?_
    refine ol_skip (wn_some rfl rfl rfl rfl rfl) rfl ?_
    refine ol_q (wn_none rfl) (op_pick_t (v := .bool _) rfl rfl rfl) rfl ?_
    refine ol_q (wn_none rfl) (op_move (v := .bool _) rfl) rfl ?_
    refine ol_skip (wn_some rfl rfl rfl rfl rfl) rfl ?_
    refine ol_skip (wn_some rfl rfl rfl rfl rfl) rfl ?_
    refine ol_q (wn_none rfl) (op_pick_t (v := .bool _) rfl rfl rfl) rfl ?_
    refine ol_nil_then ?_
    refine cd_cond_t rfl rfl ?_
    refine cd_sr ?_   -- 4
    refine ol_q (wn_none rfl) (op_assign (v := .bool _) rfl) rfl ?_
    refine ol_nil_then ?_
    refine cd_ret ?_
    refine px_thenR ?_
    exact px_ret1 rfl (v := .bool _) rfl (fun _ s => s) ⟨congrArg Value.bool (by first | rfl | (simp [flat_rep]; done)), rfl⟩
  · have hp1 := hb1
    (try simp only [decide_eq_true_eq, decide_eq_false_iff_not, Bool.not_eq_true', Bool.not_eq_false', ne_eq, Decidable.not_not] at hp1)
    refine ol_q (wn_some rfl rfl rfl hb1 rfl) (op_move (v := .string _) rfl) rfl ?_
    refine ol_q (wn_some rfl rfl rfl hb1 rfl) (op_len_string Try.underlying9 rfl) rfl ?_
    refine ol_q (wn_some rfl rfl rfl hb1 rfl) (op_gt rfl rfl) rfl ?_
    refine ol_q (wn_none rfl) (op_pick_f (v := .bool _) rfl hb1 rfl) rfl ?_
    refine ol_q (wn_none rfl) (op_move (v := .bool _) rfl) rfl ?_
    refine ol_split 19 rfl (fun hb2 => ?_) (fun hb2 => ?_)
    · have hp2 := hb2
      (try simp only [decide_eq_true_eq, decide_eq_false_iff_not, Bool.not_eq_true', Bool.not_eq_false', ne_eq, Decidable.not_not] at hp2)
      refine ol_skip (wn_some rfl rfl rfl hb2 rfl) rfl ?_
      refine ol_skip (wn_some rfl rfl rfl hb2 rfl) rfl ?_
      refine ol_q (wn_none rfl) (op_pick_t (v := .bool _) rfl hb2 rfl) rfl ?_
      refine ol_q (wn_none rfl) (op_move (v := .bool _) rfl) rfl ?_
      refine ol_skip (wn_some rfl rfl rfl rfl rfl) rfl ?_
      refine ol_skip (wn_some rfl rfl rfl rfl rfl) rfl ?_
      refine ol_q (wn_none rfl) (op_pick_t (v := .bool _) rfl rfl rfl) rfl ?_
      refine ol_nil_then ?_
      refine cd_cond_t rfl rfl ?_
      refine cd_sr ?_   -- 4
      refine ol_q (wn_none rfl) (op_assign (v := .bool _) rfl) rfl ?_
      refine ol_nil_then ?_
      refine cd_ret ?_
      refine px_thenR ?_
      exact px_ret1 rfl (v := .bool _) rfl (fun _ s => s) ⟨congrArg Value.bool (by first | rfl | (simp [flat_rep]; done)), rfl⟩
    · have hp2 := hb2
      (try simp only [decide_eq_true_eq, decide_eq_false_iff_not, Bool.not_eq_true', Bool.not_eq_false', ne_eq, Decidable.not_not] at hp2)
      refine ol_q (wn_some rfl rfl rfl hb2 rfl) (op_move (v := .int _ _) rfl) rfl ?_
      refine ol_q (wn_some rfl rfl rfl hb2 rfl) (op_lt rfl rfl) rfl ?_
      refine ol_q (wn_none rfl) (op_pick_f (v := .bool _) rfl hb2 rfl) rfl ?_
      refine ol_q (wn_none rfl) (op_move (v := .bool _) rfl) rfl ?_
      refine ol_split 23 rfl (fun hb3 => ?_) (fun hb3 => ?_)
      · have hp3 := hb3
        (try simp only [decide_eq_true_eq, decide_eq_false_iff_not, Bool.not_eq_true', Bool.not_eq_false', ne_eq, Decidable.not_not] at hp3)
        refine ol_skip (wn_some rfl rfl rfl hb3 rfl) rfl ?_
        refine ol_skip (wn_some rfl rfl rfl hb3 rfl) rfl ?_
        refine ol_q (wn_none rfl) (op_pick_t (v := .bool _) rfl hb3 rfl) rfl ?_
        refine ol_nil_then ?_
        refine cd_cond_t rfl rfl ?_
        refine cd_sr ?_   -- 4
        refine ol_q (wn_none rfl) (op_assign (v := .bool _) rfl) rfl ?_
        refine ol_nil_then ?_
        refine cd_ret ?_
        refine px_thenR ?_
        exact px_ret1 rfl (v := .bool _) rfl (fun _ s => s) ⟨congrArg Value.bool (by first | rfl | (simp [flat_rep]; done)), rfl⟩
      · have hp3 := hb3
        (try simp only [decide_eq_true_eq, decide_eq_false_iff_not, Bool.not_eq_true', Bool.not_eq_false', ne_eq, Decidable.not_not] at hp3)
        refine ol_q (wn_some rfl rfl rfl hb3 rfl) (op_move (v := .int _ _) rfl) rfl ?_
        refine ol_q (wn_some rfl rfl rfl hb3 rfl) (op_gt rfl rfl) rfl ?_
        refine ol_q (wn_none rfl) (op_pick_f (v := .bool _) rfl hb3 rfl) rfl ?_
        refine ol_nil_then ?_
        refine cd_cond rfl (fun hb4 => ?_) (fun hb4 => ?_)
        · have hp4 := hb4
          (try simp only [decide_eq_true_eq, decide_eq_false_iff_not, Bool.not_eq_true', Bool.not_eq_false', ne_eq, Decidable.not_not] at hp4)
          refine cd_sr ?_   -- 4
          refine ol_q (wn_none rfl) (op_assign (v := .bool _) rfl) rfl ?_
          refine ol_nil_then ?_
          refine cd_ret ?_
          refine px_thenR ?_
          exact px_ret1 rfl (v := .bool _) rfl (fun _ s => s) ⟨congrArg Value.bool (by first | rfl | (simp [flat_rep]; done)), rfl⟩
        · have hp4 := hb4
          (try simp only [decide_eq_true_eq, decide_eq_false_iff_not, Bool.not_eq_true', Bool.not_eq_false', ne_eq, Decidable.not_not] at hp4)
          have ha5 : a.length ≤ 500 := by omega
          have hb5 : b.length ≤ 500 := by omega
          refine cd_skip ?_
          refine px_then ?_
          obtain ⟨k, rfl⟩ : ∃ k : Nat, n = (k : Int) := ⟨n.toNat, by omega⟩
          refine cd_sr ?_   -- 5
          refine ol_q (wn_none rfl) (op_move (v := .int _ _) rfl) rfl ?_
          refine ol_i (wn_none rfl) (os_make (E := encStr) (k) ([]) sB_24 zv_9 rfl rfl rfl rfl (by omega) (by unfold maxLen; omega)) rfl ?_; rintro _ _ ⟨ao1, rfl, rfl⟩
          refine ol_q (wn_none rfl) (op_assign (v := .slice _ _ _) rfl) rfl ?_
          refine ol_nil_then ?_
          refine cd_sr ?_   -- 6
          refine ol_i (wn_none rfl) (os_bslice (E := encStr) [] (ys := ([] : List (List UInt8))) sB_24 zv_9 rfl rfl rfl rfl (by decide)) rfl ?_; rintro _ _ ⟨ao2, rfl, rfl⟩
          refine ol_q (wn_none rfl) (op_move (v := .slice _ _ _) rfl) rfl ?_
          refine ol_i (wn_none rfl) (os_append (E := encStr) rfl sB_24 zv_9 rfl rfl rfl (fun w s => (rds_row 1 rfl rfl) [] w s) rfl (by simp; omega) (by unfold maxLen; simp; omega)) rfl ?_; rintro _ _ ⟨ao3, ac3, rfl, rfl⟩
          refine ol_q (wn_none rfl) (op_move (v := .string _) rfl) rfl ?_
          refine ol_i (wn_none rfl) (os_bslice (E := encStr) [_] (ys := [_]) sB_24 zv_9 rfl rfl rfl rfl (by decide)) rfl ?_; rintro _ _ ⟨ao4, rfl, rfl⟩
          refine ol_pull1 ?_
          refine ol_i (wn_none rfl) (os_append (E := encStr) rfl sB_24 zv_9 rfl rfl rfl (fun w s => (rds_row 1 rfl rfl) [] w s) rfl (by simp; omega) (by unfold maxLen; simp; omega)) rfl ?_; rintro _ _ ⟨ao5, ac5, rfl, rfl⟩
          refine ol_q (wn_none rfl) (op_move (v := .slice _ _ _) rfl) rfl ?_
          refine ol_i (wn_none rfl) (os_append (E := encStr) rfl sB_24 zv_9 rfl rfl rfl (fun w s => (rds_row 2 rfl rfl) [] w s) rfl (by simp; omega) (by unfold maxLen; simp; omega)) rfl ?_; rintro _ _ ⟨ao6, ac6, rfl, rfl⟩
          refine ol_q (wn_none rfl) (op_assign (v := .slice _ _ _) rfl) rfl ?_
          refine ol_nil_then ?_
          refine cd_sr ?_   -- 7
          refine ol_q (wn_none rfl) (op_move (v := .slice _ _ _) rfl) rfl ?_
          refine ol_q (wn_none rfl) (op_move (v := .string _) rfl) rfl ?_
          refine ol_i (wn_none rfl) (os_bslice (E := encStr) [_] (ys := [_]) sB_24 zv_9 rfl rfl rfl rfl (by decide)) rfl ?_; rintro _ _ ⟨ao7, rfl, rfl⟩
          refine ol_pull1 ?_
          refine ol_i (wn_none rfl) (os_append (E := encStr) rfl sB_24 zv_9 rfl rfl rfl (fun w s => (rds_row 1 rfl rfl) [] w s) rfl (by simp; omega) (by unfold maxLen; simp; omega)) rfl ?_; rintro _ _ ⟨ao8, ac8, rfl, rfl⟩
          refine ol_q (wn_none rfl) (op_move (v := .slice _ _ _) rfl) rfl ?_
          refine ol_i (wn_none rfl) (os_append (E := encStr) rfl sB_24 zv_9 rfl rfl rfl (fun w s => (rds_row 3 rfl rfl) [] w s) rfl (by simp; omega) (by unfold maxLen; simp; omega)) rfl ?_; rintro _ _ ⟨ao9, ac9, rfl, rfl⟩
          refine ol_q (wn_none rfl) (op_assign (v := .slice _ _ _) rfl) rfl ?_
          refine ol_nil_then ?_
          refine cd_sr ?_   -- 8
          refine ol_q (wn_none rfl) (op_move (v := .slice _ _ _) rfl) rfl ?_
          refine ol_i (wn_none rfl) (os_call cb_13 rfl (fun w s => Of_calls _ _ _  s (rds_row 0 rfl rfl) (by first | (simp [flat_rep]; done) | (simp [flat_rep]; omega)) (by first | (simp [flat_rep]; done) | (simp [flat_rep]; omega)))) rfl ?_; rintro _ l ⟨rfl, rfl⟩
          refine ol_q (wn_none rfl) (op_move (v := .string _) rfl) rfl ?_
          refine ol_q (wn_none rfl) (op_move (v := .string _) rfl) rfl ?_
          refine ol_q (wn_none rfl) (op_sadd rfl rfl (by first | omega | (simp; omega))) rfl ?_
          refine ol_i (wn_none rfl) (os_bslice (E := encStr) [_] (ys := [_]) sB_24 zv_9 rfl rfl rfl rfl (by decide)) rfl ?_; rintro _ _ ⟨ao10, rfl, rfl⟩
          refine ol_i (wn_none rfl) (os_call cb_13 rfl (fun w s => Of_calls _ _ _  s (rds_row 0 rfl rfl) (by first | (simp [flat_rep]; done) | (simp [flat_rep]; omega)) (by first | (simp [flat_rep]; done) | (simp [flat_rep]; omega)))) rfl ?_; rintro _ l ⟨rfl, rfl⟩
          refine ol_q (wn_none rfl) (op_eqroot _ _ rB_26 rfl rfl) rfl ?_
          refine ol_q (wn_none rfl) (op_move (v := .bool _) rfl) rfl ?_
          refine ol_split 51 rfl (fun hb5 => ?_) (fun hb5 => ?_)
          · have hp5 := hb5
            (try simp only [decide_eq_true_eq, decide_eq_false_iff_not, Bool.not_eq_true', Bool.not_eq_false', ne_eq, Decidable.not_not] at hp5)
            refine ol_q (wn_some rfl rfl rfl hb5 rfl) (op_move (v := .slice _ _ _) rfl) rfl ?_
            refine ol_i (wn_some rfl rfl rfl hb5 rfl) (os_call cb_13 rfl (fun w s => Of_calls _ _ _  s (rds_row 4 rfl rfl) (by first | (simp [flat_rep]; done) | (simp [flat_rep]; omega)) (by first | (simp [flat_rep]; done) | (simp [flat_rep]; omega)))) rfl ?_; rintro _ l ⟨rfl, rfl⟩
            refine ol_i (wn_some rfl rfl rfl hb5 rfl) (os_bslice (E := encStr) [_] (ys := [[]]) sB_24 zv_9 rfl rfl rfl rfl (by decide)) rfl ?_; rintro _ _ ⟨ao11, rfl, rfl⟩
            refine ol_i (wn_some rfl rfl rfl hb5 rfl) (os_call cb_13 rfl (fun w s => Of_calls _ _ _  s (rds_row 0 rfl rfl) (by simp) (by simp))) rfl ?_; rintro _ l ⟨rfl, rfl⟩
            refine ol_q (wn_some rfl rfl rfl hb5 rfl) (op_eqroot _ _ rB_26 rfl rfl) rfl ?_
            refine ol_q (wn_none rfl) (op_pick_t (v := .bool _) rfl hb5 rfl) rfl ?_
            refine ol_q (wn_none rfl) (op_assign (v := .bool _) rfl) rfl ?_
            refine ol_nil_then ?_
            refine cd_ret ?_
            exact px_ret1 rfl (v := .bool _) rfl (fun _ s => ((((((s.del 5).del 4).del 3).del 2).del 1).del 0)) ⟨congrArg Value.bool (by first | rfl | (simp [flat_rep]; done)), rfl⟩
          · have hp5 := hb5
            (try simp only [decide_eq_true_eq, decide_eq_false_iff_not, Bool.not_eq_true', Bool.not_eq_false', ne_eq, Decidable.not_not] at hp5)
            exact absurd hb5 (by simp [flat_rep])
end Go.SL

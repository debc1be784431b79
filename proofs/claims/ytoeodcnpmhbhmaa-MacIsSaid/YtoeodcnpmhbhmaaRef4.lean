import Derived.Test.YtoeodcnpmhbhmaaRef3
import Derived.Test.YtoeodcnpmhbhmaaMac
set_option linter.unusedVariables false
set_option linter.unusedSimpArgs false
namespace Go.SL
open Go.Proofs

set_option maxRecDepth 100000 in
set_option maxHeartbeats 1000000 in
theorem RMac_calls {w0 w : World} {l : List HProp} (key s : List UInt8) (hs : Sat w0 w (l)) (hk1 : key.length ≤ 100000) (hs1 : s.length ≤ 100000) :
    Calls Try.prog 23 #[.string (B key), .string (B s)] w (Ret w0 fun v l' => v = .agg (tagC (macM key s)).toArray ∧ l' = l) := by
  refine calls_enter Try.func23 rfl rfl rfl hs ?_
  refine cd_sr ?_   -- 0
  refine ol_i (wn_none rfl) (os_alloc (cs := (tagC Tag.zero).toArray) zB_34 (by kernel_rfl)) rfl ?_; rintro _ _ ⟨bx1, rfl, rfl⟩
  refine ol_nil_then ?_
  refine cd_seq ?_
  refine cd_sr ?_   -- 1
  refine ol_q (wn_none rfl) (op_move (v := .string _) rfl) rfl ?_
  refine ol_q (wn_none rfl) (op_len_string Try.underlying9 rfl) rfl ?_
  refine ol_q (wn_none rfl) (op_gt rfl rfl) rfl ?_
  refine ol_nil_then ?_
  refine cd_cond rfl (fun hb1 => ?_) (fun hb1 => ?_)
  · have hp1 := hb1
    (try simp only [decide_eq_true_eq, decide_eq_false_iff_not, Bool.not_eq_true', Bool.not_eq_false', ne_eq, Decidable.not_not] at hp1)
    have ek : keyM key = (shaM key).1 := if_pos (by omega)
    refine cd_region ?_   -- 2
    refine ol_q (wn_none rfl) (op_move (v := .string _) rfl) rfl ?_
    refine ol_i (wn_none rfl) (os_call cb_20 rfl (fun w s => ROf_calls _  s (by first | omega | (simp; done) | (simp; omega)))) rfl ?_; rintro _ l ⟨rfl, rfl⟩
    refine ol_i (wn_none rfl) (os_call cb_31 rfl (fun w s => text_calls _  s )) rfl ?_; rintro _ l ⟨rfl, rfl⟩
    refine ol_q (wn_none rfl) (op_assign (v := .string _) rfl) rfl ?_
    refine ol_nil ?_
    refine px_then ?_
    refine cd_seq ?_
    refine cd_block ?_
    refine cd_loop2 (α := Nat) [(0, 0), (17, 21)] (fun x => [(0, .string (B ((keyM key) ++ List.replicate x 0)))]) (fun _ => _) (fun x => x ≤ 64 - (keyM key).length) (fun x => 64 - (keyM key).length - x) 0 (Nat.zero_le _) ⟨congrArg (fun q => Value.string (B q)) (by rw [ek]; simp), trivial⟩ (fun _ s => s) ?_
    rintro k hk f; (try dsimp only at hk ⊢)
    have hlk : ((keyM key) ++ List.replicate k 0).length = (keyM key).length + k := by simp
    have hkm := keyM_len key
    refine cd_seq ?_
    refine cd_sr ?_   -- 3
    refine ol_q (wn_none rfl) (op_move (v := .string _) rfl) rfl ?_
    refine ol_q (wn_none rfl) (op_len_string Try.underlying9 rfl) rfl ?_
    refine ol_q (wn_none rfl) (op_lt rfl rfl) rfl ?_
    refine ol_nil_then ?_
    refine cd_cond rfl (fun hb2 => ?_) (fun hb2 => ?_)
    · have hp2 := hb2
      (try simp only [decide_eq_true_eq, decide_eq_false_iff_not, Bool.not_eq_true', Bool.not_eq_false', ne_eq, Decidable.not_not] at hp2)
      have hk2 : k < 64 - (keyM key).length := by omega
      refine cd_skip ?_
      refine px_then ?_
      refine cd_block ?_
      refine cd_region ?_   -- 4
      refine ol_q (wn_none rfl) (op_move (v := .string _) rfl) rfl ?_
      refine ol_q (wn_none rfl) (op_sadd rfl rfl (by first | omega | (simp; omega))) rfl ?_
      refine ol_q (wn_none rfl) (op_assign (v := .string _) rfl) rfl ?_
      refine ol_nil ?_
      refine px_blockN ?_
      have e1 : ((keyM key) ++ List.replicate (k + 1) 0) = ((keyM key) ++ List.replicate k 0) ++ [0] := by rw [List.replicate_succ']; simp
      refine px_loop2 (k + 1) (by omega) (by (try dsimp only); omega) ⟨congrArg (fun q => Value.string (B q)) e1.symm, trivial⟩ ?_ (fun _ s => s)
      repeat (first | exact kept_over | refine kept_upd rfl ?_ | refine kept_overS (by decide) ?_)
    · have hp2 := hb2
      (try simp only [decide_eq_true_eq, decide_eq_false_iff_not, Bool.not_eq_true', Bool.not_eq_false', ne_eq, Decidable.not_not] at hp2)
      obtain rfl : k = 64 - (keyM key).length := by omega
      rw [show ((keyM key) ++ List.replicate (64 - (keyM key).length) 0) = full (keyM key) from rfl]
      refine cd_exit ?_
      refine px_thenE ?_
      refine px_thenE ?_
      refine px_blockE ?_
      refine px_then ?_
      refine cd_sr ?_   -- 5
      refine ol_q (wn_none rfl) (op_assign (v := .string _) rfl) rfl ?_
      refine ol_q (wn_none rfl) (op_assign (v := .string _) rfl) rfl ?_
      refine ol_nil_then ?_
      refine cd_seq ?_
      refine cd_sr ?_   -- 6
      refine ol_q (wn_none rfl) (op_assign (v := .int _ _) rfl) rfl ?_
      refine ol_nil_then ?_
      refine cd_block ?_
      refine cd_loop2 (α := Nat) [(5, 7), (22, 41)] (fun x => [(5, .string (B ((padK (keyM key) 54).take x))), (6, .string (B ((padK (keyM key) 92).take x))), (7, .int .i64 (x : Int))]) (fun _ => _) (fun x => x ≤ 64) (fun x => 64 - x) 0 (Nat.zero_le _) ⟨rfl, rfl, rfl, trivial⟩ (fun _ s => s) ?_
      rintro i hi f; (try dsimp only at hi ⊢)
      have hfl := full_len (keyM_len key)
      have hp1 : ((padK (keyM key) 54).take i).length = i := by rw [List.length_take, padK_len]; omega
      have hp2 : ((padK (keyM key) 92).take i).length = i := by rw [List.length_take, padK_len]; omega
      refine cd_seq ?_
      refine cd_sr ?_   -- 7
      refine ol_q (wn_none rfl) (op_move (v := .int _ _) rfl) rfl ?_
      refine ol_q (wn_none rfl) (op_lt rfl rfl) rfl ?_
      refine ol_nil_then ?_
      refine cd_cond rfl (fun hb3 => ?_) (fun hb3 => ?_)
      · have hp3 := hb3
        (try simp only [decide_eq_true_eq, decide_eq_false_iff_not, Bool.not_eq_true', Bool.not_eq_false', ne_eq, Decidable.not_not] at hp3)
        have hi64 : i < 64 := by omega
        refine cd_skip ?_
        refine px_then ?_
        refine cd_seq ?_
        refine cd_block ?_
        refine cd_sr ?_   -- 9
        refine ol_q (wn_none rfl) (op_move (v := .string _) rfl) rfl ?_
        refine ol_q (wn_none rfl) (op_move (v := .string _) rfl) rfl ?_
        refine ol_q (wn_none rfl) (op_move (v := .int _ _) rfl) rfl ?_
        refine ol_q (wn_none rfl) (op_sidx i Try.underlying9 rfl rfl (by first | rfl | omega) (by omega)) rfl ?_
        refine ol_q (wn_none rfl) (op_xor8 _ 54 rfl rfl) rfl ?_
        refine ol_i (wn_none rfl) (os_bslice (E := encU8) [_] (ys := [_]) sB_49 zv_5 rfl rfl rfl rfl (by decide)) rfl ?_; rintro _ _ ⟨ao1, rfl, rfl⟩
        refine ol_q (wn_none rfl) (op_b2s sB_49 Try.underlying5 Try.underlying9 rfl (rds_row 0 rfl rfl) rfl) rfl ?_
        refine ol_q (wn_none rfl) (op_sadd rfl rfl (by first | omega | (simp; omega))) rfl ?_
        refine ol_q (wn_none rfl) (op_assign (v := .string _) rfl) rfl ?_
        refine ol_nil_then ?_
        refine cd_region ?_   -- 10
        refine ol_q (wn_none rfl) (op_move (v := .string _) rfl) rfl ?_
        refine ol_q (wn_none rfl) (op_move (v := .string _) rfl) rfl ?_
        refine ol_q (wn_none rfl) (op_move (v := .int _ _) rfl) rfl ?_
        refine ol_q (wn_none rfl) (op_sidx i Try.underlying9 rfl rfl (by first | rfl | omega) (by omega)) rfl ?_
        refine ol_q (wn_none rfl) (op_xor8 _ 92 rfl rfl) rfl ?_
        refine ol_i (wn_none rfl) (os_bslice (E := encU8) [_] (ys := [_]) sB_49 zv_5 rfl rfl rfl rfl (by decide)) rfl ?_; rintro _ _ ⟨ao2, rfl, rfl⟩
        refine ol_q (wn_none rfl) (op_b2s sB_49 Try.underlying5 Try.underlying9 rfl (rds_row 0 rfl rfl) rfl) rfl ?_
        refine ol_q (wn_none rfl) (op_sadd rfl rfl (by first | omega | (simp; omega))) rfl ?_
        refine ol_q (wn_none rfl) (op_assign (v := .string _) rfl) rfl ?_
        refine ol_nil ?_
        refine px_blockN ?_
        refine px_then ?_
        refine cd_region ?_   -- 8
        refine ol_q (wn_none rfl) (op_move (v := .int _ _) rfl) rfl ?_
        refine ol_q (wn_none rfl) (op_add rfl rfl (by omega) (by omega)) rfl ?_
        refine ol_q (wn_none rfl) (op_assign (v := .int _ _) rfl) rfl ?_
        refine ol_nil ?_
        have e1 := padK_step (keyM key) 54 hi64
        have e2 := padK_step (keyM key) 92 hi64
        refine px_loop2 (i + 1) (by omega) (by (try dsimp only); omega) ⟨congrArg (fun q => Value.string (B q)) e1.symm, congrArg (fun q => Value.string (B q)) e2.symm, congrArg (Value.int .i64) (by simp), trivial⟩ ?_ (fun _ s => ((s.del 1).del 0))
        repeat (first | exact kept_over | refine kept_upd rfl ?_ | refine kept_overS (by decide) ?_)
      · have hp3 := hb3
        (try simp only [decide_eq_true_eq, decide_eq_false_iff_not, Bool.not_eq_true', Bool.not_eq_false', ne_eq, Decidable.not_not] at hp3)
        obtain rfl : i = 64 := by omega
        rw [List.take_of_length_le (show (padK (keyM key) 54).length ≤ 64 by rw [padK_len]; exact Nat.le_refl _), List.take_of_length_le (show (padK (keyM key) 92).length ≤ 64 by rw [padK_len]; exact Nat.le_refl _)]
        have hq1 := padK_len (keyM key) 54
        have hq2 := padK_len (keyM key) 92
        refine cd_exit ?_
        refine px_thenE ?_
        refine px_thenE ?_
        refine px_blockE ?_
        refine px_then ?_
        refine cd_sr ?_   -- 11
        refine ol_q (wn_none rfl) (op_move (v := .string _) rfl) rfl ?_
        refine ol_q (wn_none rfl) (op_move (v := .string _) rfl) rfl ?_
        refine ol_q (wn_none rfl) (op_move (v := .string _) rfl) rfl ?_
        refine ol_q (wn_none rfl) (op_sadd rfl rfl (by first | omega | (simp; omega))) rfl ?_
        refine ol_i (wn_none rfl) (os_call cb_20 rfl (fun w s => ROf_calls _  s (by rw [List.length_append]; omega))) rfl ?_; rintro _ l ⟨rfl, rfl⟩
        refine ol_i (wn_none rfl) (os_call cb_31 rfl (fun w s => text_calls _  s )) rfl ?_; rintro _ l ⟨rfl, rfl⟩
        refine ol_q (wn_none rfl) (op_sadd rfl rfl (by rw [root_len]; omega)) rfl ?_
        refine ol_i (wn_none rfl) (os_call cb_20 rfl (fun w s => ROf_calls _  s (by rw [List.length_append, root_len]; omega))) rfl ?_; rintro _ l ⟨rfl, rfl⟩
        refine ol_i (wn_none rfl) (os_alloc (cs := (rootC Root.zero).toArray) zB_26 (by kernel_rfl)) rfl ?_; rintro _ _ ⟨bx2, rfl, rfl⟩
        refine ol_iN (wn_none rfl) (os_storera _ ag_26 rfl rfl (Free.zero _)) ?_; rintro _ _ ⟨rfl, rfl⟩
        refine ol_nil_then ?_
        refine cd_sr ?_   -- 12
        refine ol_i (wn_none rfl) (os_alloc (cs := (tagC Tag.zero).toArray) zB_34 (by kernel_rfl)) rfl ?_; rintro _ _ ⟨bx3, rfl, rfl⟩
        refine ol_nil_then ?_
        refine cd_seq ?_
        refine cd_sr ?_   -- 13
        refine ol_q (wn_none rfl) (op_move (v := .int _ _) rfl) rfl ?_
        refine ol_nil_then ?_
        refine cd_block ?_
        refine cd_loop2 (α := Nat) [(10, 10), (50, 58)] (fun x => [(50, .int .i64 (x : Int))]) (fun x => Blk bx3 (.cells (bC (tagP (shaM (padK (keyM key) 92 ++ (shaM (padK (keyM key) 54 ++ s)).1)) x)).toArray 34 (0, 0)) :: Blk bx2 (.cells (rootC (shaM (padK (keyM key) 92 ++ (shaM (padK (keyM key) 54 ++ s)).1))).toArray 26 (0, 0)) :: Blk bx1 (.cells (tagC Tag.zero).toArray 34 (0, 0)) :: l) (fun x => x ≤ 16) (fun x => 16 - x) 0 (Nat.zero_le _) ⟨rfl, trivial⟩ (fun _ s1 => by rw [tagP_zero]; exact s1) ?_
        rintro j hj f; (try dsimp only at hj ⊢)
        refine cd_sr ?_   -- 14
        refine ol_q (wn_none rfl) (op_lt rfl rfl) rfl ?_
        refine ol_nil_then ?_
        refine cd_seq ?_
        refine cd_cond rfl (fun hb4 => ?_) (fun hb4 => ?_)
        · have hp4 := hb4
          (try simp only [decide_eq_true_eq, decide_eq_false_iff_not, Bool.not_eq_true', Bool.not_eq_false', ne_eq, Decidable.not_not] at hp4)
          have hj16 : j < 16 := by omega
          refine cd_skip ?_
          refine px_then ?_
          refine cd_seq ?_
          refine cd_block ?_
          refine cd_sr ?_   -- 15
          refine ol_q (wn_none rfl) (op_move (v := .int _ _) rfl) rfl ?_
          refine ol_q (wn_none rfl) (op_assign (v := .int _ _) rfl) rfl ?_
          refine ol_nil_then ?_
          refine cd_region ?_   -- 16
          refine ol_q (wn_none rfl) (op_move (v := .int _ _) rfl) rfl ?_
          refine ol_q (wn_none rfl) (op_move (v := .int _ _) rfl) rfl ?_
          refine ol_q (wn_none rfl) (op_aidx0 j a1_26 rfl rfl rfl (by omega)) rfl ?_
          refine ol_q (wn_none rfl) (op_ld 1 sc_5 rfl rfl (rootC_gd _ (by omega))) rfl ?_
          refine ol_q (wn_none rfl) (op_aidx0 j a1_34 rfl rfl rfl (by omega)) rfl ?_
          refine ol_iN (wn_none rfl) (os_store (v := .int _ _) sc_5 rfl rfl rfl (Nat.ble_eq_true_of_le (show j + 1 ≤ _ by rw [List.size_toArray, bC_len, tagP_len]; omega)) (Free.zero _) (tagP_set _ hj16)) ?_; rintro _ _ ⟨rfl, rfl⟩
          refine ol_nil ?_
          refine px_blockN ?_
          refine px_then ?_
          refine cd_region ?_   -- 17
          refine ol_q (wn_none rfl) (op_add rfl rfl (by omega) (by omega)) rfl ?_
          refine ol_q (wn_none rfl) (op_move (v := .int _ _) rfl) rfl ?_
          refine ol_nil ?_
          refine px_loop2 (j + 1) (by omega) (by (try dsimp only); omega) ⟨congrArg (Value.int .i64) (by simp), trivial⟩ ?_ (fun _ s => s)
          repeat (first | exact kept_over | refine kept_upd rfl ?_ | refine kept_overS (by decide) ?_)
        · have hp4 := hb4
          (try simp only [decide_eq_true_eq, decide_eq_false_iff_not, Bool.not_eq_true', Bool.not_eq_false', ne_eq, Decidable.not_not] at hp4)
          obtain rfl : j = 16 := by omega
          rw [tagP_all]
          refine cd_exit ?_
          refine px_thenE ?_
          refine px_thenE ?_
          refine px_blockE ?_
          refine px_then ?_
          refine cd_sr ?_   -- 18
          refine ol_q (wn_none rfl) (op_lda (L := tagC _) 0 ag_34 rfl rfl (tagC_take' _) (by simp [tagC_len])) rfl ?_
          refine ol_pull2 ?_
          refine ol_iN (wn_none rfl) (os_storew (tagC _) ag_34 rfl rfl (tagC_len _) (tagC_one _) (by simp [tagC_len]) (Free.zero _)) ?_; rintro _ _ ⟨rfl, rfl⟩
          refine ol_nil_then ?_
          refine cd_ret ?_
          exact px_rv1 rfl (rv_cella 0 ag_34 rfl rfl (tagC_take' _) (by simp [tagC_len])) (fun _ s => (((s.del 2).del 1).del 0)) ⟨rfl, rfl⟩
  · have hp1 := hb1
    (try simp only [decide_eq_true_eq, decide_eq_false_iff_not, Bool.not_eq_true', Bool.not_eq_false', ne_eq, Decidable.not_not] at hp1)
    have ek : keyM key = key := if_neg (by omega)
    refine cd_skip ?_
    refine px_then ?_
    refine cd_seq ?_
    refine cd_block ?_
    refine cd_loop2 (α := Nat) [(0, 0), (17, 21)] (fun x => [(0, .string (B ((keyM key) ++ List.replicate x 0)))]) (fun _ => _) (fun x => x ≤ 64 - (keyM key).length) (fun x => 64 - (keyM key).length - x) 0 (Nat.zero_le _) ⟨congrArg (fun q => Value.string (B q)) (by rw [ek]; simp), trivial⟩ (fun _ s => s) ?_
    rintro k hk f; (try dsimp only at hk ⊢)
    have hlk : ((keyM key) ++ List.replicate k 0).length = (keyM key).length + k := by simp
    have hkm := keyM_len key
    refine cd_seq ?_
    refine cd_sr ?_   -- 3
    refine ol_q (wn_none rfl) (op_move (v := .string _) rfl) rfl ?_
    refine ol_q (wn_none rfl) (op_len_string Try.underlying9 rfl) rfl ?_
    refine ol_q (wn_none rfl) (op_lt rfl rfl) rfl ?_
    refine ol_nil_then ?_
    refine cd_cond rfl (fun hb5 => ?_) (fun hb5 => ?_)
    · have hp5 := hb5
      (try simp only [decide_eq_true_eq, decide_eq_false_iff_not, Bool.not_eq_true', Bool.not_eq_false', ne_eq, Decidable.not_not] at hp5)
      have hk2 : k < 64 - (keyM key).length := by omega
      refine cd_skip ?_
      refine px_then ?_
      refine cd_block ?_
      refine cd_region ?_   -- 4
      refine ol_q (wn_none rfl) (op_move (v := .string _) rfl) rfl ?_
      refine ol_q (wn_none rfl) (op_sadd rfl rfl (by first | omega | (simp; omega))) rfl ?_
      refine ol_q (wn_none rfl) (op_assign (v := .string _) rfl) rfl ?_
      refine ol_nil ?_
      refine px_blockN ?_
      have e1 : ((keyM key) ++ List.replicate (k + 1) 0) = ((keyM key) ++ List.replicate k 0) ++ [0] := by rw [List.replicate_succ']; simp
      refine px_loop2 (k + 1) (by omega) (by (try dsimp only); omega) ⟨congrArg (fun q => Value.string (B q)) e1.symm, trivial⟩ ?_ (fun _ s => s)
      repeat (first | exact kept_over | refine kept_upd rfl ?_ | refine kept_overS (by decide) ?_)
    · have hp5 := hb5
      (try simp only [decide_eq_true_eq, decide_eq_false_iff_not, Bool.not_eq_true', Bool.not_eq_false', ne_eq, Decidable.not_not] at hp5)
      obtain rfl : k = 64 - (keyM key).length := by omega
      rw [show ((keyM key) ++ List.replicate (64 - (keyM key).length) 0) = full (keyM key) from rfl]
      refine cd_exit ?_
      refine px_thenE ?_
      refine px_thenE ?_
      refine px_blockE ?_
      refine px_then ?_
      refine cd_sr ?_   -- 5
      refine ol_q (wn_none rfl) (op_assign (v := .string _) rfl) rfl ?_
      refine ol_q (wn_none rfl) (op_assign (v := .string _) rfl) rfl ?_
      refine ol_nil_then ?_
      refine cd_seq ?_
      refine cd_sr ?_   -- 6
      refine ol_q (wn_none rfl) (op_assign (v := .int _ _) rfl) rfl ?_
      refine ol_nil_then ?_
      refine cd_block ?_
      refine cd_loop2 (α := Nat) [(5, 7), (22, 41)] (fun x => [(5, .string (B ((padK (keyM key) 54).take x))), (6, .string (B ((padK (keyM key) 92).take x))), (7, .int .i64 (x : Int))]) (fun _ => _) (fun x => x ≤ 64) (fun x => 64 - x) 0 (Nat.zero_le _) ⟨rfl, rfl, rfl, trivial⟩ (fun _ s => s) ?_
      rintro i hi f; (try dsimp only at hi ⊢)
      have hfl := full_len (keyM_len key)
      have hp1 : ((padK (keyM key) 54).take i).length = i := by rw [List.length_take, padK_len]; omega
      have hp2 : ((padK (keyM key) 92).take i).length = i := by rw [List.length_take, padK_len]; omega
      refine cd_seq ?_
      refine cd_sr ?_   -- 7
      refine ol_q (wn_none rfl) (op_move (v := .int _ _) rfl) rfl ?_
      refine ol_q (wn_none rfl) (op_lt rfl rfl) rfl ?_
      refine ol_nil_then ?_
      refine cd_cond rfl (fun hb6 => ?_) (fun hb6 => ?_)
      · have hp6 := hb6
        (try simp only [decide_eq_true_eq, decide_eq_false_iff_not, Bool.not_eq_true', Bool.not_eq_false', ne_eq, Decidable.not_not] at hp6)
        have hi64 : i < 64 := by omega
        refine cd_skip ?_
        refine px_then ?_
        refine cd_seq ?_
        refine cd_block ?_
        refine cd_sr ?_   -- 9
        refine ol_q (wn_none rfl) (op_move (v := .string _) rfl) rfl ?_
        refine ol_q (wn_none rfl) (op_move (v := .string _) rfl) rfl ?_
        refine ol_q (wn_none rfl) (op_move (v := .int _ _) rfl) rfl ?_
        refine ol_q (wn_none rfl) (op_sidx i Try.underlying9 rfl rfl (by first | rfl | omega) (by omega)) rfl ?_
        refine ol_q (wn_none rfl) (op_xor8 _ 54 rfl rfl) rfl ?_
        refine ol_i (wn_none rfl) (os_bslice (E := encU8) [_] (ys := [_]) sB_49 zv_5 rfl rfl rfl rfl (by decide)) rfl ?_; rintro _ _ ⟨ao3, rfl, rfl⟩
        refine ol_q (wn_none rfl) (op_b2s sB_49 Try.underlying5 Try.underlying9 rfl (rds_row 0 rfl rfl) rfl) rfl ?_
        refine ol_q (wn_none rfl) (op_sadd rfl rfl (by first | omega | (simp; omega))) rfl ?_
        refine ol_q (wn_none rfl) (op_assign (v := .string _) rfl) rfl ?_
        refine ol_nil_then ?_
        refine cd_region ?_   -- 10
        refine ol_q (wn_none rfl) (op_move (v := .string _) rfl) rfl ?_
        refine ol_q (wn_none rfl) (op_move (v := .string _) rfl) rfl ?_
        refine ol_q (wn_none rfl) (op_move (v := .int _ _) rfl) rfl ?_
        refine ol_q (wn_none rfl) (op_sidx i Try.underlying9 rfl rfl (by first | rfl | omega) (by omega)) rfl ?_
        refine ol_q (wn_none rfl) (op_xor8 _ 92 rfl rfl) rfl ?_
        refine ol_i (wn_none rfl) (os_bslice (E := encU8) [_] (ys := [_]) sB_49 zv_5 rfl rfl rfl rfl (by decide)) rfl ?_; rintro _ _ ⟨ao4, rfl, rfl⟩
        refine ol_q (wn_none rfl) (op_b2s sB_49 Try.underlying5 Try.underlying9 rfl (rds_row 0 rfl rfl) rfl) rfl ?_
        refine ol_q (wn_none rfl) (op_sadd rfl rfl (by first | omega | (simp; omega))) rfl ?_
        refine ol_q (wn_none rfl) (op_assign (v := .string _) rfl) rfl ?_
        refine ol_nil ?_
        refine px_blockN ?_
        refine px_then ?_
        refine cd_region ?_   -- 8
        refine ol_q (wn_none rfl) (op_move (v := .int _ _) rfl) rfl ?_
        refine ol_q (wn_none rfl) (op_add rfl rfl (by omega) (by omega)) rfl ?_
        refine ol_q (wn_none rfl) (op_assign (v := .int _ _) rfl) rfl ?_
        refine ol_nil ?_
        have e1 := padK_step (keyM key) 54 hi64
        have e2 := padK_step (keyM key) 92 hi64
        refine px_loop2 (i + 1) (by omega) (by (try dsimp only); omega) ⟨congrArg (fun q => Value.string (B q)) e1.symm, congrArg (fun q => Value.string (B q)) e2.symm, congrArg (Value.int .i64) (by simp), trivial⟩ ?_ (fun _ s => ((s.del 1).del 0))
        repeat (first | exact kept_over | refine kept_upd rfl ?_ | refine kept_overS (by decide) ?_)
      · have hp6 := hb6
        (try simp only [decide_eq_true_eq, decide_eq_false_iff_not, Bool.not_eq_true', Bool.not_eq_false', ne_eq, Decidable.not_not] at hp6)
        obtain rfl : i = 64 := by omega
        rw [List.take_of_length_le (show (padK (keyM key) 54).length ≤ 64 by rw [padK_len]; exact Nat.le_refl _), List.take_of_length_le (show (padK (keyM key) 92).length ≤ 64 by rw [padK_len]; exact Nat.le_refl _)]
        have hq1 := padK_len (keyM key) 54
        have hq2 := padK_len (keyM key) 92
        refine cd_exit ?_
        refine px_thenE ?_
        refine px_thenE ?_
        refine px_blockE ?_
        refine px_then ?_
        refine cd_sr ?_   -- 11
        refine ol_q (wn_none rfl) (op_move (v := .string _) rfl) rfl ?_
        refine ol_q (wn_none rfl) (op_move (v := .string _) rfl) rfl ?_
        refine ol_q (wn_none rfl) (op_move (v := .string _) rfl) rfl ?_
        refine ol_q (wn_none rfl) (op_sadd rfl rfl (by first | omega | (simp; omega))) rfl ?_
        refine ol_i (wn_none rfl) (os_call cb_20 rfl (fun w s => ROf_calls _  s (by rw [List.length_append]; omega))) rfl ?_; rintro _ l ⟨rfl, rfl⟩
        refine ol_i (wn_none rfl) (os_call cb_31 rfl (fun w s => text_calls _  s )) rfl ?_; rintro _ l ⟨rfl, rfl⟩
        refine ol_q (wn_none rfl) (op_sadd rfl rfl (by rw [root_len]; omega)) rfl ?_
        refine ol_i (wn_none rfl) (os_call cb_20 rfl (fun w s => ROf_calls _  s (by rw [List.length_append, root_len]; omega))) rfl ?_; rintro _ l ⟨rfl, rfl⟩
        refine ol_i (wn_none rfl) (os_alloc (cs := (rootC Root.zero).toArray) zB_26 (by kernel_rfl)) rfl ?_; rintro _ _ ⟨bx4, rfl, rfl⟩
        refine ol_iN (wn_none rfl) (os_storera _ ag_26 rfl rfl (Free.zero _)) ?_; rintro _ _ ⟨rfl, rfl⟩
        refine ol_nil_then ?_
        refine cd_sr ?_   -- 12
        refine ol_i (wn_none rfl) (os_alloc (cs := (tagC Tag.zero).toArray) zB_34 (by kernel_rfl)) rfl ?_; rintro _ _ ⟨bx5, rfl, rfl⟩
        refine ol_nil_then ?_
        refine cd_seq ?_
        refine cd_sr ?_   -- 13
        refine ol_q (wn_none rfl) (op_move (v := .int _ _) rfl) rfl ?_
        refine ol_nil_then ?_
        refine cd_block ?_
        refine cd_loop2 (α := Nat) [(10, 10), (50, 58)] (fun x => [(50, .int .i64 (x : Int))]) (fun x => Blk bx5 (.cells (bC (tagP (shaM (padK (keyM key) 92 ++ (shaM (padK (keyM key) 54 ++ s)).1)) x)).toArray 34 (0, 0)) :: Blk bx4 (.cells (rootC (shaM (padK (keyM key) 92 ++ (shaM (padK (keyM key) 54 ++ s)).1))).toArray 26 (0, 0)) :: Blk bx1 (.cells (tagC Tag.zero).toArray 34 (0, 0)) :: l) (fun x => x ≤ 16) (fun x => 16 - x) 0 (Nat.zero_le _) ⟨rfl, trivial⟩ (fun _ s1 => by rw [tagP_zero]; exact s1) ?_
        rintro j hj f; (try dsimp only at hj ⊢)
        refine cd_sr ?_   -- 14
        refine ol_q (wn_none rfl) (op_lt rfl rfl) rfl ?_
        refine ol_nil_then ?_
        refine cd_seq ?_
        refine cd_cond rfl (fun hb7 => ?_) (fun hb7 => ?_)
        · have hp7 := hb7
          (try simp only [decide_eq_true_eq, decide_eq_false_iff_not, Bool.not_eq_true', Bool.not_eq_false', ne_eq, Decidable.not_not] at hp7)
          have hj16 : j < 16 := by omega
          refine cd_skip ?_
          refine px_then ?_
          refine cd_seq ?_
          refine cd_block ?_
          refine cd_sr ?_   -- 15
          refine ol_q (wn_none rfl) (op_move (v := .int _ _) rfl) rfl ?_
          refine ol_q (wn_none rfl) (op_assign (v := .int _ _) rfl) rfl ?_
          refine ol_nil_then ?_
          refine cd_region ?_   -- 16
          refine ol_q (wn_none rfl) (op_move (v := .int _ _) rfl) rfl ?_
          refine ol_q (wn_none rfl) (op_move (v := .int _ _) rfl) rfl ?_
          refine ol_q (wn_none rfl) (op_aidx0 j a1_26 rfl rfl rfl (by omega)) rfl ?_
          refine ol_q (wn_none rfl) (op_ld 1 sc_5 rfl rfl (rootC_gd _ (by omega))) rfl ?_
          refine ol_q (wn_none rfl) (op_aidx0 j a1_34 rfl rfl rfl (by omega)) rfl ?_
          refine ol_iN (wn_none rfl) (os_store (v := .int _ _) sc_5 rfl rfl rfl (Nat.ble_eq_true_of_le (show j + 1 ≤ _ by rw [List.size_toArray, bC_len, tagP_len]; omega)) (Free.zero _) (tagP_set _ hj16)) ?_; rintro _ _ ⟨rfl, rfl⟩
          refine ol_nil ?_
          refine px_blockN ?_
          refine px_then ?_
          refine cd_region ?_   -- 17
          refine ol_q (wn_none rfl) (op_add rfl rfl (by omega) (by omega)) rfl ?_
          refine ol_q (wn_none rfl) (op_move (v := .int _ _) rfl) rfl ?_
          refine ol_nil ?_
          refine px_loop2 (j + 1) (by omega) (by (try dsimp only); omega) ⟨congrArg (Value.int .i64) (by simp), trivial⟩ ?_ (fun _ s => s)
          repeat (first | exact kept_over | refine kept_upd rfl ?_ | refine kept_overS (by decide) ?_)
        · have hp7 := hb7
          (try simp only [decide_eq_true_eq, decide_eq_false_iff_not, Bool.not_eq_true', Bool.not_eq_false', ne_eq, Decidable.not_not] at hp7)
          obtain rfl : j = 16 := by omega
          rw [tagP_all]
          refine cd_exit ?_
          refine px_thenE ?_
          refine px_thenE ?_
          refine px_blockE ?_
          refine px_then ?_
          refine cd_sr ?_   -- 18
          refine ol_q (wn_none rfl) (op_lda (L := tagC _) 0 ag_34 rfl rfl (tagC_take' _) (by simp [tagC_len])) rfl ?_
          refine ol_pull2 ?_
          refine ol_iN (wn_none rfl) (os_storew (tagC _) ag_34 rfl rfl (tagC_len _) (tagC_one _) (by simp [tagC_len]) (Free.zero _)) ?_; rintro _ _ ⟨rfl, rfl⟩
          refine ol_nil_then ?_
          refine cd_ret ?_
          exact px_rv1 rfl (rv_cella 0 ag_34 rfl rfl (tagC_take' _) (by simp [tagC_len])) (fun _ s => (((s.del 2).del 1).del 0)) ⟨rfl, rfl⟩
end Go.SL

import Derived.Test.YtgdlddjalilmhaaRef2
import Derived.Test.YtgdlddjalilmhaaMMac
set_option linter.unusedVariables false
set_option linter.unusedSimpArgs false
namespace Go.SL
open Go.Proofs

set_option maxRecDepth 100000 in
set_option maxHeartbeats 1000000 in
theorem ROf_calls {w0 w : World} {l : List HProp} (s : List UInt8) (hs : Sat w0 w (l)) (hs1 : s.length ≤ 1000000) :
    Calls Try.prog 59 #[.string (B s)] w (Ret w0 fun v l' => v = .agg (rootC (shaM s)).toArray ∧ l' = l) := by
  have hz : (zpad (s.length % 64)) = (119 - s.length % 64) % 64 := rfl
  have htm := textM_len s
  have hp8 : (prm (Int.toNat 8)).length = 8 := prm_len (by decide)
  have hp64 : (prm (Int.toNat 64)).length = 64 := prm_len (by decide)
  refine calls_enter Try.func59 rfl rfl rfl hs ?_
  refine cd_sr ?_   -- 0
  refine ol_i (wn_none rfl) (os_alloc (cs := (rootC Root.zero).toArray) zB_40 (by kernel_rfl)) rfl ?_; rintro _ _ ⟨bx1, rfl, rfl⟩
  refine ol_nil_then ?_
  refine cd_sr ?_   -- 1
  refine ol_q (wn_none rfl) (op_move (v := .string _) rfl) rfl ?_
  refine ol_q (wn_none rfl) (op_sadd rfl rfl (by first | omega | (simp; omega))) rfl ?_
  refine ol_q (wn_none rfl) (op_assign (v := .string _) rfl) rfl ?_
  refine ol_nil_then ?_
  refine cd_seq ?_
  refine cd_block ?_
  refine cd_loop2 (α := Nat) [(3, 3), (17, 22)] (fun x => [(3, .string (B (s ++ [128] ++ List.replicate x 0)))]) (fun _ => _) (fun x => x ≤ (zpad (s.length % 64))) (fun x => (zpad (s.length % 64)) - x) 0 (Nat.zero_le _) ⟨congrArg (fun q => Value.string (B q)) (by simp), trivial⟩ (fun _ s => s) ?_
  rintro k hk f; (try dsimp only at hk ⊢)
  have hlk : (s ++ [128] ++ List.replicate k 0).length = s.length + 1 + k := by simp; omega
  refine cd_seq ?_
  refine cd_sr ?_   -- 2
  refine ol_q (wn_none rfl) (op_move (v := .string _) rfl) rfl ?_
  refine ol_q (wn_none rfl) (op_len_string Try.underlying9 rfl) rfl ?_
  refine ol_q (wn_none rfl) (op_rem rfl rfl (by omega) (by omega)) rfl ?_
  refine ol_q (wn_none rfl) (op_ne rfl rfl) rfl ?_
  refine ol_nil_then ?_
  refine cd_cond rfl (fun hb1 => ?_) (fun hb1 => ?_)
  · have hp1 := hb1
    (try simp only [decide_eq_true_eq, decide_eq_false_iff_not, Bool.not_eq_true', Bool.not_eq_false', ne_eq, Decidable.not_not] at hp1)
    have hkz : k < (zpad (s.length % 64)) := by omega
    refine cd_skip ?_
    refine px_then ?_
    refine cd_block ?_
    refine cd_region ?_   -- 3
    refine ol_q (wn_none rfl) (op_move (v := .string _) rfl) rfl ?_
    refine ol_q (wn_none rfl) (op_sadd rfl rfl (by first | omega | (simp; omega))) rfl ?_
    refine ol_q (wn_none rfl) (op_assign (v := .string _) rfl) rfl ?_
    refine ol_nil ?_
    refine px_blockN ?_
    have e1 : s ++ [128] ++ List.replicate (k + 1) 0 = s ++ [128] ++ List.replicate k 0 ++ [0] := by rw [List.replicate_succ']; simp
    refine px_loop2 (k + 1) (by omega) (by (try dsimp only); omega) ⟨congrArg (fun q => Value.string (B q)) e1.symm, trivial⟩ ?_ (fun _ s => s)
    repeat (first | exact kept_over | refine kept_upd rfl ?_ | refine kept_overS (by decide) ?_)
  · have hp1 := hb1
    (try simp only [decide_eq_true_eq, decide_eq_false_iff_not, Bool.not_eq_true', Bool.not_eq_false', ne_eq, Decidable.not_not] at hp1)
    obtain rfl : k = (zpad (s.length % 64)) := by omega
    refine cd_exit ?_
    refine px_thenE ?_
    refine px_thenE ?_
    refine px_blockE ?_
    refine px_then ?_
    refine cd_sr ?_   -- 4
    refine ol_q (wn_none rfl) (op_move (v := .string _) rfl) rfl ?_
    refine ol_q (wn_none rfl) (op_len_string Try.underlying9 rfl) rfl ?_
    refine ol_q (wn_none rfl) (op_conv64 Try.underlying32 (by rw [Try.underlying3]; rfl) rfl (by omega)) rfl ?_
    refine ol_q (wn_none rfl) (op_muln (C := 8) rfl rfl (by omega)) rfl ?_
    refine ol_q (wn_none rfl) (op_assign (v := .int _ _) rfl) rfl ?_
    refine ol_nil_then ?_
    refine cd_seq ?_
    refine cd_sr ?_   -- 5
    refine ol_q (wn_none rfl) (op_assign (v := .int _ _) rfl) rfl ?_
    refine ol_nil_then ?_
    refine cd_block ?_
    refine cd_loop2 (α := Nat) [(3, 3), (5, 5), (27, 40)] (fun x => [(3, .string (B (s ++ [128] ++ List.replicate (zpad (s.length % 64)) 0 ++ be64 (s.length * 8) x))), (5, .int .i64 (7 - (x : Int)))]) (fun _ => _) (fun x => x ≤ 8) (fun x => 8 - x) 0 (Nat.zero_le _) ⟨congrArg (fun q => Value.string (B q)) (by simp [be64]), congrArg (Value.int .i64) (by simp), trivial⟩ (fun _ s => s) ?_
    rintro i hi f; (try dsimp only at hi ⊢)
    have hl8 : (s ++ [128] ++ List.replicate (zpad (s.length % 64)) 0 ++ be64 (s.length * 8) i).length = s.length + 1 + (zpad (s.length % 64)) + i := by simp [be64_len]; omega
    refine cd_seq ?_
    refine cd_sr ?_   -- 6
    refine ol_q (wn_none rfl) (op_move (v := .int _ _) rfl) rfl ?_
    refine ol_q (wn_none rfl) (op_ge rfl rfl) rfl ?_
    refine ol_nil_then ?_
    refine cd_cond rfl (fun hb2 => ?_) (fun hb2 => ?_)
    · have hp2 := hb2
      (try simp only [decide_eq_true_eq, decide_eq_false_iff_not, Bool.not_eq_true', Bool.not_eq_false', ne_eq, Decidable.not_not] at hp2)
      have hi8 : i < 8 := by omega
      refine cd_skip ?_
      refine px_then ?_
      refine cd_seq ?_
      refine cd_block ?_
      refine cd_region ?_   -- 8
      refine ol_q (wn_none rfl) (op_move (v := .string _) rfl) rfl ?_
      refine ol_q (wn_none rfl) (op_move (v := .int _ _) rfl) rfl ?_
      refine ol_q (wn_none rfl) (op_move (v := .int _ _) rfl) rfl ?_
      refine ol_q (wn_none rfl) (op_mul rfl rfl (by omega) (by omega)) rfl ?_
      refine ol_q (wn_none rfl) (op_conv64m (56 - 8 * i) Try.underlying84 (by rw [Try.underlying3]; rfl) rfl (by omega) (by omega)) rfl ?_
      refine ol_q (wn_none rfl) (op_shr_nat (m := 56 - 8 * i) rfl rfl (by show 56 - 8 * i ≤ 64; omega)) rfl ?_
      refine ol_q (wn_none rfl) (op_conv8 Try.underlying5 (by rw [Try.underlying32]; rfl) rfl) rfl ?_
      refine ol_i (wn_none rfl) (os_bslice (E := encU8) [_] (ys := [_]) sB_55 zv_5 rfl rfl rfl rfl (by decide)) rfl ?_; rintro _ _ ⟨ao1, rfl, rfl⟩
      refine ol_q (wn_none rfl) (op_b2s sB_55 Try.underlying5 Try.underlying9 rfl (rds_row 0 rfl rfl) rfl) rfl ?_
      refine ol_q (wn_none rfl) (op_sadd rfl rfl (by rw [hl8]; simp; omega)) rfl ?_
      refine ol_q (wn_none rfl) (op_assign (v := .string _) rfl) rfl ?_
      refine ol_nil ?_
      refine px_blockN ?_
      refine px_then ?_
      refine cd_region ?_   -- 7
      refine ol_q (wn_none rfl) (op_move (v := .int _ _) rfl) rfl ?_
      refine ol_q (wn_none rfl) (op_sub rfl rfl (by omega) (by omega)) rfl ?_
      refine ol_q (wn_none rfl) (op_assign (v := .int _ _) rfl) rfl ?_
      refine ol_nil ?_
      have e1 : s ++ [128] ++ List.replicate (zpad (s.length % 64)) 0 ++ be64 (s.length * 8) (i + 1) = s ++ [128] ++ List.replicate (zpad (s.length % 64)) 0 ++ be64 (s.length * 8) i ++ [UInt8.ofNat (s.length * 8 / 2 ^ (56 - 8 * i))] := by rw [be64_succ]; simp only [List.append_assoc]
      refine px_loop2 (i + 1) (by omega) (by (try dsimp only); omega) ⟨congrArg (fun q => Value.string (B q)) e1.symm, congrArg (Value.int .i64) (by omega), trivial⟩ ?_ (fun _ s => (s.del 0))
      repeat (first | exact kept_over | refine kept_upd rfl ?_ | refine kept_overS (by decide) ?_)
    · have hp2 := hb2
      (try simp only [decide_eq_true_eq, decide_eq_false_iff_not, Bool.not_eq_true', Bool.not_eq_false', ne_eq, Decidable.not_not] at hp2)
      obtain rfl : i = 8 := by omega
      have htl : (textM s).length = s.length + 1 + (zpad (s.length % 64)) + 8 := by unfold textM; simp [be64_len]; omega
      refine cd_exit ?_
      refine px_thenE ?_
      refine px_thenE ?_
      refine px_blockE ?_
      refine px_then ?_
      refine cd_sr ?_   -- 9
      refine ol_i (wn_none rfl) (os_alloc (cs := (wC (List.replicate 8 0)).toArray) zB_91 (by kernel_rfl)) rfl ?_; rintro _ _ ⟨bx2, rfl, rfl⟩
      refine ol_nil_then ?_
      refine cd_seq ?_
      refine cd_sr ?_   -- 10
      refine ol_i (wn_none rfl) (os_call cb_67 rfl (fun w s => primes_calls (n := 8)  s (by decide) (by decide))) rfl ?_; rintro _ _ ⟨po1, pc1, rfl, rfl⟩
      refine ol_q (wn_none rfl) (op_len_slice Try.underlying97 rfl) rfl ?_
      refine ol_q (wn_none rfl) (op_move (v := .int _ _) rfl) rfl ?_
      refine ol_nil_then ?_
      refine cd_block ?_
      refine cd_loop2 (α := Nat) [(7, 8), (43, 52)] (fun x => [(43, .int .i64 (x : Int))]) (fun x => Blk bx2 (.cells (wC (fillN 8 (H0.take x))).toArray 91 (0, 0)) :: Row 32 encU64 (.slice po1 (prm (Int.toNat 8)).length pc1) (prm (Int.toNat 8)) :: Blk bx1 (.cells (rootC Root.zero).toArray 40 (0, 0)) :: l) (fun x => x ≤ 8) (fun x => 8 - x) 0 (Nat.zero_le _) ⟨rfl, trivial⟩ (fun _ s => (((s.pull 2).pull 1).pull 2)) ?_
      rintro i hi f; (try dsimp only at hi ⊢)
      refine cd_sr ?_   -- 11
      refine ol_q (wn_none rfl) (op_lt rfl rfl) rfl ?_
      refine ol_nil_then ?_
      refine cd_seq ?_
      refine cd_cond rfl (fun hb3 => ?_) (fun hb3 => ?_)
      · have hp3 := hb3
        (try simp only [decide_eq_true_eq, decide_eq_false_iff_not, Bool.not_eq_true', Bool.not_eq_false', ne_eq, Decidable.not_not] at hp3)
        have hi8 : i < 8 := by omega
        have hroot := root8_at (i := i) (show i < (prm 8).length by rw [prm_len (by decide)]; omega)
        refine cd_skip ?_
        refine px_then ?_
        refine cd_seq ?_
        refine cd_block ?_
        refine cd_sr ?_   -- 12
        refine ol_q (wn_none rfl) (op_move (v := .int _ _) rfl) rfl ?_
        refine ol_q (wn_none rfl) (op_index _ sB_97 rfl rfl rfl (rds_row 1 rfl rfl) rfl (by omega)) rfl ?_
        refine ol_q (wn_none rfl) (op_ldw sc_32 (rds_row 1 rfl rfl) rfl (by omega) rfl) rfl ?_
        refine ol_q (wn_none rfl) (op_assign (v := .int _ _) rfl) rfl ?_
        refine ol_q (wn_none rfl) (op_assign (v := .int _ _) rfl) rfl ?_
        refine ol_nil_then ?_
        refine cd_region ?_   -- 13
        refine ol_q (wn_none rfl) (op_move (v := .int _ _) rfl) rfl ?_
        refine ol_q (wn_none rfl) (op_move (v := .int _ _) rfl) rfl ?_
        refine ol_i (wn_none rfl) (os_call cb_68 rfl (fun w s => root_calls (power := 2) _  s )) rfl ?_; rintro _ l ⟨rfl, rfl⟩
        refine ol_q (wn_none rfl) (op_aidx0 i a1_91 rfl rfl rfl (by omega)) rfl ?_
        refine ol_iN (wn_none rfl) (os_store (v := .int _ _) sc_90 rfl rfl rfl (Nat.ble_eq_true_of_le (show i + 1 ≤ _ by rw [List.size_toArray, wC_len, fillN_len (by rw [List.length_take]; show min i 8 ≤ 8; omega)]; omega)) (Free.zero _) (fillN_st rfl hi8 hroot)) ?_; rintro _ _ ⟨rfl, rfl⟩
        refine ol_nil ?_
        refine px_blockN ?_
        refine px_then ?_
        refine cd_region ?_   -- 14
        refine ol_q (wn_none rfl) (op_add rfl rfl (by omega) (by omega)) rfl ?_
        refine ol_q (wn_none rfl) (op_move (v := .int _ _) rfl) rfl ?_
        refine ol_nil ?_
        refine px_loop2 (i + 1) (by omega) (by (try dsimp only); omega) ⟨congrArg (Value.int .i64) (by simp), trivial⟩ ?_ (fun _ s => s)
        repeat (first | exact kept_over | refine kept_upd rfl ?_ | refine kept_overS (by decide) ?_)
      · have hp3 := hb3
        (try simp only [decide_eq_true_eq, decide_eq_false_iff_not, Bool.not_eq_true', Bool.not_eq_false', ne_eq, Decidable.not_not] at hp3)
        obtain rfl : i = 8 := by omega
        rw [fill8]
        refine cd_exit ?_
        refine px_thenE ?_
        refine px_thenE ?_
        refine px_blockE ?_
        refine px_then ?_
        refine cd_sr ?_   -- 15
        refine ol_i (wn_none rfl) (os_alloc (cs := (wC (List.replicate 64 0)).toArray) zB_100 (by kernel_rfl)) rfl ?_; rintro _ _ ⟨bx3, rfl, rfl⟩
        refine ol_nil_then ?_
        refine cd_seq ?_
        refine cd_sr ?_   -- 16
        refine ol_i (wn_none rfl) (os_call cb_67 rfl (fun w s => primes_calls (n := 64)  s (by decide) (by decide))) rfl ?_; rintro _ _ ⟨po3, pc3, rfl, rfl⟩
        refine ol_q (wn_none rfl) (op_len_slice Try.underlying97 rfl) rfl ?_
        refine ol_q (wn_none rfl) (op_move (v := .int _ _) rfl) rfl ?_
        refine ol_nil_then ?_
        refine cd_block ?_
        refine cd_loop2 (α := Nat) [(10, 11), (55, 64)] (fun x => [(55, .int .i64 (x : Int))]) (fun x => Blk bx3 (.cells (wC (fillN 64 (K64.take x))).toArray 100 (0, 0)) :: Row 32 encU64 (.slice po3 (prm (Int.toNat 64)).length pc3) (prm (Int.toNat 64)) :: Blk bx2 (.cells (wC H0).toArray 91 (0, 0)) :: Blk bx1 (.cells (rootC Root.zero).toArray 40 (0, 0)) :: l) (fun x => x ≤ 64) (fun x => 64 - x) 0 (Nat.zero_le _) ⟨rfl, trivial⟩ (fun _ s => (((((s.del 3).pull 3).pull 3).pull 2).pull 3)) ?_
        rintro i hi f; (try dsimp only at hi ⊢)
        refine cd_sr ?_   -- 17
        refine ol_q (wn_none rfl) (op_lt rfl rfl) rfl ?_
        refine ol_nil_then ?_
        refine cd_seq ?_
        refine cd_cond rfl (fun hb4 => ?_) (fun hb4 => ?_)
        · have hp4 := hb4
          (try simp only [decide_eq_true_eq, decide_eq_false_iff_not, Bool.not_eq_true', Bool.not_eq_false', ne_eq, Decidable.not_not] at hp4)
          have hi64 : i < 64 := by omega
          have hroot := root64_at (i := i) (show i < (prm 64).length by rw [prm_len (by decide)]; omega)
          refine cd_skip ?_
          refine px_then ?_
          refine cd_seq ?_
          refine cd_block ?_
          refine cd_sr ?_   -- 18
          refine ol_q (wn_none rfl) (op_move (v := .int _ _) rfl) rfl ?_
          refine ol_q (wn_none rfl) (op_index _ sB_97 rfl rfl rfl (rds_row 1 rfl rfl) rfl (by omega)) rfl ?_
          refine ol_q (wn_none rfl) (op_ldw sc_32 (rds_row 1 rfl rfl) rfl (by omega) rfl) rfl ?_
          refine ol_q (wn_none rfl) (op_assign (v := .int _ _) rfl) rfl ?_
          refine ol_q (wn_none rfl) (op_assign (v := .int _ _) rfl) rfl ?_
          refine ol_nil_then ?_
          refine cd_region ?_   -- 19
          refine ol_q (wn_none rfl) (op_move (v := .int _ _) rfl) rfl ?_
          refine ol_q (wn_none rfl) (op_move (v := .int _ _) rfl) rfl ?_
          refine ol_i (wn_none rfl) (os_call cb_68 rfl (fun w s => root_calls (power := 3) _  s )) rfl ?_; rintro _ l ⟨rfl, rfl⟩
          refine ol_q (wn_none rfl) (op_aidx0 i a1_100 rfl rfl rfl (by omega)) rfl ?_
          refine ol_iN (wn_none rfl) (os_store (v := .int _ _) sc_90 rfl rfl rfl (Nat.ble_eq_true_of_le (show i + 1 ≤ _ by rw [List.size_toArray, wC_len, fillN_len (by rw [List.length_take, K64_len]; omega)]; omega)) (Free.zero _) (fillN_st K64_len hi64 hroot)) ?_; rintro _ _ ⟨rfl, rfl⟩
          refine ol_nil ?_
          refine px_blockN ?_
          refine px_then ?_
          refine cd_region ?_   -- 20
          refine ol_q (wn_none rfl) (op_add rfl rfl (by omega) (by omega)) rfl ?_
          refine ol_q (wn_none rfl) (op_move (v := .int _ _) rfl) rfl ?_
          refine ol_nil ?_
          refine px_loop2 (i + 1) (by omega) (by (try dsimp only); omega) ⟨congrArg (Value.int .i64) (by simp), trivial⟩ ?_ (fun _ s => s)
          repeat (first | exact kept_over | refine kept_upd rfl ?_ | refine kept_overS (by decide) ?_)
        · have hp4 := hb4
          (try simp only [decide_eq_true_eq, decide_eq_false_iff_not, Bool.not_eq_true', Bool.not_eq_false', ne_eq, Decidable.not_not] at hp4)
          obtain rfl : i = 64 := by omega
          rw [fill64]
          refine cd_exit ?_
          refine px_thenE ?_
          refine px_thenE ?_
          refine px_blockE ?_
          refine px_then ?_
          refine cd_seq ?_
          refine cd_sr ?_   -- 21
          refine ol_q (wn_none rfl) (op_assign (v := .int _ _) rfl) rfl ?_
          refine ol_nil_then ?_
          refine cd_block ?_
          refine cd_loop2 (α := Nat) [(12, 12), (65, 78)] (fun x => [(12, .int .i64 ((64 * x : Nat) : Int))]) (fun x => Blk bx2 (.cells (w8C (run8 x H8 (textM s))).toArray 91 (0, 0)) :: Blk bx3 (.cells (wC K64).toArray 100 (0, 0)) :: Blk bx1 (.cells (rootC Root.zero).toArray 40 (0, 0)) :: l) (fun x => 64 * x ≤ (textM s).length) (fun x => (textM s).length - 64 * x) 0 (Nat.zero_le _) ⟨rfl, trivial⟩ (fun _ s => ((((s.del 1).pull 2).pull 1).pull 2)) ?_
          rintro i hi f; (try dsimp only at hi ⊢)
          refine cd_seq ?_
          refine cd_sr ?_   -- 22
          refine ol_q (wn_none rfl) (op_move (v := .int _ _) rfl) rfl ?_
          refine ol_q (wn_none rfl) (op_move (v := .string _) rfl) rfl ?_
          refine ol_q (wn_none rfl) (op_len_string Try.underlying9 rfl) rfl ?_
          refine ol_q (wn_none rfl) (op_lt rfl rfl) rfl ?_
          refine ol_nil_then ?_
          refine cd_cond rfl (fun hb5 => ?_) (fun hb5 => ?_)
          · have hp5 := hb5
            (try simp only [decide_eq_true_eq, decide_eq_false_iff_not, Bool.not_eq_true', Bool.not_eq_false', ne_eq, Decidable.not_not] at hp5)
            have h64 : 64 * i + 64 ≤ (textM s).length := by omega
            refine cd_skip ?_
            refine px_then ?_
            refine cd_seq ?_
            refine cd_block ?_
            -- 24
            refine cd_drawt (M := []) mx [7] 8 (by kernel_rfl) rfl rfl ?_
            dsimp only [List.take_succ_cons, List.take_zero, List.drop_succ_cons, List.drop_zero]
            refine rg_q (wn_none rfl) (op_lda  0 ag_91 rfl rfl (w8C_take' _) (by simp [w8C_len])) rfl rfl ?_
            refine rg_q (wn_none rfl) (op_lda  1 ag_100 rfl rfl (show ((wC K64).toArray.toList.drop 0).take 64 = wC K64 from List.take_of_length_le (by show (wC K64).length ≤ 64; rw [wC_len, K64_len]; exact Nat.le_refl _)) (by simp [wC_len, K64_len])) rfl rfl ?_
            refine rg_q (wn_none rfl) (op_move (v := .string _) rfl) rfl rfl ?_
            refine rg_q (wn_none rfl) (op_move (v := .int _ _) rfl) rfl rfl ?_
            refine rg_q (wn_none rfl) (op_move (v := .int _ _) rfl) rfl rfl ?_
            refine rg_q (wn_none rfl) (op_add rfl rfl (by omega) (by omega)) rfl rfl ?_
            refine rg_q (wn_none rfl) (op_sslice (64 * i) (64 * i + 64) Try.underlying9 rfl rfl rfl rfl (by omega) (by omega) (by omega)) rfl rfl ?_
            
            refine rg_i (wn_none rfl) (os_call cb_69 rfl (fun w s => block_calls _ _  s (by rw [List.length_drop, List.length_take]; omega))) rfl rfl ?_; rintro _ l ⟨rfl, rfl⟩; refine ⟨[], rfl, ?_⟩
            refine rg_tail0 ?_
            refine ol_iN (wn_none rfl) (os_storew (wC _) ag_91 rfl rfl (by rw [wC_len]; exact (blk8 _ _).2) (wC_one _) (by simp [wC_len, w8C_len]) (Free.zero _)) ?_; rintro _ _ ⟨rfl, rfl⟩
            refine ol_nil ?_
            refine px_blockN ?_
            refine px_then ?_
            refine cd_region ?_   -- 23
            refine ol_q (wn_none rfl) (op_move (v := .int _ _) rfl) rfl ?_
            refine ol_q (wn_none rfl) (op_add rfl rfl (by omega) (by omega)) rfl ?_
            refine ol_q (wn_none rfl) (op_assign (v := .int _ _) rfl) rfl ?_
            refine ol_nil ?_
            have e1 : run8 (i + 1) H8 (textM s) = blk8 (run8 i H8 (textM s)) (((textM s).take (64 * i + 64)).drop (64 * i)) := by rw [run8_last, List.drop_take, Nat.add_sub_cancel_left]
            refine px_loop2 (i + 1) (by omega) (by (try dsimp only); omega) ⟨congrArg (Value.int .i64) (by omega), trivial⟩ ?_ (fun _ s => (by (try dsimp only); rw [e1]; exact s))
            repeat (first | exact kept_over | refine kept_upd rfl ?_ | refine kept_overS (by decide) ?_)
          · have hp5 := hb5
            (try simp only [decide_eq_true_eq, decide_eq_false_iff_not, Bool.not_eq_true', Bool.not_eq_false', ne_eq, Decidable.not_not] at hp5)
            have hie : i = (textM s).length / 64 := by omega
            subst hie
            refine cd_exit ?_
            refine px_thenE ?_
            refine px_thenE ?_
            refine px_blockE ?_
            refine px_then ?_
            refine cd_sr ?_   -- 25
            refine ol_i (wn_none rfl) (os_alloc (cs := (rootC Root.zero).toArray) zB_40 (by kernel_rfl)) rfl ?_; rintro _ _ ⟨bx4, rfl, rfl⟩
            refine ol_nil_then ?_
            refine cd_seq ?_
            refine cd_sr ?_   -- 26
            refine ol_q (wn_none rfl) (op_move (v := .int _ _) rfl) rfl ?_
            refine ol_nil_then ?_
            refine cd_block ?_
            refine cd_loop2 (α := Nat) [(14, 14), (79, 95)] (fun x => [(79, .int .i64 (x : Int))]) (fun x => Blk bx4 (.cells (rootC (outP (run8 ((textM s).length / 64) H8 (textM s)) x)).toArray 40 (0, 0)) :: Blk bx2 (.cells (w8C (run8 ((textM s).length / 64) H8 (textM s))).toArray 91 (0, 0)) :: Blk bx1 (.cells (rootC Root.zero).toArray 40 (0, 0)) :: l) (fun x => x ≤ 32) (fun x => 32 - x) 0 (Nat.zero_le _) ⟨rfl, trivial⟩ (fun _ s1 => by rw [outP_zero]; exact (s1.del 2)) ?_
            rintro j hj f; (try dsimp only at hj ⊢)
            refine cd_sr ?_   -- 27
            refine ol_q (wn_none rfl) (op_lt rfl rfl) rfl ?_
            refine ol_nil_then ?_
            refine cd_seq ?_
            refine cd_cond rfl (fun hb6 => ?_) (fun hb6 => ?_)
            · have hp6 := hb6
              (try simp only [decide_eq_true_eq, decide_eq_false_iff_not, Bool.not_eq_true', Bool.not_eq_false', ne_eq, Decidable.not_not] at hp6)
              have hj32 : j < 32 := by omega
              refine cd_skip ?_
              refine px_then ?_
              refine cd_seq ?_
              refine cd_block ?_
              refine cd_sr ?_   -- 28
              refine ol_q (wn_none rfl) (op_move (v := .int _ _) rfl) rfl ?_
              refine ol_q (wn_none rfl) (op_assign (v := .int _ _) rfl) rfl ?_
              refine ol_nil_then ?_
              refine cd_region ?_   -- 29
              refine ol_q (wn_none rfl) (op_move (v := .int _ _) rfl) rfl ?_
              refine ol_q (wn_none rfl) (op_move (v := .int _ _) rfl) rfl ?_
              refine ol_q (wn_none rfl) (op_quonk (A := j) (C := 4) rfl rfl (by decide) (by omega)) rfl ?_
              refine ol_q (wn_none rfl) (op_aidx0 (j / 4) a1_91 rfl rfl rfl (by omega)) rfl ?_
              refine ol_q (wn_none rfl) (op_ld 1 sc_90 rfl rfl (wC_gd (ws := (run8 ((textM s).length / 64) H8 (textM s)).1) (by rw [(run8 ((textM s).length / 64) H8 (textM s)).2]; omega))) rfl ?_
              refine ol_q (wn_none rfl) (op_move (v := .int _ _) rfl) rfl ?_
              refine ol_q (wn_none rfl) (op_remn (A := j) (C := 4) rfl rfl (by decide)) rfl ?_
              refine ol_q (wn_none rfl) (op_mul rfl rfl (by omega) (by omega)) rfl ?_
              refine ol_q (wn_none rfl) (op_sub rfl rfl (by omega) (by omega)) rfl ?_
              refine ol_q (wn_none rfl) (op_conv64m (24 - 8 * (j % 4)) Try.underlying84 (by rw [Try.underlying3]; rfl) rfl (by omega) (by omega)) rfl ?_
              refine ol_q (wn_none rfl) (op_shr32 (m := 24 - 8 * (j % 4)) _ rfl rfl (by omega)) rfl ?_
              refine ol_q (wn_none rfl) (op_conv8 Try.underlying5 (by rw [Try.underlying90]; rfl) rfl) rfl ?_
              refine ol_q (wn_none rfl) (op_aidx0 j a1_40 rfl rfl rfl (by omega)) rfl ?_
              refine ol_iN (wn_none rfl) (os_store (v := .int _ _) sc_5 rfl rfl rfl (Nat.ble_eq_true_of_le (show j + 1 ≤ _ by rw [List.size_toArray, rootC_len]; omega)) (Free.zero _) (rootC_set _ _ _)) ?_; rintro _ _ ⟨rfl, rfl⟩
              refine ol_nil ?_
              refine px_blockN ?_
              refine px_then ?_
              refine cd_region ?_   -- 30
              refine ol_q (wn_none rfl) (op_add rfl rfl (by omega) (by omega)) rfl ?_
              refine ol_q (wn_none rfl) (op_move (v := .int _ _) rfl) rfl ?_
              refine ol_nil ?_
              refine px_loop2 (j + 1) (by omega) (by (try dsimp only); omega) ⟨congrArg (Value.int .i64) (by simp), trivial⟩ ?_ (fun _ s => (by (try dsimp only); rw [outP_succ _ hj32]; exact s))
              repeat (first | exact kept_over | refine kept_upd rfl ?_ | refine kept_overS (by decide) ?_)
            · have hp6 := hb6
              (try simp only [decide_eq_true_eq, decide_eq_false_iff_not, Bool.not_eq_true', Bool.not_eq_false', ne_eq, Decidable.not_not] at hp6)
              obtain rfl : j = 32 := by omega
              refine cd_exit ?_
              refine px_thenE ?_
              refine px_thenE ?_
              refine px_blockE ?_
              refine px_then ?_
              refine cd_sr ?_   -- 31
              refine ol_q (wn_none rfl) (op_lda (L := rootC _) 0 ag_40 rfl rfl (rootC_take' _) (by simp [rootC_len])) rfl ?_
              refine ol_pull2 ?_
              refine ol_iN (wn_none rfl) (os_storera _ ag_40 rfl rfl (Free.zero _)) ?_; rintro _ _ ⟨rfl, rfl⟩
              refine ol_nil_then ?_
              refine cd_ret ?_
              exact px_rv1 rfl (rv_cella 0 ag_40 rfl rfl (rootC_take' _) (by simp [rootC_len])) (fun _ s => (((s.del 2).del 1).del 0)) ⟨by rw [shaM_text]; rfl, rfl⟩
end Go.SL

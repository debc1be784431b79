import Derived.Test.YtgdlddjalilmhaaRef
set_option linter.unusedVariables false
set_option linter.unusedSimpArgs false
namespace Go.SL
open Go.Proofs

set_option maxRecDepth 100000 in
set_option maxHeartbeats 1000000 in
theorem block_calls {w0 w : World} {l : List HProp} (h : W8) (s : List UInt8) (hs : Sat w0 w (l)) (hs64 : s.length = 64) :
    Calls Try.prog 69 #[.agg (w8C h).toArray, .agg (wC K64).toArray, .string (B s)] w (Ret w0 fun v l' => v = .agg (w8C (blk8 h s)).toArray ∧ l' = l) := by
  refine calls_enter Try.func69 rfl rfl rfl hs ?_
  refine cd_sr ?_   -- 0
  refine ol_i (wn_none rfl) (os_boxa rfl) rfl ?_; rintro _ _ ⟨bx1, rfl, rfl⟩
  refine ol_i (wn_none rfl) (os_boxa rfl) rfl ?_; rintro _ _ ⟨bx2, rfl, rfl⟩
  refine ol_i (wn_none rfl) (os_alloc (cs := (wC (List.replicate 8 0)).toArray) zB_91 (by kernel_rfl)) rfl ?_; rintro _ _ ⟨bx3, rfl, rfl⟩
  refine ol_nil_then ?_
  refine cd_sr ?_   -- 1
  refine ol_i (wn_none rfl) (os_alloc (cs := (wC (List.replicate 64 0)).toArray) zB_100 (by kernel_rfl)) rfl ?_; rintro _ _ ⟨bx4, rfl, rfl⟩
  refine ol_nil_then ?_
  refine cd_seq ?_
  refine cd_sr ?_   -- 2
  refine ol_q (wn_none rfl) (op_move (v := .int _ _) rfl) rfl ?_
  refine ol_nil_then ?_
  refine cd_block ?_
  refine cd_loop2 (α := Nat) [(8, 11), (23, 83)] (fun x => [(23, .int .i64 (x : Int))]) (fun x => Blk bx4 (.cells (wC (fillA ((layM s).take x))).toArray 100 (0, 0)) :: Blk bx3 (.cells (wC (List.replicate 8 0)).toArray 91 (0, 0)) :: Blk bx2 (.cells (wC K64).toArray 100 (0, 0)) :: Blk bx1 (.cells (w8C h).toArray 91 (0, 0)) :: l) (fun x => x ≤ 64) (fun x => 64 - x) 0 (Nat.zero_le _) ⟨rfl, trivial⟩ (fun _ s => s) ?_
  rintro i hi f; (try dsimp only at hi ⊢)
  have hml : ((layM s).take i).length = i := by rw [List.length_take, layM_len]; omega
  refine cd_sr ?_   -- 3
  refine ol_q (wn_none rfl) (op_lt rfl rfl) rfl ?_
  refine ol_nil_then ?_
  refine cd_seq ?_
  refine cd_cond rfl (fun hb1 => ?_) (fun hb1 => ?_)
  · have hp1 := hb1
    (try simp only [decide_eq_true_eq, decide_eq_false_iff_not, Bool.not_eq_true', Bool.not_eq_false', ne_eq, Decidable.not_not] at hp1)
    have hi64 : i < 64 := by omega
    refine cd_skip ?_
    refine px_then ?_
    refine cd_seq ?_
    refine cd_block ?_
    refine cd_sr ?_   -- 4
    refine ol_q (wn_none rfl) (op_move (v := .int _ _) rfl) rfl ?_
    refine ol_q (wn_none rfl) (op_assign (v := .int _ _) rfl) rfl ?_
    refine ol_nil_then ?_
    refine cd_seq ?_
    refine cd_sr ?_   -- 5
    refine ol_q (wn_none rfl) (op_move (v := .int _ _) rfl) rfl ?_
    refine ol_q (wn_none rfl) (op_lt rfl rfl) rfl ?_
    refine ol_nil_then ?_
    refine cd_cond rfl (fun hb2 => ?_) (fun hb2 => ?_)
    · have hp2 := hb2
      (try simp only [decide_eq_true_eq, decide_eq_false_iff_not, Bool.not_eq_true', Bool.not_eq_false', ne_eq, Decidable.not_not] at hp2)
      have hi16 : i < 16 := by omega
      refine cd_seq ?_
      refine cd_sr ?_   -- 6
      refine ol_q (wn_none rfl) (op_assign (v := .int _ _) rfl) rfl ?_
      refine ol_nil_then ?_
      refine cd_block ?_
      refine cd_loop2 (α := Nat) [(9, 9), (28, 45)] (fun x => [(9, .int .i64 (x : Int))]) (fun x => Blk bx4 (.cells (wC (fillA (((layM s).take i) ++ [accW s i x]))).toArray 100 (0, 0)) :: Blk bx3 (.cells (wC (List.replicate 8 0)).toArray 91 (0, 0)) :: Blk bx2 (.cells (wC K64).toArray 100 (0, 0)) :: Blk bx1 (.cells (w8C h).toArray 91 (0, 0)) :: l) (fun x => x ≤ 4) (fun x => 4 - x) 0 (Nat.zero_le _) ⟨rfl, trivial⟩ (fun _ s1 => by (try dsimp only [accW]); show Sat _ _ (Blk bx4 (.cells (wC (fillA (((layM s).take i) ++ [0]))).toArray 100 (0, 0)) :: Blk bx3 (.cells (wC (List.replicate 8 0)).toArray 91 (0, 0)) :: Blk bx2 (.cells (wC K64).toArray 100 (0, 0)) :: Blk bx1 (.cells (w8C h).toArray 91 (0, 0)) :: l); rw [← fillA_zero (by rw [hml]; omega)]; exact s1) ?_
      rintro k hk f; (try dsimp only at hk ⊢)
      refine cd_seq ?_
      refine cd_sr ?_   -- 7
      refine ol_q (wn_none rfl) (op_move (v := .int _ _) rfl) rfl ?_
      refine ol_q (wn_none rfl) (op_lt rfl rfl) rfl ?_
      refine ol_nil_then ?_
      refine cd_cond rfl (fun hb3 => ?_) (fun hb3 => ?_)
      · have hp3 := hb3
        (try simp only [decide_eq_true_eq, decide_eq_false_iff_not, Bool.not_eq_true', Bool.not_eq_false', ne_eq, Decidable.not_not] at hp3)
        have hk4 : k < 4 := by omega
        refine cd_skip ?_
        refine px_then ?_
        refine cd_seq ?_
        refine cd_block ?_
        -- 9
        refine cd_drawt (M := []) mx [] 14 (by kernel_rfl) rfl rfl ?_
        dsimp only [List.take_succ_cons, List.take_zero, List.drop_succ_cons, List.drop_zero]
        refine rg_q (wn_none rfl) (op_move (v := .int _ _) rfl) rfl rfl ?_
        refine rg_q (wn_none rfl) (op_move (v := .int _ _) rfl) rfl rfl ?_
        refine rg_q (wn_none rfl) (op_aidx0 i a1_100 rfl rfl rfl (by omega)) rfl rfl ?_
        refine rg_q (wn_none rfl) (op_ld 0 sc_90 rfl rfl (fillA_last hml.symm)) rfl rfl ?_
        refine rg_q (wn_none rfl) (op_mul32 _ 256 rfl rfl) rfl rfl ?_
        refine rg_q (wn_none rfl) (op_move (v := .string _) rfl) rfl rfl ?_
        refine rg_q (wn_none rfl) (op_move (v := .int _ _) rfl) rfl rfl ?_
        refine rg_q (wn_none rfl) (op_mul rfl rfl (by omega) (by omega)) rfl rfl ?_
        refine rg_q (wn_none rfl) (op_move (v := .int _ _) rfl) rfl rfl ?_
        refine rg_q (wn_none rfl) (op_add rfl rfl (by omega) (by omega)) rfl rfl ?_
        refine rg_q (wn_none rfl) (op_sidx (4 * i + k) Try.underlying9 rfl rfl (by first | rfl | omega) (by omega)) rfl rfl ?_
        refine rg_q (wn_none rfl) (op_conv32 Try.underlying90 (by rw [Try.underlying5]; rfl) rfl) rfl rfl ?_
        refine rg_q (wn_none rfl) (op_add32 _ _ rfl rfl) rfl rfl ?_
        refine rg_q (wn_none rfl) (op_aidx0 i a1_100 rfl rfl rfl (by omega)) rfl rfl ?_
        refine rg_tail0 ?_
        refine ol_iN (wn_none rfl) (os_store (v := .int _ _) sc_90 rfl rfl rfl (Nat.ble_eq_true_of_le (show i + 1 ≤ _ by rw [List.size_toArray, wC_len, fillA_len (by rw [List.length_append, hml]; show i + 1 ≤ 64; omega)]; omega)) (Free.zero _) (fillA_re hml.symm (by rw [hml]; omega) _)) ?_; rintro _ _ ⟨rfl, rfl⟩
        refine ol_nil ?_
        refine px_blockN ?_
        refine px_then ?_
        refine cd_region ?_   -- 8
        refine ol_q (wn_none rfl) (op_move (v := .int _ _) rfl) rfl ?_
        refine ol_q (wn_none rfl) (op_add rfl rfl (by omega) (by omega)) rfl ?_
        refine ol_q (wn_none rfl) (op_assign (v := .int _ _) rfl) rfl ?_
        refine ol_nil ?_
        refine px_loop2 (k + 1) (by omega) (by (try dsimp only); omega) ⟨congrArg (Value.int .i64) (by simp), trivial⟩ ?_ (fun _ s => s)
        repeat (first | exact kept_over | refine kept_upd rfl ?_ | refine kept_overS (by decide) ?_)
      · have hp3 := hb3
        (try simp only [decide_eq_true_eq, decide_eq_false_iff_not, Bool.not_eq_true', Bool.not_eq_false', ne_eq, Decidable.not_not] at hp3)
        obtain rfl : k = 4 := by omega
        rw [accW_word]
        refine cd_exit ?_
        refine px_thenE ?_
        refine px_thenE ?_
        refine px_blockE ?_
        refine px_then ?_
        refine cd_exit ?_
        refine px_thenE ?_
        refine px_blockE ?_
        refine px_then ?_
        refine cd_region ?_   -- 12
        refine ol_q (wn_none rfl) (op_add rfl rfl (by omega) (by omega)) rfl ?_
        refine ol_q (wn_none rfl) (op_move (v := .int _ _) rfl) rfl ?_
        refine ol_nil ?_
        have e1 := lay_first s hi16
        refine px_loop2 (i + 1) (by omega) (by (try dsimp only); omega) ⟨congrArg (Value.int .i64) (by simp), trivial⟩ ?_ (fun _ s => (by (try dsimp only); rw [e1]; exact s))
        repeat (first | exact kept_over | refine kept_upd rfl ?_ | refine kept_overS (by decide) ?_)
    · have hp2 := hb2
      (try simp only [decide_eq_true_eq, decide_eq_false_iff_not, Bool.not_eq_true', Bool.not_eq_false', ne_eq, Decidable.not_not] at hp2)
      have hi16 : 16 ≤ i := by omega
      refine cd_skip ?_
      refine px_then ?_
      refine cd_seq ?_   -- 10
      refine cd_draw (M := []) mx [] (by kernel_rfl) ?_
      refine rg_q (wn_none rfl) (op_move (v := .int _ _) rfl) rfl rfl ?_
      refine rg_q (wn_none rfl) (op_sub rfl rfl (by omega) (by omega)) rfl rfl ?_
      refine rg_q (wn_none rfl) (op_aidx0 (i - 15) a1_100 rfl rfl (by omega) (by omega)) rfl rfl ?_
      refine rg_q (wn_none rfl) (op_ld 0 sc_90 rfl rfl (fillA_at (by rw [hml]; omega))) rfl rfl ?_
      refine rg_q (wn_none rfl) (op_move (v := .int _ _) rfl) rfl rfl ?_
      refine rg_q (wn_none rfl) (op_sub rfl rfl (by omega) (by omega)) rfl rfl ?_
      refine rg_q (wn_none rfl) (op_aidx0 (i - 2) a1_100 rfl rfl (by omega) (by omega)) rfl rfl ?_
      refine rg_q (wn_none rfl) (op_ld 0 sc_90 rfl rfl (fillA_at (by rw [hml]; omega))) rfl rfl ?_
      refine rg_q (wn_none rfl) (op_assign (v := .int _ _) rfl) rfl rfl ?_
      refine rg_q (wn_none rfl) (op_assign (v := .int _ _) rfl) rfl rfl ?_
      refine rg_nil_then0 ?_
      -- 11
      refine cd_drawe (M := [_]) mx [4, 8, 11, 13, 20, 22, 29] ?_
      -- 0
      refine et_quiet 0 (by kernel_rfl) rfl (by kernel_rfl) (wn_none rfl) (op_move (v := .int _ _) rfl) rfl ?_
      -- 1
      refine et_quiet 1 (by kernel_rfl) rfl (by kernel_rfl) (wn_none rfl) (op_move (v := .int _ _) rfl) rfl ?_
      -- 2
      refine et_quiet 2 (by kernel_rfl) rfl (by kernel_rfl) (wn_none rfl) (op_sub rfl rfl (by omega) (by omega)) rfl ?_
      -- 3
      refine et_quiet 3 (by kernel_rfl) rfl (by kernel_rfl) (wn_none rfl) (op_aidx0 (i - 16) a1_100 rfl rfl (by omega) (by omega)) rfl ?_
      -- 5
      refine et_quiet 5 (by kernel_rfl) rfl (by kernel_rfl) (wn_none rfl) (op_move (v := .int _ _) rfl) rfl ?_
      -- 6
      refine et_quiet 6 (by kernel_rfl) rfl (by kernel_rfl) (wn_none rfl) (op_sub rfl rfl (by omega) (by omega)) rfl ?_
      -- 7
      refine et_quiet 7 (by kernel_rfl) rfl (by kernel_rfl) (wn_none rfl) (op_aidx0 (i - 7) a1_100 rfl rfl (by omega) (by omega)) rfl ?_
      -- 10
      refine et_quiet 10 (by kernel_rfl) rfl (by kernel_rfl) (wn_none rfl) (op_move (v := .int _ _) rfl) rfl ?_
      -- 12
      refine et_quiet 12 (by kernel_rfl) rfl (by kernel_rfl) (wn_none rfl) (op_move (v := .int _ _) rfl) rfl ?_
      -- 15
      refine et_quiet 15 (by kernel_rfl) rfl (by kernel_rfl) (wn_none rfl) (op_move (v := .int _ _) rfl) rfl ?_
      -- 16
      refine et_quiet 16 (by kernel_rfl) rfl (by kernel_rfl) (wn_none rfl) (op_shr32 (m := 3) _ rfl rfl (by decide)) rfl ?_
      -- 19
      refine et_quiet 19 (by kernel_rfl) rfl (by kernel_rfl) (wn_none rfl) (op_move (v := .int _ _) rfl) rfl ?_
      -- 21
      refine et_quiet 21 (by kernel_rfl) rfl (by kernel_rfl) (wn_none rfl) (op_move (v := .int _ _) rfl) rfl ?_
      -- 24
      refine et_quiet 24 (by kernel_rfl) rfl (by kernel_rfl) (wn_none rfl) (op_move (v := .int _ _) rfl) rfl ?_
      -- 25
      refine et_quiet 25 (by kernel_rfl) rfl (by kernel_rfl) (wn_none rfl) (op_shr32 (m := 10) _ rfl rfl (by decide)) rfl ?_
      refine et_3 (i1 := 4) (i2 := 8) (i3 := 11) (by kernel_rfl) ?_ ?_ ?_
      · -- 4
        refine ei_i rfl rfl (wn_none rfl) (os_q (op_ld 0 sc_90 rfl rfl (fillA_at (by rw [hml]; omega)))) rfl ?_; rintro _ _ ⟨rfl, rfl⟩; refine ⟨[_], rfl, ?_⟩
        refine et_2 (i1 := 8) (i2 := 11) (by kernel_rfl) ?_ ?_
        · -- 8
          refine ei_i rfl rfl (wn_none rfl) (os_q (op_ld 0 sc_90 rfl rfl (fillA_at (by rw [hml]; omega)))) rfl ?_; rintro _ _ ⟨rfl, rfl⟩; refine ⟨[_], rfl, ?_⟩
          -- 9
          refine et_quiet 9 (by kernel_rfl) rfl (by kernel_rfl) (wn_none rfl) (op_add32 _ _ rfl rfl) rfl ?_
          refine et_1 (i := 11) (by kernel_rfl) ?_
          refine ei_i rfl rfl (wn_none rfl) (os_call cb_72 rfl (fun w s => right_calls (k := 7) _  s (by decide) (by decide))) rfl ?_; rintro _ l ⟨rfl, rfl⟩; refine ⟨[_], rfl, ?_⟩
          refine et_1 (i := 13) (by kernel_rfl) ?_
          refine ei_i rfl rfl (wn_none rfl) (os_call cb_72 rfl (fun w s => right_calls (k := 18) _  s (by decide) (by decide))) rfl ?_; rintro _ l ⟨rfl, rfl⟩; refine ⟨[_], rfl, ?_⟩
          -- 14
          refine et_quiet 14 (by kernel_rfl) rfl (by kernel_rfl) (wn_none rfl) (op_xor32 _ _ rfl rfl) rfl ?_
          -- 17
          refine et_quiet 17 (by kernel_rfl) rfl (by kernel_rfl) (wn_none rfl) (op_xor32 _ _ rfl rfl) rfl ?_
          -- 18
          refine et_quiet 18 (by kernel_rfl) rfl (by kernel_rfl) (wn_none rfl) (op_add32 _ _ rfl rfl) rfl ?_
          refine et_1 (i := 20) (by kernel_rfl) ?_
          refine ei_i rfl rfl (wn_none rfl) (os_call cb_72 rfl (fun w s => right_calls (k := 17) _  s (by decide) (by decide))) rfl ?_; rintro _ l ⟨rfl, rfl⟩; refine ⟨[_], rfl, ?_⟩
          refine et_1 (i := 22) (by kernel_rfl) ?_
          refine ei_i rfl rfl (wn_none rfl) (os_call cb_72 rfl (fun w s => right_calls (k := 19) _  s (by decide) (by decide))) rfl ?_; rintro _ l ⟨rfl, rfl⟩; refine ⟨[_], rfl, ?_⟩
          -- 23
          refine et_quiet 23 (by kernel_rfl) rfl (by kernel_rfl) (wn_none rfl) (op_xor32 _ _ rfl rfl) rfl ?_
          -- 26
          refine et_quiet 26 (by kernel_rfl) rfl (by kernel_rfl) (wn_none rfl) (op_xor32 _ _ rfl rfl) rfl ?_
          -- 27
          refine et_quiet 27 (by kernel_rfl) rfl (by kernel_rfl) (wn_none rfl) (op_add32 _ _ rfl rfl) rfl ?_
          -- 28
          refine et_quiet 28 (by kernel_rfl) rfl (by kernel_rfl) (wn_none rfl) (op_aidx0 i a1_100 rfl rfl rfl (by omega)) rfl ?_
          refine et_1 (i := 29) (by kernel_rfl) ?_
          refine ei_iN rfl rfl (wn_none rfl) (os_store (v := .int _ _) sc_90 rfl rfl rfl (Nat.ble_eq_true_of_le (show i + 1 ≤ _ by rw [List.size_toArray, wC_len, fillA_len (by rw [hml]; omega)]; omega)) (Free.zero _) (fillA_st hml.symm (by rw [hml]; omega) _)) ?_; rintro _ _ ⟨rfl, rfl⟩; refine ⟨[_], rfl, ?_⟩
          refine et_nil (by kernel_rfl) ?_
          refine px_blockN ?_
          refine px_then ?_
          refine cd_region ?_   -- 12
          refine ol_q (wn_none rfl) (op_add rfl rfl (by omega) (by omega)) rfl ?_
          refine ol_q (wn_none rfl) (op_move (v := .int _ _) rfl) rfl ?_
          refine ol_nil ?_
          have e1 := lay_next s hi16 hi64
          unfold next16 at e1
          rw [hml] at e1
          have e8 : ∀ (a b c d : UInt32), a + b + c + d = a + c + b + d := fun a b c d => by rw [UInt32.add_assoc a b c, UInt32.add_comm b c, ← UInt32.add_assoc]
          rw [← e8] at e1
          refine px_loop2 (i + 1) (by omega) (by (try dsimp only); omega) ⟨congrArg (Value.int .i64) (by simp), trivial⟩ ?_ (fun _ s => (by (try dsimp only); rw [e1]; exact s))
          repeat (first | exact kept_over | refine kept_upd rfl ?_ | refine kept_overS (by decide) ?_)
        · -- 11
          refine ei_i rfl rfl (wn_none rfl) (os_call cb_72 rfl (fun w s => right_calls (k := 7) _  s (by decide) (by decide))) rfl ?_; rintro _ l ⟨rfl, rfl⟩; refine ⟨[_], rfl, ?_⟩
          refine et_2 (i1 := 8) (i2 := 13) (by kernel_rfl) ?_ ?_
          · -- 8
            refine ei_i rfl rfl (wn_none rfl) (os_q (op_ld 0 sc_90 rfl rfl (fillA_at (by rw [hml]; omega)))) rfl ?_; rintro _ _ ⟨rfl, rfl⟩; refine ⟨[_], rfl, ?_⟩
            -- 9
            refine et_quiet 9 (by kernel_rfl) rfl (by kernel_rfl) (wn_none rfl) (op_add32 _ _ rfl rfl) rfl ?_
            refine et_1 (i := 13) (by kernel_rfl) ?_
            refine ei_i rfl rfl (wn_none rfl) (os_call cb_72 rfl (fun w s => right_calls (k := 18) _  s (by decide) (by decide))) rfl ?_; rintro _ l ⟨rfl, rfl⟩; refine ⟨[_], rfl, ?_⟩
            -- 14
            refine et_quiet 14 (by kernel_rfl) rfl (by kernel_rfl) (wn_none rfl) (op_xor32 _ _ rfl rfl) rfl ?_
            -- 17
            refine et_quiet 17 (by kernel_rfl) rfl (by kernel_rfl) (wn_none rfl) (op_xor32 _ _ rfl rfl) rfl ?_
            -- 18
            refine et_quiet 18 (by kernel_rfl) rfl (by kernel_rfl) (wn_none rfl) (op_add32 _ _ rfl rfl) rfl ?_
            refine et_1 (i := 20) (by kernel_rfl) ?_
            refine ei_i rfl rfl (wn_none rfl) (os_call cb_72 rfl (fun w s => right_calls (k := 17) _  s (by decide) (by decide))) rfl ?_; rintro _ l ⟨rfl, rfl⟩; refine ⟨[_], rfl, ?_⟩
            refine et_1 (i := 22) (by kernel_rfl) ?_
            refine ei_i rfl rfl (wn_none rfl) (os_call cb_72 rfl (fun w s => right_calls (k := 19) _  s (by decide) (by decide))) rfl ?_; rintro _ l ⟨rfl, rfl⟩; refine ⟨[_], rfl, ?_⟩
            -- 23
            refine et_quiet 23 (by kernel_rfl) rfl (by kernel_rfl) (wn_none rfl) (op_xor32 _ _ rfl rfl) rfl ?_
            -- 26
            refine et_quiet 26 (by kernel_rfl) rfl (by kernel_rfl) (wn_none rfl) (op_xor32 _ _ rfl rfl) rfl ?_
            -- 27
            refine et_quiet 27 (by kernel_rfl) rfl (by kernel_rfl) (wn_none rfl) (op_add32 _ _ rfl rfl) rfl ?_
            -- 28
            refine et_quiet 28 (by kernel_rfl) rfl (by kernel_rfl) (wn_none rfl) (op_aidx0 i a1_100 rfl rfl rfl (by omega)) rfl ?_
            refine et_1 (i := 29) (by kernel_rfl) ?_
            refine ei_iN rfl rfl (wn_none rfl) (os_store (v := .int _ _) sc_90 rfl rfl rfl (Nat.ble_eq_true_of_le (show i + 1 ≤ _ by rw [List.size_toArray, wC_len, fillA_len (by rw [hml]; omega)]; omega)) (Free.zero _) (fillA_st hml.symm (by rw [hml]; omega) _)) ?_; rintro _ _ ⟨rfl, rfl⟩; refine ⟨[_], rfl, ?_⟩
            refine et_nil (by kernel_rfl) ?_
            refine px_blockN ?_
            refine px_then ?_
            refine cd_region ?_   -- 12
            refine ol_q (wn_none rfl) (op_add rfl rfl (by omega) (by omega)) rfl ?_
            refine ol_q (wn_none rfl) (op_move (v := .int _ _) rfl) rfl ?_
            refine ol_nil ?_
            have e1 := lay_next s hi16 hi64
            unfold next16 at e1
            rw [hml] at e1
            have e8 : ∀ (a b c d : UInt32), a + b + c + d = a + c + b + d := fun a b c d => by rw [UInt32.add_assoc a b c, UInt32.add_comm b c, ← UInt32.add_assoc]
            rw [← e8] at e1
            refine px_loop2 (i + 1) (by omega) (by (try dsimp only); omega) ⟨congrArg (Value.int .i64) (by simp), trivial⟩ ?_ (fun _ s => (by (try dsimp only); rw [e1]; exact s))
            repeat (first | exact kept_over | refine kept_upd rfl ?_ | refine kept_overS (by decide) ?_)
          · -- 13
            refine ei_i rfl rfl (wn_none rfl) (os_call cb_72 rfl (fun w s => right_calls (k := 18) _  s (by decide) (by decide))) rfl ?_; rintro _ l ⟨rfl, rfl⟩; refine ⟨[_], rfl, ?_⟩
            -- 14
            refine et_quiet 14 (by kernel_rfl) rfl (by kernel_rfl) (wn_none rfl) (op_xor32 _ _ rfl rfl) rfl ?_
            -- 17
            refine et_quiet 17 (by kernel_rfl) rfl (by kernel_rfl) (wn_none rfl) (op_xor32 _ _ rfl rfl) rfl ?_
            refine et_2 (i1 := 8) (i2 := 20) (by kernel_rfl) ?_ ?_
            · -- 8
              refine ei_i rfl rfl (wn_none rfl) (os_q (op_ld 0 sc_90 rfl rfl (fillA_at (by rw [hml]; omega)))) rfl ?_; rintro _ _ ⟨rfl, rfl⟩; refine ⟨[_], rfl, ?_⟩
              -- 9
              refine et_quiet 9 (by kernel_rfl) rfl (by kernel_rfl) (wn_none rfl) (op_add32 _ _ rfl rfl) rfl ?_
              -- 18
              refine et_quiet 18 (by kernel_rfl) rfl (by kernel_rfl) (wn_none rfl) (op_add32 _ _ rfl rfl) rfl ?_
              refine et_1 (i := 20) (by kernel_rfl) ?_
              refine ei_i rfl rfl (wn_none rfl) (os_call cb_72 rfl (fun w s => right_calls (k := 17) _  s (by decide) (by decide))) rfl ?_; rintro _ l ⟨rfl, rfl⟩; refine ⟨[_], rfl, ?_⟩
              refine et_1 (i := 22) (by kernel_rfl) ?_
              refine ei_i rfl rfl (wn_none rfl) (os_call cb_72 rfl (fun w s => right_calls (k := 19) _  s (by decide) (by decide))) rfl ?_; rintro _ l ⟨rfl, rfl⟩; refine ⟨[_], rfl, ?_⟩
              -- 23
              refine et_quiet 23 (by kernel_rfl) rfl (by kernel_rfl) (wn_none rfl) (op_xor32 _ _ rfl rfl) rfl ?_
              -- 26
              refine et_quiet 26 (by kernel_rfl) rfl (by kernel_rfl) (wn_none rfl) (op_xor32 _ _ rfl rfl) rfl ?_
              -- 27
              refine et_quiet 27 (by kernel_rfl) rfl (by kernel_rfl) (wn_none rfl) (op_add32 _ _ rfl rfl) rfl ?_
              -- 28
              refine et_quiet 28 (by kernel_rfl) rfl (by kernel_rfl) (wn_none rfl) (op_aidx0 i a1_100 rfl rfl rfl (by omega)) rfl ?_
              refine et_1 (i := 29) (by kernel_rfl) ?_
              refine ei_iN rfl rfl (wn_none rfl) (os_store (v := .int _ _) sc_90 rfl rfl rfl (Nat.ble_eq_true_of_le (show i + 1 ≤ _ by rw [List.size_toArray, wC_len, fillA_len (by rw [hml]; omega)]; omega)) (Free.zero _) (fillA_st hml.symm (by rw [hml]; omega) _)) ?_; rintro _ _ ⟨rfl, rfl⟩; refine ⟨[_], rfl, ?_⟩
              refine et_nil (by kernel_rfl) ?_
              refine px_blockN ?_
              refine px_then ?_
              refine cd_region ?_   -- 12
              refine ol_q (wn_none rfl) (op_add rfl rfl (by omega) (by omega)) rfl ?_
              refine ol_q (wn_none rfl) (op_move (v := .int _ _) rfl) rfl ?_
              refine ol_nil ?_
              have e1 := lay_next s hi16 hi64
              unfold next16 at e1
              rw [hml] at e1
              have e8 : ∀ (a b c d : UInt32), a + b + c + d = a + c + b + d := fun a b c d => by rw [UInt32.add_assoc a b c, UInt32.add_comm b c, ← UInt32.add_assoc]
              rw [← e8] at e1
              refine px_loop2 (i + 1) (by omega) (by (try dsimp only); omega) ⟨congrArg (Value.int .i64) (by simp), trivial⟩ ?_ (fun _ s => (by (try dsimp only); rw [e1]; exact s))
              repeat (first | exact kept_over | refine kept_upd rfl ?_ | refine kept_overS (by decide) ?_)
            · -- 20
              refine ei_i rfl rfl (wn_none rfl) (os_call cb_72 rfl (fun w s => right_calls (k := 17) _  s (by decide) (by decide))) rfl ?_; rintro _ l ⟨rfl, rfl⟩; refine ⟨[_], rfl, ?_⟩
              refine et_2 (i1 := 8) (i2 := 22) (by kernel_rfl) ?_ ?_
              · -- 8
                refine ei_i rfl rfl (wn_none rfl) (os_q (op_ld 0 sc_90 rfl rfl (fillA_at (by rw [hml]; omega)))) rfl ?_; rintro _ _ ⟨rfl, rfl⟩; refine ⟨[_], rfl, ?_⟩
                -- 9
                refine et_quiet 9 (by kernel_rfl) rfl (by kernel_rfl) (wn_none rfl) (op_add32 _ _ rfl rfl) rfl ?_
                -- 18
                refine et_quiet 18 (by kernel_rfl) rfl (by kernel_rfl) (wn_none rfl) (op_add32 _ _ rfl rfl) rfl ?_
                refine et_1 (i := 22) (by kernel_rfl) ?_
                refine ei_i rfl rfl (wn_none rfl) (os_call cb_72 rfl (fun w s => right_calls (k := 19) _  s (by decide) (by decide))) rfl ?_; rintro _ l ⟨rfl, rfl⟩; refine ⟨[_], rfl, ?_⟩
                -- 23
                refine et_quiet 23 (by kernel_rfl) rfl (by kernel_rfl) (wn_none rfl) (op_xor32 _ _ rfl rfl) rfl ?_
                -- 26
                refine et_quiet 26 (by kernel_rfl) rfl (by kernel_rfl) (wn_none rfl) (op_xor32 _ _ rfl rfl) rfl ?_
                -- 27
                refine et_quiet 27 (by kernel_rfl) rfl (by kernel_rfl) (wn_none rfl) (op_add32 _ _ rfl rfl) rfl ?_
                -- 28
                refine et_quiet 28 (by kernel_rfl) rfl (by kernel_rfl) (wn_none rfl) (op_aidx0 i a1_100 rfl rfl rfl (by omega)) rfl ?_
                refine et_1 (i := 29) (by kernel_rfl) ?_
                refine ei_iN rfl rfl (wn_none rfl) (os_store (v := .int _ _) sc_90 rfl rfl rfl (Nat.ble_eq_true_of_le (show i + 1 ≤ _ by rw [List.size_toArray, wC_len, fillA_len (by rw [hml]; omega)]; omega)) (Free.zero _) (fillA_st hml.symm (by rw [hml]; omega) _)) ?_; rintro _ _ ⟨rfl, rfl⟩; refine ⟨[_], rfl, ?_⟩
                refine et_nil (by kernel_rfl) ?_
                refine px_blockN ?_
                refine px_then ?_
                refine cd_region ?_   -- 12
                refine ol_q (wn_none rfl) (op_add rfl rfl (by omega) (by omega)) rfl ?_
                refine ol_q (wn_none rfl) (op_move (v := .int _ _) rfl) rfl ?_
                refine ol_nil ?_
                have e1 := lay_next s hi16 hi64
                unfold next16 at e1
                rw [hml] at e1
                have e8 : ∀ (a b c d : UInt32), a + b + c + d = a + c + b + d := fun a b c d => by rw [UInt32.add_assoc a b c, UInt32.add_comm b c, ← UInt32.add_assoc]
                rw [← e8] at e1
                refine px_loop2 (i + 1) (by omega) (by (try dsimp only); omega) ⟨congrArg (Value.int .i64) (by simp), trivial⟩ ?_ (fun _ s => (by (try dsimp only); rw [e1]; exact s))
                repeat (first | exact kept_over | refine kept_upd rfl ?_ | refine kept_overS (by decide) ?_)
              · -- 22
                refine ei_i rfl rfl (wn_none rfl) (os_call cb_72 rfl (fun w s => right_calls (k := 19) _  s (by decide) (by decide))) rfl ?_; rintro _ l ⟨rfl, rfl⟩; refine ⟨[_], rfl, ?_⟩
                -- 23
                refine et_quiet 23 (by kernel_rfl) rfl (by kernel_rfl) (wn_none rfl) (op_xor32 _ _ rfl rfl) rfl ?_
                -- 26
                refine et_quiet 26 (by kernel_rfl) rfl (by kernel_rfl) (wn_none rfl) (op_xor32 _ _ rfl rfl) rfl ?_
                refine et_1 (i := 8) (by kernel_rfl) ?_
                refine ei_i rfl rfl (wn_none rfl) (os_q (op_ld 0 sc_90 rfl rfl (fillA_at (by rw [hml]; omega)))) rfl ?_; rintro _ _ ⟨rfl, rfl⟩; refine ⟨[_], rfl, ?_⟩
                -- 9
                refine et_quiet 9 (by kernel_rfl) rfl (by kernel_rfl) (wn_none rfl) (op_add32 _ _ rfl rfl) rfl ?_
                -- 18
                refine et_quiet 18 (by kernel_rfl) rfl (by kernel_rfl) (wn_none rfl) (op_add32 _ _ rfl rfl) rfl ?_
                -- 27
                refine et_quiet 27 (by kernel_rfl) rfl (by kernel_rfl) (wn_none rfl) (op_add32 _ _ rfl rfl) rfl ?_
                -- 28
                refine et_quiet 28 (by kernel_rfl) rfl (by kernel_rfl) (wn_none rfl) (op_aidx0 i a1_100 rfl rfl rfl (by omega)) rfl ?_
                refine et_1 (i := 29) (by kernel_rfl) ?_
                refine ei_iN rfl rfl (wn_none rfl) (os_store (v := .int _ _) sc_90 rfl rfl rfl (Nat.ble_eq_true_of_le (show i + 1 ≤ _ by rw [List.size_toArray, wC_len, fillA_len (by rw [hml]; omega)]; omega)) (Free.zero _) (fillA_st hml.symm (by rw [hml]; omega) _)) ?_; rintro _ _ ⟨rfl, rfl⟩; refine ⟨[_], rfl, ?_⟩
                refine et_nil (by kernel_rfl) ?_
                refine px_blockN ?_
                refine px_then ?_
                refine cd_region ?_   -- 12
                refine ol_q (wn_none rfl) (op_add rfl rfl (by omega) (by omega)) rfl ?_
                refine ol_q (wn_none rfl) (op_move (v := .int _ _) rfl) rfl ?_
                refine ol_nil ?_
                have e1 := lay_next s hi16 hi64
                unfold next16 at e1
                rw [hml] at e1
                have e8 : ∀ (a b c d : UInt32), a + b + c + d = a + c + b + d := fun a b c d => by rw [UInt32.add_assoc a b c, UInt32.add_comm b c, ← UInt32.add_assoc]
                rw [← e8] at e1
                refine px_loop2 (i + 1) (by omega) (by (try dsimp only); omega) ⟨congrArg (Value.int .i64) (by simp), trivial⟩ ?_ (fun _ s => (by (try dsimp only); rw [e1]; exact s))
                repeat (first | exact kept_over | refine kept_upd rfl ?_ | refine kept_overS (by decide) ?_)
      · -- 8
        refine ei_i rfl rfl (wn_none rfl) (os_q (op_ld 0 sc_90 rfl rfl (fillA_at (by rw [hml]; omega)))) rfl ?_; rintro _ _ ⟨rfl, rfl⟩; refine ⟨[_], rfl, ?_⟩
        refine et_2 (i1 := 4) (i2 := 11) (by kernel_rfl) ?_ ?_
        · -- 4
          refine ei_i rfl rfl (wn_none rfl) (os_q (op_ld 0 sc_90 rfl rfl (fillA_at (by rw [hml]; omega)))) rfl ?_; rintro _ _ ⟨rfl, rfl⟩; refine ⟨[_], rfl, ?_⟩
          -- 9
          refine et_quiet 9 (by kernel_rfl) rfl (by kernel_rfl) (wn_none rfl) (op_add32 _ _ rfl rfl) rfl ?_
          refine et_1 (i := 11) (by kernel_rfl) ?_
          refine ei_i rfl rfl (wn_none rfl) (os_call cb_72 rfl (fun w s => right_calls (k := 7) _  s (by decide) (by decide))) rfl ?_; rintro _ l ⟨rfl, rfl⟩; refine ⟨[_], rfl, ?_⟩
          refine et_1 (i := 13) (by kernel_rfl) ?_
          refine ei_i rfl rfl (wn_none rfl) (os_call cb_72 rfl (fun w s => right_calls (k := 18) _  s (by decide) (by decide))) rfl ?_; rintro _ l ⟨rfl, rfl⟩; refine ⟨[_], rfl, ?_⟩
          -- 14
          refine et_quiet 14 (by kernel_rfl) rfl (by kernel_rfl) (wn_none rfl) (op_xor32 _ _ rfl rfl) rfl ?_
          -- 17
          refine et_quiet 17 (by kernel_rfl) rfl (by kernel_rfl) (wn_none rfl) (op_xor32 _ _ rfl rfl) rfl ?_
          -- 18
          refine et_quiet 18 (by kernel_rfl) rfl (by kernel_rfl) (wn_none rfl) (op_add32 _ _ rfl rfl) rfl ?_
          refine et_1 (i := 20) (by kernel_rfl) ?_
          refine ei_i rfl rfl (wn_none rfl) (os_call cb_72 rfl (fun w s => right_calls (k := 17) _  s (by decide) (by decide))) rfl ?_; rintro _ l ⟨rfl, rfl⟩; refine ⟨[_], rfl, ?_⟩
          refine et_1 (i := 22) (by kernel_rfl) ?_
          refine ei_i rfl rfl (wn_none rfl) (os_call cb_72 rfl (fun w s => right_calls (k := 19) _  s (by decide) (by decide))) rfl ?_; rintro _ l ⟨rfl, rfl⟩; refine ⟨[_], rfl, ?_⟩
          -- 23
          refine et_quiet 23 (by kernel_rfl) rfl (by kernel_rfl) (wn_none rfl) (op_xor32 _ _ rfl rfl) rfl ?_
          -- 26
          refine et_quiet 26 (by kernel_rfl) rfl (by kernel_rfl) (wn_none rfl) (op_xor32 _ _ rfl rfl) rfl ?_
          -- 27
          refine et_quiet 27 (by kernel_rfl) rfl (by kernel_rfl) (wn_none rfl) (op_add32 _ _ rfl rfl) rfl ?_
          -- 28
          refine et_quiet 28 (by kernel_rfl) rfl (by kernel_rfl) (wn_none rfl) (op_aidx0 i a1_100 rfl rfl rfl (by omega)) rfl ?_
          refine et_1 (i := 29) (by kernel_rfl) ?_
          refine ei_iN rfl rfl (wn_none rfl) (os_store (v := .int _ _) sc_90 rfl rfl rfl (Nat.ble_eq_true_of_le (show i + 1 ≤ _ by rw [List.size_toArray, wC_len, fillA_len (by rw [hml]; omega)]; omega)) (Free.zero _) (fillA_st hml.symm (by rw [hml]; omega) _)) ?_; rintro _ _ ⟨rfl, rfl⟩; refine ⟨[_], rfl, ?_⟩
          refine et_nil (by kernel_rfl) ?_
          refine px_blockN ?_
          refine px_then ?_
          refine cd_region ?_   -- 12
          refine ol_q (wn_none rfl) (op_add rfl rfl (by omega) (by omega)) rfl ?_
          refine ol_q (wn_none rfl) (op_move (v := .int _ _) rfl) rfl ?_
          refine ol_nil ?_
          have e1 := lay_next s hi16 hi64
          unfold next16 at e1
          rw [hml] at e1
          have e8 : ∀ (a b c d : UInt32), a + b + c + d = a + c + b + d := fun a b c d => by rw [UInt32.add_assoc a b c, UInt32.add_comm b c, ← UInt32.add_assoc]
          rw [← e8] at e1
          refine px_loop2 (i + 1) (by omega) (by (try dsimp only); omega) ⟨congrArg (Value.int .i64) (by simp), trivial⟩ ?_ (fun _ s => (by (try dsimp only); rw [e1]; exact s))
          repeat (first | exact kept_over | refine kept_upd rfl ?_ | refine kept_overS (by decide) ?_)
        · -- 11
          refine ei_i rfl rfl (wn_none rfl) (os_call cb_72 rfl (fun w s => right_calls (k := 7) _  s (by decide) (by decide))) rfl ?_; rintro _ l ⟨rfl, rfl⟩; refine ⟨[_], rfl, ?_⟩
          refine et_2 (i1 := 4) (i2 := 13) (by kernel_rfl) ?_ ?_
          · -- 4
            refine ei_i rfl rfl (wn_none rfl) (os_q (op_ld 0 sc_90 rfl rfl (fillA_at (by rw [hml]; omega)))) rfl ?_; rintro _ _ ⟨rfl, rfl⟩; refine ⟨[_], rfl, ?_⟩
            -- 9
            refine et_quiet 9 (by kernel_rfl) rfl (by kernel_rfl) (wn_none rfl) (op_add32 _ _ rfl rfl) rfl ?_
            refine et_1 (i := 13) (by kernel_rfl) ?_
            refine ei_i rfl rfl (wn_none rfl) (os_call cb_72 rfl (fun w s => right_calls (k := 18) _  s (by decide) (by decide))) rfl ?_; rintro _ l ⟨rfl, rfl⟩; refine ⟨[_], rfl, ?_⟩
            -- 14
            refine et_quiet 14 (by kernel_rfl) rfl (by kernel_rfl) (wn_none rfl) (op_xor32 _ _ rfl rfl) rfl ?_
            -- 17
            refine et_quiet 17 (by kernel_rfl) rfl (by kernel_rfl) (wn_none rfl) (op_xor32 _ _ rfl rfl) rfl ?_
            -- 18
            refine et_quiet 18 (by kernel_rfl) rfl (by kernel_rfl) (wn_none rfl) (op_add32 _ _ rfl rfl) rfl ?_
            refine et_1 (i := 20) (by kernel_rfl) ?_
            refine ei_i rfl rfl (wn_none rfl) (os_call cb_72 rfl (fun w s => right_calls (k := 17) _  s (by decide) (by decide))) rfl ?_; rintro _ l ⟨rfl, rfl⟩; refine ⟨[_], rfl, ?_⟩
            refine et_1 (i := 22) (by kernel_rfl) ?_
            refine ei_i rfl rfl (wn_none rfl) (os_call cb_72 rfl (fun w s => right_calls (k := 19) _  s (by decide) (by decide))) rfl ?_; rintro _ l ⟨rfl, rfl⟩; refine ⟨[_], rfl, ?_⟩
            -- 23
            refine et_quiet 23 (by kernel_rfl) rfl (by kernel_rfl) (wn_none rfl) (op_xor32 _ _ rfl rfl) rfl ?_
            -- 26
            refine et_quiet 26 (by kernel_rfl) rfl (by kernel_rfl) (wn_none rfl) (op_xor32 _ _ rfl rfl) rfl ?_
            -- 27
            refine et_quiet 27 (by kernel_rfl) rfl (by kernel_rfl) (wn_none rfl) (op_add32 _ _ rfl rfl) rfl ?_
            -- 28
            refine et_quiet 28 (by kernel_rfl) rfl (by kernel_rfl) (wn_none rfl) (op_aidx0 i a1_100 rfl rfl rfl (by omega)) rfl ?_
            refine et_1 (i := 29) (by kernel_rfl) ?_
            refine ei_iN rfl rfl (wn_none rfl) (os_store (v := .int _ _) sc_90 rfl rfl rfl (Nat.ble_eq_true_of_le (show i + 1 ≤ _ by rw [List.size_toArray, wC_len, fillA_len (by rw [hml]; omega)]; omega)) (Free.zero _) (fillA_st hml.symm (by rw [hml]; omega) _)) ?_; rintro _ _ ⟨rfl, rfl⟩; refine ⟨[_], rfl, ?_⟩
            refine et_nil (by kernel_rfl) ?_
            refine px_blockN ?_
            refine px_then ?_
            refine cd_region ?_   -- 12
            refine ol_q (wn_none rfl) (op_add rfl rfl (by omega) (by omega)) rfl ?_
            refine ol_q (wn_none rfl) (op_move (v := .int _ _) rfl) rfl ?_
            refine ol_nil ?_
            have e1 := lay_next s hi16 hi64
            unfold next16 at e1
            rw [hml] at e1
            have e8 : ∀ (a b c d : UInt32), a + b + c + d = a + c + b + d := fun a b c d => by rw [UInt32.add_assoc a b c, UInt32.add_comm b c, ← UInt32.add_assoc]
            rw [← e8] at e1
            refine px_loop2 (i + 1) (by omega) (by (try dsimp only); omega) ⟨congrArg (Value.int .i64) (by simp), trivial⟩ ?_ (fun _ s => (by (try dsimp only); rw [e1]; exact s))
            repeat (first | exact kept_over | refine kept_upd rfl ?_ | refine kept_overS (by decide) ?_)
          · -- 13
            refine ei_i rfl rfl (wn_none rfl) (os_call cb_72 rfl (fun w s => right_calls (k := 18) _  s (by decide) (by decide))) rfl ?_; rintro _ l ⟨rfl, rfl⟩; refine ⟨[_], rfl, ?_⟩
            -- 14
            refine et_quiet 14 (by kernel_rfl) rfl (by kernel_rfl) (wn_none rfl) (op_xor32 _ _ rfl rfl) rfl ?_
            -- 17
            refine et_quiet 17 (by kernel_rfl) rfl (by kernel_rfl) (wn_none rfl) (op_xor32 _ _ rfl rfl) rfl ?_
            refine et_2 (i1 := 4) (i2 := 20) (by kernel_rfl) ?_ ?_
            · -- 4
              refine ei_i rfl rfl (wn_none rfl) (os_q (op_ld 0 sc_90 rfl rfl (fillA_at (by rw [hml]; omega)))) rfl ?_; rintro _ _ ⟨rfl, rfl⟩; refine ⟨[_], rfl, ?_⟩
              -- 9
              refine et_quiet 9 (by kernel_rfl) rfl (by kernel_rfl) (wn_none rfl) (op_add32 _ _ rfl rfl) rfl ?_
              -- 18
              refine et_quiet 18 (by kernel_rfl) rfl (by kernel_rfl) (wn_none rfl) (op_add32 _ _ rfl rfl) rfl ?_
              refine et_1 (i := 20) (by kernel_rfl) ?_
              refine ei_i rfl rfl (wn_none rfl) (os_call cb_72 rfl (fun w s => right_calls (k := 17) _  s (by decide) (by decide))) rfl ?_; rintro _ l ⟨rfl, rfl⟩; refine ⟨[_], rfl, ?_⟩
              refine et_1 (i := 22) (by kernel_rfl) ?_
              refine ei_i rfl rfl (wn_none rfl) (os_call cb_72 rfl (fun w s => right_calls (k := 19) _  s (by decide) (by decide))) rfl ?_; rintro _ l ⟨rfl, rfl⟩; refine ⟨[_], rfl, ?_⟩
              -- 23
              refine et_quiet 23 (by kernel_rfl) rfl (by kernel_rfl) (wn_none rfl) (op_xor32 _ _ rfl rfl) rfl ?_
              -- 26
              refine et_quiet 26 (by kernel_rfl) rfl (by kernel_rfl) (wn_none rfl) (op_xor32 _ _ rfl rfl) rfl ?_
              -- 27
              refine et_quiet 27 (by kernel_rfl) rfl (by kernel_rfl) (wn_none rfl) (op_add32 _ _ rfl rfl) rfl ?_
              -- 28
              refine et_quiet 28 (by kernel_rfl) rfl (by kernel_rfl) (wn_none rfl) (op_aidx0 i a1_100 rfl rfl rfl (by omega)) rfl ?_
              refine et_1 (i := 29) (by kernel_rfl) ?_
              refine ei_iN rfl rfl (wn_none rfl) (os_store (v := .int _ _) sc_90 rfl rfl rfl (Nat.ble_eq_true_of_le (show i + 1 ≤ _ by rw [List.size_toArray, wC_len, fillA_len (by rw [hml]; omega)]; omega)) (Free.zero _) (fillA_st hml.symm (by rw [hml]; omega) _)) ?_; rintro _ _ ⟨rfl, rfl⟩; refine ⟨[_], rfl, ?_⟩
              refine et_nil (by kernel_rfl) ?_
              refine px_blockN ?_
              refine px_then ?_
              refine cd_region ?_   -- 12
              refine ol_q (wn_none rfl) (op_add rfl rfl (by omega) (by omega)) rfl ?_
              refine ol_q (wn_none rfl) (op_move (v := .int _ _) rfl) rfl ?_
              refine ol_nil ?_
              have e1 := lay_next s hi16 hi64
              unfold next16 at e1
              rw [hml] at e1
              have e8 : ∀ (a b c d : UInt32), a + b + c + d = a + c + b + d := fun a b c d => by rw [UInt32.add_assoc a b c, UInt32.add_comm b c, ← UInt32.add_assoc]
              rw [← e8] at e1
              refine px_loop2 (i + 1) (by omega) (by (try dsimp only); omega) ⟨congrArg (Value.int .i64) (by simp), trivial⟩ ?_ (fun _ s => (by (try dsimp only); rw [e1]; exact s))
              repeat (first | exact kept_over | refine kept_upd rfl ?_ | refine kept_overS (by decide) ?_)
            · -- 20
              refine ei_i rfl rfl (wn_none rfl) (os_call cb_72 rfl (fun w s => right_calls (k := 17) _  s (by decide) (by decide))) rfl ?_; rintro _ l ⟨rfl, rfl⟩; refine ⟨[_], rfl, ?_⟩
              refine et_2 (i1 := 4) (i2 := 22) (by kernel_rfl) ?_ ?_
              · -- 4
                refine ei_i rfl rfl (wn_none rfl) (os_q (op_ld 0 sc_90 rfl rfl (fillA_at (by rw [hml]; omega)))) rfl ?_; rintro _ _ ⟨rfl, rfl⟩; refine ⟨[_], rfl, ?_⟩
                -- 9
                refine et_quiet 9 (by kernel_rfl) rfl (by kernel_rfl) (wn_none rfl) (op_add32 _ _ rfl rfl) rfl ?_
                -- 18
                refine et_quiet 18 (by kernel_rfl) rfl (by kernel_rfl) (wn_none rfl) (op_add32 _ _ rfl rfl) rfl ?_
                refine et_1 (i := 22) (by kernel_rfl) ?_
                refine ei_i rfl rfl (wn_none rfl) (os_call cb_72 rfl (fun w s => right_calls (k := 19) _  s (by decide) (by decide))) rfl ?_; rintro _ l ⟨rfl, rfl⟩; refine ⟨[_], rfl, ?_⟩
                -- 23
                refine et_quiet 23 (by kernel_rfl) rfl (by kernel_rfl) (wn_none rfl) (op_xor32 _ _ rfl rfl) rfl ?_
                -- 26
                refine et_quiet 26 (by kernel_rfl) rfl (by kernel_rfl) (wn_none rfl) (op_xor32 _ _ rfl rfl) rfl ?_
                -- 27
                refine et_quiet 27 (by kernel_rfl) rfl (by kernel_rfl) (wn_none rfl) (op_add32 _ _ rfl rfl) rfl ?_
                -- 28
                refine et_quiet 28 (by kernel_rfl) rfl (by kernel_rfl) (wn_none rfl) (op_aidx0 i a1_100 rfl rfl rfl (by omega)) rfl ?_
                refine et_1 (i := 29) (by kernel_rfl) ?_
                refine ei_iN rfl rfl (wn_none rfl) (os_store (v := .int _ _) sc_90 rfl rfl rfl (Nat.ble_eq_true_of_le (show i + 1 ≤ _ by rw [List.size_toArray, wC_len, fillA_len (by rw [hml]; omega)]; omega)) (Free.zero _) (fillA_st hml.symm (by rw [hml]; omega) _)) ?_; rintro _ _ ⟨rfl, rfl⟩; refine ⟨[_], rfl, ?_⟩
                refine et_nil (by kernel_rfl) ?_
                refine px_blockN ?_
                refine px_then ?_
                refine cd_region ?_   -- 12
                refine ol_q (wn_none rfl) (op_add rfl rfl (by omega) (by omega)) rfl ?_
                refine ol_q (wn_none rfl) (op_move (v := .int _ _) rfl) rfl ?_
                refine ol_nil ?_
                have e1 := lay_next s hi16 hi64
                unfold next16 at e1
                rw [hml] at e1
                have e8 : ∀ (a b c d : UInt32), a + b + c + d = a + c + b + d := fun a b c d => by rw [UInt32.add_assoc a b c, UInt32.add_comm b c, ← UInt32.add_assoc]
                rw [← e8] at e1
                refine px_loop2 (i + 1) (by omega) (by (try dsimp only); omega) ⟨congrArg (Value.int .i64) (by simp), trivial⟩ ?_ (fun _ s => (by (try dsimp only); rw [e1]; exact s))
                repeat (first | exact kept_over | refine kept_upd rfl ?_ | refine kept_overS (by decide) ?_)
              · -- 22
                refine ei_i rfl rfl (wn_none rfl) (os_call cb_72 rfl (fun w s => right_calls (k := 19) _  s (by decide) (by decide))) rfl ?_; rintro _ l ⟨rfl, rfl⟩; refine ⟨[_], rfl, ?_⟩
                -- 23
                refine et_quiet 23 (by kernel_rfl) rfl (by kernel_rfl) (wn_none rfl) (op_xor32 _ _ rfl rfl) rfl ?_
                -- 26
                refine et_quiet 26 (by kernel_rfl) rfl (by kernel_rfl) (wn_none rfl) (op_xor32 _ _ rfl rfl) rfl ?_
                refine et_1 (i := 4) (by kernel_rfl) ?_
                refine ei_i rfl rfl (wn_none rfl) (os_q (op_ld 0 sc_90 rfl rfl (fillA_at (by rw [hml]; omega)))) rfl ?_; rintro _ _ ⟨rfl, rfl⟩; refine ⟨[_], rfl, ?_⟩
                -- 9
                refine et_quiet 9 (by kernel_rfl) rfl (by kernel_rfl) (wn_none rfl) (op_add32 _ _ rfl rfl) rfl ?_
                -- 18
                refine et_quiet 18 (by kernel_rfl) rfl (by kernel_rfl) (wn_none rfl) (op_add32 _ _ rfl rfl) rfl ?_
                -- 27
                refine et_quiet 27 (by kernel_rfl) rfl (by kernel_rfl) (wn_none rfl) (op_add32 _ _ rfl rfl) rfl ?_
                -- 28
                refine et_quiet 28 (by kernel_rfl) rfl (by kernel_rfl) (wn_none rfl) (op_aidx0 i a1_100 rfl rfl rfl (by omega)) rfl ?_
                refine et_1 (i := 29) (by kernel_rfl) ?_
                refine ei_iN rfl rfl (wn_none rfl) (os_store (v := .int _ _) sc_90 rfl rfl rfl (Nat.ble_eq_true_of_le (show i + 1 ≤ _ by rw [List.size_toArray, wC_len, fillA_len (by rw [hml]; omega)]; omega)) (Free.zero _) (fillA_st hml.symm (by rw [hml]; omega) _)) ?_; rintro _ _ ⟨rfl, rfl⟩; refine ⟨[_], rfl, ?_⟩
                refine et_nil (by kernel_rfl) ?_
                refine px_blockN ?_
                refine px_then ?_
                refine cd_region ?_   -- 12
                refine ol_q (wn_none rfl) (op_add rfl rfl (by omega) (by omega)) rfl ?_
                refine ol_q (wn_none rfl) (op_move (v := .int _ _) rfl) rfl ?_
                refine ol_nil ?_
                have e1 := lay_next s hi16 hi64
                unfold next16 at e1
                rw [hml] at e1
                have e8 : ∀ (a b c d : UInt32), a + b + c + d = a + c + b + d := fun a b c d => by rw [UInt32.add_assoc a b c, UInt32.add_comm b c, ← UInt32.add_assoc]
                rw [← e8] at e1
                refine px_loop2 (i + 1) (by omega) (by (try dsimp only); omega) ⟨congrArg (Value.int .i64) (by simp), trivial⟩ ?_ (fun _ s => (by (try dsimp only); rw [e1]; exact s))
                repeat (first | exact kept_over | refine kept_upd rfl ?_ | refine kept_overS (by decide) ?_)
      · -- 11
        refine ei_i rfl rfl (wn_none rfl) (os_call cb_72 rfl (fun w s => right_calls (k := 7) _  s (by decide) (by decide))) rfl ?_; rintro _ l ⟨rfl, rfl⟩; refine ⟨[_], rfl, ?_⟩
        refine et_3 (i1 := 4) (i2 := 8) (i3 := 13) (by kernel_rfl) ?_ ?_ ?_
        · -- 4
          refine ei_i rfl rfl (wn_none rfl) (os_q (op_ld 0 sc_90 rfl rfl (fillA_at (by rw [hml]; omega)))) rfl ?_; rintro _ _ ⟨rfl, rfl⟩; refine ⟨[_], rfl, ?_⟩
          refine et_2 (i1 := 8) (i2 := 13) (by kernel_rfl) ?_ ?_
          · -- 8
            refine ei_i rfl rfl (wn_none rfl) (os_q (op_ld 0 sc_90 rfl rfl (fillA_at (by rw [hml]; omega)))) rfl ?_; rintro _ _ ⟨rfl, rfl⟩; refine ⟨[_], rfl, ?_⟩
            -- 9
            refine et_quiet 9 (by kernel_rfl) rfl (by kernel_rfl) (wn_none rfl) (op_add32 _ _ rfl rfl) rfl ?_
            refine et_1 (i := 13) (by kernel_rfl) ?_
            refine ei_i rfl rfl (wn_none rfl) (os_call cb_72 rfl (fun w s => right_calls (k := 18) _  s (by decide) (by decide))) rfl ?_; rintro _ l ⟨rfl, rfl⟩; refine ⟨[_], rfl, ?_⟩
            -- 14
            refine et_quiet 14 (by kernel_rfl) rfl (by kernel_rfl) (wn_none rfl) (op_xor32 _ _ rfl rfl) rfl ?_
            -- 17
            refine et_quiet 17 (by kernel_rfl) rfl (by kernel_rfl) (wn_none rfl) (op_xor32 _ _ rfl rfl) rfl ?_
            -- 18
            refine et_quiet 18 (by kernel_rfl) rfl (by kernel_rfl) (wn_none rfl) (op_add32 _ _ rfl rfl) rfl ?_
            refine et_1 (i := 20) (by kernel_rfl) ?_
            refine ei_i rfl rfl (wn_none rfl) (os_call cb_72 rfl (fun w s => right_calls (k := 17) _  s (by decide) (by decide))) rfl ?_; rintro _ l ⟨rfl, rfl⟩; refine ⟨[_], rfl, ?_⟩
            refine et_1 (i := 22) (by kernel_rfl) ?_
            refine ei_i rfl rfl (wn_none rfl) (os_call cb_72 rfl (fun w s => right_calls (k := 19) _  s (by decide) (by decide))) rfl ?_; rintro _ l ⟨rfl, rfl⟩; refine ⟨[_], rfl, ?_⟩
            -- 23
            refine et_quiet 23 (by kernel_rfl) rfl (by kernel_rfl) (wn_none rfl) (op_xor32 _ _ rfl rfl) rfl ?_
            -- 26
            refine et_quiet 26 (by kernel_rfl) rfl (by kernel_rfl) (wn_none rfl) (op_xor32 _ _ rfl rfl) rfl ?_
            -- 27
            refine et_quiet 27 (by kernel_rfl) rfl (by kernel_rfl) (wn_none rfl) (op_add32 _ _ rfl rfl) rfl ?_
            -- 28
            refine et_quiet 28 (by kernel_rfl) rfl (by kernel_rfl) (wn_none rfl) (op_aidx0 i a1_100 rfl rfl rfl (by omega)) rfl ?_
            refine et_1 (i := 29) (by kernel_rfl) ?_
            refine ei_iN rfl rfl (wn_none rfl) (os_store (v := .int _ _) sc_90 rfl rfl rfl (Nat.ble_eq_true_of_le (show i + 1 ≤ _ by rw [List.size_toArray, wC_len, fillA_len (by rw [hml]; omega)]; omega)) (Free.zero _) (fillA_st hml.symm (by rw [hml]; omega) _)) ?_; rintro _ _ ⟨rfl, rfl⟩; refine ⟨[_], rfl, ?_⟩
            refine et_nil (by kernel_rfl) ?_
            refine px_blockN ?_
            refine px_then ?_
            refine cd_region ?_   -- 12
            refine ol_q (wn_none rfl) (op_add rfl rfl (by omega) (by omega)) rfl ?_
            refine ol_q (wn_none rfl) (op_move (v := .int _ _) rfl) rfl ?_
            refine ol_nil ?_
            have e1 := lay_next s hi16 hi64
            unfold next16 at e1
            rw [hml] at e1
            have e8 : ∀ (a b c d : UInt32), a + b + c + d = a + c + b + d := fun a b c d => by rw [UInt32.add_assoc a b c, UInt32.add_comm b c, ← UInt32.add_assoc]
            rw [← e8] at e1
            refine px_loop2 (i + 1) (by omega) (by (try dsimp only); omega) ⟨congrArg (Value.int .i64) (by simp), trivial⟩ ?_ (fun _ s => (by (try dsimp only); rw [e1]; exact s))
            repeat (first | exact kept_over | refine kept_upd rfl ?_ | refine kept_overS (by decide) ?_)
          · -- 13
            refine ei_i rfl rfl (wn_none rfl) (os_call cb_72 rfl (fun w s => right_calls (k := 18) _  s (by decide) (by decide))) rfl ?_; rintro _ l ⟨rfl, rfl⟩; refine ⟨[_], rfl, ?_⟩
            -- 14
            refine et_quiet 14 (by kernel_rfl) rfl (by kernel_rfl) (wn_none rfl) (op_xor32 _ _ rfl rfl) rfl ?_
            -- 17
            refine et_quiet 17 (by kernel_rfl) rfl (by kernel_rfl) (wn_none rfl) (op_xor32 _ _ rfl rfl) rfl ?_
            refine et_2 (i1 := 8) (i2 := 20) (by kernel_rfl) ?_ ?_
            · -- 8
              refine ei_i rfl rfl (wn_none rfl) (os_q (op_ld 0 sc_90 rfl rfl (fillA_at (by rw [hml]; omega)))) rfl ?_; rintro _ _ ⟨rfl, rfl⟩; refine ⟨[_], rfl, ?_⟩
              -- 9
              refine et_quiet 9 (by kernel_rfl) rfl (by kernel_rfl) (wn_none rfl) (op_add32 _ _ rfl rfl) rfl ?_
              -- 18
              refine et_quiet 18 (by kernel_rfl) rfl (by kernel_rfl) (wn_none rfl) (op_add32 _ _ rfl rfl) rfl ?_
              refine et_1 (i := 20) (by kernel_rfl) ?_
              refine ei_i rfl rfl (wn_none rfl) (os_call cb_72 rfl (fun w s => right_calls (k := 17) _  s (by decide) (by decide))) rfl ?_; rintro _ l ⟨rfl, rfl⟩; refine ⟨[_], rfl, ?_⟩
              refine et_1 (i := 22) (by kernel_rfl) ?_
              refine ei_i rfl rfl (wn_none rfl) (os_call cb_72 rfl (fun w s => right_calls (k := 19) _  s (by decide) (by decide))) rfl ?_; rintro _ l ⟨rfl, rfl⟩; refine ⟨[_], rfl, ?_⟩
              -- 23
              refine et_quiet 23 (by kernel_rfl) rfl (by kernel_rfl) (wn_none rfl) (op_xor32 _ _ rfl rfl) rfl ?_
              -- 26
              refine et_quiet 26 (by kernel_rfl) rfl (by kernel_rfl) (wn_none rfl) (op_xor32 _ _ rfl rfl) rfl ?_
              -- 27
              refine et_quiet 27 (by kernel_rfl) rfl (by kernel_rfl) (wn_none rfl) (op_add32 _ _ rfl rfl) rfl ?_
              -- 28
              refine et_quiet 28 (by kernel_rfl) rfl (by kernel_rfl) (wn_none rfl) (op_aidx0 i a1_100 rfl rfl rfl (by omega)) rfl ?_
              refine et_1 (i := 29) (by kernel_rfl) ?_
              refine ei_iN rfl rfl (wn_none rfl) (os_store (v := .int _ _) sc_90 rfl rfl rfl (Nat.ble_eq_true_of_le (show i + 1 ≤ _ by rw [List.size_toArray, wC_len, fillA_len (by rw [hml]; omega)]; omega)) (Free.zero _) (fillA_st hml.symm (by rw [hml]; omega) _)) ?_; rintro _ _ ⟨rfl, rfl⟩; refine ⟨[_], rfl, ?_⟩
              refine et_nil (by kernel_rfl) ?_
              refine px_blockN ?_
              refine px_then ?_
              refine cd_region ?_   -- 12
              refine ol_q (wn_none rfl) (op_add rfl rfl (by omega) (by omega)) rfl ?_
              refine ol_q (wn_none rfl) (op_move (v := .int _ _) rfl) rfl ?_
              refine ol_nil ?_
              have e1 := lay_next s hi16 hi64
              unfold next16 at e1
              rw [hml] at e1
              have e8 : ∀ (a b c d : UInt32), a + b + c + d = a + c + b + d := fun a b c d => by rw [UInt32.add_assoc a b c, UInt32.add_comm b c, ← UInt32.add_assoc]
              rw [← e8] at e1
              refine px_loop2 (i + 1) (by omega) (by (try dsimp only); omega) ⟨congrArg (Value.int .i64) (by simp), trivial⟩ ?_ (fun _ s => (by (try dsimp only); rw [e1]; exact s))
              repeat (first | exact kept_over | refine kept_upd rfl ?_ | refine kept_overS (by decide) ?_)
            · -- 20
              refine ei_i rfl rfl (wn_none rfl) (os_call cb_72 rfl (fun w s => right_calls (k := 17) _  s (by decide) (by decide))) rfl ?_; rintro _ l ⟨rfl, rfl⟩; refine ⟨[_], rfl, ?_⟩
              refine et_2 (i1 := 8) (i2 := 22) (by kernel_rfl) ?_ ?_
              · -- 8
                refine ei_i rfl rfl (wn_none rfl) (os_q (op_ld 0 sc_90 rfl rfl (fillA_at (by rw [hml]; omega)))) rfl ?_; rintro _ _ ⟨rfl, rfl⟩; refine ⟨[_], rfl, ?_⟩
                -- 9
                refine et_quiet 9 (by kernel_rfl) rfl (by kernel_rfl) (wn_none rfl) (op_add32 _ _ rfl rfl) rfl ?_
                -- 18
                refine et_quiet 18 (by kernel_rfl) rfl (by kernel_rfl) (wn_none rfl) (op_add32 _ _ rfl rfl) rfl ?_
                refine et_1 (i := 22) (by kernel_rfl) ?_
                refine ei_i rfl rfl (wn_none rfl) (os_call cb_72 rfl (fun w s => right_calls (k := 19) _  s (by decide) (by decide))) rfl ?_; rintro _ l ⟨rfl, rfl⟩; refine ⟨[_], rfl, ?_⟩
                -- 23
                refine et_quiet 23 (by kernel_rfl) rfl (by kernel_rfl) (wn_none rfl) (op_xor32 _ _ rfl rfl) rfl ?_
                -- 26
                refine et_quiet 26 (by kernel_rfl) rfl (by kernel_rfl) (wn_none rfl) (op_xor32 _ _ rfl rfl) rfl ?_
                -- 27
                refine et_quiet 27 (by kernel_rfl) rfl (by kernel_rfl) (wn_none rfl) (op_add32 _ _ rfl rfl) rfl ?_
                -- 28
                refine et_quiet 28 (by kernel_rfl) rfl (by kernel_rfl) (wn_none rfl) (op_aidx0 i a1_100 rfl rfl rfl (by omega)) rfl ?_
                refine et_1 (i := 29) (by kernel_rfl) ?_
                refine ei_iN rfl rfl (wn_none rfl) (os_store (v := .int _ _) sc_90 rfl rfl rfl (Nat.ble_eq_true_of_le (show i + 1 ≤ _ by rw [List.size_toArray, wC_len, fillA_len (by rw [hml]; omega)]; omega)) (Free.zero _) (fillA_st hml.symm (by rw [hml]; omega) _)) ?_; rintro _ _ ⟨rfl, rfl⟩; refine ⟨[_], rfl, ?_⟩
                refine et_nil (by kernel_rfl) ?_
                refine px_blockN ?_
                refine px_then ?_
                refine cd_region ?_   -- 12
                refine ol_q (wn_none rfl) (op_add rfl rfl (by omega) (by omega)) rfl ?_
                refine ol_q (wn_none rfl) (op_move (v := .int _ _) rfl) rfl ?_
                refine ol_nil ?_
                have e1 := lay_next s hi16 hi64
                unfold next16 at e1
                rw [hml] at e1
                have e8 : ∀ (a b c d : UInt32), a + b + c + d = a + c + b + d := fun a b c d => by rw [UInt32.add_assoc a b c, UInt32.add_comm b c, ← UInt32.add_assoc]
                rw [← e8] at e1
                refine px_loop2 (i + 1) (by omega) (by (try dsimp only); omega) ⟨congrArg (Value.int .i64) (by simp), trivial⟩ ?_ (fun _ s => (by (try dsimp only); rw [e1]; exact s))
                repeat (first | exact kept_over | refine kept_upd rfl ?_ | refine kept_overS (by decide) ?_)
              · -- 22
                refine ei_i rfl rfl (wn_none rfl) (os_call cb_72 rfl (fun w s => right_calls (k := 19) _  s (by decide) (by decide))) rfl ?_; rintro _ l ⟨rfl, rfl⟩; refine ⟨[_], rfl, ?_⟩
                -- 23
                refine et_quiet 23 (by kernel_rfl) rfl (by kernel_rfl) (wn_none rfl) (op_xor32 _ _ rfl rfl) rfl ?_
                -- 26
                refine et_quiet 26 (by kernel_rfl) rfl (by kernel_rfl) (wn_none rfl) (op_xor32 _ _ rfl rfl) rfl ?_
                refine et_1 (i := 8) (by kernel_rfl) ?_
                refine ei_i rfl rfl (wn_none rfl) (os_q (op_ld 0 sc_90 rfl rfl (fillA_at (by rw [hml]; omega)))) rfl ?_; rintro _ _ ⟨rfl, rfl⟩; refine ⟨[_], rfl, ?_⟩
                -- 9
                refine et_quiet 9 (by kernel_rfl) rfl (by kernel_rfl) (wn_none rfl) (op_add32 _ _ rfl rfl) rfl ?_
                -- 18
                refine et_quiet 18 (by kernel_rfl) rfl (by kernel_rfl) (wn_none rfl) (op_add32 _ _ rfl rfl) rfl ?_
                -- 27
                refine et_quiet 27 (by kernel_rfl) rfl (by kernel_rfl) (wn_none rfl) (op_add32 _ _ rfl rfl) rfl ?_
                -- 28
                refine et_quiet 28 (by kernel_rfl) rfl (by kernel_rfl) (wn_none rfl) (op_aidx0 i a1_100 rfl rfl rfl (by omega)) rfl ?_
                refine et_1 (i := 29) (by kernel_rfl) ?_
                refine ei_iN rfl rfl (wn_none rfl) (os_store (v := .int _ _) sc_90 rfl rfl rfl (Nat.ble_eq_true_of_le (show i + 1 ≤ _ by rw [List.size_toArray, wC_len, fillA_len (by rw [hml]; omega)]; omega)) (Free.zero _) (fillA_st hml.symm (by rw [hml]; omega) _)) ?_; rintro _ _ ⟨rfl, rfl⟩; refine ⟨[_], rfl, ?_⟩
                refine et_nil (by kernel_rfl) ?_
                refine px_blockN ?_
                refine px_then ?_
                refine cd_region ?_   -- 12
                refine ol_q (wn_none rfl) (op_add rfl rfl (by omega) (by omega)) rfl ?_
                refine ol_q (wn_none rfl) (op_move (v := .int _ _) rfl) rfl ?_
                refine ol_nil ?_
                have e1 := lay_next s hi16 hi64
                unfold next16 at e1
                rw [hml] at e1
                have e8 : ∀ (a b c d : UInt32), a + b + c + d = a + c + b + d := fun a b c d => by rw [UInt32.add_assoc a b c, UInt32.add_comm b c, ← UInt32.add_assoc]
                rw [← e8] at e1
                refine px_loop2 (i + 1) (by omega) (by (try dsimp only); omega) ⟨congrArg (Value.int .i64) (by simp), trivial⟩ ?_ (fun _ s => (by (try dsimp only); rw [e1]; exact s))
                repeat (first | exact kept_over | refine kept_upd rfl ?_ | refine kept_overS (by decide) ?_)
        · -- 8
          refine ei_i rfl rfl (wn_none rfl) (os_q (op_ld 0 sc_90 rfl rfl (fillA_at (by rw [hml]; omega)))) rfl ?_; rintro _ _ ⟨rfl, rfl⟩; refine ⟨[_], rfl, ?_⟩
          refine et_2 (i1 := 4) (i2 := 13) (by kernel_rfl) ?_ ?_
          · -- 4
            refine ei_i rfl rfl (wn_none rfl) (os_q (op_ld 0 sc_90 rfl rfl (fillA_at (by rw [hml]; omega)))) rfl ?_; rintro _ _ ⟨rfl, rfl⟩; refine ⟨[_], rfl, ?_⟩
            -- 9
            refine et_quiet 9 (by kernel_rfl) rfl (by kernel_rfl) (wn_none rfl) (op_add32 _ _ rfl rfl) rfl ?_
            refine et_1 (i := 13) (by kernel_rfl) ?_
            refine ei_i rfl rfl (wn_none rfl) (os_call cb_72 rfl (fun w s => right_calls (k := 18) _  s (by decide) (by decide))) rfl ?_; rintro _ l ⟨rfl, rfl⟩; refine ⟨[_], rfl, ?_⟩
            -- 14
            refine et_quiet 14 (by kernel_rfl) rfl (by kernel_rfl) (wn_none rfl) (op_xor32 _ _ rfl rfl) rfl ?_
            -- 17
            refine et_quiet 17 (by kernel_rfl) rfl (by kernel_rfl) (wn_none rfl) (op_xor32 _ _ rfl rfl) rfl ?_
            -- 18
            refine et_quiet 18 (by kernel_rfl) rfl (by kernel_rfl) (wn_none rfl) (op_add32 _ _ rfl rfl) rfl ?_
            refine et_1 (i := 20) (by kernel_rfl) ?_
            refine ei_i rfl rfl (wn_none rfl) (os_call cb_72 rfl (fun w s => right_calls (k := 17) _  s (by decide) (by decide))) rfl ?_; rintro _ l ⟨rfl, rfl⟩; refine ⟨[_], rfl, ?_⟩
            refine et_1 (i := 22) (by kernel_rfl) ?_
            refine ei_i rfl rfl (wn_none rfl) (os_call cb_72 rfl (fun w s => right_calls (k := 19) _  s (by decide) (by decide))) rfl ?_; rintro _ l ⟨rfl, rfl⟩; refine ⟨[_], rfl, ?_⟩
            -- 23
            refine et_quiet 23 (by kernel_rfl) rfl (by kernel_rfl) (wn_none rfl) (op_xor32 _ _ rfl rfl) rfl ?_
            -- 26
            refine et_quiet 26 (by kernel_rfl) rfl (by kernel_rfl) (wn_none rfl) (op_xor32 _ _ rfl rfl) rfl ?_
            -- 27
            refine et_quiet 27 (by kernel_rfl) rfl (by kernel_rfl) (wn_none rfl) (op_add32 _ _ rfl rfl) rfl ?_
            -- 28
            refine et_quiet 28 (by kernel_rfl) rfl (by kernel_rfl) (wn_none rfl) (op_aidx0 i a1_100 rfl rfl rfl (by omega)) rfl ?_
            refine et_1 (i := 29) (by kernel_rfl) ?_
            refine ei_iN rfl rfl (wn_none rfl) (os_store (v := .int _ _) sc_90 rfl rfl rfl (Nat.ble_eq_true_of_le (show i + 1 ≤ _ by rw [List.size_toArray, wC_len, fillA_len (by rw [hml]; omega)]; omega)) (Free.zero _) (fillA_st hml.symm (by rw [hml]; omega) _)) ?_; rintro _ _ ⟨rfl, rfl⟩; refine ⟨[_], rfl, ?_⟩
            refine et_nil (by kernel_rfl) ?_
            refine px_blockN ?_
            refine px_then ?_
            refine cd_region ?_   -- 12
            refine ol_q (wn_none rfl) (op_add rfl rfl (by omega) (by omega)) rfl ?_
            refine ol_q (wn_none rfl) (op_move (v := .int _ _) rfl) rfl ?_
            refine ol_nil ?_
            have e1 := lay_next s hi16 hi64
            unfold next16 at e1
            rw [hml] at e1
            have e8 : ∀ (a b c d : UInt32), a + b + c + d = a + c + b + d := fun a b c d => by rw [UInt32.add_assoc a b c, UInt32.add_comm b c, ← UInt32.add_assoc]
            rw [← e8] at e1
            refine px_loop2 (i + 1) (by omega) (by (try dsimp only); omega) ⟨congrArg (Value.int .i64) (by simp), trivial⟩ ?_ (fun _ s => (by (try dsimp only); rw [e1]; exact s))
            repeat (first | exact kept_over | refine kept_upd rfl ?_ | refine kept_overS (by decide) ?_)
          · -- 13
            refine ei_i rfl rfl (wn_none rfl) (os_call cb_72 rfl (fun w s => right_calls (k := 18) _  s (by decide) (by decide))) rfl ?_; rintro _ l ⟨rfl, rfl⟩; refine ⟨[_], rfl, ?_⟩
            -- 14
            refine et_quiet 14 (by kernel_rfl) rfl (by kernel_rfl) (wn_none rfl) (op_xor32 _ _ rfl rfl) rfl ?_
            -- 17
            refine et_quiet 17 (by kernel_rfl) rfl (by kernel_rfl) (wn_none rfl) (op_xor32 _ _ rfl rfl) rfl ?_
            refine et_2 (i1 := 4) (i2 := 20) (by kernel_rfl) ?_ ?_
            · -- 4
              refine ei_i rfl rfl (wn_none rfl) (os_q (op_ld 0 sc_90 rfl rfl (fillA_at (by rw [hml]; omega)))) rfl ?_; rintro _ _ ⟨rfl, rfl⟩; refine ⟨[_], rfl, ?_⟩
              -- 9
              refine et_quiet 9 (by kernel_rfl) rfl (by kernel_rfl) (wn_none rfl) (op_add32 _ _ rfl rfl) rfl ?_
              -- 18
              refine et_quiet 18 (by kernel_rfl) rfl (by kernel_rfl) (wn_none rfl) (op_add32 _ _ rfl rfl) rfl ?_
              refine et_1 (i := 20) (by kernel_rfl) ?_
              refine ei_i rfl rfl (wn_none rfl) (os_call cb_72 rfl (fun w s => right_calls (k := 17) _  s (by decide) (by decide))) rfl ?_; rintro _ l ⟨rfl, rfl⟩; refine ⟨[_], rfl, ?_⟩
              refine et_1 (i := 22) (by kernel_rfl) ?_
              refine ei_i rfl rfl (wn_none rfl) (os_call cb_72 rfl (fun w s => right_calls (k := 19) _  s (by decide) (by decide))) rfl ?_; rintro _ l ⟨rfl, rfl⟩; refine ⟨[_], rfl, ?_⟩
              -- 23
              refine et_quiet 23 (by kernel_rfl) rfl (by kernel_rfl) (wn_none rfl) (op_xor32 _ _ rfl rfl) rfl ?_
              -- 26
              refine et_quiet 26 (by kernel_rfl) rfl (by kernel_rfl) (wn_none rfl) (op_xor32 _ _ rfl rfl) rfl ?_
              -- 27
              refine et_quiet 27 (by kernel_rfl) rfl (by kernel_rfl) (wn_none rfl) (op_add32 _ _ rfl rfl) rfl ?_
              -- 28
              refine et_quiet 28 (by kernel_rfl) rfl (by kernel_rfl) (wn_none rfl) (op_aidx0 i a1_100 rfl rfl rfl (by omega)) rfl ?_
              refine et_1 (i := 29) (by kernel_rfl) ?_
              refine ei_iN rfl rfl (wn_none rfl) (os_store (v := .int _ _) sc_90 rfl rfl rfl (Nat.ble_eq_true_of_le (show i + 1 ≤ _ by rw [List.size_toArray, wC_len, fillA_len (by rw [hml]; omega)]; omega)) (Free.zero _) (fillA_st hml.symm (by rw [hml]; omega) _)) ?_; rintro _ _ ⟨rfl, rfl⟩; refine ⟨[_], rfl, ?_⟩
              refine et_nil (by kernel_rfl) ?_
              refine px_blockN ?_
              refine px_then ?_
              refine cd_region ?_   -- 12
              refine ol_q (wn_none rfl) (op_add rfl rfl (by omega) (by omega)) rfl ?_
              refine ol_q (wn_none rfl) (op_move (v := .int _ _) rfl) rfl ?_
              refine ol_nil ?_
              have e1 := lay_next s hi16 hi64
              unfold next16 at e1
              rw [hml] at e1
              have e8 : ∀ (a b c d : UInt32), a + b + c + d = a + c + b + d := fun a b c d => by rw [UInt32.add_assoc a b c, UInt32.add_comm b c, ← UInt32.add_assoc]
              rw [← e8] at e1
              refine px_loop2 (i + 1) (by omega) (by (try dsimp only); omega) ⟨congrArg (Value.int .i64) (by simp), trivial⟩ ?_ (fun _ s => (by (try dsimp only); rw [e1]; exact s))
              repeat (first | exact kept_over | refine kept_upd rfl ?_ | refine kept_overS (by decide) ?_)
            · -- 20
              refine ei_i rfl rfl (wn_none rfl) (os_call cb_72 rfl (fun w s => right_calls (k := 17) _  s (by decide) (by decide))) rfl ?_; rintro _ l ⟨rfl, rfl⟩; refine ⟨[_], rfl, ?_⟩
              refine et_2 (i1 := 4) (i2 := 22) (by kernel_rfl) ?_ ?_
              · -- 4
                refine ei_i rfl rfl (wn_none rfl) (os_q (op_ld 0 sc_90 rfl rfl (fillA_at (by rw [hml]; omega)))) rfl ?_; rintro _ _ ⟨rfl, rfl⟩; refine ⟨[_], rfl, ?_⟩
                -- 9
                refine et_quiet 9 (by kernel_rfl) rfl (by kernel_rfl) (wn_none rfl) (op_add32 _ _ rfl rfl) rfl ?_
                -- 18
                refine et_quiet 18 (by kernel_rfl) rfl (by kernel_rfl) (wn_none rfl) (op_add32 _ _ rfl rfl) rfl ?_
                refine et_1 (i := 22) (by kernel_rfl) ?_
                refine ei_i rfl rfl (wn_none rfl) (os_call cb_72 rfl (fun w s => right_calls (k := 19) _  s (by decide) (by decide))) rfl ?_; rintro _ l ⟨rfl, rfl⟩; refine ⟨[_], rfl, ?_⟩
                -- 23
                refine et_quiet 23 (by kernel_rfl) rfl (by kernel_rfl) (wn_none rfl) (op_xor32 _ _ rfl rfl) rfl ?_
                -- 26
                refine et_quiet 26 (by kernel_rfl) rfl (by kernel_rfl) (wn_none rfl) (op_xor32 _ _ rfl rfl) rfl ?_
                -- 27
                refine et_quiet 27 (by kernel_rfl) rfl (by kernel_rfl) (wn_none rfl) (op_add32 _ _ rfl rfl) rfl ?_
                -- 28
                refine et_quiet 28 (by kernel_rfl) rfl (by kernel_rfl) (wn_none rfl) (op_aidx0 i a1_100 rfl rfl rfl (by omega)) rfl ?_
                refine et_1 (i := 29) (by kernel_rfl) ?_
                refine ei_iN rfl rfl (wn_none rfl) (os_store (v := .int _ _) sc_90 rfl rfl rfl (Nat.ble_eq_true_of_le (show i + 1 ≤ _ by rw [List.size_toArray, wC_len, fillA_len (by rw [hml]; omega)]; omega)) (Free.zero _) (fillA_st hml.symm (by rw [hml]; omega) _)) ?_; rintro _ _ ⟨rfl, rfl⟩; refine ⟨[_], rfl, ?_⟩
                refine et_nil (by kernel_rfl) ?_
                refine px_blockN ?_
                refine px_then ?_
                refine cd_region ?_   -- 12
                refine ol_q (wn_none rfl) (op_add rfl rfl (by omega) (by omega)) rfl ?_
                refine ol_q (wn_none rfl) (op_move (v := .int _ _) rfl) rfl ?_
                refine ol_nil ?_
                have e1 := lay_next s hi16 hi64
                unfold next16 at e1
                rw [hml] at e1
                have e8 : ∀ (a b c d : UInt32), a + b + c + d = a + c + b + d := fun a b c d => by rw [UInt32.add_assoc a b c, UInt32.add_comm b c, ← UInt32.add_assoc]
                rw [← e8] at e1
                refine px_loop2 (i + 1) (by omega) (by (try dsimp only); omega) ⟨congrArg (Value.int .i64) (by simp), trivial⟩ ?_ (fun _ s => (by (try dsimp only); rw [e1]; exact s))
                repeat (first | exact kept_over | refine kept_upd rfl ?_ | refine kept_overS (by decide) ?_)
              · -- 22
                refine ei_i rfl rfl (wn_none rfl) (os_call cb_72 rfl (fun w s => right_calls (k := 19) _  s (by decide) (by decide))) rfl ?_; rintro _ l ⟨rfl, rfl⟩; refine ⟨[_], rfl, ?_⟩
                -- 23
                refine et_quiet 23 (by kernel_rfl) rfl (by kernel_rfl) (wn_none rfl) (op_xor32 _ _ rfl rfl) rfl ?_
                -- 26
                refine et_quiet 26 (by kernel_rfl) rfl (by kernel_rfl) (wn_none rfl) (op_xor32 _ _ rfl rfl) rfl ?_
                refine et_1 (i := 4) (by kernel_rfl) ?_
                refine ei_i rfl rfl (wn_none rfl) (os_q (op_ld 0 sc_90 rfl rfl (fillA_at (by rw [hml]; omega)))) rfl ?_; rintro _ _ ⟨rfl, rfl⟩; refine ⟨[_], rfl, ?_⟩
                -- 9
                refine et_quiet 9 (by kernel_rfl) rfl (by kernel_rfl) (wn_none rfl) (op_add32 _ _ rfl rfl) rfl ?_
                -- 18
                refine et_quiet 18 (by kernel_rfl) rfl (by kernel_rfl) (wn_none rfl) (op_add32 _ _ rfl rfl) rfl ?_
                -- 27
                refine et_quiet 27 (by kernel_rfl) rfl (by kernel_rfl) (wn_none rfl) (op_add32 _ _ rfl rfl) rfl ?_
                -- 28
                refine et_quiet 28 (by kernel_rfl) rfl (by kernel_rfl) (wn_none rfl) (op_aidx0 i a1_100 rfl rfl rfl (by omega)) rfl ?_
                refine et_1 (i := 29) (by kernel_rfl) ?_
                refine ei_iN rfl rfl (wn_none rfl) (os_store (v := .int _ _) sc_90 rfl rfl rfl (Nat.ble_eq_true_of_le (show i + 1 ≤ _ by rw [List.size_toArray, wC_len, fillA_len (by rw [hml]; omega)]; omega)) (Free.zero _) (fillA_st hml.symm (by rw [hml]; omega) _)) ?_; rintro _ _ ⟨rfl, rfl⟩; refine ⟨[_], rfl, ?_⟩
                refine et_nil (by kernel_rfl) ?_
                refine px_blockN ?_
                refine px_then ?_
                refine cd_region ?_   -- 12
                refine ol_q (wn_none rfl) (op_add rfl rfl (by omega) (by omega)) rfl ?_
                refine ol_q (wn_none rfl) (op_move (v := .int _ _) rfl) rfl ?_
                refine ol_nil ?_
                have e1 := lay_next s hi16 hi64
                unfold next16 at e1
                rw [hml] at e1
                have e8 : ∀ (a b c d : UInt32), a + b + c + d = a + c + b + d := fun a b c d => by rw [UInt32.add_assoc a b c, UInt32.add_comm b c, ← UInt32.add_assoc]
                rw [← e8] at e1
                refine px_loop2 (i + 1) (by omega) (by (try dsimp only); omega) ⟨congrArg (Value.int .i64) (by simp), trivial⟩ ?_ (fun _ s => (by (try dsimp only); rw [e1]; exact s))
                repeat (first | exact kept_over | refine kept_upd rfl ?_ | refine kept_overS (by decide) ?_)
        · -- 13
          refine ei_i rfl rfl (wn_none rfl) (os_call cb_72 rfl (fun w s => right_calls (k := 18) _  s (by decide) (by decide))) rfl ?_; rintro _ l ⟨rfl, rfl⟩; refine ⟨[_], rfl, ?_⟩
          -- 14
          refine et_quiet 14 (by kernel_rfl) rfl (by kernel_rfl) (wn_none rfl) (op_xor32 _ _ rfl rfl) rfl ?_
          -- 17
          refine et_quiet 17 (by kernel_rfl) rfl (by kernel_rfl) (wn_none rfl) (op_xor32 _ _ rfl rfl) rfl ?_
          refine et_3 (i1 := 4) (i2 := 8) (i3 := 20) (by kernel_rfl) ?_ ?_ ?_
          · -- 4
            refine ei_i rfl rfl (wn_none rfl) (os_q (op_ld 0 sc_90 rfl rfl (fillA_at (by rw [hml]; omega)))) rfl ?_; rintro _ _ ⟨rfl, rfl⟩; refine ⟨[_], rfl, ?_⟩
            refine et_2 (i1 := 8) (i2 := 20) (by kernel_rfl) ?_ ?_
            · -- 8
              refine ei_i rfl rfl (wn_none rfl) (os_q (op_ld 0 sc_90 rfl rfl (fillA_at (by rw [hml]; omega)))) rfl ?_; rintro _ _ ⟨rfl, rfl⟩; refine ⟨[_], rfl, ?_⟩
              -- 9
              refine et_quiet 9 (by kernel_rfl) rfl (by kernel_rfl) (wn_none rfl) (op_add32 _ _ rfl rfl) rfl ?_
              -- 18
              refine et_quiet 18 (by kernel_rfl) rfl (by kernel_rfl) (wn_none rfl) (op_add32 _ _ rfl rfl) rfl ?_
              refine et_1 (i := 20) (by kernel_rfl) ?_
              refine ei_i rfl rfl (wn_none rfl) (os_call cb_72 rfl (fun w s => right_calls (k := 17) _  s (by decide) (by decide))) rfl ?_; rintro _ l ⟨rfl, rfl⟩; refine ⟨[_], rfl, ?_⟩
              refine et_1 (i := 22) (by kernel_rfl) ?_
              refine ei_i rfl rfl (wn_none rfl) (os_call cb_72 rfl (fun w s => right_calls (k := 19) _  s (by decide) (by decide))) rfl ?_; rintro _ l ⟨rfl, rfl⟩; refine ⟨[_], rfl, ?_⟩
              -- 23
              refine et_quiet 23 (by kernel_rfl) rfl (by kernel_rfl) (wn_none rfl) (op_xor32 _ _ rfl rfl) rfl ?_
              -- 26
              refine et_quiet 26 (by kernel_rfl) rfl (by kernel_rfl) (wn_none rfl) (op_xor32 _ _ rfl rfl) rfl ?_
              -- 27
              refine et_quiet 27 (by kernel_rfl) rfl (by kernel_rfl) (wn_none rfl) (op_add32 _ _ rfl rfl) rfl ?_
              -- 28
              refine et_quiet 28 (by kernel_rfl) rfl (by kernel_rfl) (wn_none rfl) (op_aidx0 i a1_100 rfl rfl rfl (by omega)) rfl ?_
              refine et_1 (i := 29) (by kernel_rfl) ?_
              refine ei_iN rfl rfl (wn_none rfl) (os_store (v := .int _ _) sc_90 rfl rfl rfl (Nat.ble_eq_true_of_le (show i + 1 ≤ _ by rw [List.size_toArray, wC_len, fillA_len (by rw [hml]; omega)]; omega)) (Free.zero _) (fillA_st hml.symm (by rw [hml]; omega) _)) ?_; rintro _ _ ⟨rfl, rfl⟩; refine ⟨[_], rfl, ?_⟩
              refine et_nil (by kernel_rfl) ?_
              refine px_blockN ?_
              refine px_then ?_
              refine cd_region ?_   -- 12
              refine ol_q (wn_none rfl) (op_add rfl rfl (by omega) (by omega)) rfl ?_
              refine ol_q (wn_none rfl) (op_move (v := .int _ _) rfl) rfl ?_
              refine ol_nil ?_
              have e1 := lay_next s hi16 hi64
              unfold next16 at e1
              rw [hml] at e1
              have e8 : ∀ (a b c d : UInt32), a + b + c + d = a + c + b + d := fun a b c d => by rw [UInt32.add_assoc a b c, UInt32.add_comm b c, ← UInt32.add_assoc]
              rw [← e8] at e1
              refine px_loop2 (i + 1) (by omega) (by (try dsimp only); omega) ⟨congrArg (Value.int .i64) (by simp), trivial⟩ ?_ (fun _ s => (by (try dsimp only); rw [e1]; exact s))
              repeat (first | exact kept_over | refine kept_upd rfl ?_ | refine kept_overS (by decide) ?_)
            · -- 20
              refine ei_i rfl rfl (wn_none rfl) (os_call cb_72 rfl (fun w s => right_calls (k := 17) _  s (by decide) (by decide))) rfl ?_; rintro _ l ⟨rfl, rfl⟩; refine ⟨[_], rfl, ?_⟩
              refine et_2 (i1 := 8) (i2 := 22) (by kernel_rfl) ?_ ?_
              · -- 8
                refine ei_i rfl rfl (wn_none rfl) (os_q (op_ld 0 sc_90 rfl rfl (fillA_at (by rw [hml]; omega)))) rfl ?_; rintro _ _ ⟨rfl, rfl⟩; refine ⟨[_], rfl, ?_⟩
                -- 9
                refine et_quiet 9 (by kernel_rfl) rfl (by kernel_rfl) (wn_none rfl) (op_add32 _ _ rfl rfl) rfl ?_
                -- 18
                refine et_quiet 18 (by kernel_rfl) rfl (by kernel_rfl) (wn_none rfl) (op_add32 _ _ rfl rfl) rfl ?_
                refine et_1 (i := 22) (by kernel_rfl) ?_
                refine ei_i rfl rfl (wn_none rfl) (os_call cb_72 rfl (fun w s => right_calls (k := 19) _  s (by decide) (by decide))) rfl ?_; rintro _ l ⟨rfl, rfl⟩; refine ⟨[_], rfl, ?_⟩
                -- 23
                refine et_quiet 23 (by kernel_rfl) rfl (by kernel_rfl) (wn_none rfl) (op_xor32 _ _ rfl rfl) rfl ?_
                -- 26
                refine et_quiet 26 (by kernel_rfl) rfl (by kernel_rfl) (wn_none rfl) (op_xor32 _ _ rfl rfl) rfl ?_
                -- 27
                refine et_quiet 27 (by kernel_rfl) rfl (by kernel_rfl) (wn_none rfl) (op_add32 _ _ rfl rfl) rfl ?_
                -- 28
                refine et_quiet 28 (by kernel_rfl) rfl (by kernel_rfl) (wn_none rfl) (op_aidx0 i a1_100 rfl rfl rfl (by omega)) rfl ?_
                refine et_1 (i := 29) (by kernel_rfl) ?_
                refine ei_iN rfl rfl (wn_none rfl) (os_store (v := .int _ _) sc_90 rfl rfl rfl (Nat.ble_eq_true_of_le (show i + 1 ≤ _ by rw [List.size_toArray, wC_len, fillA_len (by rw [hml]; omega)]; omega)) (Free.zero _) (fillA_st hml.symm (by rw [hml]; omega) _)) ?_; rintro _ _ ⟨rfl, rfl⟩; refine ⟨[_], rfl, ?_⟩
                refine et_nil (by kernel_rfl) ?_
                refine px_blockN ?_
                refine px_then ?_
                refine cd_region ?_   -- 12
                refine ol_q (wn_none rfl) (op_add rfl rfl (by omega) (by omega)) rfl ?_
                refine ol_q (wn_none rfl) (op_move (v := .int _ _) rfl) rfl ?_
                refine ol_nil ?_
                have e1 := lay_next s hi16 hi64
                unfold next16 at e1
                rw [hml] at e1
                have e8 : ∀ (a b c d : UInt32), a + b + c + d = a + c + b + d := fun a b c d => by rw [UInt32.add_assoc a b c, UInt32.add_comm b c, ← UInt32.add_assoc]
                rw [← e8] at e1
                refine px_loop2 (i + 1) (by omega) (by (try dsimp only); omega) ⟨congrArg (Value.int .i64) (by simp), trivial⟩ ?_ (fun _ s => (by (try dsimp only); rw [e1]; exact s))
                repeat (first | exact kept_over | refine kept_upd rfl ?_ | refine kept_overS (by decide) ?_)
              · -- 22
                refine ei_i rfl rfl (wn_none rfl) (os_call cb_72 rfl (fun w s => right_calls (k := 19) _  s (by decide) (by decide))) rfl ?_; rintro _ l ⟨rfl, rfl⟩; refine ⟨[_], rfl, ?_⟩
                -- 23
                refine et_quiet 23 (by kernel_rfl) rfl (by kernel_rfl) (wn_none rfl) (op_xor32 _ _ rfl rfl) rfl ?_
                -- 26
                refine et_quiet 26 (by kernel_rfl) rfl (by kernel_rfl) (wn_none rfl) (op_xor32 _ _ rfl rfl) rfl ?_
                refine et_1 (i := 8) (by kernel_rfl) ?_
                refine ei_i rfl rfl (wn_none rfl) (os_q (op_ld 0 sc_90 rfl rfl (fillA_at (by rw [hml]; omega)))) rfl ?_; rintro _ _ ⟨rfl, rfl⟩; refine ⟨[_], rfl, ?_⟩
                -- 9
                refine et_quiet 9 (by kernel_rfl) rfl (by kernel_rfl) (wn_none rfl) (op_add32 _ _ rfl rfl) rfl ?_
                -- 18
                refine et_quiet 18 (by kernel_rfl) rfl (by kernel_rfl) (wn_none rfl) (op_add32 _ _ rfl rfl) rfl ?_
                -- 27
                refine et_quiet 27 (by kernel_rfl) rfl (by kernel_rfl) (wn_none rfl) (op_add32 _ _ rfl rfl) rfl ?_
                -- 28
                refine et_quiet 28 (by kernel_rfl) rfl (by kernel_rfl) (wn_none rfl) (op_aidx0 i a1_100 rfl rfl rfl (by omega)) rfl ?_
                refine et_1 (i := 29) (by kernel_rfl) ?_
                refine ei_iN rfl rfl (wn_none rfl) (os_store (v := .int _ _) sc_90 rfl rfl rfl (Nat.ble_eq_true_of_le (show i + 1 ≤ _ by rw [List.size_toArray, wC_len, fillA_len (by rw [hml]; omega)]; omega)) (Free.zero _) (fillA_st hml.symm (by rw [hml]; omega) _)) ?_; rintro _ _ ⟨rfl, rfl⟩; refine ⟨[_], rfl, ?_⟩
                refine et_nil (by kernel_rfl) ?_
                refine px_blockN ?_
                refine px_then ?_
                refine cd_region ?_   -- 12
                refine ol_q (wn_none rfl) (op_add rfl rfl (by omega) (by omega)) rfl ?_
                refine ol_q (wn_none rfl) (op_move (v := .int _ _) rfl) rfl ?_
                refine ol_nil ?_
                have e1 := lay_next s hi16 hi64
                unfold next16 at e1
                rw [hml] at e1
                have e8 : ∀ (a b c d : UInt32), a + b + c + d = a + c + b + d := fun a b c d => by rw [UInt32.add_assoc a b c, UInt32.add_comm b c, ← UInt32.add_assoc]
                rw [← e8] at e1
                refine px_loop2 (i + 1) (by omega) (by (try dsimp only); omega) ⟨congrArg (Value.int .i64) (by simp), trivial⟩ ?_ (fun _ s => (by (try dsimp only); rw [e1]; exact s))
                repeat (first | exact kept_over | refine kept_upd rfl ?_ | refine kept_overS (by decide) ?_)
          · -- 8
            refine ei_i rfl rfl (wn_none rfl) (os_q (op_ld 0 sc_90 rfl rfl (fillA_at (by rw [hml]; omega)))) rfl ?_; rintro _ _ ⟨rfl, rfl⟩; refine ⟨[_], rfl, ?_⟩
            refine et_2 (i1 := 4) (i2 := 20) (by kernel_rfl) ?_ ?_
            · -- 4
              refine ei_i rfl rfl (wn_none rfl) (os_q (op_ld 0 sc_90 rfl rfl (fillA_at (by rw [hml]; omega)))) rfl ?_; rintro _ _ ⟨rfl, rfl⟩; refine ⟨[_], rfl, ?_⟩
              -- 9
              refine et_quiet 9 (by kernel_rfl) rfl (by kernel_rfl) (wn_none rfl) (op_add32 _ _ rfl rfl) rfl ?_
              -- 18
              refine et_quiet 18 (by kernel_rfl) rfl (by kernel_rfl) (wn_none rfl) (op_add32 _ _ rfl rfl) rfl ?_
              refine et_1 (i := 20) (by kernel_rfl) ?_
              refine ei_i rfl rfl (wn_none rfl) (os_call cb_72 rfl (fun w s => right_calls (k := 17) _  s (by decide) (by decide))) rfl ?_; rintro _ l ⟨rfl, rfl⟩; refine ⟨[_], rfl, ?_⟩
              refine et_1 (i := 22) (by kernel_rfl) ?_
              refine ei_i rfl rfl (wn_none rfl) (os_call cb_72 rfl (fun w s => right_calls (k := 19) _  s (by decide) (by decide))) rfl ?_; rintro _ l ⟨rfl, rfl⟩; refine ⟨[_], rfl, ?_⟩
              -- 23
              refine et_quiet 23 (by kernel_rfl) rfl (by kernel_rfl) (wn_none rfl) (op_xor32 _ _ rfl rfl) rfl ?_
              -- 26
              refine et_quiet 26 (by kernel_rfl) rfl (by kernel_rfl) (wn_none rfl) (op_xor32 _ _ rfl rfl) rfl ?_
              -- 27
              refine et_quiet 27 (by kernel_rfl) rfl (by kernel_rfl) (wn_none rfl) (op_add32 _ _ rfl rfl) rfl ?_
              -- 28
              refine et_quiet 28 (by kernel_rfl) rfl (by kernel_rfl) (wn_none rfl) (op_aidx0 i a1_100 rfl rfl rfl (by omega)) rfl ?_
              refine et_1 (i := 29) (by kernel_rfl) ?_
              refine ei_iN rfl rfl (wn_none rfl) (os_store (v := .int _ _) sc_90 rfl rfl rfl (Nat.ble_eq_true_of_le (show i + 1 ≤ _ by rw [List.size_toArray, wC_len, fillA_len (by rw [hml]; omega)]; omega)) (Free.zero _) (fillA_st hml.symm (by rw [hml]; omega) _)) ?_; rintro _ _ ⟨rfl, rfl⟩; refine ⟨[_], rfl, ?_⟩
              refine et_nil (by kernel_rfl) ?_
              refine px_blockN ?_
              refine px_then ?_
              refine cd_region ?_   -- 12
              refine ol_q (wn_none rfl) (op_add rfl rfl (by omega) (by omega)) rfl ?_
              refine ol_q (wn_none rfl) (op_move (v := .int _ _) rfl) rfl ?_
              refine ol_nil ?_
              have e1 := lay_next s hi16 hi64
              unfold next16 at e1
              rw [hml] at e1
              have e8 : ∀ (a b c d : UInt32), a + b + c + d = a + c + b + d := fun a b c d => by rw [UInt32.add_assoc a b c, UInt32.add_comm b c, ← UInt32.add_assoc]
              rw [← e8] at e1
              refine px_loop2 (i + 1) (by omega) (by (try dsimp only); omega) ⟨congrArg (Value.int .i64) (by simp), trivial⟩ ?_ (fun _ s => (by (try dsimp only); rw [e1]; exact s))
              repeat (first | exact kept_over | refine kept_upd rfl ?_ | refine kept_overS (by decide) ?_)
            · -- 20
              refine ei_i rfl rfl (wn_none rfl) (os_call cb_72 rfl (fun w s => right_calls (k := 17) _  s (by decide) (by decide))) rfl ?_; rintro _ l ⟨rfl, rfl⟩; refine ⟨[_], rfl, ?_⟩
              refine et_2 (i1 := 4) (i2 := 22) (by kernel_rfl) ?_ ?_
              · -- 4
                refine ei_i rfl rfl (wn_none rfl) (os_q (op_ld 0 sc_90 rfl rfl (fillA_at (by rw [hml]; omega)))) rfl ?_; rintro _ _ ⟨rfl, rfl⟩; refine ⟨[_], rfl, ?_⟩
                -- 9
                refine et_quiet 9 (by kernel_rfl) rfl (by kernel_rfl) (wn_none rfl) (op_add32 _ _ rfl rfl) rfl ?_
                -- 18
                refine et_quiet 18 (by kernel_rfl) rfl (by kernel_rfl) (wn_none rfl) (op_add32 _ _ rfl rfl) rfl ?_
                refine et_1 (i := 22) (by kernel_rfl) ?_
                refine ei_i rfl rfl (wn_none rfl) (os_call cb_72 rfl (fun w s => right_calls (k := 19) _  s (by decide) (by decide))) rfl ?_; rintro _ l ⟨rfl, rfl⟩; refine ⟨[_], rfl, ?_⟩
                -- 23
                refine et_quiet 23 (by kernel_rfl) rfl (by kernel_rfl) (wn_none rfl) (op_xor32 _ _ rfl rfl) rfl ?_
                -- 26
                refine et_quiet 26 (by kernel_rfl) rfl (by kernel_rfl) (wn_none rfl) (op_xor32 _ _ rfl rfl) rfl ?_
                -- 27
                refine et_quiet 27 (by kernel_rfl) rfl (by kernel_rfl) (wn_none rfl) (op_add32 _ _ rfl rfl) rfl ?_
                -- 28
                refine et_quiet 28 (by kernel_rfl) rfl (by kernel_rfl) (wn_none rfl) (op_aidx0 i a1_100 rfl rfl rfl (by omega)) rfl ?_
                refine et_1 (i := 29) (by kernel_rfl) ?_
                refine ei_iN rfl rfl (wn_none rfl) (os_store (v := .int _ _) sc_90 rfl rfl rfl (Nat.ble_eq_true_of_le (show i + 1 ≤ _ by rw [List.size_toArray, wC_len, fillA_len (by rw [hml]; omega)]; omega)) (Free.zero _) (fillA_st hml.symm (by rw [hml]; omega) _)) ?_; rintro _ _ ⟨rfl, rfl⟩; refine ⟨[_], rfl, ?_⟩
                refine et_nil (by kernel_rfl) ?_
                refine px_blockN ?_
                refine px_then ?_
                refine cd_region ?_   -- 12
                refine ol_q (wn_none rfl) (op_add rfl rfl (by omega) (by omega)) rfl ?_
                refine ol_q (wn_none rfl) (op_move (v := .int _ _) rfl) rfl ?_
                refine ol_nil ?_
                have e1 := lay_next s hi16 hi64
                unfold next16 at e1
                rw [hml] at e1
                have e8 : ∀ (a b c d : UInt32), a + b + c + d = a + c + b + d := fun a b c d => by rw [UInt32.add_assoc a b c, UInt32.add_comm b c, ← UInt32.add_assoc]
                rw [← e8] at e1
                refine px_loop2 (i + 1) (by omega) (by (try dsimp only); omega) ⟨congrArg (Value.int .i64) (by simp), trivial⟩ ?_ (fun _ s => (by (try dsimp only); rw [e1]; exact s))
                repeat (first | exact kept_over | refine kept_upd rfl ?_ | refine kept_overS (by decide) ?_)
              · -- 22
                refine ei_i rfl rfl (wn_none rfl) (os_call cb_72 rfl (fun w s => right_calls (k := 19) _  s (by decide) (by decide))) rfl ?_; rintro _ l ⟨rfl, rfl⟩; refine ⟨[_], rfl, ?_⟩
                -- 23
                refine et_quiet 23 (by kernel_rfl) rfl (by kernel_rfl) (wn_none rfl) (op_xor32 _ _ rfl rfl) rfl ?_
                -- 26
                refine et_quiet 26 (by kernel_rfl) rfl (by kernel_rfl) (wn_none rfl) (op_xor32 _ _ rfl rfl) rfl ?_
                refine et_1 (i := 4) (by kernel_rfl) ?_
                refine ei_i rfl rfl (wn_none rfl) (os_q (op_ld 0 sc_90 rfl rfl (fillA_at (by rw [hml]; omega)))) rfl ?_; rintro _ _ ⟨rfl, rfl⟩; refine ⟨[_], rfl, ?_⟩
                -- 9
                refine et_quiet 9 (by kernel_rfl) rfl (by kernel_rfl) (wn_none rfl) (op_add32 _ _ rfl rfl) rfl ?_
                -- 18
                refine et_quiet 18 (by kernel_rfl) rfl (by kernel_rfl) (wn_none rfl) (op_add32 _ _ rfl rfl) rfl ?_
                -- 27
                refine et_quiet 27 (by kernel_rfl) rfl (by kernel_rfl) (wn_none rfl) (op_add32 _ _ rfl rfl) rfl ?_
                -- 28
                refine et_quiet 28 (by kernel_rfl) rfl (by kernel_rfl) (wn_none rfl) (op_aidx0 i a1_100 rfl rfl rfl (by omega)) rfl ?_
                refine et_1 (i := 29) (by kernel_rfl) ?_
                refine ei_iN rfl rfl (wn_none rfl) (os_store (v := .int _ _) sc_90 rfl rfl rfl (Nat.ble_eq_true_of_le (show i + 1 ≤ _ by rw [List.size_toArray, wC_len, fillA_len (by rw [hml]; omega)]; omega)) (Free.zero _) (fillA_st hml.symm (by rw [hml]; omega) _)) ?_; rintro _ _ ⟨rfl, rfl⟩; refine ⟨[_], rfl, ?_⟩
                refine et_nil (by kernel_rfl) ?_
                refine px_blockN ?_
                refine px_then ?_
                refine cd_region ?_   -- 12
                refine ol_q (wn_none rfl) (op_add rfl rfl (by omega) (by omega)) rfl ?_
                refine ol_q (wn_none rfl) (op_move (v := .int _ _) rfl) rfl ?_
                refine ol_nil ?_
                have e1 := lay_next s hi16 hi64
                unfold next16 at e1
                rw [hml] at e1
                have e8 : ∀ (a b c d : UInt32), a + b + c + d = a + c + b + d := fun a b c d => by rw [UInt32.add_assoc a b c, UInt32.add_comm b c, ← UInt32.add_assoc]
                rw [← e8] at e1
                refine px_loop2 (i + 1) (by omega) (by (try dsimp only); omega) ⟨congrArg (Value.int .i64) (by simp), trivial⟩ ?_ (fun _ s => (by (try dsimp only); rw [e1]; exact s))
                repeat (first | exact kept_over | refine kept_upd rfl ?_ | refine kept_overS (by decide) ?_)
          · -- 20
            refine ei_i rfl rfl (wn_none rfl) (os_call cb_72 rfl (fun w s => right_calls (k := 17) _  s (by decide) (by decide))) rfl ?_; rintro _ l ⟨rfl, rfl⟩; refine ⟨[_], rfl, ?_⟩
            refine et_3 (i1 := 4) (i2 := 8) (i3 := 22) (by kernel_rfl) ?_ ?_ ?_
            · -- 4
              refine ei_i rfl rfl (wn_none rfl) (os_q (op_ld 0 sc_90 rfl rfl (fillA_at (by rw [hml]; omega)))) rfl ?_; rintro _ _ ⟨rfl, rfl⟩; refine ⟨[_], rfl, ?_⟩
              refine et_2 (i1 := 8) (i2 := 22) (by kernel_rfl) ?_ ?_
              · -- 8
                refine ei_i rfl rfl (wn_none rfl) (os_q (op_ld 0 sc_90 rfl rfl (fillA_at (by rw [hml]; omega)))) rfl ?_; rintro _ _ ⟨rfl, rfl⟩; refine ⟨[_], rfl, ?_⟩
                -- 9
                refine et_quiet 9 (by kernel_rfl) rfl (by kernel_rfl) (wn_none rfl) (op_add32 _ _ rfl rfl) rfl ?_
                -- 18
                refine et_quiet 18 (by kernel_rfl) rfl (by kernel_rfl) (wn_none rfl) (op_add32 _ _ rfl rfl) rfl ?_
                refine et_1 (i := 22) (by kernel_rfl) ?_
                refine ei_i rfl rfl (wn_none rfl) (os_call cb_72 rfl (fun w s => right_calls (k := 19) _  s (by decide) (by decide))) rfl ?_; rintro _ l ⟨rfl, rfl⟩; refine ⟨[_], rfl, ?_⟩
                -- 23
                refine et_quiet 23 (by kernel_rfl) rfl (by kernel_rfl) (wn_none rfl) (op_xor32 _ _ rfl rfl) rfl ?_
                -- 26
                refine et_quiet 26 (by kernel_rfl) rfl (by kernel_rfl) (wn_none rfl) (op_xor32 _ _ rfl rfl) rfl ?_
                -- 27
                refine et_quiet 27 (by kernel_rfl) rfl (by kernel_rfl) (wn_none rfl) (op_add32 _ _ rfl rfl) rfl ?_
                -- 28
                refine et_quiet 28 (by kernel_rfl) rfl (by kernel_rfl) (wn_none rfl) (op_aidx0 i a1_100 rfl rfl rfl (by omega)) rfl ?_
                refine et_1 (i := 29) (by kernel_rfl) ?_
                refine ei_iN rfl rfl (wn_none rfl) (os_store (v := .int _ _) sc_90 rfl rfl rfl (Nat.ble_eq_true_of_le (show i + 1 ≤ _ by rw [List.size_toArray, wC_len, fillA_len (by rw [hml]; omega)]; omega)) (Free.zero _) (fillA_st hml.symm (by rw [hml]; omega) _)) ?_; rintro _ _ ⟨rfl, rfl⟩; refine ⟨[_], rfl, ?_⟩
                refine et_nil (by kernel_rfl) ?_
                refine px_blockN ?_
                refine px_then ?_
                refine cd_region ?_   -- 12
                refine ol_q (wn_none rfl) (op_add rfl rfl (by omega) (by omega)) rfl ?_
                refine ol_q (wn_none rfl) (op_move (v := .int _ _) rfl) rfl ?_
                refine ol_nil ?_
                have e1 := lay_next s hi16 hi64
                unfold next16 at e1
                rw [hml] at e1
                have e8 : ∀ (a b c d : UInt32), a + b + c + d = a + c + b + d := fun a b c d => by rw [UInt32.add_assoc a b c, UInt32.add_comm b c, ← UInt32.add_assoc]
                rw [← e8] at e1
                refine px_loop2 (i + 1) (by omega) (by (try dsimp only); omega) ⟨congrArg (Value.int .i64) (by simp), trivial⟩ ?_ (fun _ s => (by (try dsimp only); rw [e1]; exact s))
                repeat (first | exact kept_over | refine kept_upd rfl ?_ | refine kept_overS (by decide) ?_)
              · -- 22
                refine ei_i rfl rfl (wn_none rfl) (os_call cb_72 rfl (fun w s => right_calls (k := 19) _  s (by decide) (by decide))) rfl ?_; rintro _ l ⟨rfl, rfl⟩; refine ⟨[_], rfl, ?_⟩
                -- 23
                refine et_quiet 23 (by kernel_rfl) rfl (by kernel_rfl) (wn_none rfl) (op_xor32 _ _ rfl rfl) rfl ?_
                -- 26
                refine et_quiet 26 (by kernel_rfl) rfl (by kernel_rfl) (wn_none rfl) (op_xor32 _ _ rfl rfl) rfl ?_
                refine et_1 (i := 8) (by kernel_rfl) ?_
                refine ei_i rfl rfl (wn_none rfl) (os_q (op_ld 0 sc_90 rfl rfl (fillA_at (by rw [hml]; omega)))) rfl ?_; rintro _ _ ⟨rfl, rfl⟩; refine ⟨[_], rfl, ?_⟩
                -- 9
                refine et_quiet 9 (by kernel_rfl) rfl (by kernel_rfl) (wn_none rfl) (op_add32 _ _ rfl rfl) rfl ?_
                -- 18
                refine et_quiet 18 (by kernel_rfl) rfl (by kernel_rfl) (wn_none rfl) (op_add32 _ _ rfl rfl) rfl ?_
                -- 27
                refine et_quiet 27 (by kernel_rfl) rfl (by kernel_rfl) (wn_none rfl) (op_add32 _ _ rfl rfl) rfl ?_
                -- 28
                refine et_quiet 28 (by kernel_rfl) rfl (by kernel_rfl) (wn_none rfl) (op_aidx0 i a1_100 rfl rfl rfl (by omega)) rfl ?_
                refine et_1 (i := 29) (by kernel_rfl) ?_
                refine ei_iN rfl rfl (wn_none rfl) (os_store (v := .int _ _) sc_90 rfl rfl rfl (Nat.ble_eq_true_of_le (show i + 1 ≤ _ by rw [List.size_toArray, wC_len, fillA_len (by rw [hml]; omega)]; omega)) (Free.zero _) (fillA_st hml.symm (by rw [hml]; omega) _)) ?_; rintro _ _ ⟨rfl, rfl⟩; refine ⟨[_], rfl, ?_⟩
                refine et_nil (by kernel_rfl) ?_
                refine px_blockN ?_
                refine px_then ?_
                refine cd_region ?_   -- 12
                refine ol_q (wn_none rfl) (op_add rfl rfl (by omega) (by omega)) rfl ?_
                refine ol_q (wn_none rfl) (op_move (v := .int _ _) rfl) rfl ?_
                refine ol_nil ?_
                have e1 := lay_next s hi16 hi64
                unfold next16 at e1
                rw [hml] at e1
                have e8 : ∀ (a b c d : UInt32), a + b + c + d = a + c + b + d := fun a b c d => by rw [UInt32.add_assoc a b c, UInt32.add_comm b c, ← UInt32.add_assoc]
                rw [← e8] at e1
                refine px_loop2 (i + 1) (by omega) (by (try dsimp only); omega) ⟨congrArg (Value.int .i64) (by simp), trivial⟩ ?_ (fun _ s => (by (try dsimp only); rw [e1]; exact s))
                repeat (first | exact kept_over | refine kept_upd rfl ?_ | refine kept_overS (by decide) ?_)
            · -- 8
              refine ei_i rfl rfl (wn_none rfl) (os_q (op_ld 0 sc_90 rfl rfl (fillA_at (by rw [hml]; omega)))) rfl ?_; rintro _ _ ⟨rfl, rfl⟩; refine ⟨[_], rfl, ?_⟩
              refine et_2 (i1 := 4) (i2 := 22) (by kernel_rfl) ?_ ?_
              · -- 4
                refine ei_i rfl rfl (wn_none rfl) (os_q (op_ld 0 sc_90 rfl rfl (fillA_at (by rw [hml]; omega)))) rfl ?_; rintro _ _ ⟨rfl, rfl⟩; refine ⟨[_], rfl, ?_⟩
                -- 9
                refine et_quiet 9 (by kernel_rfl) rfl (by kernel_rfl) (wn_none rfl) (op_add32 _ _ rfl rfl) rfl ?_
                -- 18
                refine et_quiet 18 (by kernel_rfl) rfl (by kernel_rfl) (wn_none rfl) (op_add32 _ _ rfl rfl) rfl ?_
                refine et_1 (i := 22) (by kernel_rfl) ?_
                refine ei_i rfl rfl (wn_none rfl) (os_call cb_72 rfl (fun w s => right_calls (k := 19) _  s (by decide) (by decide))) rfl ?_; rintro _ l ⟨rfl, rfl⟩; refine ⟨[_], rfl, ?_⟩
                -- 23
                refine et_quiet 23 (by kernel_rfl) rfl (by kernel_rfl) (wn_none rfl) (op_xor32 _ _ rfl rfl) rfl ?_
                -- 26
                refine et_quiet 26 (by kernel_rfl) rfl (by kernel_rfl) (wn_none rfl) (op_xor32 _ _ rfl rfl) rfl ?_
                -- 27
                refine et_quiet 27 (by kernel_rfl) rfl (by kernel_rfl) (wn_none rfl) (op_add32 _ _ rfl rfl) rfl ?_
                -- 28
                refine et_quiet 28 (by kernel_rfl) rfl (by kernel_rfl) (wn_none rfl) (op_aidx0 i a1_100 rfl rfl rfl (by omega)) rfl ?_
                refine et_1 (i := 29) (by kernel_rfl) ?_
                refine ei_iN rfl rfl (wn_none rfl) (os_store (v := .int _ _) sc_90 rfl rfl rfl (Nat.ble_eq_true_of_le (show i + 1 ≤ _ by rw [List.size_toArray, wC_len, fillA_len (by rw [hml]; omega)]; omega)) (Free.zero _) (fillA_st hml.symm (by rw [hml]; omega) _)) ?_; rintro _ _ ⟨rfl, rfl⟩; refine ⟨[_], rfl, ?_⟩
                refine et_nil (by kernel_rfl) ?_
                refine px_blockN ?_
                refine px_then ?_
                refine cd_region ?_   -- 12
                refine ol_q (wn_none rfl) (op_add rfl rfl (by omega) (by omega)) rfl ?_
                refine ol_q (wn_none rfl) (op_move (v := .int _ _) rfl) rfl ?_
                refine ol_nil ?_
                have e1 := lay_next s hi16 hi64
                unfold next16 at e1
                rw [hml] at e1
                have e8 : ∀ (a b c d : UInt32), a + b + c + d = a + c + b + d := fun a b c d => by rw [UInt32.add_assoc a b c, UInt32.add_comm b c, ← UInt32.add_assoc]
                rw [← e8] at e1
                refine px_loop2 (i + 1) (by omega) (by (try dsimp only); omega) ⟨congrArg (Value.int .i64) (by simp), trivial⟩ ?_ (fun _ s => (by (try dsimp only); rw [e1]; exact s))
                repeat (first | exact kept_over | refine kept_upd rfl ?_ | refine kept_overS (by decide) ?_)
              · -- 22
                refine ei_i rfl rfl (wn_none rfl) (os_call cb_72 rfl (fun w s => right_calls (k := 19) _  s (by decide) (by decide))) rfl ?_; rintro _ l ⟨rfl, rfl⟩; refine ⟨[_], rfl, ?_⟩
                -- 23
                refine et_quiet 23 (by kernel_rfl) rfl (by kernel_rfl) (wn_none rfl) (op_xor32 _ _ rfl rfl) rfl ?_
                -- 26
                refine et_quiet 26 (by kernel_rfl) rfl (by kernel_rfl) (wn_none rfl) (op_xor32 _ _ rfl rfl) rfl ?_
                refine et_1 (i := 4) (by kernel_rfl) ?_
                refine ei_i rfl rfl (wn_none rfl) (os_q (op_ld 0 sc_90 rfl rfl (fillA_at (by rw [hml]; omega)))) rfl ?_; rintro _ _ ⟨rfl, rfl⟩; refine ⟨[_], rfl, ?_⟩
                -- 9
                refine et_quiet 9 (by kernel_rfl) rfl (by kernel_rfl) (wn_none rfl) (op_add32 _ _ rfl rfl) rfl ?_
                -- 18
                refine et_quiet 18 (by kernel_rfl) rfl (by kernel_rfl) (wn_none rfl) (op_add32 _ _ rfl rfl) rfl ?_
                -- 27
                refine et_quiet 27 (by kernel_rfl) rfl (by kernel_rfl) (wn_none rfl) (op_add32 _ _ rfl rfl) rfl ?_
                -- 28
                refine et_quiet 28 (by kernel_rfl) rfl (by kernel_rfl) (wn_none rfl) (op_aidx0 i a1_100 rfl rfl rfl (by omega)) rfl ?_
                refine et_1 (i := 29) (by kernel_rfl) ?_
                refine ei_iN rfl rfl (wn_none rfl) (os_store (v := .int _ _) sc_90 rfl rfl rfl (Nat.ble_eq_true_of_le (show i + 1 ≤ _ by rw [List.size_toArray, wC_len, fillA_len (by rw [hml]; omega)]; omega)) (Free.zero _) (fillA_st hml.symm (by rw [hml]; omega) _)) ?_; rintro _ _ ⟨rfl, rfl⟩; refine ⟨[_], rfl, ?_⟩
                refine et_nil (by kernel_rfl) ?_
                refine px_blockN ?_
                refine px_then ?_
                refine cd_region ?_   -- 12
                refine ol_q (wn_none rfl) (op_add rfl rfl (by omega) (by omega)) rfl ?_
                refine ol_q (wn_none rfl) (op_move (v := .int _ _) rfl) rfl ?_
                refine ol_nil ?_
                have e1 := lay_next s hi16 hi64
                unfold next16 at e1
                rw [hml] at e1
                have e8 : ∀ (a b c d : UInt32), a + b + c + d = a + c + b + d := fun a b c d => by rw [UInt32.add_assoc a b c, UInt32.add_comm b c, ← UInt32.add_assoc]
                rw [← e8] at e1
                refine px_loop2 (i + 1) (by omega) (by (try dsimp only); omega) ⟨congrArg (Value.int .i64) (by simp), trivial⟩ ?_ (fun _ s => (by (try dsimp only); rw [e1]; exact s))
                repeat (first | exact kept_over | refine kept_upd rfl ?_ | refine kept_overS (by decide) ?_)
            · -- 22
              refine ei_i rfl rfl (wn_none rfl) (os_call cb_72 rfl (fun w s => right_calls (k := 19) _  s (by decide) (by decide))) rfl ?_; rintro _ l ⟨rfl, rfl⟩; refine ⟨[_], rfl, ?_⟩
              -- 23
              refine et_quiet 23 (by kernel_rfl) rfl (by kernel_rfl) (wn_none rfl) (op_xor32 _ _ rfl rfl) rfl ?_
              -- 26
              refine et_quiet 26 (by kernel_rfl) rfl (by kernel_rfl) (wn_none rfl) (op_xor32 _ _ rfl rfl) rfl ?_
              refine et_2 (i1 := 4) (i2 := 8) (by kernel_rfl) ?_ ?_
              · -- 4
                refine ei_i rfl rfl (wn_none rfl) (os_q (op_ld 0 sc_90 rfl rfl (fillA_at (by rw [hml]; omega)))) rfl ?_; rintro _ _ ⟨rfl, rfl⟩; refine ⟨[_], rfl, ?_⟩
                refine et_1 (i := 8) (by kernel_rfl) ?_
                refine ei_i rfl rfl (wn_none rfl) (os_q (op_ld 0 sc_90 rfl rfl (fillA_at (by rw [hml]; omega)))) rfl ?_; rintro _ _ ⟨rfl, rfl⟩; refine ⟨[_], rfl, ?_⟩
                -- 9
                refine et_quiet 9 (by kernel_rfl) rfl (by kernel_rfl) (wn_none rfl) (op_add32 _ _ rfl rfl) rfl ?_
                -- 18
                refine et_quiet 18 (by kernel_rfl) rfl (by kernel_rfl) (wn_none rfl) (op_add32 _ _ rfl rfl) rfl ?_
                -- 27
                refine et_quiet 27 (by kernel_rfl) rfl (by kernel_rfl) (wn_none rfl) (op_add32 _ _ rfl rfl) rfl ?_
                -- 28
                refine et_quiet 28 (by kernel_rfl) rfl (by kernel_rfl) (wn_none rfl) (op_aidx0 i a1_100 rfl rfl rfl (by omega)) rfl ?_
                refine et_1 (i := 29) (by kernel_rfl) ?_
                refine ei_iN rfl rfl (wn_none rfl) (os_store (v := .int _ _) sc_90 rfl rfl rfl (Nat.ble_eq_true_of_le (show i + 1 ≤ _ by rw [List.size_toArray, wC_len, fillA_len (by rw [hml]; omega)]; omega)) (Free.zero _) (fillA_st hml.symm (by rw [hml]; omega) _)) ?_; rintro _ _ ⟨rfl, rfl⟩; refine ⟨[_], rfl, ?_⟩
                refine et_nil (by kernel_rfl) ?_
                refine px_blockN ?_
                refine px_then ?_
                refine cd_region ?_   -- 12
                refine ol_q (wn_none rfl) (op_add rfl rfl (by omega) (by omega)) rfl ?_
                refine ol_q (wn_none rfl) (op_move (v := .int _ _) rfl) rfl ?_
                refine ol_nil ?_
                have e1 := lay_next s hi16 hi64
                unfold next16 at e1
                rw [hml] at e1
                have e8 : ∀ (a b c d : UInt32), a + b + c + d = a + c + b + d := fun a b c d => by rw [UInt32.add_assoc a b c, UInt32.add_comm b c, ← UInt32.add_assoc]
                rw [← e8] at e1
                refine px_loop2 (i + 1) (by omega) (by (try dsimp only); omega) ⟨congrArg (Value.int .i64) (by simp), trivial⟩ ?_ (fun _ s => (by (try dsimp only); rw [e1]; exact s))
                repeat (first | exact kept_over | refine kept_upd rfl ?_ | refine kept_overS (by decide) ?_)
              · -- 8
                refine ei_i rfl rfl (wn_none rfl) (os_q (op_ld 0 sc_90 rfl rfl (fillA_at (by rw [hml]; omega)))) rfl ?_; rintro _ _ ⟨rfl, rfl⟩; refine ⟨[_], rfl, ?_⟩
                refine et_1 (i := 4) (by kernel_rfl) ?_
                refine ei_i rfl rfl (wn_none rfl) (os_q (op_ld 0 sc_90 rfl rfl (fillA_at (by rw [hml]; omega)))) rfl ?_; rintro _ _ ⟨rfl, rfl⟩; refine ⟨[_], rfl, ?_⟩
                -- 9
                refine et_quiet 9 (by kernel_rfl) rfl (by kernel_rfl) (wn_none rfl) (op_add32 _ _ rfl rfl) rfl ?_
                -- 18
                refine et_quiet 18 (by kernel_rfl) rfl (by kernel_rfl) (wn_none rfl) (op_add32 _ _ rfl rfl) rfl ?_
                -- 27
                refine et_quiet 27 (by kernel_rfl) rfl (by kernel_rfl) (wn_none rfl) (op_add32 _ _ rfl rfl) rfl ?_
                -- 28
                refine et_quiet 28 (by kernel_rfl) rfl (by kernel_rfl) (wn_none rfl) (op_aidx0 i a1_100 rfl rfl rfl (by omega)) rfl ?_
                refine et_1 (i := 29) (by kernel_rfl) ?_
                refine ei_iN rfl rfl (wn_none rfl) (os_store (v := .int _ _) sc_90 rfl rfl rfl (Nat.ble_eq_true_of_le (show i + 1 ≤ _ by rw [List.size_toArray, wC_len, fillA_len (by rw [hml]; omega)]; omega)) (Free.zero _) (fillA_st hml.symm (by rw [hml]; omega) _)) ?_; rintro _ _ ⟨rfl, rfl⟩; refine ⟨[_], rfl, ?_⟩
                refine et_nil (by kernel_rfl) ?_
                refine px_blockN ?_
                refine px_then ?_
                refine cd_region ?_   -- 12
                refine ol_q (wn_none rfl) (op_add rfl rfl (by omega) (by omega)) rfl ?_
                refine ol_q (wn_none rfl) (op_move (v := .int _ _) rfl) rfl ?_
                refine ol_nil ?_
                have e1 := lay_next s hi16 hi64
                unfold next16 at e1
                rw [hml] at e1
                have e8 : ∀ (a b c d : UInt32), a + b + c + d = a + c + b + d := fun a b c d => by rw [UInt32.add_assoc a b c, UInt32.add_comm b c, ← UInt32.add_assoc]
                rw [← e8] at e1
                refine px_loop2 (i + 1) (by omega) (by (try dsimp only); omega) ⟨congrArg (Value.int .i64) (by simp), trivial⟩ ?_ (fun _ s => (by (try dsimp only); rw [e1]; exact s))
                repeat (first | exact kept_over | refine kept_upd rfl ?_ | refine kept_overS (by decide) ?_)
  · have hp1 := hb1
    (try simp only [decide_eq_true_eq, decide_eq_false_iff_not, Bool.not_eq_true', Bool.not_eq_false', ne_eq, Decidable.not_not] at hp1)
    obtain rfl : i = 64 := by omega
    rw [List.take_of_length_le (show (layM s).length ≤ 64 by rw [layM_len]; exact Nat.le_refl _), fillA_64 (layM_len s)]
    refine cd_exit ?_
    refine px_thenE ?_
    refine px_thenE ?_
    refine px_blockE ?_
    refine px_then ?_
    refine cd_seq ?_   -- 13
    refine cd_draw (M := []) mx [] (by kernel_rfl) ?_
    refine rg_q (wn_none rfl) (op_aidx0 0 a1_91 rfl rfl rfl (by omega)) rfl rfl ?_
    refine rg_q (wn_none rfl) (op_ld 3 sc_90 rfl rfl (wC_gd (ws := h.1) (by rw [h.2]; decide))) rfl rfl ?_
    refine rg_q (wn_none rfl) (op_aidx0 1 a1_91 rfl rfl rfl (by omega)) rfl rfl ?_
    refine rg_q (wn_none rfl) (op_ld 3 sc_90 rfl rfl (wC_gd (ws := h.1) (by rw [h.2]; decide))) rfl rfl ?_
    refine rg_q (wn_none rfl) (op_aidx0 2 a1_91 rfl rfl rfl (by omega)) rfl rfl ?_
    refine rg_q (wn_none rfl) (op_ld 3 sc_90 rfl rfl (wC_gd (ws := h.1) (by rw [h.2]; decide))) rfl rfl ?_
    refine rg_q (wn_none rfl) (op_aidx0 3 a1_91 rfl rfl rfl (by omega)) rfl rfl ?_
    refine rg_q (wn_none rfl) (op_ld 3 sc_90 rfl rfl (wC_gd (ws := h.1) (by rw [h.2]; decide))) rfl rfl ?_
    refine rg_q (wn_none rfl) (op_aidx0 4 a1_91 rfl rfl rfl (by omega)) rfl rfl ?_
    refine rg_q (wn_none rfl) (op_ld 3 sc_90 rfl rfl (wC_gd (ws := h.1) (by rw [h.2]; decide))) rfl rfl ?_
    refine rg_q (wn_none rfl) (op_aidx0 5 a1_91 rfl rfl rfl (by omega)) rfl rfl ?_
    refine rg_q (wn_none rfl) (op_ld 3 sc_90 rfl rfl (wC_gd (ws := h.1) (by rw [h.2]; decide))) rfl rfl ?_
    refine rg_q (wn_none rfl) (op_aidx0 6 a1_91 rfl rfl rfl (by omega)) rfl rfl ?_
    refine rg_q (wn_none rfl) (op_ld 3 sc_90 rfl rfl (wC_gd (ws := h.1) (by rw [h.2]; decide))) rfl rfl ?_
    refine rg_q (wn_none rfl) (op_aidx0 7 a1_91 rfl rfl rfl (by omega)) rfl rfl ?_
    refine rg_q (wn_none rfl) (op_ld 3 sc_90 rfl rfl (wC_gd (ws := h.1) (by rw [h.2]; decide))) rfl rfl ?_
    refine rg_q (wn_none rfl) (op_assign (v := .int _ _) rfl) rfl rfl ?_
    refine rg_q (wn_none rfl) (op_assign (v := .int _ _) rfl) rfl rfl ?_
    refine rg_q (wn_none rfl) (op_assign (v := .int _ _) rfl) rfl rfl ?_
    refine rg_q (wn_none rfl) (op_assign (v := .int _ _) rfl) rfl rfl ?_
    refine rg_q (wn_none rfl) (op_assign (v := .int _ _) rfl) rfl rfl ?_
    refine rg_q (wn_none rfl) (op_assign (v := .int _ _) rfl) rfl rfl ?_
    refine rg_q (wn_none rfl) (op_assign (v := .int _ _) rfl) rfl rfl ?_
    refine rg_q (wn_none rfl) (op_assign (v := .int _ _) rfl) rfl rfl ?_
    refine rg_nil_then0 ?_
    refine cd_seq ?_
    refine cd_sr ?_   -- 14
    refine ol_q (wn_none rfl) (op_move (v := .int _ _) rfl) rfl ?_
    refine ol_nil_then ?_
    refine cd_block ?_
    refine cd_loop2 (α := Nat) [(12, 22), (100, 162)] (fun x => [(12, .int .u32 ((rnds (layM s) h.1 x).getD 0 0).toNat), (13, .int .u32 ((rnds (layM s) h.1 x).getD 1 0).toNat), (14, .int .u32 ((rnds (layM s) h.1 x).getD 2 0).toNat), (15, .int .u32 ((rnds (layM s) h.1 x).getD 3 0).toNat), (16, .int .u32 ((rnds (layM s) h.1 x).getD 4 0).toNat), (17, .int .u32 ((rnds (layM s) h.1 x).getD 5 0).toNat), (18, .int .u32 ((rnds (layM s) h.1 x).getD 6 0).toNat), (19, .int .u32 ((rnds (layM s) h.1 x).getD 7 0).toNat), (100, .int .i64 (x : Int))]) (fun x => Blk bx4 (.cells (wC (layM s)).toArray 100 (0, 0)) :: Blk bx3 (.cells (wC (List.replicate 8 0)).toArray 91 (0, 0)) :: Blk bx2 (.cells (wC K64).toArray 100 (0, 0)) :: Blk bx1 (.cells (w8C h).toArray 91 (0, 0)) :: l) (fun x => x ≤ 64) (fun x => 64 - x) 0 (Nat.zero_le _) ⟨rfl, rfl, rfl, rfl, rfl, rfl, rfl, rfl, rfl, trivial⟩ (fun _ s => s) ?_
    rintro j hj f; (try dsimp only at hj ⊢)
    refine cd_sr ?_   -- 15
    refine ol_q (wn_none rfl) (op_lt rfl rfl) rfl ?_
    refine ol_nil_then ?_
    refine cd_seq ?_
    refine cd_cond rfl (fun hb4 => ?_) (fun hb4 => ?_)
    · have hp4 := hb4
      (try simp only [decide_eq_true_eq, decide_eq_false_iff_not, Bool.not_eq_true', Bool.not_eq_false', ne_eq, Decidable.not_not] at hp4)
      have hj64 : j < 64 := by omega
      obtain ⟨va, vb, vc, vd, ve, vf, vg, vh, hv⟩ := list_len8 (rnds_len (W := layM s) h.2 j)
      rw [hv]
      refine cd_skip ?_
      refine px_then ?_
      refine cd_seq ?_
      refine cd_block ?_
      refine cd_sr ?_   -- 16
      refine ol_q (wn_none rfl) (op_move (v := .int _ _) rfl) rfl ?_
      refine ol_q (wn_none rfl) (op_assign (v := .int _ _) rfl) rfl ?_
      refine ol_nil_then ?_
      refine cd_seq ?_   -- 17
      refine cd_drawe (M := []) mx [2, 4, 7] ?_
      -- 0
      refine et_quiet 0 (by kernel_rfl) rfl (by kernel_rfl) (wn_none rfl) (op_move (v := .int _ _) rfl) rfl ?_
      -- 1
      refine et_quiet 1 (by kernel_rfl) rfl (by kernel_rfl) (wn_none rfl) (op_move (v := .int _ _) rfl) rfl ?_
      -- 3
      refine et_quiet 3 (by kernel_rfl) rfl (by kernel_rfl) (wn_none rfl) (op_move (v := .int _ _) rfl) rfl ?_
      -- 6
      refine et_quiet 6 (by kernel_rfl) rfl (by kernel_rfl) (wn_none rfl) (op_move (v := .int _ _) rfl) rfl ?_
      -- 10
      refine et_quiet 10 (by kernel_rfl) rfl (by kernel_rfl) (wn_none rfl) (op_move (v := .int _ _) rfl) rfl ?_
      -- 11
      refine et_quiet 11 (by kernel_rfl) rfl (by kernel_rfl) (wn_none rfl) (op_move (v := .int _ _) rfl) rfl ?_
      -- 12
      refine et_quiet 12 (by kernel_rfl) rfl (by kernel_rfl) (wn_none rfl) (op_and32 _ _ rfl rfl) rfl ?_
      -- 13
      refine et_quiet 13 (by kernel_rfl) rfl (by kernel_rfl) (wn_none rfl) (op_move (v := .int _ _) rfl) rfl ?_
      -- 14
      refine et_quiet 14 (by kernel_rfl) rfl (by kernel_rfl) (wn_none rfl) (op_not32 _ rfl) rfl ?_
      -- 15
      refine et_quiet 15 (by kernel_rfl) rfl (by kernel_rfl) (wn_none rfl) (op_move (v := .int _ _) rfl) rfl ?_
      -- 16
      refine et_quiet 16 (by kernel_rfl) rfl (by kernel_rfl) (wn_none rfl) (op_and32 _ _ rfl rfl) rfl ?_
      -- 17
      refine et_quiet 17 (by kernel_rfl) rfl (by kernel_rfl) (wn_none rfl) (op_xor32 _ _ rfl rfl) rfl ?_
      -- 19
      refine et_quiet 19 (by kernel_rfl) rfl (by kernel_rfl) (wn_none rfl) (op_move (v := .int _ _) rfl) rfl ?_
      -- 20
      refine et_quiet 20 (by kernel_rfl) rfl (by kernel_rfl) (wn_none rfl) (op_aidx0 _ a1_100 rfl rfl rfl (by omega)) rfl ?_
      -- 21
      refine et_quiet 21 (by kernel_rfl) rfl (by kernel_rfl) (wn_none rfl) (op_ld 2 sc_90 rfl rfl (wC_gd (by rw [K64_len]; omega))) rfl ?_
      -- 23
      refine et_quiet 23 (by kernel_rfl) rfl (by kernel_rfl) (wn_none rfl) (op_move (v := .int _ _) rfl) rfl ?_
      -- 24
      refine et_quiet 24 (by kernel_rfl) rfl (by kernel_rfl) (wn_none rfl) (op_aidx0 _ a1_100 rfl rfl rfl (by omega)) rfl ?_
      -- 25
      refine et_quiet 25 (by kernel_rfl) rfl (by kernel_rfl) (wn_none rfl) (op_ld 0 sc_90 rfl rfl (wC_gd (by rw [layM_len]; omega))) rfl ?_
      refine et_1 (i := 2) (by kernel_rfl) ?_
      refine ei_i rfl rfl (wn_none rfl) (os_call cb_72 rfl (fun w s => right_calls (k := 6) _  s (by decide) (by decide))) rfl ?_; rintro _ l ⟨rfl, rfl⟩; refine ⟨[], rfl, ?_⟩
      refine et_1 (i := 4) (by kernel_rfl) ?_
      refine ei_i rfl rfl (wn_none rfl) (os_call cb_72 rfl (fun w s => right_calls (k := 11) _  s (by decide) (by decide))) rfl ?_; rintro _ l ⟨rfl, rfl⟩; refine ⟨[], rfl, ?_⟩
      -- 5
      refine et_quiet 5 (by kernel_rfl) rfl (by kernel_rfl) (wn_none rfl) (op_xor32 _ _ rfl rfl) rfl ?_
      refine et_1 (i := 7) (by kernel_rfl) ?_
      refine ei_i rfl rfl (wn_none rfl) (os_call cb_72 rfl (fun w s => right_calls (k := 25) _  s (by decide) (by decide))) rfl ?_; rintro _ l ⟨rfl, rfl⟩; refine ⟨[], rfl, ?_⟩
      -- 8
      refine et_quiet 8 (by kernel_rfl) rfl (by kernel_rfl) (wn_none rfl) (op_xor32 _ _ rfl rfl) rfl ?_
      -- 9
      refine et_quiet 9 (by kernel_rfl) rfl (by kernel_rfl) (wn_none rfl) (op_add32 _ _ rfl rfl) rfl ?_
      -- 18
      refine et_quiet 18 (by kernel_rfl) rfl (by kernel_rfl) (wn_none rfl) (op_add32 _ _ rfl rfl) rfl ?_
      -- 22
      refine et_quiet 22 (by kernel_rfl) rfl (by kernel_rfl) (wn_none rfl) (op_add32 _ _ rfl rfl) rfl ?_
      -- 26
      refine et_quiet 26 (by kernel_rfl) rfl (by kernel_rfl) (wn_none rfl) (op_add32 _ _ rfl rfl) rfl ?_
      -- 27
      refine et_quiet 27 (by kernel_rfl) rfl (by kernel_rfl) (wn_none rfl) (op_assign (v := .int _ _) rfl) rfl ?_
      refine et_nil_then (by kernel_rfl) ?_
      refine cd_sr ?_   -- 18
      refine ol_q (wn_none rfl) (op_move (v := .int _ _) rfl) rfl ?_
      refine ol_i (wn_none rfl) (os_call cb_72 rfl (fun w s => right_calls (k := 2) _  s (by decide) (by decide))) rfl ?_; rintro _ l ⟨rfl, rfl⟩
      refine ol_q (wn_none rfl) (op_move (v := .int _ _) rfl) rfl ?_
      refine ol_i (wn_none rfl) (os_call cb_72 rfl (fun w s => right_calls (k := 13) _  s (by decide) (by decide))) rfl ?_; rintro _ l ⟨rfl, rfl⟩
      refine ol_q (wn_none rfl) (op_xor32 _ _ rfl rfl) rfl ?_
      refine ol_q (wn_none rfl) (op_move (v := .int _ _) rfl) rfl ?_
      refine ol_i (wn_none rfl) (os_call cb_72 rfl (fun w s => right_calls (k := 22) _  s (by decide) (by decide))) rfl ?_; rintro _ l ⟨rfl, rfl⟩
      refine ol_q (wn_none rfl) (op_xor32 _ _ rfl rfl) rfl ?_
      refine ol_q (wn_none rfl) (op_move (v := .int _ _) rfl) rfl ?_
      refine ol_q (wn_none rfl) (op_move (v := .int _ _) rfl) rfl ?_
      refine ol_q (wn_none rfl) (op_and32 _ _ rfl rfl) rfl ?_
      refine ol_q (wn_none rfl) (op_move (v := .int _ _) rfl) rfl ?_
      refine ol_q (wn_none rfl) (op_move (v := .int _ _) rfl) rfl ?_
      refine ol_q (wn_none rfl) (op_and32 _ _ rfl rfl) rfl ?_
      refine ol_q (wn_none rfl) (op_xor32 _ _ rfl rfl) rfl ?_
      refine ol_q (wn_none rfl) (op_move (v := .int _ _) rfl) rfl ?_
      refine ol_q (wn_none rfl) (op_move (v := .int _ _) rfl) rfl ?_
      refine ol_q (wn_none rfl) (op_and32 _ _ rfl rfl) rfl ?_
      refine ol_q (wn_none rfl) (op_xor32 _ _ rfl rfl) rfl ?_
      refine ol_q (wn_none rfl) (op_add32 _ _ rfl rfl) rfl ?_
      refine ol_q (wn_none rfl) (op_assign (v := .int _ _) rfl) rfl ?_
      refine ol_nil_then ?_
      refine cd_region ?_   -- 19
      refine ol_q (wn_none rfl) (op_move (v := .int _ _) rfl) rfl ?_
      refine ol_q (wn_none rfl) (op_move (v := .int _ _) rfl) rfl ?_
      refine ol_q (wn_none rfl) (op_move (v := .int _ _) rfl) rfl ?_
      refine ol_q (wn_none rfl) (op_move (v := .int _ _) rfl) rfl ?_
      refine ol_q (wn_none rfl) (op_move (v := .int _ _) rfl) rfl ?_
      refine ol_q (wn_none rfl) (op_add32 _ _ rfl rfl) rfl ?_
      refine ol_q (wn_none rfl) (op_move (v := .int _ _) rfl) rfl ?_
      refine ol_q (wn_none rfl) (op_move (v := .int _ _) rfl) rfl ?_
      refine ol_q (wn_none rfl) (op_move (v := .int _ _) rfl) rfl ?_
      refine ol_q (wn_none rfl) (op_move (v := .int _ _) rfl) rfl ?_
      refine ol_q (wn_none rfl) (op_move (v := .int _ _) rfl) rfl ?_
      refine ol_q (wn_none rfl) (op_add32 _ _ rfl rfl) rfl ?_
      refine ol_q (wn_none rfl) (op_assign (v := .int _ _) rfl) rfl ?_
      refine ol_q (wn_none rfl) (op_assign (v := .int _ _) rfl) rfl ?_
      refine ol_q (wn_none rfl) (op_assign (v := .int _ _) rfl) rfl ?_
      refine ol_q (wn_none rfl) (op_assign (v := .int _ _) rfl) rfl ?_
      refine ol_q (wn_none rfl) (op_assign (v := .int _ _) rfl) rfl ?_
      refine ol_q (wn_none rfl) (op_assign (v := .int _ _) rfl) rfl ?_
      refine ol_q (wn_none rfl) (op_assign (v := .int _ _) rfl) rfl ?_
      refine ol_q (wn_none rfl) (op_assign (v := .int _ _) rfl) rfl ?_
      refine ol_nil ?_
      refine px_blockN ?_
      refine px_then ?_
      refine cd_region ?_   -- 20
      refine ol_q (wn_none rfl) (op_add rfl rfl (by omega) (by omega)) rfl ?_
      refine ol_q (wn_none rfl) (op_move (v := .int _ _) rfl) rfl ?_
      refine ol_nil ?_
      have e1 : rnds (layM s) h.1 (j + 1) = rnd (K64.getD j 0) ((layM s).getD j 0) [va, vb, vc, vd, ve, vf, vg, vh] := by rw [rnds, hv]
      have g0 : vh + (rotr ve 6 ^^^ rotr ve 11 ^^^ rotr ve 25) + (ve &&& vf ^^^ ~~~ve &&& vg) + K64.getD j 0 + (layM s).getD j 0 + ((rotr va 2 ^^^ rotr va 13 ^^^ rotr va 22) + (va &&& vb ^^^ va &&& vc ^^^ vb &&& vc)) = (rnds (layM s) h.1 (j + 1)).getD 0 0 := by rw [e1]; rfl
      have g1 : va = (rnds (layM s) h.1 (j + 1)).getD 1 0 := by rw [e1]; rfl
      have g2 : vb = (rnds (layM s) h.1 (j + 1)).getD 2 0 := by rw [e1]; rfl
      have g3 : vc = (rnds (layM s) h.1 (j + 1)).getD 3 0 := by rw [e1]; rfl
      have g4 : vd + (vh + (rotr ve 6 ^^^ rotr ve 11 ^^^ rotr ve 25) + (ve &&& vf ^^^ ~~~ve &&& vg) + K64.getD j 0 + (layM s).getD j 0) = (rnds (layM s) h.1 (j + 1)).getD 4 0 := by rw [e1]; rfl
      have g5 : ve = (rnds (layM s) h.1 (j + 1)).getD 5 0 := by rw [e1]; rfl
      have g6 : vf = (rnds (layM s) h.1 (j + 1)).getD 6 0 := by rw [e1]; rfl
      have g7 : vg = (rnds (layM s) h.1 (j + 1)).getD 7 0 := by rw [e1]; rfl
      refine px_loop2 (j + 1) (by omega) (by (try dsimp only); omega) ⟨congrArg (fun q : UInt32 => Value.int .u32 (q.toNat : Int)) g0, congrArg (fun q : UInt32 => Value.int .u32 (q.toNat : Int)) g1, congrArg (fun q : UInt32 => Value.int .u32 (q.toNat : Int)) g2, congrArg (fun q : UInt32 => Value.int .u32 (q.toNat : Int)) g3, congrArg (fun q : UInt32 => Value.int .u32 (q.toNat : Int)) g4, congrArg (fun q : UInt32 => Value.int .u32 (q.toNat : Int)) g5, congrArg (fun q : UInt32 => Value.int .u32 (q.toNat : Int)) g6, congrArg (fun q : UInt32 => Value.int .u32 (q.toNat : Int)) g7, congrArg (Value.int .i64) (by simp), trivial⟩ ?_ (fun _ s => s)
      repeat (first | exact kept_over | refine kept_upd rfl ?_ | refine kept_overS (by decide) ?_)
    · have hp4 := hb4
      (try simp only [decide_eq_true_eq, decide_eq_false_iff_not, Bool.not_eq_true', Bool.not_eq_false', ne_eq, Decidable.not_not] at hp4)
      obtain rfl : j = 64 := by omega
      generalize hV : rnds (layM s) h.1 64 = V
      refine cd_exit ?_
      refine px_thenE ?_
      refine px_thenE ?_
      refine px_blockE ?_
      refine px_then ?_
      refine cd_sr ?_   -- 21
      refine ol_q (wn_none rfl) (op_aidx0 0 a1_91 rfl rfl rfl (by omega)) rfl ?_
      refine ol_q (wn_none rfl) (op_ld 3 sc_90 rfl rfl (wC_gd (ws := h.1) (by rw [h.2]; decide))) rfl ?_
      refine ol_q (wn_none rfl) (op_move (v := .int _ _) rfl) rfl ?_
      refine ol_q (wn_none rfl) (op_add32 _ _ rfl rfl) rfl ?_
      refine ol_q (wn_none rfl) (op_aidx0 1 a1_91 rfl rfl rfl (by omega)) rfl ?_
      refine ol_q (wn_none rfl) (op_ld 3 sc_90 rfl rfl (wC_gd (ws := h.1) (by rw [h.2]; decide))) rfl ?_
      refine ol_q (wn_none rfl) (op_move (v := .int _ _) rfl) rfl ?_
      refine ol_q (wn_none rfl) (op_add32 _ _ rfl rfl) rfl ?_
      refine ol_q (wn_none rfl) (op_aidx0 2 a1_91 rfl rfl rfl (by omega)) rfl ?_
      refine ol_q (wn_none rfl) (op_ld 3 sc_90 rfl rfl (wC_gd (ws := h.1) (by rw [h.2]; decide))) rfl ?_
      refine ol_q (wn_none rfl) (op_move (v := .int _ _) rfl) rfl ?_
      refine ol_q (wn_none rfl) (op_add32 _ _ rfl rfl) rfl ?_
      refine ol_q (wn_none rfl) (op_aidx0 3 a1_91 rfl rfl rfl (by omega)) rfl ?_
      refine ol_q (wn_none rfl) (op_ld 3 sc_90 rfl rfl (wC_gd (ws := h.1) (by rw [h.2]; decide))) rfl ?_
      refine ol_q (wn_none rfl) (op_move (v := .int _ _) rfl) rfl ?_
      refine ol_q (wn_none rfl) (op_add32 _ _ rfl rfl) rfl ?_
      refine ol_q (wn_none rfl) (op_aidx0 4 a1_91 rfl rfl rfl (by omega)) rfl ?_
      refine ol_q (wn_none rfl) (op_ld 3 sc_90 rfl rfl (wC_gd (ws := h.1) (by rw [h.2]; decide))) rfl ?_
      refine ol_q (wn_none rfl) (op_move (v := .int _ _) rfl) rfl ?_
      refine ol_q (wn_none rfl) (op_add32 _ _ rfl rfl) rfl ?_
      refine ol_q (wn_none rfl) (op_aidx0 5 a1_91 rfl rfl rfl (by omega)) rfl ?_
      refine ol_q (wn_none rfl) (op_ld 3 sc_90 rfl rfl (wC_gd (ws := h.1) (by rw [h.2]; decide))) rfl ?_
      refine ol_q (wn_none rfl) (op_move (v := .int _ _) rfl) rfl ?_
      refine ol_q (wn_none rfl) (op_add32 _ _ rfl rfl) rfl ?_
      refine ol_q (wn_none rfl) (op_aidx0 6 a1_91 rfl rfl rfl (by omega)) rfl ?_
      refine ol_q (wn_none rfl) (op_ld 3 sc_90 rfl rfl (wC_gd (ws := h.1) (by rw [h.2]; decide))) rfl ?_
      refine ol_q (wn_none rfl) (op_move (v := .int _ _) rfl) rfl ?_
      refine ol_q (wn_none rfl) (op_add32 _ _ rfl rfl) rfl ?_
      refine ol_q (wn_none rfl) (op_aidx0 7 a1_91 rfl rfl rfl (by omega)) rfl ?_
      refine ol_q (wn_none rfl) (op_ld 3 sc_90 rfl rfl (wC_gd (ws := h.1) (by rw [h.2]; decide))) rfl ?_
      refine ol_q (wn_none rfl) (op_move (v := .int _ _) rfl) rfl ?_
      refine ol_q (wn_none rfl) (op_add32 _ _ rfl rfl) rfl ?_
      refine ol_q (wn_none rfl) (op_builda (L := wC [h.1.getD 0 0 + V.getD 0 0, h.1.getD 1 0 + V.getD 1 0, h.1.getD 2 0 + V.getD 2 0, h.1.getD 3 0 + V.getD 3 0, h.1.getD 4 0 + V.getD 4 0, h.1.getD 5 0 + V.getD 5 0, h.1.getD 6 0 + V.getD 6 0, h.1.getD 7 0 + V.getD 7 0]) (vs := [(0, .int _ _), (1, .int _ _), (2, .int _ _), (3, .int _ _), (4, .int _ _), (5, .int _ _), (6, .int _ _), (7, .int _ _)]) ba_91 rfl (fill8_ok _ _ _ _ _ _ _ _)) rfl ?_
      refine ol_pull1 ?_
      refine ol_iN (wn_none rfl) (os_storew (wC _) ag_91 rfl rfl (by rw [wC_len]; rfl) (wC_one _) (by simp [wC_len, w8C_len]) (Free.zero _)) ?_; rintro _ _ ⟨rfl, rfl⟩
      refine ol_nil_then ?_
      refine cd_ret ?_
      exact px_rv1 rfl (rv_cella 0 ag_91 rfl rfl (List.take_of_length_le (by simp [wC_len])) (by simp [wC_len])) (fun _ s => ((((s.del 3).del 2).del 1).del 0)) ⟨congrArg (fun q : List Value => Value.agg q.toArray) (blk8_eq h s hV), rfl⟩
end Go.SL

import Derived.Test.YtgdlddjalilmhaaMSha
import Derived.Test.YtgdlddjalilmhaaFacts
set_option linter.unusedVariables false
set_option linter.unusedSimpArgs false
namespace Go.SL
open Go.Proofs

set_option maxRecDepth 100000 in
set_option maxHeartbeats 1000000 in
theorem Rot_calls {w0 w : World} {l : List HProp} (X : UInt32) (j k : Int) (hs : Sat w0 w (l)) (hj : j = -k) (h0 : 0 < k) (h1 : k < 32) :
    Calls Try.prog 78 #[.int .u32 (X.toNat : Int), .int .i64 j] w (Ret w0 fun v l' => v = .int .u32 ((rotr X k.toNat).toNat : Int) ∧ l' = l) := by
  have hu : u64N j = 18446744073709551616 - k.toNat := by unfold u64N; omega
  refine calls_enter Try.func78 rfl rfl rfl hs ?_
  refine cd_sr ?_   -- 0
  refine ol_q (wn_none rfl) (op_assign (v := .int _ _) rfl) rfl ?_
  refine ol_nil_then ?_
  refine cd_sr ?_   -- 1
  refine ol_q (wn_none rfl) (op_move (v := .int _ _) rfl) rfl ?_
  refine ol_q (wn_none rfl) (op_conv64i Try.underlying84 (by rw [Try.underlying3]; rfl) rfl) rfl ?_
  refine ol_q (wn_none rfl) (op_and31 (m := 32 - k.toNat) rfl (by omega) rfl (by omega)) rfl ?_
  refine ol_q (wn_none rfl) (op_assign (v := .int _ _) rfl) rfl ?_
  refine ol_nil_then ?_
  refine cd_sr ?_   -- 2
  refine ol_q (wn_none rfl) (op_move (v := .int _ _) rfl) rfl ?_
  refine ol_q (wn_none rfl) (op_move (v := .int _ _) rfl) rfl ?_
  refine ol_q (wn_none rfl) (op_shl32 (m := 32 - k.toNat) _ rfl rfl (by omega)) rfl ?_
  refine ol_q (wn_none rfl) (op_move (v := .int _ _) rfl) rfl ?_
  refine ol_q (wn_none rfl) (op_move (v := .int _ _) rfl) rfl ?_
  refine ol_q (wn_none rfl) (op_sub32m (k := k.toNat) rfl rfl (by omega)) rfl ?_
  refine ol_q (wn_none rfl) (op_shr32 (m := k.toNat) _ rfl rfl (by omega)) rfl ?_
  refine ol_q (wn_none rfl) (op_or32 _ _ rfl rfl) rfl ?_
  refine ol_q (wn_none rfl) (op_assign (v := .int _ _) rfl) rfl ?_
  refine ol_nil_then ?_
  refine cd_ret ?_
  exact px_ret1 rfl (v := .int _ _) rfl (fun _ s => s) ⟨rfl, rfl⟩

set_option maxRecDepth 100000 in
set_option maxHeartbeats 1000000 in
theorem turn_calls {w0 w : World} {l : List HProp} (X : UInt32) (k : Int) (hs : Sat w0 w (l)) (h0 : 0 < k) (h1 : k < 32) :
    Calls Try.prog 75 #[.int .u32 (X.toNat : Int), .int .i64 k] w (Ret w0 fun v l' => v = .int .u32 ((rotr X k.toNat).toNat : Int) ∧ l' = l) := by
  refine calls_enter Try.func75 rfl rfl rfl hs ?_
  refine cd_sr ?_   -- 0
  refine ol_q (wn_none rfl) (op_assign (v := .int _ _) rfl) rfl ?_
  refine ol_nil_then ?_
  refine cd_sr ?_   -- 1
  refine ol_q (wn_none rfl) (op_move (v := .int _ _) rfl) rfl ?_
  refine ol_q (wn_none rfl) (op_move (v := .int _ _) rfl) rfl ?_
  refine ol_q (wn_none rfl) (op_neg rfl) rfl ?_
  refine ol_i (wn_none rfl) (os_call cb_78 rfl (fun w s => Rot_calls _ _ _  s (show _ = -k by rw [wrap_i64 (by omega) (by omega)]; omega) h0 h1)) rfl ?_; rintro _ l ⟨rfl, rfl⟩
  refine ol_q (wn_none rfl) (op_assign (v := .int _ _) rfl) rfl ?_
  refine ol_nil_then ?_
  refine cd_ret ?_
  exact px_ret1 rfl (v := .int _ _) rfl (fun _ s => s) ⟨rfl, rfl⟩

set_option maxRecDepth 100000 in
set_option maxHeartbeats 1000000 in
theorem first_calls {w0 w : World} {l : List HProp}  (hs : Sat w0 w (l))  :
    Calls Try.prog 64 #[] w (Ret w0 fun v l' => v = .agg (w8C H8).toArray ∧ l' = l) := by
  refine calls_enter Try.func64 rfl rfl rfl hs ?_
  refine cd_sr ?_   -- 0
  refine ol_i (wn_none rfl) (os_alloc (cs := (wC (List.replicate 8 0)).toArray) zB_91 (by kernel_rfl)) rfl ?_; rintro _ _ ⟨bx1, rfl, rfl⟩
  refine ol_nil_then ?_
  refine cd_sr ?_   -- 1
  refine ol_q (wn_none rfl) (op_builda (L := wC H0) (vs := [(0, .int .u32 1779033703), (1, .int .u32 3144134277), (2, .int .u32 1013904242), (3, .int .u32 2773480762), (4, .int .u32 1359893119), (5, .int .u32 2600822924), (6, .int .u32 528734635), (7, .int .u32 1541459225)]) ba_91 rfl (by kernel_rfl)) rfl ?_
  refine ol_iN (wn_none rfl) (os_storew (wC _) ag_91 rfl rfl (by rw [wC_len]; rfl) (wC_one _) (by simp [wC_len, w8C_len]) (Free.zero _)) ?_; rintro _ _ ⟨rfl, rfl⟩
  refine ol_nil_then ?_
  refine cd_ret ?_
  exact px_rv1 rfl (rv_cella 0 ag_91 rfl rfl (List.take_of_length_le (by first | (simp [wC_len, H0]; done) | (simp [wC_len]; omega))) (by first | (simp [wC_len, H0]; done) | (simp [wC_len]; omega))) (fun _ s => (s.del 0)) ⟨rfl, rfl⟩

set_option maxRecDepth 100000 in
theorem keys_calls {w0 w : World} {l : List HProp}  (hs : Sat w0 w (l))  :
    Calls Try.prog 74 #[] w (Ret w0 fun v l' => v = .agg (wC K64).toArray ∧ l' = l) := by
  refine calls_enter Try.func74 rfl rfl rfl hs ?_
  refine cd_sr ?_   -- 0
  refine ol_i (wn_none rfl) (os_alloc (cs := (wC (List.replicate 64 0)).toArray) zB_100 (by kernel_rfl)) rfl ?_; rintro _ _ ⟨bx1, rfl, rfl⟩
  refine ol_nil_then ?_
  refine cd_sr ?_   -- 1
  refine ol_q (wn_none rfl) (op_builda (L := wC K64) (vs := [(0, .int .u32 1116352408), (1, .int .u32 1899447441), (2, .int .u32 3049323471), (3, .int .u32 3921009573), (4, .int .u32 961987163), (5, .int .u32 1508970993), (6, .int .u32 2453635748), (7, .int .u32 2870763221), (8, .int .u32 3624381080), (9, .int .u32 310598401), (10, .int .u32 607225278), (11, .int .u32 1426881987), (12, .int .u32 1925078388), (13, .int .u32 2162078206), (14, .int .u32 2614888103), (15, .int .u32 3248222580), (16, .int .u32 3835390401), (17, .int .u32 4022224774), (18, .int .u32 264347078), (19, .int .u32 604807628), (20, .int .u32 770255983), (21, .int .u32 1249150122), (22, .int .u32 1555081692), (23, .int .u32 1996064986), (24, .int .u32 2554220882), (25, .int .u32 2821834349), (26, .int .u32 2952996808), (27, .int .u32 3210313671), (28, .int .u32 3336571891), (29, .int .u32 3584528711), (30, .int .u32 113926993), (31, .int .u32 338241895), (32, .int .u32 666307205), (33, .int .u32 773529912), (34, .int .u32 1294757372), (35, .int .u32 1396182291), (36, .int .u32 1695183700), (37, .int .u32 1986661051), (38, .int .u32 2177026350), (39, .int .u32 2456956037), (40, .int .u32 2730485921), (41, .int .u32 2820302411), (42, .int .u32 3259730800), (43, .int .u32 3345764771), (44, .int .u32 3516065817), (45, .int .u32 3600352804), (46, .int .u32 4094571909), (47, .int .u32 275423344), (48, .int .u32 430227734), (49, .int .u32 506948616), (50, .int .u32 659060556), (51, .int .u32 883997877), (52, .int .u32 958139571), (53, .int .u32 1322822218), (54, .int .u32 1537002063), (55, .int .u32 1747873779), (56, .int .u32 1955562222), (57, .int .u32 2024104815), (58, .int .u32 2227730452), (59, .int .u32 2361852424), (60, .int .u32 2428436474), (61, .int .u32 2756734187), (62, .int .u32 3204031479), (63, .int .u32 3329325298)]) ba_100 rfl (by kernel_rfl)) rfl ?_
  refine ol_iN (wn_none rfl) (os_storew (wC _) ag_100 rfl rfl (by rw [wC_len]; rfl) (wC_one _) (by simp [wC_len, w8C_len]) (Free.zero _)) ?_; rintro _ _ ⟨rfl, rfl⟩
  refine ol_nil_then ?_
  refine cd_ret ?_
  exact px_rv1 rfl (rv_cella 0 ag_100 rfl rfl (List.take_of_length_le (by first | (simp [wC_len, K64_len]; done) | (simp [wC_len]; omega))) (by first | (simp [wC_len, K64_len]; done) | (simp [wC_len]; omega))) (fun _ s => (s.del 0)) ⟨rfl, rfl⟩

set_option maxRecDepth 100000 in
set_option maxHeartbeats 1000000 in
theorem lay_calls {w0 w : World} {l : List HProp} (bo : Option Addr) (bc : Nat) (bs : List UInt8) (hs : Sat w0 w (l)) (hr : Rds w0 l encU8 bo bs) (hb : bs.length = 64) :
    Calls Try.prog 73 #[.slice bo bs.length bc] w (Ret w0 fun v l' => v = .agg (wC (layM bs)).toArray ∧ l' = l) := by
  refine calls_enter Try.func73 rfl rfl rfl hs ?_
  refine cd_sr ?_   -- 0
  refine ol_i (wn_none rfl) (os_alloc (cs := (wC (List.replicate 64 0)).toArray) zB_100 (by kernel_rfl)) rfl ?_; rintro _ _ ⟨bx1, rfl, rfl⟩
  refine ol_nil_then ?_
  refine cd_sr ?_   -- 1
  refine ol_i (wn_none rfl) (os_alloc (cs := (wC (List.replicate 64 0)).toArray) zB_100 (by kernel_rfl)) rfl ?_; rintro _ _ ⟨bx2, rfl, rfl⟩
  refine ol_nil_then ?_
  refine cd_seq ?_
  refine cd_sr ?_   -- 2
  refine ol_q (wn_none rfl) (op_move (v := .int _ _) rfl) rfl ?_
  refine ol_nil_then ?_
  refine cd_block ?_
  refine cd_loop2 (α := Nat) [(4, 4), (8, 46)] (fun x => [(8, .int .i64 (x : Int))]) (fun x => Blk bx2 (.cells (wC (fillA (w16 bs x))).toArray 100 (0, 0)) :: Blk bx1 (.cells (wC (List.replicate 64 0)).toArray 100 (0, 0)) :: l) (fun x => x ≤ 16) (fun x => 16 - x) 0 (Nat.zero_le _) ⟨rfl, trivial⟩ (fun _ s => s) ?_
  rintro i hi f; (try dsimp only at hi ⊢)
  refine cd_sr ?_   -- 3
  refine ol_q (wn_none rfl) (op_lt rfl rfl) rfl ?_
  refine ol_nil_then ?_
  refine cd_seq ?_
  refine cd_cond rfl (fun hb1 => ?_) (fun hb1 => ?_)
  · have hp1 := hb1
    (try simp only [decide_eq_true_eq, decide_eq_false_iff_not, Bool.not_eq_true', Bool.not_eq_false', ne_eq, Decidable.not_not] at hp1)
    refine cd_skip ?_
    refine px_then ?_
    refine cd_seq ?_
    refine cd_block ?_
    refine cd_sr ?_   -- 4
    refine ol_q (wn_none rfl) (op_move (v := .int _ _) rfl) rfl ?_
    refine ol_q (wn_none rfl) (op_assign (v := .int _ _) rfl) rfl ?_
    refine ol_nil_then ?_
    -- 5
    refine cd_drawt (M := []) mx [] 35 (by kernel_rfl) rfl rfl ?_
    dsimp only [List.take_succ_cons, List.take_zero, List.drop_succ_cons, List.drop_zero]
    refine rg_q (wn_none rfl) (op_move (v := .int _ _) rfl) rfl rfl ?_
    refine rg_q (wn_none rfl) (op_move (v := .slice _ _ _) rfl) rfl rfl ?_
    refine rg_q (wn_none rfl) (op_move (v := .int _ _) rfl) rfl rfl ?_
    refine rg_q (wn_none rfl) (op_mul rfl rfl (by omega) (by omega)) rfl rfl ?_
    refine rg_q (wn_none rfl) (op_index (4 * i) sB_55 rfl rfl (by omega) ((hr.cons _).cons _) rfl (by omega)) rfl rfl ?_
    refine rg_q (wn_none rfl) (op_ldw sc_5 ((hr.cons _).cons _) rfl (by omega) rfl) rfl rfl ?_
    refine rg_q (wn_none rfl) (op_conv32 Try.underlying90 (by rw [Try.underlying5]; rfl) rfl) rfl rfl ?_
    refine rg_q (wn_none rfl) (op_shl32 (m := 24) _ rfl rfl (by decide)) rfl rfl ?_
    refine rg_q (wn_none rfl) (op_move (v := .slice _ _ _) rfl) rfl rfl ?_
    refine rg_q (wn_none rfl) (op_move (v := .int _ _) rfl) rfl rfl ?_
    refine rg_q (wn_none rfl) (op_mul rfl rfl (by omega) (by omega)) rfl rfl ?_
    refine rg_q (wn_none rfl) (op_add rfl rfl (by omega) (by omega)) rfl rfl ?_
    refine rg_q (wn_none rfl) (op_index (4 * i + 1) sB_55 rfl rfl (by omega) ((hr.cons _).cons _) rfl (by omega)) rfl rfl ?_
    refine rg_q (wn_none rfl) (op_ldw sc_5 ((hr.cons _).cons _) rfl (by omega) rfl) rfl rfl ?_
    refine rg_q (wn_none rfl) (op_conv32 Try.underlying90 (by rw [Try.underlying5]; rfl) rfl) rfl rfl ?_
    refine rg_q (wn_none rfl) (op_shl32 (m := 16) _ rfl rfl (by decide)) rfl rfl ?_
    refine rg_q (wn_none rfl) (op_or32 _ _ rfl rfl) rfl rfl ?_
    refine rg_q (wn_none rfl) (op_move (v := .slice _ _ _) rfl) rfl rfl ?_
    refine rg_q (wn_none rfl) (op_move (v := .int _ _) rfl) rfl rfl ?_
    refine rg_q (wn_none rfl) (op_mul rfl rfl (by omega) (by omega)) rfl rfl ?_
    refine rg_q (wn_none rfl) (op_add rfl rfl (by omega) (by omega)) rfl rfl ?_
    refine rg_q (wn_none rfl) (op_index (4 * i + 2) sB_55 rfl rfl (by omega) ((hr.cons _).cons _) rfl (by omega)) rfl rfl ?_
    refine rg_q (wn_none rfl) (op_ldw sc_5 ((hr.cons _).cons _) rfl (by omega) rfl) rfl rfl ?_
    refine rg_q (wn_none rfl) (op_conv32 Try.underlying90 (by rw [Try.underlying5]; rfl) rfl) rfl rfl ?_
    refine rg_q (wn_none rfl) (op_shl32 (m := 8) _ rfl rfl (by decide)) rfl rfl ?_
    refine rg_q (wn_none rfl) (op_or32 _ _ rfl rfl) rfl rfl ?_
    refine rg_q (wn_none rfl) (op_move (v := .slice _ _ _) rfl) rfl rfl ?_
    refine rg_q (wn_none rfl) (op_move (v := .int _ _) rfl) rfl rfl ?_
    refine rg_q (wn_none rfl) (op_mul rfl rfl (by omega) (by omega)) rfl rfl ?_
    refine rg_q (wn_none rfl) (op_add rfl rfl (by omega) (by omega)) rfl rfl ?_
    refine rg_q (wn_none rfl) (op_index (4 * i + 3) sB_55 rfl rfl (by omega) ((hr.cons _).cons _) rfl (by omega)) rfl rfl ?_
    refine rg_q (wn_none rfl) (op_ldw sc_5 ((hr.cons _).cons _) rfl (by omega) rfl) rfl rfl ?_
    refine rg_q (wn_none rfl) (op_conv32 Try.underlying90 (by rw [Try.underlying5]; rfl) rfl) rfl rfl ?_
    refine rg_q (wn_none rfl) (op_or32 _ _ rfl rfl) rfl rfl ?_
    refine rg_q (wn_none rfl) (op_aidx0 _ a1_100 rfl rfl rfl (by omega)) rfl rfl ?_
    refine rg_tail0 ?_
    refine ol_iN (wn_none rfl) (os_store (v := .int _ _) sc_90 rfl rfl rfl (Nat.ble_eq_true_of_le (show i + 1 ≤ _ by rw [List.size_toArray, wC_len, fillA_len (by rw [w16_len]; omega)]; omega)) (Free.zero _) (fillA_st (by rw [w16_len]) (by rw [w16_len]; omega) _)) ?_; rintro _ _ ⟨rfl, rfl⟩
    refine ol_nil ?_
    refine px_blockN ?_
    refine px_then ?_
    refine cd_region ?_   -- 6
    refine ol_q (wn_none rfl) (op_add rfl rfl (by omega) (by omega)) rfl ?_
    refine ol_q (wn_none rfl) (op_move (v := .int _ _) rfl) rfl ?_
    refine ol_nil ?_
    have e1 : w16 bs (i + 1) = w16 bs i ++ [shl32 (UInt32.ofNat (bs[4 * i]'(by omega)).toNat) 24 ||| shl32 (UInt32.ofNat (bs[4 * i + 1]'(by omega)).toNat) 16 ||| shl32 (UInt32.ofNat (bs[4 * i + 2]'(by omega)).toNat) 8 ||| UInt32.ofNat (bs[4 * i + 3]'(by omega)).toNat] := by
      rw [w16_succ]
      unfold word byteW
      simp only [List.getD_eq_getElem?_getD, List.getElem?_eq_getElem (show 4 * i < bs.length by omega), List.getElem?_eq_getElem (show 4 * i + 1 < bs.length by omega), List.getElem?_eq_getElem (show 4 * i + 2 < bs.length by omega), List.getElem?_eq_getElem (show 4 * i + 3 < bs.length by omega), Option.getD_some]
    refine px_loop2 (i + 1) (by omega) (by (try dsimp only); omega) ⟨congrArg (Value.int .i64) (by simp), trivial⟩ ?_ (fun _ s => (by (try dsimp only); rw [e1]; exact s))
    repeat (first | exact kept_over | refine kept_upd rfl ?_ | refine kept_overS (by decide) ?_)
  · have hp1 := hb1
    (try simp only [decide_eq_true_eq, decide_eq_false_iff_not, Bool.not_eq_true', Bool.not_eq_false', ne_eq, Decidable.not_not] at hp1)
    refine cd_exit ?_
    refine px_thenE ?_
    refine px_thenE ?_
    refine px_blockE ?_
    refine px_then ?_
    refine cd_seq ?_
    refine cd_sr ?_   -- 7
    refine ol_q (wn_none rfl) (op_assign (v := .int _ _) rfl) rfl ?_
    refine ol_nil_then ?_
    refine cd_block ?_
    obtain rfl : i = 16 := by omega
    refine cd_loop2 (α := Nat) [(5, 7), (47, 87)] (fun x => [(5, .int .i64 ((x + 16 : Nat) : Int))]) (fun x => Blk bx2 (.cells (wC (fillA (sch x (w16 bs 16)))).toArray 100 (0, 0)) :: Blk bx1 (.cells (wC (List.replicate 64 0)).toArray 100 (0, 0)) :: l) (fun x => x ≤ 48) (fun x => 48 - x) 0 (Nat.zero_le _) ⟨rfl, trivial⟩ (fun _ s => s) ?_
    rintro k hk f; (try dsimp only at hk ⊢); have hml : (sch k (w16 bs 16)).length = k + 16 := by rw [sch_len, w16_len]
    have hfl : (fillA (sch k (w16 bs 16))).length = 64 := fillA_len (by omega)
    refine cd_seq ?_
    refine cd_sr ?_   -- 8
    refine ol_q (wn_none rfl) (op_move (v := .int _ _) rfl) rfl ?_
    refine ol_q (wn_none rfl) (op_lt rfl rfl) rfl ?_
    refine ol_nil_then ?_
    refine cd_cond rfl (fun hb2 => ?_) (fun hb2 => ?_)
    · have hp2 := hb2
      (try simp only [decide_eq_true_eq, decide_eq_false_iff_not, Bool.not_eq_true', Bool.not_eq_false', ne_eq, Decidable.not_not] at hp2)
      have hk48 : k < 48 := by omega
      refine cd_skip ?_
      refine px_then ?_
      refine cd_seq ?_
      refine cd_block ?_
      refine cd_seq ?_   -- 10
      refine cd_draw (M := []) mx [] (by kernel_rfl) ?_
      refine rg_q (wn_none rfl) (op_move (v := .int _ _) rfl) rfl rfl ?_
      refine rg_q (wn_none rfl) (op_sub rfl rfl (by omega) (by omega)) rfl rfl ?_
      refine rg_q (wn_none rfl) (op_aidx0 (k + 1) a1_100 rfl rfl (by omega) (by omega)) rfl rfl ?_
      refine rg_q (wn_none rfl) (op_ld 0 sc_90 rfl rfl (fillA_at (by rw [hml]; omega))) rfl rfl ?_
      refine rg_q (wn_none rfl) (op_move (v := .int _ _) rfl) rfl rfl ?_
      refine rg_q (wn_none rfl) (op_sub rfl rfl (by omega) (by omega)) rfl rfl ?_
      refine rg_q (wn_none rfl) (op_aidx0 (k + 14) a1_100 rfl rfl (by omega) (by omega)) rfl rfl ?_
      refine rg_q (wn_none rfl) (op_ld 0 sc_90 rfl rfl (fillA_at (by rw [hml]; omega))) rfl rfl ?_
      refine rg_q (wn_none rfl) (op_assign (v := .int _ _) rfl) rfl rfl ?_
      refine rg_q (wn_none rfl) (op_assign (v := .int _ _) rfl) rfl rfl ?_
      refine rg_nil_then0 ?_
      -- 11
      refine cd_drawe (M := [_]) mx [4, 6, 8, 17, 20, 22, 29] ?_
      -- 0
      refine et_quiet 0 (by kernel_rfl) rfl (by kernel_rfl) (wn_none rfl) (op_move (v := .int _ _) rfl) rfl ?_
      -- 1
      refine et_quiet 1 (by kernel_rfl) rfl (by kernel_rfl) (wn_none rfl) (op_move (v := .int _ _) rfl) rfl ?_
      -- 2
      refine et_quiet 2 (by kernel_rfl) rfl (by kernel_rfl) (wn_none rfl) (op_sub rfl rfl (by omega) (by omega)) rfl ?_
      -- 3
      refine et_quiet 3 (by kernel_rfl) rfl (by kernel_rfl) (wn_none rfl) (op_aidx0 k a1_100 rfl rfl (by omega) (by omega)) rfl ?_
      -- 5
      refine et_quiet 5 (by kernel_rfl) rfl (by kernel_rfl) (wn_none rfl) (op_move (v := .int _ _) rfl) rfl ?_
      -- 7
      refine et_quiet 7 (by kernel_rfl) rfl (by kernel_rfl) (wn_none rfl) (op_move (v := .int _ _) rfl) rfl ?_
      -- 10
      refine et_quiet 10 (by kernel_rfl) rfl (by kernel_rfl) (wn_none rfl) (op_move (v := .int _ _) rfl) rfl ?_
      -- 11
      refine et_quiet 11 (by kernel_rfl) rfl (by kernel_rfl) (wn_none rfl) (op_shr32 (m := 3) _ rfl rfl (by decide)) rfl ?_
      -- 14
      refine et_quiet 14 (by kernel_rfl) rfl (by kernel_rfl) (wn_none rfl) (op_move (v := .int _ _) rfl) rfl ?_
      -- 15
      refine et_quiet 15 (by kernel_rfl) rfl (by kernel_rfl) (wn_none rfl) (op_sub rfl rfl (by omega) (by omega)) rfl ?_
      -- 16
      refine et_quiet 16 (by kernel_rfl) rfl (by kernel_rfl) (wn_none rfl) (op_aidx0 (k + 9) a1_100 rfl rfl (by omega) (by omega)) rfl ?_
      -- 19
      refine et_quiet 19 (by kernel_rfl) rfl (by kernel_rfl) (wn_none rfl) (op_move (v := .int _ _) rfl) rfl ?_
      -- 21
      refine et_quiet 21 (by kernel_rfl) rfl (by kernel_rfl) (wn_none rfl) (op_move (v := .int _ _) rfl) rfl ?_
      -- 24
      refine et_quiet 24 (by kernel_rfl) rfl (by kernel_rfl) (wn_none rfl) (op_move (v := .int _ _) rfl) rfl ?_
      -- 25
      refine et_quiet 25 (by kernel_rfl) rfl (by kernel_rfl) (wn_none rfl) (op_shr32 (m := 10) _ rfl rfl (by decide)) rfl ?_
      refine et_3 (i1 := 4) (i2 := 6) (i3 := 17) (by kernel_rfl) ?_ ?_ ?_
      · -- 4
        refine ei_i rfl rfl (wn_none rfl) (os_q (op_ld 0 sc_90 rfl rfl (fillA_at (by rw [hml]; omega)))) rfl ?_; rintro _ _ ⟨rfl, rfl⟩; refine ⟨[_], rfl, ?_⟩
        refine et_2 (i1 := 6) (i2 := 17) (by kernel_rfl) ?_ ?_
        · -- 6
          refine ei_i rfl rfl (wn_none rfl) (os_call cb_75 rfl (fun w s => turn_calls (k := 7) _  s (by decide) (by decide))) rfl ?_; rintro _ l ⟨rfl, rfl⟩; refine ⟨[_], rfl, ?_⟩
          refine et_2 (i1 := 8) (i2 := 17) (by kernel_rfl) ?_ ?_
          · -- 8
            refine ei_i rfl rfl (wn_none rfl) (os_call cb_75 rfl (fun w s => turn_calls (k := 18) _  s (by decide) (by decide))) rfl ?_; rintro _ l ⟨rfl, rfl⟩; refine ⟨[_], rfl, ?_⟩
            -- 9
            refine et_quiet 9 (by kernel_rfl) rfl (by kernel_rfl) (wn_none rfl) (op_xor32 _ _ rfl rfl) rfl ?_
            -- 12
            refine et_quiet 12 (by kernel_rfl) rfl (by kernel_rfl) (wn_none rfl) (op_xor32 _ _ rfl rfl) rfl ?_
            -- 13
            refine et_quiet 13 (by kernel_rfl) rfl (by kernel_rfl) (wn_none rfl) (op_add32 _ _ rfl rfl) rfl ?_
            refine et_2 (i1 := 17) (i2 := 20) (by kernel_rfl) ?_ ?_
            · -- 17
              refine ei_i rfl rfl (wn_none rfl) (os_q (op_ld 0 sc_90 rfl rfl (fillA_at (by rw [hml]; omega)))) rfl ?_; rintro _ _ ⟨rfl, rfl⟩; refine ⟨[_], rfl, ?_⟩
              -- 18
              refine et_quiet 18 (by kernel_rfl) rfl (by kernel_rfl) (wn_none rfl) (op_add32 _ _ rfl rfl) rfl ?_
              refine et_1 (i := 20) (by kernel_rfl) ?_
              refine ei_i rfl rfl (wn_none rfl) (os_call cb_75 rfl (fun w s => turn_calls (k := 17) _  s (by decide) (by decide))) rfl ?_; rintro _ l ⟨rfl, rfl⟩; refine ⟨[_], rfl, ?_⟩
              refine et_1 (i := 22) (by kernel_rfl) ?_
              refine ei_i rfl rfl (wn_none rfl) (os_call cb_75 rfl (fun w s => turn_calls (k := 19) _  s (by decide) (by decide))) rfl ?_; rintro _ l ⟨rfl, rfl⟩; refine ⟨[_], rfl, ?_⟩
              -- 23
              refine et_quiet 23 (by kernel_rfl) rfl (by kernel_rfl) (wn_none rfl) (op_xor32 _ _ rfl rfl) rfl ?_
              -- 26
              refine et_quiet 26 (by kernel_rfl) rfl (by kernel_rfl) (wn_none rfl) (op_xor32 _ _ rfl rfl) rfl ?_
              -- 27
              refine et_quiet 27 (by kernel_rfl) rfl (by kernel_rfl) (wn_none rfl) (op_add32 _ _ rfl rfl) rfl ?_
              -- 28
              refine et_quiet 28 (by kernel_rfl) rfl (by kernel_rfl) (wn_none rfl) (op_aidx0 (k + 16) a1_100 rfl rfl rfl (by omega)) rfl ?_
              refine et_1 (i := 29) (by kernel_rfl) ?_
              refine ei_iN rfl rfl (wn_none rfl) (os_store (v := .int _ _) sc_90 rfl rfl rfl (Nat.ble_eq_true_of_le (show k + 16 + 1 ≤ _ by rw [List.size_toArray, wC_len, hfl]; omega)) (Free.zero _) (fillA_st (by rw [hml]) (by rw [hml]; omega) _)) ?_; rintro _ _ ⟨rfl, rfl⟩; refine ⟨[_], rfl, ?_⟩
              refine et_nil (by kernel_rfl) ?_
              refine px_blockN ?_
              refine px_then ?_
              refine cd_region ?_   -- 9
              refine ol_q (wn_none rfl) (op_move (v := .int _ _) rfl) rfl ?_
              refine ol_q (wn_none rfl) (op_add rfl rfl (by omega) (by omega)) rfl ?_
              refine ol_q (wn_none rfl) (op_assign (v := .int _ _) rfl) rfl ?_
              refine ol_nil ?_
              have e1 : sch (k + 1) (w16 bs 16) = sch k (w16 bs 16) ++ [next16 (sch k (w16 bs 16))] := rfl
              unfold next16 at e1
              rw [hml, show k + 16 - 16 = k by omega, show k + 16 - 15 = k + 1 by omega, show k + 16 - 7 = k + 9 by omega, show k + 16 - 2 = k + 14 by omega] at e1
              refine px_loop2 (k + 1) (by omega) (by (try dsimp only); omega) ⟨congrArg (Value.int .i64) (by omega), trivial⟩ ?_ (fun _ s => (by (try dsimp only); rw [e1]; exact s))
              repeat (first | exact kept_over | refine kept_upd rfl ?_ | refine kept_overS (by decide) ?_)
            · -- 20
              refine ei_i rfl rfl (wn_none rfl) (os_call cb_75 rfl (fun w s => turn_calls (k := 17) _  s (by decide) (by decide))) rfl ?_; rintro _ l ⟨rfl, rfl⟩; refine ⟨[_], rfl, ?_⟩
              refine et_2 (i1 := 17) (i2 := 22) (by kernel_rfl) ?_ ?_
              · -- 17
                refine ei_i rfl rfl (wn_none rfl) (os_q (op_ld 0 sc_90 rfl rfl (fillA_at (by rw [hml]; omega)))) rfl ?_; rintro _ _ ⟨rfl, rfl⟩; refine ⟨[_], rfl, ?_⟩
                -- 18
                refine et_quiet 18 (by kernel_rfl) rfl (by kernel_rfl) (wn_none rfl) (op_add32 _ _ rfl rfl) rfl ?_
                refine et_1 (i := 22) (by kernel_rfl) ?_
                refine ei_i rfl rfl (wn_none rfl) (os_call cb_75 rfl (fun w s => turn_calls (k := 19) _  s (by decide) (by decide))) rfl ?_; rintro _ l ⟨rfl, rfl⟩; refine ⟨[_], rfl, ?_⟩
                -- 23
                refine et_quiet 23 (by kernel_rfl) rfl (by kernel_rfl) (wn_none rfl) (op_xor32 _ _ rfl rfl) rfl ?_
                -- 26
                refine et_quiet 26 (by kernel_rfl) rfl (by kernel_rfl) (wn_none rfl) (op_xor32 _ _ rfl rfl) rfl ?_
                -- 27
                refine et_quiet 27 (by kernel_rfl) rfl (by kernel_rfl) (wn_none rfl) (op_add32 _ _ rfl rfl) rfl ?_
                -- 28
                refine et_quiet 28 (by kernel_rfl) rfl (by kernel_rfl) (wn_none rfl) (op_aidx0 (k + 16) a1_100 rfl rfl rfl (by omega)) rfl ?_
                refine et_1 (i := 29) (by kernel_rfl) ?_
                refine ei_iN rfl rfl (wn_none rfl) (os_store (v := .int _ _) sc_90 rfl rfl rfl (Nat.ble_eq_true_of_le (show k + 16 + 1 ≤ _ by rw [List.size_toArray, wC_len, hfl]; omega)) (Free.zero _) (fillA_st (by rw [hml]) (by rw [hml]; omega) _)) ?_; rintro _ _ ⟨rfl, rfl⟩; refine ⟨[_], rfl, ?_⟩
                refine et_nil (by kernel_rfl) ?_
                refine px_blockN ?_
                refine px_then ?_
                refine cd_region ?_   -- 9
                refine ol_q (wn_none rfl) (op_move (v := .int _ _) rfl) rfl ?_
                refine ol_q (wn_none rfl) (op_add rfl rfl (by omega) (by omega)) rfl ?_
                refine ol_q (wn_none rfl) (op_assign (v := .int _ _) rfl) rfl ?_
                refine ol_nil ?_
                have e1 : sch (k + 1) (w16 bs 16) = sch k (w16 bs 16) ++ [next16 (sch k (w16 bs 16))] := rfl
                unfold next16 at e1
                rw [hml, show k + 16 - 16 = k by omega, show k + 16 - 15 = k + 1 by omega, show k + 16 - 7 = k + 9 by omega, show k + 16 - 2 = k + 14 by omega] at e1
                refine px_loop2 (k + 1) (by omega) (by (try dsimp only); omega) ⟨congrArg (Value.int .i64) (by omega), trivial⟩ ?_ (fun _ s => (by (try dsimp only); rw [e1]; exact s))
                repeat (first | exact kept_over | refine kept_upd rfl ?_ | refine kept_overS (by decide) ?_)
              · -- 22
                refine ei_i rfl rfl (wn_none rfl) (os_call cb_75 rfl (fun w s => turn_calls (k := 19) _  s (by decide) (by decide))) rfl ?_; rintro _ l ⟨rfl, rfl⟩; refine ⟨[_], rfl, ?_⟩
                -- 23
                refine et_quiet 23 (by kernel_rfl) rfl (by kernel_rfl) (wn_none rfl) (op_xor32 _ _ rfl rfl) rfl ?_
                -- 26
                refine et_quiet 26 (by kernel_rfl) rfl (by kernel_rfl) (wn_none rfl) (op_xor32 _ _ rfl rfl) rfl ?_
                refine et_1 (i := 17) (by kernel_rfl) ?_
                refine ei_i rfl rfl (wn_none rfl) (os_q (op_ld 0 sc_90 rfl rfl (fillA_at (by rw [hml]; omega)))) rfl ?_; rintro _ _ ⟨rfl, rfl⟩; refine ⟨[_], rfl, ?_⟩
                -- 18
                refine et_quiet 18 (by kernel_rfl) rfl (by kernel_rfl) (wn_none rfl) (op_add32 _ _ rfl rfl) rfl ?_
                -- 27
                refine et_quiet 27 (by kernel_rfl) rfl (by kernel_rfl) (wn_none rfl) (op_add32 _ _ rfl rfl) rfl ?_
                -- 28
                refine et_quiet 28 (by kernel_rfl) rfl (by kernel_rfl) (wn_none rfl) (op_aidx0 (k + 16) a1_100 rfl rfl rfl (by omega)) rfl ?_
                refine et_1 (i := 29) (by kernel_rfl) ?_
                refine ei_iN rfl rfl (wn_none rfl) (os_store (v := .int _ _) sc_90 rfl rfl rfl (Nat.ble_eq_true_of_le (show k + 16 + 1 ≤ _ by rw [List.size_toArray, wC_len, hfl]; omega)) (Free.zero _) (fillA_st (by rw [hml]) (by rw [hml]; omega) _)) ?_; rintro _ _ ⟨rfl, rfl⟩; refine ⟨[_], rfl, ?_⟩
                refine et_nil (by kernel_rfl) ?_
                refine px_blockN ?_
                refine px_then ?_
                refine cd_region ?_   -- 9
                refine ol_q (wn_none rfl) (op_move (v := .int _ _) rfl) rfl ?_
                refine ol_q (wn_none rfl) (op_add rfl rfl (by omega) (by omega)) rfl ?_
                refine ol_q (wn_none rfl) (op_assign (v := .int _ _) rfl) rfl ?_
                refine ol_nil ?_
                have e1 : sch (k + 1) (w16 bs 16) = sch k (w16 bs 16) ++ [next16 (sch k (w16 bs 16))] := rfl
                unfold next16 at e1
                rw [hml, show k + 16 - 16 = k by omega, show k + 16 - 15 = k + 1 by omega, show k + 16 - 7 = k + 9 by omega, show k + 16 - 2 = k + 14 by omega] at e1
                refine px_loop2 (k + 1) (by omega) (by (try dsimp only); omega) ⟨congrArg (Value.int .i64) (by omega), trivial⟩ ?_ (fun _ s => (by (try dsimp only); rw [e1]; exact s))
                repeat (first | exact kept_over | refine kept_upd rfl ?_ | refine kept_overS (by decide) ?_)
          · -- 17
            refine ei_i rfl rfl (wn_none rfl) (os_q (op_ld 0 sc_90 rfl rfl (fillA_at (by rw [hml]; omega)))) rfl ?_; rintro _ _ ⟨rfl, rfl⟩; refine ⟨[_], rfl, ?_⟩
            refine et_1 (i := 8) (by kernel_rfl) ?_
            refine ei_i rfl rfl (wn_none rfl) (os_call cb_75 rfl (fun w s => turn_calls (k := 18) _  s (by decide) (by decide))) rfl ?_; rintro _ l ⟨rfl, rfl⟩; refine ⟨[_], rfl, ?_⟩
            -- 9
            refine et_quiet 9 (by kernel_rfl) rfl (by kernel_rfl) (wn_none rfl) (op_xor32 _ _ rfl rfl) rfl ?_
            -- 12
            refine et_quiet 12 (by kernel_rfl) rfl (by kernel_rfl) (wn_none rfl) (op_xor32 _ _ rfl rfl) rfl ?_
            -- 13
            refine et_quiet 13 (by kernel_rfl) rfl (by kernel_rfl) (wn_none rfl) (op_add32 _ _ rfl rfl) rfl ?_
            -- 18
            refine et_quiet 18 (by kernel_rfl) rfl (by kernel_rfl) (wn_none rfl) (op_add32 _ _ rfl rfl) rfl ?_
            refine et_1 (i := 20) (by kernel_rfl) ?_
            refine ei_i rfl rfl (wn_none rfl) (os_call cb_75 rfl (fun w s => turn_calls (k := 17) _  s (by decide) (by decide))) rfl ?_; rintro _ l ⟨rfl, rfl⟩; refine ⟨[_], rfl, ?_⟩
            refine et_1 (i := 22) (by kernel_rfl) ?_
            refine ei_i rfl rfl (wn_none rfl) (os_call cb_75 rfl (fun w s => turn_calls (k := 19) _  s (by decide) (by decide))) rfl ?_; rintro _ l ⟨rfl, rfl⟩; refine ⟨[_], rfl, ?_⟩
            -- 23
            refine et_quiet 23 (by kernel_rfl) rfl (by kernel_rfl) (wn_none rfl) (op_xor32 _ _ rfl rfl) rfl ?_
            -- 26
            refine et_quiet 26 (by kernel_rfl) rfl (by kernel_rfl) (wn_none rfl) (op_xor32 _ _ rfl rfl) rfl ?_
            -- 27
            refine et_quiet 27 (by kernel_rfl) rfl (by kernel_rfl) (wn_none rfl) (op_add32 _ _ rfl rfl) rfl ?_
            -- 28
            refine et_quiet 28 (by kernel_rfl) rfl (by kernel_rfl) (wn_none rfl) (op_aidx0 (k + 16) a1_100 rfl rfl rfl (by omega)) rfl ?_
            refine et_1 (i := 29) (by kernel_rfl) ?_
            refine ei_iN rfl rfl (wn_none rfl) (os_store (v := .int _ _) sc_90 rfl rfl rfl (Nat.ble_eq_true_of_le (show k + 16 + 1 ≤ _ by rw [List.size_toArray, wC_len, hfl]; omega)) (Free.zero _) (fillA_st (by rw [hml]) (by rw [hml]; omega) _)) ?_; rintro _ _ ⟨rfl, rfl⟩; refine ⟨[_], rfl, ?_⟩
            refine et_nil (by kernel_rfl) ?_
            refine px_blockN ?_
            refine px_then ?_
            refine cd_region ?_   -- 9
            refine ol_q (wn_none rfl) (op_move (v := .int _ _) rfl) rfl ?_
            refine ol_q (wn_none rfl) (op_add rfl rfl (by omega) (by omega)) rfl ?_
            refine ol_q (wn_none rfl) (op_assign (v := .int _ _) rfl) rfl ?_
            refine ol_nil ?_
            have e1 : sch (k + 1) (w16 bs 16) = sch k (w16 bs 16) ++ [next16 (sch k (w16 bs 16))] := rfl
            unfold next16 at e1
            rw [hml, show k + 16 - 16 = k by omega, show k + 16 - 15 = k + 1 by omega, show k + 16 - 7 = k + 9 by omega, show k + 16 - 2 = k + 14 by omega] at e1
            refine px_loop2 (k + 1) (by omega) (by (try dsimp only); omega) ⟨congrArg (Value.int .i64) (by omega), trivial⟩ ?_ (fun _ s => (by (try dsimp only); rw [e1]; exact s))
            repeat (first | exact kept_over | refine kept_upd rfl ?_ | refine kept_overS (by decide) ?_)
        · -- 17
          refine ei_i rfl rfl (wn_none rfl) (os_q (op_ld 0 sc_90 rfl rfl (fillA_at (by rw [hml]; omega)))) rfl ?_; rintro _ _ ⟨rfl, rfl⟩; refine ⟨[_], rfl, ?_⟩
          refine et_1 (i := 6) (by kernel_rfl) ?_
          refine ei_i rfl rfl (wn_none rfl) (os_call cb_75 rfl (fun w s => turn_calls (k := 7) _  s (by decide) (by decide))) rfl ?_; rintro _ l ⟨rfl, rfl⟩; refine ⟨[_], rfl, ?_⟩
          refine et_1 (i := 8) (by kernel_rfl) ?_
          refine ei_i rfl rfl (wn_none rfl) (os_call cb_75 rfl (fun w s => turn_calls (k := 18) _  s (by decide) (by decide))) rfl ?_; rintro _ l ⟨rfl, rfl⟩; refine ⟨[_], rfl, ?_⟩
          -- 9
          refine et_quiet 9 (by kernel_rfl) rfl (by kernel_rfl) (wn_none rfl) (op_xor32 _ _ rfl rfl) rfl ?_
          -- 12
          refine et_quiet 12 (by kernel_rfl) rfl (by kernel_rfl) (wn_none rfl) (op_xor32 _ _ rfl rfl) rfl ?_
          -- 13
          refine et_quiet 13 (by kernel_rfl) rfl (by kernel_rfl) (wn_none rfl) (op_add32 _ _ rfl rfl) rfl ?_
          -- 18
          refine et_quiet 18 (by kernel_rfl) rfl (by kernel_rfl) (wn_none rfl) (op_add32 _ _ rfl rfl) rfl ?_
          refine et_1 (i := 20) (by kernel_rfl) ?_
          refine ei_i rfl rfl (wn_none rfl) (os_call cb_75 rfl (fun w s => turn_calls (k := 17) _  s (by decide) (by decide))) rfl ?_; rintro _ l ⟨rfl, rfl⟩; refine ⟨[_], rfl, ?_⟩
          refine et_1 (i := 22) (by kernel_rfl) ?_
          refine ei_i rfl rfl (wn_none rfl) (os_call cb_75 rfl (fun w s => turn_calls (k := 19) _  s (by decide) (by decide))) rfl ?_; rintro _ l ⟨rfl, rfl⟩; refine ⟨[_], rfl, ?_⟩
          -- 23
          refine et_quiet 23 (by kernel_rfl) rfl (by kernel_rfl) (wn_none rfl) (op_xor32 _ _ rfl rfl) rfl ?_
          -- 26
          refine et_quiet 26 (by kernel_rfl) rfl (by kernel_rfl) (wn_none rfl) (op_xor32 _ _ rfl rfl) rfl ?_
          -- 27
          refine et_quiet 27 (by kernel_rfl) rfl (by kernel_rfl) (wn_none rfl) (op_add32 _ _ rfl rfl) rfl ?_
          -- 28
          refine et_quiet 28 (by kernel_rfl) rfl (by kernel_rfl) (wn_none rfl) (op_aidx0 (k + 16) a1_100 rfl rfl rfl (by omega)) rfl ?_
          refine et_1 (i := 29) (by kernel_rfl) ?_
          refine ei_iN rfl rfl (wn_none rfl) (os_store (v := .int _ _) sc_90 rfl rfl rfl (Nat.ble_eq_true_of_le (show k + 16 + 1 ≤ _ by rw [List.size_toArray, wC_len, hfl]; omega)) (Free.zero _) (fillA_st (by rw [hml]) (by rw [hml]; omega) _)) ?_; rintro _ _ ⟨rfl, rfl⟩; refine ⟨[_], rfl, ?_⟩
          refine et_nil (by kernel_rfl) ?_
          refine px_blockN ?_
          refine px_then ?_
          refine cd_region ?_   -- 9
          refine ol_q (wn_none rfl) (op_move (v := .int _ _) rfl) rfl ?_
          refine ol_q (wn_none rfl) (op_add rfl rfl (by omega) (by omega)) rfl ?_
          refine ol_q (wn_none rfl) (op_assign (v := .int _ _) rfl) rfl ?_
          refine ol_nil ?_
          have e1 : sch (k + 1) (w16 bs 16) = sch k (w16 bs 16) ++ [next16 (sch k (w16 bs 16))] := rfl
          unfold next16 at e1
          rw [hml, show k + 16 - 16 = k by omega, show k + 16 - 15 = k + 1 by omega, show k + 16 - 7 = k + 9 by omega, show k + 16 - 2 = k + 14 by omega] at e1
          refine px_loop2 (k + 1) (by omega) (by (try dsimp only); omega) ⟨congrArg (Value.int .i64) (by omega), trivial⟩ ?_ (fun _ s => (by (try dsimp only); rw [e1]; exact s))
          repeat (first | exact kept_over | refine kept_upd rfl ?_ | refine kept_overS (by decide) ?_)
      · -- 6
        refine ei_i rfl rfl (wn_none rfl) (os_call cb_75 rfl (fun w s => turn_calls (k := 7) _  s (by decide) (by decide))) rfl ?_; rintro _ l ⟨rfl, rfl⟩; refine ⟨[_], rfl, ?_⟩
        refine et_3 (i1 := 4) (i2 := 8) (i3 := 17) (by kernel_rfl) ?_ ?_ ?_
        · -- 4
          refine ei_i rfl rfl (wn_none rfl) (os_q (op_ld 0 sc_90 rfl rfl (fillA_at (by rw [hml]; omega)))) rfl ?_; rintro _ _ ⟨rfl, rfl⟩; refine ⟨[_], rfl, ?_⟩
          refine et_2 (i1 := 8) (i2 := 17) (by kernel_rfl) ?_ ?_
          · -- 8
            refine ei_i rfl rfl (wn_none rfl) (os_call cb_75 rfl (fun w s => turn_calls (k := 18) _  s (by decide) (by decide))) rfl ?_; rintro _ l ⟨rfl, rfl⟩; refine ⟨[_], rfl, ?_⟩
            -- 9
            refine et_quiet 9 (by kernel_rfl) rfl (by kernel_rfl) (wn_none rfl) (op_xor32 _ _ rfl rfl) rfl ?_
            -- 12
            refine et_quiet 12 (by kernel_rfl) rfl (by kernel_rfl) (wn_none rfl) (op_xor32 _ _ rfl rfl) rfl ?_
            -- 13
            refine et_quiet 13 (by kernel_rfl) rfl (by kernel_rfl) (wn_none rfl) (op_add32 _ _ rfl rfl) rfl ?_
            refine et_2 (i1 := 17) (i2 := 20) (by kernel_rfl) ?_ ?_
            · -- 17
              refine ei_i rfl rfl (wn_none rfl) (os_q (op_ld 0 sc_90 rfl rfl (fillA_at (by rw [hml]; omega)))) rfl ?_; rintro _ _ ⟨rfl, rfl⟩; refine ⟨[_], rfl, ?_⟩
              -- 18
              refine et_quiet 18 (by kernel_rfl) rfl (by kernel_rfl) (wn_none rfl) (op_add32 _ _ rfl rfl) rfl ?_
              refine et_1 (i := 20) (by kernel_rfl) ?_
              refine ei_i rfl rfl (wn_none rfl) (os_call cb_75 rfl (fun w s => turn_calls (k := 17) _  s (by decide) (by decide))) rfl ?_; rintro _ l ⟨rfl, rfl⟩; refine ⟨[_], rfl, ?_⟩
              refine et_1 (i := 22) (by kernel_rfl) ?_
              refine ei_i rfl rfl (wn_none rfl) (os_call cb_75 rfl (fun w s => turn_calls (k := 19) _  s (by decide) (by decide))) rfl ?_; rintro _ l ⟨rfl, rfl⟩; refine ⟨[_], rfl, ?_⟩
              -- 23
              refine et_quiet 23 (by kernel_rfl) rfl (by kernel_rfl) (wn_none rfl) (op_xor32 _ _ rfl rfl) rfl ?_
              -- 26
              refine et_quiet 26 (by kernel_rfl) rfl (by kernel_rfl) (wn_none rfl) (op_xor32 _ _ rfl rfl) rfl ?_
              -- 27
              refine et_quiet 27 (by kernel_rfl) rfl (by kernel_rfl) (wn_none rfl) (op_add32 _ _ rfl rfl) rfl ?_
              -- 28
              refine et_quiet 28 (by kernel_rfl) rfl (by kernel_rfl) (wn_none rfl) (op_aidx0 (k + 16) a1_100 rfl rfl rfl (by omega)) rfl ?_
              refine et_1 (i := 29) (by kernel_rfl) ?_
              refine ei_iN rfl rfl (wn_none rfl) (os_store (v := .int _ _) sc_90 rfl rfl rfl (Nat.ble_eq_true_of_le (show k + 16 + 1 ≤ _ by rw [List.size_toArray, wC_len, hfl]; omega)) (Free.zero _) (fillA_st (by rw [hml]) (by rw [hml]; omega) _)) ?_; rintro _ _ ⟨rfl, rfl⟩; refine ⟨[_], rfl, ?_⟩
              refine et_nil (by kernel_rfl) ?_
              refine px_blockN ?_
              refine px_then ?_
              refine cd_region ?_   -- 9
              refine ol_q (wn_none rfl) (op_move (v := .int _ _) rfl) rfl ?_
              refine ol_q (wn_none rfl) (op_add rfl rfl (by omega) (by omega)) rfl ?_
              refine ol_q (wn_none rfl) (op_assign (v := .int _ _) rfl) rfl ?_
              refine ol_nil ?_
              have e1 : sch (k + 1) (w16 bs 16) = sch k (w16 bs 16) ++ [next16 (sch k (w16 bs 16))] := rfl
              unfold next16 at e1
              rw [hml, show k + 16 - 16 = k by omega, show k + 16 - 15 = k + 1 by omega, show k + 16 - 7 = k + 9 by omega, show k + 16 - 2 = k + 14 by omega] at e1
              refine px_loop2 (k + 1) (by omega) (by (try dsimp only); omega) ⟨congrArg (Value.int .i64) (by omega), trivial⟩ ?_ (fun _ s => (by (try dsimp only); rw [e1]; exact s))
              repeat (first | exact kept_over | refine kept_upd rfl ?_ | refine kept_overS (by decide) ?_)
            · -- 20
              refine ei_i rfl rfl (wn_none rfl) (os_call cb_75 rfl (fun w s => turn_calls (k := 17) _  s (by decide) (by decide))) rfl ?_; rintro _ l ⟨rfl, rfl⟩; refine ⟨[_], rfl, ?_⟩
              refine et_2 (i1 := 17) (i2 := 22) (by kernel_rfl) ?_ ?_
              · -- 17
                refine ei_i rfl rfl (wn_none rfl) (os_q (op_ld 0 sc_90 rfl rfl (fillA_at (by rw [hml]; omega)))) rfl ?_; rintro _ _ ⟨rfl, rfl⟩; refine ⟨[_], rfl, ?_⟩
                -- 18
                refine et_quiet 18 (by kernel_rfl) rfl (by kernel_rfl) (wn_none rfl) (op_add32 _ _ rfl rfl) rfl ?_
                refine et_1 (i := 22) (by kernel_rfl) ?_
                refine ei_i rfl rfl (wn_none rfl) (os_call cb_75 rfl (fun w s => turn_calls (k := 19) _  s (by decide) (by decide))) rfl ?_; rintro _ l ⟨rfl, rfl⟩; refine ⟨[_], rfl, ?_⟩
                -- 23
                refine et_quiet 23 (by kernel_rfl) rfl (by kernel_rfl) (wn_none rfl) (op_xor32 _ _ rfl rfl) rfl ?_
                -- 26
                refine et_quiet 26 (by kernel_rfl) rfl (by kernel_rfl) (wn_none rfl) (op_xor32 _ _ rfl rfl) rfl ?_
                -- 27
                refine et_quiet 27 (by kernel_rfl) rfl (by kernel_rfl) (wn_none rfl) (op_add32 _ _ rfl rfl) rfl ?_
                -- 28
                refine et_quiet 28 (by kernel_rfl) rfl (by kernel_rfl) (wn_none rfl) (op_aidx0 (k + 16) a1_100 rfl rfl rfl (by omega)) rfl ?_
                refine et_1 (i := 29) (by kernel_rfl) ?_
                refine ei_iN rfl rfl (wn_none rfl) (os_store (v := .int _ _) sc_90 rfl rfl rfl (Nat.ble_eq_true_of_le (show k + 16 + 1 ≤ _ by rw [List.size_toArray, wC_len, hfl]; omega)) (Free.zero _) (fillA_st (by rw [hml]) (by rw [hml]; omega) _)) ?_; rintro _ _ ⟨rfl, rfl⟩; refine ⟨[_], rfl, ?_⟩
                refine et_nil (by kernel_rfl) ?_
                refine px_blockN ?_
                refine px_then ?_
                refine cd_region ?_   -- 9
                refine ol_q (wn_none rfl) (op_move (v := .int _ _) rfl) rfl ?_
                refine ol_q (wn_none rfl) (op_add rfl rfl (by omega) (by omega)) rfl ?_
                refine ol_q (wn_none rfl) (op_assign (v := .int _ _) rfl) rfl ?_
                refine ol_nil ?_
                have e1 : sch (k + 1) (w16 bs 16) = sch k (w16 bs 16) ++ [next16 (sch k (w16 bs 16))] := rfl
                unfold next16 at e1
                rw [hml, show k + 16 - 16 = k by omega, show k + 16 - 15 = k + 1 by omega, show k + 16 - 7 = k + 9 by omega, show k + 16 - 2 = k + 14 by omega] at e1
                refine px_loop2 (k + 1) (by omega) (by (try dsimp only); omega) ⟨congrArg (Value.int .i64) (by omega), trivial⟩ ?_ (fun _ s => (by (try dsimp only); rw [e1]; exact s))
                repeat (first | exact kept_over | refine kept_upd rfl ?_ | refine kept_overS (by decide) ?_)
              · -- 22
                refine ei_i rfl rfl (wn_none rfl) (os_call cb_75 rfl (fun w s => turn_calls (k := 19) _  s (by decide) (by decide))) rfl ?_; rintro _ l ⟨rfl, rfl⟩; refine ⟨[_], rfl, ?_⟩
                -- 23
                refine et_quiet 23 (by kernel_rfl) rfl (by kernel_rfl) (wn_none rfl) (op_xor32 _ _ rfl rfl) rfl ?_
                -- 26
                refine et_quiet 26 (by kernel_rfl) rfl (by kernel_rfl) (wn_none rfl) (op_xor32 _ _ rfl rfl) rfl ?_
                refine et_1 (i := 17) (by kernel_rfl) ?_
                refine ei_i rfl rfl (wn_none rfl) (os_q (op_ld 0 sc_90 rfl rfl (fillA_at (by rw [hml]; omega)))) rfl ?_; rintro _ _ ⟨rfl, rfl⟩; refine ⟨[_], rfl, ?_⟩
                -- 18
                refine et_quiet 18 (by kernel_rfl) rfl (by kernel_rfl) (wn_none rfl) (op_add32 _ _ rfl rfl) rfl ?_
                -- 27
                refine et_quiet 27 (by kernel_rfl) rfl (by kernel_rfl) (wn_none rfl) (op_add32 _ _ rfl rfl) rfl ?_
                -- 28
                refine et_quiet 28 (by kernel_rfl) rfl (by kernel_rfl) (wn_none rfl) (op_aidx0 (k + 16) a1_100 rfl rfl rfl (by omega)) rfl ?_
                refine et_1 (i := 29) (by kernel_rfl) ?_
                refine ei_iN rfl rfl (wn_none rfl) (os_store (v := .int _ _) sc_90 rfl rfl rfl (Nat.ble_eq_true_of_le (show k + 16 + 1 ≤ _ by rw [List.size_toArray, wC_len, hfl]; omega)) (Free.zero _) (fillA_st (by rw [hml]) (by rw [hml]; omega) _)) ?_; rintro _ _ ⟨rfl, rfl⟩; refine ⟨[_], rfl, ?_⟩
                refine et_nil (by kernel_rfl) ?_
                refine px_blockN ?_
                refine px_then ?_
                refine cd_region ?_   -- 9
                refine ol_q (wn_none rfl) (op_move (v := .int _ _) rfl) rfl ?_
                refine ol_q (wn_none rfl) (op_add rfl rfl (by omega) (by omega)) rfl ?_
                refine ol_q (wn_none rfl) (op_assign (v := .int _ _) rfl) rfl ?_
                refine ol_nil ?_
                have e1 : sch (k + 1) (w16 bs 16) = sch k (w16 bs 16) ++ [next16 (sch k (w16 bs 16))] := rfl
                unfold next16 at e1
                rw [hml, show k + 16 - 16 = k by omega, show k + 16 - 15 = k + 1 by omega, show k + 16 - 7 = k + 9 by omega, show k + 16 - 2 = k + 14 by omega] at e1
                refine px_loop2 (k + 1) (by omega) (by (try dsimp only); omega) ⟨congrArg (Value.int .i64) (by omega), trivial⟩ ?_ (fun _ s => (by (try dsimp only); rw [e1]; exact s))
                repeat (first | exact kept_over | refine kept_upd rfl ?_ | refine kept_overS (by decide) ?_)
          · -- 17
            refine ei_i rfl rfl (wn_none rfl) (os_q (op_ld 0 sc_90 rfl rfl (fillA_at (by rw [hml]; omega)))) rfl ?_; rintro _ _ ⟨rfl, rfl⟩; refine ⟨[_], rfl, ?_⟩
            refine et_1 (i := 8) (by kernel_rfl) ?_
            refine ei_i rfl rfl (wn_none rfl) (os_call cb_75 rfl (fun w s => turn_calls (k := 18) _  s (by decide) (by decide))) rfl ?_; rintro _ l ⟨rfl, rfl⟩; refine ⟨[_], rfl, ?_⟩
            -- 9
            refine et_quiet 9 (by kernel_rfl) rfl (by kernel_rfl) (wn_none rfl) (op_xor32 _ _ rfl rfl) rfl ?_
            -- 12
            refine et_quiet 12 (by kernel_rfl) rfl (by kernel_rfl) (wn_none rfl) (op_xor32 _ _ rfl rfl) rfl ?_
            -- 13
            refine et_quiet 13 (by kernel_rfl) rfl (by kernel_rfl) (wn_none rfl) (op_add32 _ _ rfl rfl) rfl ?_
            -- 18
            refine et_quiet 18 (by kernel_rfl) rfl (by kernel_rfl) (wn_none rfl) (op_add32 _ _ rfl rfl) rfl ?_
            refine et_1 (i := 20) (by kernel_rfl) ?_
            refine ei_i rfl rfl (wn_none rfl) (os_call cb_75 rfl (fun w s => turn_calls (k := 17) _  s (by decide) (by decide))) rfl ?_; rintro _ l ⟨rfl, rfl⟩; refine ⟨[_], rfl, ?_⟩
            refine et_1 (i := 22) (by kernel_rfl) ?_
            refine ei_i rfl rfl (wn_none rfl) (os_call cb_75 rfl (fun w s => turn_calls (k := 19) _  s (by decide) (by decide))) rfl ?_; rintro _ l ⟨rfl, rfl⟩; refine ⟨[_], rfl, ?_⟩
            -- 23
            refine et_quiet 23 (by kernel_rfl) rfl (by kernel_rfl) (wn_none rfl) (op_xor32 _ _ rfl rfl) rfl ?_
            -- 26
            refine et_quiet 26 (by kernel_rfl) rfl (by kernel_rfl) (wn_none rfl) (op_xor32 _ _ rfl rfl) rfl ?_
            -- 27
            refine et_quiet 27 (by kernel_rfl) rfl (by kernel_rfl) (wn_none rfl) (op_add32 _ _ rfl rfl) rfl ?_
            -- 28
            refine et_quiet 28 (by kernel_rfl) rfl (by kernel_rfl) (wn_none rfl) (op_aidx0 (k + 16) a1_100 rfl rfl rfl (by omega)) rfl ?_
            refine et_1 (i := 29) (by kernel_rfl) ?_
            refine ei_iN rfl rfl (wn_none rfl) (os_store (v := .int _ _) sc_90 rfl rfl rfl (Nat.ble_eq_true_of_le (show k + 16 + 1 ≤ _ by rw [List.size_toArray, wC_len, hfl]; omega)) (Free.zero _) (fillA_st (by rw [hml]) (by rw [hml]; omega) _)) ?_; rintro _ _ ⟨rfl, rfl⟩; refine ⟨[_], rfl, ?_⟩
            refine et_nil (by kernel_rfl) ?_
            refine px_blockN ?_
            refine px_then ?_
            refine cd_region ?_   -- 9
            refine ol_q (wn_none rfl) (op_move (v := .int _ _) rfl) rfl ?_
            refine ol_q (wn_none rfl) (op_add rfl rfl (by omega) (by omega)) rfl ?_
            refine ol_q (wn_none rfl) (op_assign (v := .int _ _) rfl) rfl ?_
            refine ol_nil ?_
            have e1 : sch (k + 1) (w16 bs 16) = sch k (w16 bs 16) ++ [next16 (sch k (w16 bs 16))] := rfl
            unfold next16 at e1
            rw [hml, show k + 16 - 16 = k by omega, show k + 16 - 15 = k + 1 by omega, show k + 16 - 7 = k + 9 by omega, show k + 16 - 2 = k + 14 by omega] at e1
            refine px_loop2 (k + 1) (by omega) (by (try dsimp only); omega) ⟨congrArg (Value.int .i64) (by omega), trivial⟩ ?_ (fun _ s => (by (try dsimp only); rw [e1]; exact s))
            repeat (first | exact kept_over | refine kept_upd rfl ?_ | refine kept_overS (by decide) ?_)
        · -- 8
          refine ei_i rfl rfl (wn_none rfl) (os_call cb_75 rfl (fun w s => turn_calls (k := 18) _  s (by decide) (by decide))) rfl ?_; rintro _ l ⟨rfl, rfl⟩; refine ⟨[_], rfl, ?_⟩
          -- 9
          refine et_quiet 9 (by kernel_rfl) rfl (by kernel_rfl) (wn_none rfl) (op_xor32 _ _ rfl rfl) rfl ?_
          -- 12
          refine et_quiet 12 (by kernel_rfl) rfl (by kernel_rfl) (wn_none rfl) (op_xor32 _ _ rfl rfl) rfl ?_
          refine et_3 (i1 := 4) (i2 := 17) (i3 := 20) (by kernel_rfl) ?_ ?_ ?_
          · -- 4
            refine ei_i rfl rfl (wn_none rfl) (os_q (op_ld 0 sc_90 rfl rfl (fillA_at (by rw [hml]; omega)))) rfl ?_; rintro _ _ ⟨rfl, rfl⟩; refine ⟨[_], rfl, ?_⟩
            -- 13
            refine et_quiet 13 (by kernel_rfl) rfl (by kernel_rfl) (wn_none rfl) (op_add32 _ _ rfl rfl) rfl ?_
            refine et_2 (i1 := 17) (i2 := 20) (by kernel_rfl) ?_ ?_
            · -- 17
              refine ei_i rfl rfl (wn_none rfl) (os_q (op_ld 0 sc_90 rfl rfl (fillA_at (by rw [hml]; omega)))) rfl ?_; rintro _ _ ⟨rfl, rfl⟩; refine ⟨[_], rfl, ?_⟩
              -- 18
              refine et_quiet 18 (by kernel_rfl) rfl (by kernel_rfl) (wn_none rfl) (op_add32 _ _ rfl rfl) rfl ?_
              refine et_1 (i := 20) (by kernel_rfl) ?_
              refine ei_i rfl rfl (wn_none rfl) (os_call cb_75 rfl (fun w s => turn_calls (k := 17) _  s (by decide) (by decide))) rfl ?_; rintro _ l ⟨rfl, rfl⟩; refine ⟨[_], rfl, ?_⟩
              refine et_1 (i := 22) (by kernel_rfl) ?_
              refine ei_i rfl rfl (wn_none rfl) (os_call cb_75 rfl (fun w s => turn_calls (k := 19) _  s (by decide) (by decide))) rfl ?_; rintro _ l ⟨rfl, rfl⟩; refine ⟨[_], rfl, ?_⟩
              -- 23
              refine et_quiet 23 (by kernel_rfl) rfl (by kernel_rfl) (wn_none rfl) (op_xor32 _ _ rfl rfl) rfl ?_
              -- 26
              refine et_quiet 26 (by kernel_rfl) rfl (by kernel_rfl) (wn_none rfl) (op_xor32 _ _ rfl rfl) rfl ?_
              -- 27
              refine et_quiet 27 (by kernel_rfl) rfl (by kernel_rfl) (wn_none rfl) (op_add32 _ _ rfl rfl) rfl ?_
              -- 28
              refine et_quiet 28 (by kernel_rfl) rfl (by kernel_rfl) (wn_none rfl) (op_aidx0 (k + 16) a1_100 rfl rfl rfl (by omega)) rfl ?_
              refine et_1 (i := 29) (by kernel_rfl) ?_
              refine ei_iN rfl rfl (wn_none rfl) (os_store (v := .int _ _) sc_90 rfl rfl rfl (Nat.ble_eq_true_of_le (show k + 16 + 1 ≤ _ by rw [List.size_toArray, wC_len, hfl]; omega)) (Free.zero _) (fillA_st (by rw [hml]) (by rw [hml]; omega) _)) ?_; rintro _ _ ⟨rfl, rfl⟩; refine ⟨[_], rfl, ?_⟩
              refine et_nil (by kernel_rfl) ?_
              refine px_blockN ?_
              refine px_then ?_
              refine cd_region ?_   -- 9
              refine ol_q (wn_none rfl) (op_move (v := .int _ _) rfl) rfl ?_
              refine ol_q (wn_none rfl) (op_add rfl rfl (by omega) (by omega)) rfl ?_
              refine ol_q (wn_none rfl) (op_assign (v := .int _ _) rfl) rfl ?_
              refine ol_nil ?_
              have e1 : sch (k + 1) (w16 bs 16) = sch k (w16 bs 16) ++ [next16 (sch k (w16 bs 16))] := rfl
              unfold next16 at e1
              rw [hml, show k + 16 - 16 = k by omega, show k + 16 - 15 = k + 1 by omega, show k + 16 - 7 = k + 9 by omega, show k + 16 - 2 = k + 14 by omega] at e1
              refine px_loop2 (k + 1) (by omega) (by (try dsimp only); omega) ⟨congrArg (Value.int .i64) (by omega), trivial⟩ ?_ (fun _ s => (by (try dsimp only); rw [e1]; exact s))
              repeat (first | exact kept_over | refine kept_upd rfl ?_ | refine kept_overS (by decide) ?_)
            · -- 20
              refine ei_i rfl rfl (wn_none rfl) (os_call cb_75 rfl (fun w s => turn_calls (k := 17) _  s (by decide) (by decide))) rfl ?_; rintro _ l ⟨rfl, rfl⟩; refine ⟨[_], rfl, ?_⟩
              refine et_2 (i1 := 17) (i2 := 22) (by kernel_rfl) ?_ ?_
              · -- 17
                refine ei_i rfl rfl (wn_none rfl) (os_q (op_ld 0 sc_90 rfl rfl (fillA_at (by rw [hml]; omega)))) rfl ?_; rintro _ _ ⟨rfl, rfl⟩; refine ⟨[_], rfl, ?_⟩
                -- 18
                refine et_quiet 18 (by kernel_rfl) rfl (by kernel_rfl) (wn_none rfl) (op_add32 _ _ rfl rfl) rfl ?_
                refine et_1 (i := 22) (by kernel_rfl) ?_
                refine ei_i rfl rfl (wn_none rfl) (os_call cb_75 rfl (fun w s => turn_calls (k := 19) _  s (by decide) (by decide))) rfl ?_; rintro _ l ⟨rfl, rfl⟩; refine ⟨[_], rfl, ?_⟩
                -- 23
                refine et_quiet 23 (by kernel_rfl) rfl (by kernel_rfl) (wn_none rfl) (op_xor32 _ _ rfl rfl) rfl ?_
                -- 26
                refine et_quiet 26 (by kernel_rfl) rfl (by kernel_rfl) (wn_none rfl) (op_xor32 _ _ rfl rfl) rfl ?_
                -- 27
                refine et_quiet 27 (by kernel_rfl) rfl (by kernel_rfl) (wn_none rfl) (op_add32 _ _ rfl rfl) rfl ?_
                -- 28
                refine et_quiet 28 (by kernel_rfl) rfl (by kernel_rfl) (wn_none rfl) (op_aidx0 (k + 16) a1_100 rfl rfl rfl (by omega)) rfl ?_
                refine et_1 (i := 29) (by kernel_rfl) ?_
                refine ei_iN rfl rfl (wn_none rfl) (os_store (v := .int _ _) sc_90 rfl rfl rfl (Nat.ble_eq_true_of_le (show k + 16 + 1 ≤ _ by rw [List.size_toArray, wC_len, hfl]; omega)) (Free.zero _) (fillA_st (by rw [hml]) (by rw [hml]; omega) _)) ?_; rintro _ _ ⟨rfl, rfl⟩; refine ⟨[_], rfl, ?_⟩
                refine et_nil (by kernel_rfl) ?_
                refine px_blockN ?_
                refine px_then ?_
                refine cd_region ?_   -- 9
                refine ol_q (wn_none rfl) (op_move (v := .int _ _) rfl) rfl ?_
                refine ol_q (wn_none rfl) (op_add rfl rfl (by omega) (by omega)) rfl ?_
                refine ol_q (wn_none rfl) (op_assign (v := .int _ _) rfl) rfl ?_
                refine ol_nil ?_
                have e1 : sch (k + 1) (w16 bs 16) = sch k (w16 bs 16) ++ [next16 (sch k (w16 bs 16))] := rfl
                unfold next16 at e1
                rw [hml, show k + 16 - 16 = k by omega, show k + 16 - 15 = k + 1 by omega, show k + 16 - 7 = k + 9 by omega, show k + 16 - 2 = k + 14 by omega] at e1
                refine px_loop2 (k + 1) (by omega) (by (try dsimp only); omega) ⟨congrArg (Value.int .i64) (by omega), trivial⟩ ?_ (fun _ s => (by (try dsimp only); rw [e1]; exact s))
                repeat (first | exact kept_over | refine kept_upd rfl ?_ | refine kept_overS (by decide) ?_)
              · -- 22
                refine ei_i rfl rfl (wn_none rfl) (os_call cb_75 rfl (fun w s => turn_calls (k := 19) _  s (by decide) (by decide))) rfl ?_; rintro _ l ⟨rfl, rfl⟩; refine ⟨[_], rfl, ?_⟩
                -- 23
                refine et_quiet 23 (by kernel_rfl) rfl (by kernel_rfl) (wn_none rfl) (op_xor32 _ _ rfl rfl) rfl ?_
                -- 26
                refine et_quiet 26 (by kernel_rfl) rfl (by kernel_rfl) (wn_none rfl) (op_xor32 _ _ rfl rfl) rfl ?_
                refine et_1 (i := 17) (by kernel_rfl) ?_
                refine ei_i rfl rfl (wn_none rfl) (os_q (op_ld 0 sc_90 rfl rfl (fillA_at (by rw [hml]; omega)))) rfl ?_; rintro _ _ ⟨rfl, rfl⟩; refine ⟨[_], rfl, ?_⟩
                -- 18
                refine et_quiet 18 (by kernel_rfl) rfl (by kernel_rfl) (wn_none rfl) (op_add32 _ _ rfl rfl) rfl ?_
                -- 27
                refine et_quiet 27 (by kernel_rfl) rfl (by kernel_rfl) (wn_none rfl) (op_add32 _ _ rfl rfl) rfl ?_
                -- 28
                refine et_quiet 28 (by kernel_rfl) rfl (by kernel_rfl) (wn_none rfl) (op_aidx0 (k + 16) a1_100 rfl rfl rfl (by omega)) rfl ?_
                refine et_1 (i := 29) (by kernel_rfl) ?_
                refine ei_iN rfl rfl (wn_none rfl) (os_store (v := .int _ _) sc_90 rfl rfl rfl (Nat.ble_eq_true_of_le (show k + 16 + 1 ≤ _ by rw [List.size_toArray, wC_len, hfl]; omega)) (Free.zero _) (fillA_st (by rw [hml]) (by rw [hml]; omega) _)) ?_; rintro _ _ ⟨rfl, rfl⟩; refine ⟨[_], rfl, ?_⟩
                refine et_nil (by kernel_rfl) ?_
                refine px_blockN ?_
                refine px_then ?_
                refine cd_region ?_   -- 9
                refine ol_q (wn_none rfl) (op_move (v := .int _ _) rfl) rfl ?_
                refine ol_q (wn_none rfl) (op_add rfl rfl (by omega) (by omega)) rfl ?_
                refine ol_q (wn_none rfl) (op_assign (v := .int _ _) rfl) rfl ?_
                refine ol_nil ?_
                have e1 : sch (k + 1) (w16 bs 16) = sch k (w16 bs 16) ++ [next16 (sch k (w16 bs 16))] := rfl
                unfold next16 at e1
                rw [hml, show k + 16 - 16 = k by omega, show k + 16 - 15 = k + 1 by omega, show k + 16 - 7 = k + 9 by omega, show k + 16 - 2 = k + 14 by omega] at e1
                refine px_loop2 (k + 1) (by omega) (by (try dsimp only); omega) ⟨congrArg (Value.int .i64) (by omega), trivial⟩ ?_ (fun _ s => (by (try dsimp only); rw [e1]; exact s))
                repeat (first | exact kept_over | refine kept_upd rfl ?_ | refine kept_overS (by decide) ?_)
          · -- 17
            refine ei_i rfl rfl (wn_none rfl) (os_q (op_ld 0 sc_90 rfl rfl (fillA_at (by rw [hml]; omega)))) rfl ?_; rintro _ _ ⟨rfl, rfl⟩; refine ⟨[_], rfl, ?_⟩
            refine et_2 (i1 := 4) (i2 := 20) (by kernel_rfl) ?_ ?_
            · -- 4
              refine ei_i rfl rfl (wn_none rfl) (os_q (op_ld 0 sc_90 rfl rfl (fillA_at (by rw [hml]; omega)))) rfl ?_; rintro _ _ ⟨rfl, rfl⟩; refine ⟨[_], rfl, ?_⟩
              -- 13
              refine et_quiet 13 (by kernel_rfl) rfl (by kernel_rfl) (wn_none rfl) (op_add32 _ _ rfl rfl) rfl ?_
              -- 18
              refine et_quiet 18 (by kernel_rfl) rfl (by kernel_rfl) (wn_none rfl) (op_add32 _ _ rfl rfl) rfl ?_
              refine et_1 (i := 20) (by kernel_rfl) ?_
              refine ei_i rfl rfl (wn_none rfl) (os_call cb_75 rfl (fun w s => turn_calls (k := 17) _  s (by decide) (by decide))) rfl ?_; rintro _ l ⟨rfl, rfl⟩; refine ⟨[_], rfl, ?_⟩
              refine et_1 (i := 22) (by kernel_rfl) ?_
              refine ei_i rfl rfl (wn_none rfl) (os_call cb_75 rfl (fun w s => turn_calls (k := 19) _  s (by decide) (by decide))) rfl ?_; rintro _ l ⟨rfl, rfl⟩; refine ⟨[_], rfl, ?_⟩
              -- 23
              refine et_quiet 23 (by kernel_rfl) rfl (by kernel_rfl) (wn_none rfl) (op_xor32 _ _ rfl rfl) rfl ?_
              -- 26
              refine et_quiet 26 (by kernel_rfl) rfl (by kernel_rfl) (wn_none rfl) (op_xor32 _ _ rfl rfl) rfl ?_
              -- 27
              refine et_quiet 27 (by kernel_rfl) rfl (by kernel_rfl) (wn_none rfl) (op_add32 _ _ rfl rfl) rfl ?_
              -- 28
              refine et_quiet 28 (by kernel_rfl) rfl (by kernel_rfl) (wn_none rfl) (op_aidx0 (k + 16) a1_100 rfl rfl rfl (by omega)) rfl ?_
              refine et_1 (i := 29) (by kernel_rfl) ?_
              refine ei_iN rfl rfl (wn_none rfl) (os_store (v := .int _ _) sc_90 rfl rfl rfl (Nat.ble_eq_true_of_le (show k + 16 + 1 ≤ _ by rw [List.size_toArray, wC_len, hfl]; omega)) (Free.zero _) (fillA_st (by rw [hml]) (by rw [hml]; omega) _)) ?_; rintro _ _ ⟨rfl, rfl⟩; refine ⟨[_], rfl, ?_⟩
              refine et_nil (by kernel_rfl) ?_
              refine px_blockN ?_
              refine px_then ?_
              refine cd_region ?_   -- 9
              refine ol_q (wn_none rfl) (op_move (v := .int _ _) rfl) rfl ?_
              refine ol_q (wn_none rfl) (op_add rfl rfl (by omega) (by omega)) rfl ?_
              refine ol_q (wn_none rfl) (op_assign (v := .int _ _) rfl) rfl ?_
              refine ol_nil ?_
              have e1 : sch (k + 1) (w16 bs 16) = sch k (w16 bs 16) ++ [next16 (sch k (w16 bs 16))] := rfl
              unfold next16 at e1
              rw [hml, show k + 16 - 16 = k by omega, show k + 16 - 15 = k + 1 by omega, show k + 16 - 7 = k + 9 by omega, show k + 16 - 2 = k + 14 by omega] at e1
              refine px_loop2 (k + 1) (by omega) (by (try dsimp only); omega) ⟨congrArg (Value.int .i64) (by omega), trivial⟩ ?_ (fun _ s => (by (try dsimp only); rw [e1]; exact s))
              repeat (first | exact kept_over | refine kept_upd rfl ?_ | refine kept_overS (by decide) ?_)
            · -- 20
              refine ei_i rfl rfl (wn_none rfl) (os_call cb_75 rfl (fun w s => turn_calls (k := 17) _  s (by decide) (by decide))) rfl ?_; rintro _ l ⟨rfl, rfl⟩; refine ⟨[_], rfl, ?_⟩
              refine et_2 (i1 := 4) (i2 := 22) (by kernel_rfl) ?_ ?_
              · -- 4
                refine ei_i rfl rfl (wn_none rfl) (os_q (op_ld 0 sc_90 rfl rfl (fillA_at (by rw [hml]; omega)))) rfl ?_; rintro _ _ ⟨rfl, rfl⟩; refine ⟨[_], rfl, ?_⟩
                -- 13
                refine et_quiet 13 (by kernel_rfl) rfl (by kernel_rfl) (wn_none rfl) (op_add32 _ _ rfl rfl) rfl ?_
                -- 18
                refine et_quiet 18 (by kernel_rfl) rfl (by kernel_rfl) (wn_none rfl) (op_add32 _ _ rfl rfl) rfl ?_
                refine et_1 (i := 22) (by kernel_rfl) ?_
                refine ei_i rfl rfl (wn_none rfl) (os_call cb_75 rfl (fun w s => turn_calls (k := 19) _  s (by decide) (by decide))) rfl ?_; rintro _ l ⟨rfl, rfl⟩; refine ⟨[_], rfl, ?_⟩
                -- 23
                refine et_quiet 23 (by kernel_rfl) rfl (by kernel_rfl) (wn_none rfl) (op_xor32 _ _ rfl rfl) rfl ?_
                -- 26
                refine et_quiet 26 (by kernel_rfl) rfl (by kernel_rfl) (wn_none rfl) (op_xor32 _ _ rfl rfl) rfl ?_
                -- 27
                refine et_quiet 27 (by kernel_rfl) rfl (by kernel_rfl) (wn_none rfl) (op_add32 _ _ rfl rfl) rfl ?_
                -- 28
                refine et_quiet 28 (by kernel_rfl) rfl (by kernel_rfl) (wn_none rfl) (op_aidx0 (k + 16) a1_100 rfl rfl rfl (by omega)) rfl ?_
                refine et_1 (i := 29) (by kernel_rfl) ?_
                refine ei_iN rfl rfl (wn_none rfl) (os_store (v := .int _ _) sc_90 rfl rfl rfl (Nat.ble_eq_true_of_le (show k + 16 + 1 ≤ _ by rw [List.size_toArray, wC_len, hfl]; omega)) (Free.zero _) (fillA_st (by rw [hml]) (by rw [hml]; omega) _)) ?_; rintro _ _ ⟨rfl, rfl⟩; refine ⟨[_], rfl, ?_⟩
                refine et_nil (by kernel_rfl) ?_
                refine px_blockN ?_
                refine px_then ?_
                refine cd_region ?_   -- 9
                refine ol_q (wn_none rfl) (op_move (v := .int _ _) rfl) rfl ?_
                refine ol_q (wn_none rfl) (op_add rfl rfl (by omega) (by omega)) rfl ?_
                refine ol_q (wn_none rfl) (op_assign (v := .int _ _) rfl) rfl ?_
                refine ol_nil ?_
                have e1 : sch (k + 1) (w16 bs 16) = sch k (w16 bs 16) ++ [next16 (sch k (w16 bs 16))] := rfl
                unfold next16 at e1
                rw [hml, show k + 16 - 16 = k by omega, show k + 16 - 15 = k + 1 by omega, show k + 16 - 7 = k + 9 by omega, show k + 16 - 2 = k + 14 by omega] at e1
                refine px_loop2 (k + 1) (by omega) (by (try dsimp only); omega) ⟨congrArg (Value.int .i64) (by omega), trivial⟩ ?_ (fun _ s => (by (try dsimp only); rw [e1]; exact s))
                repeat (first | exact kept_over | refine kept_upd rfl ?_ | refine kept_overS (by decide) ?_)
              · -- 22
                refine ei_i rfl rfl (wn_none rfl) (os_call cb_75 rfl (fun w s => turn_calls (k := 19) _  s (by decide) (by decide))) rfl ?_; rintro _ l ⟨rfl, rfl⟩; refine ⟨[_], rfl, ?_⟩
                -- 23
                refine et_quiet 23 (by kernel_rfl) rfl (by kernel_rfl) (wn_none rfl) (op_xor32 _ _ rfl rfl) rfl ?_
                -- 26
                refine et_quiet 26 (by kernel_rfl) rfl (by kernel_rfl) (wn_none rfl) (op_xor32 _ _ rfl rfl) rfl ?_
                refine et_1 (i := 4) (by kernel_rfl) ?_
                refine ei_i rfl rfl (wn_none rfl) (os_q (op_ld 0 sc_90 rfl rfl (fillA_at (by rw [hml]; omega)))) rfl ?_; rintro _ _ ⟨rfl, rfl⟩; refine ⟨[_], rfl, ?_⟩
                -- 13
                refine et_quiet 13 (by kernel_rfl) rfl (by kernel_rfl) (wn_none rfl) (op_add32 _ _ rfl rfl) rfl ?_
                -- 18
                refine et_quiet 18 (by kernel_rfl) rfl (by kernel_rfl) (wn_none rfl) (op_add32 _ _ rfl rfl) rfl ?_
                -- 27
                refine et_quiet 27 (by kernel_rfl) rfl (by kernel_rfl) (wn_none rfl) (op_add32 _ _ rfl rfl) rfl ?_
                -- 28
                refine et_quiet 28 (by kernel_rfl) rfl (by kernel_rfl) (wn_none rfl) (op_aidx0 (k + 16) a1_100 rfl rfl rfl (by omega)) rfl ?_
                refine et_1 (i := 29) (by kernel_rfl) ?_
                refine ei_iN rfl rfl (wn_none rfl) (os_store (v := .int _ _) sc_90 rfl rfl rfl (Nat.ble_eq_true_of_le (show k + 16 + 1 ≤ _ by rw [List.size_toArray, wC_len, hfl]; omega)) (Free.zero _) (fillA_st (by rw [hml]) (by rw [hml]; omega) _)) ?_; rintro _ _ ⟨rfl, rfl⟩; refine ⟨[_], rfl, ?_⟩
                refine et_nil (by kernel_rfl) ?_
                refine px_blockN ?_
                refine px_then ?_
                refine cd_region ?_   -- 9
                refine ol_q (wn_none rfl) (op_move (v := .int _ _) rfl) rfl ?_
                refine ol_q (wn_none rfl) (op_add rfl rfl (by omega) (by omega)) rfl ?_
                refine ol_q (wn_none rfl) (op_assign (v := .int _ _) rfl) rfl ?_
                refine ol_nil ?_
                have e1 : sch (k + 1) (w16 bs 16) = sch k (w16 bs 16) ++ [next16 (sch k (w16 bs 16))] := rfl
                unfold next16 at e1
                rw [hml, show k + 16 - 16 = k by omega, show k + 16 - 15 = k + 1 by omega, show k + 16 - 7 = k + 9 by omega, show k + 16 - 2 = k + 14 by omega] at e1
                refine px_loop2 (k + 1) (by omega) (by (try dsimp only); omega) ⟨congrArg (Value.int .i64) (by omega), trivial⟩ ?_ (fun _ s => (by (try dsimp only); rw [e1]; exact s))
                repeat (first | exact kept_over | refine kept_upd rfl ?_ | refine kept_overS (by decide) ?_)
          · -- 20
            refine ei_i rfl rfl (wn_none rfl) (os_call cb_75 rfl (fun w s => turn_calls (k := 17) _  s (by decide) (by decide))) rfl ?_; rintro _ l ⟨rfl, rfl⟩; refine ⟨[_], rfl, ?_⟩
            refine et_3 (i1 := 4) (i2 := 17) (i3 := 22) (by kernel_rfl) ?_ ?_ ?_
            · -- 4
              refine ei_i rfl rfl (wn_none rfl) (os_q (op_ld 0 sc_90 rfl rfl (fillA_at (by rw [hml]; omega)))) rfl ?_; rintro _ _ ⟨rfl, rfl⟩; refine ⟨[_], rfl, ?_⟩
              -- 13
              refine et_quiet 13 (by kernel_rfl) rfl (by kernel_rfl) (wn_none rfl) (op_add32 _ _ rfl rfl) rfl ?_
              refine et_2 (i1 := 17) (i2 := 22) (by kernel_rfl) ?_ ?_
              · -- 17
                refine ei_i rfl rfl (wn_none rfl) (os_q (op_ld 0 sc_90 rfl rfl (fillA_at (by rw [hml]; omega)))) rfl ?_; rintro _ _ ⟨rfl, rfl⟩; refine ⟨[_], rfl, ?_⟩
                -- 18
                refine et_quiet 18 (by kernel_rfl) rfl (by kernel_rfl) (wn_none rfl) (op_add32 _ _ rfl rfl) rfl ?_
                refine et_1 (i := 22) (by kernel_rfl) ?_
                refine ei_i rfl rfl (wn_none rfl) (os_call cb_75 rfl (fun w s => turn_calls (k := 19) _  s (by decide) (by decide))) rfl ?_; rintro _ l ⟨rfl, rfl⟩; refine ⟨[_], rfl, ?_⟩
                -- 23
                refine et_quiet 23 (by kernel_rfl) rfl (by kernel_rfl) (wn_none rfl) (op_xor32 _ _ rfl rfl) rfl ?_
                -- 26
                refine et_quiet 26 (by kernel_rfl) rfl (by kernel_rfl) (wn_none rfl) (op_xor32 _ _ rfl rfl) rfl ?_
                -- 27
                refine et_quiet 27 (by kernel_rfl) rfl (by kernel_rfl) (wn_none rfl) (op_add32 _ _ rfl rfl) rfl ?_
                -- 28
                refine et_quiet 28 (by kernel_rfl) rfl (by kernel_rfl) (wn_none rfl) (op_aidx0 (k + 16) a1_100 rfl rfl rfl (by omega)) rfl ?_
                refine et_1 (i := 29) (by kernel_rfl) ?_
                refine ei_iN rfl rfl (wn_none rfl) (os_store (v := .int _ _) sc_90 rfl rfl rfl (Nat.ble_eq_true_of_le (show k + 16 + 1 ≤ _ by rw [List.size_toArray, wC_len, hfl]; omega)) (Free.zero _) (fillA_st (by rw [hml]) (by rw [hml]; omega) _)) ?_; rintro _ _ ⟨rfl, rfl⟩; refine ⟨[_], rfl, ?_⟩
                refine et_nil (by kernel_rfl) ?_
                refine px_blockN ?_
                refine px_then ?_
                refine cd_region ?_   -- 9
                refine ol_q (wn_none rfl) (op_move (v := .int _ _) rfl) rfl ?_
                refine ol_q (wn_none rfl) (op_add rfl rfl (by omega) (by omega)) rfl ?_
                refine ol_q (wn_none rfl) (op_assign (v := .int _ _) rfl) rfl ?_
                refine ol_nil ?_
                have e1 : sch (k + 1) (w16 bs 16) = sch k (w16 bs 16) ++ [next16 (sch k (w16 bs 16))] := rfl
                unfold next16 at e1
                rw [hml, show k + 16 - 16 = k by omega, show k + 16 - 15 = k + 1 by omega, show k + 16 - 7 = k + 9 by omega, show k + 16 - 2 = k + 14 by omega] at e1
                refine px_loop2 (k + 1) (by omega) (by (try dsimp only); omega) ⟨congrArg (Value.int .i64) (by omega), trivial⟩ ?_ (fun _ s => (by (try dsimp only); rw [e1]; exact s))
                repeat (first | exact kept_over | refine kept_upd rfl ?_ | refine kept_overS (by decide) ?_)
              · -- 22
                refine ei_i rfl rfl (wn_none rfl) (os_call cb_75 rfl (fun w s => turn_calls (k := 19) _  s (by decide) (by decide))) rfl ?_; rintro _ l ⟨rfl, rfl⟩; refine ⟨[_], rfl, ?_⟩
                -- 23
                refine et_quiet 23 (by kernel_rfl) rfl (by kernel_rfl) (wn_none rfl) (op_xor32 _ _ rfl rfl) rfl ?_
                -- 26
                refine et_quiet 26 (by kernel_rfl) rfl (by kernel_rfl) (wn_none rfl) (op_xor32 _ _ rfl rfl) rfl ?_
                refine et_1 (i := 17) (by kernel_rfl) ?_
                refine ei_i rfl rfl (wn_none rfl) (os_q (op_ld 0 sc_90 rfl rfl (fillA_at (by rw [hml]; omega)))) rfl ?_; rintro _ _ ⟨rfl, rfl⟩; refine ⟨[_], rfl, ?_⟩
                -- 18
                refine et_quiet 18 (by kernel_rfl) rfl (by kernel_rfl) (wn_none rfl) (op_add32 _ _ rfl rfl) rfl ?_
                -- 27
                refine et_quiet 27 (by kernel_rfl) rfl (by kernel_rfl) (wn_none rfl) (op_add32 _ _ rfl rfl) rfl ?_
                -- 28
                refine et_quiet 28 (by kernel_rfl) rfl (by kernel_rfl) (wn_none rfl) (op_aidx0 (k + 16) a1_100 rfl rfl rfl (by omega)) rfl ?_
                refine et_1 (i := 29) (by kernel_rfl) ?_
                refine ei_iN rfl rfl (wn_none rfl) (os_store (v := .int _ _) sc_90 rfl rfl rfl (Nat.ble_eq_true_of_le (show k + 16 + 1 ≤ _ by rw [List.size_toArray, wC_len, hfl]; omega)) (Free.zero _) (fillA_st (by rw [hml]) (by rw [hml]; omega) _)) ?_; rintro _ _ ⟨rfl, rfl⟩; refine ⟨[_], rfl, ?_⟩
                refine et_nil (by kernel_rfl) ?_
                refine px_blockN ?_
                refine px_then ?_
                refine cd_region ?_   -- 9
                refine ol_q (wn_none rfl) (op_move (v := .int _ _) rfl) rfl ?_
                refine ol_q (wn_none rfl) (op_add rfl rfl (by omega) (by omega)) rfl ?_
                refine ol_q (wn_none rfl) (op_assign (v := .int _ _) rfl) rfl ?_
                refine ol_nil ?_
                have e1 : sch (k + 1) (w16 bs 16) = sch k (w16 bs 16) ++ [next16 (sch k (w16 bs 16))] := rfl
                unfold next16 at e1
                rw [hml, show k + 16 - 16 = k by omega, show k + 16 - 15 = k + 1 by omega, show k + 16 - 7 = k + 9 by omega, show k + 16 - 2 = k + 14 by omega] at e1
                refine px_loop2 (k + 1) (by omega) (by (try dsimp only); omega) ⟨congrArg (Value.int .i64) (by omega), trivial⟩ ?_ (fun _ s => (by (try dsimp only); rw [e1]; exact s))
                repeat (first | exact kept_over | refine kept_upd rfl ?_ | refine kept_overS (by decide) ?_)
            · -- 17
              refine ei_i rfl rfl (wn_none rfl) (os_q (op_ld 0 sc_90 rfl rfl (fillA_at (by rw [hml]; omega)))) rfl ?_; rintro _ _ ⟨rfl, rfl⟩; refine ⟨[_], rfl, ?_⟩
              refine et_2 (i1 := 4) (i2 := 22) (by kernel_rfl) ?_ ?_
              · -- 4
                refine ei_i rfl rfl (wn_none rfl) (os_q (op_ld 0 sc_90 rfl rfl (fillA_at (by rw [hml]; omega)))) rfl ?_; rintro _ _ ⟨rfl, rfl⟩; refine ⟨[_], rfl, ?_⟩
                -- 13
                refine et_quiet 13 (by kernel_rfl) rfl (by kernel_rfl) (wn_none rfl) (op_add32 _ _ rfl rfl) rfl ?_
                -- 18
                refine et_quiet 18 (by kernel_rfl) rfl (by kernel_rfl) (wn_none rfl) (op_add32 _ _ rfl rfl) rfl ?_
                refine et_1 (i := 22) (by kernel_rfl) ?_
                refine ei_i rfl rfl (wn_none rfl) (os_call cb_75 rfl (fun w s => turn_calls (k := 19) _  s (by decide) (by decide))) rfl ?_; rintro _ l ⟨rfl, rfl⟩; refine ⟨[_], rfl, ?_⟩
                -- 23
                refine et_quiet 23 (by kernel_rfl) rfl (by kernel_rfl) (wn_none rfl) (op_xor32 _ _ rfl rfl) rfl ?_
                -- 26
                refine et_quiet 26 (by kernel_rfl) rfl (by kernel_rfl) (wn_none rfl) (op_xor32 _ _ rfl rfl) rfl ?_
                -- 27
                refine et_quiet 27 (by kernel_rfl) rfl (by kernel_rfl) (wn_none rfl) (op_add32 _ _ rfl rfl) rfl ?_
                -- 28
                refine et_quiet 28 (by kernel_rfl) rfl (by kernel_rfl) (wn_none rfl) (op_aidx0 (k + 16) a1_100 rfl rfl rfl (by omega)) rfl ?_
                refine et_1 (i := 29) (by kernel_rfl) ?_
                refine ei_iN rfl rfl (wn_none rfl) (os_store (v := .int _ _) sc_90 rfl rfl rfl (Nat.ble_eq_true_of_le (show k + 16 + 1 ≤ _ by rw [List.size_toArray, wC_len, hfl]; omega)) (Free.zero _) (fillA_st (by rw [hml]) (by rw [hml]; omega) _)) ?_; rintro _ _ ⟨rfl, rfl⟩; refine ⟨[_], rfl, ?_⟩
                refine et_nil (by kernel_rfl) ?_
                refine px_blockN ?_
                refine px_then ?_
                refine cd_region ?_   -- 9
                refine ol_q (wn_none rfl) (op_move (v := .int _ _) rfl) rfl ?_
                refine ol_q (wn_none rfl) (op_add rfl rfl (by omega) (by omega)) rfl ?_
                refine ol_q (wn_none rfl) (op_assign (v := .int _ _) rfl) rfl ?_
                refine ol_nil ?_
                have e1 : sch (k + 1) (w16 bs 16) = sch k (w16 bs 16) ++ [next16 (sch k (w16 bs 16))] := rfl
                unfold next16 at e1
                rw [hml, show k + 16 - 16 = k by omega, show k + 16 - 15 = k + 1 by omega, show k + 16 - 7 = k + 9 by omega, show k + 16 - 2 = k + 14 by omega] at e1
                refine px_loop2 (k + 1) (by omega) (by (try dsimp only); omega) ⟨congrArg (Value.int .i64) (by omega), trivial⟩ ?_ (fun _ s => (by (try dsimp only); rw [e1]; exact s))
                repeat (first | exact kept_over | refine kept_upd rfl ?_ | refine kept_overS (by decide) ?_)
              · -- 22
                refine ei_i rfl rfl (wn_none rfl) (os_call cb_75 rfl (fun w s => turn_calls (k := 19) _  s (by decide) (by decide))) rfl ?_; rintro _ l ⟨rfl, rfl⟩; refine ⟨[_], rfl, ?_⟩
                -- 23
                refine et_quiet 23 (by kernel_rfl) rfl (by kernel_rfl) (wn_none rfl) (op_xor32 _ _ rfl rfl) rfl ?_
                -- 26
                refine et_quiet 26 (by kernel_rfl) rfl (by kernel_rfl) (wn_none rfl) (op_xor32 _ _ rfl rfl) rfl ?_
                refine et_1 (i := 4) (by kernel_rfl) ?_
                refine ei_i rfl rfl (wn_none rfl) (os_q (op_ld 0 sc_90 rfl rfl (fillA_at (by rw [hml]; omega)))) rfl ?_; rintro _ _ ⟨rfl, rfl⟩; refine ⟨[_], rfl, ?_⟩
                -- 13
                refine et_quiet 13 (by kernel_rfl) rfl (by kernel_rfl) (wn_none rfl) (op_add32 _ _ rfl rfl) rfl ?_
                -- 18
                refine et_quiet 18 (by kernel_rfl) rfl (by kernel_rfl) (wn_none rfl) (op_add32 _ _ rfl rfl) rfl ?_
                -- 27
                refine et_quiet 27 (by kernel_rfl) rfl (by kernel_rfl) (wn_none rfl) (op_add32 _ _ rfl rfl) rfl ?_
                -- 28
                refine et_quiet 28 (by kernel_rfl) rfl (by kernel_rfl) (wn_none rfl) (op_aidx0 (k + 16) a1_100 rfl rfl rfl (by omega)) rfl ?_
                refine et_1 (i := 29) (by kernel_rfl) ?_
                refine ei_iN rfl rfl (wn_none rfl) (os_store (v := .int _ _) sc_90 rfl rfl rfl (Nat.ble_eq_true_of_le (show k + 16 + 1 ≤ _ by rw [List.size_toArray, wC_len, hfl]; omega)) (Free.zero _) (fillA_st (by rw [hml]) (by rw [hml]; omega) _)) ?_; rintro _ _ ⟨rfl, rfl⟩; refine ⟨[_], rfl, ?_⟩
                refine et_nil (by kernel_rfl) ?_
                refine px_blockN ?_
                refine px_then ?_
                refine cd_region ?_   -- 9
                refine ol_q (wn_none rfl) (op_move (v := .int _ _) rfl) rfl ?_
                refine ol_q (wn_none rfl) (op_add rfl rfl (by omega) (by omega)) rfl ?_
                refine ol_q (wn_none rfl) (op_assign (v := .int _ _) rfl) rfl ?_
                refine ol_nil ?_
                have e1 : sch (k + 1) (w16 bs 16) = sch k (w16 bs 16) ++ [next16 (sch k (w16 bs 16))] := rfl
                unfold next16 at e1
                rw [hml, show k + 16 - 16 = k by omega, show k + 16 - 15 = k + 1 by omega, show k + 16 - 7 = k + 9 by omega, show k + 16 - 2 = k + 14 by omega] at e1
                refine px_loop2 (k + 1) (by omega) (by (try dsimp only); omega) ⟨congrArg (Value.int .i64) (by omega), trivial⟩ ?_ (fun _ s => (by (try dsimp only); rw [e1]; exact s))
                repeat (first | exact kept_over | refine kept_upd rfl ?_ | refine kept_overS (by decide) ?_)
            · -- 22
              refine ei_i rfl rfl (wn_none rfl) (os_call cb_75 rfl (fun w s => turn_calls (k := 19) _  s (by decide) (by decide))) rfl ?_; rintro _ l ⟨rfl, rfl⟩; refine ⟨[_], rfl, ?_⟩
              -- 23
              refine et_quiet 23 (by kernel_rfl) rfl (by kernel_rfl) (wn_none rfl) (op_xor32 _ _ rfl rfl) rfl ?_
              -- 26
              refine et_quiet 26 (by kernel_rfl) rfl (by kernel_rfl) (wn_none rfl) (op_xor32 _ _ rfl rfl) rfl ?_
              refine et_2 (i1 := 4) (i2 := 17) (by kernel_rfl) ?_ ?_
              · -- 4
                refine ei_i rfl rfl (wn_none rfl) (os_q (op_ld 0 sc_90 rfl rfl (fillA_at (by rw [hml]; omega)))) rfl ?_; rintro _ _ ⟨rfl, rfl⟩; refine ⟨[_], rfl, ?_⟩
                -- 13
                refine et_quiet 13 (by kernel_rfl) rfl (by kernel_rfl) (wn_none rfl) (op_add32 _ _ rfl rfl) rfl ?_
                refine et_1 (i := 17) (by kernel_rfl) ?_
                refine ei_i rfl rfl (wn_none rfl) (os_q (op_ld 0 sc_90 rfl rfl (fillA_at (by rw [hml]; omega)))) rfl ?_; rintro _ _ ⟨rfl, rfl⟩; refine ⟨[_], rfl, ?_⟩
                -- 18
                refine et_quiet 18 (by kernel_rfl) rfl (by kernel_rfl) (wn_none rfl) (op_add32 _ _ rfl rfl) rfl ?_
                -- 27
                refine et_quiet 27 (by kernel_rfl) rfl (by kernel_rfl) (wn_none rfl) (op_add32 _ _ rfl rfl) rfl ?_
                -- 28
                refine et_quiet 28 (by kernel_rfl) rfl (by kernel_rfl) (wn_none rfl) (op_aidx0 (k + 16) a1_100 rfl rfl rfl (by omega)) rfl ?_
                refine et_1 (i := 29) (by kernel_rfl) ?_
                refine ei_iN rfl rfl (wn_none rfl) (os_store (v := .int _ _) sc_90 rfl rfl rfl (Nat.ble_eq_true_of_le (show k + 16 + 1 ≤ _ by rw [List.size_toArray, wC_len, hfl]; omega)) (Free.zero _) (fillA_st (by rw [hml]) (by rw [hml]; omega) _)) ?_; rintro _ _ ⟨rfl, rfl⟩; refine ⟨[_], rfl, ?_⟩
                refine et_nil (by kernel_rfl) ?_
                refine px_blockN ?_
                refine px_then ?_
                refine cd_region ?_   -- 9
                refine ol_q (wn_none rfl) (op_move (v := .int _ _) rfl) rfl ?_
                refine ol_q (wn_none rfl) (op_add rfl rfl (by omega) (by omega)) rfl ?_
                refine ol_q (wn_none rfl) (op_assign (v := .int _ _) rfl) rfl ?_
                refine ol_nil ?_
                have e1 : sch (k + 1) (w16 bs 16) = sch k (w16 bs 16) ++ [next16 (sch k (w16 bs 16))] := rfl
                unfold next16 at e1
                rw [hml, show k + 16 - 16 = k by omega, show k + 16 - 15 = k + 1 by omega, show k + 16 - 7 = k + 9 by omega, show k + 16 - 2 = k + 14 by omega] at e1
                refine px_loop2 (k + 1) (by omega) (by (try dsimp only); omega) ⟨congrArg (Value.int .i64) (by omega), trivial⟩ ?_ (fun _ s => (by (try dsimp only); rw [e1]; exact s))
                repeat (first | exact kept_over | refine kept_upd rfl ?_ | refine kept_overS (by decide) ?_)
              · -- 17
                refine ei_i rfl rfl (wn_none rfl) (os_q (op_ld 0 sc_90 rfl rfl (fillA_at (by rw [hml]; omega)))) rfl ?_; rintro _ _ ⟨rfl, rfl⟩; refine ⟨[_], rfl, ?_⟩
                refine et_1 (i := 4) (by kernel_rfl) ?_
                refine ei_i rfl rfl (wn_none rfl) (os_q (op_ld 0 sc_90 rfl rfl (fillA_at (by rw [hml]; omega)))) rfl ?_; rintro _ _ ⟨rfl, rfl⟩; refine ⟨[_], rfl, ?_⟩
                -- 13
                refine et_quiet 13 (by kernel_rfl) rfl (by kernel_rfl) (wn_none rfl) (op_add32 _ _ rfl rfl) rfl ?_
                -- 18
                refine et_quiet 18 (by kernel_rfl) rfl (by kernel_rfl) (wn_none rfl) (op_add32 _ _ rfl rfl) rfl ?_
                -- 27
                refine et_quiet 27 (by kernel_rfl) rfl (by kernel_rfl) (wn_none rfl) (op_add32 _ _ rfl rfl) rfl ?_
                -- 28
                refine et_quiet 28 (by kernel_rfl) rfl (by kernel_rfl) (wn_none rfl) (op_aidx0 (k + 16) a1_100 rfl rfl rfl (by omega)) rfl ?_
                refine et_1 (i := 29) (by kernel_rfl) ?_
                refine ei_iN rfl rfl (wn_none rfl) (os_store (v := .int _ _) sc_90 rfl rfl rfl (Nat.ble_eq_true_of_le (show k + 16 + 1 ≤ _ by rw [List.size_toArray, wC_len, hfl]; omega)) (Free.zero _) (fillA_st (by rw [hml]) (by rw [hml]; omega) _)) ?_; rintro _ _ ⟨rfl, rfl⟩; refine ⟨[_], rfl, ?_⟩
                refine et_nil (by kernel_rfl) ?_
                refine px_blockN ?_
                refine px_then ?_
                refine cd_region ?_   -- 9
                refine ol_q (wn_none rfl) (op_move (v := .int _ _) rfl) rfl ?_
                refine ol_q (wn_none rfl) (op_add rfl rfl (by omega) (by omega)) rfl ?_
                refine ol_q (wn_none rfl) (op_assign (v := .int _ _) rfl) rfl ?_
                refine ol_nil ?_
                have e1 : sch (k + 1) (w16 bs 16) = sch k (w16 bs 16) ++ [next16 (sch k (w16 bs 16))] := rfl
                unfold next16 at e1
                rw [hml, show k + 16 - 16 = k by omega, show k + 16 - 15 = k + 1 by omega, show k + 16 - 7 = k + 9 by omega, show k + 16 - 2 = k + 14 by omega] at e1
                refine px_loop2 (k + 1) (by omega) (by (try dsimp only); omega) ⟨congrArg (Value.int .i64) (by omega), trivial⟩ ?_ (fun _ s => (by (try dsimp only); rw [e1]; exact s))
                repeat (first | exact kept_over | refine kept_upd rfl ?_ | refine kept_overS (by decide) ?_)
        · -- 17
          refine ei_i rfl rfl (wn_none rfl) (os_q (op_ld 0 sc_90 rfl rfl (fillA_at (by rw [hml]; omega)))) rfl ?_; rintro _ _ ⟨rfl, rfl⟩; refine ⟨[_], rfl, ?_⟩
          refine et_2 (i1 := 4) (i2 := 8) (by kernel_rfl) ?_ ?_
          · -- 4
            refine ei_i rfl rfl (wn_none rfl) (os_q (op_ld 0 sc_90 rfl rfl (fillA_at (by rw [hml]; omega)))) rfl ?_; rintro _ _ ⟨rfl, rfl⟩; refine ⟨[_], rfl, ?_⟩
            refine et_1 (i := 8) (by kernel_rfl) ?_
            refine ei_i rfl rfl (wn_none rfl) (os_call cb_75 rfl (fun w s => turn_calls (k := 18) _  s (by decide) (by decide))) rfl ?_; rintro _ l ⟨rfl, rfl⟩; refine ⟨[_], rfl, ?_⟩
            -- 9
            refine et_quiet 9 (by kernel_rfl) rfl (by kernel_rfl) (wn_none rfl) (op_xor32 _ _ rfl rfl) rfl ?_
            -- 12
            refine et_quiet 12 (by kernel_rfl) rfl (by kernel_rfl) (wn_none rfl) (op_xor32 _ _ rfl rfl) rfl ?_
            -- 13
            refine et_quiet 13 (by kernel_rfl) rfl (by kernel_rfl) (wn_none rfl) (op_add32 _ _ rfl rfl) rfl ?_
            -- 18
            refine et_quiet 18 (by kernel_rfl) rfl (by kernel_rfl) (wn_none rfl) (op_add32 _ _ rfl rfl) rfl ?_
            refine et_1 (i := 20) (by kernel_rfl) ?_
            refine ei_i rfl rfl (wn_none rfl) (os_call cb_75 rfl (fun w s => turn_calls (k := 17) _  s (by decide) (by decide))) rfl ?_; rintro _ l ⟨rfl, rfl⟩; refine ⟨[_], rfl, ?_⟩
            refine et_1 (i := 22) (by kernel_rfl) ?_
            refine ei_i rfl rfl (wn_none rfl) (os_call cb_75 rfl (fun w s => turn_calls (k := 19) _  s (by decide) (by decide))) rfl ?_; rintro _ l ⟨rfl, rfl⟩; refine ⟨[_], rfl, ?_⟩
            -- 23
            refine et_quiet 23 (by kernel_rfl) rfl (by kernel_rfl) (wn_none rfl) (op_xor32 _ _ rfl rfl) rfl ?_
            -- 26
            refine et_quiet 26 (by kernel_rfl) rfl (by kernel_rfl) (wn_none rfl) (op_xor32 _ _ rfl rfl) rfl ?_
            -- 27
            refine et_quiet 27 (by kernel_rfl) rfl (by kernel_rfl) (wn_none rfl) (op_add32 _ _ rfl rfl) rfl ?_
            -- 28
            refine et_quiet 28 (by kernel_rfl) rfl (by kernel_rfl) (wn_none rfl) (op_aidx0 (k + 16) a1_100 rfl rfl rfl (by omega)) rfl ?_
            refine et_1 (i := 29) (by kernel_rfl) ?_
            refine ei_iN rfl rfl (wn_none rfl) (os_store (v := .int _ _) sc_90 rfl rfl rfl (Nat.ble_eq_true_of_le (show k + 16 + 1 ≤ _ by rw [List.size_toArray, wC_len, hfl]; omega)) (Free.zero _) (fillA_st (by rw [hml]) (by rw [hml]; omega) _)) ?_; rintro _ _ ⟨rfl, rfl⟩; refine ⟨[_], rfl, ?_⟩
            refine et_nil (by kernel_rfl) ?_
            refine px_blockN ?_
            refine px_then ?_
            refine cd_region ?_   -- 9
            refine ol_q (wn_none rfl) (op_move (v := .int _ _) rfl) rfl ?_
            refine ol_q (wn_none rfl) (op_add rfl rfl (by omega) (by omega)) rfl ?_
            refine ol_q (wn_none rfl) (op_assign (v := .int _ _) rfl) rfl ?_
            refine ol_nil ?_
            have e1 : sch (k + 1) (w16 bs 16) = sch k (w16 bs 16) ++ [next16 (sch k (w16 bs 16))] := rfl
            unfold next16 at e1
            rw [hml, show k + 16 - 16 = k by omega, show k + 16 - 15 = k + 1 by omega, show k + 16 - 7 = k + 9 by omega, show k + 16 - 2 = k + 14 by omega] at e1
            refine px_loop2 (k + 1) (by omega) (by (try dsimp only); omega) ⟨congrArg (Value.int .i64) (by omega), trivial⟩ ?_ (fun _ s => (by (try dsimp only); rw [e1]; exact s))
            repeat (first | exact kept_over | refine kept_upd rfl ?_ | refine kept_overS (by decide) ?_)
          · -- 8
            refine ei_i rfl rfl (wn_none rfl) (os_call cb_75 rfl (fun w s => turn_calls (k := 18) _  s (by decide) (by decide))) rfl ?_; rintro _ l ⟨rfl, rfl⟩; refine ⟨[_], rfl, ?_⟩
            -- 9
            refine et_quiet 9 (by kernel_rfl) rfl (by kernel_rfl) (wn_none rfl) (op_xor32 _ _ rfl rfl) rfl ?_
            -- 12
            refine et_quiet 12 (by kernel_rfl) rfl (by kernel_rfl) (wn_none rfl) (op_xor32 _ _ rfl rfl) rfl ?_
            refine et_2 (i1 := 4) (i2 := 20) (by kernel_rfl) ?_ ?_
            · -- 4
              refine ei_i rfl rfl (wn_none rfl) (os_q (op_ld 0 sc_90 rfl rfl (fillA_at (by rw [hml]; omega)))) rfl ?_; rintro _ _ ⟨rfl, rfl⟩; refine ⟨[_], rfl, ?_⟩
              -- 13
              refine et_quiet 13 (by kernel_rfl) rfl (by kernel_rfl) (wn_none rfl) (op_add32 _ _ rfl rfl) rfl ?_
              -- 18
              refine et_quiet 18 (by kernel_rfl) rfl (by kernel_rfl) (wn_none rfl) (op_add32 _ _ rfl rfl) rfl ?_
              refine et_1 (i := 20) (by kernel_rfl) ?_
              refine ei_i rfl rfl (wn_none rfl) (os_call cb_75 rfl (fun w s => turn_calls (k := 17) _  s (by decide) (by decide))) rfl ?_; rintro _ l ⟨rfl, rfl⟩; refine ⟨[_], rfl, ?_⟩
              refine et_1 (i := 22) (by kernel_rfl) ?_
              refine ei_i rfl rfl (wn_none rfl) (os_call cb_75 rfl (fun w s => turn_calls (k := 19) _  s (by decide) (by decide))) rfl ?_; rintro _ l ⟨rfl, rfl⟩; refine ⟨[_], rfl, ?_⟩
              -- 23
              refine et_quiet 23 (by kernel_rfl) rfl (by kernel_rfl) (wn_none rfl) (op_xor32 _ _ rfl rfl) rfl ?_
              -- 26
              refine et_quiet 26 (by kernel_rfl) rfl (by kernel_rfl) (wn_none rfl) (op_xor32 _ _ rfl rfl) rfl ?_
              -- 27
              refine et_quiet 27 (by kernel_rfl) rfl (by kernel_rfl) (wn_none rfl) (op_add32 _ _ rfl rfl) rfl ?_
              -- 28
              refine et_quiet 28 (by kernel_rfl) rfl (by kernel_rfl) (wn_none rfl) (op_aidx0 (k + 16) a1_100 rfl rfl rfl (by omega)) rfl ?_
              refine et_1 (i := 29) (by kernel_rfl) ?_
              refine ei_iN rfl rfl (wn_none rfl) (os_store (v := .int _ _) sc_90 rfl rfl rfl (Nat.ble_eq_true_of_le (show k + 16 + 1 ≤ _ by rw [List.size_toArray, wC_len, hfl]; omega)) (Free.zero _) (fillA_st (by rw [hml]) (by rw [hml]; omega) _)) ?_; rintro _ _ ⟨rfl, rfl⟩; refine ⟨[_], rfl, ?_⟩
              refine et_nil (by kernel_rfl) ?_
              refine px_blockN ?_
              refine px_then ?_
              refine cd_region ?_   -- 9
              refine ol_q (wn_none rfl) (op_move (v := .int _ _) rfl) rfl ?_
              refine ol_q (wn_none rfl) (op_add rfl rfl (by omega) (by omega)) rfl ?_
              refine ol_q (wn_none rfl) (op_assign (v := .int _ _) rfl) rfl ?_
              refine ol_nil ?_
              have e1 : sch (k + 1) (w16 bs 16) = sch k (w16 bs 16) ++ [next16 (sch k (w16 bs 16))] := rfl
              unfold next16 at e1
              rw [hml, show k + 16 - 16 = k by omega, show k + 16 - 15 = k + 1 by omega, show k + 16 - 7 = k + 9 by omega, show k + 16 - 2 = k + 14 by omega] at e1
              refine px_loop2 (k + 1) (by omega) (by (try dsimp only); omega) ⟨congrArg (Value.int .i64) (by omega), trivial⟩ ?_ (fun _ s => (by (try dsimp only); rw [e1]; exact s))
              repeat (first | exact kept_over | refine kept_upd rfl ?_ | refine kept_overS (by decide) ?_)
            · -- 20
              refine ei_i rfl rfl (wn_none rfl) (os_call cb_75 rfl (fun w s => turn_calls (k := 17) _  s (by decide) (by decide))) rfl ?_; rintro _ l ⟨rfl, rfl⟩; refine ⟨[_], rfl, ?_⟩
              refine et_2 (i1 := 4) (i2 := 22) (by kernel_rfl) ?_ ?_
              · -- 4
                refine ei_i rfl rfl (wn_none rfl) (os_q (op_ld 0 sc_90 rfl rfl (fillA_at (by rw [hml]; omega)))) rfl ?_; rintro _ _ ⟨rfl, rfl⟩; refine ⟨[_], rfl, ?_⟩
                -- 13
                refine et_quiet 13 (by kernel_rfl) rfl (by kernel_rfl) (wn_none rfl) (op_add32 _ _ rfl rfl) rfl ?_
                -- 18
                refine et_quiet 18 (by kernel_rfl) rfl (by kernel_rfl) (wn_none rfl) (op_add32 _ _ rfl rfl) rfl ?_
                refine et_1 (i := 22) (by kernel_rfl) ?_
                refine ei_i rfl rfl (wn_none rfl) (os_call cb_75 rfl (fun w s => turn_calls (k := 19) _  s (by decide) (by decide))) rfl ?_; rintro _ l ⟨rfl, rfl⟩; refine ⟨[_], rfl, ?_⟩
                -- 23
                refine et_quiet 23 (by kernel_rfl) rfl (by kernel_rfl) (wn_none rfl) (op_xor32 _ _ rfl rfl) rfl ?_
                -- 26
                refine et_quiet 26 (by kernel_rfl) rfl (by kernel_rfl) (wn_none rfl) (op_xor32 _ _ rfl rfl) rfl ?_
                -- 27
                refine et_quiet 27 (by kernel_rfl) rfl (by kernel_rfl) (wn_none rfl) (op_add32 _ _ rfl rfl) rfl ?_
                -- 28
                refine et_quiet 28 (by kernel_rfl) rfl (by kernel_rfl) (wn_none rfl) (op_aidx0 (k + 16) a1_100 rfl rfl rfl (by omega)) rfl ?_
                refine et_1 (i := 29) (by kernel_rfl) ?_
                refine ei_iN rfl rfl (wn_none rfl) (os_store (v := .int _ _) sc_90 rfl rfl rfl (Nat.ble_eq_true_of_le (show k + 16 + 1 ≤ _ by rw [List.size_toArray, wC_len, hfl]; omega)) (Free.zero _) (fillA_st (by rw [hml]) (by rw [hml]; omega) _)) ?_; rintro _ _ ⟨rfl, rfl⟩; refine ⟨[_], rfl, ?_⟩
                refine et_nil (by kernel_rfl) ?_
                refine px_blockN ?_
                refine px_then ?_
                refine cd_region ?_   -- 9
                refine ol_q (wn_none rfl) (op_move (v := .int _ _) rfl) rfl ?_
                refine ol_q (wn_none rfl) (op_add rfl rfl (by omega) (by omega)) rfl ?_
                refine ol_q (wn_none rfl) (op_assign (v := .int _ _) rfl) rfl ?_
                refine ol_nil ?_
                have e1 : sch (k + 1) (w16 bs 16) = sch k (w16 bs 16) ++ [next16 (sch k (w16 bs 16))] := rfl
                unfold next16 at e1
                rw [hml, show k + 16 - 16 = k by omega, show k + 16 - 15 = k + 1 by omega, show k + 16 - 7 = k + 9 by omega, show k + 16 - 2 = k + 14 by omega] at e1
                refine px_loop2 (k + 1) (by omega) (by (try dsimp only); omega) ⟨congrArg (Value.int .i64) (by omega), trivial⟩ ?_ (fun _ s => (by (try dsimp only); rw [e1]; exact s))
                repeat (first | exact kept_over | refine kept_upd rfl ?_ | refine kept_overS (by decide) ?_)
              · -- 22
                refine ei_i rfl rfl (wn_none rfl) (os_call cb_75 rfl (fun w s => turn_calls (k := 19) _  s (by decide) (by decide))) rfl ?_; rintro _ l ⟨rfl, rfl⟩; refine ⟨[_], rfl, ?_⟩
                -- 23
                refine et_quiet 23 (by kernel_rfl) rfl (by kernel_rfl) (wn_none rfl) (op_xor32 _ _ rfl rfl) rfl ?_
                -- 26
                refine et_quiet 26 (by kernel_rfl) rfl (by kernel_rfl) (wn_none rfl) (op_xor32 _ _ rfl rfl) rfl ?_
                refine et_1 (i := 4) (by kernel_rfl) ?_
                refine ei_i rfl rfl (wn_none rfl) (os_q (op_ld 0 sc_90 rfl rfl (fillA_at (by rw [hml]; omega)))) rfl ?_; rintro _ _ ⟨rfl, rfl⟩; refine ⟨[_], rfl, ?_⟩
                -- 13
                refine et_quiet 13 (by kernel_rfl) rfl (by kernel_rfl) (wn_none rfl) (op_add32 _ _ rfl rfl) rfl ?_
                -- 18
                refine et_quiet 18 (by kernel_rfl) rfl (by kernel_rfl) (wn_none rfl) (op_add32 _ _ rfl rfl) rfl ?_
                -- 27
                refine et_quiet 27 (by kernel_rfl) rfl (by kernel_rfl) (wn_none rfl) (op_add32 _ _ rfl rfl) rfl ?_
                -- 28
                refine et_quiet 28 (by kernel_rfl) rfl (by kernel_rfl) (wn_none rfl) (op_aidx0 (k + 16) a1_100 rfl rfl rfl (by omega)) rfl ?_
                refine et_1 (i := 29) (by kernel_rfl) ?_
                refine ei_iN rfl rfl (wn_none rfl) (os_store (v := .int _ _) sc_90 rfl rfl rfl (Nat.ble_eq_true_of_le (show k + 16 + 1 ≤ _ by rw [List.size_toArray, wC_len, hfl]; omega)) (Free.zero _) (fillA_st (by rw [hml]) (by rw [hml]; omega) _)) ?_; rintro _ _ ⟨rfl, rfl⟩; refine ⟨[_], rfl, ?_⟩
                refine et_nil (by kernel_rfl) ?_
                refine px_blockN ?_
                refine px_then ?_
                refine cd_region ?_   -- 9
                refine ol_q (wn_none rfl) (op_move (v := .int _ _) rfl) rfl ?_
                refine ol_q (wn_none rfl) (op_add rfl rfl (by omega) (by omega)) rfl ?_
                refine ol_q (wn_none rfl) (op_assign (v := .int _ _) rfl) rfl ?_
                refine ol_nil ?_
                have e1 : sch (k + 1) (w16 bs 16) = sch k (w16 bs 16) ++ [next16 (sch k (w16 bs 16))] := rfl
                unfold next16 at e1
                rw [hml, show k + 16 - 16 = k by omega, show k + 16 - 15 = k + 1 by omega, show k + 16 - 7 = k + 9 by omega, show k + 16 - 2 = k + 14 by omega] at e1
                refine px_loop2 (k + 1) (by omega) (by (try dsimp only); omega) ⟨congrArg (Value.int .i64) (by omega), trivial⟩ ?_ (fun _ s => (by (try dsimp only); rw [e1]; exact s))
                repeat (first | exact kept_over | refine kept_upd rfl ?_ | refine kept_overS (by decide) ?_)
      · -- 17
        refine ei_i rfl rfl (wn_none rfl) (os_q (op_ld 0 sc_90 rfl rfl (fillA_at (by rw [hml]; omega)))) rfl ?_; rintro _ _ ⟨rfl, rfl⟩; refine ⟨[_], rfl, ?_⟩
        refine et_2 (i1 := 4) (i2 := 6) (by kernel_rfl) ?_ ?_
        · -- 4
          refine ei_i rfl rfl (wn_none rfl) (os_q (op_ld 0 sc_90 rfl rfl (fillA_at (by rw [hml]; omega)))) rfl ?_; rintro _ _ ⟨rfl, rfl⟩; refine ⟨[_], rfl, ?_⟩
          refine et_1 (i := 6) (by kernel_rfl) ?_
          refine ei_i rfl rfl (wn_none rfl) (os_call cb_75 rfl (fun w s => turn_calls (k := 7) _  s (by decide) (by decide))) rfl ?_; rintro _ l ⟨rfl, rfl⟩; refine ⟨[_], rfl, ?_⟩
          refine et_1 (i := 8) (by kernel_rfl) ?_
          refine ei_i rfl rfl (wn_none rfl) (os_call cb_75 rfl (fun w s => turn_calls (k := 18) _  s (by decide) (by decide))) rfl ?_; rintro _ l ⟨rfl, rfl⟩; refine ⟨[_], rfl, ?_⟩
          -- 9
          refine et_quiet 9 (by kernel_rfl) rfl (by kernel_rfl) (wn_none rfl) (op_xor32 _ _ rfl rfl) rfl ?_
          -- 12
          refine et_quiet 12 (by kernel_rfl) rfl (by kernel_rfl) (wn_none rfl) (op_xor32 _ _ rfl rfl) rfl ?_
          -- 13
          refine et_quiet 13 (by kernel_rfl) rfl (by kernel_rfl) (wn_none rfl) (op_add32 _ _ rfl rfl) rfl ?_
          -- 18
          refine et_quiet 18 (by kernel_rfl) rfl (by kernel_rfl) (wn_none rfl) (op_add32 _ _ rfl rfl) rfl ?_
          refine et_1 (i := 20) (by kernel_rfl) ?_
          refine ei_i rfl rfl (wn_none rfl) (os_call cb_75 rfl (fun w s => turn_calls (k := 17) _  s (by decide) (by decide))) rfl ?_; rintro _ l ⟨rfl, rfl⟩; refine ⟨[_], rfl, ?_⟩
          refine et_1 (i := 22) (by kernel_rfl) ?_
          refine ei_i rfl rfl (wn_none rfl) (os_call cb_75 rfl (fun w s => turn_calls (k := 19) _  s (by decide) (by decide))) rfl ?_; rintro _ l ⟨rfl, rfl⟩; refine ⟨[_], rfl, ?_⟩
          -- 23
          refine et_quiet 23 (by kernel_rfl) rfl (by kernel_rfl) (wn_none rfl) (op_xor32 _ _ rfl rfl) rfl ?_
          -- 26
          refine et_quiet 26 (by kernel_rfl) rfl (by kernel_rfl) (wn_none rfl) (op_xor32 _ _ rfl rfl) rfl ?_
          -- 27
          refine et_quiet 27 (by kernel_rfl) rfl (by kernel_rfl) (wn_none rfl) (op_add32 _ _ rfl rfl) rfl ?_
          -- 28
          refine et_quiet 28 (by kernel_rfl) rfl (by kernel_rfl) (wn_none rfl) (op_aidx0 (k + 16) a1_100 rfl rfl rfl (by omega)) rfl ?_
          refine et_1 (i := 29) (by kernel_rfl) ?_
          refine ei_iN rfl rfl (wn_none rfl) (os_store (v := .int _ _) sc_90 rfl rfl rfl (Nat.ble_eq_true_of_le (show k + 16 + 1 ≤ _ by rw [List.size_toArray, wC_len, hfl]; omega)) (Free.zero _) (fillA_st (by rw [hml]) (by rw [hml]; omega) _)) ?_; rintro _ _ ⟨rfl, rfl⟩; refine ⟨[_], rfl, ?_⟩
          refine et_nil (by kernel_rfl) ?_
          refine px_blockN ?_
          refine px_then ?_
          refine cd_region ?_   -- 9
          refine ol_q (wn_none rfl) (op_move (v := .int _ _) rfl) rfl ?_
          refine ol_q (wn_none rfl) (op_add rfl rfl (by omega) (by omega)) rfl ?_
          refine ol_q (wn_none rfl) (op_assign (v := .int _ _) rfl) rfl ?_
          refine ol_nil ?_
          have e1 : sch (k + 1) (w16 bs 16) = sch k (w16 bs 16) ++ [next16 (sch k (w16 bs 16))] := rfl
          unfold next16 at e1
          rw [hml, show k + 16 - 16 = k by omega, show k + 16 - 15 = k + 1 by omega, show k + 16 - 7 = k + 9 by omega, show k + 16 - 2 = k + 14 by omega] at e1
          refine px_loop2 (k + 1) (by omega) (by (try dsimp only); omega) ⟨congrArg (Value.int .i64) (by omega), trivial⟩ ?_ (fun _ s => (by (try dsimp only); rw [e1]; exact s))
          repeat (first | exact kept_over | refine kept_upd rfl ?_ | refine kept_overS (by decide) ?_)
        · -- 6
          refine ei_i rfl rfl (wn_none rfl) (os_call cb_75 rfl (fun w s => turn_calls (k := 7) _  s (by decide) (by decide))) rfl ?_; rintro _ l ⟨rfl, rfl⟩; refine ⟨[_], rfl, ?_⟩
          refine et_2 (i1 := 4) (i2 := 8) (by kernel_rfl) ?_ ?_
          · -- 4
            refine ei_i rfl rfl (wn_none rfl) (os_q (op_ld 0 sc_90 rfl rfl (fillA_at (by rw [hml]; omega)))) rfl ?_; rintro _ _ ⟨rfl, rfl⟩; refine ⟨[_], rfl, ?_⟩
            refine et_1 (i := 8) (by kernel_rfl) ?_
            refine ei_i rfl rfl (wn_none rfl) (os_call cb_75 rfl (fun w s => turn_calls (k := 18) _  s (by decide) (by decide))) rfl ?_; rintro _ l ⟨rfl, rfl⟩; refine ⟨[_], rfl, ?_⟩
            -- 9
            refine et_quiet 9 (by kernel_rfl) rfl (by kernel_rfl) (wn_none rfl) (op_xor32 _ _ rfl rfl) rfl ?_
            -- 12
            refine et_quiet 12 (by kernel_rfl) rfl (by kernel_rfl) (wn_none rfl) (op_xor32 _ _ rfl rfl) rfl ?_
            -- 13
            refine et_quiet 13 (by kernel_rfl) rfl (by kernel_rfl) (wn_none rfl) (op_add32 _ _ rfl rfl) rfl ?_
            -- 18
            refine et_quiet 18 (by kernel_rfl) rfl (by kernel_rfl) (wn_none rfl) (op_add32 _ _ rfl rfl) rfl ?_
            refine et_1 (i := 20) (by kernel_rfl) ?_
            refine ei_i rfl rfl (wn_none rfl) (os_call cb_75 rfl (fun w s => turn_calls (k := 17) _  s (by decide) (by decide))) rfl ?_; rintro _ l ⟨rfl, rfl⟩; refine ⟨[_], rfl, ?_⟩
            refine et_1 (i := 22) (by kernel_rfl) ?_
            refine ei_i rfl rfl (wn_none rfl) (os_call cb_75 rfl (fun w s => turn_calls (k := 19) _  s (by decide) (by decide))) rfl ?_; rintro _ l ⟨rfl, rfl⟩; refine ⟨[_], rfl, ?_⟩
            -- 23
            refine et_quiet 23 (by kernel_rfl) rfl (by kernel_rfl) (wn_none rfl) (op_xor32 _ _ rfl rfl) rfl ?_
            -- 26
            refine et_quiet 26 (by kernel_rfl) rfl (by kernel_rfl) (wn_none rfl) (op_xor32 _ _ rfl rfl) rfl ?_
            -- 27
            refine et_quiet 27 (by kernel_rfl) rfl (by kernel_rfl) (wn_none rfl) (op_add32 _ _ rfl rfl) rfl ?_
            -- 28
            refine et_quiet 28 (by kernel_rfl) rfl (by kernel_rfl) (wn_none rfl) (op_aidx0 (k + 16) a1_100 rfl rfl rfl (by omega)) rfl ?_
            refine et_1 (i := 29) (by kernel_rfl) ?_
            refine ei_iN rfl rfl (wn_none rfl) (os_store (v := .int _ _) sc_90 rfl rfl rfl (Nat.ble_eq_true_of_le (show k + 16 + 1 ≤ _ by rw [List.size_toArray, wC_len, hfl]; omega)) (Free.zero _) (fillA_st (by rw [hml]) (by rw [hml]; omega) _)) ?_; rintro _ _ ⟨rfl, rfl⟩; refine ⟨[_], rfl, ?_⟩
            refine et_nil (by kernel_rfl) ?_
            refine px_blockN ?_
            refine px_then ?_
            refine cd_region ?_   -- 9
            refine ol_q (wn_none rfl) (op_move (v := .int _ _) rfl) rfl ?_
            refine ol_q (wn_none rfl) (op_add rfl rfl (by omega) (by omega)) rfl ?_
            refine ol_q (wn_none rfl) (op_assign (v := .int _ _) rfl) rfl ?_
            refine ol_nil ?_
            have e1 : sch (k + 1) (w16 bs 16) = sch k (w16 bs 16) ++ [next16 (sch k (w16 bs 16))] := rfl
            unfold next16 at e1
            rw [hml, show k + 16 - 16 = k by omega, show k + 16 - 15 = k + 1 by omega, show k + 16 - 7 = k + 9 by omega, show k + 16 - 2 = k + 14 by omega] at e1
            refine px_loop2 (k + 1) (by omega) (by (try dsimp only); omega) ⟨congrArg (Value.int .i64) (by omega), trivial⟩ ?_ (fun _ s => (by (try dsimp only); rw [e1]; exact s))
            repeat (first | exact kept_over | refine kept_upd rfl ?_ | refine kept_overS (by decide) ?_)
          · -- 8
            refine ei_i rfl rfl (wn_none rfl) (os_call cb_75 rfl (fun w s => turn_calls (k := 18) _  s (by decide) (by decide))) rfl ?_; rintro _ l ⟨rfl, rfl⟩; refine ⟨[_], rfl, ?_⟩
            -- 9
            refine et_quiet 9 (by kernel_rfl) rfl (by kernel_rfl) (wn_none rfl) (op_xor32 _ _ rfl rfl) rfl ?_
            -- 12
            refine et_quiet 12 (by kernel_rfl) rfl (by kernel_rfl) (wn_none rfl) (op_xor32 _ _ rfl rfl) rfl ?_
            refine et_2 (i1 := 4) (i2 := 20) (by kernel_rfl) ?_ ?_
            · -- 4
              refine ei_i rfl rfl (wn_none rfl) (os_q (op_ld 0 sc_90 rfl rfl (fillA_at (by rw [hml]; omega)))) rfl ?_; rintro _ _ ⟨rfl, rfl⟩; refine ⟨[_], rfl, ?_⟩
              -- 13
              refine et_quiet 13 (by kernel_rfl) rfl (by kernel_rfl) (wn_none rfl) (op_add32 _ _ rfl rfl) rfl ?_
              -- 18
              refine et_quiet 18 (by kernel_rfl) rfl (by kernel_rfl) (wn_none rfl) (op_add32 _ _ rfl rfl) rfl ?_
              refine et_1 (i := 20) (by kernel_rfl) ?_
              refine ei_i rfl rfl (wn_none rfl) (os_call cb_75 rfl (fun w s => turn_calls (k := 17) _  s (by decide) (by decide))) rfl ?_; rintro _ l ⟨rfl, rfl⟩; refine ⟨[_], rfl, ?_⟩
              refine et_1 (i := 22) (by kernel_rfl) ?_
              refine ei_i rfl rfl (wn_none rfl) (os_call cb_75 rfl (fun w s => turn_calls (k := 19) _  s (by decide) (by decide))) rfl ?_; rintro _ l ⟨rfl, rfl⟩; refine ⟨[_], rfl, ?_⟩
              -- 23
              refine et_quiet 23 (by kernel_rfl) rfl (by kernel_rfl) (wn_none rfl) (op_xor32 _ _ rfl rfl) rfl ?_
              -- 26
              refine et_quiet 26 (by kernel_rfl) rfl (by kernel_rfl) (wn_none rfl) (op_xor32 _ _ rfl rfl) rfl ?_
              -- 27
              refine et_quiet 27 (by kernel_rfl) rfl (by kernel_rfl) (wn_none rfl) (op_add32 _ _ rfl rfl) rfl ?_
              -- 28
              refine et_quiet 28 (by kernel_rfl) rfl (by kernel_rfl) (wn_none rfl) (op_aidx0 (k + 16) a1_100 rfl rfl rfl (by omega)) rfl ?_
              refine et_1 (i := 29) (by kernel_rfl) ?_
              refine ei_iN rfl rfl (wn_none rfl) (os_store (v := .int _ _) sc_90 rfl rfl rfl (Nat.ble_eq_true_of_le (show k + 16 + 1 ≤ _ by rw [List.size_toArray, wC_len, hfl]; omega)) (Free.zero _) (fillA_st (by rw [hml]) (by rw [hml]; omega) _)) ?_; rintro _ _ ⟨rfl, rfl⟩; refine ⟨[_], rfl, ?_⟩
              refine et_nil (by kernel_rfl) ?_
              refine px_blockN ?_
              refine px_then ?_
              refine cd_region ?_   -- 9
              refine ol_q (wn_none rfl) (op_move (v := .int _ _) rfl) rfl ?_
              refine ol_q (wn_none rfl) (op_add rfl rfl (by omega) (by omega)) rfl ?_
              refine ol_q (wn_none rfl) (op_assign (v := .int _ _) rfl) rfl ?_
              refine ol_nil ?_
              have e1 : sch (k + 1) (w16 bs 16) = sch k (w16 bs 16) ++ [next16 (sch k (w16 bs 16))] := rfl
              unfold next16 at e1
              rw [hml, show k + 16 - 16 = k by omega, show k + 16 - 15 = k + 1 by omega, show k + 16 - 7 = k + 9 by omega, show k + 16 - 2 = k + 14 by omega] at e1
              refine px_loop2 (k + 1) (by omega) (by (try dsimp only); omega) ⟨congrArg (Value.int .i64) (by omega), trivial⟩ ?_ (fun _ s => (by (try dsimp only); rw [e1]; exact s))
              repeat (first | exact kept_over | refine kept_upd rfl ?_ | refine kept_overS (by decide) ?_)
            · -- 20
              refine ei_i rfl rfl (wn_none rfl) (os_call cb_75 rfl (fun w s => turn_calls (k := 17) _  s (by decide) (by decide))) rfl ?_; rintro _ l ⟨rfl, rfl⟩; refine ⟨[_], rfl, ?_⟩
              refine et_2 (i1 := 4) (i2 := 22) (by kernel_rfl) ?_ ?_
              · -- 4
                refine ei_i rfl rfl (wn_none rfl) (os_q (op_ld 0 sc_90 rfl rfl (fillA_at (by rw [hml]; omega)))) rfl ?_; rintro _ _ ⟨rfl, rfl⟩; refine ⟨[_], rfl, ?_⟩
                -- 13
                refine et_quiet 13 (by kernel_rfl) rfl (by kernel_rfl) (wn_none rfl) (op_add32 _ _ rfl rfl) rfl ?_
                -- 18
                refine et_quiet 18 (by kernel_rfl) rfl (by kernel_rfl) (wn_none rfl) (op_add32 _ _ rfl rfl) rfl ?_
                refine et_1 (i := 22) (by kernel_rfl) ?_
                refine ei_i rfl rfl (wn_none rfl) (os_call cb_75 rfl (fun w s => turn_calls (k := 19) _  s (by decide) (by decide))) rfl ?_; rintro _ l ⟨rfl, rfl⟩; refine ⟨[_], rfl, ?_⟩
                -- 23
                refine et_quiet 23 (by kernel_rfl) rfl (by kernel_rfl) (wn_none rfl) (op_xor32 _ _ rfl rfl) rfl ?_
                -- 26
                refine et_quiet 26 (by kernel_rfl) rfl (by kernel_rfl) (wn_none rfl) (op_xor32 _ _ rfl rfl) rfl ?_
                -- 27
                refine et_quiet 27 (by kernel_rfl) rfl (by kernel_rfl) (wn_none rfl) (op_add32 _ _ rfl rfl) rfl ?_
                -- 28
                refine et_quiet 28 (by kernel_rfl) rfl (by kernel_rfl) (wn_none rfl) (op_aidx0 (k + 16) a1_100 rfl rfl rfl (by omega)) rfl ?_
                refine et_1 (i := 29) (by kernel_rfl) ?_
                refine ei_iN rfl rfl (wn_none rfl) (os_store (v := .int _ _) sc_90 rfl rfl rfl (Nat.ble_eq_true_of_le (show k + 16 + 1 ≤ _ by rw [List.size_toArray, wC_len, hfl]; omega)) (Free.zero _) (fillA_st (by rw [hml]) (by rw [hml]; omega) _)) ?_; rintro _ _ ⟨rfl, rfl⟩; refine ⟨[_], rfl, ?_⟩
                refine et_nil (by kernel_rfl) ?_
                refine px_blockN ?_
                refine px_then ?_
                refine cd_region ?_   -- 9
                refine ol_q (wn_none rfl) (op_move (v := .int _ _) rfl) rfl ?_
                refine ol_q (wn_none rfl) (op_add rfl rfl (by omega) (by omega)) rfl ?_
                refine ol_q (wn_none rfl) (op_assign (v := .int _ _) rfl) rfl ?_
                refine ol_nil ?_
                have e1 : sch (k + 1) (w16 bs 16) = sch k (w16 bs 16) ++ [next16 (sch k (w16 bs 16))] := rfl
                unfold next16 at e1
                rw [hml, show k + 16 - 16 = k by omega, show k + 16 - 15 = k + 1 by omega, show k + 16 - 7 = k + 9 by omega, show k + 16 - 2 = k + 14 by omega] at e1
                refine px_loop2 (k + 1) (by omega) (by (try dsimp only); omega) ⟨congrArg (Value.int .i64) (by omega), trivial⟩ ?_ (fun _ s => (by (try dsimp only); rw [e1]; exact s))
                repeat (first | exact kept_over | refine kept_upd rfl ?_ | refine kept_overS (by decide) ?_)
              · -- 22
                refine ei_i rfl rfl (wn_none rfl) (os_call cb_75 rfl (fun w s => turn_calls (k := 19) _  s (by decide) (by decide))) rfl ?_; rintro _ l ⟨rfl, rfl⟩; refine ⟨[_], rfl, ?_⟩
                -- 23
                refine et_quiet 23 (by kernel_rfl) rfl (by kernel_rfl) (wn_none rfl) (op_xor32 _ _ rfl rfl) rfl ?_
                -- 26
                refine et_quiet 26 (by kernel_rfl) rfl (by kernel_rfl) (wn_none rfl) (op_xor32 _ _ rfl rfl) rfl ?_
                refine et_1 (i := 4) (by kernel_rfl) ?_
                refine ei_i rfl rfl (wn_none rfl) (os_q (op_ld 0 sc_90 rfl rfl (fillA_at (by rw [hml]; omega)))) rfl ?_; rintro _ _ ⟨rfl, rfl⟩; refine ⟨[_], rfl, ?_⟩
                -- 13
                refine et_quiet 13 (by kernel_rfl) rfl (by kernel_rfl) (wn_none rfl) (op_add32 _ _ rfl rfl) rfl ?_
                -- 18
                refine et_quiet 18 (by kernel_rfl) rfl (by kernel_rfl) (wn_none rfl) (op_add32 _ _ rfl rfl) rfl ?_
                -- 27
                refine et_quiet 27 (by kernel_rfl) rfl (by kernel_rfl) (wn_none rfl) (op_add32 _ _ rfl rfl) rfl ?_
                -- 28
                refine et_quiet 28 (by kernel_rfl) rfl (by kernel_rfl) (wn_none rfl) (op_aidx0 (k + 16) a1_100 rfl rfl rfl (by omega)) rfl ?_
                refine et_1 (i := 29) (by kernel_rfl) ?_
                refine ei_iN rfl rfl (wn_none rfl) (os_store (v := .int _ _) sc_90 rfl rfl rfl (Nat.ble_eq_true_of_le (show k + 16 + 1 ≤ _ by rw [List.size_toArray, wC_len, hfl]; omega)) (Free.zero _) (fillA_st (by rw [hml]) (by rw [hml]; omega) _)) ?_; rintro _ _ ⟨rfl, rfl⟩; refine ⟨[_], rfl, ?_⟩
                refine et_nil (by kernel_rfl) ?_
                refine px_blockN ?_
                refine px_then ?_
                refine cd_region ?_   -- 9
                refine ol_q (wn_none rfl) (op_move (v := .int _ _) rfl) rfl ?_
                refine ol_q (wn_none rfl) (op_add rfl rfl (by omega) (by omega)) rfl ?_
                refine ol_q (wn_none rfl) (op_assign (v := .int _ _) rfl) rfl ?_
                refine ol_nil ?_
                have e1 : sch (k + 1) (w16 bs 16) = sch k (w16 bs 16) ++ [next16 (sch k (w16 bs 16))] := rfl
                unfold next16 at e1
                rw [hml, show k + 16 - 16 = k by omega, show k + 16 - 15 = k + 1 by omega, show k + 16 - 7 = k + 9 by omega, show k + 16 - 2 = k + 14 by omega] at e1
                refine px_loop2 (k + 1) (by omega) (by (try dsimp only); omega) ⟨congrArg (Value.int .i64) (by omega), trivial⟩ ?_ (fun _ s => (by (try dsimp only); rw [e1]; exact s))
                repeat (first | exact kept_over | refine kept_upd rfl ?_ | refine kept_overS (by decide) ?_)
    · have hp2 := hb2
      (try simp only [decide_eq_true_eq, decide_eq_false_iff_not, Bool.not_eq_true', Bool.not_eq_false', ne_eq, Decidable.not_not] at hp2)
      have hk48 : k = 48 := by omega
      have e9 : fillA (sch k (w16 bs 16)) = layM bs := by rw [fillA_64 (by rw [hml]; omega), hk48, layM]
      refine cd_exit ?_
      refine px_thenE ?_
      refine px_thenE ?_
      refine px_blockE ?_
      refine px_then ?_
      refine cd_sr ?_   -- 12
      refine ol_q (wn_none rfl) (op_lda (L := wC _) 0 ag_100 rfl rfl (List.take_of_length_le (by simp [wC_len] <;> omega)) (by simp [wC_len] <;> omega)) rfl ?_
      refine ol_pull1 ?_
      refine ol_iN (wn_none rfl) (os_storew (wC _) ag_100 rfl rfl (by rw [wC_len]; exact hfl) (wC_one _) (by simp [wC_len, w8C_len]) (Free.zero _)) ?_; rintro _ _ ⟨rfl, rfl⟩
      refine ol_nil_then ?_
      refine cd_ret ?_
      exact px_rv1 rfl (rv_cella 0 ag_100 rfl rfl (List.take_of_length_le (by first | (simp [wC_len]; done) | (simp [wC_len]; omega))) (by first | (simp [wC_len]; done) | (simp [wC_len]; omega))) (fun _ s => ((s.del 1).del 0)) ⟨by rw [e9], rfl⟩
end Go.SL

import Derived.Test.YtdeemlgkckpedaaQ6
set_option linter.unusedVariables false
set_option linter.unusedSimpArgs false
namespace Go.SL
open Go.Proofs

set_option maxRecDepth 100000 in
set_option maxHeartbeats 1000000 in
theorem Rot_calls {w0 w : World} {l : List HProp} (X : UInt32) (j k : Int) (hs : Sat w0 w (l)) (hj : j = -k) (h0 : 0 < k) (h1 : k < 32) :
  Calls Try.prog 121 #[.int .u32 (X.toNat : Int), .int .i64 j] w (Ret w0 fun v l' => v = .int .u32 ((rotr X k.toNat).toNat : Int) ∧ l' = l) := by
 have hu : u64N j = 18446744073709551616 - k.toNat := by unfold u64N; omega
 refine calls_enter Try.func121 rfl rfl rfl hs ?_
 refine Z1 ?_
 refine Z1q ?_
 refine oq (op_conv64i Try.underlying74 (by rw [Try.underlying3]; rfl) rfl) ?_
 refine oq (op_and31 (m := 32 - k.toNat) rfl (by omega) rfl (by omega)) ?_
 refine Z1q ?_
 refine Z4 ?_
 refine oq (op_shl32 (m := 32 - k.toNat) _ rfl rfl (by omega)) ?_
 refine Z2l ?_
 refine oq (op_sub32m (k := k.toNat) rfl rfl (by omega)) ?_
 refine oq (op_shr32 (m := k.toNat) _ rfl rfl (by omega)) ?_
 refine oq (op_or32 _ _ rfl rfl) ?_
 exact Z9d

set_option maxRecDepth 100000 in
set_option maxHeartbeats 1000000 in
theorem turn_calls {w0 w : World} {l : List HProp} (X : UInt32) (k : Int) (hs : Sat w0 w (l)) (h0 : 0 < k) (h1 : k < 32) :
  Calls Try.prog 120 #[.int .u32 (X.toNat : Int), .int .i64 k] w (Ret w0 fun v l' => v = .int .u32 ((rotr X k.toNat).toNat : Int) ∧ l' = l) := by
 refine calls_enter Try.func120 rfl rfl rfl hs ?_
 refine Z1 ?_
 refine Z1q ?_
 refine Za5 ?_
 refine oi (os_call cb_121 rfl (fun w s => Rot_calls _ _ _  s (show _ = -k by rw [wrap_i64 (by omega) (by omega)]; omega) h0 h1)) ?_; rintro _ l ⟨rfl, rfl⟩
 exact Z9d

set_option maxRecDepth 100000 in
set_option maxHeartbeats 1000000 in
theorem first_calls {w0 w : World} {l : List HProp}  (hs : Sat w0 w (l))  :
  Calls Try.prog 109 #[] w (Ret w0 fun v l' => v = .agg (w8C H8).toArray ∧ l' = l) := by
 refine calls_enter Try.func109 rfl rfl rfl hs ?_
 refine Z1 ?_
 refine oi (os_alloc (cs := (wC (List.replicate 8 0)).toArray) zB_164 (by kernel_rfl)) ?_; rintro _ _ ⟨bx1, rfl, rfl⟩
 refine Z14 ?_
 refine oq (op_builda (L := wC H0) (vs := [(0, .int .u32 1779033703), (1, .int .u32 3144134277), (2, .int .u32 1013904242), (3, .int .u32 2773480762), (4, .int .u32 1359893119), (5, .int .u32 2600822924), (6, .int .u32 528734635), (7, .int .u32 1541459225)]) ba_164 rfl (by kernel_rfl)) ?_
 refine oN (os_storew (wC _) ag_164 rfl rfl (by rw [wC_len]; rfl) (wC_one _) (by simp [wC_len, w8C_len]) (Free.zero _)) ?_; rintro _ _ ⟨rfl, rfl⟩
 refine Z1s ?_
 exact px_rv1 rfl (rv_cella 0 ag_164 rfl rfl (List.take_of_length_le (by first | (simp [wC_len, H0]; done) | (simp [wC_len]; omega))) (by first | (simp [wC_len, H0]; done) | (simp [wC_len]; omega))) (fun _ s => (s.del 0)) ⟨rfl, rfl⟩

set_option maxRecDepth 100000 in
theorem keys_calls {w0 w : World} {l : List HProp}  (hs : Sat w0 w (l))  :
  Calls Try.prog 119 #[] w (Ret w0 fun v l' => v = .agg (wC K64).toArray ∧ l' = l) := by
 refine calls_enter Try.func119 rfl rfl rfl hs ?_
 refine Z1 ?_
 refine Z7m ?_; intro bx1
 refine Z14 ?_
 refine oq (op_builda (L := wC K64) (vs := [(0, .int .u32 1116352408), (1, .int .u32 1899447441), (2, .int .u32 3049323471), (3, .int .u32 3921009573), (4, .int .u32 961987163), (5, .int .u32 1508970993), (6, .int .u32 2453635748), (7, .int .u32 2870763221), (8, .int .u32 3624381080), (9, .int .u32 310598401), (10, .int .u32 607225278), (11, .int .u32 1426881987), (12, .int .u32 1925078388), (13, .int .u32 2162078206), (14, .int .u32 2614888103), (15, .int .u32 3248222580), (16, .int .u32 3835390401), (17, .int .u32 4022224774), (18, .int .u32 264347078), (19, .int .u32 604807628), (20, .int .u32 770255983), (21, .int .u32 1249150122), (22, .int .u32 1555081692), (23, .int .u32 1996064986), (24, .int .u32 2554220882), (25, .int .u32 2821834349), (26, .int .u32 2952996808), (27, .int .u32 3210313671), (28, .int .u32 3336571891), (29, .int .u32 3584528711), (30, .int .u32 113926993), (31, .int .u32 338241895), (32, .int .u32 666307205), (33, .int .u32 773529912), (34, .int .u32 1294757372), (35, .int .u32 1396182291), (36, .int .u32 1695183700), (37, .int .u32 1986661051), (38, .int .u32 2177026350), (39, .int .u32 2456956037), (40, .int .u32 2730485921), (41, .int .u32 2820302411), (42, .int .u32 3259730800), (43, .int .u32 3345764771), (44, .int .u32 3516065817), (45, .int .u32 3600352804), (46, .int .u32 4094571909), (47, .int .u32 275423344), (48, .int .u32 430227734), (49, .int .u32 506948616), (50, .int .u32 659060556), (51, .int .u32 883997877), (52, .int .u32 958139571), (53, .int .u32 1322822218), (54, .int .u32 1537002063), (55, .int .u32 1747873779), (56, .int .u32 1955562222), (57, .int .u32 2024104815), (58, .int .u32 2227730452), (59, .int .u32 2361852424), (60, .int .u32 2428436474), (61, .int .u32 2756734187), (62, .int .u32 3204031479), (63, .int .u32 3329325298)]) ba_168 rfl (by kernel_rfl)) ?_
 refine oN (os_storew (wC _) ag_168 rfl rfl (by rw [wC_len]; rfl) (wC_one _) (by simp [wC_len, w8C_len]) (Free.zero _)) ?_; rintro _ _ ⟨rfl, rfl⟩
 refine Z1s ?_
 exact px_rv1 rfl (rv_cella 0 ag_168 rfl rfl (List.take_of_length_le (by first | (simp [wC_len, K64_len]; done) | (simp [wC_len]; omega))) (by first | (simp [wC_len, K64_len]; done) | (simp [wC_len]; omega))) (fun _ s => (s.del 0)) ⟨rfl, rfl⟩

set_option maxRecDepth 100000 in
set_option maxHeartbeats 1000000 in
theorem lay_calls {w0 w : World} {l : List HProp} (bo : Option Addr) (bc : Nat) (bs : List UInt8) (hs : Sat w0 w (l)) (hr : Rds w0 l encU8 bo bs) (hb : bs.length = 64) :
  Calls Try.prog 118 #[.slice bo bs.length bc] w (Ret w0 fun v l' => v = .agg (wC (layM bs)).toArray ∧ l' = l) := by
 refine calls_enter Try.func118 rfl rfl rfl hs ?_
 refine Z1 ?_
 refine Z7m ?_; intro bx1
 refine Z14 ?_
 refine Z7m ?_; intro bx2
 refine Zs ?_
 refine Ze ?_
 refine Z3r ?_
 refine cd_loop2 (α := Nat) [(4, 4), (8, 46)] (fun x => [(8, .int .i64 (x : Int))]) (fun x => Blk bx2 (.cells (wC (fillA (w16 bs x))).toArray 168 (0, 0)) :: Blk bx1 (.cells (wC (List.replicate 64 0)).toArray 168 (0, 0)) :: l) (fun x => x ≤ 16) (fun x => 16 - x) 0 (Nat.zero_le _) ⟨rfl, trivial⟩ (fun _ s => s) ?_
 rintro i hi f; (try dsimp only at hi ⊢)
 refine Zy ?_
 refine cd_cond rfl (fun hb1 => ?_) (fun hb1 => ?_)
 ·have hp1 := hb1
  (try simp only [bn] at hp1)
  refine Z2i ?_
  refine Zb ?_
  refine cd_drawt (M := []) mx [] 35 (by kernel_rfl) rfl rfl ?_
  dsimp only [List.take_succ_cons, List.take_zero, List.drop_succ_cons, List.drop_zero]
  refine Zg ?_
  refine Z51 ?_
  refine Zg ?_
  refine Z7n ?_
  refine rg_q (wn_none rfl) (op_index (4 * i) sB_162 rfl rfl (by omega) ((hr.cons _).cons _) rfl (by omega)) rfl rfl ?_
  refine rg_q (wn_none rfl) (op_ldw sc_5 ((hr.cons _).cons _) rfl (by omega) rfl) rfl rfl ?_
  refine Z7o ?_
  refine rg_q (wn_none rfl) (op_shl32 (m := 24) _ rfl rfl (by decide)) rfl rfl ?_
  refine Z51 ?_
  refine Zg ?_
  refine Z7n ?_
  refine Z61 ?_
  refine rg_q (wn_none rfl) (op_index (4 * i + 1) sB_162 rfl rfl (by omega) ((hr.cons _).cons _) rfl (by omega)) rfl rfl ?_
  refine rg_q (wn_none rfl) (op_ldw sc_5 ((hr.cons _).cons _) rfl (by omega) rfl) rfl rfl ?_
  refine Z7o ?_
  refine rg_q (wn_none rfl) (op_shl32 (m := 16) _ rfl rfl (by decide)) rfl rfl ?_
  refine rg_q (wn_none rfl) (op_or32 _ _ rfl rfl) rfl rfl ?_
  refine Z51 ?_
  refine Zg ?_
  refine Z7n ?_
  refine Z61 ?_
  refine rg_q (wn_none rfl) (op_index (4 * i + 2) sB_162 rfl rfl (by omega) ((hr.cons _).cons _) rfl (by omega)) rfl rfl ?_
  refine rg_q (wn_none rfl) (op_ldw sc_5 ((hr.cons _).cons _) rfl (by omega) rfl) rfl rfl ?_
  refine Z7o ?_
  refine rg_q (wn_none rfl) (op_shl32 (m := 8) _ rfl rfl (by decide)) rfl rfl ?_
  refine rg_q (wn_none rfl) (op_or32 _ _ rfl rfl) rfl rfl ?_
  refine Z51 ?_
  refine Zg ?_
  refine Z7n ?_
  refine Z61 ?_
  refine rg_q (wn_none rfl) (op_index (4 * i + 3) sB_162 rfl rfl (by omega) ((hr.cons _).cons _) rfl (by omega)) rfl rfl ?_
  refine rg_q (wn_none rfl) (op_ldw sc_5 ((hr.cons _).cons _) rfl (by omega) rfl) rfl rfl ?_
  refine Z7o ?_
  refine rg_q (wn_none rfl) (op_or32 _ _ rfl rfl) rfl rfl ?_
  refine rg_q (wn_none rfl) (op_aidx0 _ a1_168 rfl rfl rfl (by omega)) rfl rfl ?_
  refine rg_tail0 ?_
  refine oN (os_store (v := .int _ _) sc_163 rfl rfl rfl (Nat.ble_eq_true_of_le (show i + 1 ≤ _ by rw [List.size_toArray, wC_len, fillA_len (by rw [w16_len]; omega)]; omega)) (Free.zero _) (fillA_st (by rw [w16_len]) (by rw [w16_len]; omega) _)) ?_; rintro _ _ ⟨rfl, rfl⟩
  refine Z2t ?_
  have e1 : w16 bs (i + 1) = w16 bs i ++ [shl32 (UInt32.ofNat (bs[4 * i]'(by omega)).toNat) 24 ||| shl32 (UInt32.ofNat (bs[4 * i + 1]'(by omega)).toNat) 16 ||| shl32 (UInt32.ofNat (bs[4 * i + 2]'(by omega)).toNat) 8 ||| UInt32.ofNat (bs[4 * i + 3]'(by omega)).toNat] := by
   rw [w16_succ]
   unfold word byteW
   simp only [List.getD_eq_getElem?_getD, List.getElem?_eq_getElem (show 4 * i < bs.length by omega), List.getElem?_eq_getElem (show 4 * i + 1 < bs.length by omega), List.getElem?_eq_getElem (show 4 * i + 2 < bs.length by omega), List.getElem?_eq_getElem (show 4 * i + 3 < bs.length by omega), Option.getD_some]
  refine px_loop2 (i + 1) (by omega) (by (try dsimp only); omega) ⟨congrArg (Value.int .i64) (by simp), trivial⟩ ?_ (fun _ s => (by (try dsimp only); rw [e1]; exact s))
  exact Z0
 have hp1 := hb1
 (try simp only [bn] at hp1)
 refine Z1a ?_
 refine Z1d ?_
 refine Z33 ?_
 obtain rfl : i = 16 := by omega
 refine cd_loop2 (α := Nat) [(5, 7), (47, 87)] (fun x => [(5, .int .i64 ((x + 16 : Nat) : Int))]) (fun x => Blk bx2 (.cells (wC (fillA (sch x (w16 bs 16)))).toArray 168 (0, 0)) :: Blk bx1 (.cells (wC (List.replicate 64 0)).toArray 168 (0, 0)) :: l) (fun x => x ≤ 48) (fun x => 48 - x) 0 (Nat.zero_le _) ⟨rfl, trivial⟩ (fun _ s => s) ?_
 rintro k hk f; (try dsimp only at hk ⊢); have hml : (sch k (w16 bs 16)).length = k + 16 := by rw [sch_len, w16_len]
 have hfl : (fillA (sch k (w16 bs 16))).length = 64 := fillA_len (by omega)
 refine Zj ?_
 refine Z3c ?_
 refine cd_cond rfl (fun hb2 => ?_) (fun hb2 => ?_)
 ·have hp2 := hb2
  (try simp only [bn] at hp2)
  have hk48 : k < 48 := by omega
  refine Z30 ?_
  refine Z1y ?_
  refine Zg ?_
  refine Z5z ?_
  refine rg_q (wn_none rfl) (op_aidx0 (k + 1) a1_168 rfl rfl (by omega) (by omega)) rfl rfl ?_
  refine rg_q (wn_none rfl) (op_ld 0 sc_163 rfl rfl (fillA_at (by rw [hml]; omega))) rfl rfl ?_
  refine Zg ?_
  refine Z5z ?_
  refine rg_q (wn_none rfl) (op_aidx0 (k + 14) a1_168 rfl rfl (by omega) (by omega)) rfl rfl ?_
  refine rg_q (wn_none rfl) (op_ld 0 sc_163 rfl rfl (fillA_at (by rw [hml]; omega))) rfl rfl ?_
  refine Z2m ?_
  refine Z39 ?_
  refine cd_drawe (M := [_]) mx [4, 6, 8, 17, 20, 22, 29] ?_
  refine Z5k ?_
  refine Z5y ?_
  refine e_q 2 rfl (wn_none rfl) (op_sub rfl rfl (by omega) (by omega)) ?_
  refine e_q 3 rfl (wn_none rfl) (op_aidx0 k a1_168 rfl rfl (by omega) (by omega)) ?_
  refine Z7l ?_
  refine e_q 7 rfl (wn_none rfl) (op_move (v := .int _ _) rfl) ?_
  refine e_q 10 rfl (wn_none rfl) (op_move (v := .int _ _) rfl) ?_
  refine e_q 11 rfl (wn_none rfl) (op_shr32 (m := 3) _ rfl rfl (by decide)) ?_
  refine e_q 14 rfl (wn_none rfl) (op_move (v := .int _ _) rfl) ?_
  refine e_q 15 rfl (wn_none rfl) (op_sub rfl rfl (by omega) (by omega)) ?_
  refine e_q 16 rfl (wn_none rfl) (op_aidx0 (k + 9) a1_168 rfl rfl (by omega) (by omega)) ?_
  refine e_q 19 rfl (wn_none rfl) (op_move (v := .int _ _) rfl) ?_
  refine e_q 21 rfl (wn_none rfl) (op_move (v := .int _ _) rfl) ?_
  refine e_q 24 rfl (wn_none rfl) (op_move (v := .int _ _) rfl) ?_
  refine e_q 25 rfl (wn_none rfl) (op_shr32 (m := 10) _ rfl rfl (by decide)) ?_
  refine et_3 (i1 := 4) (i2 := 6) (i3 := 17) (by kernel_rfl) ?_ ?_ ?_
  ·
   refine ei_i rfl rfl (wn_none rfl) (os_q (op_ld 0 sc_163 rfl rfl (fillA_at (by rw [hml]; omega)))) rfl ?_; rintro _ _ ⟨rfl, rfl⟩; refine ⟨[_], rfl, ?_⟩
   refine et_2 (i1 := 6) (i2 := 17) (by kernel_rfl) ?_ ?_
   ·
    refine Z7p ?_
    refine et_2 (i1 := 8) (i2 := 17) (by kernel_rfl) ?_ ?_
    ·
     refine Z47 ?_
     refine Z1p ?_
     refine et_2 (i1 := 17) (i2 := 20) (by kernel_rfl) ?_ ?_
     ·
      refine ei_i rfl rfl (wn_none rfl) (os_q (op_ld 0 sc_163 rfl rfl (fillA_at (by rw [hml]; omega)))) rfl ?_; rintro _ _ ⟨rfl, rfl⟩; refine ⟨[_], rfl, ?_⟩
      refine Z3w ?_
      refine e_q 28 rfl (wn_none rfl) (op_aidx0 (k + 16) a1_168 rfl rfl rfl (by omega)) ?_
      refine Z9 ?_
      refine ei_iN rfl rfl (wn_none rfl) (os_store (v := .int _ _) sc_163 rfl rfl rfl (Nat.ble_eq_true_of_le (show k + 16 + 1 ≤ _ by rw [List.size_toArray, wC_len, hfl]; omega)) (Free.zero _) (fillA_st (by rw [hml]) (by rw [hml]; omega) _)) ?_; rintro _ _ ⟨rfl, rfl⟩; refine ⟨[_], rfl, ?_⟩
      refine Z10 ?_
      have e1 : sch (k + 1) (w16 bs 16) = sch k (w16 bs 16) ++ [next16 (sch k (w16 bs 16))] := rfl
      unfold next16 at e1
      rw [hml, show k + 16 - 16 = k by omega, show k + 16 - 15 = k + 1 by omega, show k + 16 - 7 = k + 9 by omega, show k + 16 - 2 = k + 14 by omega] at e1
      refine px_loop2 (k + 1) (by omega) (by (try dsimp only); omega) ⟨congrArg (Value.int .i64) (by omega), trivial⟩ ?_ (fun _ s => (by (try dsimp only); rw [e1]; exact s))
      exact Z0
     refine Z56 ?_
     refine et_2 (i1 := 17) (i2 := 22) (by kernel_rfl) ?_ ?_
     ·
      refine ei_i rfl rfl (wn_none rfl) (os_q (op_ld 0 sc_163 rfl rfl (fillA_at (by rw [hml]; omega)))) rfl ?_; rintro _ _ ⟨rfl, rfl⟩; refine ⟨[_], rfl, ?_⟩
      refine Z24 ?_
      refine Z4x ?_
      refine e_q 28 rfl (wn_none rfl) (op_aidx0 (k + 16) a1_168 rfl rfl rfl (by omega)) ?_
      refine Z9 ?_
      refine ei_iN rfl rfl (wn_none rfl) (os_store (v := .int _ _) sc_163 rfl rfl rfl (Nat.ble_eq_true_of_le (show k + 16 + 1 ≤ _ by rw [List.size_toArray, wC_len, hfl]; omega)) (Free.zero _) (fillA_st (by rw [hml]) (by rw [hml]; omega) _)) ?_; rintro _ _ ⟨rfl, rfl⟩; refine ⟨[_], rfl, ?_⟩
      refine Z10 ?_
      have e1 : sch (k + 1) (w16 bs 16) = sch k (w16 bs 16) ++ [next16 (sch k (w16 bs 16))] := rfl
      unfold next16 at e1
      rw [hml, show k + 16 - 16 = k by omega, show k + 16 - 15 = k + 1 by omega, show k + 16 - 7 = k + 9 by omega, show k + 16 - 2 = k + 14 by omega] at e1
      refine px_loop2 (k + 1) (by omega) (by (try dsimp only); omega) ⟨congrArg (Value.int .i64) (by omega), trivial⟩ ?_ (fun _ s => (by (try dsimp only); rw [e1]; exact s))
      exact Z0
     refine Z4j ?_
     refine Z2a ?_
     refine et_1 (i := 17) (by kernel_rfl) ?_
     refine ei_i rfl rfl (wn_none rfl) (os_q (op_ld 0 sc_163 rfl rfl (fillA_at (by rw [hml]; omega)))) rfl ?_; rintro _ _ ⟨rfl, rfl⟩; refine ⟨[_], rfl, ?_⟩
     refine Z24 ?_
     refine Z1w ?_
     refine e_q 28 rfl (wn_none rfl) (op_aidx0 (k + 16) a1_168 rfl rfl rfl (by omega)) ?_
     refine Z9 ?_
     refine ei_iN rfl rfl (wn_none rfl) (os_store (v := .int _ _) sc_163 rfl rfl rfl (Nat.ble_eq_true_of_le (show k + 16 + 1 ≤ _ by rw [List.size_toArray, wC_len, hfl]; omega)) (Free.zero _) (fillA_st (by rw [hml]) (by rw [hml]; omega) _)) ?_; rintro _ _ ⟨rfl, rfl⟩; refine ⟨[_], rfl, ?_⟩
     refine Z10 ?_
     have e1 : sch (k + 1) (w16 bs 16) = sch k (w16 bs 16) ++ [next16 (sch k (w16 bs 16))] := rfl
     unfold next16 at e1
     rw [hml, show k + 16 - 16 = k by omega, show k + 16 - 15 = k + 1 by omega, show k + 16 - 7 = k + 9 by omega, show k + 16 - 2 = k + 14 by omega] at e1
     refine px_loop2 (k + 1) (by omega) (by (try dsimp only); omega) ⟨congrArg (Value.int .i64) (by omega), trivial⟩ ?_ (fun _ s => (by (try dsimp only); rw [e1]; exact s))
     exact Z0
    refine ei_i rfl rfl (wn_none rfl) (os_q (op_ld 0 sc_163 rfl rfl (fillA_at (by rw [hml]; omega)))) rfl ?_; rintro _ _ ⟨rfl, rfl⟩; refine ⟨[_], rfl, ?_⟩
    refine Zz ?_
    refine Z47 ?_
    refine Z1p ?_
    refine Z3w ?_
    refine e_q 28 rfl (wn_none rfl) (op_aidx0 (k + 16) a1_168 rfl rfl rfl (by omega)) ?_
    refine Z9 ?_
    refine ei_iN rfl rfl (wn_none rfl) (os_store (v := .int _ _) sc_163 rfl rfl rfl (Nat.ble_eq_true_of_le (show k + 16 + 1 ≤ _ by rw [List.size_toArray, wC_len, hfl]; omega)) (Free.zero _) (fillA_st (by rw [hml]) (by rw [hml]; omega) _)) ?_; rintro _ _ ⟨rfl, rfl⟩; refine ⟨[_], rfl, ?_⟩
    refine Z10 ?_
    have e1 : sch (k + 1) (w16 bs 16) = sch k (w16 bs 16) ++ [next16 (sch k (w16 bs 16))] := rfl
    unfold next16 at e1
    rw [hml, show k + 16 - 16 = k by omega, show k + 16 - 15 = k + 1 by omega, show k + 16 - 7 = k + 9 by omega, show k + 16 - 2 = k + 14 by omega] at e1
    refine px_loop2 (k + 1) (by omega) (by (try dsimp only); omega) ⟨congrArg (Value.int .i64) (by omega), trivial⟩ ?_ (fun _ s => (by (try dsimp only); rw [e1]; exact s))
    exact Z0
   refine ei_i rfl rfl (wn_none rfl) (os_q (op_ld 0 sc_163 rfl rfl (fillA_at (by rw [hml]; omega)))) rfl ?_; rintro _ _ ⟨rfl, rfl⟩; refine ⟨[_], rfl, ?_⟩
   refine Z1o ?_
   refine Z7p ?_
   refine Zz ?_
   refine Z47 ?_
   refine Z1p ?_
   refine Z3w ?_
   refine e_q 28 rfl (wn_none rfl) (op_aidx0 (k + 16) a1_168 rfl rfl rfl (by omega)) ?_
   refine Z9 ?_
   refine ei_iN rfl rfl (wn_none rfl) (os_store (v := .int _ _) sc_163 rfl rfl rfl (Nat.ble_eq_true_of_le (show k + 16 + 1 ≤ _ by rw [List.size_toArray, wC_len, hfl]; omega)) (Free.zero _) (fillA_st (by rw [hml]) (by rw [hml]; omega) _)) ?_; rintro _ _ ⟨rfl, rfl⟩; refine ⟨[_], rfl, ?_⟩
   refine Z10 ?_
   have e1 : sch (k + 1) (w16 bs 16) = sch k (w16 bs 16) ++ [next16 (sch k (w16 bs 16))] := rfl
   unfold next16 at e1
   rw [hml, show k + 16 - 16 = k by omega, show k + 16 - 15 = k + 1 by omega, show k + 16 - 7 = k + 9 by omega, show k + 16 - 2 = k + 14 by omega] at e1
   refine px_loop2 (k + 1) (by omega) (by (try dsimp only); omega) ⟨congrArg (Value.int .i64) (by omega), trivial⟩ ?_ (fun _ s => (by (try dsimp only); rw [e1]; exact s))
   exact Z0
  ·
   refine Z7p ?_
   refine et_3 (i1 := 4) (i2 := 8) (i3 := 17) (by kernel_rfl) ?_ ?_ ?_
   ·
    refine ei_i rfl rfl (wn_none rfl) (os_q (op_ld 0 sc_163 rfl rfl (fillA_at (by rw [hml]; omega)))) rfl ?_; rintro _ _ ⟨rfl, rfl⟩; refine ⟨[_], rfl, ?_⟩
    refine et_2 (i1 := 8) (i2 := 17) (by kernel_rfl) ?_ ?_
    ·
     refine Z47 ?_
     refine Z1p ?_
     refine et_2 (i1 := 17) (i2 := 20) (by kernel_rfl) ?_ ?_
     ·
      refine ei_i rfl rfl (wn_none rfl) (os_q (op_ld 0 sc_163 rfl rfl (fillA_at (by rw [hml]; omega)))) rfl ?_; rintro _ _ ⟨rfl, rfl⟩; refine ⟨[_], rfl, ?_⟩
      refine Z3w ?_
      refine e_q 28 rfl (wn_none rfl) (op_aidx0 (k + 16) a1_168 rfl rfl rfl (by omega)) ?_
      refine Z9 ?_
      refine ei_iN rfl rfl (wn_none rfl) (os_store (v := .int _ _) sc_163 rfl rfl rfl (Nat.ble_eq_true_of_le (show k + 16 + 1 ≤ _ by rw [List.size_toArray, wC_len, hfl]; omega)) (Free.zero _) (fillA_st (by rw [hml]) (by rw [hml]; omega) _)) ?_; rintro _ _ ⟨rfl, rfl⟩; refine ⟨[_], rfl, ?_⟩
      refine Z10 ?_
      have e1 : sch (k + 1) (w16 bs 16) = sch k (w16 bs 16) ++ [next16 (sch k (w16 bs 16))] := rfl
      unfold next16 at e1
      rw [hml, show k + 16 - 16 = k by omega, show k + 16 - 15 = k + 1 by omega, show k + 16 - 7 = k + 9 by omega, show k + 16 - 2 = k + 14 by omega] at e1
      refine px_loop2 (k + 1) (by omega) (by (try dsimp only); omega) ⟨congrArg (Value.int .i64) (by omega), trivial⟩ ?_ (fun _ s => (by (try dsimp only); rw [e1]; exact s))
      exact Z0
     refine Z56 ?_
     refine et_2 (i1 := 17) (i2 := 22) (by kernel_rfl) ?_ ?_
     ·
      refine ei_i rfl rfl (wn_none rfl) (os_q (op_ld 0 sc_163 rfl rfl (fillA_at (by rw [hml]; omega)))) rfl ?_; rintro _ _ ⟨rfl, rfl⟩; refine ⟨[_], rfl, ?_⟩
      refine Z24 ?_
      refine Z4x ?_
      refine e_q 28 rfl (wn_none rfl) (op_aidx0 (k + 16) a1_168 rfl rfl rfl (by omega)) ?_
      refine Z9 ?_
      refine ei_iN rfl rfl (wn_none rfl) (os_store (v := .int _ _) sc_163 rfl rfl rfl (Nat.ble_eq_true_of_le (show k + 16 + 1 ≤ _ by rw [List.size_toArray, wC_len, hfl]; omega)) (Free.zero _) (fillA_st (by rw [hml]) (by rw [hml]; omega) _)) ?_; rintro _ _ ⟨rfl, rfl⟩; refine ⟨[_], rfl, ?_⟩
      refine Z10 ?_
      have e1 : sch (k + 1) (w16 bs 16) = sch k (w16 bs 16) ++ [next16 (sch k (w16 bs 16))] := rfl
      unfold next16 at e1
      rw [hml, show k + 16 - 16 = k by omega, show k + 16 - 15 = k + 1 by omega, show k + 16 - 7 = k + 9 by omega, show k + 16 - 2 = k + 14 by omega] at e1
      refine px_loop2 (k + 1) (by omega) (by (try dsimp only); omega) ⟨congrArg (Value.int .i64) (by omega), trivial⟩ ?_ (fun _ s => (by (try dsimp only); rw [e1]; exact s))
      exact Z0
     refine Z4j ?_
     refine Z2a ?_
     refine et_1 (i := 17) (by kernel_rfl) ?_
     refine ei_i rfl rfl (wn_none rfl) (os_q (op_ld 0 sc_163 rfl rfl (fillA_at (by rw [hml]; omega)))) rfl ?_; rintro _ _ ⟨rfl, rfl⟩; refine ⟨[_], rfl, ?_⟩
     refine Z24 ?_
     refine Z1w ?_
     refine e_q 28 rfl (wn_none rfl) (op_aidx0 (k + 16) a1_168 rfl rfl rfl (by omega)) ?_
     refine Z9 ?_
     refine ei_iN rfl rfl (wn_none rfl) (os_store (v := .int _ _) sc_163 rfl rfl rfl (Nat.ble_eq_true_of_le (show k + 16 + 1 ≤ _ by rw [List.size_toArray, wC_len, hfl]; omega)) (Free.zero _) (fillA_st (by rw [hml]) (by rw [hml]; omega) _)) ?_; rintro _ _ ⟨rfl, rfl⟩; refine ⟨[_], rfl, ?_⟩
     refine Z10 ?_
     have e1 : sch (k + 1) (w16 bs 16) = sch k (w16 bs 16) ++ [next16 (sch k (w16 bs 16))] := rfl
     unfold next16 at e1
     rw [hml, show k + 16 - 16 = k by omega, show k + 16 - 15 = k + 1 by omega, show k + 16 - 7 = k + 9 by omega, show k + 16 - 2 = k + 14 by omega] at e1
     refine px_loop2 (k + 1) (by omega) (by (try dsimp only); omega) ⟨congrArg (Value.int .i64) (by omega), trivial⟩ ?_ (fun _ s => (by (try dsimp only); rw [e1]; exact s))
     exact Z0
    refine ei_i rfl rfl (wn_none rfl) (os_q (op_ld 0 sc_163 rfl rfl (fillA_at (by rw [hml]; omega)))) rfl ?_; rintro _ _ ⟨rfl, rfl⟩; refine ⟨[_], rfl, ?_⟩
    refine Zz ?_
    refine Z47 ?_
    refine Z1p ?_
    refine Z3w ?_
    refine e_q 28 rfl (wn_none rfl) (op_aidx0 (k + 16) a1_168 rfl rfl rfl (by omega)) ?_
    refine Z9 ?_
    refine ei_iN rfl rfl (wn_none rfl) (os_store (v := .int _ _) sc_163 rfl rfl rfl (Nat.ble_eq_true_of_le (show k + 16 + 1 ≤ _ by rw [List.size_toArray, wC_len, hfl]; omega)) (Free.zero _) (fillA_st (by rw [hml]) (by rw [hml]; omega) _)) ?_; rintro _ _ ⟨rfl, rfl⟩; refine ⟨[_], rfl, ?_⟩
    refine Z10 ?_
    have e1 : sch (k + 1) (w16 bs 16) = sch k (w16 bs 16) ++ [next16 (sch k (w16 bs 16))] := rfl
    unfold next16 at e1
    rw [hml, show k + 16 - 16 = k by omega, show k + 16 - 15 = k + 1 by omega, show k + 16 - 7 = k + 9 by omega, show k + 16 - 2 = k + 14 by omega] at e1
    refine px_loop2 (k + 1) (by omega) (by (try dsimp only); omega) ⟨congrArg (Value.int .i64) (by omega), trivial⟩ ?_ (fun _ s => (by (try dsimp only); rw [e1]; exact s))
    exact Z0
   ·
    refine Z47 ?_
    refine et_3 (i1 := 4) (i2 := 17) (i3 := 20) (by kernel_rfl) ?_ ?_ ?_
    ·
     refine ei_i rfl rfl (wn_none rfl) (os_q (op_ld 0 sc_163 rfl rfl (fillA_at (by rw [hml]; omega)))) rfl ?_; rintro _ _ ⟨rfl, rfl⟩; refine ⟨[_], rfl, ?_⟩
     refine Z1p ?_
     refine et_2 (i1 := 17) (i2 := 20) (by kernel_rfl) ?_ ?_
     ·
      refine ei_i rfl rfl (wn_none rfl) (os_q (op_ld 0 sc_163 rfl rfl (fillA_at (by rw [hml]; omega)))) rfl ?_; rintro _ _ ⟨rfl, rfl⟩; refine ⟨[_], rfl, ?_⟩
      refine Z3w ?_
      refine e_q 28 rfl (wn_none rfl) (op_aidx0 (k + 16) a1_168 rfl rfl rfl (by omega)) ?_
      refine Z9 ?_
      refine ei_iN rfl rfl (wn_none rfl) (os_store (v := .int _ _) sc_163 rfl rfl rfl (Nat.ble_eq_true_of_le (show k + 16 + 1 ≤ _ by rw [List.size_toArray, wC_len, hfl]; omega)) (Free.zero _) (fillA_st (by rw [hml]) (by rw [hml]; omega) _)) ?_; rintro _ _ ⟨rfl, rfl⟩; refine ⟨[_], rfl, ?_⟩
      refine Z10 ?_
      have e1 : sch (k + 1) (w16 bs 16) = sch k (w16 bs 16) ++ [next16 (sch k (w16 bs 16))] := rfl
      unfold next16 at e1
      rw [hml, show k + 16 - 16 = k by omega, show k + 16 - 15 = k + 1 by omega, show k + 16 - 7 = k + 9 by omega, show k + 16 - 2 = k + 14 by omega] at e1
      refine px_loop2 (k + 1) (by omega) (by (try dsimp only); omega) ⟨congrArg (Value.int .i64) (by omega), trivial⟩ ?_ (fun _ s => (by (try dsimp only); rw [e1]; exact s))
      exact Z0
     refine Z56 ?_
     refine et_2 (i1 := 17) (i2 := 22) (by kernel_rfl) ?_ ?_
     ·
      refine ei_i rfl rfl (wn_none rfl) (os_q (op_ld 0 sc_163 rfl rfl (fillA_at (by rw [hml]; omega)))) rfl ?_; rintro _ _ ⟨rfl, rfl⟩; refine ⟨[_], rfl, ?_⟩
      refine Z24 ?_
      refine Z4x ?_
      refine e_q 28 rfl (wn_none rfl) (op_aidx0 (k + 16) a1_168 rfl rfl rfl (by omega)) ?_
      refine Z9 ?_
      refine ei_iN rfl rfl (wn_none rfl) (os_store (v := .int _ _) sc_163 rfl rfl rfl (Nat.ble_eq_true_of_le (show k + 16 + 1 ≤ _ by rw [List.size_toArray, wC_len, hfl]; omega)) (Free.zero _) (fillA_st (by rw [hml]) (by rw [hml]; omega) _)) ?_; rintro _ _ ⟨rfl, rfl⟩; refine ⟨[_], rfl, ?_⟩
      refine Z10 ?_
      have e1 : sch (k + 1) (w16 bs 16) = sch k (w16 bs 16) ++ [next16 (sch k (w16 bs 16))] := rfl
      unfold next16 at e1
      rw [hml, show k + 16 - 16 = k by omega, show k + 16 - 15 = k + 1 by omega, show k + 16 - 7 = k + 9 by omega, show k + 16 - 2 = k + 14 by omega] at e1
      refine px_loop2 (k + 1) (by omega) (by (try dsimp only); omega) ⟨congrArg (Value.int .i64) (by omega), trivial⟩ ?_ (fun _ s => (by (try dsimp only); rw [e1]; exact s))
      exact Z0
     refine Z4j ?_
     refine Z2a ?_
     refine et_1 (i := 17) (by kernel_rfl) ?_
     refine ei_i rfl rfl (wn_none rfl) (os_q (op_ld 0 sc_163 rfl rfl (fillA_at (by rw [hml]; omega)))) rfl ?_; rintro _ _ ⟨rfl, rfl⟩; refine ⟨[_], rfl, ?_⟩
     refine Z24 ?_
     refine Z1w ?_
     refine e_q 28 rfl (wn_none rfl) (op_aidx0 (k + 16) a1_168 rfl rfl rfl (by omega)) ?_
     refine Z9 ?_
     refine ei_iN rfl rfl (wn_none rfl) (os_store (v := .int _ _) sc_163 rfl rfl rfl (Nat.ble_eq_true_of_le (show k + 16 + 1 ≤ _ by rw [List.size_toArray, wC_len, hfl]; omega)) (Free.zero _) (fillA_st (by rw [hml]) (by rw [hml]; omega) _)) ?_; rintro _ _ ⟨rfl, rfl⟩; refine ⟨[_], rfl, ?_⟩
     refine Z10 ?_
     have e1 : sch (k + 1) (w16 bs 16) = sch k (w16 bs 16) ++ [next16 (sch k (w16 bs 16))] := rfl
     unfold next16 at e1
     rw [hml, show k + 16 - 16 = k by omega, show k + 16 - 15 = k + 1 by omega, show k + 16 - 7 = k + 9 by omega, show k + 16 - 2 = k + 14 by omega] at e1
     refine px_loop2 (k + 1) (by omega) (by (try dsimp only); omega) ⟨congrArg (Value.int .i64) (by omega), trivial⟩ ?_ (fun _ s => (by (try dsimp only); rw [e1]; exact s))
     exact Z0
    ·
     refine ei_i rfl rfl (wn_none rfl) (os_q (op_ld 0 sc_163 rfl rfl (fillA_at (by rw [hml]; omega)))) rfl ?_; rintro _ _ ⟨rfl, rfl⟩; refine ⟨[_], rfl, ?_⟩
     refine Z6h ?_ ?_
     ·
      refine ei_i rfl rfl (wn_none rfl) (os_q (op_ld 0 sc_163 rfl rfl (fillA_at (by rw [hml]; omega)))) rfl ?_; rintro _ _ ⟨rfl, rfl⟩; refine ⟨[_], rfl, ?_⟩
      refine Z1p ?_
      refine Z3w ?_
      refine e_q 28 rfl (wn_none rfl) (op_aidx0 (k + 16) a1_168 rfl rfl rfl (by omega)) ?_
      refine Z9 ?_
      refine ei_iN rfl rfl (wn_none rfl) (os_store (v := .int _ _) sc_163 rfl rfl rfl (Nat.ble_eq_true_of_le (show k + 16 + 1 ≤ _ by rw [List.size_toArray, wC_len, hfl]; omega)) (Free.zero _) (fillA_st (by rw [hml]) (by rw [hml]; omega) _)) ?_; rintro _ _ ⟨rfl, rfl⟩; refine ⟨[_], rfl, ?_⟩
      refine Z10 ?_
      have e1 : sch (k + 1) (w16 bs 16) = sch k (w16 bs 16) ++ [next16 (sch k (w16 bs 16))] := rfl
      unfold next16 at e1
      rw [hml, show k + 16 - 16 = k by omega, show k + 16 - 15 = k + 1 by omega, show k + 16 - 7 = k + 9 by omega, show k + 16 - 2 = k + 14 by omega] at e1
      refine px_loop2 (k + 1) (by omega) (by (try dsimp only); omega) ⟨congrArg (Value.int .i64) (by omega), trivial⟩ ?_ (fun _ s => (by (try dsimp only); rw [e1]; exact s))
      exact Z0
     refine Z56 ?_
     refine Z57 ?_ ?_
     ·
      refine ei_i rfl rfl (wn_none rfl) (os_q (op_ld 0 sc_163 rfl rfl (fillA_at (by rw [hml]; omega)))) rfl ?_; rintro _ _ ⟨rfl, rfl⟩; refine ⟨[_], rfl, ?_⟩
      refine Z1p ?_
      refine Z24 ?_
      refine Z4x ?_
      refine e_q 28 rfl (wn_none rfl) (op_aidx0 (k + 16) a1_168 rfl rfl rfl (by omega)) ?_
      refine Z9 ?_
      refine ei_iN rfl rfl (wn_none rfl) (os_store (v := .int _ _) sc_163 rfl rfl rfl (Nat.ble_eq_true_of_le (show k + 16 + 1 ≤ _ by rw [List.size_toArray, wC_len, hfl]; omega)) (Free.zero _) (fillA_st (by rw [hml]) (by rw [hml]; omega) _)) ?_; rintro _ _ ⟨rfl, rfl⟩; refine ⟨[_], rfl, ?_⟩
      refine Z10 ?_
      have e1 : sch (k + 1) (w16 bs 16) = sch k (w16 bs 16) ++ [next16 (sch k (w16 bs 16))] := rfl
      unfold next16 at e1
      rw [hml, show k + 16 - 16 = k by omega, show k + 16 - 15 = k + 1 by omega, show k + 16 - 7 = k + 9 by omega, show k + 16 - 2 = k + 14 by omega] at e1
      refine px_loop2 (k + 1) (by omega) (by (try dsimp only); omega) ⟨congrArg (Value.int .i64) (by omega), trivial⟩ ?_ (fun _ s => (by (try dsimp only); rw [e1]; exact s))
      exact Z0
     refine Z4j ?_
     refine Z2a ?_
     refine Z28 ?_
     refine ei_i rfl rfl (wn_none rfl) (os_q (op_ld 0 sc_163 rfl rfl (fillA_at (by rw [hml]; omega)))) rfl ?_; rintro _ _ ⟨rfl, rfl⟩; refine ⟨[_], rfl, ?_⟩
     refine Z1p ?_
     refine Z24 ?_
     refine Z1w ?_
     refine e_q 28 rfl (wn_none rfl) (op_aidx0 (k + 16) a1_168 rfl rfl rfl (by omega)) ?_
     refine Z9 ?_
     refine ei_iN rfl rfl (wn_none rfl) (os_store (v := .int _ _) sc_163 rfl rfl rfl (Nat.ble_eq_true_of_le (show k + 16 + 1 ≤ _ by rw [List.size_toArray, wC_len, hfl]; omega)) (Free.zero _) (fillA_st (by rw [hml]) (by rw [hml]; omega) _)) ?_; rintro _ _ ⟨rfl, rfl⟩; refine ⟨[_], rfl, ?_⟩
     refine Z10 ?_
     have e1 : sch (k + 1) (w16 bs 16) = sch k (w16 bs 16) ++ [next16 (sch k (w16 bs 16))] := rfl
     unfold next16 at e1
     rw [hml, show k + 16 - 16 = k by omega, show k + 16 - 15 = k + 1 by omega, show k + 16 - 7 = k + 9 by omega, show k + 16 - 2 = k + 14 by omega] at e1
     refine px_loop2 (k + 1) (by omega) (by (try dsimp only); omega) ⟨congrArg (Value.int .i64) (by omega), trivial⟩ ?_ (fun _ s => (by (try dsimp only); rw [e1]; exact s))
     exact Z0
    refine Z56 ?_
    refine et_3 (i1 := 4) (i2 := 17) (i3 := 22) (by kernel_rfl) ?_ ?_ ?_
    ·
     refine ei_i rfl rfl (wn_none rfl) (os_q (op_ld 0 sc_163 rfl rfl (fillA_at (by rw [hml]; omega)))) rfl ?_; rintro _ _ ⟨rfl, rfl⟩; refine ⟨[_], rfl, ?_⟩
     refine Z1p ?_
     refine et_2 (i1 := 17) (i2 := 22) (by kernel_rfl) ?_ ?_
     ·
      refine ei_i rfl rfl (wn_none rfl) (os_q (op_ld 0 sc_163 rfl rfl (fillA_at (by rw [hml]; omega)))) rfl ?_; rintro _ _ ⟨rfl, rfl⟩; refine ⟨[_], rfl, ?_⟩
      refine Z24 ?_
      refine Z4x ?_
      refine e_q 28 rfl (wn_none rfl) (op_aidx0 (k + 16) a1_168 rfl rfl rfl (by omega)) ?_
      refine Z9 ?_
      refine ei_iN rfl rfl (wn_none rfl) (os_store (v := .int _ _) sc_163 rfl rfl rfl (Nat.ble_eq_true_of_le (show k + 16 + 1 ≤ _ by rw [List.size_toArray, wC_len, hfl]; omega)) (Free.zero _) (fillA_st (by rw [hml]) (by rw [hml]; omega) _)) ?_; rintro _ _ ⟨rfl, rfl⟩; refine ⟨[_], rfl, ?_⟩
      refine Z10 ?_
      have e1 : sch (k + 1) (w16 bs 16) = sch k (w16 bs 16) ++ [next16 (sch k (w16 bs 16))] := rfl
      unfold next16 at e1
      rw [hml, show k + 16 - 16 = k by omega, show k + 16 - 15 = k + 1 by omega, show k + 16 - 7 = k + 9 by omega, show k + 16 - 2 = k + 14 by omega] at e1
      refine px_loop2 (k + 1) (by omega) (by (try dsimp only); omega) ⟨congrArg (Value.int .i64) (by omega), trivial⟩ ?_ (fun _ s => (by (try dsimp only); rw [e1]; exact s))
      exact Z0
     refine Z4j ?_
     refine Z2a ?_
     refine et_1 (i := 17) (by kernel_rfl) ?_
     refine ei_i rfl rfl (wn_none rfl) (os_q (op_ld 0 sc_163 rfl rfl (fillA_at (by rw [hml]; omega)))) rfl ?_; rintro _ _ ⟨rfl, rfl⟩; refine ⟨[_], rfl, ?_⟩
     refine Z24 ?_
     refine Z1w ?_
     refine e_q 28 rfl (wn_none rfl) (op_aidx0 (k + 16) a1_168 rfl rfl rfl (by omega)) ?_
     refine Z9 ?_
     refine ei_iN rfl rfl (wn_none rfl) (os_store (v := .int _ _) sc_163 rfl rfl rfl (Nat.ble_eq_true_of_le (show k + 16 + 1 ≤ _ by rw [List.size_toArray, wC_len, hfl]; omega)) (Free.zero _) (fillA_st (by rw [hml]) (by rw [hml]; omega) _)) ?_; rintro _ _ ⟨rfl, rfl⟩; refine ⟨[_], rfl, ?_⟩
     refine Z10 ?_
     have e1 : sch (k + 1) (w16 bs 16) = sch k (w16 bs 16) ++ [next16 (sch k (w16 bs 16))] := rfl
     unfold next16 at e1
     rw [hml, show k + 16 - 16 = k by omega, show k + 16 - 15 = k + 1 by omega, show k + 16 - 7 = k + 9 by omega, show k + 16 - 2 = k + 14 by omega] at e1
     refine px_loop2 (k + 1) (by omega) (by (try dsimp only); omega) ⟨congrArg (Value.int .i64) (by omega), trivial⟩ ?_ (fun _ s => (by (try dsimp only); rw [e1]; exact s))
     exact Z0
    ·
     refine ei_i rfl rfl (wn_none rfl) (os_q (op_ld 0 sc_163 rfl rfl (fillA_at (by rw [hml]; omega)))) rfl ?_; rintro _ _ ⟨rfl, rfl⟩; refine ⟨[_], rfl, ?_⟩
     refine Z57 ?_ ?_
     ·
      refine ei_i rfl rfl (wn_none rfl) (os_q (op_ld 0 sc_163 rfl rfl (fillA_at (by rw [hml]; omega)))) rfl ?_; rintro _ _ ⟨rfl, rfl⟩; refine ⟨[_], rfl, ?_⟩
      refine Z1p ?_
      refine Z24 ?_
      refine Z4x ?_
      refine e_q 28 rfl (wn_none rfl) (op_aidx0 (k + 16) a1_168 rfl rfl rfl (by omega)) ?_
      refine Z9 ?_
      refine ei_iN rfl rfl (wn_none rfl) (os_store (v := .int _ _) sc_163 rfl rfl rfl (Nat.ble_eq_true_of_le (show k + 16 + 1 ≤ _ by rw [List.size_toArray, wC_len, hfl]; omega)) (Free.zero _) (fillA_st (by rw [hml]) (by rw [hml]; omega) _)) ?_; rintro _ _ ⟨rfl, rfl⟩; refine ⟨[_], rfl, ?_⟩
      refine Z10 ?_
      have e1 : sch (k + 1) (w16 bs 16) = sch k (w16 bs 16) ++ [next16 (sch k (w16 bs 16))] := rfl
      unfold next16 at e1
      rw [hml, show k + 16 - 16 = k by omega, show k + 16 - 15 = k + 1 by omega, show k + 16 - 7 = k + 9 by omega, show k + 16 - 2 = k + 14 by omega] at e1
      refine px_loop2 (k + 1) (by omega) (by (try dsimp only); omega) ⟨congrArg (Value.int .i64) (by omega), trivial⟩ ?_ (fun _ s => (by (try dsimp only); rw [e1]; exact s))
      exact Z0
     refine Z4j ?_
     refine Z2a ?_
     refine Z28 ?_
     refine ei_i rfl rfl (wn_none rfl) (os_q (op_ld 0 sc_163 rfl rfl (fillA_at (by rw [hml]; omega)))) rfl ?_; rintro _ _ ⟨rfl, rfl⟩; refine ⟨[_], rfl, ?_⟩
     refine Z1p ?_
     refine Z24 ?_
     refine Z1w ?_
     refine e_q 28 rfl (wn_none rfl) (op_aidx0 (k + 16) a1_168 rfl rfl rfl (by omega)) ?_
     refine Z9 ?_
     refine ei_iN rfl rfl (wn_none rfl) (os_store (v := .int _ _) sc_163 rfl rfl rfl (Nat.ble_eq_true_of_le (show k + 16 + 1 ≤ _ by rw [List.size_toArray, wC_len, hfl]; omega)) (Free.zero _) (fillA_st (by rw [hml]) (by rw [hml]; omega) _)) ?_; rintro _ _ ⟨rfl, rfl⟩; refine ⟨[_], rfl, ?_⟩
     refine Z10 ?_
     have e1 : sch (k + 1) (w16 bs 16) = sch k (w16 bs 16) ++ [next16 (sch k (w16 bs 16))] := rfl
     unfold next16 at e1
     rw [hml, show k + 16 - 16 = k by omega, show k + 16 - 15 = k + 1 by omega, show k + 16 - 7 = k + 9 by omega, show k + 16 - 2 = k + 14 by omega] at e1
     refine px_loop2 (k + 1) (by omega) (by (try dsimp only); omega) ⟨congrArg (Value.int .i64) (by omega), trivial⟩ ?_ (fun _ s => (by (try dsimp only); rw [e1]; exact s))
     exact Z0
    refine Z4j ?_
    refine Z2a ?_
    refine et_2 (i1 := 4) (i2 := 17) (by kernel_rfl) ?_ ?_
    ·
     refine ei_i rfl rfl (wn_none rfl) (os_q (op_ld 0 sc_163 rfl rfl (fillA_at (by rw [hml]; omega)))) rfl ?_; rintro _ _ ⟨rfl, rfl⟩; refine ⟨[_], rfl, ?_⟩
     refine Z1p ?_
     refine et_1 (i := 17) (by kernel_rfl) ?_
     refine ei_i rfl rfl (wn_none rfl) (os_q (op_ld 0 sc_163 rfl rfl (fillA_at (by rw [hml]; omega)))) rfl ?_; rintro _ _ ⟨rfl, rfl⟩; refine ⟨[_], rfl, ?_⟩
     refine Z24 ?_
     refine Z1w ?_
     refine e_q 28 rfl (wn_none rfl) (op_aidx0 (k + 16) a1_168 rfl rfl rfl (by omega)) ?_
     refine Z9 ?_
     refine ei_iN rfl rfl (wn_none rfl) (os_store (v := .int _ _) sc_163 rfl rfl rfl (Nat.ble_eq_true_of_le (show k + 16 + 1 ≤ _ by rw [List.size_toArray, wC_len, hfl]; omega)) (Free.zero _) (fillA_st (by rw [hml]) (by rw [hml]; omega) _)) ?_; rintro _ _ ⟨rfl, rfl⟩; refine ⟨[_], rfl, ?_⟩
     refine Z10 ?_
     have e1 : sch (k + 1) (w16 bs 16) = sch k (w16 bs 16) ++ [next16 (sch k (w16 bs 16))] := rfl
     unfold next16 at e1
     rw [hml, show k + 16 - 16 = k by omega, show k + 16 - 15 = k + 1 by omega, show k + 16 - 7 = k + 9 by omega, show k + 16 - 2 = k + 14 by omega] at e1
     refine px_loop2 (k + 1) (by omega) (by (try dsimp only); omega) ⟨congrArg (Value.int .i64) (by omega), trivial⟩ ?_ (fun _ s => (by (try dsimp only); rw [e1]; exact s))
     exact Z0
    refine ei_i rfl rfl (wn_none rfl) (os_q (op_ld 0 sc_163 rfl rfl (fillA_at (by rw [hml]; omega)))) rfl ?_; rintro _ _ ⟨rfl, rfl⟩; refine ⟨[_], rfl, ?_⟩
    refine Z28 ?_
    refine ei_i rfl rfl (wn_none rfl) (os_q (op_ld 0 sc_163 rfl rfl (fillA_at (by rw [hml]; omega)))) rfl ?_; rintro _ _ ⟨rfl, rfl⟩; refine ⟨[_], rfl, ?_⟩
    refine Z1p ?_
    refine Z24 ?_
    refine Z1w ?_
    refine e_q 28 rfl (wn_none rfl) (op_aidx0 (k + 16) a1_168 rfl rfl rfl (by omega)) ?_
    refine Z9 ?_
    refine ei_iN rfl rfl (wn_none rfl) (os_store (v := .int _ _) sc_163 rfl rfl rfl (Nat.ble_eq_true_of_le (show k + 16 + 1 ≤ _ by rw [List.size_toArray, wC_len, hfl]; omega)) (Free.zero _) (fillA_st (by rw [hml]) (by rw [hml]; omega) _)) ?_; rintro _ _ ⟨rfl, rfl⟩; refine ⟨[_], rfl, ?_⟩
    refine Z10 ?_
    have e1 : sch (k + 1) (w16 bs 16) = sch k (w16 bs 16) ++ [next16 (sch k (w16 bs 16))] := rfl
    unfold next16 at e1
    rw [hml, show k + 16 - 16 = k by omega, show k + 16 - 15 = k + 1 by omega, show k + 16 - 7 = k + 9 by omega, show k + 16 - 2 = k + 14 by omega] at e1
    refine px_loop2 (k + 1) (by omega) (by (try dsimp only); omega) ⟨congrArg (Value.int .i64) (by omega), trivial⟩ ?_ (fun _ s => (by (try dsimp only); rw [e1]; exact s))
    exact Z0
   refine ei_i rfl rfl (wn_none rfl) (os_q (op_ld 0 sc_163 rfl rfl (fillA_at (by rw [hml]; omega)))) rfl ?_; rintro _ _ ⟨rfl, rfl⟩; refine ⟨[_], rfl, ?_⟩
   refine et_2 (i1 := 4) (i2 := 8) (by kernel_rfl) ?_ ?_
   ·
    refine ei_i rfl rfl (wn_none rfl) (os_q (op_ld 0 sc_163 rfl rfl (fillA_at (by rw [hml]; omega)))) rfl ?_; rintro _ _ ⟨rfl, rfl⟩; refine ⟨[_], rfl, ?_⟩
    refine Zz ?_
    refine Z47 ?_
    refine Z1p ?_
    refine Z3w ?_
    refine e_q 28 rfl (wn_none rfl) (op_aidx0 (k + 16) a1_168 rfl rfl rfl (by omega)) ?_
    refine Z9 ?_
    refine ei_iN rfl rfl (wn_none rfl) (os_store (v := .int _ _) sc_163 rfl rfl rfl (Nat.ble_eq_true_of_le (show k + 16 + 1 ≤ _ by rw [List.size_toArray, wC_len, hfl]; omega)) (Free.zero _) (fillA_st (by rw [hml]) (by rw [hml]; omega) _)) ?_; rintro _ _ ⟨rfl, rfl⟩; refine ⟨[_], rfl, ?_⟩
    refine Z10 ?_
    have e1 : sch (k + 1) (w16 bs 16) = sch k (w16 bs 16) ++ [next16 (sch k (w16 bs 16))] := rfl
    unfold next16 at e1
    rw [hml, show k + 16 - 16 = k by omega, show k + 16 - 15 = k + 1 by omega, show k + 16 - 7 = k + 9 by omega, show k + 16 - 2 = k + 14 by omega] at e1
    refine px_loop2 (k + 1) (by omega) (by (try dsimp only); omega) ⟨congrArg (Value.int .i64) (by omega), trivial⟩ ?_ (fun _ s => (by (try dsimp only); rw [e1]; exact s))
    exact Z0
   refine Z47 ?_
   refine Z6h ?_ ?_
   ·
    refine ei_i rfl rfl (wn_none rfl) (os_q (op_ld 0 sc_163 rfl rfl (fillA_at (by rw [hml]; omega)))) rfl ?_; rintro _ _ ⟨rfl, rfl⟩; refine ⟨[_], rfl, ?_⟩
    refine Z1p ?_
    refine Z3w ?_
    refine e_q 28 rfl (wn_none rfl) (op_aidx0 (k + 16) a1_168 rfl rfl rfl (by omega)) ?_
    refine Z9 ?_
    refine ei_iN rfl rfl (wn_none rfl) (os_store (v := .int _ _) sc_163 rfl rfl rfl (Nat.ble_eq_true_of_le (show k + 16 + 1 ≤ _ by rw [List.size_toArray, wC_len, hfl]; omega)) (Free.zero _) (fillA_st (by rw [hml]) (by rw [hml]; omega) _)) ?_; rintro _ _ ⟨rfl, rfl⟩; refine ⟨[_], rfl, ?_⟩
    refine Z10 ?_
    have e1 : sch (k + 1) (w16 bs 16) = sch k (w16 bs 16) ++ [next16 (sch k (w16 bs 16))] := rfl
    unfold next16 at e1
    rw [hml, show k + 16 - 16 = k by omega, show k + 16 - 15 = k + 1 by omega, show k + 16 - 7 = k + 9 by omega, show k + 16 - 2 = k + 14 by omega] at e1
    refine px_loop2 (k + 1) (by omega) (by (try dsimp only); omega) ⟨congrArg (Value.int .i64) (by omega), trivial⟩ ?_ (fun _ s => (by (try dsimp only); rw [e1]; exact s))
    exact Z0
   refine Z56 ?_
   refine Z57 ?_ ?_
   ·
    refine ei_i rfl rfl (wn_none rfl) (os_q (op_ld 0 sc_163 rfl rfl (fillA_at (by rw [hml]; omega)))) rfl ?_; rintro _ _ ⟨rfl, rfl⟩; refine ⟨[_], rfl, ?_⟩
    refine Z1p ?_
    refine Z24 ?_
    refine Z4x ?_
    refine e_q 28 rfl (wn_none rfl) (op_aidx0 (k + 16) a1_168 rfl rfl rfl (by omega)) ?_
    refine Z9 ?_
    refine ei_iN rfl rfl (wn_none rfl) (os_store (v := .int _ _) sc_163 rfl rfl rfl (Nat.ble_eq_true_of_le (show k + 16 + 1 ≤ _ by rw [List.size_toArray, wC_len, hfl]; omega)) (Free.zero _) (fillA_st (by rw [hml]) (by rw [hml]; omega) _)) ?_; rintro _ _ ⟨rfl, rfl⟩; refine ⟨[_], rfl, ?_⟩
    refine Z10 ?_
    have e1 : sch (k + 1) (w16 bs 16) = sch k (w16 bs 16) ++ [next16 (sch k (w16 bs 16))] := rfl
    unfold next16 at e1
    rw [hml, show k + 16 - 16 = k by omega, show k + 16 - 15 = k + 1 by omega, show k + 16 - 7 = k + 9 by omega, show k + 16 - 2 = k + 14 by omega] at e1
    refine px_loop2 (k + 1) (by omega) (by (try dsimp only); omega) ⟨congrArg (Value.int .i64) (by omega), trivial⟩ ?_ (fun _ s => (by (try dsimp only); rw [e1]; exact s))
    exact Z0
   refine Z4j ?_
   refine Z2a ?_
   refine Z28 ?_
   refine ei_i rfl rfl (wn_none rfl) (os_q (op_ld 0 sc_163 rfl rfl (fillA_at (by rw [hml]; omega)))) rfl ?_; rintro _ _ ⟨rfl, rfl⟩; refine ⟨[_], rfl, ?_⟩
   refine Z1p ?_
   refine Z24 ?_
   refine Z1w ?_
   refine e_q 28 rfl (wn_none rfl) (op_aidx0 (k + 16) a1_168 rfl rfl rfl (by omega)) ?_
   refine Z9 ?_
   refine ei_iN rfl rfl (wn_none rfl) (os_store (v := .int _ _) sc_163 rfl rfl rfl (Nat.ble_eq_true_of_le (show k + 16 + 1 ≤ _ by rw [List.size_toArray, wC_len, hfl]; omega)) (Free.zero _) (fillA_st (by rw [hml]) (by rw [hml]; omega) _)) ?_; rintro _ _ ⟨rfl, rfl⟩; refine ⟨[_], rfl, ?_⟩
   refine Z10 ?_
   have e1 : sch (k + 1) (w16 bs 16) = sch k (w16 bs 16) ++ [next16 (sch k (w16 bs 16))] := rfl
   unfold next16 at e1
   rw [hml, show k + 16 - 16 = k by omega, show k + 16 - 15 = k + 1 by omega, show k + 16 - 7 = k + 9 by omega, show k + 16 - 2 = k + 14 by omega] at e1
   refine px_loop2 (k + 1) (by omega) (by (try dsimp only); omega) ⟨congrArg (Value.int .i64) (by omega), trivial⟩ ?_ (fun _ s => (by (try dsimp only); rw [e1]; exact s))
   exact Z0
  refine ei_i rfl rfl (wn_none rfl) (os_q (op_ld 0 sc_163 rfl rfl (fillA_at (by rw [hml]; omega)))) rfl ?_; rintro _ _ ⟨rfl, rfl⟩; refine ⟨[_], rfl, ?_⟩
  refine et_2 (i1 := 4) (i2 := 6) (by kernel_rfl) ?_ ?_
  ·
   refine ei_i rfl rfl (wn_none rfl) (os_q (op_ld 0 sc_163 rfl rfl (fillA_at (by rw [hml]; omega)))) rfl ?_; rintro _ _ ⟨rfl, rfl⟩; refine ⟨[_], rfl, ?_⟩
   refine Z1o ?_
   refine Z7p ?_
   refine Zz ?_
   refine Z47 ?_
   refine Z1p ?_
   refine Z3w ?_
   refine e_q 28 rfl (wn_none rfl) (op_aidx0 (k + 16) a1_168 rfl rfl rfl (by omega)) ?_
   refine Z9 ?_
   refine ei_iN rfl rfl (wn_none rfl) (os_store (v := .int _ _) sc_163 rfl rfl rfl (Nat.ble_eq_true_of_le (show k + 16 + 1 ≤ _ by rw [List.size_toArray, wC_len, hfl]; omega)) (Free.zero _) (fillA_st (by rw [hml]) (by rw [hml]; omega) _)) ?_; rintro _ _ ⟨rfl, rfl⟩; refine ⟨[_], rfl, ?_⟩
   refine Z10 ?_
   have e1 : sch (k + 1) (w16 bs 16) = sch k (w16 bs 16) ++ [next16 (sch k (w16 bs 16))] := rfl
   unfold next16 at e1
   rw [hml, show k + 16 - 16 = k by omega, show k + 16 - 15 = k + 1 by omega, show k + 16 - 7 = k + 9 by omega, show k + 16 - 2 = k + 14 by omega] at e1
   refine px_loop2 (k + 1) (by omega) (by (try dsimp only); omega) ⟨congrArg (Value.int .i64) (by omega), trivial⟩ ?_ (fun _ s => (by (try dsimp only); rw [e1]; exact s))
   exact Z0
  refine Z7p ?_
  refine et_2 (i1 := 4) (i2 := 8) (by kernel_rfl) ?_ ?_
  ·
   refine ei_i rfl rfl (wn_none rfl) (os_q (op_ld 0 sc_163 rfl rfl (fillA_at (by rw [hml]; omega)))) rfl ?_; rintro _ _ ⟨rfl, rfl⟩; refine ⟨[_], rfl, ?_⟩
   refine Zz ?_
   refine Z47 ?_
   refine Z1p ?_
   refine Z3w ?_
   refine e_q 28 rfl (wn_none rfl) (op_aidx0 (k + 16) a1_168 rfl rfl rfl (by omega)) ?_
   refine Z9 ?_
   refine ei_iN rfl rfl (wn_none rfl) (os_store (v := .int _ _) sc_163 rfl rfl rfl (Nat.ble_eq_true_of_le (show k + 16 + 1 ≤ _ by rw [List.size_toArray, wC_len, hfl]; omega)) (Free.zero _) (fillA_st (by rw [hml]) (by rw [hml]; omega) _)) ?_; rintro _ _ ⟨rfl, rfl⟩; refine ⟨[_], rfl, ?_⟩
   refine Z10 ?_
   have e1 : sch (k + 1) (w16 bs 16) = sch k (w16 bs 16) ++ [next16 (sch k (w16 bs 16))] := rfl
   unfold next16 at e1
   rw [hml, show k + 16 - 16 = k by omega, show k + 16 - 15 = k + 1 by omega, show k + 16 - 7 = k + 9 by omega, show k + 16 - 2 = k + 14 by omega] at e1
   refine px_loop2 (k + 1) (by omega) (by (try dsimp only); omega) ⟨congrArg (Value.int .i64) (by omega), trivial⟩ ?_ (fun _ s => (by (try dsimp only); rw [e1]; exact s))
   exact Z0
  refine Z47 ?_
  refine Z6h ?_ ?_
  ·
   refine ei_i rfl rfl (wn_none rfl) (os_q (op_ld 0 sc_163 rfl rfl (fillA_at (by rw [hml]; omega)))) rfl ?_; rintro _ _ ⟨rfl, rfl⟩; refine ⟨[_], rfl, ?_⟩
   refine Z1p ?_
   refine Z3w ?_
   refine e_q 28 rfl (wn_none rfl) (op_aidx0 (k + 16) a1_168 rfl rfl rfl (by omega)) ?_
   refine Z9 ?_
   refine ei_iN rfl rfl (wn_none rfl) (os_store (v := .int _ _) sc_163 rfl rfl rfl (Nat.ble_eq_true_of_le (show k + 16 + 1 ≤ _ by rw [List.size_toArray, wC_len, hfl]; omega)) (Free.zero _) (fillA_st (by rw [hml]) (by rw [hml]; omega) _)) ?_; rintro _ _ ⟨rfl, rfl⟩; refine ⟨[_], rfl, ?_⟩
   refine Z10 ?_
   have e1 : sch (k + 1) (w16 bs 16) = sch k (w16 bs 16) ++ [next16 (sch k (w16 bs 16))] := rfl
   unfold next16 at e1
   rw [hml, show k + 16 - 16 = k by omega, show k + 16 - 15 = k + 1 by omega, show k + 16 - 7 = k + 9 by omega, show k + 16 - 2 = k + 14 by omega] at e1
   refine px_loop2 (k + 1) (by omega) (by (try dsimp only); omega) ⟨congrArg (Value.int .i64) (by omega), trivial⟩ ?_ (fun _ s => (by (try dsimp only); rw [e1]; exact s))
   exact Z0
  refine Z56 ?_
  refine Z57 ?_ ?_
  ·
   refine ei_i rfl rfl (wn_none rfl) (os_q (op_ld 0 sc_163 rfl rfl (fillA_at (by rw [hml]; omega)))) rfl ?_; rintro _ _ ⟨rfl, rfl⟩; refine ⟨[_], rfl, ?_⟩
   refine Z1p ?_
   refine Z24 ?_
   refine Z4x ?_
   refine e_q 28 rfl (wn_none rfl) (op_aidx0 (k + 16) a1_168 rfl rfl rfl (by omega)) ?_
   refine Z9 ?_
   refine ei_iN rfl rfl (wn_none rfl) (os_store (v := .int _ _) sc_163 rfl rfl rfl (Nat.ble_eq_true_of_le (show k + 16 + 1 ≤ _ by rw [List.size_toArray, wC_len, hfl]; omega)) (Free.zero _) (fillA_st (by rw [hml]) (by rw [hml]; omega) _)) ?_; rintro _ _ ⟨rfl, rfl⟩; refine ⟨[_], rfl, ?_⟩
   refine Z10 ?_
   have e1 : sch (k + 1) (w16 bs 16) = sch k (w16 bs 16) ++ [next16 (sch k (w16 bs 16))] := rfl
   unfold next16 at e1
   rw [hml, show k + 16 - 16 = k by omega, show k + 16 - 15 = k + 1 by omega, show k + 16 - 7 = k + 9 by omega, show k + 16 - 2 = k + 14 by omega] at e1
   refine px_loop2 (k + 1) (by omega) (by (try dsimp only); omega) ⟨congrArg (Value.int .i64) (by omega), trivial⟩ ?_ (fun _ s => (by (try dsimp only); rw [e1]; exact s))
   exact Z0
  refine Z4j ?_
  refine Z2a ?_
  refine Z28 ?_
  refine ei_i rfl rfl (wn_none rfl) (os_q (op_ld 0 sc_163 rfl rfl (fillA_at (by rw [hml]; omega)))) rfl ?_; rintro _ _ ⟨rfl, rfl⟩; refine ⟨[_], rfl, ?_⟩
  refine Z1p ?_
  refine Z24 ?_
  refine Z1w ?_
  refine e_q 28 rfl (wn_none rfl) (op_aidx0 (k + 16) a1_168 rfl rfl rfl (by omega)) ?_
  refine Z9 ?_
  refine ei_iN rfl rfl (wn_none rfl) (os_store (v := .int _ _) sc_163 rfl rfl rfl (Nat.ble_eq_true_of_le (show k + 16 + 1 ≤ _ by rw [List.size_toArray, wC_len, hfl]; omega)) (Free.zero _) (fillA_st (by rw [hml]) (by rw [hml]; omega) _)) ?_; rintro _ _ ⟨rfl, rfl⟩; refine ⟨[_], rfl, ?_⟩
  refine Z10 ?_
  have e1 : sch (k + 1) (w16 bs 16) = sch k (w16 bs 16) ++ [next16 (sch k (w16 bs 16))] := rfl
  unfold next16 at e1
  rw [hml, show k + 16 - 16 = k by omega, show k + 16 - 15 = k + 1 by omega, show k + 16 - 7 = k + 9 by omega, show k + 16 - 2 = k + 14 by omega] at e1
  refine px_loop2 (k + 1) (by omega) (by (try dsimp only); omega) ⟨congrArg (Value.int .i64) (by omega), trivial⟩ ?_ (fun _ s => (by (try dsimp only); rw [e1]; exact s))
  exact Z0
 have hp2 := hb2
 (try simp only [bn] at hp2)
 have hk48 : k = 48 := by omega
 have e9 : fillA (sch k (w16 bs 16)) = layM bs := by rw [fillA_64 (by rw [hml]; omega), hk48, layM]
 refine Z27 ?_
 refine oq (op_lda (L := wC _) 0 ag_168 rfl rfl (List.take_of_length_le (by simp [wC_len] <;> omega)) (by simp [wC_len] <;> omega)) ?_
 refine Za ?_
 refine oN (os_storew (wC _) ag_168 rfl rfl (by rw [wC_len]; exact hfl) (wC_one _) (by simp [wC_len, w8C_len]) (Free.zero _)) ?_; rintro _ _ ⟨rfl, rfl⟩
 refine Z1s ?_
 exact px_rv1 rfl (rv_cella 0 ag_168 rfl rfl (List.take_of_length_le (by first | (simp [wC_len]; done) | (simp [wC_len]; omega))) (by first | (simp [wC_len]; done) | (simp [wC_len]; omega))) (fun _ s => ((s.del 1).del 0)) ⟨by rw [e9], rfl⟩
end Go.SL

set_option linter.unusedVariables false
set_option linter.unusedSimpArgs false
namespace Go.SL
open Go.Proofs

set_option maxRecDepth 100000 in
set_option maxHeartbeats 1000000 in
theorem take_calls {w0 w : World} {l : List HProp} (p : Nat) (q : St) (bo : Option Addr) (bc : Nat) (bs : List UInt8) (hs : Sat w0 w ((Blk p (.cells (stC q).toArray 179 (0, 0))) :: l)) (hr : Rds w0 l encU8 bo bs) (hb : bs.length = 64) :
  Calls Try.prog 115 #[.pointer (some ⟨p, 0, none⟩), .slice bo bs.length bc] w (Ret w0 fun v l' => v = .tuple #[] ∧ l' = Blk p (.cells (stC ⟨blk8 q.w bs, q.rest, q.size⟩).toArray 179 (0, 0)) :: l) := by
 refine calls_enter Try.func115 rfl rfl rfl hs ?_
 refine cd_cut (α := Nat × Nat × Nat) [(4, 6), (13, 19)] (fun x => [(4, .pointer (some ⟨x.1, 0, none⟩)), (5, .pointer (some ⟨x.2.1, 0, none⟩)), (6, .pointer (some ⟨x.2.2, 0, none⟩))]) (fun x => Blk x.1 (.cells (wC (layM bs)).toArray 168 (0, 0)) :: Blk x.2.1 (.cells (wC K64).toArray 168 (0, 0)) :: Blk x.2.2 (.cells (wC q.w.1).toArray 164 (0, 0)) :: Blk p (.cells (stC q).toArray 179 (0, 0)) :: l) ?_ ?_
 ·
  refine cd_drawe (M := []) mx [1, 2, 7, 8, 9, 10, 11, 12] ?_
  refine e_q 0 rfl (wn_none rfl) (op_move (v := .slice _ _ _) rfl) ?_
  refine e_q 3 rfl (wn_none rfl) (op_move (v := .pointer _) rfl) ?_
  refine e_q 4 rfl (wn_none rfl) (op_nilck rfl) ?_
  refine e_q 5 rfl (wn_none rfl) (op_field fld_179_0 rfl) ?_
  refine e_q 6 rfl (wn_none rfl) (op_lda  0 ag_164 rfl rfl (stC_af0 _) (by simp [stC_len])) ?_
  refine et_4 (i1 := 1) (i2 := 7) (i3 := 8) (i4 := 9) (by kernel_rfl) ?_ ?_ ?_ ?_
  ·
   refine ei_i rfl rfl (wn_none rfl) (os_call cb_118 rfl (fun w s => lay_calls _ _ _  s (hr.cons _) (by assumption))) rfl ?_; rintro _ l ⟨rfl, rfl⟩; refine ⟨[], rfl, ?_⟩
   refine et_4 (i1 := 2) (i2 := 7) (i3 := 8) (i4 := 9) (by kernel_rfl) ?_ ?_ ?_ ?_
   ·
    refine ei_i rfl rfl (wn_none rfl) (os_call cb_119 rfl (fun w s => keys_calls  s )) rfl ?_; rintro _ _ ⟨rfl, rfl⟩; refine ⟨[], rfl, ?_⟩
    refine et_3 (i1 := 7) (i2 := 8) (i3 := 9) (by kernel_rfl) ?_ ?_ ?_
    ·
     refine Z6i ?_; intro bx1
     refine et_2 (i1 := 8) (i2 := 9) (by kernel_rfl) ?_ ?_
     ·
      refine Z1i ?_; intro bx2
      refine Z23 ?_
      refine Z25 ?_; intro bx3
      refine Z1e ?_
      refine ei_iN rfl rfl (wn_none rfl) (os_pull2 (os_storew (wC _) ag_168 rfl rfl (by rw [wC_len]; exact layM_len bs) (wC_one _) (by simp [wC_len, w8C_len]) (Free.zero _))) ?_; rintro _ _ ⟨rfl, rfl⟩; refine ⟨[_, _, _], rfl, ?_⟩
      refine Z11 ?_
      refine ei_iN rfl rfl (wn_none rfl) (os_pull2 (os_storew (wC _) ag_164 rfl rfl (by rw [wC_len]; exact q.w.2) (wC_one _) (by simp [wC_len, w8C_len]) (Free.zero _))) ?_; rintro _ _ ⟨rfl, rfl⟩; refine ⟨[_, _, _], rfl, ?_⟩
      refine Z8 ?_
      refine px_cut (bx1, bx2, bx3) ⟨rfl, rfl, rfl, trivial⟩ ?_ (fun _ s => ((((s.pull 3).pull 1).pull 2).pull 3))
      exact Z3
     refine Z3p ?_; intro bx4
     refine Zz ?_
     refine Z1n ?_; intro bx5
     refine ei_iN rfl rfl (wn_none rfl) (os_pull2 (os_storew (wC _) ag_168 rfl rfl (by rw [wC_len]; exact layM_len bs) (wC_one _) (by simp [wC_len, w8C_len]) (Free.zero _))) ?_; rintro _ _ ⟨rfl, rfl⟩; refine ⟨[_, _, _], rfl, ?_⟩
     refine Z12 ?_
     refine ei_iN rfl rfl (wn_none rfl) (os_pull2 (os_storew (wC _) ag_164 rfl rfl (by rw [wC_len]; exact q.w.2) (wC_one _) (by simp [wC_len, w8C_len]) (Free.zero _))) ?_; rintro _ _ ⟨rfl, rfl⟩; refine ⟨[_, _, _], rfl, ?_⟩
     refine Z8 ?_
     refine px_cut (bx1, bx5, bx4) ⟨rfl, rfl, rfl, trivial⟩ ?_ (fun _ s => ((((s.pull 3).pull 1).pull 2).pull 3))
     exact Z3
    ·
     refine Z6i ?_; intro bx6
     refine et_2 (i1 := 7) (i2 := 9) (by kernel_rfl) ?_ ?_
     ·
      refine Z1i ?_; intro bx7
      refine Z23 ?_
      refine Z25 ?_; intro bx8
      refine Z1e ?_
      refine ei_iN rfl rfl (wn_none rfl) (os_pull1 (os_storew (wC _) ag_168 rfl rfl (by rw [wC_len]; exact layM_len bs) (wC_one _) (by simp [wC_len, w8C_len]) (Free.zero _))) ?_; rintro _ _ ⟨rfl, rfl⟩; refine ⟨[_, _, _], rfl, ?_⟩
      refine Z11 ?_
      refine ei_iN rfl rfl (wn_none rfl) (os_pull2 (os_storew (wC _) ag_164 rfl rfl (by rw [wC_len]; exact q.w.2) (wC_one _) (by simp [wC_len, w8C_len]) (Free.zero _))) ?_; rintro _ _ ⟨rfl, rfl⟩; refine ⟨[_, _, _], rfl, ?_⟩
      refine Z8 ?_
      refine px_cut (bx7, bx6, bx8) ⟨rfl, rfl, rfl, trivial⟩ ?_ (fun _ s => ((((s.pull 3).pull 1).pull 2).pull 3))
      exact Z3
     refine Z3p ?_; intro bx9
     refine Z1c ?_
     refine Z1n ?_; intro bx10
     refine ei_iN rfl rfl (wn_none rfl) (os_storew (wC _) ag_168 rfl rfl (by rw [wC_len]; exact layM_len bs) (wC_one _) (by simp [wC_len, w8C_len]) (Free.zero _)) ?_; rintro _ _ ⟨rfl, rfl⟩; refine ⟨[_, _, _], rfl, ?_⟩
     refine Z11 ?_
     refine ei_iN rfl rfl (wn_none rfl) (os_pull2 (os_storew (wC _) ag_164 rfl rfl (by rw [wC_len]; exact q.w.2) (wC_one _) (by simp [wC_len, w8C_len]) (Free.zero _))) ?_; rintro _ _ ⟨rfl, rfl⟩; refine ⟨[_, _, _], rfl, ?_⟩
     refine Z8 ?_
     refine px_cut (bx10, bx6, bx9) ⟨rfl, rfl, rfl, trivial⟩ ?_ (fun _ s => ((((s.pull 3).pull 1).pull 2).pull 3))
     exact Z3
    refine Z92 ?_; intro bx11
    refine et_2 (i1 := 7) (i2 := 8) (by kernel_rfl) ?_ ?_
    ·
     refine Z1i ?_; intro bx12
     refine Zz ?_
     refine Z1n ?_; intro bx13
     refine ei_iN rfl rfl (wn_none rfl) (os_pull1 (os_storew (wC _) ag_168 rfl rfl (by rw [wC_len]; exact layM_len bs) (wC_one _) (by simp [wC_len, w8C_len]) (Free.zero _))) ?_; rintro _ _ ⟨rfl, rfl⟩; refine ⟨[_, _, _], rfl, ?_⟩
     refine Z12 ?_
     refine ei_iN rfl rfl (wn_none rfl) (os_pull2 (os_storew (wC _) ag_164 rfl rfl (by rw [wC_len]; exact q.w.2) (wC_one _) (by simp [wC_len, w8C_len]) (Free.zero _))) ?_; rintro _ _ ⟨rfl, rfl⟩; refine ⟨[_, _, _], rfl, ?_⟩
     refine Z8 ?_
     refine px_cut (bx12, bx13, bx11) ⟨rfl, rfl, rfl, trivial⟩ ?_ (fun _ s => ((((s.pull 3).pull 1).pull 2).pull 3))
     exact Z3
    refine Z1i ?_; intro bx14
    refine Z1c ?_
    refine Z1n ?_; intro bx15
    refine ei_iN rfl rfl (wn_none rfl) (os_storew (wC _) ag_168 rfl rfl (by rw [wC_len]; exact layM_len bs) (wC_one _) (by simp [wC_len, w8C_len]) (Free.zero _)) ?_; rintro _ _ ⟨rfl, rfl⟩; refine ⟨[_, _, _], rfl, ?_⟩
    refine Z12 ?_
    refine ei_iN rfl rfl (wn_none rfl) (os_pull2 (os_storew (wC _) ag_164 rfl rfl (by rw [wC_len]; exact q.w.2) (wC_one _) (by simp [wC_len, w8C_len]) (Free.zero _))) ?_; rintro _ _ ⟨rfl, rfl⟩; refine ⟨[_, _, _], rfl, ?_⟩
    refine Z8 ?_
    refine px_cut (bx15, bx14, bx11) ⟨rfl, rfl, rfl, trivial⟩ ?_ (fun _ s => ((((s.pull 3).pull 1).pull 2).pull 3))
    exact Z3
   ·
    refine Z6i ?_; intro bx16
    refine et_3 (i1 := 2) (i2 := 8) (i3 := 9) (by kernel_rfl) ?_ ?_ ?_
    ·
     refine Z6j ?_
     refine et_2 (i1 := 8) (i2 := 9) (by kernel_rfl) ?_ ?_
     ·
      refine Z1i ?_; intro bx17
      refine Z23 ?_
      refine Z25 ?_; intro bx18
      refine Z1e ?_
      refine ei_iN rfl rfl (wn_none rfl) (os_pull2 (os_storew (wC _) ag_168 rfl rfl (by rw [wC_len]; exact layM_len bs) (wC_one _) (by simp [wC_len, w8C_len]) (Free.zero _))) ?_; rintro _ _ ⟨rfl, rfl⟩; refine ⟨[_, _, _], rfl, ?_⟩
      refine Z11 ?_
      refine ei_iN rfl rfl (wn_none rfl) (os_pull2 (os_storew (wC _) ag_164 rfl rfl (by rw [wC_len]; exact q.w.2) (wC_one _) (by simp [wC_len, w8C_len]) (Free.zero _))) ?_; rintro _ _ ⟨rfl, rfl⟩; refine ⟨[_, _, _], rfl, ?_⟩
      refine Z8 ?_
      refine px_cut (bx16, bx17, bx18) ⟨rfl, rfl, rfl, trivial⟩ ?_ (fun _ s => ((((s.pull 3).pull 1).pull 2).pull 3))
      exact Z3
     refine Z3p ?_; intro bx19
     refine Zz ?_
     refine Z1n ?_; intro bx20
     refine ei_iN rfl rfl (wn_none rfl) (os_pull2 (os_storew (wC _) ag_168 rfl rfl (by rw [wC_len]; exact layM_len bs) (wC_one _) (by simp [wC_len, w8C_len]) (Free.zero _))) ?_; rintro _ _ ⟨rfl, rfl⟩; refine ⟨[_, _, _], rfl, ?_⟩
     refine Z12 ?_
     refine ei_iN rfl rfl (wn_none rfl) (os_pull2 (os_storew (wC _) ag_164 rfl rfl (by rw [wC_len]; exact q.w.2) (wC_one _) (by simp [wC_len, w8C_len]) (Free.zero _))) ?_; rintro _ _ ⟨rfl, rfl⟩; refine ⟨[_, _, _], rfl, ?_⟩
     refine Z8 ?_
     refine px_cut (bx16, bx20, bx19) ⟨rfl, rfl, rfl, trivial⟩ ?_ (fun _ s => ((((s.pull 3).pull 1).pull 2).pull 3))
     exact Z3
    ·
     refine Z1i ?_; intro bx21
     refine Z6k ?_ ?_
     ·
      refine Z2e ?_
      refine Z23 ?_
      refine Z25 ?_; intro bx22
      refine Z1e ?_
      refine ei_iN rfl rfl (wn_none rfl) (os_pull2 (os_storew (wC _) ag_168 rfl rfl (by rw [wC_len]; exact layM_len bs) (wC_one _) (by simp [wC_len, w8C_len]) (Free.zero _))) ?_; rintro _ _ ⟨rfl, rfl⟩; refine ⟨[_, _, _], rfl, ?_⟩
      refine Z11 ?_
      refine ei_iN rfl rfl (wn_none rfl) (os_pull2 (os_storew (wC _) ag_164 rfl rfl (by rw [wC_len]; exact q.w.2) (wC_one _) (by simp [wC_len, w8C_len]) (Free.zero _))) ?_; rintro _ _ ⟨rfl, rfl⟩; refine ⟨[_, _, _], rfl, ?_⟩
      refine Z8 ?_
      refine px_cut (bx16, bx21, bx22) ⟨rfl, rfl, rfl, trivial⟩ ?_ (fun _ s => ((((s.pull 3).pull 1).pull 2).pull 3))
      exact Z3
     refine Z25 ?_; intro bx23
     refine Z1l ?_
     refine ei_iN rfl rfl (wn_none rfl) (os_pull2 (os_storew (wC _) ag_168 rfl rfl (by rw [wC_len]; exact layM_len bs) (wC_one _) (by simp [wC_len, w8C_len]) (Free.zero _))) ?_; rintro _ _ ⟨rfl, rfl⟩; refine ⟨[_, _, _], rfl, ?_⟩
     refine Z11 ?_
     refine ei_iN rfl rfl (wn_none rfl) (os_pull2 (os_storew (wC _) ag_164 rfl rfl (by rw [wC_len]; exact q.w.2) (wC_one _) (by simp [wC_len, w8C_len]) (Free.zero _))) ?_; rintro _ _ ⟨rfl, rfl⟩; refine ⟨[_, _, _], rfl, ?_⟩
     refine Z8 ?_
     refine px_cut (bx16, bx21, bx23) ⟨rfl, rfl, rfl, trivial⟩ ?_ (fun _ s => ((((s.pull 3).pull 1).pull 2).pull 3))
     exact Z3
    refine Z3p ?_; intro bx24
    refine Z6l ?_ ?_
    ·
     refine Z2e ?_
     refine Zz ?_
     refine Z1n ?_; intro bx25
     refine ei_iN rfl rfl (wn_none rfl) (os_pull2 (os_storew (wC _) ag_168 rfl rfl (by rw [wC_len]; exact layM_len bs) (wC_one _) (by simp [wC_len, w8C_len]) (Free.zero _))) ?_; rintro _ _ ⟨rfl, rfl⟩; refine ⟨[_, _, _], rfl, ?_⟩
     refine Z12 ?_
     refine ei_iN rfl rfl (wn_none rfl) (os_pull2 (os_storew (wC _) ag_164 rfl rfl (by rw [wC_len]; exact q.w.2) (wC_one _) (by simp [wC_len, w8C_len]) (Free.zero _))) ?_; rintro _ _ ⟨rfl, rfl⟩; refine ⟨[_, _, _], rfl, ?_⟩
     refine Z8 ?_
     refine px_cut (bx16, bx25, bx24) ⟨rfl, rfl, rfl, trivial⟩ ?_ (fun _ s => ((((s.pull 3).pull 1).pull 2).pull 3))
     exact Z3
    refine Z2j ?_; intro bx26
    refine Z1l ?_
    refine ei_iN rfl rfl (wn_none rfl) (os_pull2 (os_storew (wC _) ag_168 rfl rfl (by rw [wC_len]; exact layM_len bs) (wC_one _) (by simp [wC_len, w8C_len]) (Free.zero _))) ?_; rintro _ _ ⟨rfl, rfl⟩; refine ⟨[_, _, _], rfl, ?_⟩
    refine Z12 ?_
    refine ei_iN rfl rfl (wn_none rfl) (os_pull2 (os_storew (wC _) ag_164 rfl rfl (by rw [wC_len]; exact q.w.2) (wC_one _) (by simp [wC_len, w8C_len]) (Free.zero _))) ?_; rintro _ _ ⟨rfl, rfl⟩; refine ⟨[_, _, _], rfl, ?_⟩
    refine Z8 ?_
    refine px_cut (bx16, bx26, bx24) ⟨rfl, rfl, rfl, trivial⟩ ?_ (fun _ s => ((((s.pull 3).pull 1).pull 2).pull 3))
    exact Z3
   ·
    refine Z6i ?_; intro bx27
    refine et_3 (i1 := 2) (i2 := 7) (i3 := 9) (by kernel_rfl) ?_ ?_ ?_
    ·
     refine Z6j ?_
     refine et_2 (i1 := 7) (i2 := 9) (by kernel_rfl) ?_ ?_
     ·
      refine Z1i ?_; intro bx28
      refine Z23 ?_
      refine Z25 ?_; intro bx29
      refine Z1e ?_
      refine ei_iN rfl rfl (wn_none rfl) (os_pull1 (os_storew (wC _) ag_168 rfl rfl (by rw [wC_len]; exact layM_len bs) (wC_one _) (by simp [wC_len, w8C_len]) (Free.zero _))) ?_; rintro _ _ ⟨rfl, rfl⟩; refine ⟨[_, _, _], rfl, ?_⟩
      refine Z11 ?_
      refine ei_iN rfl rfl (wn_none rfl) (os_pull2 (os_storew (wC _) ag_164 rfl rfl (by rw [wC_len]; exact q.w.2) (wC_one _) (by simp [wC_len, w8C_len]) (Free.zero _))) ?_; rintro _ _ ⟨rfl, rfl⟩; refine ⟨[_, _, _], rfl, ?_⟩
      refine Z8 ?_
      refine px_cut (bx28, bx27, bx29) ⟨rfl, rfl, rfl, trivial⟩ ?_ (fun _ s => ((((s.pull 3).pull 1).pull 2).pull 3))
      exact Z3
     refine Z3p ?_; intro bx30
     refine Z1c ?_
     refine Z1n ?_; intro bx31
     refine ei_iN rfl rfl (wn_none rfl) (os_storew (wC _) ag_168 rfl rfl (by rw [wC_len]; exact layM_len bs) (wC_one _) (by simp [wC_len, w8C_len]) (Free.zero _)) ?_; rintro _ _ ⟨rfl, rfl⟩; refine ⟨[_, _, _], rfl, ?_⟩
     refine Z11 ?_
     refine ei_iN rfl rfl (wn_none rfl) (os_pull2 (os_storew (wC _) ag_164 rfl rfl (by rw [wC_len]; exact q.w.2) (wC_one _) (by simp [wC_len, w8C_len]) (Free.zero _))) ?_; rintro _ _ ⟨rfl, rfl⟩; refine ⟨[_, _, _], rfl, ?_⟩
     refine Z8 ?_
     refine px_cut (bx31, bx27, bx30) ⟨rfl, rfl, rfl, trivial⟩ ?_ (fun _ s => ((((s.pull 3).pull 1).pull 2).pull 3))
     exact Z3
    ·
     refine Z1i ?_; intro bx32
     refine Z6k ?_ ?_
     ·
      refine Z2e ?_
      refine Z23 ?_
      refine Z25 ?_; intro bx33
      refine Z1e ?_
      refine ei_iN rfl rfl (wn_none rfl) (os_pull1 (os_storew (wC _) ag_168 rfl rfl (by rw [wC_len]; exact layM_len bs) (wC_one _) (by simp [wC_len, w8C_len]) (Free.zero _))) ?_; rintro _ _ ⟨rfl, rfl⟩; refine ⟨[_, _, _], rfl, ?_⟩
      refine Z11 ?_
      refine ei_iN rfl rfl (wn_none rfl) (os_pull2 (os_storew (wC _) ag_164 rfl rfl (by rw [wC_len]; exact q.w.2) (wC_one _) (by simp [wC_len, w8C_len]) (Free.zero _))) ?_; rintro _ _ ⟨rfl, rfl⟩; refine ⟨[_, _, _], rfl, ?_⟩
      refine Z8 ?_
      refine px_cut (bx32, bx27, bx33) ⟨rfl, rfl, rfl, trivial⟩ ?_ (fun _ s => ((((s.pull 3).pull 1).pull 2).pull 3))
      exact Z3
     refine Z25 ?_; intro bx34
     refine Z1l ?_
     refine ei_iN rfl rfl (wn_none rfl) (os_pull1 (os_storew (wC _) ag_168 rfl rfl (by rw [wC_len]; exact layM_len bs) (wC_one _) (by simp [wC_len, w8C_len]) (Free.zero _))) ?_; rintro _ _ ⟨rfl, rfl⟩; refine ⟨[_, _, _], rfl, ?_⟩
     refine Z11 ?_
     refine ei_iN rfl rfl (wn_none rfl) (os_pull2 (os_storew (wC _) ag_164 rfl rfl (by rw [wC_len]; exact q.w.2) (wC_one _) (by simp [wC_len, w8C_len]) (Free.zero _))) ?_; rintro _ _ ⟨rfl, rfl⟩; refine ⟨[_, _, _], rfl, ?_⟩
     refine Z8 ?_
     refine px_cut (bx32, bx27, bx34) ⟨rfl, rfl, rfl, trivial⟩ ?_ (fun _ s => ((((s.pull 3).pull 1).pull 2).pull 3))
     exact Z3
    refine Z3p ?_; intro bx35
    refine Z6m ?_ ?_
    ·
     refine Z2e ?_
     refine Z1c ?_
     refine Z1n ?_; intro bx36
     refine ei_iN rfl rfl (wn_none rfl) (os_storew (wC _) ag_168 rfl rfl (by rw [wC_len]; exact layM_len bs) (wC_one _) (by simp [wC_len, w8C_len]) (Free.zero _)) ?_; rintro _ _ ⟨rfl, rfl⟩; refine ⟨[_, _, _], rfl, ?_⟩
     refine Z11 ?_
     refine ei_iN rfl rfl (wn_none rfl) (os_pull2 (os_storew (wC _) ag_164 rfl rfl (by rw [wC_len]; exact q.w.2) (wC_one _) (by simp [wC_len, w8C_len]) (Free.zero _))) ?_; rintro _ _ ⟨rfl, rfl⟩; refine ⟨[_, _, _], rfl, ?_⟩
     refine Z8 ?_
     refine px_cut (bx36, bx27, bx35) ⟨rfl, rfl, rfl, trivial⟩ ?_ (fun _ s => ((((s.pull 3).pull 1).pull 2).pull 3))
     exact Z3
    refine Z2j ?_; intro bx37
    refine Z1l ?_
    refine ei_iN rfl rfl (wn_none rfl) (os_storew (wC _) ag_168 rfl rfl (by rw [wC_len]; exact layM_len bs) (wC_one _) (by simp [wC_len, w8C_len]) (Free.zero _)) ?_; rintro _ _ ⟨rfl, rfl⟩; refine ⟨[_, _, _], rfl, ?_⟩
    refine Z11 ?_
    refine ei_iN rfl rfl (wn_none rfl) (os_pull2 (os_storew (wC _) ag_164 rfl rfl (by rw [wC_len]; exact q.w.2) (wC_one _) (by simp [wC_len, w8C_len]) (Free.zero _))) ?_; rintro _ _ ⟨rfl, rfl⟩; refine ⟨[_, _, _], rfl, ?_⟩
    refine Z8 ?_
    refine px_cut (bx37, bx27, bx35) ⟨rfl, rfl, rfl, trivial⟩ ?_ (fun _ s => ((((s.pull 3).pull 1).pull 2).pull 3))
    exact Z3
   refine Z92 ?_; intro bx38
   refine et_3 (i1 := 2) (i2 := 7) (i3 := 8) (by kernel_rfl) ?_ ?_ ?_
   ·
    refine Z6j ?_
    refine et_2 (i1 := 7) (i2 := 8) (by kernel_rfl) ?_ ?_
    ·
     refine Z1i ?_; intro bx39
     refine Zz ?_
     refine Z1n ?_; intro bx40
     refine ei_iN rfl rfl (wn_none rfl) (os_pull1 (os_storew (wC _) ag_168 rfl rfl (by rw [wC_len]; exact layM_len bs) (wC_one _) (by simp [wC_len, w8C_len]) (Free.zero _))) ?_; rintro _ _ ⟨rfl, rfl⟩; refine ⟨[_, _, _], rfl, ?_⟩
     refine Z12 ?_
     refine ei_iN rfl rfl (wn_none rfl) (os_pull2 (os_storew (wC _) ag_164 rfl rfl (by rw [wC_len]; exact q.w.2) (wC_one _) (by simp [wC_len, w8C_len]) (Free.zero _))) ?_; rintro _ _ ⟨rfl, rfl⟩; refine ⟨[_, _, _], rfl, ?_⟩
     refine Z8 ?_
     refine px_cut (bx39, bx40, bx38) ⟨rfl, rfl, rfl, trivial⟩ ?_ (fun _ s => ((((s.pull 3).pull 1).pull 2).pull 3))
     exact Z3
    refine Z1i ?_; intro bx41
    refine Z1c ?_
    refine Z1n ?_; intro bx42
    refine ei_iN rfl rfl (wn_none rfl) (os_storew (wC _) ag_168 rfl rfl (by rw [wC_len]; exact layM_len bs) (wC_one _) (by simp [wC_len, w8C_len]) (Free.zero _)) ?_; rintro _ _ ⟨rfl, rfl⟩; refine ⟨[_, _, _], rfl, ?_⟩
    refine Z12 ?_
    refine ei_iN rfl rfl (wn_none rfl) (os_pull2 (os_storew (wC _) ag_164 rfl rfl (by rw [wC_len]; exact q.w.2) (wC_one _) (by simp [wC_len, w8C_len]) (Free.zero _))) ?_; rintro _ _ ⟨rfl, rfl⟩; refine ⟨[_, _, _], rfl, ?_⟩
    refine Z8 ?_
    refine px_cut (bx42, bx41, bx38) ⟨rfl, rfl, rfl, trivial⟩ ?_ (fun _ s => ((((s.pull 3).pull 1).pull 2).pull 3))
    exact Z3
   ·
    refine Z1i ?_; intro bx43
    refine Z6l ?_ ?_
    ·
     refine Z2e ?_
     refine Zz ?_
     refine Z1n ?_; intro bx44
     refine ei_iN rfl rfl (wn_none rfl) (os_pull1 (os_storew (wC _) ag_168 rfl rfl (by rw [wC_len]; exact layM_len bs) (wC_one _) (by simp [wC_len, w8C_len]) (Free.zero _))) ?_; rintro _ _ ⟨rfl, rfl⟩; refine ⟨[_, _, _], rfl, ?_⟩
     refine Z12 ?_
     refine ei_iN rfl rfl (wn_none rfl) (os_pull2 (os_storew (wC _) ag_164 rfl rfl (by rw [wC_len]; exact q.w.2) (wC_one _) (by simp [wC_len, w8C_len]) (Free.zero _))) ?_; rintro _ _ ⟨rfl, rfl⟩; refine ⟨[_, _, _], rfl, ?_⟩
     refine Z8 ?_
     refine px_cut (bx43, bx44, bx38) ⟨rfl, rfl, rfl, trivial⟩ ?_ (fun _ s => ((((s.pull 3).pull 1).pull 2).pull 3))
     exact Z3
    refine Z2j ?_; intro bx45
    refine Z1l ?_
    refine ei_iN rfl rfl (wn_none rfl) (os_pull1 (os_storew (wC _) ag_168 rfl rfl (by rw [wC_len]; exact layM_len bs) (wC_one _) (by simp [wC_len, w8C_len]) (Free.zero _))) ?_; rintro _ _ ⟨rfl, rfl⟩; refine ⟨[_, _, _], rfl, ?_⟩
    refine Z12 ?_
    refine ei_iN rfl rfl (wn_none rfl) (os_pull2 (os_storew (wC _) ag_164 rfl rfl (by rw [wC_len]; exact q.w.2) (wC_one _) (by simp [wC_len, w8C_len]) (Free.zero _))) ?_; rintro _ _ ⟨rfl, rfl⟩; refine ⟨[_, _, _], rfl, ?_⟩
    refine Z8 ?_
    refine px_cut (bx43, bx45, bx38) ⟨rfl, rfl, rfl, trivial⟩ ?_ (fun _ s => ((((s.pull 3).pull 1).pull 2).pull 3))
    exact Z3
   refine Z1i ?_; intro bx46
   refine Z6m ?_ ?_
   ·
    refine Z2e ?_
    refine Z1c ?_
    refine Z1n ?_; intro bx47
    refine ei_iN rfl rfl (wn_none rfl) (os_storew (wC _) ag_168 rfl rfl (by rw [wC_len]; exact layM_len bs) (wC_one _) (by simp [wC_len, w8C_len]) (Free.zero _)) ?_; rintro _ _ ⟨rfl, rfl⟩; refine ⟨[_, _, _], rfl, ?_⟩
    refine Z12 ?_
    refine ei_iN rfl rfl (wn_none rfl) (os_pull2 (os_storew (wC _) ag_164 rfl rfl (by rw [wC_len]; exact q.w.2) (wC_one _) (by simp [wC_len, w8C_len]) (Free.zero _))) ?_; rintro _ _ ⟨rfl, rfl⟩; refine ⟨[_, _, _], rfl, ?_⟩
    refine Z8 ?_
    refine px_cut (bx47, bx46, bx38) ⟨rfl, rfl, rfl, trivial⟩ ?_ (fun _ s => ((((s.pull 3).pull 1).pull 2).pull 3))
    exact Z3
   refine Z2j ?_; intro bx48
   refine Z1l ?_
   refine ei_iN rfl rfl (wn_none rfl) (os_storew (wC _) ag_168 rfl rfl (by rw [wC_len]; exact layM_len bs) (wC_one _) (by simp [wC_len, w8C_len]) (Free.zero _)) ?_; rintro _ _ ⟨rfl, rfl⟩; refine ⟨[_, _, _], rfl, ?_⟩
   refine Z12 ?_
   refine ei_iN rfl rfl (wn_none rfl) (os_pull2 (os_storew (wC _) ag_164 rfl rfl (by rw [wC_len]; exact q.w.2) (wC_one _) (by simp [wC_len, w8C_len]) (Free.zero _))) ?_; rintro _ _ ⟨rfl, rfl⟩; refine ⟨[_, _, _], rfl, ?_⟩
   refine Z8 ?_
   refine px_cut (bx48, bx46, bx38) ⟨rfl, rfl, rfl, trivial⟩ ?_ (fun _ s => ((((s.pull 3).pull 1).pull 2).pull 3))
   exact Z3
  ·
   refine Z6i ?_; intro bx49
   refine et_3 (i1 := 1) (i2 := 8) (i3 := 9) (by kernel_rfl) ?_ ?_ ?_
   ·
    refine ei_i rfl rfl (wn_none rfl) (os_call cb_118 rfl (fun w s => lay_calls _ _ _  s ((hr.cons _).cons _) (by assumption))) rfl ?_; rintro _ l ⟨rfl, rfl⟩; refine ⟨[_], rfl, ?_⟩
    refine et_3 (i1 := 2) (i2 := 8) (i3 := 9) (by kernel_rfl) ?_ ?_ ?_
    ·
     refine Z6j ?_
     refine et_2 (i1 := 8) (i2 := 9) (by kernel_rfl) ?_ ?_
     ·
      refine Z1i ?_; intro bx50
      refine Z23 ?_
      refine Z25 ?_; intro bx51
      refine Z1e ?_
      refine ei_iN rfl rfl (wn_none rfl) (os_pull2 (os_storew (wC _) ag_168 rfl rfl (by rw [wC_len]; exact layM_len bs) (wC_one _) (by simp [wC_len, w8C_len]) (Free.zero _))) ?_; rintro _ _ ⟨rfl, rfl⟩; refine ⟨[_, _, _], rfl, ?_⟩
      refine Z11 ?_
      refine ei_iN rfl rfl (wn_none rfl) (os_pull2 (os_storew (wC _) ag_164 rfl rfl (by rw [wC_len]; exact q.w.2) (wC_one _) (by simp [wC_len, w8C_len]) (Free.zero _))) ?_; rintro _ _ ⟨rfl, rfl⟩; refine ⟨[_, _, _], rfl, ?_⟩
      refine Z8 ?_
      refine px_cut (bx49, bx50, bx51) ⟨rfl, rfl, rfl, trivial⟩ ?_ (fun _ s => ((((s.pull 3).pull 1).pull 2).pull 3))
      exact Z3
     refine Z3p ?_; intro bx52
     refine Zz ?_
     refine Z1n ?_; intro bx53
     refine ei_iN rfl rfl (wn_none rfl) (os_pull2 (os_storew (wC _) ag_168 rfl rfl (by rw [wC_len]; exact layM_len bs) (wC_one _) (by simp [wC_len, w8C_len]) (Free.zero _))) ?_; rintro _ _ ⟨rfl, rfl⟩; refine ⟨[_, _, _], rfl, ?_⟩
     refine Z12 ?_
     refine ei_iN rfl rfl (wn_none rfl) (os_pull2 (os_storew (wC _) ag_164 rfl rfl (by rw [wC_len]; exact q.w.2) (wC_one _) (by simp [wC_len, w8C_len]) (Free.zero _))) ?_; rintro _ _ ⟨rfl, rfl⟩; refine ⟨[_, _, _], rfl, ?_⟩
     refine Z8 ?_
     refine px_cut (bx49, bx53, bx52) ⟨rfl, rfl, rfl, trivial⟩ ?_ (fun _ s => ((((s.pull 3).pull 1).pull 2).pull 3))
     exact Z3
    ·
     refine Z1i ?_; intro bx54
     refine Z6k ?_ ?_
     ·
      refine Z2e ?_
      refine Z23 ?_
      refine Z25 ?_; intro bx55
      refine Z1e ?_
      refine ei_iN rfl rfl (wn_none rfl) (os_pull2 (os_storew (wC _) ag_168 rfl rfl (by rw [wC_len]; exact layM_len bs) (wC_one _) (by simp [wC_len, w8C_len]) (Free.zero _))) ?_; rintro _ _ ⟨rfl, rfl⟩; refine ⟨[_, _, _], rfl, ?_⟩
      refine Z11 ?_
      refine ei_iN rfl rfl (wn_none rfl) (os_pull2 (os_storew (wC _) ag_164 rfl rfl (by rw [wC_len]; exact q.w.2) (wC_one _) (by simp [wC_len, w8C_len]) (Free.zero _))) ?_; rintro _ _ ⟨rfl, rfl⟩; refine ⟨[_, _, _], rfl, ?_⟩
      refine Z8 ?_
      refine px_cut (bx49, bx54, bx55) ⟨rfl, rfl, rfl, trivial⟩ ?_ (fun _ s => ((((s.pull 3).pull 1).pull 2).pull 3))
      exact Z3
     refine Z25 ?_; intro bx56
     refine Z1l ?_
     refine ei_iN rfl rfl (wn_none rfl) (os_pull2 (os_storew (wC _) ag_168 rfl rfl (by rw [wC_len]; exact layM_len bs) (wC_one _) (by simp [wC_len, w8C_len]) (Free.zero _))) ?_; rintro _ _ ⟨rfl, rfl⟩; refine ⟨[_, _, _], rfl, ?_⟩
     refine Z11 ?_
     refine ei_iN rfl rfl (wn_none rfl) (os_pull2 (os_storew (wC _) ag_164 rfl rfl (by rw [wC_len]; exact q.w.2) (wC_one _) (by simp [wC_len, w8C_len]) (Free.zero _))) ?_; rintro _ _ ⟨rfl, rfl⟩; refine ⟨[_, _, _], rfl, ?_⟩
     refine Z8 ?_
     refine px_cut (bx49, bx54, bx56) ⟨rfl, rfl, rfl, trivial⟩ ?_ (fun _ s => ((((s.pull 3).pull 1).pull 2).pull 3))
     exact Z3
    refine Z3p ?_; intro bx57
    refine Z6l ?_ ?_
    ·
     refine Z2e ?_
     refine Zz ?_
     refine Z1n ?_; intro bx58
     refine ei_iN rfl rfl (wn_none rfl) (os_pull2 (os_storew (wC _) ag_168 rfl rfl (by rw [wC_len]; exact layM_len bs) (wC_one _) (by simp [wC_len, w8C_len]) (Free.zero _))) ?_; rintro _ _ ⟨rfl, rfl⟩; refine ⟨[_, _, _], rfl, ?_⟩
     refine Z12 ?_
     refine ei_iN rfl rfl (wn_none rfl) (os_pull2 (os_storew (wC _) ag_164 rfl rfl (by rw [wC_len]; exact q.w.2) (wC_one _) (by simp [wC_len, w8C_len]) (Free.zero _))) ?_; rintro _ _ ⟨rfl, rfl⟩; refine ⟨[_, _, _], rfl, ?_⟩
     refine Z8 ?_
     refine px_cut (bx49, bx58, bx57) ⟨rfl, rfl, rfl, trivial⟩ ?_ (fun _ s => ((((s.pull 3).pull 1).pull 2).pull 3))
     exact Z3
    refine Z2j ?_; intro bx59
    refine Z1l ?_
    refine ei_iN rfl rfl (wn_none rfl) (os_pull2 (os_storew (wC _) ag_168 rfl rfl (by rw [wC_len]; exact layM_len bs) (wC_one _) (by simp [wC_len, w8C_len]) (Free.zero _))) ?_; rintro _ _ ⟨rfl, rfl⟩; refine ⟨[_, _, _], rfl, ?_⟩
    refine Z12 ?_
    refine ei_iN rfl rfl (wn_none rfl) (os_pull2 (os_storew (wC _) ag_164 rfl rfl (by rw [wC_len]; exact q.w.2) (wC_one _) (by simp [wC_len, w8C_len]) (Free.zero _))) ?_; rintro _ _ ⟨rfl, rfl⟩; refine ⟨[_, _, _], rfl, ?_⟩
    refine Z8 ?_
    refine px_cut (bx49, bx59, bx57) ⟨rfl, rfl, rfl, trivial⟩ ?_ (fun _ s => ((((s.pull 3).pull 1).pull 2).pull 3))
    exact Z3
   ·
    refine Z1i ?_; intro bx60
    refine et_2 (i1 := 1) (i2 := 9) (by kernel_rfl) ?_ ?_
    ·
     refine ei_i rfl rfl (wn_none rfl) (os_call cb_118 rfl (fun w s => lay_calls _ _ _  s (((hr.cons _).cons _).cons _) (by assumption))) rfl ?_; rintro _ l ⟨rfl, rfl⟩; refine ⟨[_, _], rfl, ?_⟩
     refine Z6k ?_ ?_
     ·
      refine Z2e ?_
      refine Z23 ?_
      refine Z25 ?_; intro bx61
      refine Z1e ?_
      refine ei_iN rfl rfl (wn_none rfl) (os_pull2 (os_storew (wC _) ag_168 rfl rfl (by rw [wC_len]; exact layM_len bs) (wC_one _) (by simp [wC_len, w8C_len]) (Free.zero _))) ?_; rintro _ _ ⟨rfl, rfl⟩; refine ⟨[_, _, _], rfl, ?_⟩
      refine Z11 ?_
      refine ei_iN rfl rfl (wn_none rfl) (os_pull2 (os_storew (wC _) ag_164 rfl rfl (by rw [wC_len]; exact q.w.2) (wC_one _) (by simp [wC_len, w8C_len]) (Free.zero _))) ?_; rintro _ _ ⟨rfl, rfl⟩; refine ⟨[_, _, _], rfl, ?_⟩
      refine Z8 ?_
      refine px_cut (bx49, bx60, bx61) ⟨rfl, rfl, rfl, trivial⟩ ?_ (fun _ s => ((((s.pull 3).pull 1).pull 2).pull 3))
      exact Z3
     refine Z25 ?_; intro bx62
     refine Z1l ?_
     refine ei_iN rfl rfl (wn_none rfl) (os_pull2 (os_storew (wC _) ag_168 rfl rfl (by rw [wC_len]; exact layM_len bs) (wC_one _) (by simp [wC_len, w8C_len]) (Free.zero _))) ?_; rintro _ _ ⟨rfl, rfl⟩; refine ⟨[_, _, _], rfl, ?_⟩
     refine Z11 ?_
     refine ei_iN rfl rfl (wn_none rfl) (os_pull2 (os_storew (wC _) ag_164 rfl rfl (by rw [wC_len]; exact q.w.2) (wC_one _) (by simp [wC_len, w8C_len]) (Free.zero _))) ?_; rintro _ _ ⟨rfl, rfl⟩; refine ⟨[_, _, _], rfl, ?_⟩
     refine Z8 ?_
     refine px_cut (bx49, bx60, bx62) ⟨rfl, rfl, rfl, trivial⟩ ?_ (fun _ s => ((((s.pull 3).pull 1).pull 2).pull 3))
     exact Z3
    refine Z25 ?_; intro bx63
    refine Z58 ?_
    refine ei_i rfl rfl (wn_none rfl) (os_call cb_118 rfl (fun w s => lay_calls _ _ _  s ((((hr.cons _).cons _).cons _).cons _) (by assumption))) rfl ?_; rintro _ l ⟨rfl, rfl⟩; refine ⟨[_, _, _], rfl, ?_⟩
    refine Z1l ?_
    refine ei_iN rfl rfl (wn_none rfl) (os_pull2 (os_storew (wC _) ag_168 rfl rfl (by rw [wC_len]; exact layM_len bs) (wC_one _) (by simp [wC_len, w8C_len]) (Free.zero _))) ?_; rintro _ _ ⟨rfl, rfl⟩; refine ⟨[_, _, _], rfl, ?_⟩
    refine Z11 ?_
    refine ei_iN rfl rfl (wn_none rfl) (os_pull2 (os_storew (wC _) ag_164 rfl rfl (by rw [wC_len]; exact q.w.2) (wC_one _) (by simp [wC_len, w8C_len]) (Free.zero _))) ?_; rintro _ _ ⟨rfl, rfl⟩; refine ⟨[_, _, _], rfl, ?_⟩
    refine Z8 ?_
    refine px_cut (bx49, bx60, bx63) ⟨rfl, rfl, rfl, trivial⟩ ?_ (fun _ s => ((((s.pull 3).pull 1).pull 2).pull 3))
    exact Z3
   refine Z3p ?_; intro bx64
   refine et_2 (i1 := 1) (i2 := 8) (by kernel_rfl) ?_ ?_
   ·
    refine ei_i rfl rfl (wn_none rfl) (os_call cb_118 rfl (fun w s => lay_calls _ _ _  s (((hr.cons _).cons _).cons _) (by assumption))) rfl ?_; rintro _ l ⟨rfl, rfl⟩; refine ⟨[_, _], rfl, ?_⟩
    refine Z6l ?_ ?_
    ·
     refine Z2e ?_
     refine Zz ?_
     refine Z1n ?_; intro bx65
     refine ei_iN rfl rfl (wn_none rfl) (os_pull2 (os_storew (wC _) ag_168 rfl rfl (by rw [wC_len]; exact layM_len bs) (wC_one _) (by simp [wC_len, w8C_len]) (Free.zero _))) ?_; rintro _ _ ⟨rfl, rfl⟩; refine ⟨[_, _, _], rfl, ?_⟩
     refine Z12 ?_
     refine ei_iN rfl rfl (wn_none rfl) (os_pull2 (os_storew (wC _) ag_164 rfl rfl (by rw [wC_len]; exact q.w.2) (wC_one _) (by simp [wC_len, w8C_len]) (Free.zero _))) ?_; rintro _ _ ⟨rfl, rfl⟩; refine ⟨[_, _, _], rfl, ?_⟩
     refine Z8 ?_
     refine px_cut (bx49, bx65, bx64) ⟨rfl, rfl, rfl, trivial⟩ ?_ (fun _ s => ((((s.pull 3).pull 1).pull 2).pull 3))
     exact Z3
    refine Z2j ?_; intro bx66
    refine Z1l ?_
    refine ei_iN rfl rfl (wn_none rfl) (os_pull2 (os_storew (wC _) ag_168 rfl rfl (by rw [wC_len]; exact layM_len bs) (wC_one _) (by simp [wC_len, w8C_len]) (Free.zero _))) ?_; rintro _ _ ⟨rfl, rfl⟩; refine ⟨[_, _, _], rfl, ?_⟩
    refine Z12 ?_
    refine ei_iN rfl rfl (wn_none rfl) (os_pull2 (os_storew (wC _) ag_164 rfl rfl (by rw [wC_len]; exact q.w.2) (wC_one _) (by simp [wC_len, w8C_len]) (Free.zero _))) ?_; rintro _ _ ⟨rfl, rfl⟩; refine ⟨[_, _, _], rfl, ?_⟩
    refine Z8 ?_
    refine px_cut (bx49, bx66, bx64) ⟨rfl, rfl, rfl, trivial⟩ ?_ (fun _ s => ((((s.pull 3).pull 1).pull 2).pull 3))
    exact Z3
   refine Z2j ?_; intro bx67
   refine Z58 ?_
   refine ei_i rfl rfl (wn_none rfl) (os_call cb_118 rfl (fun w s => lay_calls _ _ _  s ((((hr.cons _).cons _).cons _).cons _) (by assumption))) rfl ?_; rintro _ l ⟨rfl, rfl⟩; refine ⟨[_, _, _], rfl, ?_⟩
   refine Z1l ?_
   refine ei_iN rfl rfl (wn_none rfl) (os_pull2 (os_storew (wC _) ag_168 rfl rfl (by rw [wC_len]; exact layM_len bs) (wC_one _) (by simp [wC_len, w8C_len]) (Free.zero _))) ?_; rintro _ _ ⟨rfl, rfl⟩; refine ⟨[_, _, _], rfl, ?_⟩
   refine Z12 ?_
   refine ei_iN rfl rfl (wn_none rfl) (os_pull2 (os_storew (wC _) ag_164 rfl rfl (by rw [wC_len]; exact q.w.2) (wC_one _) (by simp [wC_len, w8C_len]) (Free.zero _))) ?_; rintro _ _ ⟨rfl, rfl⟩; refine ⟨[_, _, _], rfl, ?_⟩
   refine Z8 ?_
   refine px_cut (bx49, bx67, bx64) ⟨rfl, rfl, rfl, trivial⟩ ?_ (fun _ s => ((((s.pull 3).pull 1).pull 2).pull 3))
   exact Z3
  ·
   refine Z6i ?_; intro bx68
   refine et_3 (i1 := 1) (i2 := 7) (i3 := 9) (by kernel_rfl) ?_ ?_ ?_
   ·
    refine ei_i rfl rfl (wn_none rfl) (os_call cb_118 rfl (fun w s => lay_calls _ _ _  s ((hr.cons _).cons _) (by assumption))) rfl ?_; rintro _ l ⟨rfl, rfl⟩; refine ⟨[_], rfl, ?_⟩
    refine et_3 (i1 := 2) (i2 := 7) (i3 := 9) (by kernel_rfl) ?_ ?_ ?_
    ·
     refine Z6j ?_
     refine et_2 (i1 := 7) (i2 := 9) (by kernel_rfl) ?_ ?_
     ·
      refine Z1i ?_; intro bx69
      refine Z23 ?_
      refine Z25 ?_; intro bx70
      refine Z1e ?_
      refine ei_iN rfl rfl (wn_none rfl) (os_pull1 (os_storew (wC _) ag_168 rfl rfl (by rw [wC_len]; exact layM_len bs) (wC_one _) (by simp [wC_len, w8C_len]) (Free.zero _))) ?_; rintro _ _ ⟨rfl, rfl⟩; refine ⟨[_, _, _], rfl, ?_⟩
      refine Z11 ?_
      refine ei_iN rfl rfl (wn_none rfl) (os_pull2 (os_storew (wC _) ag_164 rfl rfl (by rw [wC_len]; exact q.w.2) (wC_one _) (by simp [wC_len, w8C_len]) (Free.zero _))) ?_; rintro _ _ ⟨rfl, rfl⟩; refine ⟨[_, _, _], rfl, ?_⟩
      refine Z8 ?_
      refine px_cut (bx69, bx68, bx70) ⟨rfl, rfl, rfl, trivial⟩ ?_ (fun _ s => ((((s.pull 3).pull 1).pull 2).pull 3))
      exact Z3
     refine Z3p ?_; intro bx71
     refine Z1c ?_
     refine Z1n ?_; intro bx72
     refine ei_iN rfl rfl (wn_none rfl) (os_storew (wC _) ag_168 rfl rfl (by rw [wC_len]; exact layM_len bs) (wC_one _) (by simp [wC_len, w8C_len]) (Free.zero _)) ?_; rintro _ _ ⟨rfl, rfl⟩; refine ⟨[_, _, _], rfl, ?_⟩
     refine Z11 ?_
     refine ei_iN rfl rfl (wn_none rfl) (os_pull2 (os_storew (wC _) ag_164 rfl rfl (by rw [wC_len]; exact q.w.2) (wC_one _) (by simp [wC_len, w8C_len]) (Free.zero _))) ?_; rintro _ _ ⟨rfl, rfl⟩; refine ⟨[_, _, _], rfl, ?_⟩
     refine Z8 ?_
     refine px_cut (bx72, bx68, bx71) ⟨rfl, rfl, rfl, trivial⟩ ?_ (fun _ s => ((((s.pull 3).pull 1).pull 2).pull 3))
     exact Z3
    ·
     refine Z1i ?_; intro bx73
     refine Z6k ?_ ?_
     ·
      refine Z2e ?_
      refine Z23 ?_
      refine Z25 ?_; intro bx74
      refine Z1e ?_
      refine ei_iN rfl rfl (wn_none rfl) (os_pull1 (os_storew (wC _) ag_168 rfl rfl (by rw [wC_len]; exact layM_len bs) (wC_one _) (by simp [wC_len, w8C_len]) (Free.zero _))) ?_; rintro _ _ ⟨rfl, rfl⟩; refine ⟨[_, _, _], rfl, ?_⟩
      refine Z11 ?_
      refine ei_iN rfl rfl (wn_none rfl) (os_pull2 (os_storew (wC _) ag_164 rfl rfl (by rw [wC_len]; exact q.w.2) (wC_one _) (by simp [wC_len, w8C_len]) (Free.zero _))) ?_; rintro _ _ ⟨rfl, rfl⟩; refine ⟨[_, _, _], rfl, ?_⟩
      refine Z8 ?_
      refine px_cut (bx73, bx68, bx74) ⟨rfl, rfl, rfl, trivial⟩ ?_ (fun _ s => ((((s.pull 3).pull 1).pull 2).pull 3))
      exact Z3
     refine Z25 ?_; intro bx75
     refine Z1l ?_
     refine ei_iN rfl rfl (wn_none rfl) (os_pull1 (os_storew (wC _) ag_168 rfl rfl (by rw [wC_len]; exact layM_len bs) (wC_one _) (by simp [wC_len, w8C_len]) (Free.zero _))) ?_; rintro _ _ ⟨rfl, rfl⟩; refine ⟨[_, _, _], rfl, ?_⟩
     refine Z11 ?_
     refine ei_iN rfl rfl (wn_none rfl) (os_pull2 (os_storew (wC _) ag_164 rfl rfl (by rw [wC_len]; exact q.w.2) (wC_one _) (by simp [wC_len, w8C_len]) (Free.zero _))) ?_; rintro _ _ ⟨rfl, rfl⟩; refine ⟨[_, _, _], rfl, ?_⟩
     refine Z8 ?_
     refine px_cut (bx73, bx68, bx75) ⟨rfl, rfl, rfl, trivial⟩ ?_ (fun _ s => ((((s.pull 3).pull 1).pull 2).pull 3))
     exact Z3
    refine Z3p ?_; intro bx76
    refine Z6m ?_ ?_
    ·
     refine Z2e ?_
     refine Z1c ?_
     refine Z1n ?_; intro bx77
     refine ei_iN rfl rfl (wn_none rfl) (os_storew (wC _) ag_168 rfl rfl (by rw [wC_len]; exact layM_len bs) (wC_one _) (by simp [wC_len, w8C_len]) (Free.zero _)) ?_; rintro _ _ ⟨rfl, rfl⟩; refine ⟨[_, _, _], rfl, ?_⟩
     refine Z11 ?_
     refine ei_iN rfl rfl (wn_none rfl) (os_pull2 (os_storew (wC _) ag_164 rfl rfl (by rw [wC_len]; exact q.w.2) (wC_one _) (by simp [wC_len, w8C_len]) (Free.zero _))) ?_; rintro _ _ ⟨rfl, rfl⟩; refine ⟨[_, _, _], rfl, ?_⟩
     refine Z8 ?_
     refine px_cut (bx77, bx68, bx76) ⟨rfl, rfl, rfl, trivial⟩ ?_ (fun _ s => ((((s.pull 3).pull 1).pull 2).pull 3))
     exact Z3
    refine Z2j ?_; intro bx78
    refine Z1l ?_
    refine ei_iN rfl rfl (wn_none rfl) (os_storew (wC _) ag_168 rfl rfl (by rw [wC_len]; exact layM_len bs) (wC_one _) (by simp [wC_len, w8C_len]) (Free.zero _)) ?_; rintro _ _ ⟨rfl, rfl⟩; refine ⟨[_, _, _], rfl, ?_⟩
    refine Z11 ?_
    refine ei_iN rfl rfl (wn_none rfl) (os_pull2 (os_storew (wC _) ag_164 rfl rfl (by rw [wC_len]; exact q.w.2) (wC_one _) (by simp [wC_len, w8C_len]) (Free.zero _))) ?_; rintro _ _ ⟨rfl, rfl⟩; refine ⟨[_, _, _], rfl, ?_⟩
    refine Z8 ?_
    refine px_cut (bx78, bx68, bx76) ⟨rfl, rfl, rfl, trivial⟩ ?_ (fun _ s => ((((s.pull 3).pull 1).pull 2).pull 3))
    exact Z3
   ·
    refine Z1i ?_; intro bx79
    refine et_2 (i1 := 1) (i2 := 9) (by kernel_rfl) ?_ ?_
    ·
     refine ei_i rfl rfl (wn_none rfl) (os_call cb_118 rfl (fun w s => lay_calls _ _ _  s (((hr.cons _).cons _).cons _) (by assumption))) rfl ?_; rintro _ l ⟨rfl, rfl⟩; refine ⟨[_, _], rfl, ?_⟩
     refine Z6k ?_ ?_
     ·
      refine Z2e ?_
      refine Z23 ?_
      refine Z25 ?_; intro bx80
      refine Z1e ?_
      refine ei_iN rfl rfl (wn_none rfl) (os_pull1 (os_storew (wC _) ag_168 rfl rfl (by rw [wC_len]; exact layM_len bs) (wC_one _) (by simp [wC_len, w8C_len]) (Free.zero _))) ?_; rintro _ _ ⟨rfl, rfl⟩; refine ⟨[_, _, _], rfl, ?_⟩
      refine Z11 ?_
      refine ei_iN rfl rfl (wn_none rfl) (os_pull2 (os_storew (wC _) ag_164 rfl rfl (by rw [wC_len]; exact q.w.2) (wC_one _) (by simp [wC_len, w8C_len]) (Free.zero _))) ?_; rintro _ _ ⟨rfl, rfl⟩; refine ⟨[_, _, _], rfl, ?_⟩
      refine Z8 ?_
      refine px_cut (bx79, bx68, bx80) ⟨rfl, rfl, rfl, trivial⟩ ?_ (fun _ s => ((((s.pull 3).pull 1).pull 2).pull 3))
      exact Z3
     refine Z25 ?_; intro bx81
     refine Z1l ?_
     refine ei_iN rfl rfl (wn_none rfl) (os_pull1 (os_storew (wC _) ag_168 rfl rfl (by rw [wC_len]; exact layM_len bs) (wC_one _) (by simp [wC_len, w8C_len]) (Free.zero _))) ?_; rintro _ _ ⟨rfl, rfl⟩; refine ⟨[_, _, _], rfl, ?_⟩
     refine Z11 ?_
     refine ei_iN rfl rfl (wn_none rfl) (os_pull2 (os_storew (wC _) ag_164 rfl rfl (by rw [wC_len]; exact q.w.2) (wC_one _) (by simp [wC_len, w8C_len]) (Free.zero _))) ?_; rintro _ _ ⟨rfl, rfl⟩; refine ⟨[_, _, _], rfl, ?_⟩
     refine Z8 ?_
     refine px_cut (bx79, bx68, bx81) ⟨rfl, rfl, rfl, trivial⟩ ?_ (fun _ s => ((((s.pull 3).pull 1).pull 2).pull 3))
     exact Z3
    refine Z25 ?_; intro bx82
    refine Z58 ?_
    refine ei_i rfl rfl (wn_none rfl) (os_call cb_118 rfl (fun w s => lay_calls _ _ _  s ((((hr.cons _).cons _).cons _).cons _) (by assumption))) rfl ?_; rintro _ l ⟨rfl, rfl⟩; refine ⟨[_, _, _], rfl, ?_⟩
    refine Z1l ?_
    refine ei_iN rfl rfl (wn_none rfl) (os_pull1 (os_storew (wC _) ag_168 rfl rfl (by rw [wC_len]; exact layM_len bs) (wC_one _) (by simp [wC_len, w8C_len]) (Free.zero _))) ?_; rintro _ _ ⟨rfl, rfl⟩; refine ⟨[_, _, _], rfl, ?_⟩
    refine Z11 ?_
    refine ei_iN rfl rfl (wn_none rfl) (os_pull2 (os_storew (wC _) ag_164 rfl rfl (by rw [wC_len]; exact q.w.2) (wC_one _) (by simp [wC_len, w8C_len]) (Free.zero _))) ?_; rintro _ _ ⟨rfl, rfl⟩; refine ⟨[_, _, _], rfl, ?_⟩
    refine Z8 ?_
    refine px_cut (bx79, bx68, bx82) ⟨rfl, rfl, rfl, trivial⟩ ?_ (fun _ s => ((((s.pull 3).pull 1).pull 2).pull 3))
    exact Z3
   refine Z3p ?_; intro bx83
   refine et_2 (i1 := 1) (i2 := 7) (by kernel_rfl) ?_ ?_
   ·
    refine ei_i rfl rfl (wn_none rfl) (os_call cb_118 rfl (fun w s => lay_calls _ _ _  s (((hr.cons _).cons _).cons _) (by assumption))) rfl ?_; rintro _ l ⟨rfl, rfl⟩; refine ⟨[_, _], rfl, ?_⟩
    refine Z6m ?_ ?_
    ·
     refine Z2e ?_
     refine Z1c ?_
     refine Z1n ?_; intro bx84
     refine ei_iN rfl rfl (wn_none rfl) (os_storew (wC _) ag_168 rfl rfl (by rw [wC_len]; exact layM_len bs) (wC_one _) (by simp [wC_len, w8C_len]) (Free.zero _)) ?_; rintro _ _ ⟨rfl, rfl⟩; refine ⟨[_, _, _], rfl, ?_⟩
     refine Z11 ?_
     refine ei_iN rfl rfl (wn_none rfl) (os_pull2 (os_storew (wC _) ag_164 rfl rfl (by rw [wC_len]; exact q.w.2) (wC_one _) (by simp [wC_len, w8C_len]) (Free.zero _))) ?_; rintro _ _ ⟨rfl, rfl⟩; refine ⟨[_, _, _], rfl, ?_⟩
     refine Z8 ?_
     refine px_cut (bx84, bx68, bx83) ⟨rfl, rfl, rfl, trivial⟩ ?_ (fun _ s => ((((s.pull 3).pull 1).pull 2).pull 3))
     exact Z3
    refine Z2j ?_; intro bx85
    refine Z1l ?_
    refine ei_iN rfl rfl (wn_none rfl) (os_storew (wC _) ag_168 rfl rfl (by rw [wC_len]; exact layM_len bs) (wC_one _) (by simp [wC_len, w8C_len]) (Free.zero _)) ?_; rintro _ _ ⟨rfl, rfl⟩; refine ⟨[_, _, _], rfl, ?_⟩
    refine Z11 ?_
    refine ei_iN rfl rfl (wn_none rfl) (os_pull2 (os_storew (wC _) ag_164 rfl rfl (by rw [wC_len]; exact q.w.2) (wC_one _) (by simp [wC_len, w8C_len]) (Free.zero _))) ?_; rintro _ _ ⟨rfl, rfl⟩; refine ⟨[_, _, _], rfl, ?_⟩
    refine Z8 ?_
    refine px_cut (bx85, bx68, bx83) ⟨rfl, rfl, rfl, trivial⟩ ?_ (fun _ s => ((((s.pull 3).pull 1).pull 2).pull 3))
    exact Z3
   refine Z2j ?_; intro bx86
   refine Z58 ?_
   refine ei_i rfl rfl (wn_none rfl) (os_call cb_118 rfl (fun w s => lay_calls _ _ _  s ((((hr.cons _).cons _).cons _).cons _) (by assumption))) rfl ?_; rintro _ l ⟨rfl, rfl⟩; refine ⟨[_, _, _], rfl, ?_⟩
   refine Z1l ?_
   refine ei_iN rfl rfl (wn_none rfl) (os_storew (wC _) ag_168 rfl rfl (by rw [wC_len]; exact layM_len bs) (wC_one _) (by simp [wC_len, w8C_len]) (Free.zero _)) ?_; rintro _ _ ⟨rfl, rfl⟩; refine ⟨[_, _, _], rfl, ?_⟩
   refine Z11 ?_
   refine ei_iN rfl rfl (wn_none rfl) (os_pull2 (os_storew (wC _) ag_164 rfl rfl (by rw [wC_len]; exact q.w.2) (wC_one _) (by simp [wC_len, w8C_len]) (Free.zero _))) ?_; rintro _ _ ⟨rfl, rfl⟩; refine ⟨[_, _, _], rfl, ?_⟩
   refine Z8 ?_
   refine px_cut (bx86, bx68, bx83) ⟨rfl, rfl, rfl, trivial⟩ ?_ (fun _ s => ((((s.pull 3).pull 1).pull 2).pull 3))
   exact Z3
  refine Z92 ?_; intro bx87
  refine et_3 (i1 := 1) (i2 := 7) (i3 := 8) (by kernel_rfl) ?_ ?_ ?_
  ·
   refine ei_i rfl rfl (wn_none rfl) (os_call cb_118 rfl (fun w s => lay_calls _ _ _  s ((hr.cons _).cons _) (by assumption))) rfl ?_; rintro _ l ⟨rfl, rfl⟩; refine ⟨[_], rfl, ?_⟩
   refine et_3 (i1 := 2) (i2 := 7) (i3 := 8) (by kernel_rfl) ?_ ?_ ?_
   ·
    refine Z6j ?_
    refine et_2 (i1 := 7) (i2 := 8) (by kernel_rfl) ?_ ?_
    ·
     refine Z1i ?_; intro bx88
     refine Zz ?_
     refine Z1n ?_; intro bx89
     refine ei_iN rfl rfl (wn_none rfl) (os_pull1 (os_storew (wC _) ag_168 rfl rfl (by rw [wC_len]; exact layM_len bs) (wC_one _) (by simp [wC_len, w8C_len]) (Free.zero _))) ?_; rintro _ _ ⟨rfl, rfl⟩; refine ⟨[_, _, _], rfl, ?_⟩
     refine Z12 ?_
     refine ei_iN rfl rfl (wn_none rfl) (os_pull2 (os_storew (wC _) ag_164 rfl rfl (by rw [wC_len]; exact q.w.2) (wC_one _) (by simp [wC_len, w8C_len]) (Free.zero _))) ?_; rintro _ _ ⟨rfl, rfl⟩; refine ⟨[_, _, _], rfl, ?_⟩
     refine Z8 ?_
     refine px_cut (bx88, bx89, bx87) ⟨rfl, rfl, rfl, trivial⟩ ?_ (fun _ s => ((((s.pull 3).pull 1).pull 2).pull 3))
     exact Z3
    refine Z1i ?_; intro bx90
    refine Z1c ?_
    refine Z1n ?_; intro bx91
    refine ei_iN rfl rfl (wn_none rfl) (os_storew (wC _) ag_168 rfl rfl (by rw [wC_len]; exact layM_len bs) (wC_one _) (by simp [wC_len, w8C_len]) (Free.zero _)) ?_; rintro _ _ ⟨rfl, rfl⟩; refine ⟨[_, _, _], rfl, ?_⟩
    refine Z12 ?_
    refine ei_iN rfl rfl (wn_none rfl) (os_pull2 (os_storew (wC _) ag_164 rfl rfl (by rw [wC_len]; exact q.w.2) (wC_one _) (by simp [wC_len, w8C_len]) (Free.zero _))) ?_; rintro _ _ ⟨rfl, rfl⟩; refine ⟨[_, _, _], rfl, ?_⟩
    refine Z8 ?_
    refine px_cut (bx91, bx90, bx87) ⟨rfl, rfl, rfl, trivial⟩ ?_ (fun _ s => ((((s.pull 3).pull 1).pull 2).pull 3))
    exact Z3
   ·
    refine Z1i ?_; intro bx92
    refine Z6l ?_ ?_
    ·
     refine Z2e ?_
     refine Zz ?_
     refine Z1n ?_; intro bx93
     refine ei_iN rfl rfl (wn_none rfl) (os_pull1 (os_storew (wC _) ag_168 rfl rfl (by rw [wC_len]; exact layM_len bs) (wC_one _) (by simp [wC_len, w8C_len]) (Free.zero _))) ?_; rintro _ _ ⟨rfl, rfl⟩; refine ⟨[_, _, _], rfl, ?_⟩
     refine Z12 ?_
     refine ei_iN rfl rfl (wn_none rfl) (os_pull2 (os_storew (wC _) ag_164 rfl rfl (by rw [wC_len]; exact q.w.2) (wC_one _) (by simp [wC_len, w8C_len]) (Free.zero _))) ?_; rintro _ _ ⟨rfl, rfl⟩; refine ⟨[_, _, _], rfl, ?_⟩
     refine Z8 ?_
     refine px_cut (bx92, bx93, bx87) ⟨rfl, rfl, rfl, trivial⟩ ?_ (fun _ s => ((((s.pull 3).pull 1).pull 2).pull 3))
     exact Z3
    refine Z2j ?_; intro bx94
    refine Z1l ?_
    refine ei_iN rfl rfl (wn_none rfl) (os_pull1 (os_storew (wC _) ag_168 rfl rfl (by rw [wC_len]; exact layM_len bs) (wC_one _) (by simp [wC_len, w8C_len]) (Free.zero _))) ?_; rintro _ _ ⟨rfl, rfl⟩; refine ⟨[_, _, _], rfl, ?_⟩
    refine Z12 ?_
    refine ei_iN rfl rfl (wn_none rfl) (os_pull2 (os_storew (wC _) ag_164 rfl rfl (by rw [wC_len]; exact q.w.2) (wC_one _) (by simp [wC_len, w8C_len]) (Free.zero _))) ?_; rintro _ _ ⟨rfl, rfl⟩; refine ⟨[_, _, _], rfl, ?_⟩
    refine Z8 ?_
    refine px_cut (bx92, bx94, bx87) ⟨rfl, rfl, rfl, trivial⟩ ?_ (fun _ s => ((((s.pull 3).pull 1).pull 2).pull 3))
    exact Z3
   refine Z1i ?_; intro bx95
   refine Z6m ?_ ?_
   ·
    refine Z2e ?_
    refine Z1c ?_
    refine Z1n ?_; intro bx96
    refine ei_iN rfl rfl (wn_none rfl) (os_storew (wC _) ag_168 rfl rfl (by rw [wC_len]; exact layM_len bs) (wC_one _) (by simp [wC_len, w8C_len]) (Free.zero _)) ?_; rintro _ _ ⟨rfl, rfl⟩; refine ⟨[_, _, _], rfl, ?_⟩
    refine Z12 ?_
    refine ei_iN rfl rfl (wn_none rfl) (os_pull2 (os_storew (wC _) ag_164 rfl rfl (by rw [wC_len]; exact q.w.2) (wC_one _) (by simp [wC_len, w8C_len]) (Free.zero _))) ?_; rintro _ _ ⟨rfl, rfl⟩; refine ⟨[_, _, _], rfl, ?_⟩
    refine Z8 ?_
    refine px_cut (bx96, bx95, bx87) ⟨rfl, rfl, rfl, trivial⟩ ?_ (fun _ s => ((((s.pull 3).pull 1).pull 2).pull 3))
    exact Z3
   refine Z2j ?_; intro bx97
   refine Z1l ?_
   refine ei_iN rfl rfl (wn_none rfl) (os_storew (wC _) ag_168 rfl rfl (by rw [wC_len]; exact layM_len bs) (wC_one _) (by simp [wC_len, w8C_len]) (Free.zero _)) ?_; rintro _ _ ⟨rfl, rfl⟩; refine ⟨[_, _, _], rfl, ?_⟩
   refine Z12 ?_
   refine ei_iN rfl rfl (wn_none rfl) (os_pull2 (os_storew (wC _) ag_164 rfl rfl (by rw [wC_len]; exact q.w.2) (wC_one _) (by simp [wC_len, w8C_len]) (Free.zero _))) ?_; rintro _ _ ⟨rfl, rfl⟩; refine ⟨[_, _, _], rfl, ?_⟩
   refine Z8 ?_
   refine px_cut (bx97, bx95, bx87) ⟨rfl, rfl, rfl, trivial⟩ ?_ (fun _ s => ((((s.pull 3).pull 1).pull 2).pull 3))
   exact Z3
  ·
   refine Z1i ?_; intro bx98
   refine et_2 (i1 := 1) (i2 := 8) (by kernel_rfl) ?_ ?_
   ·
    refine ei_i rfl rfl (wn_none rfl) (os_call cb_118 rfl (fun w s => lay_calls _ _ _  s (((hr.cons _).cons _).cons _) (by assumption))) rfl ?_; rintro _ l ⟨rfl, rfl⟩; refine ⟨[_, _], rfl, ?_⟩
    refine Z6l ?_ ?_
    ·
     refine Z2e ?_
     refine Zz ?_
     refine Z1n ?_; intro bx99
     refine ei_iN rfl rfl (wn_none rfl) (os_pull1 (os_storew (wC _) ag_168 rfl rfl (by rw [wC_len]; exact layM_len bs) (wC_one _) (by simp [wC_len, w8C_len]) (Free.zero _))) ?_; rintro _ _ ⟨rfl, rfl⟩; refine ⟨[_, _, _], rfl, ?_⟩
     refine Z12 ?_
     refine ei_iN rfl rfl (wn_none rfl) (os_pull2 (os_storew (wC _) ag_164 rfl rfl (by rw [wC_len]; exact q.w.2) (wC_one _) (by simp [wC_len, w8C_len]) (Free.zero _))) ?_; rintro _ _ ⟨rfl, rfl⟩; refine ⟨[_, _, _], rfl, ?_⟩
     refine Z8 ?_
     refine px_cut (bx98, bx99, bx87) ⟨rfl, rfl, rfl, trivial⟩ ?_ (fun _ s => ((((s.pull 3).pull 1).pull 2).pull 3))
     exact Z3
    refine Z2j ?_; intro bx100
    refine Z1l ?_
    refine ei_iN rfl rfl (wn_none rfl) (os_pull1 (os_storew (wC _) ag_168 rfl rfl (by rw [wC_len]; exact layM_len bs) (wC_one _) (by simp [wC_len, w8C_len]) (Free.zero _))) ?_; rintro _ _ ⟨rfl, rfl⟩; refine ⟨[_, _, _], rfl, ?_⟩
    refine Z12 ?_
    refine ei_iN rfl rfl (wn_none rfl) (os_pull2 (os_storew (wC _) ag_164 rfl rfl (by rw [wC_len]; exact q.w.2) (wC_one _) (by simp [wC_len, w8C_len]) (Free.zero _))) ?_; rintro _ _ ⟨rfl, rfl⟩; refine ⟨[_, _, _], rfl, ?_⟩
    refine Z8 ?_
    refine px_cut (bx98, bx100, bx87) ⟨rfl, rfl, rfl, trivial⟩ ?_ (fun _ s => ((((s.pull 3).pull 1).pull 2).pull 3))
    exact Z3
   refine Z2j ?_; intro bx101
   refine Z58 ?_
   refine ei_i rfl rfl (wn_none rfl) (os_call cb_118 rfl (fun w s => lay_calls _ _ _  s ((((hr.cons _).cons _).cons _).cons _) (by assumption))) rfl ?_; rintro _ l ⟨rfl, rfl⟩; refine ⟨[_, _, _], rfl, ?_⟩
   refine Z1l ?_
   refine ei_iN rfl rfl (wn_none rfl) (os_pull1 (os_storew (wC _) ag_168 rfl rfl (by rw [wC_len]; exact layM_len bs) (wC_one _) (by simp [wC_len, w8C_len]) (Free.zero _))) ?_; rintro _ _ ⟨rfl, rfl⟩; refine ⟨[_, _, _], rfl, ?_⟩
   refine Z12 ?_
   refine ei_iN rfl rfl (wn_none rfl) (os_pull2 (os_storew (wC _) ag_164 rfl rfl (by rw [wC_len]; exact q.w.2) (wC_one _) (by simp [wC_len, w8C_len]) (Free.zero _))) ?_; rintro _ _ ⟨rfl, rfl⟩; refine ⟨[_, _, _], rfl, ?_⟩
   refine Z8 ?_
   refine px_cut (bx98, bx101, bx87) ⟨rfl, rfl, rfl, trivial⟩ ?_ (fun _ s => ((((s.pull 3).pull 1).pull 2).pull 3))
   exact Z3
  refine Z1i ?_; intro bx102
  refine et_2 (i1 := 1) (i2 := 7) (by kernel_rfl) ?_ ?_
  ·
   refine ei_i rfl rfl (wn_none rfl) (os_call cb_118 rfl (fun w s => lay_calls _ _ _  s (((hr.cons _).cons _).cons _) (by assumption))) rfl ?_; rintro _ l ⟨rfl, rfl⟩; refine ⟨[_, _], rfl, ?_⟩
   refine Z6m ?_ ?_
   ·
    refine Z2e ?_
    refine Z1c ?_
    refine Z1n ?_; intro bx103
    refine ei_iN rfl rfl (wn_none rfl) (os_storew (wC _) ag_168 rfl rfl (by rw [wC_len]; exact layM_len bs) (wC_one _) (by simp [wC_len, w8C_len]) (Free.zero _)) ?_; rintro _ _ ⟨rfl, rfl⟩; refine ⟨[_, _, _], rfl, ?_⟩
    refine Z12 ?_
    refine ei_iN rfl rfl (wn_none rfl) (os_pull2 (os_storew (wC _) ag_164 rfl rfl (by rw [wC_len]; exact q.w.2) (wC_one _) (by simp [wC_len, w8C_len]) (Free.zero _))) ?_; rintro _ _ ⟨rfl, rfl⟩; refine ⟨[_, _, _], rfl, ?_⟩
    refine Z8 ?_
    refine px_cut (bx103, bx102, bx87) ⟨rfl, rfl, rfl, trivial⟩ ?_ (fun _ s => ((((s.pull 3).pull 1).pull 2).pull 3))
    exact Z3
   refine Z2j ?_; intro bx104
   refine Z1l ?_
   refine ei_iN rfl rfl (wn_none rfl) (os_storew (wC _) ag_168 rfl rfl (by rw [wC_len]; exact layM_len bs) (wC_one _) (by simp [wC_len, w8C_len]) (Free.zero _)) ?_; rintro _ _ ⟨rfl, rfl⟩; refine ⟨[_, _, _], rfl, ?_⟩
   refine Z12 ?_
   refine ei_iN rfl rfl (wn_none rfl) (os_pull2 (os_storew (wC _) ag_164 rfl rfl (by rw [wC_len]; exact q.w.2) (wC_one _) (by simp [wC_len, w8C_len]) (Free.zero _))) ?_; rintro _ _ ⟨rfl, rfl⟩; refine ⟨[_, _, _], rfl, ?_⟩
   refine Z8 ?_
   refine px_cut (bx104, bx102, bx87) ⟨rfl, rfl, rfl, trivial⟩ ?_ (fun _ s => ((((s.pull 3).pull 1).pull 2).pull 3))
   exact Z3
  refine Z2j ?_; intro bx105
  refine Z58 ?_
  refine ei_i rfl rfl (wn_none rfl) (os_call cb_118 rfl (fun w s => lay_calls _ _ _  s ((((hr.cons _).cons _).cons _).cons _) (by assumption))) rfl ?_; rintro _ l ⟨rfl, rfl⟩; refine ⟨[_, _, _], rfl, ?_⟩
  refine Z1l ?_
  refine ei_iN rfl rfl (wn_none rfl) (os_storew (wC _) ag_168 rfl rfl (by rw [wC_len]; exact layM_len bs) (wC_one _) (by simp [wC_len, w8C_len]) (Free.zero _)) ?_; rintro _ _ ⟨rfl, rfl⟩; refine ⟨[_, _, _], rfl, ?_⟩
  refine Z12 ?_
  refine ei_iN rfl rfl (wn_none rfl) (os_pull2 (os_storew (wC _) ag_164 rfl rfl (by rw [wC_len]; exact q.w.2) (wC_one _) (by simp [wC_len, w8C_len]) (Free.zero _))) ?_; rintro _ _ ⟨rfl, rfl⟩; refine ⟨[_, _, _], rfl, ?_⟩
  refine Z8 ?_
  refine px_cut (bx105, bx102, bx87) ⟨rfl, rfl, rfl, trivial⟩ ?_ (fun _ s => ((((s.pull 3).pull 1).pull 2).pull 3))
  exact Z3
 rintro ⟨b4, b5, b6⟩ f0; (try dsimp only)
 refine Zj ?_
 refine Z3r ?_
 refine cd_loop2 (α := Nat) [(7, 11), (20, 93)] (fun x => [(20, .int .i64 (x : Int))]) (fun x => Blk b6 (.cells (wC (rnds (layM bs) q.w.1 x)).toArray 164 (0, 0)) :: Blk b4 (.cells (wC (layM bs)).toArray 168 (0, 0)) :: Blk b5 (.cells (wC K64).toArray 168 (0, 0)) :: Blk p (.cells (stC q).toArray 179 (0, 0)) :: l) (fun x => x ≤ 64) (fun x => 64 - x) 0 (Nat.zero_le _) ⟨rfl, trivial⟩ (fun _ s => ((((s.pull 3).pull 2).pull 2).pull 3)) ?_
 rintro i hi f; (try dsimp only at hi ⊢)
 refine Zy ?_
 refine cd_cond rfl (fun hb1 => ?_) (fun hb1 => ?_)
 ·have hp1 := hb1
  (try simp only [bn] at hp1)
  have hi64 : i < 64 := by omega
  obtain ⟨va, vb, vc, vd, ve, vf, vg, vh, hv⟩ := list_len8 (rnds_len (W := layM bs) q.w.2 i)
  rw [hv]
  refine Z2i ?_
  refine Z5u ?_
  refine Z5f ?_
  refine rg_q (wn_none rfl) (op_aidx0 0 a1_164 rfl rfl rfl (by omega)) rfl rfl ?_
  refine rg_q (wn_none rfl) (op_ld 0 sc_163 rfl rfl (wC_at0 (by first | omega | (simp; done) | (simp; omega)))) rfl rfl ?_
  refine rg_q (wn_none rfl) (op_aidx0 4 a1_164 rfl rfl rfl (by omega)) rfl rfl ?_
  refine rg_q (wn_none rfl) (op_ld 0 sc_163 rfl rfl (wC_at0 (by first | omega | (simp; done) | (simp; omega)))) rfl rfl ?_
  refine Z2m ?_
  refine Z39 ?_
  refine Z7 ?_
  refine cd_drawe (M := []) mx [3, 5, 8] ?_
  refine e_q 0 rfl (wn_none rfl) (op_aidx0 7 a1_164 rfl rfl rfl (by omega)) ?_
  refine e_q 1 rfl (wn_none rfl) (op_ld 0 sc_163 rfl rfl (wC_at0 (by first | omega | (simp; done) | (simp; omega)))) ?_
  refine e_q 2 rfl (wn_none rfl) (op_move (v := .int _ _) rfl) ?_
  refine e_q 4 rfl (wn_none rfl) (op_move (v := .int _ _) rfl) ?_
  refine e_q 7 rfl (wn_none rfl) (op_move (v := .int _ _) rfl) ?_
  refine e_q 11 rfl (wn_none rfl) (op_move (v := .int _ _) rfl) ?_
  refine e_q 12 rfl (wn_none rfl) (op_aidx0 5 a1_164 rfl rfl rfl (by omega)) ?_
  refine e_q 13 rfl (wn_none rfl) (op_ld 0 sc_163 rfl rfl (wC_at0 (by first | omega | (simp; done) | (simp; omega)))) ?_
  refine e_q 14 rfl (wn_none rfl) (op_and32 _ _ rfl rfl) ?_
  refine e_q 15 rfl (wn_none rfl) (op_move (v := .int _ _) rfl) ?_
  refine e_q 16 rfl (wn_none rfl) (op_not32 _ rfl) ?_
  refine e_q 17 rfl (wn_none rfl) (op_aidx0 6 a1_164 rfl rfl rfl (by omega)) ?_
  refine e_q 18 rfl (wn_none rfl) (op_ld 0 sc_163 rfl rfl (wC_at0 (by first | omega | (simp; done) | (simp; omega)))) ?_
  refine e_q 19 rfl (wn_none rfl) (op_and32 _ _ rfl rfl) ?_
  refine e_q 20 rfl (wn_none rfl) (op_xor32 _ _ rfl rfl) ?_
  refine e_q 22 rfl (wn_none rfl) (op_move (v := .int _ _) rfl) ?_
  refine e_q 23 rfl (wn_none rfl) (op_aidx0 _ a1_168 rfl rfl rfl (by omega)) ?_
  refine e_q 24 rfl (wn_none rfl) (op_ld 2 sc_163 rfl rfl (wC_gd (by rw [K64_len]; omega))) ?_
  refine e_q 26 rfl (wn_none rfl) (op_move (v := .int _ _) rfl) ?_
  refine e_q 27 rfl (wn_none rfl) (op_aidx0 _ a1_168 rfl rfl rfl (by omega)) ?_
  refine e_q 28 rfl (wn_none rfl) (op_ld 1 sc_163 rfl rfl (wC_gd (by rw [layM_len]; omega))) ?_
  refine et_1 (i := 3) (by kernel_rfl) ?_
  refine ei_i rfl rfl (wn_none rfl) (os_call cb_120 rfl (fun w s => turn_calls (k := 6) _  s (by decide) (by decide))) rfl ?_; rintro _ _ ⟨rfl, rfl⟩; refine ⟨[], rfl, ?_⟩
  refine Z60 ?_
  refine ei_i rfl rfl (wn_none rfl) (os_call cb_120 rfl (fun w s => turn_calls (k := 11) _  s (by decide) (by decide))) rfl ?_; rintro _ _ ⟨rfl, rfl⟩; refine ⟨[], rfl, ?_⟩
  refine e_q 6 rfl (wn_none rfl) (op_xor32 _ _ rfl rfl) ?_
  refine Zz ?_
  refine ei_i rfl rfl (wn_none rfl) (os_call cb_120 rfl (fun w s => turn_calls (k := 25) _  s (by decide) (by decide))) rfl ?_; rintro _ _ ⟨rfl, rfl⟩; refine ⟨[], rfl, ?_⟩
  refine e_q 9 rfl (wn_none rfl) (op_xor32 _ _ rfl rfl) ?_
  refine e_q 10 rfl (wn_none rfl) (op_add32 _ _ rfl rfl) ?_
  refine e_q 21 rfl (wn_none rfl) (op_add32 _ _ rfl rfl) ?_
  refine e_q 25 rfl (wn_none rfl) (op_add32 _ _ rfl rfl) ?_
  refine e_q 29 rfl (wn_none rfl) (op_add32 _ _ rfl rfl) ?_
  refine e_q 30 rfl (wn_none rfl) (op_assign (v := .int _ _) rfl) ?_
  refine Z1r ?_
  refine Z7 ?_
  refine cd_drawe (M := []) mx [1, 3, 6] ?_
  refine Z5k ?_
  refine e_q 2 rfl (wn_none rfl) (op_move (v := .int _ _) rfl) ?_
  refine Z7l ?_
  refine e_q 8 rfl (wn_none rfl) (op_move (v := .int _ _) rfl) ?_
  refine e_q 9 rfl (wn_none rfl) (op_aidx0 1 a1_164 rfl rfl rfl (by omega)) ?_
  refine e_q 10 rfl (wn_none rfl) (op_ld 0 sc_163 rfl rfl (wC_at0 (by first | omega | (simp; done) | (simp; omega)))) ?_
  refine e_q 11 rfl (wn_none rfl) (op_and32 _ _ rfl rfl) ?_
  refine e_q 12 rfl (wn_none rfl) (op_move (v := .int _ _) rfl) ?_
  refine e_q 13 rfl (wn_none rfl) (op_aidx0 2 a1_164 rfl rfl rfl (by omega)) ?_
  refine e_q 14 rfl (wn_none rfl) (op_ld 0 sc_163 rfl rfl (wC_at0 (by first | omega | (simp; done) | (simp; omega)))) ?_
  refine e_q 15 rfl (wn_none rfl) (op_and32 _ _ rfl rfl) ?_
  refine e_q 16 rfl (wn_none rfl) (op_xor32 _ _ rfl rfl) ?_
  refine e_q 17 rfl (wn_none rfl) (op_aidx0 1 a1_164 rfl rfl rfl (by omega)) ?_
  refine e_q 18 rfl (wn_none rfl) (op_ld 0 sc_163 rfl rfl (wC_at0 (by first | omega | (simp; done) | (simp; omega)))) ?_
  refine e_q 19 rfl (wn_none rfl) (op_aidx0 2 a1_164 rfl rfl rfl (by omega)) ?_
  refine e_q 20 rfl (wn_none rfl) (op_ld 0 sc_163 rfl rfl (wC_at0 (by first | omega | (simp; done) | (simp; omega)))) ?_
  refine e_q 21 rfl (wn_none rfl) (op_and32 _ _ rfl rfl) ?_
  refine e_q 22 rfl (wn_none rfl) (op_xor32 _ _ rfl rfl) ?_
  refine Z58 ?_
  refine ei_i rfl rfl (wn_none rfl) (os_call cb_120 rfl (fun w s => turn_calls (k := 2) _  s (by decide) (by decide))) rfl ?_; rintro _ _ ⟨rfl, rfl⟩; refine ⟨[], rfl, ?_⟩
  refine et_1 (i := 3) (by kernel_rfl) ?_
  refine ei_i rfl rfl (wn_none rfl) (os_call cb_120 rfl (fun w s => turn_calls (k := 13) _  s (by decide) (by decide))) rfl ?_; rintro _ _ ⟨rfl, rfl⟩; refine ⟨[], rfl, ?_⟩
  refine e_q 4 rfl (wn_none rfl) (op_xor32 _ _ rfl rfl) ?_
  refine Z1o ?_
  refine ei_i rfl rfl (wn_none rfl) (os_call cb_120 rfl (fun w s => turn_calls (k := 22) _  s (by decide) (by decide))) rfl ?_; rintro _ _ ⟨rfl, rfl⟩; refine ⟨[], rfl, ?_⟩
  refine e_q 7 rfl (wn_none rfl) (op_xor32 _ _ rfl rfl) ?_
  refine e_q 23 rfl (wn_none rfl) (op_add32 _ _ rfl rfl) ?_
  refine e_q 24 rfl (wn_none rfl) (op_assign (v := .int _ _) rfl) ?_
  refine Z1r ?_
  refine Z7 ?_
  refine cd_drawt (M := []) mx [] 2 (by kernel_rfl) rfl rfl ?_
  dsimp only [List.take_succ_cons, List.take_zero, List.drop_succ_cons, List.drop_zero]
  refine rg_q (wn_none rfl) (op_slicea_from 1 a1_164 rfl rfl rfl (by decide)) rfl rfl ?_
  refine rg_q (wn_none rfl) (op_slicea_to 7 a1_164 rfl rfl rfl (by decide) (by decide)) rfl rfl ?_
  refine rg_tail0 ?_
  refine oi (os_copyw (wC [va, va, vb, vc, vd, ve, vf, vg]) 190 rfl s1_190 rfl rfl (by simp [wC_len]) (by simp [wC_len]) (wC_one _) (Free.zero _) rfl) ?_; rintro _ _ ⟨rfl, rfl⟩
  refine Z14 ?_
  refine oq (op_aidx0 4 a1_164 rfl rfl rfl (by omega)) ?_
  refine oq (op_ld 0 sc_163 rfl rfl (wC_at0 (by first | omega | (simp; done) | (simp; omega)))) ?_
  refine Z48 ?_
  refine oq (op_aidx0 4 a1_164 rfl rfl rfl (by omega)) ?_
  refine Z9l ?_
  refine Z2 ?_
  refine Z16 ?_
  refine Z2l ?_
  refine oq (op_add32 _ _ rfl rfl) ?_
  refine oq (op_aidx0 0 a1_164 rfl rfl rfl (by omega)) ?_
  refine Z9l ?_
  refine Z2t ?_
  refine px_loop2 (i + 1) (by omega) (by (try dsimp only); omega) ⟨congrArg (Value.int .i64) (by simp), trivial⟩ ?_ (fun _ s => (by (try dsimp only); rw [rnds, hv]; exact s))
  exact Z0
 have hp1 := hb1
 (try simp only [bn] at hp1)
 obtain rfl : i = 64 := by omega
 refine Z1a ?_
 refine Ze ?_
 refine Z3r ?_
 refine cd_loop2 (α := Nat) [(12, 12), (94, 110)] (fun x => [(94, .int .i64 (x : Int))]) (fun x => Blk p (.cells (stC ⟨q.w.add (rnds (layM bs) q.w.1 64) x, q.rest, q.size⟩).toArray 179 (0, 0)) :: Blk b6 (.cells (wC (rnds (layM bs) q.w.1 64)).toArray 164 (0, 0)) :: l) (fun x => x ≤ 8) (fun x => 8 - x) 0 (Nat.zero_le _) ⟨rfl, trivial⟩ (fun _ s => by rw [W8.add_zero]; exact (((s.del 2).del 1).pull 1)) ?_
 rintro j hj f; (try dsimp only at hj ⊢)
 refine Zy ?_
 refine cd_cond rfl (fun hb2 => ?_) (fun hb2 => ?_)
 ·have hp2 := hb2
  (try simp only [bn] at hp2)
  have hj8 : j < 8 := by omega
  refine Z2i ?_
  refine Zb ?_
  refine cd_drawt (M := []) mx [] 13 (by kernel_rfl) rfl rfl ?_
  dsimp only [List.take_succ_cons, List.take_zero, List.drop_succ_cons, List.drop_zero]
  refine Zi ?_
  refine Zg ?_
  refine Z7z ?_
  refine rg_q (wn_none rfl) (op_field fld_179_0 rfl) rfl rfl ?_
  refine rg_q (wn_none rfl) (op_aidx0 _ a1_164 rfl rfl rfl (by omega)) rfl rfl ?_
  refine rg_q (wn_none rfl) (op_ld 0 sc_163 rfl rfl (stC_wld _ _ _ _ hj8)) rfl rfl ?_
  refine Zg ?_
  refine rg_q (wn_none rfl) (op_aidx0 _ a1_164 rfl rfl rfl (by omega)) rfl rfl ?_
  refine rg_q (wn_none rfl) (op_ld 1 sc_163 rfl rfl (wC_gd (by rw [rnds_len q.w.2]; omega))) rfl rfl ?_
  refine rg_q (wn_none rfl) (op_add32 _ _ rfl rfl) rfl rfl ?_
  refine Z7z ?_
  refine rg_q (wn_none rfl) (op_field fld_179_0 rfl) rfl rfl ?_
  refine rg_q (wn_none rfl) (op_aidx0 _ a1_164 rfl rfl rfl (by omega)) rfl rfl ?_
  refine rg_tail0 ?_
  refine oN (os_store (v := .int _ _) sc_163 rfl rfl rfl (Nat.ble_eq_true_of_le (show j + 1 ≤ _ by rw [List.size_toArray, stC_len]; omega)) (Free.zero _) (stC_wst _ _ _ _ hj8 rfl)) ?_; rintro _ _ ⟨rfl, rfl⟩
  refine Z2t ?_
  refine px_loop2 (j + 1) (by omega) (by (try dsimp only); omega) ⟨congrArg (Value.int .i64) (by simp), trivial⟩ ?_ (fun _ s => s)
  exact Z0
 have hp2 := hb2
 (try simp only [bn] at hp2)
 obtain rfl : j = 8 := by omega
 refine Z5q ?_
 exact px_end0 rfl (fun _ s => (s.del 1)) ⟨rfl, rfl⟩
end Go.SL


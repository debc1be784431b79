import Derived.Test.YtoeodcnpmhbhmaaMMac
import Derived.Test.YtoeodcnpmhbhmaaSha3
set_option linter.unusedVariables false
set_option linter.unusedSimpArgs false
namespace Go.SL
open Go.Proofs

set_option maxRecDepth 100000 in
set_option maxHeartbeats 1000000 in
theorem pad_calls {w0 w : World} {l : List HProp} (key : List UInt8) (wv : Int) (x : UInt8) (hs : Sat w0 w (l)) (hw : wv = (x.toNat : Int)) (hk : key.length ≤ 64) :
    Calls Try.prog 27 #[.string (B key), .int .u8 wv] w (Ret w0 fun v l' => v = .string (B (padK key x)) ∧ l' = l) := by
  subst hw
  refine calls_enter Try.func27 rfl rfl rfl hs ?_
  refine cd_sr ?_   -- 0
  refine ol_q (wn_none rfl) (op_assign (v := .string _) rfl) rfl ?_
  refine ol_nil_then ?_
  refine cd_sr ?_   -- 1
  refine ol_i (wn_none rfl) (os_alloc (cs := (bC (List.replicate 64 0)).toArray) zB_63 (by kernel_rfl)) rfl ?_; rintro _ _ ⟨bx1, rfl, rfl⟩
  refine ol_nil_then ?_
  refine cd_sr ?_   -- 2
  refine ol_q (wn_none rfl) (op_slicea_all a1_63 rfl) rfl ?_
  refine ol_q (wn_none rfl) (op_move (v := .string _) rfl) rfl ?_
  refine ol_i (wn_none rfl) (os_copys _ 49 9 rfl s1_49 rfl rfl (by first | decide | (simp; done) | (simp; omega)) (Free.zero _)) rfl ?_; rintro _ _ ⟨rfl, rfl⟩; rw [show key.take (min key.length 64) ++ (List.replicate 64 (0 : UInt8)).drop (min key.length 64) = full key from full_copy hk]
  refine ol_nil_then ?_
  refine cd_seq ?_
  refine cd_sr ?_   -- 3
  refine ol_q (wn_none rfl) (op_move (v := .int _ _) rfl) rfl ?_
  refine ol_nil_then ?_
  refine cd_block ?_
  refine cd_loop2 (α := Nat) [(6, 6), (10, 19)] (fun x0 => [(10, .int .i64 (x0 : Int))]) (fun x0 => Blk bx1 (.cells (bC (mixK (full key) x x0)).toArray 63 (0, 0)) :: l) (fun x0 => x0 ≤ 64) (fun x0 => 64 - x0) 0 (Nat.zero_le _) ⟨rfl, trivial⟩ (fun _ s => by rw [mixK_zero x (full_len hk)]; exact s) ?_
  rintro i hi f; (try dsimp only at hi ⊢)
  refine cd_sr ?_   -- 4
  refine ol_q (wn_none rfl) (op_lt rfl rfl) rfl ?_
  refine ol_nil_then ?_
  refine cd_seq ?_
  refine cd_cond rfl (fun hb1 => ?_) (fun hb1 => ?_)
  · have hp1 := hb1
    (try simp only [decide_eq_true_eq, decide_eq_false_iff_not, Bool.not_eq_true', Bool.not_eq_false', ne_eq, Decidable.not_not] at hp1)
    have hi64 : i < 64 := by omega
    refine cd_skip ?_
    refine px_then ?_
    refine cd_seq ?_
    refine cd_block ?_
    refine cd_sr ?_   -- 5
    refine ol_q (wn_none rfl) (op_move (v := .int _ _) rfl) rfl ?_
    refine ol_q (wn_none rfl) (op_assign (v := .int _ _) rfl) rfl ?_
    refine ol_nil_then ?_
    refine cd_region ?_   -- 6
    refine ol_q (wn_none rfl) (op_move (v := .int _ _) rfl) rfl ?_
    refine ol_q (wn_none rfl) (op_aidx0 i a1_63 rfl rfl rfl (by omega)) rfl ?_
    refine ol_q (wn_none rfl) (op_ld 0 sc_5 rfl rfl (mixK_at _ _ hi64)) rfl ?_
    refine ol_q (wn_none rfl) (op_move (v := .int _ _) rfl) rfl ?_
    refine ol_q (wn_none rfl) (op_xor8 _ _ rfl rfl) rfl ?_
    refine ol_q (wn_none rfl) (op_aidx0 i a1_63 rfl rfl rfl (by omega)) rfl ?_
    refine ol_iN (wn_none rfl) (os_store (v := .int _ _) sc_5 rfl rfl rfl (Nat.ble_eq_true_of_le (by rw [List.size_toArray, bC_len, mixK_len]; omega)) (Free.zero _) (mixK_set _ _ hi64)) ?_; rintro _ _ ⟨rfl, rfl⟩
    refine ol_nil ?_
    refine px_blockN ?_
    refine px_then ?_
    refine cd_region ?_   -- 7
    refine ol_q (wn_none rfl) (op_add rfl rfl (by omega) (by omega)) rfl ?_
    refine ol_q (wn_none rfl) (op_move (v := .int _ _) rfl) rfl ?_
    refine ol_nil ?_
    refine px_loop2 (i + 1) (by omega) (by (try dsimp only); omega) ⟨congrArg (Value.int .i64) (by simp), trivial⟩ ?_ (fun _ s => s)
    repeat (first | exact kept_over | refine kept_upd rfl ?_ | refine kept_overS (by decide) ?_)
  · have hp1 := hb1
    (try simp only [decide_eq_true_eq, decide_eq_false_iff_not, Bool.not_eq_true', Bool.not_eq_false', ne_eq, Decidable.not_not] at hp1)
    obtain rfl : i = 64 := by omega
    refine cd_exit ?_
    refine px_thenE ?_
    refine px_thenE ?_
    refine px_blockE ?_
    refine px_then ?_
    refine cd_sr ?_   -- 8
    refine ol_q (wn_none rfl) (op_slicea_all a1_63 rfl) rfl ?_
    refine ol_q (wn_none rfl) (op_b2s sB_49 Try.underlying5 Try.underlying9 rfl (rds_bytes 0 rfl) (mixK_len _ _ _)) rfl ?_
    refine ol_q (wn_none rfl) (op_assign (v := .string _) rfl) rfl ?_
    refine ol_nil_then ?_
    refine cd_ret ?_
    exact px_ret1 rfl (v := .string _) rfl (fun _ s => (s.del 0)) ⟨rfl, rfl⟩

set_option maxRecDepth 100000 in
set_option maxHeartbeats 1000000 in
theorem Mac_calls {w0 w : World} {l : List HProp} (key : List UInt8) (lo : Option Addr) (lc : Nat) (ts : List (List UInt8)) (hs : Sat w0 w (l)) (hr : Rds w0 l encStr lo ts) (hn : ts.flatten.length < 50000000) (hlen : ts.length ≤ 100000) (hkl : key.length < 50000000) :
    Calls Try.prog 17 #[.string (B key), .slice lo ts.length lc] w (Ret w0 fun v l' => v = .agg (tagC (macM key ts.flatten)).toArray ∧ l' = l) := by
  refine calls_enter Try.func17 rfl rfl rfl hs ?_
  refine cd_sr ?_   -- 0
  refine ol_i (wn_none rfl) (os_alloc (cs := (tagC Tag.zero).toArray) zB_34 (by kernel_rfl)) rfl ?_; rintro _ _ ⟨bx1, rfl, rfl⟩
  refine ol_nil_then ?_
  refine cd_seq ?_
  refine cd_sr ?_   -- 1
  refine ol_q (wn_none rfl) (op_move (v := .string _) rfl) rfl ?_
  refine ol_q (wn_none rfl) (op_len_string Try.underlying9 rfl) rfl ?_
  refine ol_q (wn_none rfl) (op_gt rfl rfl) rfl ?_
  refine ol_nil_then ?_
  refine cd_cond rfl (fun hb1 => ?_) (fun hb1 => ?_)
  · have hp1 := hb1
    (try simp only [decide_eq_true_eq, decide_eq_false_iff_not, Bool.not_eq_true', Bool.not_eq_false', ne_eq, Decidable.not_not] at hp1)
    have hk1 : 64 < key.length := by omega
    have ek : keyM key = (shaM key).1 := if_pos hk1
    refine cd_sr ?_   -- 2
    refine ol_q (wn_none rfl) (op_move (v := .string _) rfl) rfl ?_
    refine ol_i (wn_none rfl) (os_bslice (E := encStr) [_] (ys := [_]) sB_24 zv_9 rfl rfl rfl rfl (by decide)) rfl ?_; rintro _ _ ⟨ao1, rfl, rfl⟩
    refine ol_i (wn_none rfl) (os_call cb_13 rfl (fun w s => Of_calls _ _ _  s (rds_row 0 rfl rfl) (by simp; omega) (by simp))) rfl ?_; rintro _ l ⟨rfl, rfl⟩
    refine ol_i (wn_none rfl) (os_alloc (cs := (rootC Root.zero).toArray) zB_26 (by kernel_rfl)) rfl ?_; rintro _ _ ⟨bx2, rfl, rfl⟩
    refine ol_iN (wn_none rfl) (os_storera _ ag_26 rfl rfl (Free.zero _)) ?_; rintro _ _ ⟨rfl, rfl⟩
    refine ol_nil_then ?_
    refine cd_region ?_   -- 3
    refine ol_q (wn_none rfl) (op_slicea_all a1_26 rfl) rfl ?_
    refine ol_q (wn_none rfl) (op_b2s sB_49 Try.underlying5 Try.underlying9 rfl (rds_root 0 rfl) (root_len _)) rfl ?_
    refine ol_q (wn_none rfl) (op_assign (v := .string _) rfl) rfl ?_
    refine ol_nil ?_
    refine px_then ?_
    refine cd_sr ?_   -- 4
    refine ol_q (wn_none rfl) (op_move (v := .string _) rfl) rfl ?_
    refine ol_i (wn_none rfl) (os_call cb_27 rfl (fun w s => pad_calls (wv := 54) _ _  s (show (54 : Int) = ((54 : UInt8).toNat : Int) from rfl) (by first | assumption | (rw [root_len]; omega)))) rfl ?_; rintro _ l ⟨rfl, rfl⟩
    refine ol_i (wn_none rfl) (os_bslice (E := encStr) [_] (ys := [_]) sB_24 zv_9 rfl rfl rfl rfl (by decide)) rfl ?_; rintro _ _ ⟨ao2, rfl, rfl⟩
    refine ol_q (wn_none rfl) (op_move (v := .slice _ _ _) rfl) rfl ?_
    refine ol_i (wn_none rfl) (os_append (E := encStr) rfl sB_24 zv_9 rfl rfl rfl (fun w s => ((((hr.cons _).cons _).cons _).cons _) [] w s) rfl (by simp; omega) (by unfold maxLen; simp; omega)) rfl ?_; rintro _ _ ⟨ao3, ac3, rfl, rfl⟩
    refine ol_i (wn_none rfl) (os_call cb_13 rfl (fun w s => Of_calls _ _ _  s (rds_row 0 rfl rfl) (by simp only [List.flatten_append, List.flatten_cons, List.flatten_nil, List.append_nil, List.length_append, padK_len]; omega) (by simp; omega))) rfl ?_; rintro _ l ⟨rfl, rfl⟩
    refine ol_i (wn_none rfl) (os_alloc (cs := (rootC Root.zero).toArray) zB_26 (by kernel_rfl)) rfl ?_; rintro _ _ ⟨bx3, rfl, rfl⟩
    refine ol_iN (wn_none rfl) (os_storera _ ag_26 rfl rfl (Free.zero _)) ?_; rintro _ _ ⟨rfl, rfl⟩
    refine ol_nil_then ?_
    refine cd_seq ?_   -- 5
    refine cd_drawe (M := []) mx [1, 4, 5, 6, 7] ?_
    -- 0
    refine et_quiet 0 (by kernel_rfl) rfl (by kernel_rfl) (wn_none rfl) (op_move (v := .string _) rfl) rfl ?_
    -- 2
    refine et_quiet 2 (by kernel_rfl) rfl (by kernel_rfl) (wn_none rfl) (op_slicea_all a1_26 rfl) rfl ?_
    -- 3
    refine et_quiet 3 (by kernel_rfl) rfl (by kernel_rfl) (wn_none rfl) (op_b2s sB_49 Try.underlying5 Try.underlying9 rfl (rds_root 0 rfl) (root_len _)) rfl ?_
    refine et_2 (i1 := 1) (i2 := 6) (by kernel_rfl) ?_ ?_
    · -- 1
      refine ei_i rfl rfl (wn_none rfl) (os_call cb_27 rfl (fun w s => pad_calls (wv := 92) _ _  s (show (92 : Int) = ((92 : UInt8).toNat : Int) from rfl) (by first | assumption | (rw [root_len]; omega)))) rfl ?_; rintro _ l ⟨rfl, rfl⟩; refine ⟨[], rfl, ?_⟩
      refine et_2 (i1 := 4) (i2 := 6) (by kernel_rfl) ?_ ?_
      · -- 4
        refine ei_i rfl rfl (wn_none rfl) (os_bslice (E := encStr) [_, _] (ys := [_, _]) sB_24 zv_9 rfl rfl rfl rfl (by decide)) rfl ?_; rintro _ _ ⟨ao4, rfl, rfl⟩; refine ⟨[_], rfl, ?_⟩
        refine et_2 (i1 := 5) (i2 := 6) (by kernel_rfl) ?_ ?_
        · -- 5
          refine ei_i rfl rfl (wn_none rfl) (os_call cb_13 rfl (fun w s => Of_calls _ _ _  s (rds_row 0 rfl rfl) (by simp [padK_len, root_len]) (by simp))) rfl ?_; rintro _ l ⟨rfl, rfl⟩; refine ⟨[_], rfl, ?_⟩
          refine et_1 (i := 6) (by kernel_rfl) ?_
          refine ei_i rfl rfl (wn_none rfl) (os_alloc (cs := (rootC Root.zero).toArray) zB_26 (by kernel_rfl)) rfl ?_; rintro _ _ ⟨bx4, rfl, rfl⟩; refine ⟨[_, _], rfl, ?_⟩
          refine et_1 (i := 7) (by kernel_rfl) ?_
          refine ei_iN rfl rfl (wn_none rfl) (os_storera _ ag_26 rfl rfl (Free.zero _)) ?_; rintro _ _ ⟨rfl, rfl⟩; refine ⟨[_, _], rfl, ?_⟩
          refine et_nil_then (by kernel_rfl) ?_
          refine cd_sr ?_   -- 6
          refine ol_q (wn_none rfl) (op_slicea_to 16 a1_26 rfl rfl rfl (by decide) (by decide)) rfl ?_
          refine ol_q (wn_none rfl) (op_s2ap sp_34 rfl (by first | omega | (simp; omega) | decide)) rfl ?_
          refine ol_q (wn_none rfl) (op_lda (L := tagC _) 0 ag_34 rfl rfl (tagOf_take _) (by simp [rootC_len])) rfl ?_
          
          refine ol_pull6 ?_
          refine ol_iN (wn_none rfl) (os_storew (tagC _) ag_34 rfl rfl (tagC_len _) (tagC_one _) (by simp [tagC_len]) (Free.zero _)) ?_; rintro _ _ ⟨rfl, rfl⟩
          refine ol_nil_then ?_
          refine cd_ret ?_
          exact px_rv1 rfl (rv_cella 0 ag_34 rfl rfl (tagC_take' _) (by simp [tagC_len])) (fun _ s => (((((((s.del 6).del 5).del 4).del 3).del 2).del 1).del 0)) ⟨by unfold macM; rw [ek]; simp, rfl⟩
        · -- 6
          refine ei_i rfl rfl (wn_none rfl) (os_alloc (cs := (rootC Root.zero).toArray) zB_26 (by kernel_rfl)) rfl ?_; rintro _ _ ⟨bx5, rfl, rfl⟩; refine ⟨[_, _], rfl, ?_⟩
          refine et_1 (i := 5) (by kernel_rfl) ?_
          refine ei_i rfl rfl (wn_none rfl) (os_call cb_13 rfl (fun w s => Of_calls _ _ _  s (rds_row 1 rfl rfl) (by simp [padK_len, root_len]) (by simp))) rfl ?_; rintro _ l ⟨rfl, rfl⟩; refine ⟨[_, _], rfl, ?_⟩
          refine et_1 (i := 7) (by kernel_rfl) ?_
          refine ei_iN rfl rfl (wn_none rfl) (os_storera _ ag_26 rfl rfl (Free.zero _)) ?_; rintro _ _ ⟨rfl, rfl⟩; refine ⟨[_, _], rfl, ?_⟩
          refine et_nil_then (by kernel_rfl) ?_
          refine cd_sr ?_   -- 6
          refine ol_q (wn_none rfl) (op_slicea_to 16 a1_26 rfl rfl rfl (by decide) (by decide)) rfl ?_
          refine ol_q (wn_none rfl) (op_s2ap sp_34 rfl (by first | omega | (simp; omega) | decide)) rfl ?_
          refine ol_q (wn_none rfl) (op_lda (L := tagC _) 0 ag_34 rfl rfl (tagOf_take _) (by simp [rootC_len])) rfl ?_
          
          refine ol_pull6 ?_
          refine ol_iN (wn_none rfl) (os_storew (tagC _) ag_34 rfl rfl (tagC_len _) (tagC_one _) (by simp [tagC_len]) (Free.zero _)) ?_; rintro _ _ ⟨rfl, rfl⟩
          refine ol_nil_then ?_
          refine cd_ret ?_
          exact px_rv1 rfl (rv_cella 0 ag_34 rfl rfl (tagC_take' _) (by simp [tagC_len])) (fun _ s => (((((((s.del 6).del 5).del 4).del 3).del 2).del 1).del 0)) ⟨by unfold macM; rw [ek]; simp, rfl⟩
      · -- 6
        refine ei_i rfl rfl (wn_none rfl) (os_alloc (cs := (rootC Root.zero).toArray) zB_26 (by kernel_rfl)) rfl ?_; rintro _ _ ⟨bx6, rfl, rfl⟩; refine ⟨[_], rfl, ?_⟩
        refine et_1 (i := 4) (by kernel_rfl) ?_
        refine ei_i rfl rfl (wn_none rfl) (os_bslice (E := encStr) [_, _] (ys := [_, _]) sB_24 zv_9 rfl rfl rfl rfl (by decide)) rfl ?_; rintro _ _ ⟨ao5, rfl, rfl⟩; refine ⟨[_, _], rfl, ?_⟩
        refine et_1 (i := 5) (by kernel_rfl) ?_
        refine ei_i rfl rfl (wn_none rfl) (os_call cb_13 rfl (fun w s => Of_calls _ _ _  s (rds_row 0 rfl rfl) (by simp [padK_len, root_len]) (by simp))) rfl ?_; rintro _ l ⟨rfl, rfl⟩; refine ⟨[_, _], rfl, ?_⟩
        refine et_1 (i := 7) (by kernel_rfl) ?_
        refine ei_iN rfl rfl (wn_none rfl) (os_pull1 (os_storera _ ag_26 rfl rfl (Free.zero _))) ?_; rintro _ _ ⟨rfl, rfl⟩; refine ⟨[_, _], rfl, ?_⟩
        refine et_nil_then (by kernel_rfl) ?_
        refine cd_sr ?_   -- 6
        refine ol_q (wn_none rfl) (op_slicea_to 16 a1_26 rfl rfl rfl (by decide) (by decide)) rfl ?_
        refine ol_q (wn_none rfl) (op_s2ap sp_34 rfl (by first | omega | (simp; omega) | decide)) rfl ?_
        refine ol_q (wn_none rfl) (op_lda (L := tagC _) 0 ag_34 rfl rfl (tagOf_take _) (by simp [rootC_len])) rfl ?_
        
        refine ol_pull6 ?_
        refine ol_iN (wn_none rfl) (os_storew (tagC _) ag_34 rfl rfl (tagC_len _) (tagC_one _) (by simp [tagC_len]) (Free.zero _)) ?_; rintro _ _ ⟨rfl, rfl⟩
        refine ol_nil_then ?_
        refine cd_ret ?_
        exact px_rv1 rfl (rv_cella 0 ag_34 rfl rfl (tagC_take' _) (by simp [tagC_len])) (fun _ s => (((((((s.del 6).del 5).del 4).del 3).del 2).del 1).del 0)) ⟨by unfold macM; rw [ek]; simp, rfl⟩
    · -- 6
      refine ei_i rfl rfl (wn_none rfl) (os_alloc (cs := (rootC Root.zero).toArray) zB_26 (by kernel_rfl)) rfl ?_; rintro _ _ ⟨bx7, rfl, rfl⟩; refine ⟨[_], rfl, ?_⟩
      refine et_1 (i := 1) (by kernel_rfl) ?_
      refine ei_i rfl rfl (wn_none rfl) (os_call cb_27 rfl (fun w s => pad_calls (wv := 92) _ _  s (show (92 : Int) = ((92 : UInt8).toNat : Int) from rfl) (by first | assumption | (rw [root_len]; omega)))) rfl ?_; rintro _ l ⟨rfl, rfl⟩; refine ⟨[_], rfl, ?_⟩
      refine et_1 (i := 4) (by kernel_rfl) ?_
      refine ei_i rfl rfl (wn_none rfl) (os_bslice (E := encStr) [_, _] (ys := [_, _]) sB_24 zv_9 rfl rfl rfl rfl (by decide)) rfl ?_; rintro _ _ ⟨ao6, rfl, rfl⟩; refine ⟨[_, _], rfl, ?_⟩
      refine et_1 (i := 5) (by kernel_rfl) ?_
      refine ei_i rfl rfl (wn_none rfl) (os_call cb_13 rfl (fun w s => Of_calls _ _ _  s (rds_row 0 rfl rfl) (by simp [padK_len, root_len]) (by simp))) rfl ?_; rintro _ l ⟨rfl, rfl⟩; refine ⟨[_, _], rfl, ?_⟩
      refine et_1 (i := 7) (by kernel_rfl) ?_
      refine ei_iN rfl rfl (wn_none rfl) (os_pull1 (os_storera _ ag_26 rfl rfl (Free.zero _))) ?_; rintro _ _ ⟨rfl, rfl⟩; refine ⟨[_, _], rfl, ?_⟩
      refine et_nil_then (by kernel_rfl) ?_
      refine cd_sr ?_   -- 6
      refine ol_q (wn_none rfl) (op_slicea_to 16 a1_26 rfl rfl rfl (by decide) (by decide)) rfl ?_
      refine ol_q (wn_none rfl) (op_s2ap sp_34 rfl (by first | omega | (simp; omega) | decide)) rfl ?_
      refine ol_q (wn_none rfl) (op_lda (L := tagC _) 0 ag_34 rfl rfl (tagOf_take _) (by simp [rootC_len])) rfl ?_
      
      refine ol_pull6 ?_
      refine ol_iN (wn_none rfl) (os_storew (tagC _) ag_34 rfl rfl (tagC_len _) (tagC_one _) (by simp [tagC_len]) (Free.zero _)) ?_; rintro _ _ ⟨rfl, rfl⟩
      refine ol_nil_then ?_
      refine cd_ret ?_
      exact px_rv1 rfl (rv_cella 0 ag_34 rfl rfl (tagC_take' _) (by simp [tagC_len])) (fun _ s => (((((((s.del 6).del 5).del 4).del 3).del 2).del 1).del 0)) ⟨by unfold macM; rw [ek]; simp, rfl⟩
  · have hp1 := hb1
    (try simp only [decide_eq_true_eq, decide_eq_false_iff_not, Bool.not_eq_true', Bool.not_eq_false', ne_eq, Decidable.not_not] at hp1)
    have hk1 : key.length ≤ 64 := by omega
    have ek : keyM key = key := if_neg (by omega)
    refine cd_skip ?_
    refine px_then ?_
    refine cd_sr ?_   -- 4
    refine ol_q (wn_none rfl) (op_move (v := .string _) rfl) rfl ?_
    refine ol_i (wn_none rfl) (os_call cb_27 rfl (fun w s => pad_calls (wv := 54) _ _  s (show (54 : Int) = ((54 : UInt8).toNat : Int) from rfl) (by first | assumption | (rw [root_len]; omega)))) rfl ?_; rintro _ l ⟨rfl, rfl⟩
    refine ol_i (wn_none rfl) (os_bslice (E := encStr) [_] (ys := [_]) sB_24 zv_9 rfl rfl rfl rfl (by decide)) rfl ?_; rintro _ _ ⟨ao7, rfl, rfl⟩
    refine ol_q (wn_none rfl) (op_move (v := .slice _ _ _) rfl) rfl ?_
    refine ol_i (wn_none rfl) (os_append (E := encStr) rfl sB_24 zv_9 rfl rfl rfl (fun w s => ((hr.cons _).cons _) [] w s) rfl (by simp; omega) (by unfold maxLen; simp; omega)) rfl ?_; rintro _ _ ⟨ao8, ac8, rfl, rfl⟩
    refine ol_i (wn_none rfl) (os_call cb_13 rfl (fun w s => Of_calls _ _ _  s (rds_row 0 rfl rfl) (by simp only [List.flatten_append, List.flatten_cons, List.flatten_nil, List.append_nil, List.length_append, padK_len]; omega) (by simp; omega))) rfl ?_; rintro _ l ⟨rfl, rfl⟩
    refine ol_i (wn_none rfl) (os_alloc (cs := (rootC Root.zero).toArray) zB_26 (by kernel_rfl)) rfl ?_; rintro _ _ ⟨bx8, rfl, rfl⟩
    refine ol_iN (wn_none rfl) (os_storera _ ag_26 rfl rfl (Free.zero _)) ?_; rintro _ _ ⟨rfl, rfl⟩
    refine ol_nil_then ?_
    refine cd_seq ?_   -- 5
    refine cd_drawe (M := []) mx [1, 4, 5, 6, 7] ?_
    -- 0
    refine et_quiet 0 (by kernel_rfl) rfl (by kernel_rfl) (wn_none rfl) (op_move (v := .string _) rfl) rfl ?_
    -- 2
    refine et_quiet 2 (by kernel_rfl) rfl (by kernel_rfl) (wn_none rfl) (op_slicea_all a1_26 rfl) rfl ?_
    -- 3
    refine et_quiet 3 (by kernel_rfl) rfl (by kernel_rfl) (wn_none rfl) (op_b2s sB_49 Try.underlying5 Try.underlying9 rfl (rds_root 0 rfl) (root_len _)) rfl ?_
    refine et_2 (i1 := 1) (i2 := 6) (by kernel_rfl) ?_ ?_
    · -- 1
      refine ei_i rfl rfl (wn_none rfl) (os_call cb_27 rfl (fun w s => pad_calls (wv := 92) _ _  s (show (92 : Int) = ((92 : UInt8).toNat : Int) from rfl) (by first | assumption | (rw [root_len]; omega)))) rfl ?_; rintro _ l ⟨rfl, rfl⟩; refine ⟨[], rfl, ?_⟩
      refine et_2 (i1 := 4) (i2 := 6) (by kernel_rfl) ?_ ?_
      · -- 4
        refine ei_i rfl rfl (wn_none rfl) (os_bslice (E := encStr) [_, _] (ys := [_, _]) sB_24 zv_9 rfl rfl rfl rfl (by decide)) rfl ?_; rintro _ _ ⟨ao9, rfl, rfl⟩; refine ⟨[_], rfl, ?_⟩
        refine et_2 (i1 := 5) (i2 := 6) (by kernel_rfl) ?_ ?_
        · -- 5
          refine ei_i rfl rfl (wn_none rfl) (os_call cb_13 rfl (fun w s => Of_calls _ _ _  s (rds_row 0 rfl rfl) (by simp [padK_len, root_len]) (by simp))) rfl ?_; rintro _ l ⟨rfl, rfl⟩; refine ⟨[_], rfl, ?_⟩
          refine et_1 (i := 6) (by kernel_rfl) ?_
          refine ei_i rfl rfl (wn_none rfl) (os_alloc (cs := (rootC Root.zero).toArray) zB_26 (by kernel_rfl)) rfl ?_; rintro _ _ ⟨bx9, rfl, rfl⟩; refine ⟨[_, _], rfl, ?_⟩
          refine et_1 (i := 7) (by kernel_rfl) ?_
          refine ei_iN rfl rfl (wn_none rfl) (os_storera _ ag_26 rfl rfl (Free.zero _)) ?_; rintro _ _ ⟨rfl, rfl⟩; refine ⟨[_, _], rfl, ?_⟩
          refine et_nil_then (by kernel_rfl) ?_
          refine cd_sr ?_   -- 6
          refine ol_q (wn_none rfl) (op_slicea_to 16 a1_26 rfl rfl rfl (by decide) (by decide)) rfl ?_
          refine ol_q (wn_none rfl) (op_s2ap sp_34 rfl (by first | omega | (simp; omega) | decide)) rfl ?_
          refine ol_q (wn_none rfl) (op_lda (L := tagC _) 0 ag_34 rfl rfl (tagOf_take _) (by simp [rootC_len])) rfl ?_
          
          refine ol_pull4 ?_
          refine ol_iN (wn_none rfl) (os_storew (tagC _) ag_34 rfl rfl (tagC_len _) (tagC_one _) (by simp [tagC_len]) (Free.zero _)) ?_; rintro _ _ ⟨rfl, rfl⟩
          refine ol_nil_then ?_
          refine cd_ret ?_
          exact px_rv1 rfl (rv_cella 0 ag_34 rfl rfl (tagC_take' _) (by simp [tagC_len])) (fun _ s => (((((s.del 4).del 3).del 2).del 1).del 0)) ⟨by unfold macM; rw [ek]; simp, rfl⟩
        · -- 6
          refine ei_i rfl rfl (wn_none rfl) (os_alloc (cs := (rootC Root.zero).toArray) zB_26 (by kernel_rfl)) rfl ?_; rintro _ _ ⟨bx10, rfl, rfl⟩; refine ⟨[_, _], rfl, ?_⟩
          refine et_1 (i := 5) (by kernel_rfl) ?_
          refine ei_i rfl rfl (wn_none rfl) (os_call cb_13 rfl (fun w s => Of_calls _ _ _  s (rds_row 1 rfl rfl) (by simp [padK_len, root_len]) (by simp))) rfl ?_; rintro _ l ⟨rfl, rfl⟩; refine ⟨[_, _], rfl, ?_⟩
          refine et_1 (i := 7) (by kernel_rfl) ?_
          refine ei_iN rfl rfl (wn_none rfl) (os_storera _ ag_26 rfl rfl (Free.zero _)) ?_; rintro _ _ ⟨rfl, rfl⟩; refine ⟨[_, _], rfl, ?_⟩
          refine et_nil_then (by kernel_rfl) ?_
          refine cd_sr ?_   -- 6
          refine ol_q (wn_none rfl) (op_slicea_to 16 a1_26 rfl rfl rfl (by decide) (by decide)) rfl ?_
          refine ol_q (wn_none rfl) (op_s2ap sp_34 rfl (by first | omega | (simp; omega) | decide)) rfl ?_
          refine ol_q (wn_none rfl) (op_lda (L := tagC _) 0 ag_34 rfl rfl (tagOf_take _) (by simp [rootC_len])) rfl ?_
          
          refine ol_pull4 ?_
          refine ol_iN (wn_none rfl) (os_storew (tagC _) ag_34 rfl rfl (tagC_len _) (tagC_one _) (by simp [tagC_len]) (Free.zero _)) ?_; rintro _ _ ⟨rfl, rfl⟩
          refine ol_nil_then ?_
          refine cd_ret ?_
          exact px_rv1 rfl (rv_cella 0 ag_34 rfl rfl (tagC_take' _) (by simp [tagC_len])) (fun _ s => (((((s.del 4).del 3).del 2).del 1).del 0)) ⟨by unfold macM; rw [ek]; simp, rfl⟩
      · -- 6
        refine ei_i rfl rfl (wn_none rfl) (os_alloc (cs := (rootC Root.zero).toArray) zB_26 (by kernel_rfl)) rfl ?_; rintro _ _ ⟨bx11, rfl, rfl⟩; refine ⟨[_], rfl, ?_⟩
        refine et_1 (i := 4) (by kernel_rfl) ?_
        refine ei_i rfl rfl (wn_none rfl) (os_bslice (E := encStr) [_, _] (ys := [_, _]) sB_24 zv_9 rfl rfl rfl rfl (by decide)) rfl ?_; rintro _ _ ⟨ao10, rfl, rfl⟩; refine ⟨[_, _], rfl, ?_⟩
        refine et_1 (i := 5) (by kernel_rfl) ?_
        refine ei_i rfl rfl (wn_none rfl) (os_call cb_13 rfl (fun w s => Of_calls _ _ _  s (rds_row 0 rfl rfl) (by simp [padK_len, root_len]) (by simp))) rfl ?_; rintro _ l ⟨rfl, rfl⟩; refine ⟨[_, _], rfl, ?_⟩
        refine et_1 (i := 7) (by kernel_rfl) ?_
        refine ei_iN rfl rfl (wn_none rfl) (os_pull1 (os_storera _ ag_26 rfl rfl (Free.zero _))) ?_; rintro _ _ ⟨rfl, rfl⟩; refine ⟨[_, _], rfl, ?_⟩
        refine et_nil_then (by kernel_rfl) ?_
        refine cd_sr ?_   -- 6
        refine ol_q (wn_none rfl) (op_slicea_to 16 a1_26 rfl rfl rfl (by decide) (by decide)) rfl ?_
        refine ol_q (wn_none rfl) (op_s2ap sp_34 rfl (by first | omega | (simp; omega) | decide)) rfl ?_
        refine ol_q (wn_none rfl) (op_lda (L := tagC _) 0 ag_34 rfl rfl (tagOf_take _) (by simp [rootC_len])) rfl ?_
        
        refine ol_pull4 ?_
        refine ol_iN (wn_none rfl) (os_storew (tagC _) ag_34 rfl rfl (tagC_len _) (tagC_one _) (by simp [tagC_len]) (Free.zero _)) ?_; rintro _ _ ⟨rfl, rfl⟩
        refine ol_nil_then ?_
        refine cd_ret ?_
        exact px_rv1 rfl (rv_cella 0 ag_34 rfl rfl (tagC_take' _) (by simp [tagC_len])) (fun _ s => (((((s.del 4).del 3).del 2).del 1).del 0)) ⟨by unfold macM; rw [ek]; simp, rfl⟩
    · -- 6
      refine ei_i rfl rfl (wn_none rfl) (os_alloc (cs := (rootC Root.zero).toArray) zB_26 (by kernel_rfl)) rfl ?_; rintro _ _ ⟨bx12, rfl, rfl⟩; refine ⟨[_], rfl, ?_⟩
      refine et_1 (i := 1) (by kernel_rfl) ?_
      refine ei_i rfl rfl (wn_none rfl) (os_call cb_27 rfl (fun w s => pad_calls (wv := 92) _ _  s (show (92 : Int) = ((92 : UInt8).toNat : Int) from rfl) (by first | assumption | (rw [root_len]; omega)))) rfl ?_; rintro _ l ⟨rfl, rfl⟩; refine ⟨[_], rfl, ?_⟩
      refine et_1 (i := 4) (by kernel_rfl) ?_
      refine ei_i rfl rfl (wn_none rfl) (os_bslice (E := encStr) [_, _] (ys := [_, _]) sB_24 zv_9 rfl rfl rfl rfl (by decide)) rfl ?_; rintro _ _ ⟨ao11, rfl, rfl⟩; refine ⟨[_, _], rfl, ?_⟩
      refine et_1 (i := 5) (by kernel_rfl) ?_
      refine ei_i rfl rfl (wn_none rfl) (os_call cb_13 rfl (fun w s => Of_calls _ _ _  s (rds_row 0 rfl rfl) (by simp [padK_len, root_len]) (by simp))) rfl ?_; rintro _ l ⟨rfl, rfl⟩; refine ⟨[_, _], rfl, ?_⟩
      refine et_1 (i := 7) (by kernel_rfl) ?_
      refine ei_iN rfl rfl (wn_none rfl) (os_pull1 (os_storera _ ag_26 rfl rfl (Free.zero _))) ?_; rintro _ _ ⟨rfl, rfl⟩; refine ⟨[_, _], rfl, ?_⟩
      refine et_nil_then (by kernel_rfl) ?_
      refine cd_sr ?_   -- 6
      refine ol_q (wn_none rfl) (op_slicea_to 16 a1_26 rfl rfl rfl (by decide) (by decide)) rfl ?_
      refine ol_q (wn_none rfl) (op_s2ap sp_34 rfl (by first | omega | (simp; omega) | decide)) rfl ?_
      refine ol_q (wn_none rfl) (op_lda (L := tagC _) 0 ag_34 rfl rfl (tagOf_take _) (by simp [rootC_len])) rfl ?_
      
      refine ol_pull4 ?_
      refine ol_iN (wn_none rfl) (os_storew (tagC _) ag_34 rfl rfl (tagC_len _) (tagC_one _) (by simp [tagC_len]) (Free.zero _)) ?_; rintro _ _ ⟨rfl, rfl⟩
      refine ol_nil_then ?_
      refine cd_ret ?_
      exact px_rv1 rfl (rv_cella 0 ag_34 rfl rfl (tagC_take' _) (by simp [tagC_len])) (fun _ s => (((((s.del 4).del 3).del 2).del 1).del 0)) ⟨by unfold macM; rw [ek]; simp, rfl⟩

set_option maxRecDepth 100000 in
set_option maxHeartbeats 1000000 in
theorem Join_calls {w0 w : World} {l : List HProp} (lo : Option Addr) (lc : Nat) (ts : List Tag) (hs : Sat w0 w (l)) (hr : Rds w0 l encTag lo ts) (hlen : ts.length ≤ 1000000) :
    Calls Try.prog 19 #[.slice lo ts.length lc] w (Ret w0 fun v l' => v = .agg (tagC (joinM ts)).toArray ∧ l' = l) := by
  refine calls_enter Try.func19 rfl rfl rfl hs ?_
  refine cd_sr ?_   -- 0
  refine ol_i (wn_none rfl) (os_alloc (cs := (tagC Tag.zero).toArray) zB_34 (by kernel_rfl)) rfl ?_; rintro _ _ ⟨bx1, rfl, rfl⟩
  refine ol_nil_then ?_
  refine cd_sr ?_   -- 1
  refine ol_i (wn_none rfl) (os_alloc (cs := (tagC Tag.zero).toArray) zB_34 (by kernel_rfl)) rfl ?_; rintro _ _ ⟨bx2, rfl, rfl⟩
  refine ol_nil_then ?_
  refine cd_seq ?_
  refine cd_sr ?_   -- 2
  refine ol_q (wn_none rfl) (op_move (v := .slice _ _ _) rfl) rfl ?_
  refine ol_q (wn_none rfl) (op_len_slice Try.underlying37 rfl) rfl ?_
  refine ol_q (wn_none rfl) (op_move (v := .int _ _) rfl) rfl ?_
  refine ol_nil_then ?_
  refine cd_block ?_
  refine cd_loop2 (α := Nat) [(5, 6), (9, 25)] (fun x => [(9, .int .i64 (x : Int))]) (fun x => Blk bx2 (.cells (tagC (joinM (ts.take x))).toArray 34 (0, 0)) :: Blk bx1 (.cells (tagC Tag.zero).toArray 34 (0, 0)) :: l) (fun x => x ≤ ts.length) (fun x => ts.length - x) 0 (Nat.zero_le _) ⟨rfl, trivial⟩ (fun _ s => s) ?_
  rintro i hi f; (try dsimp only at hi ⊢)
  refine cd_sr ?_   -- 3
  refine ol_q (wn_none rfl) (op_lt rfl rfl) rfl ?_
  refine ol_nil_then ?_
  refine cd_seq ?_
  refine cd_cond rfl (fun hb1 => ?_) (fun hb1 => ?_)
  · have hp1 := hb1
    (try simp only [decide_eq_true_eq, decide_eq_false_iff_not, Bool.not_eq_true', Bool.not_eq_false', ne_eq, Decidable.not_not] at hp1)
    have hi1 : i < ts.length := by omega
    refine cd_skip ?_
    refine px_then ?_
    refine cd_seq ?_
    refine cd_block ?_
    refine cd_sr ?_   -- 4
    refine ol_q (wn_none rfl) (op_index _ sB_37 rfl rfl rfl ((hr.cons _).cons _) rfl (by omega)) rfl ?_
    refine ol_q (wn_none rfl) (op_ldaw (L := tagC _) ag_34 ((hr.cons _).cons _) rfl (by omega) rfl (tagC_ta _)) rfl ?_
    refine ol_i (wn_none rfl) (os_alloc (cs := (tagC Tag.zero).toArray) zB_34 (by kernel_rfl)) rfl ?_; rintro _ _ ⟨bx3, rfl, rfl⟩
    refine ol_iN (wn_none rfl) (os_storew (tagC _) ag_34 rfl rfl (tagC_len _) (tagC_one _) (by simp [tagC_len]) (Free.zero _)) ?_; rintro _ _ ⟨rfl, rfl⟩
    refine ol_nil_then ?_
    refine cd_sr ?_   -- 5
    refine ol_q (wn_none rfl) (op_move (v := .int _ _) rfl) rfl ?_
    refine ol_nil_then ?_
    refine cd_block ?_
    refine cd_loop2 (α := Nat) [(6, 6), (13, 24)] (fun x => [(13, .int .i64 (x : Int))]) (fun x => Blk bx2 (.cells (bC (mixT (joinM (ts.take i)) ts[i] x)).toArray 34 (0, 0)) :: Blk bx3 (.cells (tagC ts[i]).toArray 34 (0, 0)) :: Blk bx1 (.cells (tagC Tag.zero).toArray 34 (0, 0)) :: l) (fun x => x ≤ 16) (fun x => 16 - x) 0 (Nat.zero_le _) ⟨rfl, trivial⟩ (fun _ s => by rw [mixT_zero]; exact (((s.pull 2).pull 1).pull 2)) ?_
    rintro j hj f; (try dsimp only at hj ⊢)
    refine cd_sr ?_   -- 6
    refine ol_q (wn_none rfl) (op_lt rfl rfl) rfl ?_
    refine ol_nil_then ?_
    refine cd_seq ?_
    refine cd_cond rfl (fun hb2 => ?_) (fun hb2 => ?_)
    · have hp2 := hb2
      (try simp only [decide_eq_true_eq, decide_eq_false_iff_not, Bool.not_eq_true', Bool.not_eq_false', ne_eq, Decidable.not_not] at hp2)
      have hj16 : j < 16 := by omega
      refine cd_skip ?_
      refine px_then ?_
      refine cd_seq ?_
      refine cd_block ?_
      refine cd_sr ?_   -- 7
      refine ol_q (wn_none rfl) (op_move (v := .int _ _) rfl) rfl ?_
      refine ol_q (wn_none rfl) (op_assign (v := .int _ _) rfl) rfl ?_
      refine ol_nil_then ?_
      -- 8
      refine cd_drawt (M := []) mx [] 8 (by kernel_rfl) rfl rfl ?_
      dsimp only [List.take_succ_cons, List.take_zero, List.drop_succ_cons, List.drop_zero]
      refine rg_q (wn_none rfl) (op_move (v := .int _ _) rfl) rfl rfl ?_
      refine rg_q (wn_none rfl) (op_aidx0 j a1_34 rfl rfl rfl (by omega)) rfl rfl ?_
      refine rg_q (wn_none rfl) (op_ld 0 sc_5 rfl rfl (mixT_at _ _ hj16)) rfl rfl ?_
      refine rg_q (wn_none rfl) (op_move (v := .int _ _) rfl) rfl rfl ?_
      refine rg_q (wn_none rfl) (op_aidx0 j a1_34 rfl rfl rfl (by omega)) rfl rfl ?_
      refine rg_q (wn_none rfl) (op_ld 1 sc_5 rfl rfl (tagC_gd _ hj16)) rfl rfl ?_
      refine rg_q (wn_none rfl) (op_xor8 _ _ rfl rfl) rfl rfl ?_
      refine rg_q (wn_none rfl) (op_aidx0 j a1_34 rfl rfl rfl (by omega)) rfl rfl ?_
      refine rg_tail0 ?_
      refine ol_iN (wn_none rfl) (os_store (v := .int _ _) sc_5 rfl rfl rfl (Nat.ble_eq_true_of_le (by rw [List.size_toArray, bC_len, mixT_len]; omega)) (Free.zero _) (mixT_set _ _ hj16)) ?_; rintro _ _ ⟨rfl, rfl⟩
      refine ol_nil ?_
      refine px_blockN ?_
      refine px_then ?_
      refine cd_region ?_   -- 9
      refine ol_q (wn_none rfl) (op_add rfl rfl (by omega) (by omega)) rfl ?_
      refine ol_q (wn_none rfl) (op_move (v := .int _ _) rfl) rfl ?_
      refine ol_nil ?_
      refine px_loop2 (j + 1) (by omega) (by (try dsimp only); omega) ⟨congrArg (Value.int .i64) (by simp), trivial⟩ ?_ (fun _ s => s)
      repeat (first | exact kept_over | refine kept_upd rfl ?_ | refine kept_overS (by decide) ?_)
    · have hp2 := hb2
      (try simp only [decide_eq_true_eq, decide_eq_false_iff_not, Bool.not_eq_true', Bool.not_eq_false', ne_eq, Decidable.not_not] at hp2)
      obtain rfl : j = 16 := by omega
      refine cd_exit ?_
      refine px_thenE ?_
      refine px_thenE ?_
      refine px_blockE ?_
      refine px_blockN ?_
      refine px_then ?_
      refine cd_region ?_   -- 10
      refine ol_q (wn_none rfl) (op_add rfl rfl (by omega) (by omega)) rfl ?_
      refine ol_q (wn_none rfl) (op_move (v := .int _ _) rfl) rfl ?_
      refine ol_nil ?_
      have e1 := joinM_succ ts hi1
      refine px_loop2 (i + 1) (by omega) (by (try dsimp only); omega) ⟨congrArg (Value.int .i64) (by simp), trivial⟩ ?_ (fun _ s => (by (try dsimp only); rw [e1]; exact (s.del 1)))
      repeat (first | exact kept_over | refine kept_upd rfl ?_ | refine kept_overS (by decide) ?_)
  · have hp1 := hb1
    (try simp only [decide_eq_true_eq, decide_eq_false_iff_not, Bool.not_eq_true', Bool.not_eq_false', ne_eq, Decidable.not_not] at hp1)
    obtain rfl : i = ts.length := by omega
    rw [List.take_length]
    refine cd_exit ?_
    refine px_thenE ?_
    refine px_thenE ?_
    refine px_blockE ?_
    refine px_then ?_
    refine cd_sr ?_   -- 11
    refine ol_q (wn_none rfl) (op_lda (L := tagC _) 0 ag_34 rfl rfl (tagC_take' _) (by simp [tagC_len])) rfl ?_
    refine ol_pull1 ?_
    refine ol_iN (wn_none rfl) (os_storew (tagC _) ag_34 rfl rfl (tagC_len _) (tagC_one _) (by simp [tagC_len]) (Free.zero _)) ?_; rintro _ _ ⟨rfl, rfl⟩
    refine ol_nil_then ?_
    refine cd_ret ?_
    exact px_rv1 rfl (rv_cella 0 ag_34 rfl rfl (tagC_take' _) (by simp [tagC_len])) (fun _ s => ((s.del 1).del 0)) ⟨rfl, rfl⟩

set_option maxRecDepth 100000 in
set_option maxHeartbeats 1000000 in
theorem RJoin_calls {w0 w : World} {l : List HProp} (lo : Option Addr) (lc : Nat) (ts : List Tag) (hs : Sat w0 w (l)) (hr : Rds w0 l encTag lo ts) (hlen : ts.length ≤ 1000000) :
    Calls Try.prog 18 #[.slice lo ts.length lc] w (Ret w0 fun v l' => v = .agg (tagC (joinM ts)).toArray ∧ l' = l) := by
  refine calls_enter Try.func18 rfl rfl rfl hs ?_
  refine cd_sr ?_   -- 0
  refine ol_i (wn_none rfl) (os_alloc (cs := (tagC Tag.zero).toArray) zB_34 (by kernel_rfl)) rfl ?_; rintro _ _ ⟨bx1, rfl, rfl⟩
  refine ol_nil_then ?_
  refine cd_sr ?_   -- 1
  refine ol_i (wn_none rfl) (os_alloc (cs := (tagC Tag.zero).toArray) zB_34 (by kernel_rfl)) rfl ?_; rintro _ _ ⟨bx2, rfl, rfl⟩
  refine ol_nil_then ?_
  refine cd_seq ?_
  refine cd_sr ?_   -- 2
  refine ol_q (wn_none rfl) (op_move (v := .int _ _) rfl) rfl ?_
  refine ol_nil_then ?_
  refine cd_block ?_
  refine cd_loop2 (α := Nat) [(4, 4), (6, 26)] (fun x => [(7, .int .i64 (x : Int))]) (fun x => Blk bx2 (.cells (bC (colT ts x 0)).toArray 34 (0, 0)) :: Blk bx1 (.cells (tagC Tag.zero).toArray 34 (0, 0)) :: l) (fun x => x ≤ 16) (fun x => 16 - x) 0 (Nat.zero_le _) ⟨rfl, trivial⟩ (fun _ s => by rw [colT_zero]; exact s) ?_
  rintro i hi f; (try dsimp only at hi ⊢)
  refine cd_sr ?_   -- 3
  refine ol_q (wn_none rfl) (op_lt rfl rfl) rfl ?_
  refine ol_nil_then ?_
  refine cd_seq ?_
  refine cd_cond rfl (fun hb1 => ?_) (fun hb1 => ?_)
  · have hp1 := hb1
    (try simp only [decide_eq_true_eq, decide_eq_false_iff_not, Bool.not_eq_true', Bool.not_eq_false', ne_eq, Decidable.not_not] at hp1)
    have hi16 : i < 16 := by omega
    refine cd_skip ?_
    refine px_then ?_
    refine cd_seq ?_
    refine cd_block ?_
    refine cd_sr ?_   -- 4
    refine ol_q (wn_none rfl) (op_move (v := .int _ _) rfl) rfl ?_
    refine ol_q (wn_none rfl) (op_assign (v := .int _ _) rfl) rfl ?_
    refine ol_nil_then ?_
    refine cd_sr ?_   -- 5
    refine ol_q (wn_none rfl) (op_move (v := .slice _ _ _) rfl) rfl ?_
    refine ol_q (wn_none rfl) (op_len_slice Try.underlying37 rfl) rfl ?_
    refine ol_q (wn_none rfl) (op_move (v := .int _ _) rfl) rfl ?_
    refine ol_nil_then ?_
    refine cd_block ?_
    refine cd_loop2 (α := Nat) [(6, 6), (12, 25)] (fun x => [(12, .int .i64 (x : Int))]) (fun x => Blk bx2 (.cells (bC (colT ts i x)).toArray 34 (0, 0)) :: Blk bx1 (.cells (tagC Tag.zero).toArray 34 (0, 0)) :: l) (fun x => x ≤ ts.length) (fun x => ts.length - x) 0 (Nat.zero_le _) ⟨rfl, trivial⟩ (fun _ s => s) ?_
    rintro j hj f; (try dsimp only at hj ⊢)
    refine cd_sr ?_   -- 6
    refine ol_q (wn_none rfl) (op_lt rfl rfl) rfl ?_
    refine ol_nil_then ?_
    refine cd_seq ?_
    refine cd_cond rfl (fun hb2 => ?_) (fun hb2 => ?_)
    · have hp2 := hb2
      (try simp only [decide_eq_true_eq, decide_eq_false_iff_not, Bool.not_eq_true', Bool.not_eq_false', ne_eq, Decidable.not_not] at hp2)
      have hj1 : j < ts.length := by omega
      refine cd_skip ?_
      refine px_then ?_
      refine cd_seq ?_
      refine cd_block ?_
      refine cd_sr ?_   -- 7
      refine ol_q (wn_none rfl) (op_index _ sB_37 rfl rfl rfl ((hr.cons _).cons _) rfl (by omega)) rfl ?_
      refine ol_q (wn_none rfl) (op_ldaw (L := tagC _) ag_34 ((hr.cons _).cons _) rfl (by omega) rfl (tagC_ta _)) rfl ?_
      refine ol_i (wn_none rfl) (os_alloc (cs := (tagC Tag.zero).toArray) zB_34 (by kernel_rfl)) rfl ?_; rintro _ _ ⟨bx3, rfl, rfl⟩
      refine ol_iN (wn_none rfl) (os_storew (tagC _) ag_34 rfl rfl (tagC_len _) (tagC_one _) (by simp [tagC_len]) (Free.zero _)) ?_; rintro _ _ ⟨rfl, rfl⟩
      refine ol_nil_then ?_
      -- 8
      refine cd_drawt (M := []) mx [] 9 (by kernel_rfl) rfl rfl ?_
      dsimp only [List.take_succ_cons, List.take_zero, List.drop_succ_cons, List.drop_zero]
      refine rg_q (wn_none rfl) (op_move (v := .int _ _) rfl) rfl rfl ?_
      refine rg_q (wn_none rfl) (op_move (v := .int _ _) rfl) rfl rfl ?_
      refine rg_q (wn_none rfl) (op_aidx0 i a1_34 rfl rfl rfl (by omega)) rfl rfl ?_
      refine rg_q (wn_none rfl) (op_ld 1 sc_5 rfl rfl (colT_at _ _ hi16)) rfl rfl ?_
      refine rg_q (wn_none rfl) (op_move (v := .int _ _) rfl) rfl rfl ?_
      refine rg_q (wn_none rfl) (op_aidx0 i a1_34 rfl rfl rfl (by omega)) rfl rfl ?_
      refine rg_q (wn_none rfl) (op_ld 0 sc_5 rfl rfl (tagC_gd _ hi16)) rfl rfl ?_
      refine rg_q (wn_none rfl) (op_xor8 _ _ rfl rfl) rfl rfl ?_
      refine rg_q (wn_none rfl) (op_aidx0 i a1_34 rfl rfl rfl (by omega)) rfl rfl ?_
      refine rg_tail0 ?_
      refine ol_pull1 ?_
      refine ol_iN (wn_none rfl) (os_store (v := .int _ _) sc_5 rfl rfl rfl (Nat.ble_eq_true_of_le (by rw [List.size_toArray, bC_len, colT_len]; omega)) (Free.zero _) (colT_set _ hi16 hj1)) ?_; rintro _ _ ⟨rfl, rfl⟩
      refine ol_nil ?_
      refine px_blockN ?_
      refine px_then ?_
      refine cd_region ?_   -- 9
      refine ol_q (wn_none rfl) (op_add rfl rfl (by omega) (by omega)) rfl ?_
      refine ol_q (wn_none rfl) (op_move (v := .int _ _) rfl) rfl ?_
      refine ol_nil ?_
      refine px_loop2 (j + 1) (by omega) (by (try dsimp only); omega) ⟨congrArg (Value.int .i64) (by simp), trivial⟩ ?_ (fun _ s => (s.del 1))
      repeat (first | exact kept_over | refine kept_upd rfl ?_ | refine kept_overS (by decide) ?_)
    · have hp2 := hb2
      (try simp only [decide_eq_true_eq, decide_eq_false_iff_not, Bool.not_eq_true', Bool.not_eq_false', ne_eq, Decidable.not_not] at hp2)
      obtain rfl : j = ts.length := by omega
      refine cd_exit ?_
      refine px_thenE ?_
      refine px_thenE ?_
      refine px_blockE ?_
      refine px_blockN ?_
      refine px_then ?_
      refine cd_region ?_   -- 10
      refine ol_q (wn_none rfl) (op_add rfl rfl (by omega) (by omega)) rfl ?_
      refine ol_q (wn_none rfl) (op_move (v := .int _ _) rfl) rfl ?_
      refine ol_nil ?_
      have e1 := colT_next ts i
      refine px_loop2 (i + 1) (by omega) (by (try dsimp only); omega) ⟨congrArg (Value.int .i64) (by simp), trivial⟩ ?_ (fun _ s => (by (try dsimp only); rw [← e1]; exact s))
      repeat (first | exact kept_over | refine kept_upd rfl ?_ | refine kept_overS (by decide) ?_)
  · have hp1 := hb1
    (try simp only [decide_eq_true_eq, decide_eq_false_iff_not, Bool.not_eq_true', Bool.not_eq_false', ne_eq, Decidable.not_not] at hp1)
    obtain rfl : i = 16 := by omega
    rw [colT_all]
    refine cd_exit ?_
    refine px_thenE ?_
    refine px_thenE ?_
    refine px_blockE ?_
    refine px_then ?_
    refine cd_sr ?_   -- 11
    refine ol_q (wn_none rfl) (op_lda (L := tagC _) 0 ag_34 rfl rfl (tagC_take' _) (by simp [tagC_len])) rfl ?_
    refine ol_pull1 ?_
    refine ol_iN (wn_none rfl) (os_storew (tagC _) ag_34 rfl rfl (tagC_len _) (tagC_one _) (by simp [tagC_len]) (Free.zero _)) ?_; rintro _ _ ⟨rfl, rfl⟩
    refine ol_nil_then ?_
    refine cd_ret ?_
    exact px_rv1 rfl (rv_cella 0 ag_34 rfl rfl (tagC_take' _) (by simp [tagC_len])) (fun _ s => ((s.del 1).del 0)) ⟨rfl, rfl⟩

theorem jefe : ((macM [74, 101, 102, 101] [[119, 104, 97, 116, 32, 100, 111, 32, 121, 97, 32, 119, 97, 110, 116, 32], [102, 111, 114, 32, 110, 111, 116, 104, 105, 110, 103, 63]].flatten).1.getD 0 0).toNat = 91 ∧ ((macM [74, 101, 102, 101] [[119, 104, 97, 116, 32, 100, 111, 32, 121, 97, 32, 119, 97, 110, 116, 32], [102, 111, 114, 32, 110, 111, 116, 104, 105, 110, 103, 63]].flatten).1.getD 1 0).toNat = 220 ∧ ((macM [74, 101, 102, 101] [[119, 104, 97, 116, 32, 100, 111, 32, 121, 97, 32, 119, 97, 110, 116, 32], [102, 111, 114, 32, 110, 111, 116, 104, 105, 110, 103, 63]].flatten).1.getD 15 0).toNat = 199 := by decide +kernel

set_option maxRecDepth 100000 in
set_option maxHeartbeats 1000000 in
theorem mAlive_calls {w0 w : World} {l : List HProp}  (hs : Sat w0 w (l))  :
    Calls Try.prog 16 #[] w (Ret w0 fun v l' => v = .bool true ∧ l' = l) := by
  refine calls_enter Try.func16 rfl rfl rfl hs ?_
  refine cd_sr ?_   -- 0
  refine ol_q (wn_none rfl) (op_assign (v := .bool _) rfl) rfl ?_
  refine ol_nil_then ?_
  refine cd_sr ?_   -- 1
  refine ol_i (wn_none rfl) (os_bslice (E := encStr) [_, _] (ys := [[119, 104, 97, 116, 32, 100, 111, 32, 121, 97, 32, 119, 97, 110, 116, 32], [102, 111, 114, 32, 110, 111, 116, 104, 105, 110, 103, 63]]) sB_24 zv_9 rfl rfl rfl rfl (by decide)) rfl ?_; rintro _ _ ⟨ao1, rfl, rfl⟩
  refine ol_i (wn_none rfl) (os_call cb_17 rfl (fun w s => Mac_calls _ _ _ _  s (rds_row 0 rfl rfl) (by decide) (by decide) (by decide))) rfl ?_; rintro _ l ⟨rfl, rfl⟩
  refine ol_i (wn_none rfl) (os_alloc (cs := (tagC Tag.zero).toArray) zB_34 (by kernel_rfl)) rfl ?_; rintro _ _ ⟨bx1, rfl, rfl⟩
  refine ol_iN (wn_none rfl) (os_storew (tagC _) ag_34 rfl rfl (tagC_len _) (tagC_one _) (by simp [tagC_len]) (Free.zero _)) ?_; rintro _ _ ⟨rfl, rfl⟩
  refine ol_nil_then ?_
  refine cd_sr ?_   -- 2
  refine ol_q (wn_none rfl) (op_aidx0 0 a1_34 rfl rfl rfl (by omega)) rfl ?_
  refine ol_q (wn_none rfl) (op_ld 0 sc_5 rfl rfl (tagC_gd _ (by omega))) rfl ?_
  refine ol_q (wn_none rfl) (op_eqn (C := 91) rfl rfl) rfl ?_
  refine ol_q (wn_none rfl) (op_move (v := .bool _) rfl) rfl ?_
  refine ol_split 7 rfl (fun hb1 => ?_) (fun hb1 => ?_)
  · have hp1 := hb1
    (try simp only [decide_eq_true_eq, decide_eq_false_iff_not, Bool.not_eq_true', Bool.not_eq_false', ne_eq, Decidable.not_not] at hp1)
    refine ol_q (wn_some rfl rfl rfl hb1 rfl) (op_aidx0 1 a1_34 rfl rfl rfl (by omega)) rfl ?_
    refine ol_q (wn_some rfl rfl rfl hb1 rfl) (op_ld 0 sc_5 rfl rfl (tagC_gd _ (by omega))) rfl ?_
    refine ol_q (wn_some rfl rfl rfl hb1 rfl) (op_eqn (C := 220) rfl rfl) rfl ?_
    refine ol_q (wn_none rfl) (op_pick_t (v := .bool _) rfl hb1 rfl) rfl ?_
    refine ol_q (wn_none rfl) (op_move (v := .bool _) rfl) rfl ?_
    refine ol_split 12 rfl (fun hb2 => ?_) (fun hb2 => ?_)
    · have hp2 := hb2
      (try simp only [decide_eq_true_eq, decide_eq_false_iff_not, Bool.not_eq_true', Bool.not_eq_false', ne_eq, Decidable.not_not] at hp2)
      refine ol_q (wn_some rfl rfl rfl hb2 rfl) (op_aidx0 15 a1_34 rfl rfl rfl (by omega)) rfl ?_
      refine ol_q (wn_some rfl rfl rfl hb2 rfl) (op_ld 0 sc_5 rfl rfl (tagC_gd _ (by omega))) rfl ?_
      refine ol_q (wn_some rfl rfl rfl hb2 rfl) (op_eqn (C := 199) rfl rfl) rfl ?_
      refine ol_q (wn_none rfl) (op_pick_t (v := .bool _) rfl hb2 rfl) rfl ?_
      refine ol_q (wn_none rfl) (op_assign (v := .bool _) rfl) rfl ?_
      refine ol_nil_then ?_
      refine cd_ret ?_
      exact px_ret1 rfl (v := .bool _) rfl (fun _ s => ((s.del 1).del 0)) ⟨congrArg Value.bool (by exact decide_eq_true jefe.2.2), rfl⟩
    · have hp2 := hb2
      (try simp only [decide_eq_true_eq, decide_eq_false_iff_not, Bool.not_eq_true', Bool.not_eq_false', ne_eq, Decidable.not_not] at hp2)
      exact Bool.noConfusion ((decide_eq_true jefe.2.1).symm.trans hb2)
  · have hp1 := hb1
    (try simp only [decide_eq_true_eq, decide_eq_false_iff_not, Bool.not_eq_true', Bool.not_eq_false', ne_eq, Decidable.not_not] at hp1)
    exact Bool.noConfusion ((decide_eq_true jefe.1).symm.trans hb1)
end Go.SL

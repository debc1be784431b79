import Derived.Test.YtgdlddjalilmhaaMGen3
import Derived.Test.YtgdlddjalilmhaaGen6
import Derived.Test.YtgdlddjalilmhaaRef3
set_option linter.unusedVariables false
set_option linter.unusedSimpArgs false
namespace Go.SL
open Go.Proofs

set_option maxRecDepth 100000 in
set_option maxHeartbeats 1000000 in
theorem GRBytes_calls {w0 w : World} {l : List HProp} (ao : Option Addr) (c : Nat) (xs : List Val) (n1 n2 n3 n4 n5 n6 n7 n8 n9 n10 n11 : Int) (hs : Sat w0 w (l)) (hr : Rds w0 l encVal ao xs) (hxl : xs.length ≤ 64) (hk : ∀ y ∈ xs, y.key.length ≤ 32) :
    Calls Try.prog 32 #[.agg (cfgC ⟨⟨ao, xs.length, c⟩, n1, n2, n3, n4, n5, n6, n7, n8, n9, n10, n11⟩).toArray] w (Ret w0 fun v l' => v = .string (B (bytesC ⟨⟨ao, xs.length, c⟩, n1, n2, n3, n4, n5, n6, n7, n8, n9, n10, n11⟩ xs)) ∧ l' = l) := by
  have h12 : (nums12 ⟨⟨ao, xs.length, c⟩, n1, n2, n3, n4, n5, n6, n7, n8, n9, n10, n11⟩ xs.length).length = 12 := rfl
  have h24 : (numsL ⟨⟨ao, xs.length, c⟩, n1, n2, n3, n4, n5, n6, n7, n8, n9, n10, n11⟩ xs.length).length = 24 := rfl
  have hlA := bytesA_length (nums12 ⟨⟨ao, xs.length, c⟩, n1, n2, n3, n4, n5, n6, n7, n8, n9, n10, n11⟩ xs.length)
  refine calls_enter Try.func32 rfl rfl rfl hs ?_
  refine cd_sr ?_   -- 0
  refine ol_i (wn_none rfl) (os_boxa rfl) rfl ?_; rintro _ _ ⟨bx1, rfl, rfl⟩
  refine ol_q (wn_none rfl) (op_assign (v := .string _) rfl) rfl ?_
  refine ol_nil_then ?_
  refine cd_sr ?_   -- 1
  refine ol_q (wn_none rfl) (op_assign (v := .string _) rfl) rfl ?_
  refine ol_nil_then ?_
  refine cd_sr ?_   -- 2
  refine ol_q (wn_none rfl) (op_lda (L := cfgC _) 0 ag_24 rfl rfl (cfgC_ta _) (by simp [cfgC_len])) rfl ?_
  refine ol_i (wn_none rfl) (os_call cb_43 rfl (fun w s => Numbers_calls _ _ _ _ _ _ _ _ _ _ _ _ _ _  s (hr.cons _))) rfl ?_; rintro _ _ ⟨no1, nc1, rfl, rfl⟩
  refine ol_q (wn_none rfl) (op_assign (v := .slice _ _ _) rfl) rfl ?_
  refine ol_nil_then ?_
  refine cd_seq ?_
  refine cd_sr ?_   -- 3
  refine ol_q (wn_none rfl) (op_assign (v := .int _ _) rfl) rfl ?_
  refine ol_nil_then ?_
  refine cd_block ?_
  refine cd_loop2 (α := Nat) [(3, 3), (5, 5), (10, 23)] (fun x => [(3, .string (B (bytesA ((nums12 ⟨⟨ao, xs.length, c⟩, n1, n2, n3, n4, n5, n6, n7, n8, n9, n10, n11⟩ xs.length).take x)))), (5, .int .i64 ((2 * x : Nat) : Int))]) (fun _ => _) (fun x => x ≤ 12) (fun x => 12 - x) 0 (Nat.zero_le _) ⟨rfl, rfl, trivial⟩ (fun _ s => s) ?_
  rintro i hi f; (try dsimp only at hi ⊢)
  refine cd_seq ?_
  refine cd_sr ?_   -- 4
  refine ol_q (wn_none rfl) (op_move (v := .int _ _) rfl) rfl ?_
  refine ol_q (wn_none rfl) (op_move (v := .slice _ _ _) rfl) rfl ?_
  refine ol_q (wn_none rfl) (op_len_slice Try.underlying35 rfl) rfl ?_
  refine ol_q (wn_none rfl) (op_lt rfl rfl) rfl ?_
  refine ol_nil_then ?_
  refine cd_cond rfl (fun hb1 => ?_) (fun hb1 => ?_)
  · have hp1 := hb1
    (try simp only [decide_eq_true_eq, decide_eq_false_iff_not, Bool.not_eq_true', Bool.not_eq_false', ne_eq, Decidable.not_not] at hp1)
    have hi12 : i < 12 := by omega
    have hu4 := u64N_lt (numsL ⟨⟨ao, xs.length, c⟩, n1, n2, n3, n4, n5, n6, n7, n8, n9, n10, n11⟩ xs.length)[2 * i]
    have hla := bytesA_length ((nums12 ⟨⟨ao, xs.length, c⟩, n1, n2, n3, n4, n5, n6, n7, n8, n9, n10, n11⟩ xs.length).take i)
    rw [List.length_take] at hla
    have hat := nums12_at ⟨⟨ao, xs.length, c⟩, n1, n2, n3, n4, n5, n6, n7, n8, n9, n10, n11⟩ xs.length i hi12 (by omega) (by omega)
    refine cd_skip ?_
    refine px_then ?_
    refine cd_seq ?_
    refine cd_block ?_
    refine cd_region ?_   -- 6
    refine ol_q (wn_none rfl) (op_move (v := .string _) rfl) rfl ?_
    refine ol_q (wn_none rfl) (op_move (v := .slice _ _ _) rfl) rfl ?_
    refine ol_q (wn_none rfl) (op_move (v := .int _ _) rfl) rfl ?_
    refine ol_q (wn_none rfl) (op_index (2 * i) sB_35 rfl rfl rfl (rds_row 0 rfl rfl) rfl (by omega)) rfl ?_
    refine ol_q (wn_none rfl) (op_ldw sc_3 (rds_row 0 rfl rfl) rfl (by omega) rfl) rfl ?_
    refine ol_q (wn_none rfl) (op_conv64i Try.underlying32 (by rw [Try.underlying3]; rfl) rfl) rfl ?_
    refine ol_i (wn_none rfl) (os_call cb_57 rfl (fun w s => RPut_calls (wd := 4) _ _  s (show clamp8 4 = 4 from rfl) (by omega))) rfl ?_; rintro _ l ⟨rfl, rfl⟩
    refine ol_q (wn_none rfl) (op_sadd rfl rfl (by rw [hla, putB_length]; omega)) rfl ?_
    refine ol_q (wn_none rfl) (op_assign (v := .string _) rfl) rfl ?_
    refine ol_nil ?_
    refine px_blockN ?_
    refine px_then ?_
    refine cd_region ?_   -- 5
    refine ol_q (wn_none rfl) (op_move (v := .int _ _) rfl) rfl ?_
    refine ol_q (wn_none rfl) (op_add rfl rfl (by omega) (by omega)) rfl ?_
    refine ol_q (wn_none rfl) (op_assign (v := .int _ _) rfl) rfl ?_
    refine ol_nil ?_
    have e1 := bytesA_succ (nums12 ⟨⟨ao, xs.length, c⟩, n1, n2, n3, n4, n5, n6, n7, n8, n9, n10, n11⟩ xs.length) i (by omega)
    rw [← hat] at e1
    refine px_loop2 (i + 1) (by omega) (by (try dsimp only); omega) ⟨congrArg (fun q => Value.string (B q)) e1.symm, congrArg (Value.int .i64) (by omega), trivial⟩ ?_ (fun _ s => s)
    repeat (first | exact kept_over | refine kept_upd rfl ?_ | refine kept_overS (by decide) ?_)
  · have hp1 := hb1
    (try simp only [decide_eq_true_eq, decide_eq_false_iff_not, Bool.not_eq_true', Bool.not_eq_false', ne_eq, Decidable.not_not] at hp1)
    obtain rfl : i = 12 := by omega
    rw [List.take_of_length_le (show (nums12 ⟨⟨ao, xs.length, c⟩, n1, n2, n3, n4, n5, n6, n7, n8, n9, n10, n11⟩ xs.length).length ≤ 12 from Nat.le_refl _)]
    refine cd_exit ?_
    refine px_thenE ?_
    refine px_thenE ?_
    refine px_blockE ?_
    refine px_then ?_
    refine cd_seq ?_
    refine cd_sr ?_   -- 7
    refine ol_q (wn_none rfl) (op_field fld_24_0 rfl) rfl ?_
    refine ol_q (wn_none rfl) (op_ld 1 sc_22 rfl rfl (cfgC_a0 _)) rfl ?_
    refine ol_q (wn_none rfl) (op_len_slice Try.underlying22 rfl) rfl ?_
    refine ol_q (wn_none rfl) (op_move (v := .int _ _) rfl) rfl ?_
    refine ol_nil_then ?_
    refine cd_block ?_
    refine cd_loop2 (α := Nat) [(3, 3), (7, 7), (27, 46)] (fun x => [(3, .string (B (bytesA (nums12 ⟨⟨ao, xs.length, c⟩, n1, n2, n3, n4, n5, n6, n7, n8, n9, n10, n11⟩ xs.length) ++ bytesV (xs.take x)))), (27, .int .i64 (x : Int))]) (fun x => Blk bx1 (.cells (cfgC ⟨⟨ao, xs.length, c⟩, n1, n2, n3, n4, n5, n6, n7, n8, n9, n10, n11⟩).toArray 24 (0, 0)) :: l) (fun x => x ≤ xs.length) (fun x => xs.length - x) 0 (Nat.zero_le _) ⟨congrArg (fun q => Value.string (B q)) (by simp [bytesV]), rfl, trivial⟩ (fun _ s => (s.del 0)) ?_
    rintro j hj f; (try dsimp only at hj ⊢)
    refine cd_sr ?_   -- 8
    refine ol_q (wn_none rfl) (op_lt rfl rfl) rfl ?_
    refine ol_nil_then ?_
    refine cd_seq ?_
    refine cd_cond rfl (fun hb2 => ?_) (fun hb2 => ?_)
    · have hp2 := hb2
      (try simp only [decide_eq_true_eq, decide_eq_false_iff_not, Bool.not_eq_true', Bool.not_eq_false', ne_eq, Decidable.not_not] at hp2)
      have hj1 : j < xs.length := by omega
      have hu8 := u64N_lt xs[j].stake
      have hk1 := hk xs[j] (List.getElem_mem _)
      have hbv := bytesV_length (l := xs.take j) fun y hy => hk y (List.mem_of_mem_take hy)
      rw [List.length_take] at hbv
      have e2 := bytesV_succ xs j hj1
      refine cd_skip ?_
      refine px_then ?_
      refine cd_seq ?_
      refine cd_block ?_
      refine cd_sr ?_   -- 9
      refine ol_q (wn_none rfl) (op_index _ sB_22 rfl rfl rfl (hr.cons _) rfl (by omega)) rfl ?_
      refine ol_q (wn_none rfl) (op_ldaw (L := valC _) ag_60 (hr.cons _) rfl (by omega) rfl (valC_ta _)) rfl ?_
      refine ol_i (wn_none rfl) (os_alloc (cs := (valC Val.zero).toArray) zB_60 (by kernel_rfl)) rfl ?_; rintro _ _ ⟨bx2, rfl, rfl⟩
      refine ol_iN (wn_none rfl) (os_storew (valC _) ag_60 rfl rfl (valC_len _) (valC_one _) (by simp [valC_len]) (Free.zero _)) ?_; rintro _ _ ⟨rfl, rfl⟩
      refine ol_nil_then ?_
      -- 10
      refine cd_draw (M := []) mx [4, 10] (by kernel_rfl) ?_
      refine rg_q (wn_none rfl) (op_move (v := .string _) rfl) rfl rfl ?_
      refine rg_q (wn_none rfl) (op_field fld_60_0 rfl) rfl rfl ?_
      refine rg_q (wn_none rfl) (op_ld 0 sc_3 rfl rfl (valC_a0 _)) rfl rfl ?_
      refine rg_q (wn_none rfl) (op_conv64i Try.underlying32 (by rw [Try.underlying3]; rfl) rfl) rfl rfl ?_
      refine rg_i (wn_none rfl) (os_call cb_57 rfl (fun w s => RPut_calls (wd := 8) _ _  s (show clamp8 8 = 8 from rfl) (by omega))) rfl rfl ?_; rintro _ l ⟨rfl, rfl⟩; refine ⟨[], rfl, ?_⟩
      refine rg_q (wn_none rfl) (op_sadd rfl rfl (by rw [putB_length, List.length_append]; omega)) rfl rfl ?_
      refine rg_q (wn_none rfl) (op_field fld_60_1 rfl) rfl rfl ?_
      refine rg_q (wn_none rfl) (op_ld 0 sc_9 rfl rfl (valC_a1 _)) rfl rfl ?_
      refine rg_q (wn_none rfl) (op_len_string Try.underlying9 rfl) rfl rfl ?_
      refine rg_q (wn_none rfl) (op_conv64 Try.underlying32 (by rw [Try.underlying3]; rfl) rfl (by omega)) rfl rfl ?_
      refine rg_i (wn_none rfl) (os_call cb_57 rfl (fun w s => RPut_calls (wd := 1) _ _  s (show clamp8 1 = 1 from rfl) (by omega))) rfl rfl ?_; rintro _ l ⟨rfl, rfl⟩; refine ⟨[], rfl, ?_⟩
      refine rg_q (wn_none rfl) (op_sadd rfl rfl (by rw [putB_length, List.length_append, List.length_append, putB_length]; omega)) rfl rfl ?_
      refine rg_q (wn_none rfl) (op_field fld_60_1 rfl) rfl rfl ?_
      refine rg_q (wn_none rfl) (op_ld 0 sc_9 rfl rfl (valC_a1 _)) rfl rfl ?_
      refine rg_q (wn_none rfl) (op_sadd rfl rfl (by simp only [putB_length, List.length_append]; omega)) rfl rfl ?_
      refine rg_q (wn_none rfl) (op_assign (v := .string _) rfl) rfl rfl ?_
      refine rg_nil0 ?_
      refine px_blockN ?_
      refine px_then ?_
      refine cd_region ?_   -- 11
      refine ol_q (wn_none rfl) (op_add rfl rfl (by omega) (by omega)) rfl ?_
      refine ol_q (wn_none rfl) (op_move (v := .int _ _) rfl) rfl ?_
      refine ol_nil ?_
      have e3 : bytesA (nums12 ⟨⟨ao, xs.length, c⟩, n1, n2, n3, n4, n5, n6, n7, n8, n9, n10, n11⟩ xs.length) ++ bytesV (xs.take (j + 1)) = bytesA (nums12 ⟨⟨ao, xs.length, c⟩, n1, n2, n3, n4, n5, n6, n7, n8, n9, n10, n11⟩ xs.length) ++ bytesV (xs.take j) ++ putB (u64N xs[j].stake) 8 ++ putB xs[j].key.length 1 ++ xs[j].key := by rw [e2]; simp only [List.append_assoc]
      refine px_loop2 (j + 1) (by omega) (by (try dsimp only); omega) ⟨congrArg (fun q => Value.string (B q)) e3.symm, congrArg (Value.int .i64) (by simp), trivial⟩ ?_ (fun _ s => (s.del 0))
      repeat (first | exact kept_over | refine kept_upd rfl ?_ | refine kept_overS (by decide) ?_)
    · have hp2 := hb2
      (try simp only [decide_eq_true_eq, decide_eq_false_iff_not, Bool.not_eq_true', Bool.not_eq_false', ne_eq, Decidable.not_not] at hp2)
      obtain rfl : j = xs.length := by omega
      rw [List.take_length]
      refine cd_exit ?_
      refine px_thenE ?_
      refine px_thenE ?_
      refine px_blockE ?_
      refine px_then ?_
      refine cd_sr ?_   -- 12
      refine ol_q (wn_none rfl) (op_move (v := .string _) rfl) rfl ?_
      refine ol_q (wn_none rfl) (op_assign (v := .string _) rfl) rfl ?_
      refine ol_nil_then ?_
      refine cd_ret ?_
      exact px_ret1 rfl (v := .string _) rfl (fun _ s => (s.del 0)) ⟨rfl, rfl⟩

theorem bytesC_le {q : Cfg} {xs : List Val} (hxl : xs.length ≤ 64) (hk : ∀ y ∈ xs, y.key.length ≤ 32) : (bytesC q xs).length ≤ 3000 := by
  unfold bytesC
  have h1 := bytesV_length hk
  rw [List.length_append, bytesA_length]
  have h2 : (nums12 q xs.length).length = 12 := rfl
  omega

set_option maxRecDepth 100000 in
set_option maxHeartbeats 1000000 in
theorem GRoot_calls {w0 w : World} {l : List HProp} (ao : Option Addr) (c : Nat) (xs : List Val) (n1 n2 n3 n4 n5 n6 n7 n8 n9 n10 n11 : Int) (hs : Sat w0 w (l)) (hr : Rds w0 l encVal ao xs) (hxl : xs.length ≤ 64) (hk : ∀ y ∈ xs, y.key.length ≤ 32) :
    Calls Try.prog 33 #[.agg (cfgC ⟨⟨ao, xs.length, c⟩, n1, n2, n3, n4, n5, n6, n7, n8, n9, n10, n11⟩).toArray] w (Ret w0 fun v l' => v = .agg (rootC (shaM ([116, 111, 108, 108, 101, 114] ++ bytesC ⟨⟨ao, xs.length, c⟩, n1, n2, n3, n4, n5, n6, n7, n8, n9, n10, n11⟩ xs))).toArray ∧ l' = l) := by
  have hbl := bytesC_le (q := ⟨⟨ao, xs.length, c⟩, n1, n2, n3, n4, n5, n6, n7, n8, n9, n10, n11⟩) hxl hk
  refine calls_enter Try.func33 rfl rfl rfl hs ?_
  refine cd_sr ?_   -- 0
  refine ol_i (wn_none rfl) (os_boxa rfl) rfl ?_; rintro _ _ ⟨bx1, rfl, rfl⟩
  refine ol_i (wn_none rfl) (os_alloc (cs := (rootC Root.zero).toArray) zB_40 (by kernel_rfl)) rfl ?_; rintro _ _ ⟨bx2, rfl, rfl⟩
  refine ol_nil_then ?_
  refine cd_sr ?_   -- 1
  refine ol_q (wn_none rfl) (op_lda (L := cfgC _) 1 ag_24 rfl rfl (cfgC_ta _) (by simp [cfgC_len])) rfl ?_
  refine ol_i (wn_none rfl) (os_call cb_21 rfl (fun w s => GBytes_calls _ _ _ _ _ _ _ _ _ _ _ _ _ _  s ((hr.cons _).cons _) (by omega) (by assumption))) rfl ?_; rintro _ l ⟨rfl, rfl⟩
  refine ol_i (wn_none rfl) (os_bslice (E := encStr) [_, _] (ys := [[116, 111, 108, 108, 101, 114], bytesC ⟨⟨ao, xs.length, c⟩, n1, n2, n3, n4, n5, n6, n7, n8, n9, n10, n11⟩ xs]) sB_88 zv_9 rfl rfl rfl rfl (by decide)) rfl ?_; rintro _ _ ⟨ao1, rfl, rfl⟩
  refine ol_i (wn_none rfl) (os_call cb_58 rfl (fun w s => Of_calls _ _ _  s (rds_row 0 rfl rfl) (by rw [List.flatten_cons, List.flatten_cons, List.flatten_nil, List.append_nil, List.length_append]; show 6 + _ < _; omega) (by show 2 ≤ 1000000; omega))) rfl ?_; rintro _ l ⟨rfl, rfl⟩
  refine ol_pull1 ?_
  refine ol_iN (wn_none rfl) (os_storera _ ag_40 rfl rfl (Free.zero _)) ?_; rintro _ _ ⟨rfl, rfl⟩
  refine ol_nil_then ?_
  refine cd_ret ?_
  exact px_rv1 rfl (rv_cella 0 ag_40 rfl rfl (rootC_take' _) (by simp [rootC_len])) (fun _ s => (((s.del 2).del 1).del 0)) ⟨by rw [List.flatten_cons, List.flatten_cons, List.flatten_nil, List.append_nil], rfl⟩

set_option maxRecDepth 100000 in
set_option maxHeartbeats 1000000 in
theorem RRoot_calls {w0 w : World} {l : List HProp} (ao : Option Addr) (c : Nat) (xs : List Val) (n1 n2 n3 n4 n5 n6 n7 n8 n9 n10 n11 : Int) (hs : Sat w0 w (l)) (hr : Rds w0 l encVal ao xs) (hxl : xs.length ≤ 64) (hk : ∀ y ∈ xs, y.key.length ≤ 32) :
    Calls Try.prog 34 #[.agg (cfgC ⟨⟨ao, xs.length, c⟩, n1, n2, n3, n4, n5, n6, n7, n8, n9, n10, n11⟩).toArray] w (Ret w0 fun v l' => v = .agg (rootC (shaM ([116, 111, 108, 108, 101, 114] ++ bytesC ⟨⟨ao, xs.length, c⟩, n1, n2, n3, n4, n5, n6, n7, n8, n9, n10, n11⟩ xs))).toArray ∧ l' = l) := by
  have hbl := bytesC_le (q := ⟨⟨ao, xs.length, c⟩, n1, n2, n3, n4, n5, n6, n7, n8, n9, n10, n11⟩) hxl hk
  refine calls_enter Try.func34 rfl rfl rfl hs ?_
  refine cd_sr ?_   -- 0
  refine ol_i (wn_none rfl) (os_boxa rfl) rfl ?_; rintro _ _ ⟨bx1, rfl, rfl⟩
  refine ol_i (wn_none rfl) (os_alloc (cs := (rootC Root.zero).toArray) zB_40 (by kernel_rfl)) rfl ?_; rintro _ _ ⟨bx2, rfl, rfl⟩
  refine ol_nil_then ?_
  refine cd_sr ?_   -- 1
  refine ol_q (wn_none rfl) (op_lda (L := cfgC _) 1 ag_24 rfl rfl (cfgC_ta _) (by simp [cfgC_len])) rfl ?_
  refine ol_i (wn_none rfl) (os_call cb_32 rfl (fun w s => GRBytes_calls _ _ _ _ _ _ _ _ _ _ _ _ _ _  s ((hr.cons _).cons _) (by omega) (by assumption))) rfl ?_; rintro _ l ⟨rfl, rfl⟩
  refine ol_q (wn_none rfl) (op_sadd (a := [116, 111, 108, 108, 101, 114]) rfl rfl (by show 6 + _ ≤ _; omega)) rfl ?_
  refine ol_i (wn_none rfl) (os_call cb_59 rfl (fun w s => ROf_calls _  s (by rw [List.length_append]; show 6 + _ ≤ _; omega))) rfl ?_; rintro _ l ⟨rfl, rfl⟩
  refine ol_iN (wn_none rfl) (os_storera _ ag_40 rfl rfl (Free.zero _)) ?_; rintro _ _ ⟨rfl, rfl⟩
  refine ol_nil_then ?_
  refine cd_ret ?_
  exact px_rv1 rfl (rv_cella 0 ag_40 rfl rfl (rootC_take' _) (by simp [rootC_len])) (fun _ s => ((s.del 1).del 0)) ⟨rfl, rfl⟩

set_option maxRecDepth 100000 in
set_option maxHeartbeats 1000000 in
theorem GenesisBytes_calls {w0 w : World} {l : List HProp} (ao : Option Addr) (c : Nat) (xs : List Val) (n1 n2 n3 n4 n5 n6 n7 n8 n9 n10 n11 : Int) (sl : Int) (hs : Sat w0 w (l)) (hr : Rds w0 l encVal ao xs) (hq : ∀ y ∈ xs, I64 y.stake ∧ y.key.length ≤ maxLen) (hs9 : sl ≤ 9223372036854775807) :
    Calls Try.prog 13 #[.agg (cfgC ⟨⟨ao, xs.length, c⟩, n1, n2, n3, n4, n5, n6, n7, n8, n9, n10, n11⟩).toArray, .int .i64 sl] w (Ret w0 fun v l' => v = .bool true ∧ l' = l) := by
  refine calls_enter Try.func13 rfl rfl rfl hs ?_
  refine cd_sr ?_   -- 0
  refine ol_i (wn_none rfl) (os_boxa rfl) rfl ?_; rintro _ _ ⟨bx1, rfl, rfl⟩
  refine ol_q (wn_none rfl) (op_assign (v := .bool _) rfl) rfl ?_
  refine ol_nil_then ?_
  refine cd_seq ?_
  refine cd_sr ?_   -- 1
  refine ol_i (wn_none rfl) (os_call cb_15 rfl (fun w s => gAlive_calls  s )) rfl ?_; rintro _ l ⟨rfl, rfl⟩
  refine ol_q (wn_none rfl) (op_not rfl) rfl ?_
  refine ol_nil_then ?_
  refine cd_cond_f rfl rfl ?_
  refine cd_skip ?_
  refine px_then ?_
  refine cd_seq ?_
  refine cd_sr ?_   -- 3
  refine ol_q (wn_none rfl) (op_lda (L := cfgC _) 0 ag_24 rfl rfl (cfgC_ta _) (by simp [cfgC_len])) rfl ?_
  refine ol_i (wn_none rfl) (os_call cb_16 rfl (fun w s => Great_calls _ _ _ _ _ _ _ _ _ _ _ _ _ _  s (hr.cons _))) rfl ?_; rintro _ l ⟨rfl, rfl⟩
  refine ol_q (wn_none rfl) (op_move (v := .bool _) rfl) rfl ?_
  refine ol_split 10 rfl (fun hb1 => ?_) (fun hb1 => ?_)
  · have hp1 := hb1
    (try simp only [decide_eq_true_eq, decide_eq_false_iff_not, Bool.not_eq_true', Bool.not_eq_false', ne_eq, Decidable.not_not] at hp1)
    refine ol_skip (wn_some rfl rfl rfl hb1 rfl) rfl ?_
    refine ol_skip (wn_some rfl rfl rfl hb1 rfl) rfl ?_
    refine ol_skip (wn_some rfl rfl rfl hb1 rfl) rfl ?_
    refine ol_q (wn_none rfl) (op_pick_t (v := .bool _) rfl hb1 rfl) rfl ?_
    refine ol_q (wn_none rfl) (op_move (v := .bool _) rfl) rfl ?_
    refine ol_skip (wn_some rfl rfl rfl rfl rfl) rfl ?_
    refine ol_skip (wn_some rfl rfl rfl rfl rfl) rfl ?_
    refine ol_q (wn_none rfl) (op_pick_t (v := .bool _) rfl rfl rfl) rfl ?_
    refine ol_nil_then ?_
    refine cd_cond_t rfl rfl ?_
    refine cd_sr ?_   -- 4
    refine ol_q (wn_none rfl) (op_assign (v := .bool _) rfl) rfl ?_
    refine ol_nil_then ?_
    refine cd_ret ?_
    refine px_thenR ?_
    exact px_ret1 rfl (v := .bool _) rfl (fun _ s => (s.del 0)) ⟨congrArg Value.bool (by first | rfl | simp), rfl⟩
  · have hp1 := hb1
    (try simp only [decide_eq_true_eq, decide_eq_false_iff_not, Bool.not_eq_true', Bool.not_eq_false', ne_eq, Decidable.not_not] at hp1)
    have hgr : greatC xs = false := by simpa using hb1
    have hxl : xs.length ≤ 100 := by unfold greatC at hgr; rw [Bool.or_eq_false_iff] at hgr; have := of_decide_eq_false hgr.1; omega
    refine ol_q (wn_some rfl rfl rfl hb1 rfl) (op_lda (L := cfgC _) 0 ag_24 rfl rfl (cfgC_ta _) (by simp [cfgC_len])) rfl ?_
    refine ol_i (wn_some rfl rfl rfl hb1 rfl) (os_call cb_20 rfl (fun w s => RGood_calls _ _ _ _ _ _ _ _ _ _ _ _ _ _  s (hr.cons _) (by first | omega | (simp; done) | (simp; omega)) (by assumption))) rfl ?_; rintro _ l ⟨rfl, rfl⟩
    refine ol_q (wn_some rfl rfl rfl hb1 rfl) (op_not rfl) rfl ?_
    refine ol_q (wn_none rfl) (op_pick_f (v := .bool _) rfl hb1 rfl) rfl ?_
    refine ol_q (wn_none rfl) (op_move (v := .bool _) rfl) rfl ?_
    refine ol_split 15 rfl (fun hb2 => ?_) (fun hb2 => ?_)
    · have hp2 := hb2
      (try simp only [decide_eq_true_eq, decide_eq_false_iff_not, Bool.not_eq_true', Bool.not_eq_false', ne_eq, Decidable.not_not] at hp2)
      refine ol_skip (wn_some rfl rfl rfl hb2 rfl) rfl ?_
      refine ol_skip (wn_some rfl rfl rfl hb2 rfl) rfl ?_
      refine ol_q (wn_none rfl) (op_pick_t (v := .bool _) rfl hb2 rfl) rfl ?_
      refine ol_nil_then ?_
      refine cd_cond_t rfl rfl ?_
      refine cd_sr ?_   -- 4
      refine ol_q (wn_none rfl) (op_assign (v := .bool _) rfl) rfl ?_
      refine ol_nil_then ?_
      refine cd_ret ?_
      refine px_thenR ?_
      exact px_ret1 rfl (v := .bool _) rfl (fun _ s => (s.del 0)) ⟨congrArg Value.bool (by first | rfl | simp), rfl⟩
    · have hp2 := hb2
      (try simp only [decide_eq_true_eq, decide_eq_false_iff_not, Bool.not_eq_true', Bool.not_eq_false', ne_eq, Decidable.not_not] at hp2)
      have hgood : goodC ⟨⟨ao, xs.length, c⟩, n1, n2, n3, n4, n5, n6, n7, n8, n9, n10, n11⟩ xs = true := by simpa using hb2
      refine ol_q (wn_some rfl rfl rfl hb2 rfl) (op_move (v := .int _ _) rfl) rfl ?_
      refine ol_q (wn_some rfl rfl rfl hb2 rfl) (op_lt rfl rfl) rfl ?_
      refine ol_q (wn_none rfl) (op_pick_f (v := .bool _) rfl hb2 rfl) rfl ?_
      refine ol_nil_then ?_
      refine cd_cond rfl (fun hb3 => ?_) (fun hb3 => ?_)
      · have hp3 := hb3
        (try simp only [decide_eq_true_eq, decide_eq_false_iff_not, Bool.not_eq_true', Bool.not_eq_false', ne_eq, Decidable.not_not] at hp3)
        refine cd_sr ?_   -- 4
        refine ol_q (wn_none rfl) (op_assign (v := .bool _) rfl) rfl ?_
        refine ol_nil_then ?_
        refine cd_ret ?_
        refine px_thenR ?_
        exact px_ret1 rfl (v := .bool _) rfl (fun _ s => (s.del 0)) ⟨congrArg Value.bool (by first | rfl | simp), rfl⟩
      · have hp3 := hb3
        (try simp only [decide_eq_true_eq, decide_eq_false_iff_not, Bool.not_eq_true', Bool.not_eq_false', ne_eq, Decidable.not_not] at hp3)
        have hsl0 : 0 ≤ sl := by omega
        obtain ⟨⟨hn1, hn2⟩, hxs, hval⟩ := goodC_rg hgood
        dsimp only at hn1 hn2
        have hkx : ∀ y ∈ xs, y.key.length ≤ 32 := fun y hy => (of_decide_eq_true (hval y hy)).2.2
        have hd0 : 0 ≤ sl / n1 := Int.ediv_nonneg (by omega) (by omega)
        refine cd_skip ?_
        refine px_then ?_
        refine cd_sr ?_   -- 5
        refine ol_q (wn_none rfl) (op_lda (L := cfgC _) 0 ag_24 rfl rfl (cfgC_ta _) (by simp [cfgC_len])) rfl ?_
        refine ol_q (wn_none rfl) (op_move (v := .int _ _) rfl) rfl ?_
        refine ol_i (wn_none rfl) (os_call cb_23 rfl (fun w s => Epoch_calls _ _ _ _ _ _ _ _ _ _ _ _ _ _ _  s (by omega) (by omega) (by omega))) rfl ?_; rintro _ l ⟨rfl, rfl⟩
        refine ol_q (wn_none rfl) (op_assign (v := .int _ _) rfl) rfl ?_
        refine ol_nil_then ?_
        refine cd_seq ?_   -- 6
        refine cd_drawe (M := []) mx [1, 3, 7, 9] ?_
        -- 0
        refine et_quiet 0 (by kernel_rfl) rfl (by kernel_rfl) (wn_none rfl) (op_lda (L := cfgC _) 0 ag_24 rfl rfl (cfgC_ta _) (by simp [cfgC_len])) rfl ?_
        -- 2
        refine et_quiet 2 (by kernel_rfl) rfl (by kernel_rfl) (wn_none rfl) (op_lda (L := cfgC _) 0 ag_24 rfl rfl (cfgC_ta _) (by simp [cfgC_len])) rfl ?_
        refine et_1 (i := 1) (by kernel_rfl) ?_
        refine ei_i rfl rfl (wn_none rfl) (os_call cb_21 rfl (fun w s => GBytes_calls _ _ _ _ _ _ _ _ _ _ _ _ _ _  s (hr.cons _) (by omega) (by assumption))) rfl ?_; rintro _ l ⟨rfl, rfl⟩; refine ⟨[], rfl, ?_⟩
        refine et_1 (i := 3) (by kernel_rfl) ?_
        refine ei_i rfl rfl (wn_none rfl) (os_call cb_32 rfl (fun w s => GRBytes_calls _ _ _ _ _ _ _ _ _ _ _ _ _ _  s (hr.cons _) (by omega) (by assumption))) rfl ?_; rintro _ l ⟨rfl, rfl⟩; refine ⟨[], rfl, ?_⟩
        -- 4
        refine et_quiet 4 (by kernel_rfl) rfl (by kernel_rfl) (wn_none rfl) (op_seql rfl rfl) rfl ?_
        -- 5
        refine et_quiet 5 (by kernel_rfl) rfl (by kernel_rfl) (wn_none rfl) (op_move (v := .bool _) rfl) rfl ?_
        refine et_split 27 rfl (fun hb4 => ?_) (fun hb4 => ?_)
        · have hp4 := hb4
          (try simp only [decide_eq_true_eq, decide_eq_false_iff_not, Bool.not_eq_true', Bool.not_eq_false', ne_eq, Decidable.not_not] at hp4)
          -- 6
          refine et_quiet 6 (by kernel_rfl) rfl (by kernel_rfl) (wn_some rfl rfl rfl hb4 rfl) (op_lda (L := cfgC _) 0 ag_24 rfl rfl (cfgC_ta _) (by simp [cfgC_len])) rfl ?_
          -- 8
          refine et_quiet 8 (by kernel_rfl) rfl (by kernel_rfl) (wn_some rfl rfl rfl hb4 rfl) (op_lda (L := cfgC _) 0 ag_24 rfl rfl (cfgC_ta _) (by simp [cfgC_len])) rfl ?_
          refine et_1 (i := 7) (by kernel_rfl) ?_
          refine ei_i rfl rfl (wn_some rfl rfl rfl hb4 rfl) (os_call cb_33 rfl (fun w s => GRoot_calls _ _ _ _ _ _ _ _ _ _ _ _ _ _  s (hr.cons _) (by omega) (by assumption))) rfl ?_; rintro _ l ⟨rfl, rfl⟩; refine ⟨[], rfl, ?_⟩
          refine et_1 (i := 9) (by kernel_rfl) ?_
          refine ei_i rfl rfl (wn_some rfl rfl rfl hb4 rfl) (os_call cb_34 rfl (fun w s => RRoot_calls _ _ _ _ _ _ _ _ _ _ _ _ _ _  s (hr.cons _) (by omega) (by assumption))) rfl ?_; rintro _ l ⟨rfl, rfl⟩; refine ⟨[], rfl, ?_⟩
          -- 10
          refine et_quiet 10 (by kernel_rfl) rfl (by kernel_rfl) (wn_some rfl rfl rfl hb4 rfl) (op_eqroot _ _ rB_40 rfl rfl) rfl ?_
          -- 11
          refine et_quiet 11 (by kernel_rfl) rfl (by kernel_rfl) (wn_none rfl) (op_pick_t (v := .bool _) rfl hb4 rfl) rfl ?_
          -- 12
          refine et_quiet 12 (by kernel_rfl) rfl (by kernel_rfl) (wn_none rfl) (op_move (v := .bool _) rfl) rfl ?_
          refine et_split 34 rfl (fun hb5 => ?_) (fun hb5 => ?_)
          · have hp5 := hb5
            (try simp only [decide_eq_true_eq, decide_eq_false_iff_not, Bool.not_eq_true', Bool.not_eq_false', ne_eq, Decidable.not_not] at hp5)
            -- 13
            refine et_quiet 13 (by kernel_rfl) rfl (by kernel_rfl) (wn_some rfl rfl rfl hb5 rfl) (op_move (v := .int _ _) rfl) rfl ?_
            -- 14
            refine et_quiet 14 (by kernel_rfl) rfl (by kernel_rfl) (wn_some rfl rfl rfl hb5 rfl) (op_ge rfl rfl) rfl ?_
            -- 15
            refine et_quiet 15 (by kernel_rfl) rfl (by kernel_rfl) (wn_none rfl) (op_pick_t (v := .bool _) rfl hb5 rfl) rfl ?_
            -- 16
            refine et_quiet 16 (by kernel_rfl) rfl (by kernel_rfl) (wn_none rfl) (op_move (v := .bool _) rfl) rfl ?_
            refine et_split 38 rfl (fun hb6 => ?_) (fun hb6 => ?_)
            · have hp6 := hb6
              (try simp only [decide_eq_true_eq, decide_eq_false_iff_not, Bool.not_eq_true', Bool.not_eq_false', ne_eq, Decidable.not_not] at hp6)
              -- 17
              refine et_quiet 17 (by kernel_rfl) rfl (by kernel_rfl) (wn_some rfl rfl rfl hb6 rfl) (op_move (v := .int _ _) rfl) rfl ?_
              -- 18
              refine et_quiet 18 (by kernel_rfl) rfl (by kernel_rfl) (wn_some rfl rfl rfl hb6 rfl) (op_field fld_24_1 rfl) rfl ?_
              -- 19
              refine et_quiet 19 (by kernel_rfl) rfl (by kernel_rfl) (wn_some rfl rfl rfl hb6 rfl) (op_ld 0 sc_3 rfl rfl (show (cfgC _).toArray[1]? = some (.int .i64 n1) from cfgC_a1 _)) rfl ?_
              -- 20
              refine et_quiet 20 (by kernel_rfl) rfl (by kernel_rfl) (wn_some rfl rfl rfl hb6 rfl) (op_quo rfl rfl (by omega) (by omega) (by omega)) rfl ?_
              -- 21
              refine et_quiet 21 (by kernel_rfl) rfl (by kernel_rfl) (wn_some rfl rfl rfl hb6 rfl) (op_move (v := .int _ _) rfl) rfl ?_
              -- 22
              refine et_quiet 22 (by kernel_rfl) rfl (by kernel_rfl) (wn_some rfl rfl rfl hb6 rfl) (op_eq rfl rfl) rfl ?_
              -- 23
              refine et_quiet 23 (by kernel_rfl) rfl (by kernel_rfl) (wn_none rfl) (op_pick_t (v := .bool _) rfl hb6 rfl) rfl ?_
              -- 24
              refine et_quiet 24 (by kernel_rfl) rfl (by kernel_rfl) (wn_none rfl) (op_assign (v := .bool _) rfl) rfl ?_
              refine et_nil_then (by kernel_rfl) ?_
              refine cd_ret ?_
              exact px_ret1 rfl (v := .bool _) rfl (fun _ s => (s.del 0)) ⟨congrArg Value.bool (by first | rfl | simp), rfl⟩
            · have hp6 := hb6
              (try simp only [decide_eq_true_eq, decide_eq_false_iff_not, Bool.not_eq_true', Bool.not_eq_false', ne_eq, Decidable.not_not] at hp6)
              exact absurd hb6 (by simp; omega)
          · have hp5 := hb5
            (try simp only [decide_eq_true_eq, decide_eq_false_iff_not, Bool.not_eq_true', Bool.not_eq_false', ne_eq, Decidable.not_not] at hp5)
            exact absurd hb5 (by simp)
        · have hp4 := hb4
          (try simp only [decide_eq_true_eq, decide_eq_false_iff_not, Bool.not_eq_true', Bool.not_eq_false', ne_eq, Decidable.not_not] at hp4)
          exact absurd hb4 (by simp)
end Go.SL

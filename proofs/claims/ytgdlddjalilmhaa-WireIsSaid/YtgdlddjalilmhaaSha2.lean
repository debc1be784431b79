import Derived.Test.YtgdlddjalilmhaaSha1
set_option linter.unusedVariables false
set_option linter.unusedSimpArgs false
namespace Go.SL
open Go.Proofs

set_option maxRecDepth 100000 in
set_option maxHeartbeats 1000000 in
theorem add_calls {w0 w : World} {l : List HProp} (p : Nat) (w1 : W8) (ro : Option Addr) (rc : Nat) (r : List UInt8) (n : Nat) (t : List UInt8) (hs : Sat w0 w ((Blk p (.cells (stC ⟨w1, ⟨ro, (r).length, rc⟩, n⟩).toArray 94 (0, 0))) :: (Row 5 encU8 (.slice ro (r).length rc) (r)) :: l)) (hn : n + t.length < 1000000000) (hr : r.length < 64) :
    Calls Try.prog 65 #[.pointer (some ⟨p, 0, none⟩), .string (B t)] w (Ret w0 fun v l' => ∃ ro rc, v = .tuple #[] ∧ l' = Blk p (.cells (stC ⟨runs w1 (r ++ t), ⟨ro, (left (r ++ t)).length, rc⟩, n + t.length⟩).toArray 94 (0, 0)) :: Row 5 encU8 (.slice ro (left (r ++ t)).length rc) (left (r ++ t)) :: l) := by
  have hrt : (r ++ t).length = r.length + t.length := List.length_append
  refine calls_enter Try.func65 rfl rfl rfl hs ?_
  refine cd_sr ?_   -- 0
  refine ol_q (wn_none rfl) (op_move (v := .pointer _) rfl) rfl ?_
  refine ol_q (wn_none rfl) (op_nilck rfl) rfl ?_
  refine ol_q (wn_none rfl) (op_field fld_94_2 rfl) rfl ?_
  refine ol_q (wn_none rfl) (op_ld 0 sc_32 rfl rfl (show (stC _).toArray[9]? = some (.int .u64 (n : Int)) from stC_a9 _)) rfl ?_
  refine ol_q (wn_none rfl) (op_move (v := .string _) rfl) rfl ?_
  refine ol_q (wn_none rfl) (op_len_string Try.underlying9 rfl) rfl ?_
  refine ol_q (wn_none rfl) (op_conv64 Try.underlying32 (by rw [Try.underlying3]; rfl) rfl (by omega)) rfl ?_
  refine ol_q (wn_none rfl) (op_addn rfl rfl (by omega)) rfl ?_
  refine ol_q (wn_none rfl) (op_nilck rfl) rfl ?_
  refine ol_q (wn_none rfl) (op_field fld_94_2 rfl) rfl ?_
  refine ol_iN (wn_none rfl) (os_store (v := .int _ _) sc_32 rfl rfl rfl (by simp [stC_len]) (Free.zero _) (stC_s9 _ _)) ?_; rintro _ _ ⟨rfl, rfl⟩
  refine ol_nil_then ?_
  refine cd_sr ?_   -- 1
  refine ol_q (wn_none rfl) (op_move (v := .pointer _) rfl) rfl ?_
  refine ol_q (wn_none rfl) (op_move (v := .pointer _) rfl) rfl ?_
  refine ol_q (wn_none rfl) (op_nilck rfl) rfl ?_
  refine ol_q (wn_none rfl) (op_field fld_94_1 rfl) rfl ?_
  refine ol_q (wn_none rfl) (op_ld 0 sc_55 rfl rfl (show (stC _).toArray[8]? = some (.slice ro r.length rc) from stC_a8 _)) rfl ?_
  refine ol_q (wn_none rfl) (op_move (v := .string _) rfl) rfl ?_
  refine ol_pull1 ?_
  refine ol_i (wn_none rfl) (os_appendS rfl sB_55 Try.underlying9 zv_5 rfl rfl rfl (by omega) (by unfold maxLen; omega)) rfl ?_; rintro _ _ ⟨ao1, ac1, rfl, rfl⟩
  refine ol_q (wn_none rfl) (op_nilck rfl) rfl ?_
  refine ol_q (wn_none rfl) (op_field fld_94_1 rfl) rfl ?_
  refine ol_pull1 ?_
  refine ol_iN (wn_none rfl) (os_store (v := .slice _ _ _) sc_55 rfl rfl rfl (by simp [stC_len]) (Free.zero _) (stC_s8 _ ⟨_, _, _⟩)) ?_; rintro _ _ ⟨rfl, rfl⟩
  refine ol_nil_then ?_
  refine cd_block ?_
  refine cd_loop2 (α := W8 × List UInt8 × Option Addr × Nat) [(23, 43)] (fun x => []) (fun x => Blk p (.cells (stC ⟨x.1, ⟨x.2.2.1, (x.2.1).length, x.2.2.2⟩, n + t.length⟩).toArray 94 (0, 0)) :: Row 5 encU8 (.slice x.2.2.1 (x.2.1).length x.2.2.2) (x.2.1) :: l) (fun x => runs x.1 x.2.1 = runs w1 (r ++ t) ∧ left x.2.1 = left (r ++ t) ∧ x.2.1.length ≤ (r ++ t).length) (fun x => x.2.1.length) (w1, r ++ t, ao1, ac1) ⟨rfl, rfl, Nat.le_refl _⟩ trivial (fun _ s => s) ?_
  rintro ⟨u, b, bo, bc⟩ ⟨h1, h2, h3⟩ f; dsimp only at h1 h2 h3 ⊢
  refine cd_seq ?_
  refine cd_sr ?_   -- 2
  refine ol_q (wn_none rfl) (op_move (v := .pointer _) rfl) rfl ?_
  refine ol_q (wn_none rfl) (op_nilck rfl) rfl ?_
  refine ol_q (wn_none rfl) (op_field fld_94_1 rfl) rfl ?_
  refine ol_q (wn_none rfl) (op_ld 0 sc_55 rfl rfl (show (stC _).toArray[8]? = some (.slice bo b.length bc) from stC_a8 _)) rfl ?_
  refine ol_q (wn_none rfl) (op_len_slice Try.underlying55 rfl) rfl ?_
  refine ol_q (wn_none rfl) (op_ge rfl rfl) rfl ?_
  refine ol_nil_then ?_
  refine cd_cond rfl (fun hb1 => ?_) (fun hb1 => ?_)
  · have hp1 := hb1
    (try simp only [decide_eq_true_eq, decide_eq_false_iff_not, Bool.not_eq_true', Bool.not_eq_false', ne_eq, Decidable.not_not] at hp1)
    have hb64 : 64 ≤ b.length := by omega
    refine cd_skip ?_
    refine px_then ?_
    refine cd_block ?_
    refine cd_sr ?_   -- 3
    refine ol_q (wn_none rfl) (op_move (v := .pointer _) rfl) rfl ?_
    refine ol_q (wn_none rfl) (op_move (v := .pointer _) rfl) rfl ?_
    refine ol_q (wn_none rfl) (op_nilck rfl) rfl ?_
    refine ol_q (wn_none rfl) (op_field fld_94_1 rfl) rfl ?_
    refine ol_q (wn_none rfl) (op_ld 0 sc_55 rfl rfl (show (stC _).toArray[8]? = some (.slice bo b.length bc) from stC_a8 _)) rfl ?_
    refine ol_pull1 ?_
    refine ol_i (wn_none rfl) (os_slicerow_lend 64 sB_55 rfl rfl rfl rfl (by omega)) rfl ?_; rintro _ _ ⟨rfl, rfl⟩
    
    refine ol_pull1 ?_
    refine ol_i (wn_none rfl) (os_call cb_70 rfl (fun w s => take_calls _ _ _ _ _  s ((rds_row 0 rfl rfl).take 64) (by rw [List.length_take]; omega))) rfl ?_; rintro _ _ ⟨rfl, rfl⟩
    refine ol_nil_then ?_
    refine cd_region ?_   -- 4
    refine ol_q (wn_none rfl) (op_move (v := .pointer _) rfl) rfl ?_
    refine ol_q (wn_none rfl) (op_move (v := .pointer _) rfl) rfl ?_
    refine ol_q (wn_none rfl) (op_nilck rfl) rfl ?_
    refine ol_q (wn_none rfl) (op_field fld_94_1 rfl) rfl ?_
    refine ol_q (wn_none rfl) (op_ld 0 sc_55 rfl rfl (show (stC _).toArray[8]? = some (.slice bo b.length bc) from stC_a8 _)) rfl ?_
    refine ol_pull1 ?_
    refine ol_i (wn_none rfl) (os_slicerow_from 64 sB_55 rfl rfl rfl rfl (by omega)) rfl ?_; rintro _ _ ⟨bo2, bc2, rfl, rfl⟩
    
    refine ol_q (wn_none rfl) (op_nilck rfl) rfl ?_
    refine ol_q (wn_none rfl) (op_field fld_94_1 rfl) rfl ?_
    refine ol_pull1 ?_
    refine ol_iN (wn_none rfl) (os_store (v := .slice _ _ _) sc_55 rfl rfl rfl (by simp [stC_len]) (Free.zero _) (stC_s8 _ ⟨_, _, _⟩)) ?_; rintro _ _ ⟨rfl, rfl⟩
    refine ol_nil ?_
    refine px_blockN ?_
    refine px_loop2 (blk8 u (b.take 64), b.drop 64, bo2, bc2) ⟨by rw [← h1, runs_ge (w := u) hb64], by rw [← h2, left_ge hb64], by dsimp only; rw [List.length_drop]; omega⟩ (by (try dsimp only); rw [List.length_drop]; omega) trivial ?_ (fun _ s => s)
    repeat (first | exact kept_over | refine kept_upd rfl ?_ | refine kept_overS (by decide) ?_)
  · have hp1 := hb1
    (try simp only [decide_eq_true_eq, decide_eq_false_iff_not, Bool.not_eq_true', Bool.not_eq_false', ne_eq, Decidable.not_not] at hp1)
    have hb64 : b.length < 64 := by omega
    refine cd_exit ?_
    refine px_thenE ?_
    refine px_thenE ?_
    refine px_blockE ?_
    have e1 : runs w1 (r ++ t) = u := by rw [← h1, runs_lt hb64]
    have e2 : left (r ++ t) = b := by rw [← h2, left_lt hb64]
    exact px_end0 rfl (fun _ s => s) ⟨bo, bc, rfl, by rw [e1, e2]⟩

set_option maxRecDepth 100000 in
set_option maxHeartbeats 1000000 in
theorem end_calls {w0 w : World} {l : List HProp} (p : Nat) (w1 : W8) (ro : Option Addr) (rc : Nat) (r : List UInt8) (n : Nat) (hs : Sat w0 w ((Blk p (.cells (stC ⟨w1, ⟨ro, (r).length, rc⟩, n⟩).toArray 94 (0, 0))) :: (Row 5 encU8 (.slice ro (r).length rc) (r)) :: l)) (hr : r.length < 64) (hn : n < 1000000000) :
    Calls Try.prog 66 #[.pointer (some ⟨p, 0, none⟩)] w (Ret w0 fun v l' => v = .agg (rootC (outR (runs w1 (padM r n)))).toArray ∧ l' = l) := by
  have hz : zpad r.length = (119 - r.length) % 64 := rfl
  have hpm : (padM r n).length = r.length + 1 + zpad r.length + 8 := by unfold padM; simp [be64_len]; omega
  refine calls_enter Try.func66 rfl rfl rfl hs ?_
  refine cd_sr ?_   -- 0
  refine ol_i (wn_none rfl) (os_alloc (cs := (rootC Root.zero).toArray) zB_40 (by kernel_rfl)) rfl ?_; rintro _ _ ⟨bx1, rfl, rfl⟩
  refine ol_nil_then ?_
  refine cd_sr ?_   -- 1
  refine ol_q (wn_none rfl) (op_move (v := .pointer _) rfl) rfl ?_
  refine ol_q (wn_none rfl) (op_nilck rfl) rfl ?_
  refine ol_q (wn_none rfl) (op_field fld_94_2 rfl) rfl ?_
  refine ol_q (wn_none rfl) (op_ld 1 sc_32 rfl rfl (show (stC _).toArray[9]? = some (.int .u64 (n : Int)) from stC_a9 _)) rfl ?_
  refine ol_q (wn_none rfl) (op_muln (C := 8) rfl rfl (by omega)) rfl ?_
  refine ol_q (wn_none rfl) (op_assign (v := .int _ _) rfl) rfl ?_
  refine ol_nil_then ?_
  refine cd_sr ?_   -- 2
  refine ol_q (wn_none rfl) (op_move (v := .pointer _) rfl) rfl ?_
  refine ol_q (wn_none rfl) (op_move (v := .pointer _) rfl) rfl ?_
  refine ol_q (wn_none rfl) (op_nilck rfl) rfl ?_
  refine ol_q (wn_none rfl) (op_field fld_94_1 rfl) rfl ?_
  refine ol_q (wn_none rfl) (op_ld 1 sc_55 rfl rfl (show (stC _).toArray[8]? = some (.slice ro r.length rc) from stC_a8 _)) rfl ?_
  refine ol_i (wn_none rfl) (os_bslice (E := encU8) [_] (ys := [128]) sB_55 zv_5 rfl rfl rfl rfl (by decide)) rfl ?_; rintro _ _ ⟨ao1, rfl, rfl⟩
  refine ol_pull3 ?_
  refine ol_i (wn_none rfl) (os_append (E := encU8) rfl sB_55 zv_5 rfl rfl rfl (fun w s => (rds_row 1 rfl rfl) [] w s) rfl (by simp; omega) (by unfold maxLen; simp; omega)) rfl ?_; rintro _ _ ⟨ao2, ac2, rfl, rfl⟩
  refine ol_q (wn_none rfl) (op_nilck rfl) rfl ?_
  refine ol_q (wn_none rfl) (op_field fld_94_1 rfl) rfl ?_
  refine ol_pull3 ?_
  refine ol_iN (wn_none rfl) (os_store (v := .slice _ _ _) sc_55 rfl rfl rfl (by simp [stC_len]) (Free.zero _) (stC_s8 _ ⟨_, _, _⟩)) ?_; rintro _ _ ⟨rfl, rfl⟩
  refine ol_nil_then ?_
  refine cd_seq ?_
  refine cd_block ?_
  refine cd_loop2 (α := Nat × Option Addr × Nat) [(22, 37)] (fun x => []) (fun x => Blk p (.cells (stC ⟨w1, ⟨x.2.1, (r ++ [128] ++ List.replicate x.1 0).length, x.2.2⟩, n⟩).toArray 94 (0, 0)) :: Row 5 encU8 (.slice x.2.1 (r ++ [128] ++ List.replicate x.1 0).length x.2.2) (r ++ [128] ++ List.replicate x.1 0) :: Blk bx1 (.cells (rootC Root.zero).toArray 40 (0, 0)) :: l) (fun x => x.1 ≤ zpad r.length) (fun x => zpad r.length - x.1) (0, ao2, ac2) (Nat.zero_le _) trivial (fun _ s => by rw [show r ++ [128] ++ List.replicate 0 0 = r ++ [128] by simp]; exact (s.del 2)) ?_
  rintro ⟨k, bo, bc⟩ hk f; dsimp only at hk ⊢; have hlk : (r ++ [128] ++ List.replicate k 0).length = r.length + 1 + k := by simp; omega
  refine cd_seq ?_
  refine cd_sr ?_   -- 3
  refine ol_q (wn_none rfl) (op_move (v := .pointer _) rfl) rfl ?_
  refine ol_q (wn_none rfl) (op_nilck rfl) rfl ?_
  refine ol_q (wn_none rfl) (op_field fld_94_1 rfl) rfl ?_
  refine ol_q (wn_none rfl) (op_ld 0 sc_55 rfl rfl (show (stC _).toArray[8]? = some (.slice bo (r ++ [128] ++ List.replicate k 0).length bc) from stC_a8 _)) rfl ?_
  refine ol_q (wn_none rfl) (op_len_slice Try.underlying55 rfl) rfl ?_
  refine ol_q (wn_none rfl) (op_rem rfl rfl (by omega) (by omega)) rfl ?_
  refine ol_q (wn_none rfl) (op_ne rfl rfl) rfl ?_
  refine ol_nil_then ?_
  refine cd_cond rfl (fun hb1 => ?_) (fun hb1 => ?_)
  · have hp1 := hb1
    (try simp only [decide_eq_true_eq, decide_eq_false_iff_not, Bool.not_eq_true', Bool.not_eq_false', ne_eq, Decidable.not_not] at hp1)
    have hkz : k < zpad r.length := by omega
    refine cd_skip ?_
    refine px_then ?_
    refine cd_block ?_
    refine cd_region ?_   -- 4
    refine ol_q (wn_none rfl) (op_move (v := .pointer _) rfl) rfl ?_
    refine ol_q (wn_none rfl) (op_move (v := .pointer _) rfl) rfl ?_
    refine ol_q (wn_none rfl) (op_nilck rfl) rfl ?_
    refine ol_q (wn_none rfl) (op_field fld_94_1 rfl) rfl ?_
    refine ol_q (wn_none rfl) (op_ld 0 sc_55 rfl rfl (show (stC _).toArray[8]? = some (.slice bo (r ++ [128] ++ List.replicate k 0).length bc) from stC_a8 _)) rfl ?_
    refine ol_i (wn_none rfl) (os_bslice (E := encU8) [_] (ys := [0]) sB_55 zv_5 rfl rfl rfl rfl (by decide)) rfl ?_; rintro _ _ ⟨ao3, rfl, rfl⟩
    refine ol_pull2 ?_
    refine ol_i (wn_none rfl) (os_append (E := encU8) rfl sB_55 zv_5 rfl rfl rfl (fun w s => (rds_row 1 rfl rfl) [] w s) rfl (by rw [hlk]; simp; omega) (by unfold maxLen; rw [hlk]; simp; omega)) rfl ?_; rintro _ _ ⟨ao4, ac4, rfl, rfl⟩
    refine ol_q (wn_none rfl) (op_nilck rfl) rfl ?_
    refine ol_q (wn_none rfl) (op_field fld_94_1 rfl) rfl ?_
    refine ol_pull2 ?_
    refine ol_iN (wn_none rfl) (os_store (v := .slice _ _ _) sc_55 rfl rfl rfl (by simp [stC_len]) (Free.zero _) (stC_s8 _ ⟨_, _, _⟩)) ?_; rintro _ _ ⟨rfl, rfl⟩
    refine ol_nil ?_
    refine px_blockN ?_
    have e1 : r ++ [128] ++ List.replicate (k + 1) 0 = r ++ [128] ++ List.replicate k 0 ++ [0] := by rw [List.replicate_succ']; simp
    refine px_loop2 (k + 1, ao4, ac4) (by dsimp only; omega) (by (try dsimp only); omega) trivial ?_ (fun _ s => (by (try dsimp only); rw [e1]; exact (s.del 2)))
    repeat (first | exact kept_over | refine kept_upd rfl ?_ | refine kept_overS (by decide) ?_)
  · have hp1 := hb1
    (try simp only [decide_eq_true_eq, decide_eq_false_iff_not, Bool.not_eq_true', Bool.not_eq_false', ne_eq, Decidable.not_not] at hp1)
    obtain rfl : k = zpad r.length := by omega
    refine cd_exit ?_
    refine px_thenE ?_
    refine px_thenE ?_
    refine px_blockE ?_
    refine px_then ?_
    refine cd_seq ?_
    refine cd_sr ?_   -- 5
    refine ol_q (wn_none rfl) (op_move (v := .int _ _) rfl) rfl ?_
    refine ol_nil_then ?_
    refine cd_block ?_
    refine cd_loop2 (α := Nat × Option Addr × Nat) [(4, 4), (38, 56)] (fun x => [(38, .int .i64 (x.1 : Int))]) (fun x => Blk p (.cells (stC ⟨w1, ⟨x.2.1, (r ++ [128] ++ List.replicate (zpad r.length) 0 ++ be64 (n * 8) x.1).length, x.2.2⟩, n⟩).toArray 94 (0, 0)) :: Row 5 encU8 (.slice x.2.1 (r ++ [128] ++ List.replicate (zpad r.length) 0 ++ be64 (n * 8) x.1).length x.2.2) (r ++ [128] ++ List.replicate (zpad r.length) 0 ++ be64 (n * 8) x.1) :: Blk bx1 (.cells (rootC Root.zero).toArray 40 (0, 0)) :: l) (fun x => x.1 ≤ 8) (fun x => 8 - x.1) (0, bo, bc) (Nat.zero_le _) ⟨rfl, trivial⟩ (fun _ s => by rw [show r ++ [128] ++ List.replicate (zpad r.length) 0 ++ be64 (n * 8) 0 = r ++ [128] ++ List.replicate (zpad r.length) 0 by simp [be64]]; exact s) ?_
    rintro ⟨i, co, cc⟩ hi f; dsimp only at hi ⊢; have hl8 : (r ++ [128] ++ List.replicate (zpad r.length) 0 ++ be64 (n * 8) i).length = r.length + 1 + zpad r.length + i := by simp [be64_len]; omega
    refine cd_sr ?_   -- 6
    refine ol_q (wn_none rfl) (op_lt rfl rfl) rfl ?_
    refine ol_nil_then ?_
    refine cd_seq ?_
    refine cd_cond rfl (fun hb2 => ?_) (fun hb2 => ?_)
    · have hp2 := hb2
      (try simp only [decide_eq_true_eq, decide_eq_false_iff_not, Bool.not_eq_true', Bool.not_eq_false', ne_eq, Decidable.not_not] at hp2)
      have hi8 : i < 8 := by omega
      refine cd_skip ?_
      refine px_then ?_
      refine cd_seq ?_
      refine cd_block ?_
      refine cd_sr ?_   -- 7
      refine ol_q (wn_none rfl) (op_move (v := .int _ _) rfl) rfl ?_
      refine ol_q (wn_none rfl) (op_assign (v := .int _ _) rfl) rfl ?_
      refine ol_nil_then ?_
      refine cd_pull1 ?_
      refine cd_pull1 ?_
      -- 8
      refine cd_drawe (M := [_, _]) mx [4, 11, 12, 15] ?_
      -- 0
      refine et_quiet 0 (by kernel_rfl) rfl (by kernel_rfl) (wn_none rfl) (op_move (v := .pointer _) rfl) rfl ?_
      -- 1
      refine et_quiet 1 (by kernel_rfl) rfl (by kernel_rfl) (wn_none rfl) (op_move (v := .pointer _) rfl) rfl ?_
      -- 2
      refine et_quiet 2 (by kernel_rfl) rfl (by kernel_rfl) (wn_none rfl) (op_nilck rfl) rfl ?_
      -- 3
      refine et_quiet 3 (by kernel_rfl) rfl (by kernel_rfl) (wn_none rfl) (op_field fld_94_1 rfl) rfl ?_
      -- 5
      refine et_quiet 5 (by kernel_rfl) rfl (by kernel_rfl) (wn_none rfl) (op_move (v := .int _ _) rfl) rfl ?_
      -- 6
      refine et_quiet 6 (by kernel_rfl) rfl (by kernel_rfl) (wn_none rfl) (op_move (v := .int _ _) rfl) rfl ?_
      -- 7
      refine et_quiet 7 (by kernel_rfl) rfl (by kernel_rfl) (wn_none rfl) (op_mul rfl rfl (by omega) (by omega)) rfl ?_
      -- 8
      refine et_quiet 8 (by kernel_rfl) rfl (by kernel_rfl) (wn_none rfl) (op_sub rfl rfl (by omega) (by omega)) rfl ?_
      -- 9
      refine et_quiet 9 (by kernel_rfl) rfl (by kernel_rfl) (wn_none rfl) (op_shr_nat (m := 56 - 8 * i) rfl (congrArg (Value.int .i64) (by omega)) (by show 56 - 8 * i ≤ 64; omega)) rfl ?_
      -- 10
      refine et_quiet 10 (by kernel_rfl) rfl (by kernel_rfl) (wn_none rfl) (op_conv8 Try.underlying5 (by rw [Try.underlying32]; rfl) rfl) rfl ?_
      refine et_2 (i1 := 4) (i2 := 11) (by kernel_rfl) ?_ ?_
      · -- 4
        refine ei_i rfl rfl (wn_none rfl) (os_q (op_ld 0 sc_55 rfl rfl (show (stC _).toArray[8]? = some (.slice co (r ++ [128] ++ List.replicate (zpad r.length) 0 ++ be64 (n * 8) i).length cc) from stC_a8 _))) rfl ?_; rintro _ _ ⟨rfl, rfl⟩; refine ⟨[_, _], rfl, ?_⟩
        refine et_1 (i := 11) (by kernel_rfl) ?_
        refine ei_i rfl rfl (wn_none rfl) (os_bslice (E := encU8) [_] (ys := [_]) sB_55 zv_5 rfl rfl rfl rfl (by decide)) rfl ?_; rintro _ _ ⟨ao5, rfl, rfl⟩; refine ⟨[_, _, _], rfl, ?_⟩
        refine et_1 (i := 12) (by kernel_rfl) ?_
        refine ei_i rfl rfl (wn_none rfl) (os_pull2 (os_append (E := encU8) rfl sB_55 zv_5 rfl rfl rfl (fun w s => (rds_row 1 rfl rfl) [] w s) rfl (by rw [hl8]; simp; omega) (by unfold maxLen; rw [hl8]; simp; omega))) rfl ?_; rintro _ _ ⟨ao6, ac6, rfl, rfl⟩; refine ⟨[_, _, _], rfl, ?_⟩
        -- 13
        refine et_quiet 13 (by kernel_rfl) rfl (by kernel_rfl) (wn_none rfl) (op_nilck rfl) rfl ?_
        -- 14
        refine et_quiet 14 (by kernel_rfl) rfl (by kernel_rfl) (wn_none rfl) (op_field fld_94_1 rfl) rfl ?_
        refine et_1 (i := 15) (by kernel_rfl) ?_
        refine ei_iN rfl rfl (wn_none rfl) (os_pull2 (os_store (v := .slice _ _ _) sc_55 rfl rfl rfl (by simp [stC_len]) (Free.zero _) (stC_s8 _ ⟨_, _, _⟩))) ?_; rintro _ _ ⟨rfl, rfl⟩; refine ⟨[_, _, _], rfl, ?_⟩
        refine et_nil (by kernel_rfl) ?_
        refine px_blockN ?_
        refine px_then ?_
        refine cd_region ?_   -- 9
        refine ol_q (wn_none rfl) (op_add rfl rfl (by omega) (by omega)) rfl ?_
        refine ol_q (wn_none rfl) (op_move (v := .int _ _) rfl) rfl ?_
        refine ol_nil ?_
        have e1 : r ++ [128] ++ List.replicate (zpad r.length) 0 ++ be64 (n * 8) (i + 1) = r ++ [128] ++ List.replicate (zpad r.length) 0 ++ be64 (n * 8) i ++ [UInt8.ofNat (n * 8 / 2 ^ (56 - 8 * i))] := by rw [be64_succ]; simp only [List.append_assoc]
        refine px_loop2 (i + 1, ao6, ac6) (by dsimp only; omega) (by (try dsimp only); omega) ⟨congrArg (Value.int .i64) (by simp), trivial⟩ ?_ (fun _ s => (by (try dsimp only); rw [e1]; exact (s.del 2)))
        repeat (first | exact kept_over | refine kept_upd rfl ?_ | refine kept_overS (by decide) ?_)
      · -- 11
        refine ei_i rfl rfl (wn_none rfl) (os_bslice (E := encU8) [_] (ys := [_]) sB_55 zv_5 rfl rfl rfl rfl (by decide)) rfl ?_; rintro _ _ ⟨ao7, rfl, rfl⟩; refine ⟨[_, _, _], rfl, ?_⟩
        refine et_1 (i := 4) (by kernel_rfl) ?_
        refine ei_i rfl rfl (wn_none rfl) (os_q (op_ld 1 sc_55 rfl rfl (show (stC _).toArray[8]? = some (.slice co (r ++ [128] ++ List.replicate (zpad r.length) 0 ++ be64 (n * 8) i).length cc) from stC_a8 _))) rfl ?_; rintro _ _ ⟨rfl, rfl⟩; refine ⟨[_, _, _], rfl, ?_⟩
        refine et_1 (i := 12) (by kernel_rfl) ?_
        refine ei_i rfl rfl (wn_none rfl) (os_pull2 (os_append (E := encU8) rfl sB_55 zv_5 rfl rfl rfl (fun w s => (rds_row 1 rfl rfl) [] w s) rfl (by rw [hl8]; simp; omega) (by unfold maxLen; rw [hl8]; simp; omega))) rfl ?_; rintro _ _ ⟨ao8, ac8, rfl, rfl⟩; refine ⟨[_, _, _], rfl, ?_⟩
        -- 13
        refine et_quiet 13 (by kernel_rfl) rfl (by kernel_rfl) (wn_none rfl) (op_nilck rfl) rfl ?_
        -- 14
        refine et_quiet 14 (by kernel_rfl) rfl (by kernel_rfl) (wn_none rfl) (op_field fld_94_1 rfl) rfl ?_
        refine et_1 (i := 15) (by kernel_rfl) ?_
        refine ei_iN rfl rfl (wn_none rfl) (os_pull2 (os_store (v := .slice _ _ _) sc_55 rfl rfl rfl (by simp [stC_len]) (Free.zero _) (stC_s8 _ ⟨_, _, _⟩))) ?_; rintro _ _ ⟨rfl, rfl⟩; refine ⟨[_, _, _], rfl, ?_⟩
        refine et_nil (by kernel_rfl) ?_
        refine px_blockN ?_
        refine px_then ?_
        refine cd_region ?_   -- 9
        refine ol_q (wn_none rfl) (op_add rfl rfl (by omega) (by omega)) rfl ?_
        refine ol_q (wn_none rfl) (op_move (v := .int _ _) rfl) rfl ?_
        refine ol_nil ?_
        have e1 : r ++ [128] ++ List.replicate (zpad r.length) 0 ++ be64 (n * 8) (i + 1) = r ++ [128] ++ List.replicate (zpad r.length) 0 ++ be64 (n * 8) i ++ [UInt8.ofNat (n * 8 / 2 ^ (56 - 8 * i))] := by rw [be64_succ]; simp only [List.append_assoc]
        refine px_loop2 (i + 1, ao8, ac8) (by dsimp only; omega) (by (try dsimp only); omega) ⟨congrArg (Value.int .i64) (by simp), trivial⟩ ?_ (fun _ s => (by (try dsimp only); rw [e1]; exact (s.del 2)))
        repeat (first | exact kept_over | refine kept_upd rfl ?_ | refine kept_overS (by decide) ?_)
    · have hp2 := hb2
      (try simp only [decide_eq_true_eq, decide_eq_false_iff_not, Bool.not_eq_true', Bool.not_eq_false', ne_eq, Decidable.not_not] at hp2)
      obtain rfl : i = 8 := by omega
      refine cd_exit ?_
      refine px_thenE ?_
      refine px_thenE ?_
      refine px_blockE ?_
      refine px_then ?_
      refine cd_seq ?_
      refine cd_block ?_
      refine cd_loop2 (α := W8 × List UInt8 × Option Addr × Nat) [(57, 77)] (fun x => []) (fun x => Blk p (.cells (stC ⟨x.1, ⟨x.2.2.1, (x.2.1).length, x.2.2.2⟩, n⟩).toArray 94 (0, 0)) :: Row 5 encU8 (.slice x.2.2.1 (x.2.1).length x.2.2.2) (x.2.1) :: Blk bx1 (.cells (rootC Root.zero).toArray 40 (0, 0)) :: l) (fun x => runs x.1 x.2.1 = runs w1 (padM r n) ∧ x.2.1.length % 64 = 0 ∧ x.2.1.length ≤ 128) (fun x => x.2.1.length) (w1, padM r n, co, cc) ⟨rfl, by dsimp only; omega, by dsimp only; omega⟩ trivial (fun _ s => s) ?_
      rintro ⟨u, b, bo, bc⟩ ⟨h1, h2, h3⟩ f; dsimp only at h1 h2 h3 ⊢
      refine cd_seq ?_
      refine cd_sr ?_   -- 10
      refine ol_q (wn_none rfl) (op_move (v := .pointer _) rfl) rfl ?_
      refine ol_q (wn_none rfl) (op_nilck rfl) rfl ?_
      refine ol_q (wn_none rfl) (op_field fld_94_1 rfl) rfl ?_
      refine ol_q (wn_none rfl) (op_ld 0 sc_55 rfl rfl (show (stC _).toArray[8]? = some (.slice bo b.length bc) from stC_a8 _)) rfl ?_
      refine ol_q (wn_none rfl) (op_len_slice Try.underlying55 rfl) rfl ?_
      refine ol_q (wn_none rfl) (op_gt rfl rfl) rfl ?_
      refine ol_nil_then ?_
      refine cd_cond rfl (fun hb3 => ?_) (fun hb3 => ?_)
      · have hp3 := hb3
        (try simp only [decide_eq_true_eq, decide_eq_false_iff_not, Bool.not_eq_true', Bool.not_eq_false', ne_eq, Decidable.not_not] at hp3)
        have hb64 : 64 ≤ b.length := by omega
        refine cd_skip ?_
        refine px_then ?_
        refine cd_seq ?_
        refine cd_block ?_
        refine cd_region ?_   -- 12
        refine ol_q (wn_none rfl) (op_move (v := .pointer _) rfl) rfl ?_
        refine ol_q (wn_none rfl) (op_move (v := .pointer _) rfl) rfl ?_
        refine ol_q (wn_none rfl) (op_nilck rfl) rfl ?_
        refine ol_q (wn_none rfl) (op_field fld_94_1 rfl) rfl ?_
        refine ol_q (wn_none rfl) (op_ld 0 sc_55 rfl rfl (show (stC _).toArray[8]? = some (.slice bo b.length bc) from stC_a8 _)) rfl ?_
        refine ol_pull1 ?_
        refine ol_i (wn_none rfl) (os_slicerow_lend 64 sB_55 rfl rfl rfl rfl (by omega)) rfl ?_; rintro _ _ ⟨rfl, rfl⟩
        
        refine ol_pull1 ?_
        refine ol_i (wn_none rfl) (os_call cb_70 rfl (fun w s => take_calls _ _ _ _ _  s ((rds_row 0 rfl rfl).take 64) (by rw [List.length_take]; omega))) rfl ?_; rintro _ _ ⟨rfl, rfl⟩
        refine ol_nil ?_
        refine px_blockN ?_
        refine px_then ?_
        refine cd_region ?_   -- 11
        refine ol_q (wn_none rfl) (op_move (v := .pointer _) rfl) rfl ?_
        refine ol_q (wn_none rfl) (op_move (v := .pointer _) rfl) rfl ?_
        refine ol_q (wn_none rfl) (op_nilck rfl) rfl ?_
        refine ol_q (wn_none rfl) (op_field fld_94_1 rfl) rfl ?_
        refine ol_q (wn_none rfl) (op_ld 0 sc_55 rfl rfl (show (stC _).toArray[8]? = some (.slice bo b.length bc) from stC_a8 _)) rfl ?_
        refine ol_pull1 ?_
        refine ol_i (wn_none rfl) (os_slicerow_from 64 sB_55 rfl rfl rfl rfl (by omega)) rfl ?_; rintro _ _ ⟨bo2, bc2, rfl, rfl⟩
        
        refine ol_q (wn_none rfl) (op_nilck rfl) rfl ?_
        refine ol_q (wn_none rfl) (op_field fld_94_1 rfl) rfl ?_
        refine ol_pull1 ?_
        refine ol_iN (wn_none rfl) (os_store (v := .slice _ _ _) sc_55 rfl rfl rfl (by simp [stC_len]) (Free.zero _) (stC_s8 _ ⟨_, _, _⟩)) ?_; rintro _ _ ⟨rfl, rfl⟩
        refine ol_nil ?_
        refine px_loop2 (blk8 u (b.take 64), b.drop 64, bo2, bc2) ⟨by rw [← h1, runs_ge (w := u) hb64], by dsimp only; rw [List.length_drop]; omega, by dsimp only; rw [List.length_drop]; omega⟩ (by (try dsimp only); rw [List.length_drop]; omega) trivial ?_ (fun _ s => s)
        repeat (first | exact kept_over | refine kept_upd rfl ?_ | refine kept_overS (by decide) ?_)
      · have hp3 := hb3
        (try simp only [decide_eq_true_eq, decide_eq_false_iff_not, Bool.not_eq_true', Bool.not_eq_false', ne_eq, Decidable.not_not] at hp3)
        have hb0 : b.length < 64 := by omega
        refine cd_exit ?_
        refine px_thenE ?_
        refine px_thenE ?_
        refine px_blockE ?_
        refine px_then ?_
        refine cd_sr ?_   -- 13
        refine ol_i (wn_none rfl) (os_alloc (cs := (rootC Root.zero).toArray) zB_40 (by kernel_rfl)) rfl ?_; rintro _ _ ⟨bx2, rfl, rfl⟩
        refine ol_nil_then ?_
        refine cd_seq ?_
        refine cd_sr ?_   -- 14
        refine ol_q (wn_none rfl) (op_move (v := .pointer _) rfl) rfl ?_
        refine ol_q (wn_none rfl) (op_nilck rfl) rfl ?_
        refine ol_q (wn_none rfl) (op_field fld_94_0 rfl) rfl ?_
        refine ol_q (wn_none rfl) (op_lda  1 ag_91 rfl rfl (stC_af0 _) (by simp [stC_len])) rfl ?_
        refine ol_q (wn_none rfl) (op_move (v := .int _ _) rfl) rfl ?_
        refine ol_nil_then ?_
        refine cd_block ?_
        refine cd_loop2 (α := Nat) [(6, 7), (82, 112)] (fun x => [(82, .int .i64 (x : Int))]) (fun x => Blk bx2 (.cells (rootC (outN u x)).toArray 40 (0, 0)) :: Blk bx1 (.cells (rootC Root.zero).toArray 40 (0, 0)) :: l) (fun x => x ≤ 8) (fun x => 8 - x) 0 (Nat.zero_le _) ⟨rfl, trivial⟩ (fun _ s => by rw [outN_zero]; exact ((s.del 2).del 1)) ?_
        rintro j hj f; (try dsimp only at hj ⊢)
        refine cd_sr ?_   -- 15
        refine ol_q (wn_none rfl) (op_lt rfl rfl) rfl ?_
        refine ol_nil_then ?_
        refine cd_seq ?_
        refine cd_cond rfl (fun hb4 => ?_) (fun hb4 => ?_)
        · have hp4 := hb4
          (try simp only [decide_eq_true_eq, decide_eq_false_iff_not, Bool.not_eq_true', Bool.not_eq_false', ne_eq, Decidable.not_not] at hp4)
          have hj8 : j < 8 := by omega
          refine cd_skip ?_
          refine px_then ?_
          refine cd_seq ?_
          refine cd_block ?_
          refine cd_sr ?_   -- 16
          refine ol_q (wn_none rfl) (op_move (v := .int _ _) rfl) rfl ?_
          refine ol_q (wn_none rfl) (op_ixa _ arp_91 rfl rfl rfl (by omega) (wC_gd (ws := u.1) (by rw [u.2]; omega))) rfl ?_
          refine ol_q (wn_none rfl) (op_assign (v := .int _ _) rfl) rfl ?_
          refine ol_q (wn_none rfl) (op_assign (v := .int _ _) rfl) rfl ?_
          refine ol_nil_then ?_
          refine cd_region ?_   -- 17
          refine ol_q (wn_none rfl) (op_move (v := .int _ _) rfl) rfl ?_
          refine ol_q (wn_none rfl) (op_mul rfl rfl (by omega) (by omega)) rfl ?_
          refine ol_q (wn_none rfl) (op_move (v := .int _ _) rfl) rfl ?_
          refine ol_q (wn_none rfl) (op_mul rfl rfl (by omega) (by omega)) rfl ?_
          refine ol_q (wn_none rfl) (op_add rfl rfl (by omega) (by omega)) rfl ?_
          refine ol_q (wn_none rfl) (op_move (v := .int _ _) rfl) rfl ?_
          refine ol_q (wn_none rfl) (op_mul rfl rfl (by omega) (by omega)) rfl ?_
          refine ol_q (wn_none rfl) (op_add rfl rfl (by omega) (by omega)) rfl ?_
          refine ol_q (wn_none rfl) (op_move (v := .int _ _) rfl) rfl ?_
          refine ol_q (wn_none rfl) (op_mul rfl rfl (by omega) (by omega)) rfl ?_
          refine ol_q (wn_none rfl) (op_add rfl rfl (by omega) (by omega)) rfl ?_
          refine ol_q (wn_none rfl) (op_move (v := .int _ _) rfl) rfl ?_
          refine ol_q (wn_none rfl) (op_shr32 (m := 24) _ rfl rfl (by decide)) rfl ?_
          refine ol_q (wn_none rfl) (op_conv8 Try.underlying5 (by rw [Try.underlying90]; rfl) rfl) rfl ?_
          refine ol_q (wn_none rfl) (op_move (v := .int _ _) rfl) rfl ?_
          refine ol_q (wn_none rfl) (op_shr32 (m := 16) _ rfl rfl (by decide)) rfl ?_
          refine ol_q (wn_none rfl) (op_conv8 Try.underlying5 (by rw [Try.underlying90]; rfl) rfl) rfl ?_
          refine ol_q (wn_none rfl) (op_move (v := .int _ _) rfl) rfl ?_
          refine ol_q (wn_none rfl) (op_shr32 (m := 8) _ rfl rfl (by decide)) rfl ?_
          refine ol_q (wn_none rfl) (op_conv8 Try.underlying5 (by rw [Try.underlying90]; rfl) rfl) rfl ?_
          refine ol_q (wn_none rfl) (op_move (v := .int _ _) rfl) rfl ?_
          refine ol_q (wn_none rfl) (op_conv8 Try.underlying5 (by rw [Try.underlying90]; rfl) rfl) rfl ?_
          refine ol_q (wn_none rfl) (op_aidx0 (4 * j) a1_40 rfl rfl (by omega) (by omega)) rfl ?_
          refine ol_iN (wn_none rfl) (os_store (v := .int _ _) sc_5 rfl rfl rfl (Nat.ble_eq_true_of_le (show 4 * j + 1 ≤ _ by rw [List.size_toArray, rootC_len]; omega)) (Free.zero _) (rootC_set _ _ _)) ?_; rintro _ _ ⟨rfl, rfl⟩
          refine ol_q (wn_none rfl) (op_aidx0 (4 * j + 1) a1_40 rfl rfl (by omega) (by omega)) rfl ?_
          refine ol_iN (wn_none rfl) (os_store (v := .int _ _) sc_5 rfl rfl rfl (Nat.ble_eq_true_of_le (show 4 * j + 1 + 1 ≤ _ by rw [List.size_toArray, rootC_len]; omega)) (Free.zero _) (rootC_set _ _ _)) ?_; rintro _ _ ⟨rfl, rfl⟩
          refine ol_q (wn_none rfl) (op_aidx0 (4 * j + 2) a1_40 rfl rfl (by omega) (by omega)) rfl ?_
          refine ol_iN (wn_none rfl) (os_store (v := .int _ _) sc_5 rfl rfl rfl (Nat.ble_eq_true_of_le (show 4 * j + 2 + 1 ≤ _ by rw [List.size_toArray, rootC_len]; omega)) (Free.zero _) (rootC_set _ _ _)) ?_; rintro _ _ ⟨rfl, rfl⟩
          refine ol_q (wn_none rfl) (op_aidx0 (4 * j + 3) a1_40 rfl rfl (by omega) (by omega)) rfl ?_
          refine ol_iN (wn_none rfl) (os_store (v := .int _ _) sc_5 rfl rfl rfl (Nat.ble_eq_true_of_le (show 4 * j + 3 + 1 ≤ _ by rw [List.size_toArray, rootC_len]; omega)) (Free.zero _) (rootC_set _ _ _)) ?_; rintro _ _ ⟨rfl, rfl⟩
          refine ol_nil ?_
          refine px_blockN ?_
          refine px_then ?_
          refine cd_region ?_   -- 18
          refine ol_q (wn_none rfl) (op_add rfl rfl (by omega) (by omega)) rfl ?_
          refine ol_q (wn_none rfl) (op_move (v := .int _ _) rfl) rfl ?_
          refine ol_nil ?_
          refine px_loop2 (j + 1) (by omega) (by (try dsimp only); omega) ⟨congrArg (Value.int .i64) (by simp), trivial⟩ ?_ (fun _ s => (by (try dsimp only); rw [outN_succ u hj8]; exact s))
          repeat (first | exact kept_over | refine kept_upd rfl ?_ | refine kept_overS (by decide) ?_)
        · have hp4 := hb4
          (try simp only [decide_eq_true_eq, decide_eq_false_iff_not, Bool.not_eq_true', Bool.not_eq_false', ne_eq, Decidable.not_not] at hp4)
          obtain rfl : j = 8 := by omega
          refine cd_exit ?_
          refine px_thenE ?_
          refine px_thenE ?_
          refine px_blockE ?_
          refine px_then ?_
          refine cd_sr ?_   -- 19
          refine ol_q (wn_none rfl) (op_lda (L := rootC _) 0 ag_40 rfl rfl (rootC_take' _) (by simp [rootC_len])) rfl ?_
          refine ol_pull1 ?_
          refine ol_iN (wn_none rfl) (os_storera _ ag_40 rfl rfl (Free.zero _)) ?_; rintro _ _ ⟨rfl, rfl⟩
          refine ol_nil_then ?_
          refine cd_ret ?_
          have e9 : runs w1 (padM r n) = u := by rw [← h1, runs_lt hb0]
          exact px_rv1 rfl (rv_cella 0 ag_40 rfl rfl (rootC_take' _) (by simp [rootC_len])) (fun _ s => ((s.del 1).del 0)) ⟨by rw [e9]; rfl, rfl⟩
end Go.SL

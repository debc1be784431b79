import Derived.Test.YtgdlddjalilmhaaWire3
set_option linter.unusedVariables false
set_option linter.unusedSimpArgs false
namespace Go.SL
open Go.Proofs

set_option maxRecDepth 100000 in
set_option maxHeartbeats 1000000 in
theorem WireLengths_calls {w0 w : World} {l : List HProp} (k sl : Int) (tg : Root) (mb : Int) (bd : Nat) (bo : Option Addr) (bc : Nat) (bits : List Bool) (tag : Tag) (hs : Sat w0 w (l)) (hr : Rds w0 l encBool bo bits) (hbd : bd < 18446744073709551616) :
    Calls Try.prog 11 #[.agg (msgC ⟨k, sl, tg, mb, bd, ⟨bo, bits.length, bc⟩, tag⟩).toArray] w (Ret w0 fun v l' => v = .bool true ∧ l' = l) := by
  have hpl := plainW_len k sl tg mb bd bits
  have hbl := bodyW_le k mb bd bits
  have hal : (plainW k sl tg mb bd bits ++ tag.1).length = (plainW k sl tg mb bd bits).length + 16 := by rw [List.length_append, tag.2]
  refine calls_enter Try.func11 rfl rfl rfl hs ?_
  refine cd_sr ?_   -- 0
  refine ol_i (wn_none rfl) (os_boxa rfl) rfl ?_; rintro _ _ ⟨bx1, rfl, rfl⟩
  refine ol_q (wn_none rfl) (op_assign (v := .bool _) rfl) rfl ?_
  refine ol_nil_then ?_
  refine cd_seq ?_
  refine cd_sr ?_   -- 1
  refine ol_i (wn_none rfl) (os_call cb_24 rfl (fun w s => wAlive_calls  s )) rfl ?_; rintro _ l ⟨rfl, rfl⟩
  refine ol_q (wn_none rfl) (op_not rfl) rfl ?_
  refine ol_nil_then ?_
  refine cd_cond_f rfl rfl ?_
  refine cd_skip ?_
  refine px_then ?_
  refine cd_seq ?_
  refine cd_sr ?_   -- 3
  refine ol_q (wn_none rfl) (op_lda (L := msgC _) 0 ag_45 rfl rfl (msgC_ta _) (by simp [msgC_len])) rfl ?_
  refine ol_i (wn_none rfl) (os_call cb_28 rfl (fun w s => wgreat_calls _ _ _ _ _ _ _ _ _  s )) rfl ?_; rintro _ l ⟨rfl, rfl⟩
  refine ol_q (wn_none rfl) (op_move (v := .bool _) rfl) rfl ?_
  refine ol_split 10 rfl (fun hb1 => ?_) (fun hb1 => ?_)
  · have hp1 := hb1
    (try simp only [decide_eq_true_eq, decide_eq_false_iff_not, Bool.not_eq_true', Bool.not_eq_false', ne_eq, Decidable.not_not] at hp1)
    refine ol_skip (wn_some rfl rfl rfl hb1 rfl) rfl ?_
    refine ol_skip (wn_some rfl rfl rfl hb1 rfl) rfl ?_
    refine ol_skip (wn_some rfl rfl rfl hb1 rfl) rfl ?_
    refine ol_q (wn_none rfl) (op_pick_t (v := .bool _) rfl hb1 rfl) rfl ?_
    refine ol_nil_then ?_
    refine cd_cond_t rfl rfl ?_
    refine cd_sr ?_   -- 4
    refine ol_q (wn_none rfl) (op_assign (v := .bool _) rfl) rfl ?_
    refine ol_nil_then ?_
    refine cd_ret ?_
    refine px_thenR ?_
    exact px_ret1 rfl (v := .bool _) rfl (fun _ s => (s.del 0)) ⟨congrArg Value.bool (by first | rfl | (rw [List.take_left]; simp; done) | simp), rfl⟩
  · have hp1 := hb1
    (try simp only [decide_eq_true_eq, decide_eq_false_iff_not, Bool.not_eq_true', Bool.not_eq_false', ne_eq, Decidable.not_not] at hp1)
    have hxl : bits.length ≤ 200 := by have h9 := hb1; simp at h9; omega
    refine ol_q (wn_some rfl rfl rfl hb1 rfl) (op_lda (L := msgC _) 0 ag_45 rfl rfl (msgC_ta _) (by simp [msgC_len])) rfl ?_
    refine ol_i (wn_some rfl rfl rfl hb1 rfl) (os_call cb_30 rfl (fun w s => WRGood_calls _ _ _ _ _ _ _ _ _  s (hr.cons _) (by omega) (by omega))) rfl ?_; rintro _ l ⟨rfl, rfl⟩
    refine ol_q (wn_some rfl rfl rfl hb1 rfl) (op_not rfl) rfl ?_
    refine ol_q (wn_none rfl) (op_pick_f (v := .bool _) rfl hb1 rfl) rfl ?_
    refine ol_nil_then ?_
    refine cd_cond rfl (fun hb2 => ?_) (fun hb2 => ?_)
    · have hp2 := hb2
      (try simp only [decide_eq_true_eq, decide_eq_false_iff_not, Bool.not_eq_true', Bool.not_eq_false', ne_eq, Decidable.not_not] at hp2)
      refine cd_sr ?_   -- 4
      refine ol_q (wn_none rfl) (op_assign (v := .bool _) rfl) rfl ?_
      refine ol_nil_then ?_
      refine cd_ret ?_
      refine px_thenR ?_
      exact px_ret1 rfl (v := .bool _) rfl (fun _ s => (s.del 0)) ⟨congrArg Value.bool (by first | rfl | (rw [List.take_left]; simp; done) | simp), rfl⟩
    · have hp2 := hb2
      (try simp only [decide_eq_true_eq, decide_eq_false_iff_not, Bool.not_eq_true', Bool.not_eq_false', ne_eq, Decidable.not_not] at hp2)
      have hg9 : goodW k sl mb bd bits = true := by simpa using hb2
      have hg3 := goodW_k hg9
      refine cd_skip ?_
      refine px_then ?_
      refine cd_sr ?_   -- 5
      refine ol_q (wn_none rfl) (op_lda (L := msgC _) 0 ag_45 rfl rfl (msgC_ta _) (by simp [msgC_len])) rfl ?_
      refine ol_i (wn_none rfl) (os_call cb_29 rfl (fun w s => Encode_calls _ _ _ _ _ _ _ _ _  s (hr.cons _) (by omega) (by omega))) rfl ?_; rintro _ l ⟨rfl, rfl⟩; rw [if_pos hg9, hg9]
      refine ol_q (wn_none rfl) (op_move (v := .tuple _) rfl) rfl ?_
      refine ol_q (wn_none rfl) (op_extract (v := .string _) rfl rfl) rfl ?_
      refine ol_q (wn_none rfl) (op_extract (v := .bool _) rfl rfl) rfl ?_
      refine ol_q (wn_none rfl) (op_assign (v := .string _) rfl) rfl ?_
      refine ol_q (wn_none rfl) (op_assign (v := .bool _) rfl) rfl ?_
      refine ol_nil_then ?_
      refine cd_sr ?_   -- 6
      refine ol_q (wn_none rfl) (op_field fld_45_5 rfl) rfl ?_
      refine ol_q (wn_none rfl) (op_ld 0 sc_41 rfl rfl (show (msgC _).toArray[36]? = some (.slice bo bits.length bc) from msgC_a36 _)) rfl ?_
      refine ol_q (wn_none rfl) (op_len_slice Try.underlying41 rfl) rfl ?_
      refine ol_q (wn_none rfl) (op_quo rfl rfl (by omega) (by omega) (by omega)) rfl ?_
      refine ol_q (wn_none rfl) (op_add rfl rfl (by omega) (by omega)) rfl ?_
      refine ol_q (wn_none rfl) (op_add rfl rfl (by omega) (by omega)) rfl ?_
      refine ol_i (wn_none rfl) (os_bslice (E := encI64) [_, _, _, _] (ys := [0, 63, 55, 53 + (bits.length : Int) / 8 + 1]) sB_35 zv_3 rfl rfl rfl rfl (by decide)) rfl ?_; rintro _ _ ⟨ao1, rfl, rfl⟩
      refine ol_q (wn_none rfl) (op_field fld_45_0 rfl) rfl ?_
      refine ol_q (wn_none rfl) (op_ld 1 sc_3 rfl rfl (show (msgC _).toArray[0]? = some (.int .i64 k) from msgC_a0 _)) rfl ?_
      refine ol_q (wn_none rfl) (op_index (k.toNat) sB_35 rfl rfl (by omega) (rds_row 0 rfl rfl) rfl (show k.toNat < 4 by omega)) rfl ?_
      refine ol_q (wn_none rfl) (op_ldw sc_3 (rds_row 0 rfl rfl) rfl (show k.toNat < 4 by omega) rfl) rfl ?_
      refine ol_q (wn_none rfl) (op_assign (v := .int _ _) rfl) rfl ?_
      refine ol_nil_then ?_
      have hW := wlen (tg := tg) hg9 (show k.toNat < 4 by omega)
      rw [hW]
      refine cd_seq ?_   -- 7
      refine cd_drawe (M := []) mx [9, 21] ?_
      -- 0
      refine et_quiet 0 (by kernel_rfl) rfl (by kernel_rfl) (wn_none rfl) (op_move (v := .bool _) rfl) rfl ?_
      -- 1
      refine et_quiet 1 (by kernel_rfl) rfl (by kernel_rfl) (wn_none rfl) (op_move (v := .bool _) rfl) rfl ?_
      refine et_split 32 rfl (fun hb3 => ?_) (fun hb3 => ?_)
      · have hp3 := hb3
        (try simp only [decide_eq_true_eq, decide_eq_false_iff_not, Bool.not_eq_true', Bool.not_eq_false', ne_eq, Decidable.not_not] at hp3)
        -- 2
        refine et_quiet 2 (by kernel_rfl) rfl (by kernel_rfl) (wn_some rfl rfl rfl hb3 rfl) (op_move (v := .string _) rfl) rfl ?_
        -- 3
        refine et_quiet 3 (by kernel_rfl) rfl (by kernel_rfl) (wn_some rfl rfl rfl hb3 rfl) (op_len_string Try.underlying9 rfl) rfl ?_
        -- 4
        refine et_quiet 4 (by kernel_rfl) rfl (by kernel_rfl) (wn_some rfl rfl rfl hb3 rfl) (op_move (v := .int _ _) rfl) rfl ?_
        -- 5
        refine et_quiet 5 (by kernel_rfl) rfl (by kernel_rfl) (wn_some rfl rfl rfl hb3 rfl) (op_eq rfl rfl) rfl ?_
        -- 6
        refine et_quiet 6 (by kernel_rfl) rfl (by kernel_rfl) (wn_none rfl) (op_pick_t (v := .bool _) rfl hb3 rfl) rfl ?_
        -- 7
        refine et_quiet 7 (by kernel_rfl) rfl (by kernel_rfl) (wn_none rfl) (op_move (v := .bool _) rfl) rfl ?_
        refine et_split 38 rfl (fun hb4 => ?_) (fun hb4 => ?_)
        · have hp4 := hb4
          (try simp only [decide_eq_true_eq, decide_eq_false_iff_not, Bool.not_eq_true', Bool.not_eq_false', ne_eq, Decidable.not_not] at hp4)
          -- 8
          refine et_quiet 8 (by kernel_rfl) rfl (by kernel_rfl) (wn_some rfl rfl rfl hb4 rfl) (op_lda (L := msgC _) 1 ag_45 rfl rfl (msgC_ta _) (by simp [msgC_len])) rfl ?_
          -- 11
          refine et_quiet 11 (by kernel_rfl) rfl (by kernel_rfl) (wn_some rfl rfl rfl hb4 rfl) (op_move (v := .int _ _) rfl) rfl ?_
          -- 12
          refine et_quiet 12 (by kernel_rfl) rfl (by kernel_rfl) (wn_some rfl rfl rfl hb4 rfl) (op_sub rfl rfl (by omega) (by omega)) rfl ?_
          refine et_1 (i := 9) (by kernel_rfl) ?_
          refine ei_i rfl rfl (wn_some rfl rfl rfl hb4 rfl) (os_call cb_31 rfl (fun w s => Plain_calls _ _ _ _ _ _ _ _ _  s ((hr.cons _).cons _) (by omega) (by omega))) rfl ?_; rintro _ l ⟨rfl, rfl⟩; refine ⟨[], rfl, ?_⟩
          -- 10
          refine et_quiet 10 (by kernel_rfl) rfl (by kernel_rfl) (wn_some rfl rfl rfl hb4 rfl) (op_len_string Try.underlying9 rfl) rfl ?_
          -- 13
          refine et_quiet 13 (by kernel_rfl) rfl (by kernel_rfl) (wn_some rfl rfl rfl hb4 rfl) (op_eq rfl rfl) rfl ?_
          -- 14
          refine et_quiet 14 (by kernel_rfl) rfl (by kernel_rfl) (wn_none rfl) (op_pick_t (v := .bool _) rfl hb4 rfl) rfl ?_
          -- 15
          refine et_quiet 15 (by kernel_rfl) rfl (by kernel_rfl) (wn_none rfl) (op_move (v := .bool _) rfl) rfl ?_
          refine et_split 46 rfl (fun hb5 => ?_) (fun hb5 => ?_)
          · have hp5 := hb5
            (try simp only [decide_eq_true_eq, decide_eq_false_iff_not, Bool.not_eq_true', Bool.not_eq_false', ne_eq, Decidable.not_not] at hp5)
            -- 16
            refine et_quiet 16 (by kernel_rfl) rfl (by kernel_rfl) (wn_some rfl rfl rfl hb5 rfl) (op_move (v := .string _) rfl) rfl ?_
            -- 17
            refine et_quiet 17 (by kernel_rfl) rfl (by kernel_rfl) (wn_some rfl rfl rfl hb5 rfl) (op_move (v := .int _ _) rfl) rfl ?_
            -- 18
            refine et_quiet 18 (by kernel_rfl) rfl (by kernel_rfl) (wn_some rfl rfl rfl hb5 rfl) (op_sub rfl rfl (by omega) (by omega)) rfl ?_
            -- 19
            refine et_quiet 19 (by kernel_rfl) rfl (by kernel_rfl) (wn_some rfl rfl rfl hb5 rfl) (op_sslice_to _ Try.underlying9 rfl rfl (Int.toNat_of_nonneg (by omega)).symm (by omega)) rfl ?_
            -- 20
            refine et_quiet 20 (by kernel_rfl) rfl (by kernel_rfl) (wn_some rfl rfl rfl hb5 rfl) (op_lda (L := msgC _) 1 ag_45 rfl rfl (msgC_ta _) (by simp [msgC_len])) rfl ?_
            refine et_1 (i := 21) (by kernel_rfl) ?_
            refine ei_i rfl rfl (wn_some rfl rfl rfl hb5 rfl) (os_call cb_31 rfl (fun w s => Plain_calls _ _ _ _ _ _ _ _ _  s ((hr.cons _).cons _) (by omega) (by omega))) rfl ?_; rintro _ l ⟨rfl, rfl⟩; refine ⟨[], rfl, ?_⟩
            -- 22
            refine et_quiet 22 (by kernel_rfl) rfl (by kernel_rfl) (wn_some rfl rfl rfl hb5 rfl) (op_seql rfl rfl) rfl ?_
            -- 23
            refine et_quiet 23 (by kernel_rfl) rfl (by kernel_rfl) (wn_none rfl) (op_pick_t (v := .bool _) rfl hb5 rfl) rfl ?_
            -- 24
            refine et_quiet 24 (by kernel_rfl) rfl (by kernel_rfl) (wn_none rfl) (op_assign (v := .bool _) rfl) rfl ?_
            refine et_nil_then (by kernel_rfl) ?_
            refine cd_ret ?_
            exact px_ret1 rfl (v := .bool _) rfl (fun _ s => ((s.del 1).del 0)) ⟨congrArg Value.bool (by first | rfl | (rw [List.take_left]; simp; done) | simp), rfl⟩
          · have hp5 := hb5
            (try simp only [decide_eq_true_eq, decide_eq_false_iff_not, Bool.not_eq_true', Bool.not_eq_false', ne_eq, Decidable.not_not] at hp5)
            exact absurd hb5 (by simp)
        · have hp4 := hb4
          (try simp only [decide_eq_true_eq, decide_eq_false_iff_not, Bool.not_eq_true', Bool.not_eq_false', ne_eq, Decidable.not_not] at hp4)
          exact absurd hb4 (by simp [tag_len])
      · have hp3 := hb3
        (try simp only [decide_eq_true_eq, decide_eq_false_iff_not, Bool.not_eq_true', Bool.not_eq_false', ne_eq, Decidable.not_not] at hp3)
        exact absurd hb3 (by simp)

set_option maxRecDepth 100000 in
set_option maxHeartbeats 1000000 in
theorem WireTags_calls {w0 w : World} {l : List HProp} (k sl : Int) (tg : Root) (mb : Int) (bd : Nat) (bo : Option Addr) (bc : Nat) (bits : List Bool) (tag : Tag) (t : Tag) (hs : Sat w0 w (l)) (hr : Rds w0 l encBool bo bits) (hbd : bd < 18446744073709551616) :
    Calls Try.prog 12 #[.agg (msgC ⟨k, sl, tg, mb, bd, ⟨bo, bits.length, bc⟩, tag⟩).toArray, .agg (tagC t).toArray] w (Ret w0 fun v l' => v = .bool true ∧ l' = l) := by
  have hpl := plainW_len k sl tg mb bd bits
  have hbl := bodyW_le k mb bd bits
  have hal : (plainW k sl tg mb bd bits ++ tag.1).length = (plainW k sl tg mb bd bits).length + 16 := by rw [List.length_append, tag.2]
  have hat : (plainW k sl tg mb bd bits ++ t.1).length = (plainW k sl tg mb bd bits).length + 16 := by rw [List.length_append, t.2]
  refine calls_enter Try.func12 rfl rfl rfl hs ?_
  refine cd_sr ?_   -- 0
  refine ol_i (wn_none rfl) (os_boxa rfl) rfl ?_; rintro _ _ ⟨bx1, rfl, rfl⟩
  refine ol_i (wn_none rfl) (os_boxa rfl) rfl ?_; rintro _ _ ⟨bx2, rfl, rfl⟩
  refine ol_q (wn_none rfl) (op_assign (v := .bool _) rfl) rfl ?_
  refine ol_nil_then ?_
  refine cd_seq ?_
  refine cd_sr ?_   -- 1
  refine ol_i (wn_none rfl) (os_call cb_24 rfl (fun w s => wAlive_calls  s )) rfl ?_; rintro _ l ⟨rfl, rfl⟩
  refine ol_q (wn_none rfl) (op_not rfl) rfl ?_
  refine ol_nil_then ?_
  refine cd_cond_f rfl rfl ?_
  refine cd_skip ?_
  refine px_then ?_
  refine cd_seq ?_
  refine cd_sr ?_   -- 3
  refine ol_q (wn_none rfl) (op_lda (L := msgC _) 1 ag_45 rfl rfl (msgC_ta _) (by simp [msgC_len])) rfl ?_
  refine ol_i (wn_none rfl) (os_call cb_28 rfl (fun w s => wgreat_calls _ _ _ _ _ _ _ _ _  s )) rfl ?_; rintro _ l ⟨rfl, rfl⟩
  refine ol_q (wn_none rfl) (op_move (v := .bool _) rfl) rfl ?_
  refine ol_split 15 rfl (fun hb1 => ?_) (fun hb1 => ?_)
  · have hp1 := hb1
    (try simp only [decide_eq_true_eq, decide_eq_false_iff_not, Bool.not_eq_true', Bool.not_eq_false', ne_eq, Decidable.not_not] at hp1)
    refine ol_skip (wn_some rfl rfl rfl hb1 rfl) rfl ?_
    refine ol_skip (wn_some rfl rfl rfl hb1 rfl) rfl ?_
    refine ol_skip (wn_some rfl rfl rfl hb1 rfl) rfl ?_
    refine ol_q (wn_none rfl) (op_pick_t (v := .bool _) rfl hb1 rfl) rfl ?_
    refine ol_nil_then ?_
    refine cd_cond_t rfl rfl ?_
    refine cd_sr ?_   -- 4
    refine ol_q (wn_none rfl) (op_assign (v := .bool _) rfl) rfl ?_
    refine ol_nil_then ?_
    refine cd_ret ?_
    refine px_thenR ?_
    exact px_ret1 rfl (v := .bool _) rfl (fun _ s => ((s.del 1).del 0)) ⟨congrArg Value.bool (by first | rfl | simp), rfl⟩
  · have hp1 := hb1
    (try simp only [decide_eq_true_eq, decide_eq_false_iff_not, Bool.not_eq_true', Bool.not_eq_false', ne_eq, Decidable.not_not] at hp1)
    have hxl : bits.length ≤ 200 := by have h9 := hb1; simp at h9; omega
    refine ol_q (wn_some rfl rfl rfl hb1 rfl) (op_lda (L := msgC _) 1 ag_45 rfl rfl (msgC_ta _) (by simp [msgC_len])) rfl ?_
    refine ol_i (wn_some rfl rfl rfl hb1 rfl) (os_call cb_30 rfl (fun w s => WRGood_calls _ _ _ _ _ _ _ _ _  s ((hr.cons _).cons _) (by omega) (by omega))) rfl ?_; rintro _ l ⟨rfl, rfl⟩
    refine ol_q (wn_some rfl rfl rfl hb1 rfl) (op_not rfl) rfl ?_
    refine ol_q (wn_none rfl) (op_pick_f (v := .bool _) rfl hb1 rfl) rfl ?_
    refine ol_nil_then ?_
    refine cd_cond rfl (fun hb2 => ?_) (fun hb2 => ?_)
    · have hp2 := hb2
      (try simp only [decide_eq_true_eq, decide_eq_false_iff_not, Bool.not_eq_true', Bool.not_eq_false', ne_eq, Decidable.not_not] at hp2)
      refine cd_sr ?_   -- 4
      refine ol_q (wn_none rfl) (op_assign (v := .bool _) rfl) rfl ?_
      refine ol_nil_then ?_
      refine cd_ret ?_
      refine px_thenR ?_
      exact px_ret1 rfl (v := .bool _) rfl (fun _ s => ((s.del 1).del 0)) ⟨congrArg Value.bool (by first | rfl | simp), rfl⟩
    · have hp2 := hb2
      (try simp only [decide_eq_true_eq, decide_eq_false_iff_not, Bool.not_eq_true', Bool.not_eq_false', ne_eq, Decidable.not_not] at hp2)
      have hg9 : goodW k sl mb bd bits = true := by simpa using hb2
      have hg3 := goodW_k hg9
      refine cd_skip ?_
      refine px_then ?_
      refine cd_sr ?_   -- 5
      refine ol_q (wn_none rfl) (op_lda (L := msgC _) 1 ag_45 rfl rfl (msgC_ta _) (by simp [msgC_len])) rfl ?_
      refine ol_i (wn_none rfl) (os_alloc (cs := (msgC Msg.zero).toArray) zB_45 (by kernel_rfl)) rfl ?_; rintro _ _ ⟨bx3, rfl, rfl⟩
      refine ol_iN (wn_none rfl) (os_storew (msgC _) ag_45 rfl rfl (msgC_len _) (msgC_one _) (by simp [msgC_len]) (Free.zero _)) ?_; rintro _ _ ⟨rfl, rfl⟩
      refine ol_nil_then ?_
      refine cd_sr ?_   -- 6
      refine ol_q (wn_none rfl) (op_lda (L := tagC _) 1 ag_43 rfl rfl (tagC_take' _) (by simp [tagC_len])) rfl ?_
      refine ol_q (wn_none rfl) (op_field fld_45_6 rfl) rfl ?_
      refine ol_iN (wn_none rfl) (os_storea (L := tagC _) (L' := msgC _) ag_43 rfl rfl (tagC_len _) (tagC_one _) (by simp [msgC_len]) (Free.zero _) (msgC_p37 _ _)) ?_; rintro _ _ ⟨rfl, rfl⟩
      refine ol_nil_then ?_
      refine cd_sr ?_   -- 7
      refine ol_q (wn_none rfl) (op_lda (L := msgC _) 2 ag_45 rfl rfl (msgC_ta _) (by simp [msgC_len])) rfl ?_
      refine ol_i (wn_none rfl) (os_call cb_29 rfl (fun w s => Encode_calls _ _ _ _ _ _ _ _ _  s (((hr.cons _).cons _).cons _) (by omega) (by omega))) rfl ?_; rintro _ l ⟨rfl, rfl⟩; rw [if_pos hg9, hg9]
      refine ol_q (wn_none rfl) (op_move (v := .tuple _) rfl) rfl ?_
      refine ol_q (wn_none rfl) (op_extract (v := .string _) rfl rfl) rfl ?_
      refine ol_q (wn_none rfl) (op_extract (v := .bool _) rfl rfl) rfl ?_
      refine ol_q (wn_none rfl) (op_assign (v := .string _) rfl) rfl ?_
      refine ol_q (wn_none rfl) (op_assign (v := .bool _) rfl) rfl ?_
      refine ol_nil_then ?_
      refine cd_sr ?_   -- 8
      refine ol_q (wn_none rfl) (op_lda (L := msgC _) 0 ag_45 rfl rfl (msgC_ta _) (by simp [msgC_len])) rfl ?_
      refine ol_i (wn_none rfl) (os_call cb_29 rfl (fun w s => Encode_calls (bits := bits) (k := k) (sl := sl) (mb := mb) (bd := bd) (tg := tg) (tag := t) _ _  s (((hr.cons _).cons _).cons _) (by omega) (by omega))) rfl ?_; rintro _ l ⟨rfl, rfl⟩; (try dsimp only); rw [if_pos hg9, hg9]
      refine ol_q (wn_none rfl) (op_move (v := .tuple _) rfl) rfl ?_
      refine ol_q (wn_none rfl) (op_extract (v := .string _) rfl rfl) rfl ?_
      refine ol_q (wn_none rfl) (op_extract (v := .bool _) rfl rfl) rfl ?_
      refine ol_q (wn_none rfl) (op_assign (v := .string _) rfl) rfl ?_
      refine ol_q (wn_none rfl) (op_assign (v := .bool _) rfl) rfl ?_
      refine ol_nil_then ?_
      refine cd_seq ?_
      refine cd_sr ?_   -- 9
      refine ol_q (wn_none rfl) (op_move (v := .bool _) rfl) rfl ?_
      refine ol_q (wn_none rfl) (op_not rfl) rfl ?_
      refine ol_q (wn_none rfl) (op_move (v := .bool _) rfl) rfl ?_
      refine ol_split 35 rfl (fun hb3 => ?_) (fun hb3 => ?_)
      · have hp3 := hb3
        (try simp only [decide_eq_true_eq, decide_eq_false_iff_not, Bool.not_eq_true', Bool.not_eq_false', ne_eq, Decidable.not_not] at hp3)
        exact absurd hb3 (by simp)
      · have hp3 := hb3
        (try simp only [decide_eq_true_eq, decide_eq_false_iff_not, Bool.not_eq_true', Bool.not_eq_false', ne_eq, Decidable.not_not] at hp3)
        refine ol_q (wn_some rfl rfl rfl hb3 rfl) (op_move (v := .string _) rfl) rfl ?_
        refine ol_q (wn_some rfl rfl rfl hb3 rfl) (op_len_string Try.underlying9 rfl) rfl ?_
        refine ol_q (wn_some rfl rfl rfl hb3 rfl) (op_move (v := .string _) rfl) rfl ?_
        refine ol_q (wn_some rfl rfl rfl hb3 rfl) (op_len_string Try.underlying9 rfl) rfl ?_
        refine ol_q (wn_some rfl rfl rfl hb3 rfl) (op_ne rfl rfl) rfl ?_
        refine ol_q (wn_none rfl) (op_pick_f (v := .bool _) rfl hb3 rfl) rfl ?_
        refine ol_q (wn_none rfl) (op_move (v := .bool _) rfl) rfl ?_
        refine ol_split 42 rfl (fun hb4 => ?_) (fun hb4 => ?_)
        · have hp4 := hb4
          (try simp only [decide_eq_true_eq, decide_eq_false_iff_not, Bool.not_eq_true', Bool.not_eq_false', ne_eq, Decidable.not_not] at hp4)
          exact absurd hb4 (by simp [tag_len])
        · have hp4 := hb4
          (try simp only [decide_eq_true_eq, decide_eq_false_iff_not, Bool.not_eq_true', Bool.not_eq_false', ne_eq, Decidable.not_not] at hp4)
          refine ol_q (wn_some rfl rfl rfl hb4 rfl) (op_move (v := .string _) rfl) rfl ?_
          refine ol_q (wn_some rfl rfl rfl hb4 rfl) (op_len_string Try.underlying9 rfl) rfl ?_
          refine ol_q (wn_some rfl rfl rfl hb4 rfl) (op_lt rfl rfl) rfl ?_
          refine ol_q (wn_none rfl) (op_pick_f (v := .bool _) rfl hb4 rfl) rfl ?_
          refine ol_nil_then ?_
          refine cd_cond rfl (fun hb5 => ?_) (fun hb5 => ?_)
          · have hp5 := hb5
            (try simp only [decide_eq_true_eq, decide_eq_false_iff_not, Bool.not_eq_true', Bool.not_eq_false', ne_eq, Decidable.not_not] at hp5)
            exact absurd hb5 (by simp; omega)
          · have hp5 := hb5
            (try simp only [decide_eq_true_eq, decide_eq_false_iff_not, Bool.not_eq_true', Bool.not_eq_false', ne_eq, Decidable.not_not] at hp5)
            refine cd_skip ?_
            refine px_then ?_
            refine cd_sr ?_   -- 11
            refine ol_q (wn_none rfl) (op_move (v := .string _) rfl) rfl ?_
            refine ol_q (wn_none rfl) (op_len_string Try.underlying9 rfl) rfl ?_
            refine ol_q (wn_none rfl) (op_sub rfl rfl (by omega) (by omega)) rfl ?_
            refine ol_q (wn_none rfl) (op_assign (v := .int _ _) rfl) rfl ?_
            refine ol_nil_then ?_
            rw [show (((plainW k sl tg mb bd bits ++ tag.1).length : Nat) : Int) - 16 = (((plainW k sl tg mb bd bits).length : Nat) : Int) by omega]
            refine cd_seq ?_   -- 12
            refine cd_draw (M := []) mx [] (by kernel_rfl) ?_
            refine rg_q (wn_none rfl) (op_move (v := .string _) rfl) rfl rfl ?_
            refine rg_q (wn_none rfl) (op_move (v := .int _ _) rfl) rfl rfl ?_
            refine rg_q (wn_none rfl) (op_sslice_to _ Try.underlying9 rfl rfl rfl (by omega)) rfl rfl ?_
            refine rg_q (wn_none rfl) (op_move (v := .string _) rfl) rfl rfl ?_
            refine rg_q (wn_none rfl) (op_move (v := .int _ _) rfl) rfl rfl ?_
            refine rg_q (wn_none rfl) (op_sslice_to _ Try.underlying9 rfl rfl rfl (by omega)) rfl rfl ?_
            refine rg_q (wn_none rfl) (op_seql rfl rfl) rfl rfl ?_
            refine rg_q (wn_none rfl) (op_move (v := .bool _) rfl) rfl rfl ?_
            refine rg_split 57 rfl (fun hb6 => ?_) (fun hb6 => ?_)
            · have hp6 := hb6
              (try simp only [decide_eq_true_eq, decide_eq_false_iff_not, Bool.not_eq_true', Bool.not_eq_false', ne_eq, Decidable.not_not] at hp6)
              refine rg_q (wn_some rfl rfl rfl hb6 rfl) (op_move (v := .string _) rfl) rfl rfl ?_
              refine rg_q (wn_some rfl rfl rfl hb6 rfl) (op_move (v := .int _ _) rfl) rfl rfl ?_
              refine rg_q (wn_some rfl rfl rfl hb6 rfl) (op_sslice_from _ Try.underlying9 rfl rfl rfl (by omega)) rfl rfl ?_
              refine rg_q (wn_some rfl rfl rfl hb6 rfl) (op_field fld_45_6 rfl) rfl rfl ?_
              refine rg_q (wn_some rfl rfl rfl hb6 rfl) (op_slicea_all a1_43 rfl) rfl rfl ?_
              refine rg_q (wn_some rfl rfl rfl hb6 rfl) (op_b2s sB_55 Try.underlying5 Try.underlying9 rfl (rds_fld 2 37 16 rfl (msgC_af37 _)) (tag_len _)) rfl rfl ?_
              refine rg_q (wn_some rfl rfl rfl hb6 rfl) (op_seql rfl rfl) rfl rfl ?_
              refine rg_q (wn_none rfl) (op_pick_t (v := .bool _) rfl hb6 rfl) rfl rfl ?_
              refine rg_q (wn_none rfl) (op_move (v := .bool _) rfl) rfl rfl ?_
              refine rg_split 66 rfl (fun hb7 => ?_) (fun hb7 => ?_)
              · have hp7 := hb7
                (try simp only [decide_eq_true_eq, decide_eq_false_iff_not, Bool.not_eq_true', Bool.not_eq_false', ne_eq, Decidable.not_not] at hp7)
                refine rg_q (wn_some rfl rfl rfl hb7 rfl) (op_move (v := .string _) rfl) rfl rfl ?_
                refine rg_q (wn_some rfl rfl rfl hb7 rfl) (op_move (v := .int _ _) rfl) rfl rfl ?_
                refine rg_q (wn_some rfl rfl rfl hb7 rfl) (op_sslice_from _ Try.underlying9 rfl rfl rfl (by omega)) rfl rfl ?_
                refine rg_q (wn_some rfl rfl rfl hb7 rfl) (op_slicea_all a1_43 rfl) rfl rfl ?_
                refine rg_q (wn_some rfl rfl rfl hb7 rfl) (op_b2s sB_55 Try.underlying5 Try.underlying9 rfl (rds_tag 1 rfl) (tag_len _)) rfl rfl ?_
                refine rg_q (wn_some rfl rfl rfl hb7 rfl) (op_seql rfl rfl) rfl rfl ?_
                refine rg_q (wn_none rfl) (op_pick_t (v := .bool _) rfl hb7 rfl) rfl rfl ?_
                refine rg_q (wn_none rfl) (op_assign (v := .bool _) rfl) rfl rfl ?_
                refine rg_nil_then0 ?_
                refine cd_ret ?_
                exact px_ret1 rfl (v := .bool _) rfl (fun _ s => (((s.del 2).del 1).del 0)) ⟨congrArg Value.bool (by first | rfl | simp), rfl⟩
              · have hp7 := hb7
                (try simp only [decide_eq_true_eq, decide_eq_false_iff_not, Bool.not_eq_true', Bool.not_eq_false', ne_eq, Decidable.not_not] at hp7)
                exact absurd hb7 (by simp)
            · have hp6 := hb6
              (try simp only [decide_eq_true_eq, decide_eq_false_iff_not, Bool.not_eq_true', Bool.not_eq_false', ne_eq, Decidable.not_not] at hp6)
              exact absurd hb6 (by simp)

set_option maxRecDepth 100000 in
set_option maxHeartbeats 1000000 in
theorem WireUnlike_calls {w0 w : World} {l : List HProp} (k sl : Int) (tg : Root) (mb : Int) (bd : Nat) (bo : Option Addr) (bc : Nat) (bits : List Bool) (tag : Tag) (k2 sl2 : Int) (tg2 : Root) (mb2 : Int) (bd2 : Nat) (bo2 : Option Addr) (bc2 : Nat) (ys : List Bool) (tag2 : Tag) (hs : Sat w0 w (l)) (hr : Rds w0 l encBool bo bits) (hbd : bd < 18446744073709551616) (hr2 : Rds w0 l encBool bo2 ys) (hbd2 : bd2 < 18446744073709551616) :
    Calls Try.prog 10 #[.agg (msgC ⟨k, sl, tg, mb, bd, ⟨bo, bits.length, bc⟩, tag⟩).toArray, .agg (msgC ⟨k2, sl2, tg2, mb2, bd2, ⟨bo2, ys.length, bc2⟩, tag2⟩).toArray] w (Ret w0 fun v l' => v = .bool true ∧ l' = l) := by
  refine calls_enter Try.func10 rfl rfl rfl hs ?_
  refine cd_sr ?_   -- 0
  refine ol_i (wn_none rfl) (os_boxa rfl) rfl ?_; rintro _ _ ⟨bx1, rfl, rfl⟩
  refine ol_i (wn_none rfl) (os_boxa rfl) rfl ?_; rintro _ _ ⟨bx2, rfl, rfl⟩
  refine ol_q (wn_none rfl) (op_assign (v := .bool _) rfl) rfl ?_
  refine ol_nil_then ?_
  refine cd_seq ?_
  refine cd_sr ?_   -- 1
  refine ol_i (wn_none rfl) (os_call cb_24 rfl (fun w s => wAlive_calls  s )) rfl ?_; rintro _ l ⟨rfl, rfl⟩
  refine ol_q (wn_none rfl) (op_not rfl) rfl ?_
  refine ol_nil_then ?_
  refine cd_cond_f rfl rfl ?_
  refine cd_skip ?_
  refine px_then ?_
  refine cd_seq ?_
  refine cd_sr ?_   -- 3
  refine ol_q (wn_none rfl) (op_lda (L := msgC _) 1 ag_45 rfl rfl (msgC_ta _) (by simp [msgC_len])) rfl ?_
  refine ol_i (wn_none rfl) (os_call cb_28 rfl (fun w s => wgreat_calls _ _ _ _ _ _ _ _ _  s )) rfl ?_; rintro _ l ⟨rfl, rfl⟩
  refine ol_q (wn_none rfl) (op_move (v := .bool _) rfl) rfl ?_
  refine ol_split 14 rfl (fun hb1 => ?_) (fun hb1 => ?_)
  · have hp1 := hb1
    (try simp only [decide_eq_true_eq, decide_eq_false_iff_not, Bool.not_eq_true', Bool.not_eq_false', ne_eq, Decidable.not_not] at hp1)
    refine ol_skip (wn_some rfl rfl rfl hb1 rfl) rfl ?_
    refine ol_skip (wn_some rfl rfl rfl hb1 rfl) rfl ?_
    refine ol_q (wn_none rfl) (op_pick_t (v := .bool _) rfl hb1 rfl) rfl ?_
    refine ol_q (wn_none rfl) (op_move (v := .bool _) rfl) rfl ?_
    refine ol_skip (wn_some rfl rfl rfl rfl rfl) rfl ?_
    refine ol_skip (wn_some rfl rfl rfl rfl rfl) rfl ?_
    refine ol_skip (wn_some rfl rfl rfl rfl rfl) rfl ?_
    refine ol_q (wn_none rfl) (op_pick_t (v := .bool _) rfl rfl rfl) rfl ?_
    refine ol_q (wn_none rfl) (op_move (v := .bool _) rfl) rfl ?_
    refine ol_skip (wn_some rfl rfl rfl rfl rfl) rfl ?_
    refine ol_skip (wn_some rfl rfl rfl rfl rfl) rfl ?_
    refine ol_skip (wn_some rfl rfl rfl rfl rfl) rfl ?_
    refine ol_q (wn_none rfl) (op_pick_t (v := .bool _) rfl rfl rfl) rfl ?_
    refine ol_nil_then ?_
    refine cd_cond_t rfl rfl ?_
    refine cd_sr ?_   -- 4
    refine ol_q (wn_none rfl) (op_assign (v := .bool _) rfl) rfl ?_
    refine ol_nil_then ?_
    refine cd_ret ?_
    refine px_thenR ?_
    exact px_ret1 rfl (v := .bool _) rfl (fun _ s => ((s.del 1).del 0)) ⟨congrArg Value.bool (by first | rfl | (rw [same_plain (t := tag) hg9 hh9 hbd hbd2]; simp)), rfl⟩
  · have hp1 := hb1
    (try simp only [decide_eq_true_eq, decide_eq_false_iff_not, Bool.not_eq_true', Bool.not_eq_false', ne_eq, Decidable.not_not] at hp1)
    have hxl : bits.length ≤ 200 := by have h9 := hb1; simp at h9; omega
    refine ol_q (wn_some rfl rfl rfl hb1 rfl) (op_lda (L := msgC _) 0 ag_45 rfl rfl (msgC_ta _) (by simp [msgC_len])) rfl ?_
    refine ol_i (wn_some rfl rfl rfl hb1 rfl) (os_call cb_28 rfl (fun w s => wgreat_calls _ _ _ _ _ _ _ _ _  s )) rfl ?_; rintro _ l ⟨rfl, rfl⟩
    refine ol_q (wn_none rfl) (op_pick_f (v := .bool _) rfl hb1 rfl) rfl ?_
    refine ol_q (wn_none rfl) (op_move (v := .bool _) rfl) rfl ?_
    refine ol_split 18 rfl (fun hb2 => ?_) (fun hb2 => ?_)
    · have hp2 := hb2
      (try simp only [decide_eq_true_eq, decide_eq_false_iff_not, Bool.not_eq_true', Bool.not_eq_false', ne_eq, Decidable.not_not] at hp2)
      refine ol_skip (wn_some rfl rfl rfl hb2 rfl) rfl ?_
      refine ol_skip (wn_some rfl rfl rfl hb2 rfl) rfl ?_
      refine ol_skip (wn_some rfl rfl rfl hb2 rfl) rfl ?_
      refine ol_q (wn_none rfl) (op_pick_t (v := .bool _) rfl hb2 rfl) rfl ?_
      refine ol_q (wn_none rfl) (op_move (v := .bool _) rfl) rfl ?_
      refine ol_skip (wn_some rfl rfl rfl rfl rfl) rfl ?_
      refine ol_skip (wn_some rfl rfl rfl rfl rfl) rfl ?_
      refine ol_skip (wn_some rfl rfl rfl rfl rfl) rfl ?_
      refine ol_q (wn_none rfl) (op_pick_t (v := .bool _) rfl rfl rfl) rfl ?_
      refine ol_nil_then ?_
      refine cd_cond_t rfl rfl ?_
      refine cd_sr ?_   -- 4
      refine ol_q (wn_none rfl) (op_assign (v := .bool _) rfl) rfl ?_
      refine ol_nil_then ?_
      refine cd_ret ?_
      refine px_thenR ?_
      exact px_ret1 rfl (v := .bool _) rfl (fun _ s => ((s.del 1).del 0)) ⟨congrArg Value.bool (by first | rfl | (rw [same_plain (t := tag) hg9 hh9 hbd hbd2]; simp)), rfl⟩
    · have hp2 := hb2
      (try simp only [decide_eq_true_eq, decide_eq_false_iff_not, Bool.not_eq_true', Bool.not_eq_false', ne_eq, Decidable.not_not] at hp2)
      have hyl : ys.length ≤ 200 := by have h9 := hb2; simp at h9; omega
      refine ol_q (wn_some rfl rfl rfl hb2 rfl) (op_lda (L := msgC _) 1 ag_45 rfl rfl (msgC_ta _) (by simp [msgC_len])) rfl ?_
      refine ol_i (wn_some rfl rfl rfl hb2 rfl) (os_call cb_30 rfl (fun w s => WRGood_calls _ _ _ _ _ _ _ _ _  s ((hr.cons _).cons _) (by omega) (by omega))) rfl ?_; rintro _ l ⟨rfl, rfl⟩
      refine ol_q (wn_some rfl rfl rfl hb2 rfl) (op_not rfl) rfl ?_
      refine ol_q (wn_none rfl) (op_pick_f (v := .bool _) rfl hb2 rfl) rfl ?_
      refine ol_q (wn_none rfl) (op_move (v := .bool _) rfl) rfl ?_
      refine ol_split 23 rfl (fun hb3 => ?_) (fun hb3 => ?_)
      · have hp3 := hb3
        (try simp only [decide_eq_true_eq, decide_eq_false_iff_not, Bool.not_eq_true', Bool.not_eq_false', ne_eq, Decidable.not_not] at hp3)
        refine ol_skip (wn_some rfl rfl rfl hb3 rfl) rfl ?_
        refine ol_skip (wn_some rfl rfl rfl hb3 rfl) rfl ?_
        refine ol_skip (wn_some rfl rfl rfl hb3 rfl) rfl ?_
        refine ol_q (wn_none rfl) (op_pick_t (v := .bool _) rfl hb3 rfl) rfl ?_
        refine ol_nil_then ?_
        refine cd_cond_t rfl rfl ?_
        refine cd_sr ?_   -- 4
        refine ol_q (wn_none rfl) (op_assign (v := .bool _) rfl) rfl ?_
        refine ol_nil_then ?_
        refine cd_ret ?_
        refine px_thenR ?_
        exact px_ret1 rfl (v := .bool _) rfl (fun _ s => ((s.del 1).del 0)) ⟨congrArg Value.bool (by first | rfl | (rw [same_plain (t := tag) hg9 hh9 hbd hbd2]; simp)), rfl⟩
      · have hp3 := hb3
        (try simp only [decide_eq_true_eq, decide_eq_false_iff_not, Bool.not_eq_true', Bool.not_eq_false', ne_eq, Decidable.not_not] at hp3)
        have hg9 : goodW k sl mb bd bits = true := by simpa using hb3
        refine ol_q (wn_some rfl rfl rfl hb3 rfl) (op_lda (L := msgC _) 0 ag_45 rfl rfl (msgC_ta _) (by simp [msgC_len])) rfl ?_
        refine ol_i (wn_some rfl rfl rfl hb3 rfl) (os_call cb_30 rfl (fun w s => WRGood_calls _ _ _ _ _ _ _ _ _  s ((hr2.cons _).cons _) (by omega) hbd2)) rfl ?_; rintro _ l ⟨rfl, rfl⟩
        refine ol_q (wn_some rfl rfl rfl hb3 rfl) (op_not rfl) rfl ?_
        refine ol_q (wn_none rfl) (op_pick_f (v := .bool _) rfl hb3 rfl) rfl ?_
        refine ol_nil_then ?_
        refine cd_cond rfl (fun hb4 => ?_) (fun hb4 => ?_)
        · have hp4 := hb4
          (try simp only [decide_eq_true_eq, decide_eq_false_iff_not, Bool.not_eq_true', Bool.not_eq_false', ne_eq, Decidable.not_not] at hp4)
          refine cd_sr ?_   -- 4
          refine ol_q (wn_none rfl) (op_assign (v := .bool _) rfl) rfl ?_
          refine ol_nil_then ?_
          refine cd_ret ?_
          refine px_thenR ?_
          exact px_ret1 rfl (v := .bool _) rfl (fun _ s => ((s.del 1).del 0)) ⟨congrArg Value.bool (by first | rfl | (rw [same_plain (t := tag) hg9 hh9 hbd hbd2]; simp)), rfl⟩
        · have hp4 := hb4
          (try simp only [decide_eq_true_eq, decide_eq_false_iff_not, Bool.not_eq_true', Bool.not_eq_false', ne_eq, Decidable.not_not] at hp4)
          have hh9 : goodW k2 sl2 mb2 bd2 ys = true := by simpa using hb4
          refine cd_skip ?_
          refine px_then ?_
          refine cd_sr ?_   -- 5
          refine ol_q (wn_none rfl) (op_lda (L := msgC _) 1 ag_45 rfl rfl (msgC_ta _) (by simp [msgC_len])) rfl ?_
          refine ol_i (wn_none rfl) (os_call cb_29 rfl (fun w s => Encode_calls _ _ _ _ _ _ _ _ _  s ((hr.cons _).cons _) (by omega) (by omega))) rfl ?_; rintro _ l ⟨rfl, rfl⟩; rw [if_pos hg9, hg9]
          refine ol_q (wn_none rfl) (op_move (v := .tuple _) rfl) rfl ?_
          refine ol_q (wn_none rfl) (op_extract (v := .string _) rfl rfl) rfl ?_
          refine ol_q (wn_none rfl) (op_extract (v := .bool _) rfl rfl) rfl ?_
          refine ol_q (wn_none rfl) (op_assign (v := .string _) rfl) rfl ?_
          refine ol_q (wn_none rfl) (op_assign (v := .bool _) rfl) rfl ?_
          refine ol_nil_then ?_
          refine cd_sr ?_   -- 6
          refine ol_q (wn_none rfl) (op_lda (L := msgC _) 0 ag_45 rfl rfl (msgC_ta _) (by simp [msgC_len])) rfl ?_
          refine ol_i (wn_none rfl) (os_call cb_29 rfl (fun w s => Encode_calls _ _ _ _ _ _ _ _ _  s ((hr2.cons _).cons _) (by omega) hbd2)) rfl ?_; rintro _ l ⟨rfl, rfl⟩; rw [if_pos hh9, hh9]
          refine ol_q (wn_none rfl) (op_move (v := .tuple _) rfl) rfl ?_
          refine ol_q (wn_none rfl) (op_extract (v := .string _) rfl rfl) rfl ?_
          refine ol_q (wn_none rfl) (op_extract (v := .bool _) rfl rfl) rfl ?_
          refine ol_q (wn_none rfl) (op_assign (v := .string _) rfl) rfl ?_
          refine ol_q (wn_none rfl) (op_assign (v := .bool _) rfl) rfl ?_
          refine ol_nil_then ?_
          refine cd_sr ?_   -- 7
          refine ol_q (wn_none rfl) (op_lda (L := msgC _) 0 ag_45 rfl rfl (msgC_ta _) (by simp [msgC_len])) rfl ?_
          refine ol_i (wn_none rfl) (os_alloc (cs := (msgC Msg.zero).toArray) zB_45 (by kernel_rfl)) rfl ?_; rintro _ _ ⟨bx3, rfl, rfl⟩
          refine ol_iN (wn_none rfl) (os_storew (msgC _) ag_45 rfl rfl (msgC_len _) (msgC_one _) (by simp [msgC_len]) (Free.zero _)) ?_; rintro _ _ ⟨rfl, rfl⟩
          refine ol_nil_then ?_
          refine cd_sr ?_   -- 8
          refine ol_q (wn_none rfl) (op_field fld_45_6 rfl) rfl ?_
          refine ol_q (wn_none rfl) (op_lda (L := tagC _) 2 ag_43 rfl rfl (msgC_af37 _) (by simp [msgC_len])) rfl ?_
          refine ol_q (wn_none rfl) (op_field fld_45_6 rfl) rfl ?_
          refine ol_iN (wn_none rfl) (os_storea (L := tagC _) (L' := msgC _) ag_43 rfl rfl (tagC_len _) (tagC_one _) (by simp [msgC_len]) (Free.zero _) (msgC_p37 _ _)) ?_; rintro _ _ ⟨rfl, rfl⟩
          refine ol_nil_then ?_
          refine cd_seq ?_   -- 9
          refine cd_drawe (M := []) mx [5, 9, 11, 15] ?_
          -- 0
          refine et_quiet 0 (by kernel_rfl) rfl (by kernel_rfl) (wn_none rfl) (op_move (v := .string _) rfl) rfl ?_
          -- 1
          refine et_quiet 1 (by kernel_rfl) rfl (by kernel_rfl) (wn_none rfl) (op_move (v := .string _) rfl) rfl ?_
          -- 2
          refine et_quiet 2 (by kernel_rfl) rfl (by kernel_rfl) (wn_none rfl) (op_seql rfl rfl) rfl ?_
          -- 3
          refine et_quiet 3 (by kernel_rfl) rfl (by kernel_rfl) (wn_none rfl) (op_lda (L := msgC _) 2 ag_45 rfl rfl (msgC_ta _) (by simp [msgC_len])) rfl ?_
          -- 4
          refine et_quiet 4 (by kernel_rfl) rfl (by kernel_rfl) (wn_none rfl) (op_lda (L := msgC _) 1 ag_45 rfl rfl (msgC_ta _) (by simp [msgC_len])) rfl ?_
          refine et_1 (i := 5) (by kernel_rfl) ?_
          refine ei_i rfl rfl (wn_none rfl) (os_call cb_27 rfl (fun w s => WSame_calls _ _ _ _ _ _ _ _ _ _ _ _ _ _ _ _ _ _  s (((hr.cons _).cons _).cons _) (((hr2.cons _).cons _).cons _) (by omega))) rfl ?_; rintro _ l ⟨rfl, rfl⟩; refine ⟨[], rfl, ?_⟩
          -- 6
          refine et_quiet 6 (by kernel_rfl) rfl (by kernel_rfl) (wn_none rfl) (op_beql Try.underlying4 rfl rfl) rfl ?_
          -- 7
          refine et_quiet 7 (by kernel_rfl) rfl (by kernel_rfl) (wn_none rfl) (op_move (v := .bool _) rfl) rfl ?_
          refine et_split 49 rfl (fun hb5 => ?_) (fun hb5 => ?_)
          · have hp5 := hb5
            (try simp only [decide_eq_true_eq, decide_eq_false_iff_not, Bool.not_eq_true', Bool.not_eq_false', ne_eq, Decidable.not_not] at hp5)
            -- 8
            refine et_quiet 8 (by kernel_rfl) rfl (by kernel_rfl) (wn_some rfl rfl rfl hb5 rfl) (op_lda (L := msgC _) 2 ag_45 rfl rfl (msgC_ta _) (by simp [msgC_len])) rfl ?_
            -- 10
            refine et_quiet 10 (by kernel_rfl) rfl (by kernel_rfl) (wn_some rfl rfl rfl hb5 rfl) (op_lda (L := msgC _) 1 ag_45 rfl rfl (msgC_ta _) (by simp [msgC_len])) rfl ?_
            -- 13
            refine et_quiet 13 (by kernel_rfl) rfl (by kernel_rfl) (wn_some rfl rfl rfl hb5 rfl) (op_lda (L := msgC _) 2 ag_45 rfl rfl (msgC_ta _) (by simp [msgC_len])) rfl ?_
            -- 14
            refine et_quiet 14 (by kernel_rfl) rfl (by kernel_rfl) (wn_some rfl rfl rfl hb5 rfl) (op_lda (L := msgC _) 0 ag_45 rfl rfl (msgC_ta _) (by simp [msgC_len])) rfl ?_
            refine et_1 (i := 9) (by kernel_rfl) ?_
            refine ei_i rfl rfl (wn_some rfl rfl rfl hb5 rfl) (os_call cb_31 rfl (fun w s => Plain_calls _ _ _ _ _ _ _ _ _  s (((hr.cons _).cons _).cons _) (by omega) (by omega))) rfl ?_; rintro _ l ⟨rfl, rfl⟩; refine ⟨[], rfl, ?_⟩
            refine et_1 (i := 11) (by kernel_rfl) ?_
            refine ei_i rfl rfl (wn_some rfl rfl rfl hb5 rfl) (os_call cb_31 rfl (fun w s => Plain_calls _ _ _ _ _ _ _ _ _  s (((hr2.cons _).cons _).cons _) (by omega) hbd2)) rfl ?_; rintro _ l ⟨rfl, rfl⟩; refine ⟨[], rfl, ?_⟩
            -- 12
            refine et_quiet 12 (by kernel_rfl) rfl (by kernel_rfl) (wn_some rfl rfl rfl hb5 rfl) (op_seql rfl rfl) rfl ?_
            refine et_1 (i := 15) (by kernel_rfl) ?_
            refine ei_i rfl rfl (wn_some rfl rfl rfl hb5 rfl) (os_call cb_27 rfl (fun w s => WSame_calls (k2 := k2) (sl2 := sl2) (tg2 := tg2) (mb2 := mb2) (bd2 := bd2) (ys := ys) (tag2 := tag) _ _ _ _ _ _ _ _ _ _ _  s (((hr.cons _).cons _).cons _) (((hr2.cons _).cons _).cons _) (by omega))) rfl ?_; rintro _ l ⟨rfl, rfl⟩; refine ⟨[], rfl, ?_⟩
            -- 16
            refine et_quiet 16 (by kernel_rfl) rfl (by kernel_rfl) (wn_some rfl rfl rfl hb5 rfl) (op_beql Try.underlying4 rfl rfl) rfl ?_
            -- 17
            refine et_quiet 17 (by kernel_rfl) rfl (by kernel_rfl) (wn_none rfl) (op_pick_t (v := .bool _) rfl hb5 rfl) rfl ?_
            -- 18
            refine et_quiet 18 (by kernel_rfl) rfl (by kernel_rfl) (wn_none rfl) (op_assign (v := .bool _) rfl) rfl ?_
            refine et_nil_then (by kernel_rfl) ?_
            refine cd_ret ?_
            exact px_ret1 rfl (v := .bool _) rfl (fun _ s => (((s.del 2).del 1).del 0)) ⟨congrArg Value.bool (by first | rfl | (rw [same_plain (t := tag) hg9 hh9 hbd hbd2]; simp)), rfl⟩
          · have hp5 := hb5
            (try simp only [decide_eq_true_eq, decide_eq_false_iff_not, Bool.not_eq_true', Bool.not_eq_false', ne_eq, Decidable.not_not] at hp5)
            exact absurd hb5 (by rw [same_enc hg9 hh9 hbd hbd2]; simp)
end Go.SL

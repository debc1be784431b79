import Derived.Test.YtgdlddjalilmhaaWire6
set_option linter.unusedVariables false
set_option linter.unusedSimpArgs false
namespace Go.SL
open Go.Proofs

set_option maxRecDepth 100000 in
set_option maxHeartbeats 1000000 in
theorem WireReads_calls {w0 w : World} {l : List HProp} (src : List UInt8) (hs : Sat w0 w (l))  :
    Calls Try.prog 8 #[.string (B src)] w (Ret w0 fun v l' => v = .bool true ∧ l' = l) := by
  refine calls_enter Try.func8 rfl rfl rfl hs ?_
  refine cd_sr ?_   -- 0
  refine ol_q (wn_none rfl) (op_assign (v := .bool _) rfl) rfl ?_
  refine ol_nil_then ?_
  refine cd_seq ?_
  refine cd_sr ?_   -- 1
  refine ol_i (wn_none rfl) (os_call cb_24 rfl (fun w s => wAlive_calls  s )) rfl ?_; rintro _ l ⟨rfl, rfl⟩
  refine ol_q (wn_none rfl) (op_not rfl) rfl ?_
  refine ol_nil_then ?_
  refine cd_cond_f rfl rfl ?_
  refine cd_skip ?_
  refine px_then ?_
  refine cd_seq ?_
  refine cd_sr ?_   -- 3
  refine ol_q (wn_none rfl) (op_move (v := .string _) rfl) rfl ?_
  refine ol_q (wn_none rfl) (op_len_string Try.underlying9 rfl) rfl ?_
  refine ol_q (wn_none rfl) (op_gt rfl rfl) rfl ?_
  refine ol_nil_then ?_
  refine cd_cond rfl (fun hb1 => ?_) (fun hb1 => ?_)
  · have hp1 := hb1
    (try simp only [decide_eq_true_eq, decide_eq_false_iff_not, Bool.not_eq_true', Bool.not_eq_false', ne_eq, Decidable.not_not] at hp1)
    refine cd_sr ?_   -- 4
    refine ol_q (wn_none rfl) (op_assign (v := .bool _) rfl) rfl ?_
    refine ol_nil_then ?_
    refine cd_ret ?_
    refine px_thenR ?_
    exact px_ret1 rfl (v := .bool _) rfl (fun _ s => s) ⟨congrArg Value.bool (rfl), rfl⟩
  · have hp1 := hb1
    (try simp only [decide_eq_true_eq, decide_eq_false_iff_not, Bool.not_eq_true', Bool.not_eq_false', ne_eq, Decidable.not_not] at hp1)
    refine cd_skip ?_
    refine px_then ?_
    refine cd_sr ?_   -- 5
    refine ol_q (wn_none rfl) (op_move (v := .string _) rfl) rfl ?_
    refine ol_i (wn_none rfl) (os_call cb_25 rfl (fun w s => Decode_calls _  s (by first | omega | (simp; done) | (simp; omega)))) rfl ?_; rintro _ _ ⟨da2, dc2, rfl, rfl⟩; rw [decP_eq]
    refine ol_q (wn_none rfl) (op_move (v := .tuple _) rfl) rfl ?_
    refine ol_q (wn_none rfl) (op_extract (v := .agg _) rfl rfl) rfl ?_
    refine ol_q (wn_none rfl) (op_extract (v := .bool _) rfl rfl) rfl ?_
    refine ol_i (wn_none rfl) (os_alloc (cs := (msgC Msg.zero).toArray) zB_45 (by kernel_rfl)) rfl ?_; rintro _ _ ⟨bx1, rfl, rfl⟩
    refine ol_iN (wn_none rfl) (os_storew (msgC _) ag_45 rfl rfl (msgC_len _) (msgC_one _) (by simp [msgC_len]) (Free.zero _)) ?_; rintro _ _ ⟨rfl, rfl⟩
    refine ol_q (wn_none rfl) (op_assign (v := .bool _) rfl) rfl ?_
    refine ol_nil_then ?_
    refine cd_sr ?_   -- 6
    refine ol_q (wn_none rfl) (op_move (v := .string _) rfl) rfl ?_
    refine ol_i (wn_none rfl) (os_call cb_26 rfl (fun w s => RDecode_calls _  s (by first | omega | (simp; done) | (simp; omega)))) rfl ?_; rintro _ _ ⟨da3, dc3, rfl, rfl⟩
    refine ol_q (wn_none rfl) (op_move (v := .tuple _) rfl) rfl ?_
    refine ol_q (wn_none rfl) (op_extract (v := .agg _) rfl rfl) rfl ?_
    refine ol_q (wn_none rfl) (op_extract (v := .bool _) rfl rfl) rfl ?_
    refine ol_i (wn_none rfl) (os_alloc (cs := (msgC Msg.zero).toArray) zB_45 (by kernel_rfl)) rfl ?_; rintro _ _ ⟨bx2, rfl, rfl⟩
    refine ol_iN (wn_none rfl) (os_storew (msgC _) ag_45 rfl rfl (msgC_len _) (msgC_one _) (by simp [msgC_len]) (Free.zero _)) ?_; rintro _ _ ⟨rfl, rfl⟩
    refine ol_q (wn_none rfl) (op_assign (v := .bool _) rfl) rfl ?_
    refine ol_nil_then ?_
    refine cd_sr ?_   -- 7
    refine ol_q (wn_none rfl) (op_move (v := .bool _) rfl) rfl ?_
    refine ol_q (wn_none rfl) (op_move (v := .bool _) rfl) rfl ?_
    refine ol_q (wn_none rfl) (op_beql Try.underlying4 rfl rfl) rfl ?_
    refine ol_q (wn_none rfl) (op_move (v := .bool _) rfl) rfl ?_
    refine ol_split 25 rfl (fun hb2 => ?_) (fun hb2 => ?_)
    · have hp2 := hb2
      (try simp only [decide_eq_true_eq, decide_eq_false_iff_not, Bool.not_eq_true', Bool.not_eq_false', ne_eq, Decidable.not_not] at hp2)
      refine ol_q (wn_some rfl rfl rfl hb2 rfl) (op_lda (L := msgC _) 2 ag_45 rfl rfl (msgC_ta _) (by simp [msgC_len])) rfl ?_
      refine ol_q (wn_some rfl rfl rfl hb2 rfl) (op_lda (L := msgC _) 0 ag_45 rfl rfl (msgC_ta _) (by simp [msgC_len])) rfl ?_
      refine ol_i (wn_some rfl rfl rfl hb2 rfl) (os_call cb_27 rfl (fun w s => WSame_calls _ _ _ _ _ _ _ _ _ _ _ _ _ _ _ _ _ _  s (rds_row 3 rfl rfl) (rds_row 1 rfl rfl) (by have := dec_bits src; omega))) rfl ?_; rintro _ l ⟨rfl, rfl⟩
      refine ol_q (wn_none rfl) (op_pick_t (v := .bool _) rfl hb2 rfl) rfl ?_
      refine ol_q (wn_none rfl) (op_assign (v := .bool _) rfl) rfl ?_
      refine ol_nil_then ?_
      refine cd_ret ?_
      exact px_ret1 rfl (v := .bool _) rfl (fun _ s => ((((s.del 3).del 2).del 1).del 0)) ⟨congrArg Value.bool (same_self _), rfl⟩
    · have hp2 := hb2
      (try simp only [decide_eq_true_eq, decide_eq_false_iff_not, Bool.not_eq_true', Bool.not_eq_false', ne_eq, Decidable.not_not] at hp2)
      exact absurd hb2 (by simp)

set_option maxRecDepth 100000 in
set_option maxHeartbeats 1000000 in
theorem WireBack_calls {w0 w : World} {l : List HProp} (k sl : Int) (tg : Root) (mb : Int) (bd : Nat) (bo : Option Addr) (bc : Nat) (bits : List Bool) (tag : Tag) (src : List UInt8) (n : Int) (hs : Sat w0 w (l)) (hr : Rds w0 l encBool bo bits) (hbd : bd < 18446744073709551616) :
    Calls Try.prog 9 #[.agg (msgC ⟨k, sl, tg, mb, bd, ⟨bo, bits.length, bc⟩, tag⟩).toArray, .string (B src), .int .i64 n] w (Ret w0 fun v l' => v = .bool true ∧ l' = l) := by
  have hpl := plainW_len k sl tg mb bd bits
  have hbl := bodyW_le k mb bd bits
  have hdb := dec_bits src
  refine calls_enter Try.func9 rfl rfl rfl hs ?_
  refine cd_sr ?_   -- 0
  refine ol_i (wn_none rfl) (os_boxa rfl) rfl ?_; rintro _ _ ⟨bx1, rfl, rfl⟩
  refine ol_q (wn_none rfl) (op_assign (v := .bool _) rfl) rfl ?_
  refine ol_nil_then ?_
  refine cd_seq ?_
  refine cd_sr ?_   -- 1
  refine ol_i (wn_none rfl) (os_call cb_24 rfl (fun w s => wAlive_calls  s )) rfl ?_; rintro _ l ⟨rfl, rfl⟩
  refine ol_q (wn_none rfl) (op_not rfl) rfl ?_
  refine ol_nil_then ?_
  refine cd_cond_f rfl rfl ?_
  refine cd_skip ?_
  refine px_then ?_
  refine cd_seq ?_
  refine cd_sr ?_   -- 3
  refine ol_q (wn_none rfl) (op_lda (L := msgC _) 0 ag_45 rfl rfl (msgC_ta _) (by simp [msgC_len])) rfl ?_
  refine ol_i (wn_none rfl) (os_call cb_28 rfl (fun w s => wgreat_calls _ _ _ _ _ _ _ _ _  s )) rfl ?_; rintro _ l ⟨rfl, rfl⟩
  refine ol_q (wn_none rfl) (op_move (v := .bool _) rfl) rfl ?_
  refine ol_split 23 rfl (fun hb1 => ?_) (fun hb1 => ?_)
  · have hp1 := hb1
    (try simp only [decide_eq_true_eq, decide_eq_false_iff_not, Bool.not_eq_true', Bool.not_eq_false', ne_eq, Decidable.not_not] at hp1)
    refine ol_skip (wn_some rfl rfl rfl hb1 rfl) rfl ?_
    refine ol_skip (wn_some rfl rfl rfl hb1 rfl) rfl ?_
    refine ol_skip (wn_some rfl rfl rfl hb1 rfl) rfl ?_
    refine ol_q (wn_none rfl) (op_pick_t (v := .bool _) rfl hb1 rfl) rfl ?_
    refine ol_nil_then ?_
    refine cd_cond_t rfl rfl ?_
    refine cd_sr ?_   -- 4
    refine ol_q (wn_none rfl) (op_assign (v := .bool _) rfl) rfl ?_
    refine ol_nil_then ?_
    refine cd_ret ?_
    refine px_thenR ?_
    exact px_ret1 rfl (v := .bool _) rfl (fun _ s => (s.del 0)) ⟨congrArg Value.bool (rfl), rfl⟩
  · have hp1 := hb1
    (try simp only [decide_eq_true_eq, decide_eq_false_iff_not, Bool.not_eq_true', Bool.not_eq_false', ne_eq, Decidable.not_not] at hp1)
    have hxl : bits.length ≤ 200 := by have h9 := hb1; simp at h9; omega
    refine ol_q (wn_some rfl rfl rfl hb1 rfl) (op_move (v := .string _) rfl) rfl ?_
    refine ol_q (wn_some rfl rfl rfl hb1 rfl) (op_len_string Try.underlying9 rfl) rfl ?_
    refine ol_q (wn_some rfl rfl rfl hb1 rfl) (op_gt rfl rfl) rfl ?_
    refine ol_q (wn_none rfl) (op_pick_f (v := .bool _) rfl hb1 rfl) rfl ?_
    refine ol_nil_then ?_
    refine cd_cond rfl (fun hb2 => ?_) (fun hb2 => ?_)
    · have hp2 := hb2
      (try simp only [decide_eq_true_eq, decide_eq_false_iff_not, Bool.not_eq_true', Bool.not_eq_false', ne_eq, Decidable.not_not] at hp2)
      refine cd_sr ?_   -- 4
      refine ol_q (wn_none rfl) (op_assign (v := .bool _) rfl) rfl ?_
      refine ol_nil_then ?_
      refine cd_ret ?_
      refine px_thenR ?_
      exact px_ret1 rfl (v := .bool _) rfl (fun _ s => (s.del 0)) ⟨congrArg Value.bool (rfl), rfl⟩
    · have hp2 := hb2
      (try simp only [decide_eq_true_eq, decide_eq_false_iff_not, Bool.not_eq_true', Bool.not_eq_false', ne_eq, Decidable.not_not] at hp2)
      refine cd_skip ?_
      refine px_then ?_
      refine cd_seq ?_
      refine cd_sr ?_   -- 5
      refine ol_q (wn_none rfl) (op_lda (L := msgC _) 0 ag_45 rfl rfl (msgC_ta _) (by simp [msgC_len])) rfl ?_
      refine ol_i (wn_none rfl) (os_call cb_29 rfl (fun w s => Encode_calls _ _ _ _ _ _ _ _ _  s (hr.cons _) (by omega) (by omega))) rfl ?_; rintro _ l ⟨rfl, rfl⟩
      refine ol_q (wn_none rfl) (op_move (v := .tuple _) rfl) rfl ?_
      refine ol_q (wn_none rfl) (op_extract (v := .string _) rfl rfl) rfl ?_
      refine ol_q (wn_none rfl) (op_extract (v := .bool _) rfl rfl) rfl ?_
      refine ol_q (wn_none rfl) (op_assign (v := .string _) rfl) rfl ?_
      refine ol_q (wn_none rfl) (op_assign (v := .bool _) rfl) rfl ?_
      refine ol_nil_then ?_
      refine cd_sr ?_   -- 6
      refine ol_q (wn_none rfl) (op_move (v := .bool _) rfl) rfl ?_
      refine ol_nil_then ?_
      refine cd_cond rfl (fun hb3 => ?_) (fun hb3 => ?_)
      · have hp3 := hb3
        (try simp only [decide_eq_true_eq, decide_eq_false_iff_not, Bool.not_eq_true', Bool.not_eq_false', ne_eq, Decidable.not_not] at hp3)
        have hg9 : goodW k sl mb bd bits = true := hb3
        refine cd_sr ?_   -- 7
        refine ol_q (wn_none rfl) (op_move (v := .string _) rfl) rfl ?_
        refine ol_i (wn_none rfl) (os_call cb_25 rfl (fun w s => Decode_calls _  s (by rw [if_pos hg9, List.length_append, tag_len]; omega))) rfl ?_; rintro _ _ ⟨da4, dc4, rfl, rfl⟩; rw [decP_eq, if_pos hg9, dec_enc hg9 hbd]
        refine ol_q (wn_none rfl) (op_move (v := .tuple _) rfl) rfl ?_
        refine ol_q (wn_none rfl) (op_extract (v := .agg _) rfl rfl) rfl ?_
        refine ol_q (wn_none rfl) (op_extract (v := .bool _) rfl rfl) rfl ?_
        refine ol_i (wn_none rfl) (os_alloc (cs := (msgC Msg.zero).toArray) zB_45 (by kernel_rfl)) rfl ?_; rintro _ _ ⟨bx2, rfl, rfl⟩
        refine ol_iN (wn_none rfl) (os_storew (msgC _) ag_45 rfl rfl (msgC_len _) (msgC_one _) (by simp [msgC_len]) (Free.zero _)) ?_; rintro _ _ ⟨rfl, rfl⟩
        refine ol_q (wn_none rfl) (op_assign (v := .bool _) rfl) rfl ?_
        refine ol_nil_then ?_
        refine cd_sr ?_   -- 8
        refine ol_q (wn_none rfl) (op_move (v := .bool _) rfl) rfl ?_
        refine ol_q (wn_none rfl) (op_not rfl) rfl ?_
        refine ol_q (wn_none rfl) (op_move (v := .bool _) rfl) rfl ?_
        refine ol_split 41 rfl (fun hb4 => ?_) (fun hb4 => ?_)
        · have hp4 := hb4
          (try simp only [decide_eq_true_eq, decide_eq_false_iff_not, Bool.not_eq_true', Bool.not_eq_false', ne_eq, Decidable.not_not] at hp4)
          exact absurd hb4 (by simp)
        · have hp4 := hb4
          (try simp only [decide_eq_true_eq, decide_eq_false_iff_not, Bool.not_eq_true', Bool.not_eq_false', ne_eq, Decidable.not_not] at hp4)
          refine ol_q (wn_some rfl rfl rfl hb4 rfl) (op_lda (L := msgC _) 0 ag_45 rfl rfl (msgC_ta _) (by simp [msgC_len])) rfl ?_
          refine ol_q (wn_some rfl rfl rfl hb4 rfl) (op_lda (L := msgC _) 2 ag_45 rfl rfl (msgC_ta _) (by simp [msgC_len])) rfl ?_
          refine ol_i (wn_some rfl rfl rfl hb4 rfl) (os_call cb_27 rfl (fun w s => WSame_calls _ _ _ _ _ _ _ _ _ _ _ _ _ _ _ _ _ _  s (rds_row 1 rfl rfl) (((hr.cons _).cons _).cons _) (by show bits.length ≤ 100000; omega))) rfl ?_; rintro _ l ⟨rfl, rfl⟩
          refine ol_q (wn_some rfl rfl rfl hb4 rfl) (op_not rfl) rfl ?_
          refine ol_q (wn_none rfl) (op_pick_f (v := .bool _) rfl hb4 rfl) rfl ?_
          refine ol_nil_then ?_
          refine cd_cond rfl (fun hb5 => ?_) (fun hb5 => ?_)
          · have hp5 := hb5
            (try simp only [decide_eq_true_eq, decide_eq_false_iff_not, Bool.not_eq_true', Bool.not_eq_false', ne_eq, Decidable.not_not] at hp5)
            exact absurd hb5 (by rw [show sameW _ _ _ _ _ _ _ _ _ _ _ _ _ _ = true from sameW_iff.2 ⟨rfl, rfl, rfl, rfl, rfl, rfl, rfl⟩]; simp)
          · have hp5 := hb5
            (try simp only [decide_eq_true_eq, decide_eq_false_iff_not, Bool.not_eq_true', Bool.not_eq_false', ne_eq, Decidable.not_not] at hp5)
            refine cd_skip ?_
            refine px_then ?_
            refine cd_sr ?_   -- 10
            refine ol_q (wn_none rfl) (op_move (v := .string _) rfl) rfl ?_
            refine ol_i (wn_none rfl) (os_call cb_25 rfl (fun w s => Decode_calls _  s (by first | omega | (simp; done) | (simp; omega)))) rfl ?_; rintro _ _ ⟨da6, dc6, rfl, rfl⟩; rw [decP_eq]
            refine ol_q (wn_none rfl) (op_move (v := .tuple _) rfl) rfl ?_
            refine ol_q (wn_none rfl) (op_extract (v := .agg _) rfl rfl) rfl ?_
            refine ol_q (wn_none rfl) (op_extract (v := .bool _) rfl rfl) rfl ?_
            refine ol_i (wn_none rfl) (os_alloc (cs := (msgC Msg.zero).toArray) zB_45 (by kernel_rfl)) rfl ?_; rintro _ _ ⟨bx3, rfl, rfl⟩
            refine ol_iN (wn_none rfl) (os_storew (msgC _) ag_45 rfl rfl (msgC_len _) (msgC_one _) (by simp [msgC_len]) (Free.zero _)) ?_; rintro _ _ ⟨rfl, rfl⟩
            refine ol_q (wn_none rfl) (op_assign (v := .bool _) rfl) rfl ?_
            refine ol_nil_then ?_
            refine cd_seq ?_
            refine cd_sr ?_   -- 11
            refine ol_q (wn_none rfl) (op_move (v := .bool _) rfl) rfl ?_
            refine ol_q (wn_none rfl) (op_not rfl) rfl ?_
            refine ol_nil_then ?_
            refine cd_cond rfl (fun hb6 => ?_) (fun hb6 => ?_)
            · have hp6 := hb6
              (try simp only [decide_eq_true_eq, decide_eq_false_iff_not, Bool.not_eq_true', Bool.not_eq_false', ne_eq, Decidable.not_not] at hp6)
              refine cd_sr ?_   -- 12
              refine ol_q (wn_none rfl) (op_assign (v := .bool _) rfl) rfl ?_
              refine ol_nil_then ?_
              refine cd_ret ?_
              refine px_thenR ?_
              exact px_ret1 rfl (v := .bool _) rfl (fun _ s => (((((s.del 4).del 3).del 2).del 1).del 0)) ⟨congrArg Value.bool (rfl), rfl⟩
            · have hp6 := hb6
              (try simp only [decide_eq_true_eq, decide_eq_false_iff_not, Bool.not_eq_true', Bool.not_eq_false', ne_eq, Decidable.not_not] at hp6)
              have hd2 : (decW src).2 = true := by simpa using hb6
              obtain ⟨g1, g2, g3, g4, g5, g6, g7⟩ := enc_dec hd2
              refine cd_skip ?_
              refine px_then ?_
              refine cd_sr ?_   -- 13
              refine ol_q (wn_none rfl) (op_lda (L := msgC _) 0 ag_45 rfl rfl (msgC_ta _) (by simp [msgC_len])) rfl ?_
              refine ol_i (wn_none rfl) (os_call cb_29 rfl (fun w s => Encode_calls _ _ _ _ _ _ _ _ _  s (rds_row 1 rfl rfl) (by omega) g6)) rfl ?_; rintro _ l ⟨rfl, rfl⟩; rw [if_pos g1, g1, g2]
              refine ol_q (wn_none rfl) (op_move (v := .tuple _) rfl) rfl ?_
              refine ol_q (wn_none rfl) (op_extract (v := .string _) rfl rfl) rfl ?_
              refine ol_q (wn_none rfl) (op_extract (v := .bool _) rfl rfl) rfl ?_
              refine ol_q (wn_none rfl) (op_assign (v := .string _) rfl) rfl ?_
              refine ol_q (wn_none rfl) (op_assign (v := .bool _) rfl) rfl ?_
              refine ol_nil_then ?_
              refine cd_seq ?_
              refine cd_sr ?_   -- 14
              refine ol_q (wn_none rfl) (op_move (v := .bool _) rfl) rfl ?_
              refine ol_q (wn_none rfl) (op_not rfl) rfl ?_
              refine ol_q (wn_none rfl) (op_move (v := .bool _) rfl) rfl ?_
              refine ol_split 61 rfl (fun hb7 => ?_) (fun hb7 => ?_)
              · have hp7 := hb7
                (try simp only [decide_eq_true_eq, decide_eq_false_iff_not, Bool.not_eq_true', Bool.not_eq_false', ne_eq, Decidable.not_not] at hp7)
                exact absurd hb7 (by decide)
              · have hp7 := hb7
                (try simp only [decide_eq_true_eq, decide_eq_false_iff_not, Bool.not_eq_true', Bool.not_eq_false', ne_eq, Decidable.not_not] at hp7)
                refine ol_q (wn_some rfl rfl rfl hb7 rfl) (op_move (v := .string _) rfl) rfl ?_
                refine ol_q (wn_some rfl rfl rfl hb7 rfl) (op_move (v := .string _) rfl) rfl ?_
                refine ol_q (wn_some rfl rfl rfl hb7 rfl) (op_sneq rfl rfl) rfl ?_
                refine ol_q (wn_none rfl) (op_pick_f (v := .bool _) rfl hb7 rfl) rfl ?_
                refine ol_nil_then ?_
                refine cd_cond rfl (fun hb8 => ?_) (fun hb8 => ?_)
                · have hp8 := hb8
                  (try simp only [decide_eq_true_eq, decide_eq_false_iff_not, Bool.not_eq_true', Bool.not_eq_false', ne_eq, Decidable.not_not] at hp8)
                  exact absurd hb8 (by simp)
                · have hp8 := hb8
                  (try simp only [decide_eq_true_eq, decide_eq_false_iff_not, Bool.not_eq_true', Bool.not_eq_false', ne_eq, Decidable.not_not] at hp8)
                  refine cd_skip ?_
                  refine px_then ?_
                  refine cd_seq ?_
                  refine cd_sr ?_   -- 16
                  refine ol_q (wn_none rfl) (op_field fld_45_0 rfl) rfl ?_
                  refine ol_q (wn_none rfl) (op_ld 0 sc_3 rfl rfl (show (msgC _).toArray[0]? = some (.int .i64 (decW src).1.kind) from msgC_a0 _)) rfl ?_
                  refine ol_q (wn_none rfl) (op_eq rfl rfl) rfl ?_
                  refine ol_q (wn_none rfl) (op_move (v := .bool _) rfl) rfl ?_
                  refine ol_split 69 rfl (fun hb9 => ?_) (fun hb9 => ?_)
                  · have hp9 := hb9
                    (try simp only [decide_eq_true_eq, decide_eq_false_iff_not, Bool.not_eq_true', Bool.not_eq_false', ne_eq, Decidable.not_not] at hp9)
                    refine ol_skip (wn_some rfl rfl rfl hb9 rfl) rfl ?_
                    refine ol_skip (wn_some rfl rfl rfl hb9 rfl) rfl ?_
                    refine ol_q (wn_none rfl) (op_pick_t (v := .bool _) rfl hb9 rfl) rfl ?_
                    refine ol_q (wn_none rfl) (op_move (v := .bool _) rfl) rfl ?_
                    refine ol_skip (wn_some rfl rfl rfl rfl rfl) rfl ?_
                    refine ol_skip (wn_some rfl rfl rfl rfl rfl) rfl ?_
                    refine ol_skip (wn_some rfl rfl rfl rfl rfl) rfl ?_
                    refine ol_skip (wn_some rfl rfl rfl rfl rfl) rfl ?_
                    refine ol_q (wn_none rfl) (op_pick_t (v := .bool _) rfl rfl rfl) rfl ?_
                    refine ol_nil_then ?_
                    refine cd_cond_t rfl rfl ?_
                    refine cd_sr ?_   -- 17
                    refine ol_q (wn_none rfl) (op_assign (v := .bool _) rfl) rfl ?_
                    refine ol_nil_then ?_
                    refine cd_ret ?_
                    refine px_thenR ?_
                    exact px_ret1 rfl (v := .bool _) rfl (fun _ s => (((((s.del 4).del 3).del 2).del 1).del 0)) ⟨congrArg Value.bool (rfl), rfl⟩
                  · have hp9 := hb9
                    (try simp only [decide_eq_true_eq, decide_eq_false_iff_not, Bool.not_eq_true', Bool.not_eq_false', ne_eq, Decidable.not_not] at hp9)
                    have hk9 : ¬ (decW src).1.kind = 3 := by simpa using hb9
                    refine ol_q (wn_some rfl rfl rfl hb9 rfl) (op_move (v := .int _ _) rfl) rfl ?_
                    refine ol_q (wn_some rfl rfl rfl hb9 rfl) (op_lt rfl rfl) rfl ?_
                    refine ol_q (wn_none rfl) (op_pick_f (v := .bool _) rfl hb9 rfl) rfl ?_
                    refine ol_q (wn_none rfl) (op_move (v := .bool _) rfl) rfl ?_
                    refine ol_split 73 rfl (fun hb10 => ?_) (fun hb10 => ?_)
                    · have hp10 := hb10
                      (try simp only [decide_eq_true_eq, decide_eq_false_iff_not, Bool.not_eq_true', Bool.not_eq_false', ne_eq, Decidable.not_not] at hp10)
                      refine ol_skip (wn_some rfl rfl rfl hb10 rfl) rfl ?_
                      refine ol_skip (wn_some rfl rfl rfl hb10 rfl) rfl ?_
                      refine ol_skip (wn_some rfl rfl rfl hb10 rfl) rfl ?_
                      refine ol_skip (wn_some rfl rfl rfl hb10 rfl) rfl ?_
                      refine ol_q (wn_none rfl) (op_pick_t (v := .bool _) rfl hb10 rfl) rfl ?_
                      refine ol_nil_then ?_
                      refine cd_cond_t rfl rfl ?_
                      refine cd_sr ?_   -- 17
                      refine ol_q (wn_none rfl) (op_assign (v := .bool _) rfl) rfl ?_
                      refine ol_nil_then ?_
                      refine cd_ret ?_
                      refine px_thenR ?_
                      exact px_ret1 rfl (v := .bool _) rfl (fun _ s => (((((s.del 4).del 3).del 2).del 1).del 0)) ⟨congrArg Value.bool (rfl), rfl⟩
                    · have hp10 := hb10
                      (try simp only [decide_eq_true_eq, decide_eq_false_iff_not, Bool.not_eq_true', Bool.not_eq_false', ne_eq, Decidable.not_not] at hp10)
                      refine ol_q (wn_some rfl rfl rfl hb10 rfl) (op_move (v := .int _ _) rfl) rfl ?_
                      refine ol_q (wn_some rfl rfl rfl hb10 rfl) (op_move (v := .string _) rfl) rfl ?_
                      refine ol_q (wn_some rfl rfl rfl hb10 rfl) (op_len_string Try.underlying9 rfl) rfl ?_
                      refine ol_q (wn_some rfl rfl rfl hb10 rfl) (op_gt rfl rfl) rfl ?_
                      refine ol_q (wn_none rfl) (op_pick_f (v := .bool _) rfl hb10 rfl) rfl ?_
                      refine ol_nil_then ?_
                      refine cd_cond rfl (fun hb11 => ?_) (fun hb11 => ?_)
                      · have hp11 := hb11
                        (try simp only [decide_eq_true_eq, decide_eq_false_iff_not, Bool.not_eq_true', Bool.not_eq_false', ne_eq, Decidable.not_not] at hp11)
                        refine cd_sr ?_   -- 17
                        refine ol_q (wn_none rfl) (op_assign (v := .bool _) rfl) rfl ?_
                        refine ol_nil_then ?_
                        refine cd_ret ?_
                        refine px_thenR ?_
                        exact px_ret1 rfl (v := .bool _) rfl (fun _ s => (((((s.del 4).del 3).del 2).del 1).del 0)) ⟨congrArg Value.bool (rfl), rfl⟩
                      · have hp11 := hb11
                        (try simp only [decide_eq_true_eq, decide_eq_false_iff_not, Bool.not_eq_true', Bool.not_eq_false', ne_eq, Decidable.not_not] at hp11)
                        have hc1 := dec_less (c := n.toNat) hd2 hk9 (by omega)
                        have hc2 := dec_more (x := src.take (if 3 < n then 3 else n).toNat) hd2 hk9
                        refine cd_skip ?_
                        refine px_then ?_
                        refine cd_sr ?_   -- 18
                        refine ol_q (wn_none rfl) (op_move (v := .string _) rfl) rfl ?_
                        refine ol_q (wn_none rfl) (op_move (v := .int _ _) rfl) rfl ?_
                        refine ol_q (wn_none rfl) (op_sslice_to _ Try.underlying9 rfl rfl (Int.toNat_of_nonneg (by omega)).symm (by omega)) rfl ?_
                        refine ol_i (wn_none rfl) (os_call cb_25 rfl (fun w s => Decode_calls _  s (by first | omega | (simp; done) | (simp; omega)))) rfl ?_; rintro _ _ ⟨da8, dc8, rfl, rfl⟩; rw [decP_eq]
                        refine ol_q (wn_none rfl) (op_move (v := .tuple _) rfl) rfl ?_
                        refine ol_q (wn_none rfl) (op_extract (v := .agg _) rfl rfl) rfl ?_
                        refine ol_q (wn_none rfl) (op_extract (v := .bool _) rfl rfl) rfl ?_
                        refine ol_i (wn_none rfl) (os_alloc (cs := (msgC Msg.zero).toArray) zB_45 (by kernel_rfl)) rfl ?_; rintro _ _ ⟨bx4, rfl, rfl⟩
                        refine ol_iN (wn_none rfl) (os_storew (msgC _) ag_45 rfl rfl (msgC_len _) (msgC_one _) (by simp [msgC_len]) (Free.zero _)) ?_; rintro _ _ ⟨rfl, rfl⟩
                        refine ol_q (wn_none rfl) (op_assign (v := .bool _) rfl) rfl ?_
                        refine ol_nil_then ?_
                        refine cd_sr ?_   -- 19
                        refine ol_q (wn_none rfl) (op_move (v := .string _) rfl) rfl ?_
                        refine ol_q (wn_none rfl) (op_move (v := .string _) rfl) rfl ?_
                        refine ol_q (wn_none rfl) (op_move (v := .int _ _) rfl) rfl ?_
                        refine ol_q (wn_none rfl) (op_min rfl rfl) rfl ?_
                        refine ol_q (wn_none rfl) (op_sslice_to _ Try.underlying9 rfl rfl (Int.toNat_of_nonneg (by omega)).symm (by omega)) rfl ?_
                        refine ol_q (wn_none rfl) (op_sadd rfl rfl (by first | omega | (simp; omega))) rfl ?_
                        refine ol_i (wn_none rfl) (os_call cb_25 rfl (fun w s => Decode_calls _  s (by first | omega | (simp; done) | (simp; omega)))) rfl ?_; rintro _ _ ⟨da9, dc9, rfl, rfl⟩; rw [decP_eq]
                        refine ol_q (wn_none rfl) (op_move (v := .tuple _) rfl) rfl ?_
                        refine ol_q (wn_none rfl) (op_extract (v := .agg _) rfl rfl) rfl ?_
                        refine ol_q (wn_none rfl) (op_extract (v := .bool _) rfl rfl) rfl ?_
                        refine ol_i (wn_none rfl) (os_alloc (cs := (msgC Msg.zero).toArray) zB_45 (by kernel_rfl)) rfl ?_; rintro _ _ ⟨bx5, rfl, rfl⟩
                        refine ol_iN (wn_none rfl) (os_storew (msgC _) ag_45 rfl rfl (msgC_len _) (msgC_one _) (by simp [msgC_len]) (Free.zero _)) ?_; rintro _ _ ⟨rfl, rfl⟩
                        refine ol_q (wn_none rfl) (op_assign (v := .bool _) rfl) rfl ?_
                        refine ol_nil_then ?_
                        refine cd_sr ?_   -- 20
                        refine ol_q (wn_none rfl) (op_move (v := .bool _) rfl) rfl ?_
                        refine ol_q (wn_none rfl) (op_move (v := .int _ _) rfl) rfl ?_
                        refine ol_q (wn_none rfl) (op_move (v := .string _) rfl) rfl ?_
                        refine ol_q (wn_none rfl) (op_len_string Try.underlying9 rfl) rfl ?_
                        refine ol_q (wn_none rfl) (op_eq rfl rfl) rfl ?_
                        refine ol_q (wn_none rfl) (op_beql Try.underlying4 rfl rfl) rfl ?_
                        refine ol_q (wn_none rfl) (op_move (v := .bool _) rfl) rfl ?_
                        refine ol_split 102 rfl (fun hb12 => ?_) (fun hb12 => ?_)
                        · have hp12 := hb12
                          (try simp only [decide_eq_true_eq, decide_eq_false_iff_not, Bool.not_eq_true', Bool.not_eq_false', ne_eq, Decidable.not_not] at hp12)
                          refine ol_q (wn_some rfl rfl rfl hb12 rfl) (op_move (v := .bool _) rfl) rfl ?_
                          refine ol_q (wn_some rfl rfl rfl hb12 rfl) (op_move (v := .int _ _) rfl) rfl ?_
                          refine ol_q (wn_some rfl rfl rfl hb12 rfl) (op_min rfl rfl) rfl ?_
                          refine ol_q (wn_some rfl rfl rfl hb12 rfl) (op_eq rfl rfl) rfl ?_
                          refine ol_q (wn_some rfl rfl rfl hb12 rfl) (op_beql Try.underlying4 rfl rfl) rfl ?_
                          refine ol_q (wn_none rfl) (op_pick_t (v := .bool _) rfl hb12 rfl) rfl ?_
                          refine ol_q (wn_none rfl) (op_assign (v := .bool _) rfl) rfl ?_
                          refine ol_nil_then ?_
                          refine cd_ret ?_
                          exact px_ret1 rfl (v := .bool _) rfl (fun _ s => (((((((((s.del 8).del 7).del 6).del 5).del 4).del 3).del 2).del 1).del 0)) ⟨congrArg Value.bool (by rw [hc2]; exact decide_eq_true (decide_eq_decide.2 (by rw [List.length_take]; split <;> omega))), rfl⟩
                        · have hp12 := hb12
                          (try simp only [decide_eq_true_eq, decide_eq_false_iff_not, Bool.not_eq_true', Bool.not_eq_false', ne_eq, Decidable.not_not] at hp12)
                          exact absurd hb12 (by rw [hc1]; simp; omega)
      · have hp3 := hb3
        (try simp only [decide_eq_true_eq, decide_eq_false_iff_not, Bool.not_eq_true', Bool.not_eq_false', ne_eq, Decidable.not_not] at hp3)
        refine cd_skip ?_
        refine px_then ?_
        refine cd_sr ?_   -- 10
        refine ol_q (wn_none rfl) (op_move (v := .string _) rfl) rfl ?_
        refine ol_i (wn_none rfl) (os_call cb_25 rfl (fun w s => Decode_calls _  s (by first | omega | (simp; done) | (simp; omega)))) rfl ?_; rintro _ _ ⟨da10, dc10, rfl, rfl⟩; rw [decP_eq]
        refine ol_q (wn_none rfl) (op_move (v := .tuple _) rfl) rfl ?_
        refine ol_q (wn_none rfl) (op_extract (v := .agg _) rfl rfl) rfl ?_
        refine ol_q (wn_none rfl) (op_extract (v := .bool _) rfl rfl) rfl ?_
        refine ol_i (wn_none rfl) (os_alloc (cs := (msgC Msg.zero).toArray) zB_45 (by kernel_rfl)) rfl ?_; rintro _ _ ⟨bx6, rfl, rfl⟩
        refine ol_iN (wn_none rfl) (os_storew (msgC _) ag_45 rfl rfl (msgC_len _) (msgC_one _) (by simp [msgC_len]) (Free.zero _)) ?_; rintro _ _ ⟨rfl, rfl⟩
        refine ol_q (wn_none rfl) (op_assign (v := .bool _) rfl) rfl ?_
        refine ol_nil_then ?_
        refine cd_seq ?_
        refine cd_sr ?_   -- 11
        refine ol_q (wn_none rfl) (op_move (v := .bool _) rfl) rfl ?_
        refine ol_q (wn_none rfl) (op_not rfl) rfl ?_
        refine ol_nil_then ?_
        refine cd_cond rfl (fun hb13 => ?_) (fun hb13 => ?_)
        · have hp13 := hb13
          (try simp only [decide_eq_true_eq, decide_eq_false_iff_not, Bool.not_eq_true', Bool.not_eq_false', ne_eq, Decidable.not_not] at hp13)
          refine cd_sr ?_   -- 12
          refine ol_q (wn_none rfl) (op_assign (v := .bool _) rfl) rfl ?_
          refine ol_nil_then ?_
          refine cd_ret ?_
          refine px_thenR ?_
          exact px_ret1 rfl (v := .bool _) rfl (fun _ s => (((s.del 2).del 1).del 0)) ⟨congrArg Value.bool (rfl), rfl⟩
        · have hp13 := hb13
          (try simp only [decide_eq_true_eq, decide_eq_false_iff_not, Bool.not_eq_true', Bool.not_eq_false', ne_eq, Decidable.not_not] at hp13)
          have hd2 : (decW src).2 = true := by simpa using hb13
          obtain ⟨g1, g2, g3, g4, g5, g6, g7⟩ := enc_dec hd2
          refine cd_skip ?_
          refine px_then ?_
          refine cd_sr ?_   -- 13
          refine ol_q (wn_none rfl) (op_lda (L := msgC _) 0 ag_45 rfl rfl (msgC_ta _) (by simp [msgC_len])) rfl ?_
          refine ol_i (wn_none rfl) (os_call cb_29 rfl (fun w s => Encode_calls _ _ _ _ _ _ _ _ _  s (rds_row 1 rfl rfl) (by omega) g6)) rfl ?_; rintro _ l ⟨rfl, rfl⟩; rw [if_pos g1, g1, g2]
          refine ol_q (wn_none rfl) (op_move (v := .tuple _) rfl) rfl ?_
          refine ol_q (wn_none rfl) (op_extract (v := .string _) rfl rfl) rfl ?_
          refine ol_q (wn_none rfl) (op_extract (v := .bool _) rfl rfl) rfl ?_
          refine ol_q (wn_none rfl) (op_assign (v := .string _) rfl) rfl ?_
          refine ol_q (wn_none rfl) (op_assign (v := .bool _) rfl) rfl ?_
          refine ol_nil_then ?_
          refine cd_seq ?_
          refine cd_sr ?_   -- 14
          refine ol_q (wn_none rfl) (op_move (v := .bool _) rfl) rfl ?_
          refine ol_q (wn_none rfl) (op_not rfl) rfl ?_
          refine ol_q (wn_none rfl) (op_move (v := .bool _) rfl) rfl ?_
          refine ol_split 61 rfl (fun hb14 => ?_) (fun hb14 => ?_)
          · have hp14 := hb14
            (try simp only [decide_eq_true_eq, decide_eq_false_iff_not, Bool.not_eq_true', Bool.not_eq_false', ne_eq, Decidable.not_not] at hp14)
            exact absurd hb14 (by decide)
          · have hp14 := hb14
            (try simp only [decide_eq_true_eq, decide_eq_false_iff_not, Bool.not_eq_true', Bool.not_eq_false', ne_eq, Decidable.not_not] at hp14)
            refine ol_q (wn_some rfl rfl rfl hb14 rfl) (op_move (v := .string _) rfl) rfl ?_
            refine ol_q (wn_some rfl rfl rfl hb14 rfl) (op_move (v := .string _) rfl) rfl ?_
            refine ol_q (wn_some rfl rfl rfl hb14 rfl) (op_sneq rfl rfl) rfl ?_
            refine ol_q (wn_none rfl) (op_pick_f (v := .bool _) rfl hb14 rfl) rfl ?_
            refine ol_nil_then ?_
            refine cd_cond rfl (fun hb15 => ?_) (fun hb15 => ?_)
            · have hp15 := hb15
              (try simp only [decide_eq_true_eq, decide_eq_false_iff_not, Bool.not_eq_true', Bool.not_eq_false', ne_eq, Decidable.not_not] at hp15)
              exact absurd hb15 (by simp)
            · have hp15 := hb15
              (try simp only [decide_eq_true_eq, decide_eq_false_iff_not, Bool.not_eq_true', Bool.not_eq_false', ne_eq, Decidable.not_not] at hp15)
              refine cd_skip ?_
              refine px_then ?_
              refine cd_seq ?_
              refine cd_sr ?_   -- 16
              refine ol_q (wn_none rfl) (op_field fld_45_0 rfl) rfl ?_
              refine ol_q (wn_none rfl) (op_ld 0 sc_3 rfl rfl (msgC_a0 _)) rfl ?_
              refine ol_q (wn_none rfl) (op_eq rfl rfl) rfl ?_
              refine ol_q (wn_none rfl) (op_move (v := .bool _) rfl) rfl ?_
              refine ol_split 69 rfl (fun hb16 => ?_) (fun hb16 => ?_)
              · have hp16 := hb16
                (try simp only [decide_eq_true_eq, decide_eq_false_iff_not, Bool.not_eq_true', Bool.not_eq_false', ne_eq, Decidable.not_not] at hp16)
                refine ol_skip (wn_some rfl rfl rfl hb16 rfl) rfl ?_
                refine ol_skip (wn_some rfl rfl rfl hb16 rfl) rfl ?_
                refine ol_q (wn_none rfl) (op_pick_t (v := .bool _) rfl hb16 rfl) rfl ?_
                refine ol_q (wn_none rfl) (op_move (v := .bool _) rfl) rfl ?_
                refine ol_skip (wn_some rfl rfl rfl rfl rfl) rfl ?_
                refine ol_skip (wn_some rfl rfl rfl rfl rfl) rfl ?_
                refine ol_skip (wn_some rfl rfl rfl rfl rfl) rfl ?_
                refine ol_skip (wn_some rfl rfl rfl rfl rfl) rfl ?_
                refine ol_q (wn_none rfl) (op_pick_t (v := .bool _) rfl rfl rfl) rfl ?_
                refine ol_nil_then ?_
                refine cd_cond_t rfl rfl ?_
                refine cd_sr ?_   -- 17
                refine ol_q (wn_none rfl) (op_assign (v := .bool _) rfl) rfl ?_
                refine ol_nil_then ?_
                refine cd_ret ?_
                refine px_thenR ?_
                exact px_ret1 rfl (v := .bool _) rfl (fun _ s => (((s.del 2).del 1).del 0)) ⟨congrArg Value.bool (rfl), rfl⟩
              · have hp16 := hb16
                (try simp only [decide_eq_true_eq, decide_eq_false_iff_not, Bool.not_eq_true', Bool.not_eq_false', ne_eq, Decidable.not_not] at hp16)
                have hk9 : ¬ (decW src).1.kind = 3 := by simpa using hb16
                refine ol_q (wn_some rfl rfl rfl hb16 rfl) (op_move (v := .int _ _) rfl) rfl ?_
                refine ol_q (wn_some rfl rfl rfl hb16 rfl) (op_lt rfl rfl) rfl ?_
                refine ol_q (wn_none rfl) (op_pick_f (v := .bool _) rfl hb16 rfl) rfl ?_
                refine ol_q (wn_none rfl) (op_move (v := .bool _) rfl) rfl ?_
                refine ol_split 73 rfl (fun hb17 => ?_) (fun hb17 => ?_)
                · have hp17 := hb17
                  (try simp only [decide_eq_true_eq, decide_eq_false_iff_not, Bool.not_eq_true', Bool.not_eq_false', ne_eq, Decidable.not_not] at hp17)
                  refine ol_skip (wn_some rfl rfl rfl hb17 rfl) rfl ?_
                  refine ol_skip (wn_some rfl rfl rfl hb17 rfl) rfl ?_
                  refine ol_skip (wn_some rfl rfl rfl hb17 rfl) rfl ?_
                  refine ol_skip (wn_some rfl rfl rfl hb17 rfl) rfl ?_
                  refine ol_q (wn_none rfl) (op_pick_t (v := .bool _) rfl hb17 rfl) rfl ?_
                  refine ol_nil_then ?_
                  refine cd_cond_t rfl rfl ?_
                  refine cd_sr ?_   -- 17
                  refine ol_q (wn_none rfl) (op_assign (v := .bool _) rfl) rfl ?_
                  refine ol_nil_then ?_
                  refine cd_ret ?_
                  refine px_thenR ?_
                  exact px_ret1 rfl (v := .bool _) rfl (fun _ s => (((s.del 2).del 1).del 0)) ⟨congrArg Value.bool (rfl), rfl⟩
                · have hp17 := hb17
                  (try simp only [decide_eq_true_eq, decide_eq_false_iff_not, Bool.not_eq_true', Bool.not_eq_false', ne_eq, Decidable.not_not] at hp17)
                  refine ol_q (wn_some rfl rfl rfl hb17 rfl) (op_move (v := .int _ _) rfl) rfl ?_
                  refine ol_q (wn_some rfl rfl rfl hb17 rfl) (op_move (v := .string _) rfl) rfl ?_
                  refine ol_q (wn_some rfl rfl rfl hb17 rfl) (op_len_string Try.underlying9 rfl) rfl ?_
                  refine ol_q (wn_some rfl rfl rfl hb17 rfl) (op_gt rfl rfl) rfl ?_
                  refine ol_q (wn_none rfl) (op_pick_f (v := .bool _) rfl hb17 rfl) rfl ?_
                  refine ol_nil_then ?_
                  refine cd_cond rfl (fun hb18 => ?_) (fun hb18 => ?_)
                  · have hp18 := hb18
                    (try simp only [decide_eq_true_eq, decide_eq_false_iff_not, Bool.not_eq_true', Bool.not_eq_false', ne_eq, Decidable.not_not] at hp18)
                    refine cd_sr ?_   -- 17
                    refine ol_q (wn_none rfl) (op_assign (v := .bool _) rfl) rfl ?_
                    refine ol_nil_then ?_
                    refine cd_ret ?_
                    refine px_thenR ?_
                    exact px_ret1 rfl (v := .bool _) rfl (fun _ s => (((s.del 2).del 1).del 0)) ⟨congrArg Value.bool (rfl), rfl⟩
                  · have hp18 := hb18
                    (try simp only [decide_eq_true_eq, decide_eq_false_iff_not, Bool.not_eq_true', Bool.not_eq_false', ne_eq, Decidable.not_not] at hp18)
                    have hc1 := dec_less (c := n.toNat) hd2 hk9 (by omega)
                    have hc2 := dec_more (x := src.take (if 3 < n then 3 else n).toNat) hd2 hk9
                    refine cd_skip ?_
                    refine px_then ?_
                    refine cd_sr ?_   -- 18
                    refine ol_q (wn_none rfl) (op_move (v := .string _) rfl) rfl ?_
                    refine ol_q (wn_none rfl) (op_move (v := .int _ _) rfl) rfl ?_
                    refine ol_q (wn_none rfl) (op_sslice_to _ Try.underlying9 rfl rfl (Int.toNat_of_nonneg (by omega)).symm (by omega)) rfl ?_
                    refine ol_i (wn_none rfl) (os_call cb_25 rfl (fun w s => Decode_calls _  s (by first | omega | (simp; done) | (simp; omega)))) rfl ?_; rintro _ _ ⟨da12, dc12, rfl, rfl⟩; rw [decP_eq]
                    refine ol_q (wn_none rfl) (op_move (v := .tuple _) rfl) rfl ?_
                    refine ol_q (wn_none rfl) (op_extract (v := .agg _) rfl rfl) rfl ?_
                    refine ol_q (wn_none rfl) (op_extract (v := .bool _) rfl rfl) rfl ?_
                    refine ol_i (wn_none rfl) (os_alloc (cs := (msgC Msg.zero).toArray) zB_45 (by kernel_rfl)) rfl ?_; rintro _ _ ⟨bx7, rfl, rfl⟩
                    refine ol_iN (wn_none rfl) (os_storew (msgC _) ag_45 rfl rfl (msgC_len _) (msgC_one _) (by simp [msgC_len]) (Free.zero _)) ?_; rintro _ _ ⟨rfl, rfl⟩
                    refine ol_q (wn_none rfl) (op_assign (v := .bool _) rfl) rfl ?_
                    refine ol_nil_then ?_
                    refine cd_sr ?_   -- 19
                    refine ol_q (wn_none rfl) (op_move (v := .string _) rfl) rfl ?_
                    refine ol_q (wn_none rfl) (op_move (v := .string _) rfl) rfl ?_
                    refine ol_q (wn_none rfl) (op_move (v := .int _ _) rfl) rfl ?_
                    refine ol_q (wn_none rfl) (op_min rfl rfl) rfl ?_
                    refine ol_q (wn_none rfl) (op_sslice_to _ Try.underlying9 rfl rfl (Int.toNat_of_nonneg (by omega)).symm (by omega)) rfl ?_
                    refine ol_q (wn_none rfl) (op_sadd rfl rfl (by first | omega | (simp; omega))) rfl ?_
                    refine ol_i (wn_none rfl) (os_call cb_25 rfl (fun w s => Decode_calls _  s (by first | omega | (simp; done) | (simp; omega)))) rfl ?_; rintro _ _ ⟨da13, dc13, rfl, rfl⟩; rw [decP_eq]
                    refine ol_q (wn_none rfl) (op_move (v := .tuple _) rfl) rfl ?_
                    refine ol_q (wn_none rfl) (op_extract (v := .agg _) rfl rfl) rfl ?_
                    refine ol_q (wn_none rfl) (op_extract (v := .bool _) rfl rfl) rfl ?_
                    refine ol_i (wn_none rfl) (os_alloc (cs := (msgC Msg.zero).toArray) zB_45 (by kernel_rfl)) rfl ?_; rintro _ _ ⟨bx8, rfl, rfl⟩
                    refine ol_iN (wn_none rfl) (os_storew (msgC _) ag_45 rfl rfl (msgC_len _) (msgC_one _) (by simp [msgC_len]) (Free.zero _)) ?_; rintro _ _ ⟨rfl, rfl⟩
                    refine ol_q (wn_none rfl) (op_assign (v := .bool _) rfl) rfl ?_
                    refine ol_nil_then ?_
                    refine cd_sr ?_   -- 20
                    refine ol_q (wn_none rfl) (op_move (v := .bool _) rfl) rfl ?_
                    refine ol_q (wn_none rfl) (op_move (v := .int _ _) rfl) rfl ?_
                    refine ol_q (wn_none rfl) (op_move (v := .string _) rfl) rfl ?_
                    refine ol_q (wn_none rfl) (op_len_string Try.underlying9 rfl) rfl ?_
                    refine ol_q (wn_none rfl) (op_eq rfl rfl) rfl ?_
                    refine ol_q (wn_none rfl) (op_beql Try.underlying4 rfl rfl) rfl ?_
                    refine ol_q (wn_none rfl) (op_move (v := .bool _) rfl) rfl ?_
                    refine ol_split 102 rfl (fun hb19 => ?_) (fun hb19 => ?_)
                    · have hp19 := hb19
                      (try simp only [decide_eq_true_eq, decide_eq_false_iff_not, Bool.not_eq_true', Bool.not_eq_false', ne_eq, Decidable.not_not] at hp19)
                      refine ol_q (wn_some rfl rfl rfl hb19 rfl) (op_move (v := .bool _) rfl) rfl ?_
                      refine ol_q (wn_some rfl rfl rfl hb19 rfl) (op_move (v := .int _ _) rfl) rfl ?_
                      refine ol_q (wn_some rfl rfl rfl hb19 rfl) (op_min rfl rfl) rfl ?_
                      refine ol_q (wn_some rfl rfl rfl hb19 rfl) (op_eq rfl rfl) rfl ?_
                      refine ol_q (wn_some rfl rfl rfl hb19 rfl) (op_beql Try.underlying4 rfl rfl) rfl ?_
                      refine ol_q (wn_none rfl) (op_pick_t (v := .bool _) rfl hb19 rfl) rfl ?_
                      refine ol_q (wn_none rfl) (op_assign (v := .bool _) rfl) rfl ?_
                      refine ol_nil_then ?_
                      refine cd_ret ?_
                      exact px_ret1 rfl (v := .bool _) rfl (fun _ s => (((((((s.del 6).del 5).del 4).del 3).del 2).del 1).del 0)) ⟨congrArg Value.bool (by rw [hc2]; exact decide_eq_true (decide_eq_decide.2 (by rw [List.length_take]; split <;> omega))), rfl⟩
                    · have hp19 := hb19
                      (try simp only [decide_eq_true_eq, decide_eq_false_iff_not, Bool.not_eq_true', Bool.not_eq_false', ne_eq, Decidable.not_not] at hp19)
                      exact absurd hb19 (by rw [hc1]; simp; omega)
end Go.SL

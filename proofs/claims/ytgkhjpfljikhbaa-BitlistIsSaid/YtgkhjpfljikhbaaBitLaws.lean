import Derived.Test.YtgkhjpfljikhbaaBit
set_option linter.unusedVariables false
set_option linter.unusedSimpArgs false
namespace Go.SL
open Go.Proofs

theorem bitAlive_calls {w0 w : World} {l : List HProp}  (hs : Sat w0 w (l))  :
    Calls Try.prog 13 #[] w (Ret w0 fun v l' => v = .bool true ∧ l' = l) := by
  refine calls_enter Try.func13 rfl rfl rfl hs ?_
  refine cd_sr ?_   -- 0
  refine ol_q (wn_none rfl) (op_assign (v := .bool _) rfl) rfl ?_
  refine ol_nil_then ?_
  refine cd_sr ?_   -- 1
  refine ol_i (wn_none rfl) (os_call cb_14 rfl (fun w s => BGet_calls (most := 9) _  s (by first | omega | (simp; done) | (simp; omega)))) rfl ?_; rintro _ _ ⟨ga1, gc1, rfl, rfl⟩
  refine ol_q (wn_none rfl) (op_move (v := .tuple _) rfl) rfl ?_
  refine ol_q (wn_none rfl) (op_extract (v := .slice _ _ _) rfl rfl) rfl ?_
  refine ol_q (wn_none rfl) (op_extract (v := .bool _) rfl rfl) rfl ?_
  refine ol_q (wn_none rfl) (op_assign (v := .slice _ _ _) rfl) rfl ?_
  refine ol_q (wn_none rfl) (op_assign (v := .bool _) rfl) rfl ?_
  refine ol_nil_then ?_
  refine cd_sr ?_   -- 2
  refine ol_i (wn_none rfl) (os_bslice (E := encBool) [_, _, _] (ys := [_, _, _]) sB_22 zv_4 rfl rfl rfl rfl (by decide)) rfl ?_; rintro _ _ ⟨ao1, rfl, rfl⟩
  refine ol_rownil (E := encU8) 5 ?_
  refine ol_i (wn_none rfl) (os_call cb_15 rfl (fun w s => BPut_calls (ao := none) (bs := []) (c := 0) _ _ _ _  s (rds_row 0 rfl rfl) (by first | rfl | simp) (by first | omega | (simp; done) | (simp; omega)) (by first | omega | (simp; done) | (simp; omega)))) rfl ?_; rintro _ _ ⟨pa2, pc2, rfl, rfl⟩
  refine ol_q (wn_none rfl) (op_b2s sB_26 Try.underlying5 Try.underlying9 rfl (rds_row 0 rfl rfl) rfl) rfl ?_
  refine ol_q (wn_none rfl) (op_seql rfl rfl) rfl ?_
  refine ol_q (wn_none rfl) (op_move (v := .bool _) rfl) rfl ?_
  refine ol_split 11 rfl (fun hb1 => ?_) (fun hb1 => ?_)
  · have hp1 := hb1
    (try simp only [decide_eq_true_eq, decide_eq_false_iff_not, Bool.not_eq_true', Bool.not_eq_false', ne_eq, Decidable.not_not] at hp1)
    refine ol_q (wn_some rfl rfl rfl hb1 rfl) (op_move (v := .bool _) rfl) rfl ?_
    refine ol_q (wn_none rfl) (op_pick_t (v := .bool _) rfl hb1 rfl) rfl ?_
    refine ol_q (wn_none rfl) (op_move (v := .bool _) rfl) rfl ?_
    refine ol_split 14 rfl (fun hb2 => ?_) (fun hb2 => ?_)
    · have hp2 := hb2
      (try simp only [decide_eq_true_eq, decide_eq_false_iff_not, Bool.not_eq_true', Bool.not_eq_false', ne_eq, Decidable.not_not] at hp2)
      refine ol_q (wn_some rfl rfl rfl hb2 rfl) (op_move (v := .slice _ _ _) rfl) rfl ?_
      refine ol_q (wn_some rfl rfl rfl hb2 rfl) (op_len_slice Try.underlying22 rfl) rfl ?_
      refine ol_q (wn_some rfl rfl rfl hb2 rfl) (op_eq rfl rfl) rfl ?_
      refine ol_q (wn_none rfl) (op_pick_t (v := .bool _) rfl hb2 rfl) rfl ?_
      refine ol_q (wn_none rfl) (op_move (v := .bool _) rfl) rfl ?_
      refine ol_split 19 rfl (fun hb3 => ?_) (fun hb3 => ?_)
      · have hp3 := hb3
        (try simp only [decide_eq_true_eq, decide_eq_false_iff_not, Bool.not_eq_true', Bool.not_eq_false', ne_eq, Decidable.not_not] at hp3)
        refine ol_q (wn_some rfl rfl rfl hb3 rfl) (op_move (v := .slice _ _ _) rfl) rfl ?_
        refine ol_q (wn_some rfl rfl rfl hb3 rfl) (op_index 0 sB_22 rfl rfl rfl (rds_row 2 rfl rfl) rfl (by decide)) rfl ?_
        refine ol_q (wn_some rfl rfl rfl hb3 rfl) (op_lde 0 0 sc_4 rfl (rds_row 2 rfl rfl) (by decide) rfl rfl rfl) rfl ?_
        refine ol_q (wn_none rfl) (op_pick_t (v := .bool _) rfl hb3 rfl) rfl ?_
        refine ol_q (wn_none rfl) (op_move (v := .bool _) rfl) rfl ?_
        refine ol_split 24 rfl (fun hb4 => ?_) (fun hb4 => ?_)
        · have hp4 := hb4
          (try simp only [decide_eq_true_eq, decide_eq_false_iff_not, Bool.not_eq_true', Bool.not_eq_false', ne_eq, Decidable.not_not] at hp4)
          refine ol_q (wn_some rfl rfl rfl hb4 rfl) (op_move (v := .slice _ _ _) rfl) rfl ?_
          refine ol_q (wn_some rfl rfl rfl hb4 rfl) (op_index 1 sB_22 rfl rfl rfl (rds_row 2 rfl rfl) rfl (by decide)) rfl ?_
          refine ol_q (wn_some rfl rfl rfl hb4 rfl) (op_lde 1 0 sc_4 rfl (rds_row 2 rfl rfl) (by decide) rfl rfl rfl) rfl ?_
          refine ol_q (wn_some rfl rfl rfl hb4 rfl) (op_not rfl) rfl ?_
          refine ol_q (wn_none rfl) (op_pick_t (v := .bool _) rfl hb4 rfl) rfl ?_
          refine ol_q (wn_none rfl) (op_move (v := .bool _) rfl) rfl ?_
          refine ol_split 30 rfl (fun hb5 => ?_) (fun hb5 => ?_)
          · have hp5 := hb5
            (try simp only [decide_eq_true_eq, decide_eq_false_iff_not, Bool.not_eq_true', Bool.not_eq_false', ne_eq, Decidable.not_not] at hp5)
            refine ol_i (wn_some rfl rfl rfl hb5 rfl) (os_call cb_29 rfl (fun w s => Size_calls (n := 8)  s (by omega))) rfl ?_; rintro _ l ⟨rfl, rfl⟩
            refine ol_q (wn_some rfl rfl rfl hb5 rfl) (op_eq rfl rfl) rfl ?_
            refine ol_q (wn_none rfl) (op_pick_t (v := .bool _) rfl hb5 rfl) rfl ?_
            refine ol_q (wn_none rfl) (op_assign (v := .bool _) rfl) rfl ?_
            refine ol_nil_then ?_
            refine cd_ret ?_
            exact px_ret1 rfl (v := .bool _) rfl (fun _ s => (((s.del 2).del 1).del 0)) ⟨congrArg Value.bool (by decide), rfl⟩
          · have hp5 := hb5
            (try simp only [decide_eq_true_eq, decide_eq_false_iff_not, Bool.not_eq_true', Bool.not_eq_false', ne_eq, Decidable.not_not] at hp5)
            exact absurd hb5 (by decide)
        · have hp4 := hb4
          (try simp only [decide_eq_true_eq, decide_eq_false_iff_not, Bool.not_eq_true', Bool.not_eq_false', ne_eq, Decidable.not_not] at hp4)
          exact absurd hb4 (by decide)
      · have hp3 := hb3
        (try simp only [decide_eq_true_eq, decide_eq_false_iff_not, Bool.not_eq_true', Bool.not_eq_false', ne_eq, Decidable.not_not] at hp3)
        exact absurd hb3 (by decide)
    · have hp2 := hb2
      (try simp only [decide_eq_true_eq, decide_eq_false_iff_not, Bool.not_eq_true', Bool.not_eq_false', ne_eq, Decidable.not_not] at hp2)
      exact absurd hb2 (by decide)
  · have hp1 := hb1
    (try simp only [decide_eq_true_eq, decide_eq_false_iff_not, Bool.not_eq_true', Bool.not_eq_false', ne_eq, Decidable.not_not] at hp1)
    exact absurd hb1 (by decide)

theorem BitlistBack_calls {w0 w : World} {l : List HProp} (lo : Option Addr) (lc : Nat) (xs : List Bool) (s : List UInt8) (hs : Sat w0 w (l)) (hr : Rds w0 l encBool lo xs) (hq : ∀ a ∈ xs, True) :
    Calls Try.prog 3 #[.slice lo xs.length lc, .string (B s)] w (Ret w0 fun v l' => v = .bool true ∧ l' = l) := by
  refine calls_enter Try.func3 rfl rfl rfl hs ?_
  refine cd_sr ?_   -- 0
  refine ol_q (wn_none rfl) (op_assign (v := .bool _) rfl) rfl ?_
  refine ol_nil_then ?_
  refine cd_seq ?_
  refine cd_sr ?_   -- 1
  refine ol_i (wn_none rfl) (os_call cb_13 rfl (fun w s => bitAlive_calls  s )) rfl ?_; rintro _ l ⟨rfl, rfl⟩
  refine ol_q (wn_none rfl) (op_not rfl) rfl ?_
  refine ol_nil_then ?_
  refine cd_cond_f rfl rfl ?_
  refine cd_skip ?_
  refine px_then ?_
  refine cd_seq ?_
  refine cd_sr ?_   -- 3
  refine ol_q (wn_none rfl) (op_move (v := .slice _ _ _) rfl) rfl ?_
  refine ol_q (wn_none rfl) (op_len_slice Try.underlying22 rfl) rfl ?_
  refine ol_q (wn_none rfl) (op_gt rfl rfl) rfl ?_
  refine ol_q (wn_none rfl) (op_move (v := .bool _) rfl) rfl ?_
  refine ol_split 16 rfl (fun hb1 => ?_) (fun hb1 => ?_)
  · have hp1 := hb1
    (try simp only [decide_eq_true_eq, decide_eq_false_iff_not, Bool.not_eq_true', Bool.not_eq_false', ne_eq, Decidable.not_not] at hp1)
    refine ol_skip (wn_some rfl rfl rfl hb1 rfl) rfl ?_
    refine ol_skip (wn_some rfl rfl rfl hb1 rfl) rfl ?_
    refine ol_skip (wn_some rfl rfl rfl hb1 rfl) rfl ?_
    refine ol_q (wn_none rfl) (op_pick_t (v := .bool _) rfl hb1 rfl) rfl ?_
    refine ol_nil_then ?_
    refine cd_cond_t rfl rfl ?_
    refine cd_sr ?_   -- 4
    refine ol_q (wn_none rfl) (op_assign (v := .bool _) rfl) rfl ?_
    refine ol_nil_then ?_
    refine cd_ret ?_
    refine px_thenR ?_
    exact px_ret1 rfl (v := .bool _) rfl (fun _ s => s) ⟨congrArg Value.bool (rfl), rfl⟩
  · have hp1 := hb1
    (try simp only [decide_eq_true_eq, decide_eq_false_iff_not, Bool.not_eq_true', Bool.not_eq_false', ne_eq, Decidable.not_not] at hp1)
    refine ol_q (wn_some rfl rfl rfl hb1 rfl) (op_move (v := .string _) rfl) rfl ?_
    refine ol_q (wn_some rfl rfl rfl hb1 rfl) (op_len_string Try.underlying9 rfl) rfl ?_
    refine ol_q (wn_some rfl rfl rfl hb1 rfl) (op_gt rfl rfl) rfl ?_
    refine ol_q (wn_none rfl) (op_pick_f (v := .bool _) rfl hb1 rfl) rfl ?_
    refine ol_nil_then ?_
    refine cd_cond rfl (fun hb2 => ?_) (fun hb2 => ?_)
    · have hp2 := hb2
      (try simp only [decide_eq_true_eq, decide_eq_false_iff_not, Bool.not_eq_true', Bool.not_eq_false', ne_eq, Decidable.not_not] at hp2)
      refine cd_sr ?_   -- 4
      refine ol_q (wn_none rfl) (op_assign (v := .bool _) rfl) rfl ?_
      refine ol_nil_then ?_
      refine cd_ret ?_
      refine px_thenR ?_
      exact px_ret1 rfl (v := .bool _) rfl (fun _ s => s) ⟨congrArg Value.bool (rfl), rfl⟩
    · have hp2 := hb2
      (try simp only [decide_eq_true_eq, decide_eq_false_iff_not, Bool.not_eq_true', Bool.not_eq_false', ne_eq, Decidable.not_not] at hp2)
      obtain ⟨hx5, hs1⟩ : xs.length ≤ 500 ∧ s.length ≤ 100 := ⟨by omega, by omega⟩
      have hg := getB_enc8 xs xs.length (Int.le_refl _)
      have hgd : getD' (enc8 xs) xs.length = xs := by unfold getD'; rw [hg]; rfl
      have hg2 := getB_enc8_no xs (xs.length - 1) (by omega)
      have hgd2 : getD' (enc8 xs) ((xs.length : Int) - 1) = [] := by unfold getD'; rw [hg2]; rfl
      have hel := enc8_length xs
      refine cd_skip ?_
      refine px_then ?_
      refine cd_sr ?_   -- 5
      refine ol_q (wn_none rfl) (op_move (v := .slice _ _ _) rfl) rfl ?_
      refine ol_rownil (E := encU8) 5 ?_
      refine ol_i (wn_none rfl) (os_call cb_15 rfl (fun w s => BPut_calls (ao := none) (bs := []) (c := 0) _ _ _ _  s hr (by first | rfl | simp) (by first | omega | (simp; done) | (simp; omega)) (by first | omega | (simp; done) | (simp; omega)))) rfl ?_; rintro _ _ ⟨pa2, pc2, rfl, rfl⟩; simp only [List.nil_append]
      refine ol_q (wn_none rfl) (op_b2s sB_26 Try.underlying5 Try.underlying9 rfl (rds_row 0 rfl rfl) rfl) rfl ?_
      refine ol_q (wn_none rfl) (op_move (v := .slice _ _ _) rfl) rfl ?_
      refine ol_q (wn_none rfl) (op_len_slice Try.underlying22 rfl) rfl ?_
      refine ol_i (wn_none rfl) (os_call cb_14 rfl (fun w s => BGet_calls _ _  s (by first | omega | (simp; done) | (simp; omega)))) rfl ?_; rintro _ _ ⟨ga3, gc3, rfl, rfl⟩; simp only [hgd, hg, Option.isSome_some]
      refine ol_q (wn_none rfl) (op_move (v := .tuple _) rfl) rfl ?_
      refine ol_q (wn_none rfl) (op_extract (v := .slice _ _ _) rfl rfl) rfl ?_
      refine ol_q (wn_none rfl) (op_extract (v := .bool _) rfl rfl) rfl ?_
      refine ol_q (wn_none rfl) (op_assign (v := .slice _ _ _) rfl) rfl ?_
      refine ol_q (wn_none rfl) (op_assign (v := .bool _) rfl) rfl ?_
      refine ol_nil_then ?_
      refine cd_seq ?_
      refine cd_sr ?_   -- 6
      refine ol_q (wn_none rfl) (op_move (v := .bool _) rfl) rfl ?_
      refine ol_q (wn_none rfl) (op_not rfl) rfl ?_
      refine ol_q (wn_none rfl) (op_move (v := .bool _) rfl) rfl ?_
      refine ol_q (wn_some rfl rfl rfl rfl rfl) (op_move (v := .slice _ _ _) rfl) rfl ?_
      refine ol_q (wn_some rfl rfl rfl rfl rfl) (op_move (v := .slice _ _ _) rfl) rfl ?_
      refine ol_i (wn_some rfl rfl rfl rfl rfl) (os_call cb_16 rfl (fun w s => Same_calls _ _ _ _ _ _  s (rds_row 0 rfl rfl) ((hr.cons _).cons _) (by first | omega | (simp; done) | (simp; omega)))) rfl ?_; rintro _ l ⟨rfl, rfl⟩
      refine ol_q (wn_some rfl rfl rfl rfl rfl) (op_not rfl) rfl ?_
      refine ol_q (wn_none rfl) (op_pick_f (v := .bool _) rfl rfl rfl) rfl ?_
      refine ol_nil_then ?_
      refine cd_cond rfl (fun hb3 => ?_) (fun hb3 => ?_)
      · have hp3 := hb3
        (try simp only [decide_eq_true_eq, decide_eq_false_iff_not, Bool.not_eq_true', Bool.not_eq_false', ne_eq, Decidable.not_not] at hp3)
        exact absurd hb3 (by simp)
      · have hp3 := hb3
        (try simp only [decide_eq_true_eq, decide_eq_false_iff_not, Bool.not_eq_true', Bool.not_eq_false', ne_eq, Decidable.not_not] at hp3)
        refine cd_skip ?_
        refine px_then ?_
        refine cd_seq ?_
        refine cd_sr ?_   -- 8
        refine ol_q (wn_none rfl) (op_move (v := .slice _ _ _) rfl) rfl ?_
        refine ol_rownil (E := encU8) 5 ?_
        refine ol_i (wn_none rfl) (os_call cb_15 rfl (fun w s => BPut_calls (ao := none) (bs := []) (c := 0) _ _ _ _  s ((hr.cons _).cons _) (by first | rfl | simp) (by first | omega | (simp; done) | (simp; omega)) (by first | omega | (simp; done) | (simp; omega)))) rfl ?_; rintro _ _ ⟨pa5, pc5, rfl, rfl⟩; simp only [List.nil_append]
        refine ol_q (wn_none rfl) (op_b2s sB_26 Try.underlying5 Try.underlying9 rfl (rds_row 0 rfl rfl) rfl) rfl ?_
        refine ol_q (wn_none rfl) (op_move (v := .slice _ _ _) rfl) rfl ?_
        refine ol_q (wn_none rfl) (op_len_slice Try.underlying22 rfl) rfl ?_
        refine ol_q (wn_none rfl) (op_sub rfl rfl (by omega) (by omega)) rfl ?_
        refine ol_i (wn_none rfl) (os_call cb_14 rfl (fun w s => BGet_calls _ _  s (by first | omega | (simp; done) | (simp; omega)))) rfl ?_; rintro _ _ ⟨ga6, gc6, rfl, rfl⟩; simp only [hgd2, hg2, Option.isSome_none]
        refine ol_q (wn_none rfl) (op_move (v := .tuple _) rfl) rfl ?_
        refine ol_q (wn_none rfl) (op_extract (v := .slice _ _ _) rfl rfl) rfl ?_
        refine ol_q (wn_none rfl) (op_extract (v := .bool _) rfl rfl) rfl ?_
        refine ol_q (wn_none rfl) (op_assign (v := .slice _ _ _) rfl) rfl ?_
        refine ol_q (wn_none rfl) (op_assign (v := .bool _) rfl) rfl ?_
        refine ol_nil_then ?_
        refine cd_sr ?_   -- 9
        refine ol_q (wn_none rfl) (op_move (v := .bool _) rfl) rfl ?_
        refine ol_nil_then ?_
        refine cd_cond_f rfl rfl ?_
        refine cd_skip ?_
        refine px_then ?_
        refine cd_sr ?_   -- 11
        refine ol_q (wn_none rfl) (op_move (v := .string _) rfl) rfl ?_
        refine ol_i (wn_none rfl) (os_call cb_14 rfl (fun w s => BGet_calls (most := 1000) _  s (by first | omega | (simp; done) | (simp; omega)))) rfl ?_; rintro _ _ ⟨ga7, gc7, rfl, rfl⟩
        refine ol_q (wn_none rfl) (op_move (v := .tuple _) rfl) rfl ?_
        refine ol_q (wn_none rfl) (op_extract (v := .slice _ _ _) rfl rfl) rfl ?_
        refine ol_q (wn_none rfl) (op_extract (v := .bool _) rfl rfl) rfl ?_
        refine ol_q (wn_none rfl) (op_assign (v := .slice _ _ _) rfl) rfl ?_
        refine ol_q (wn_none rfl) (op_assign (v := .bool _) rfl) rfl ?_
        refine ol_nil_then ?_
        refine cd_sr ?_   -- 12
        refine ol_q (wn_none rfl) (op_move (v := .bool _) rfl) rfl ?_
        refine ol_q (wn_none rfl) (op_not rfl) rfl ?_
        refine ol_q (wn_none rfl) (op_move (v := .bool _) rfl) rfl ?_
        refine ol_split 56 rfl (fun hb4 => ?_) (fun hb4 => ?_)
        · have hp4 := hb4
          (try simp only [decide_eq_true_eq, decide_eq_false_iff_not, Bool.not_eq_true', Bool.not_eq_false', ne_eq, Decidable.not_not] at hp4)
          refine ol_skip (wn_some rfl rfl rfl hb4 rfl) rfl ?_
          refine ol_skip (wn_some rfl rfl rfl hb4 rfl) rfl ?_
          refine ol_skip (wn_some rfl rfl rfl hb4 rfl) rfl ?_
          refine ol_skip (wn_some rfl rfl rfl hb4 rfl) rfl ?_
          refine ol_skip (wn_some rfl rfl rfl hb4 rfl) rfl ?_
          refine ol_q (wn_none rfl) (op_pick_t (v := .bool _) rfl hb4 rfl) rfl ?_
          refine ol_q (wn_none rfl) (op_assign (v := .bool _) rfl) rfl ?_
          refine ol_nil_then ?_
          refine cd_ret ?_
          exact px_ret1 rfl (v := .bool _) rfl (fun _ s => (((((s.del 4).del 3).del 2).del 1).del 0)) ⟨congrArg Value.bool (rfl), rfl⟩
        · have hp4 := hb4
          (try simp only [decide_eq_true_eq, decide_eq_false_iff_not, Bool.not_eq_true', Bool.not_eq_false', ne_eq, Decidable.not_not] at hp4)
          have hsome : (getB s 1000).isSome = true := by simpa using hb4
          obtain ⟨hbk, hbl⟩ := getB_back hsome
          refine ol_q (wn_some rfl rfl rfl hb4 rfl) (op_move (v := .slice _ _ _) rfl) rfl ?_
          refine ol_rownil (E := encU8) 5 ?_
          refine ol_i (wn_some rfl rfl rfl hb4 rfl) (os_call cb_15 rfl (fun w s => BPut_calls (ao := none) (bs := []) (c := 0) _ _ _ _  s (rds_row 0 rfl rfl) (by first | rfl | simp) (by first | omega | (simp; done) | (simp; omega)) (by first | omega | (simp; done) | (simp; omega)))) rfl ?_; rintro _ _ ⟨pa8, pc8, rfl, rfl⟩; simp only [List.nil_append]
          refine ol_q (wn_some rfl rfl rfl hb4 rfl) (op_b2s sB_26 Try.underlying5 Try.underlying9 rfl (rds_row 0 rfl rfl) rfl) rfl ?_
          refine ol_q (wn_some rfl rfl rfl hb4 rfl) (op_move (v := .string _) rfl) rfl ?_
          refine ol_q (wn_some rfl rfl rfl hb4 rfl) (op_seql rfl rfl) rfl ?_
          refine ol_q (wn_none rfl) (op_pick_f (v := .bool _) rfl hb4 rfl) rfl ?_
          refine ol_q (wn_none rfl) (op_assign (v := .bool _) rfl) rfl ?_
          refine ol_nil_then ?_
          refine cd_ret ?_
          exact px_ret1 rfl (v := .bool _) rfl (fun _ s => ((((((s.del 5).del 4).del 3).del 2).del 1).del 0)) ⟨congrArg Value.bool (decide_eq_true hbk), rfl⟩

theorem BitlistSizes_calls {w0 w : World} {l : List HProp} (lo : Option Addr) (lc : Nat) (xs : List Bool) (hs : Sat w0 w (l)) (hr : Rds w0 l encBool lo xs) (hq : ∀ a ∈ xs, True) :
    Calls Try.prog 11 #[.slice lo xs.length lc] w (Ret w0 fun v l' => v = .bool true ∧ l' = l) := by
  refine calls_enter Try.func11 rfl rfl rfl hs ?_
  refine cd_sr ?_   -- 0
  refine ol_q (wn_none rfl) (op_assign (v := .bool _) rfl) rfl ?_
  refine ol_nil_then ?_
  refine cd_seq ?_
  refine cd_sr ?_   -- 1
  refine ol_i (wn_none rfl) (os_call cb_13 rfl (fun w s => bitAlive_calls  s )) rfl ?_; rintro _ l ⟨rfl, rfl⟩
  refine ol_q (wn_none rfl) (op_not rfl) rfl ?_
  refine ol_nil_then ?_
  refine cd_cond_f rfl rfl ?_
  refine cd_skip ?_
  refine px_then ?_
  refine cd_seq ?_
  refine cd_sr ?_   -- 3
  refine ol_q (wn_none rfl) (op_move (v := .slice _ _ _) rfl) rfl ?_
  refine ol_q (wn_none rfl) (op_len_slice Try.underlying22 rfl) rfl ?_
  refine ol_q (wn_none rfl) (op_gt rfl rfl) rfl ?_
  refine ol_nil_then ?_
  refine cd_cond rfl (fun hb1 => ?_) (fun hb1 => ?_)
  · have hp1 := hb1
    (try simp only [decide_eq_true_eq, decide_eq_false_iff_not, Bool.not_eq_true', Bool.not_eq_false', ne_eq, Decidable.not_not] at hp1)
    refine cd_sr ?_   -- 4
    refine ol_q (wn_none rfl) (op_assign (v := .bool _) rfl) rfl ?_
    refine ol_nil_then ?_
    refine cd_ret ?_
    refine px_thenR ?_
    exact px_ret1 rfl (v := .bool _) rfl (fun _ s => s) ⟨congrArg Value.bool (rfl), rfl⟩
  · have hp1 := hb1
    (try simp only [decide_eq_true_eq, decide_eq_false_iff_not, Bool.not_eq_true', Bool.not_eq_false', ne_eq, Decidable.not_not] at hp1)
    have hel := enc8_length xs
    have hcn := cnt_num xs
    have hple := places_len xs 0
    refine cd_skip ?_
    refine px_then ?_
    refine cd_sr ?_   -- 5
    refine ol_q (wn_none rfl) (op_move (v := .slice _ _ _) rfl) rfl ?_
    refine ol_rownil (E := encU8) 5 ?_
    refine ol_i (wn_none rfl) (os_call cb_15 rfl (fun w s => BPut_calls (ao := none) (bs := []) (c := 0) _ _ _ _  s hr (by first | rfl | simp) (by first | omega | (simp; done) | (simp; omega)) (by first | omega | (simp; done) | (simp; omega)))) rfl ?_; rintro _ _ ⟨pa2, pc2, rfl, rfl⟩; simp only [List.nil_append]
    refine ol_q (wn_none rfl) (op_assign (v := .slice _ _ _) rfl) rfl ?_
    refine ol_nil_then ?_
    refine cd_sr ?_   -- 6
    refine ol_q (wn_none rfl) (op_assign (v := .int _ _) rfl) rfl ?_
    refine ol_nil_then ?_
    refine cd_seq ?_
    refine cd_sr ?_   -- 7
    refine ol_q (wn_none rfl) (op_move (v := .slice _ _ _) rfl) rfl ?_
    refine ol_q (wn_none rfl) (op_len_slice Try.underlying26 rfl) rfl ?_
    refine ol_q (wn_none rfl) (op_move (v := .int _ _) rfl) rfl ?_
    refine ol_nil_then ?_
    refine cd_block ?_
    refine cd_loop (α := Nat) (fun j => [(0, .slice lo xs.length lc), (3, .slice pa2 (enc8 xs).length pc2), (4, .int .i64 (cnt (num xs) (8 * j) : Nat)), (15, .slice pa2 (enc8 xs).length pc2), (16, .int .i64 (enc8 xs).length), (17, .int .i64 j)]) (fun _ => Row 5 encU8 (.slice pa2 (enc8 xs).length pc2) (enc8 xs) :: l) (fun j => j ≤ (enc8 xs).length) (fun j => (enc8 xs).length - j) 0 (Nat.zero_le _) ⟨rfl, rfl, rfl, rfl, rfl, rfl, trivial⟩ (fun _ s => s) ?_
    intro j hj f; (try dsimp only at hj ⊢)
    refine cd_sr ?_   -- 8
    refine ol_q (wn_none rfl) (op_lt rfl rfl) rfl ?_
    refine ol_nil_then ?_
    refine cd_seq ?_
    refine cd_cond rfl (fun hb2 => ?_) (fun hb2 => ?_)
    · have hp2 := hb2
      (try simp only [decide_eq_true_eq, decide_eq_false_iff_not, Bool.not_eq_true', Bool.not_eq_false', ne_eq, Decidable.not_not] at hp2)
      have hj1 : j < (enc8 xs).length := by omega
      refine cd_skip ?_
      refine px_then ?_
      refine cd_seq ?_
      refine cd_block ?_
      refine cd_sr ?_   -- 9
      refine ol_q (wn_none rfl) (op_index _ sB_26 rfl rfl rfl (rds_row 0 rfl rfl) rfl (by omega)) rfl ?_
      refine ol_q (wn_none rfl) (op_lde _ 0 sc_5 rfl (rds_row 0 rfl rfl) (by omega) rfl rfl rfl) rfl ?_
      refine ol_q (wn_none rfl) (op_assign (v := .int _ _) rfl) rfl ?_
      refine ol_nil_then ?_
      refine cd_sr ?_   -- 10
      refine ol_q (wn_none rfl) (op_assign (v := .int _ _) rfl) rfl ?_
      refine ol_nil_then ?_
      refine cd_block ?_
      refine cd_loop (α := Nat) (fun k => [(0, .slice lo xs.length lc), (3, .slice pa2 (enc8 xs).length pc2), (4, .int .i64 (cnt (num xs) (8 * j + k) : Nat)), (6, .int .u8 ((enc8 xs)[j].toNat : Int)), (7, .int .i64 k), (15, .slice pa2 (enc8 xs).length pc2), (16, .int .i64 (enc8 xs).length), (17, .int .i64 j)]) (fun _ => Row 5 encU8 (.slice pa2 (enc8 xs).length pc2) (enc8 xs) :: l) (fun k => k ≤ 8) (fun k => 8 - k) 0 (Nat.zero_le _) ⟨rfl, rfl, rfl, rfl, rfl, rfl, rfl, rfl, trivial⟩ (fun _ s => s) ?_
      intro k hk f; (try dsimp only at hk ⊢)
      refine cd_seq ?_
      refine cd_sr ?_   -- 11
      refine ol_q (wn_none rfl) (op_move (v := .int _ _) rfl) rfl ?_
      refine ol_q (wn_none rfl) (op_lt rfl rfl) rfl ?_
      refine ol_nil_then ?_
      refine cd_cond rfl (fun hb3 => ?_) (fun hb3 => ?_)
      · have hp3 := hb3
        (try simp only [decide_eq_true_eq, decide_eq_false_iff_not, Bool.not_eq_true', Bool.not_eq_false', ne_eq, Decidable.not_not] at hp3)
        have hcs := cnt_step xs j k (by omega) hj1
        have hcl := cnt_le (num xs) (8 * j + k)
        refine cd_skip ?_
        refine px_then ?_
        refine cd_seq ?_
        refine cd_block ?_
        refine cd_region ?_   -- 13
        refine ol_q (wn_none rfl) (op_move (v := .int _ _) rfl) rfl ?_
        refine ol_q (wn_none rfl) (op_move (v := .int _ _) rfl) rfl ?_
        refine ol_q (wn_none rfl) (op_move (v := .int _ _) rfl) rfl ?_
        refine ol_q (wn_none rfl) (op_conv64 (A := k) Try.underlying39 (by rw [Try.underlying3]; rfl) rfl (by omega)) rfl ?_
        refine ol_q (wn_none rfl) (op_shr_nat (m := k) rfl rfl (by show k ≤ 8; omega)) rfl ?_
        refine ol_q (wn_none rfl) (op_and1 rfl (Nat.lt_of_le_of_lt (Nat.div_le_self _ _) (UInt8.toNat_lt _)) rfl) rfl ?_
        refine ol_q (wn_none rfl) (op_convint Try.underlying3 (by rw [Try.underlying5]; rfl) rfl (by omega)) rfl ?_
        refine ol_q (wn_none rfl) (op_add rfl rfl (by omega) (by omega)) rfl ?_
        refine ol_q (wn_none rfl) (op_assign (v := .int _ _) rfl) rfl ?_
        refine ol_nil ?_
        refine px_blockN ?_
        refine px_then ?_
        refine cd_region ?_   -- 12
        refine ol_q (wn_none rfl) (op_move (v := .int _ _) rfl) rfl ?_
        refine ol_q (wn_none rfl) (op_add rfl rfl (by omega) (by omega)) rfl ?_
        refine ol_q (wn_none rfl) (op_assign (v := .int _ _) rfl) rfl ?_
        refine ol_nil ?_
        exact px_loop (k + 1) (by omega) (by omega) ⟨rfl, rfl, congrArg (Value.int .i64) (by rw [← Nat.add_assoc, hcs]; simp), rfl, congrArg (Value.int .i64) (by simp), rfl, rfl, rfl, trivial⟩ (fun _ s => s)
      · have hp3 := hb3
        (try simp only [decide_eq_true_eq, decide_eq_false_iff_not, Bool.not_eq_true', Bool.not_eq_false', ne_eq, Decidable.not_not] at hp3)
        have e : k = 8 := by omega
        subst e
        refine cd_exit ?_
        refine px_thenE ?_
        refine px_thenE ?_
        refine px_blockE ?_
        refine px_blockN ?_
        refine px_then ?_
        refine cd_region ?_   -- 14
        refine ol_q (wn_none rfl) (op_add rfl rfl (by omega) (by omega)) rfl ?_
        refine ol_q (wn_none rfl) (op_move (v := .int _ _) rfl) rfl ?_
        refine ol_nil ?_
        exact px_loop (j + 1) (by omega) (by omega) ⟨rfl, rfl, rfl, rfl, rfl, congrArg (Value.int .i64) (by simp), trivial⟩ (fun _ s => s)
    · have hp2 := hb2
      (try simp only [decide_eq_true_eq, decide_eq_false_iff_not, Bool.not_eq_true', Bool.not_eq_false', ne_eq, Decidable.not_not] at hp2)
      have e : j = (enc8 xs).length := by omega
      subst e
      have hcn2 := hcn
      rw [← hel] at hcn2
      refine cd_exit ?_
      refine px_thenE ?_
      refine px_thenE ?_
      refine px_blockE ?_
      refine px_then ?_
      refine cd_sr ?_   -- 15
      refine ol_q (wn_none rfl) (op_move (v := .slice _ _ _) rfl) rfl ?_
      refine ol_q (wn_none rfl) (op_len_slice Try.underlying26 rfl) rfl ?_
      refine ol_q (wn_none rfl) (op_move (v := .slice _ _ _) rfl) rfl ?_
      refine ol_q (wn_none rfl) (op_len_slice Try.underlying22 rfl) rfl ?_
      refine ol_i (wn_none rfl) (os_call cb_29 rfl (fun w s => Size_calls _  s (by omega))) rfl ?_; rintro _ l ⟨rfl, rfl⟩
      refine ol_q (wn_none rfl) (op_eq rfl rfl) rfl ?_
      refine ol_q (wn_none rfl) (op_move (v := .bool _) rfl) rfl ?_
      refine ol_split 40 rfl (fun hb4 => ?_) (fun hb4 => ?_)
      · have hp4 := hb4
        (try simp only [decide_eq_true_eq, decide_eq_false_iff_not, Bool.not_eq_true', Bool.not_eq_false', ne_eq, Decidable.not_not] at hp4)
        refine ol_q (wn_some rfl rfl rfl hb4 rfl) (op_move (v := .slice _ _ _) rfl) rfl ?_
        refine ol_i (wn_some rfl rfl rfl hb4 rfl) (os_call cb_31 rfl (fun w s => Places_calls _ _ _  s (hr.cons _) (by first | omega | (simp; done) | (simp; omega)))) rfl ?_; rintro _ _ ⟨qa4, qc4, rfl, rfl⟩
        refine ol_q (wn_some rfl rfl rfl hb4 rfl) (op_len_slice Try.underlying54 rfl) rfl ?_
        refine ol_q (wn_some rfl rfl rfl hb4 rfl) (op_move (v := .int _ _) rfl) rfl ?_
        refine ol_q (wn_some rfl rfl rfl hb4 rfl) (op_sub rfl rfl (by omega) (by omega)) rfl ?_
        refine ol_q (wn_some rfl rfl rfl hb4 rfl) (op_eq rfl rfl) rfl ?_
        refine ol_q (wn_none rfl) (op_pick_t (v := .bool _) rfl hb4 rfl) rfl ?_
        refine ol_q (wn_none rfl) (op_assign (v := .bool _) rfl) rfl ?_
        refine ol_nil_then ?_
        refine cd_ret ?_
        exact px_ret1 rfl (v := .bool _) rfl (fun _ s => ((s.del 1).del 0)) ⟨congrArg Value.bool (decide_eq_true (by omega)), rfl⟩
      · have hp4 := hb4
        (try simp only [decide_eq_true_eq, decide_eq_false_iff_not, Bool.not_eq_true', Bool.not_eq_false', ne_eq, Decidable.not_not] at hp4)
        exact absurd hp4 (by split <;> omega)

theorem BitlistPlaces_calls {w0 w : World} {l : List HProp} (lo : Option Addr) (lc : Nat) (xs : List Bool) (hs : Sat w0 w (l)) (hr : Rds w0 l encBool lo xs) (hq : ∀ a ∈ xs, True) :
    Calls Try.prog 12 #[.slice lo xs.length lc] w (Ret w0 fun v l' => v = .bool true ∧ l' = l) := by
  refine calls_enter Try.func12 rfl rfl rfl hs ?_
  refine cd_sr ?_   -- 0
  refine ol_q (wn_none rfl) (op_assign (v := .bool _) rfl) rfl ?_
  refine ol_nil_then ?_
  refine cd_seq ?_
  refine cd_sr ?_   -- 1
  refine ol_i (wn_none rfl) (os_call cb_13 rfl (fun w s => bitAlive_calls  s )) rfl ?_; rintro _ l ⟨rfl, rfl⟩
  refine ol_q (wn_none rfl) (op_not rfl) rfl ?_
  refine ol_nil_then ?_
  refine cd_cond_f rfl rfl ?_
  refine cd_skip ?_
  refine px_then ?_
  refine cd_seq ?_
  refine cd_sr ?_   -- 3
  refine ol_q (wn_none rfl) (op_move (v := .slice _ _ _) rfl) rfl ?_
  refine ol_q (wn_none rfl) (op_len_slice Try.underlying22 rfl) rfl ?_
  refine ol_q (wn_none rfl) (op_gt rfl rfl) rfl ?_
  refine ol_nil_then ?_
  refine cd_cond rfl (fun hb1 => ?_) (fun hb1 => ?_)
  · have hp1 := hb1
    (try simp only [decide_eq_true_eq, decide_eq_false_iff_not, Bool.not_eq_true', Bool.not_eq_false', ne_eq, Decidable.not_not] at hp1)
    refine cd_sr ?_   -- 4
    refine ol_q (wn_none rfl) (op_assign (v := .bool _) rfl) rfl ?_
    refine ol_nil_then ?_
    refine cd_ret ?_
    refine px_thenR ?_
    exact px_ret1 rfl (v := .bool _) rfl (fun _ s => s) ⟨congrArg Value.bool (rfl), rfl⟩
  · have hp1 := hb1
    (try simp only [decide_eq_true_eq, decide_eq_false_iff_not, Bool.not_eq_true', Bool.not_eq_false', ne_eq, Decidable.not_not] at hp1)
    have hple := places_len xs 0
    refine cd_skip ?_
    refine px_then ?_
    refine cd_sr ?_   -- 5
    refine ol_q (wn_none rfl) (op_move (v := .slice _ _ _) rfl) rfl ?_
    refine ol_q (wn_none rfl) (op_len_slice Try.underlying22 rfl) rfl ?_
    refine ol_i (wn_none rfl) (os_make (E := encBool) (_) (false) sB_22 zv_4 rfl rfl rfl rfl (by omega) (by unfold maxLen; omega)) rfl ?_; rintro _ _ ⟨ao1, rfl, rfl⟩
    refine ol_q (wn_none rfl) (op_assign (v := .slice _ _ _) rfl) rfl ?_
    refine ol_nil_then ?_
    refine cd_sr ?_   -- 6
    refine ol_q (wn_none rfl) (op_assign (v := .int _ _) rfl) rfl ?_
    refine ol_nil_then ?_
    refine cd_seq ?_
    refine cd_sr ?_   -- 7
    refine ol_q (wn_none rfl) (op_move (v := .slice _ _ _) rfl) rfl ?_
    refine ol_i (wn_none rfl) (os_call cb_31 rfl (fun w s => Places_calls _ _ _  s (hr.cons _) (by first | omega | (simp; done) | (simp; omega)))) rfl ?_; rintro _ _ ⟨qa2, qc2, rfl, rfl⟩
    refine ol_q (wn_none rfl) (op_len_slice Try.underlying54 rfl) rfl ?_
    refine ol_q (wn_none rfl) (op_move (v := .int _ _) rfl) rfl ?_
    refine ol_nil_then ?_
    refine cd_block ?_
    refine cd_loop (α := Nat) (fun m => [(0, .slice lo xs.length lc), (3, .slice ao1 xs.length xs.length), (4, .int .i64 (lastI (places xs 0) m)), (16, .slice qa2 (places xs 0).length qc2), (17, .int .i64 (places xs 0).length), (18, .int .i64 m)]) (fun m => Row 4 encBool (.slice ao1 xs.length xs.length) (marks ((places xs 0).take m) xs.length) :: Row 3 encI64 (.slice qa2 (places xs 0).length qc2) (places xs 0) :: l) (fun m => m ≤ (places xs 0).length) (fun m => (places xs 0).length - m) 0 (Nat.zero_le _) ⟨rfl, congrArg (fun q => Value.slice ao1 q xs.length) (by simp), rfl, rfl, rfl, rfl, trivial⟩ (fun _ s => by simpa [marks_nil] using s.pull 1) ?_
    intro m hm f; (try dsimp only at hm ⊢)
    refine cd_sr ?_   -- 8
    refine ol_q (wn_none rfl) (op_lt rfl rfl) rfl ?_
    refine ol_nil_then ?_
    refine cd_seq ?_
    refine cd_cond rfl (fun hb2 => ?_) (fun hb2 => ?_)
    · have hp2 := hb2
      (try simp only [decide_eq_true_eq, decide_eq_false_iff_not, Bool.not_eq_true', Bool.not_eq_false', ne_eq, Decidable.not_not] at hp2)
      have hm1 : m < (places xs 0).length := by omega
      obtain ⟨hp0, hpn, hpl, hpe⟩ := places_facts xs m hm1
      have hms := marks_set ((places xs 0).take m) xs.length (places xs 0)[m] hp0 hpn
      rw [← List.take_succ_eq_append_getElem hm1] at hms
      have hLm : (marks ((places xs 0).take m) xs.length).length = xs.length := marks_length _ _
      refine cd_skip ?_
      refine px_then ?_
      refine cd_seq ?_
      refine cd_block ?_
      refine cd_sr ?_   -- 9
      refine ol_q (wn_none rfl) (op_index _ sB_54 rfl rfl rfl (rds_row 1 rfl rfl) rfl (by omega)) rfl ?_
      refine ol_q (wn_none rfl) (op_lde _ 0 sc_3 rfl (rds_row 1 rfl rfl) (by omega) rfl rfl rfl) rfl ?_
      refine ol_q (wn_none rfl) (op_assign (v := .int _ _) rfl) rfl ?_
      refine ol_nil_then ?_
      refine cd_seq ?_
      refine cd_sr ?_   -- 10
      refine ol_q (wn_none rfl) (op_move (v := .int _ _) rfl) rfl ?_
      refine ol_q (wn_none rfl) (op_move (v := .int _ _) rfl) rfl ?_
      refine ol_q (wn_none rfl) (op_le rfl rfl) rfl ?_
      refine ol_q (wn_none rfl) (op_move (v := .bool _) rfl) rfl ?_
      refine ol_split 25 rfl (fun hb3 => ?_) (fun hb3 => ?_)
      · have hp3 := hb3
        (try simp only [decide_eq_true_eq, decide_eq_false_iff_not, Bool.not_eq_true', Bool.not_eq_false', ne_eq, Decidable.not_not] at hp3)
        exact absurd hp3 (by omega)
      · have hp3 := hb3
        (try simp only [decide_eq_true_eq, decide_eq_false_iff_not, Bool.not_eq_true', Bool.not_eq_false', ne_eq, Decidable.not_not] at hp3)
        refine ol_q (wn_some rfl rfl rfl hb3 rfl) (op_move (v := .int _ _) rfl) rfl ?_
        refine ol_q (wn_some rfl rfl rfl hb3 rfl) (op_move (v := .slice _ _ _) rfl) rfl ?_
        refine ol_q (wn_some rfl rfl rfl hb3 rfl) (op_len_slice Try.underlying22 rfl) rfl ?_
        refine ol_q (wn_some rfl rfl rfl hb3 rfl) (op_ge rfl rfl) rfl ?_
        refine ol_q (wn_none rfl) (op_pick_f (v := .bool _) rfl hb3 rfl) rfl ?_
        refine ol_nil_then ?_
        refine cd_cond rfl (fun hb4 => ?_) (fun hb4 => ?_)
        · have hp4 := hb4
          (try simp only [decide_eq_true_eq, decide_eq_false_iff_not, Bool.not_eq_true', Bool.not_eq_false', ne_eq, Decidable.not_not] at hp4)
          exact absurd hp4 (by omega)
        · have hp4 := hb4
          (try simp only [decide_eq_true_eq, decide_eq_false_iff_not, Bool.not_eq_true', Bool.not_eq_false', ne_eq, Decidable.not_not] at hp4)
          refine cd_skip ?_
          refine px_then ?_
          refine cd_sr ?_   -- 12
          refine ol_q (wn_none rfl) (op_move (v := .slice _ _ _) rfl) rfl ?_
          refine ol_q (wn_none rfl) (op_move (v := .int _ _) rfl) rfl ?_
          refine ol_q (wn_none rfl) (op_index _ sB_22 rfl rfl (Int.toNat_of_nonneg (by omega)).symm (rds_row 0 rfl rfl) (marks_length _ _) (by rw [marks_length]; omega)) rfl ?_
          refine ol_iN (wn_none rfl) (os_ste  _ 0 sc_4 rfl rfl rfl (by omega) rfl rfl rfl rfl) ?_; rintro _ _ ⟨rfl, rfl⟩
          refine ol_nil_then ?_
          refine cd_region ?_   -- 13
          refine ol_q (wn_none rfl) (op_move (v := .int _ _) rfl) rfl ?_
          refine ol_q (wn_none rfl) (op_assign (v := .int _ _) rfl) rfl ?_
          refine ol_nil ?_
          refine px_blockN ?_
          refine px_then ?_
          refine cd_region ?_   -- 14
          refine ol_q (wn_none rfl) (op_add rfl rfl (by omega) (by omega)) rfl ?_
          refine ol_q (wn_none rfl) (op_move (v := .int _ _) rfl) rfl ?_
          refine ol_nil ?_
          exact px_loop (m + 1) (by omega) (by omega) ⟨rfl, rfl, congrArg (Value.int .i64) hpe.symm, rfl, rfl, congrArg (Value.int .i64) (by simp), trivial⟩ (fun _ s => by rw [hms] at s; exact s)
    · have hp2 := hb2
      (try simp only [decide_eq_true_eq, decide_eq_false_iff_not, Bool.not_eq_true', Bool.not_eq_false', ne_eq, Decidable.not_not] at hp2)
      have e : m = (places xs 0).length := by omega
      subst e
      rw [List.take_length, marks_places]
      refine cd_exit ?_
      refine px_thenE ?_
      refine px_thenE ?_
      refine px_blockE ?_
      refine px_then ?_
      refine cd_sr ?_   -- 15
      refine ol_q (wn_none rfl) (op_move (v := .slice _ _ _) rfl) rfl ?_
      refine ol_q (wn_none rfl) (op_move (v := .slice _ _ _) rfl) rfl ?_
      refine ol_i (wn_none rfl) (os_call cb_16 rfl (fun w s => Same_calls _ _ _ _ _ _  s (rds_row 0 rfl rfl) ((hr.cons _).cons _) (by first | omega | (simp; done) | (simp; omega)))) rfl ?_; rintro _ l ⟨rfl, rfl⟩
      refine ol_q (wn_none rfl) (op_assign (v := .bool _) rfl) rfl ?_
      refine ol_nil_then ?_
      refine cd_ret ?_
      exact px_ret1 rfl (v := .bool _) rfl (fun _ s => ((s.del 1).del 0)) ⟨congrArg Value.bool (decide_eq_true rfl), rfl⟩

theorem BitlistTurned_calls {w0 w : World} {l : List HProp} (lo : Option Addr) (lc : Nat) (xs : List Bool) (n : Int) (more : Bool) (hs : Sat w0 w (l)) (hr : Rds w0 l encBool lo xs) (hc : xs.length ≤ lc) (hq : ∀ a ∈ xs, True) :
    Calls Try.prog 4 #[.slice lo xs.length lc, .int .i64 n, .bool more] w (Ret w0 fun v l' => v = .bool true ∧ l' = l) := by
  refine calls_enter Try.func4 rfl rfl rfl hs ?_
  refine cd_sr ?_   -- 0
  refine ol_q (wn_none rfl) (op_assign (v := .bool _) rfl) rfl ?_
  refine ol_nil_then ?_
  refine cd_seq ?_
  refine cd_sr ?_   -- 1
  refine ol_i (wn_none rfl) (os_call cb_13 rfl (fun w s => bitAlive_calls  s )) rfl ?_; rintro _ l ⟨rfl, rfl⟩
  refine ol_q (wn_none rfl) (op_not rfl) rfl ?_
  refine ol_nil_then ?_
  refine cd_cond_f rfl rfl ?_
  refine cd_skip ?_
  refine px_then ?_
  refine cd_seq ?_
  refine cd_sr ?_   -- 3
  refine ol_q (wn_none rfl) (op_move (v := .slice _ _ _) rfl) rfl ?_
  refine ol_q (wn_none rfl) (op_len_slice Try.underlying22 rfl) rfl ?_
  refine ol_q (wn_none rfl) (op_gt rfl rfl) rfl ?_
  refine ol_q (wn_none rfl) (op_move (v := .bool _) rfl) rfl ?_
  refine ol_split 14 rfl (fun hb1 => ?_) (fun hb1 => ?_)
  · have hp1 := hb1
    (try simp only [decide_eq_true_eq, decide_eq_false_iff_not, Bool.not_eq_true', Bool.not_eq_false', ne_eq, Decidable.not_not] at hp1)
    refine ol_skip (wn_some rfl rfl rfl hb1 rfl) rfl ?_
    refine ol_skip (wn_some rfl rfl rfl hb1 rfl) rfl ?_
    refine ol_q (wn_none rfl) (op_pick_t (v := .bool _) rfl hb1 rfl) rfl ?_
    refine ol_q (wn_none rfl) (op_move (v := .bool _) rfl) rfl ?_
    refine ol_skip (wn_some rfl rfl rfl rfl rfl) rfl ?_
    refine ol_skip (wn_some rfl rfl rfl rfl rfl) rfl ?_
    refine ol_skip (wn_some rfl rfl rfl rfl rfl) rfl ?_
    refine ol_skip (wn_some rfl rfl rfl rfl rfl) rfl ?_
    refine ol_q (wn_none rfl) (op_pick_t (v := .bool _) rfl rfl rfl) rfl ?_
    refine ol_nil_then ?_
    refine cd_cond_t rfl rfl ?_
    refine cd_sr ?_   -- 4
    refine ol_q (wn_none rfl) (op_assign (v := .bool _) rfl) rfl ?_
    refine ol_nil_then ?_
    refine cd_ret ?_
    refine px_thenR ?_
    exact px_ret1 rfl (v := .bool _) rfl (fun _ s => s) ⟨congrArg Value.bool (rfl), rfl⟩
  · have hp1 := hb1
    (try simp only [decide_eq_true_eq, decide_eq_false_iff_not, Bool.not_eq_true', Bool.not_eq_false', ne_eq, Decidable.not_not] at hp1)
    refine ol_q (wn_some rfl rfl rfl hb1 rfl) (op_move (v := .int _ _) rfl) rfl ?_
    refine ol_q (wn_some rfl rfl rfl hb1 rfl) (op_lt rfl rfl) rfl ?_
    refine ol_q (wn_none rfl) (op_pick_f (v := .bool _) rfl hb1 rfl) rfl ?_
    refine ol_q (wn_none rfl) (op_move (v := .bool _) rfl) rfl ?_
    refine ol_split 18 rfl (fun hb2 => ?_) (fun hb2 => ?_)
    · have hp2 := hb2
      (try simp only [decide_eq_true_eq, decide_eq_false_iff_not, Bool.not_eq_true', Bool.not_eq_false', ne_eq, Decidable.not_not] at hp2)
      refine ol_skip (wn_some rfl rfl rfl hb2 rfl) rfl ?_
      refine ol_skip (wn_some rfl rfl rfl hb2 rfl) rfl ?_
      refine ol_skip (wn_some rfl rfl rfl hb2 rfl) rfl ?_
      refine ol_skip (wn_some rfl rfl rfl hb2 rfl) rfl ?_
      refine ol_q (wn_none rfl) (op_pick_t (v := .bool _) rfl hb2 rfl) rfl ?_
      refine ol_nil_then ?_
      refine cd_cond_t rfl rfl ?_
      refine cd_sr ?_   -- 4
      refine ol_q (wn_none rfl) (op_assign (v := .bool _) rfl) rfl ?_
      refine ol_nil_then ?_
      refine cd_ret ?_
      refine px_thenR ?_
      exact px_ret1 rfl (v := .bool _) rfl (fun _ s => s) ⟨congrArg Value.bool (rfl), rfl⟩
    · have hp2 := hb2
      (try simp only [decide_eq_true_eq, decide_eq_false_iff_not, Bool.not_eq_true', Bool.not_eq_false', ne_eq, Decidable.not_not] at hp2)
      refine ol_q (wn_some rfl rfl rfl hb2 rfl) (op_move (v := .int _ _) rfl) rfl ?_
      refine ol_q (wn_some rfl rfl rfl hb2 rfl) (op_move (v := .slice _ _ _) rfl) rfl ?_
      refine ol_q (wn_some rfl rfl rfl hb2 rfl) (op_len_slice Try.underlying22 rfl) rfl ?_
      refine ol_q (wn_some rfl rfl rfl hb2 rfl) (op_ge rfl rfl) rfl ?_
      refine ol_q (wn_none rfl) (op_pick_f (v := .bool _) rfl hb2 rfl) rfl ?_
      refine ol_nil_then ?_
      refine cd_cond rfl (fun hb3 => ?_) (fun hb3 => ?_)
      · have hp3 := hb3
        (try simp only [decide_eq_true_eq, decide_eq_false_iff_not, Bool.not_eq_true', Bool.not_eq_false', ne_eq, Decidable.not_not] at hp3)
        refine cd_sr ?_   -- 4
        refine ol_q (wn_none rfl) (op_assign (v := .bool _) rfl) rfl ?_
        refine ol_nil_then ?_
        refine cd_ret ?_
        refine px_thenR ?_
        exact px_ret1 rfl (v := .bool _) rfl (fun _ s => s) ⟨congrArg Value.bool (rfl), rfl⟩
      · have hp3 := hb3
        (try simp only [decide_eq_true_eq, decide_eq_false_iff_not, Bool.not_eq_true', Bool.not_eq_false', ne_eq, Decidable.not_not] at hp3)
        have hn0 : n.toNat < ([] ++ xs).length := by simp; omega
        have hxl : ([] ++ xs).length = xs.length := by simp
        refine cd_skip ?_
        refine px_then ?_
        refine cd_sr ?_   -- 5
        refine ol_i (wn_none rfl) (os_bslice (E := encBool) [] (ys := []) sB_22 zv_4 rfl rfl rfl rfl (by decide)) rfl ?_; rintro _ _ ⟨ao1, rfl, rfl⟩
        refine ol_q (wn_none rfl) (op_move (v := .slice _ _ _) rfl) rfl ?_
        refine ol_i (wn_none rfl) (os_append (E := encBool) rfl sB_22 zv_4 rfl rfl rfl (fun w s => (hr.cons _) [] w s) rfl (by simp; omega) (by unfold maxLen; simp; omega)) rfl ?_; rintro _ _ ⟨ao2, ac2, rfl, rfl⟩
        refine ol_q (wn_none rfl) (op_assign (v := .slice _ _ _) rfl) rfl ?_
        refine ol_nil_then ?_
        refine cd_sr ?_   -- 6
        refine ol_q (wn_none rfl) (op_move (v := .slice _ _ _) rfl) rfl ?_
        refine ol_q (wn_none rfl) (op_move (v := .int _ _) rfl) rfl ?_
        refine ol_q (wn_none rfl) (op_move (v := .slice _ _ _) rfl) rfl ?_
        refine ol_q (wn_none rfl) (op_move (v := .int _ _) rfl) rfl ?_
        refine ol_q (wn_none rfl) (op_index _ sB_22 rfl rfl (Int.toNat_of_nonneg (by omega)).symm (rds_row 0 rfl rfl) rfl (by omega)) rfl ?_
        refine ol_q (wn_none rfl) (op_lde _ 0 sc_4 rfl (rds_row 0 rfl rfl) (by omega) rfl rfl rfl) rfl ?_
        refine ol_q (wn_none rfl) (op_not rfl) rfl ?_
        refine ol_q (wn_none rfl) (op_index _ sB_22 rfl rfl (Int.toNat_of_nonneg (by omega)).symm (rds_row 0 rfl rfl) rfl (by omega)) rfl ?_
        refine ol_iN (wn_none rfl) (os_ste  _ 0 sc_4 rfl rfl rfl (by omega) rfl rfl rfl rfl) ?_; rintro _ _ ⟨rfl, rfl⟩
        refine ol_nil_then ?_
        refine cd_sr ?_   -- 7
        refine ol_q (wn_none rfl) (op_move (v := .slice _ _ _) rfl) rfl ?_
        refine ol_rownil (E := encU8) 5 ?_
        refine ol_i (wn_none rfl) (os_call cb_15 rfl (fun w s => BPut_calls (ao := none) (bs := []) (c := 0) _ _ _ _  s (hr.cons _) (by first | rfl | simp) (by first | omega | (simp; done) | (simp; omega)) (by first | omega | (simp; done) | (simp; omega)))) rfl ?_; rintro _ _ ⟨pa2, pc2, rfl, rfl⟩; simp only [List.nil_append]
        refine ol_q (wn_none rfl) (op_b2s sB_26 Try.underlying5 Try.underlying9 rfl (rds_row 0 rfl rfl) rfl) rfl ?_
        refine ol_q (wn_none rfl) (op_assign (v := .string _) rfl) rfl ?_
        refine ol_nil_then ?_
        refine cd_sr ?_   -- 8
        refine ol_q (wn_none rfl) (op_move (v := .string _) rfl) rfl ?_
        refine ol_q (wn_none rfl) (op_move (v := .slice _ _ _) rfl) rfl ?_
        refine ol_rownil (E := encU8) 5 ?_
        refine ol_i (wn_none rfl) (os_call cb_15 rfl (fun w s => BPut_calls (ao := none) (bs := []) (c := 0) _ _ _ _  s (rds_row 1 rfl rfl) (by first | rfl | simp) (by first | omega | (simp; done) | (simp; omega)) (by first | omega | (simp; done) | (simp; omega)))) rfl ?_; rintro _ _ ⟨pa3, pc3, rfl, rfl⟩; simp only [List.nil_append]
        refine ol_q (wn_none rfl) (op_b2s sB_26 Try.underlying5 Try.underlying9 rfl (rds_row 0 rfl rfl) rfl) rfl ?_
        refine ol_q (wn_none rfl) (op_sneq rfl rfl) rfl ?_
        refine ol_q (wn_none rfl) (op_move (v := .bool _) rfl) rfl ?_
        refine ol_split 43 rfl (fun hb4 => ?_) (fun hb4 => ?_)
        · have hp4 := hb4
          (try simp only [decide_eq_true_eq, decide_eq_false_iff_not, Bool.not_eq_true', Bool.not_eq_false', ne_eq, Decidable.not_not] at hp4)
          refine ol_q (wn_some rfl rfl rfl hb4 rfl) (op_move (v := .string _) rfl) rfl ?_
          refine ol_i (wn_some rfl rfl rfl hb4 rfl) (os_bslice (E := encBool) [] (ys := []) sB_22 zv_4 rfl rfl rfl rfl (by decide)) rfl ?_; rintro _ _ ⟨ao3, rfl, rfl⟩
          refine ol_q (wn_some rfl rfl rfl hb4 rfl) (op_move (v := .slice _ _ _) rfl) rfl ?_
          refine ol_i (wn_some rfl rfl rfl hb4 rfl) (os_append (E := encBool) rfl sB_22 zv_4 rfl rfl rfl (fun w s => ((((hr.cons _).cons _).cons _).cons _) [] w s) rfl (by simp; omega) (by unfold maxLen; simp; omega)) rfl ?_; rintro _ _ ⟨ao4, ac4, rfl, rfl⟩
          refine ol_q (wn_some rfl rfl rfl hb4 rfl) (op_move (v := .bool _) rfl) rfl ?_
          refine ol_i (wn_some rfl rfl rfl hb4 rfl) (os_bslice (E := encBool) [_] (ys := [_]) sB_22 zv_4 rfl rfl rfl rfl (by decide)) rfl ?_; rintro _ _ ⟨ao5, rfl, rfl⟩
          refine ol_pull1 ?_
          refine ol_i (wn_some rfl rfl rfl hb4 rfl) (os_append (E := encBool) rfl sB_22 zv_4 rfl rfl rfl (fun w s => (rds_row 1 rfl rfl) [] w s) rfl (by simp; omega) (by unfold maxLen; simp; omega)) rfl ?_; rintro _ _ ⟨ao6, ac6, rfl, rfl⟩
          refine ol_rownil (E := encU8) 5 ?_
          refine ol_i (wn_some rfl rfl rfl hb4 rfl) (os_call cb_15 rfl (fun w s => BPut_calls (ao := none) (bs := []) (c := 0) _ _ _ _  s (rds_row 0 rfl rfl) (by first | rfl | simp) (by first | omega | (simp; done) | (simp; omega)) (by first | omega | (simp; done) | (simp; omega)))) rfl ?_; rintro _ _ ⟨pa4, pc4, rfl, rfl⟩; simp only [List.nil_append]
          refine ol_q (wn_some rfl rfl rfl hb4 rfl) (op_b2s sB_26 Try.underlying5 Try.underlying9 rfl (rds_row 0 rfl rfl) rfl) rfl ?_
          refine ol_q (wn_some rfl rfl rfl hb4 rfl) (op_sneq rfl rfl) rfl ?_
          refine ol_q (wn_none rfl) (op_pick_t (v := .bool _) rfl hb4 rfl) rfl ?_
          refine ol_q (wn_none rfl) (op_move (v := .bool _) rfl) rfl ?_
          refine ol_split 55 rfl (fun hb5 => ?_) (fun hb5 => ?_)
          · have hp5 := hb5
            (try simp only [decide_eq_true_eq, decide_eq_false_iff_not, Bool.not_eq_true', Bool.not_eq_false', ne_eq, Decidable.not_not] at hp5)
            refine ol_q (wn_some rfl rfl rfl hb5 rfl) (op_move (v := .string _) rfl) rfl ?_
            refine ol_q (wn_some rfl rfl rfl hb5 rfl) (op_move (v := .slice _ _ _) rfl) rfl ?_
            refine ol_q (wn_some rfl rfl rfl hb5 rfl) (op_move (v := .int _ _) rfl) rfl ?_
            refine ol_q (wn_some rfl rfl rfl hb5 rfl) (op_slice_tor _ sB_22 rfl rfl (Int.toNat_of_nonneg (by omega)).symm ((((((hr.cons _).cons _).cons _).cons _).cons _).cons _) rfl (by omega) (by omega)) rfl ?_
            refine ol_rownil (E := encU8) 5 ?_
            refine ol_i (wn_some rfl rfl rfl hb5 rfl) (os_call cb_15 rfl (fun w s => BPut_calls (ao := none) (bs := []) (c := 0) _ _ _ _  s (((((((hr.take _).cons _).cons _).cons _).cons _).cons _).cons _) (by first | rfl | simp) (by first | omega | (simp; done) | (simp; omega)) (by first | omega | (simp; done) | (simp; omega)))) rfl ?_; rintro _ _ ⟨pa5, pc5, rfl, rfl⟩; simp only [List.nil_append]
            refine ol_q (wn_some rfl rfl rfl hb5 rfl) (op_b2s sB_26 Try.underlying5 Try.underlying9 rfl (rds_row 0 rfl rfl) rfl) rfl ?_
            refine ol_q (wn_some rfl rfl rfl hb5 rfl) (op_sneq rfl rfl) rfl ?_
            refine ol_q (wn_none rfl) (op_pick_t (v := .bool _) rfl hb5 rfl) rfl ?_
            refine ol_q (wn_none rfl) (op_assign (v := .bool _) rfl) rfl ?_
            refine ol_nil_then ?_
            refine cd_ret ?_
            exact px_ret1 rfl (v := .bool _) rfl (fun _ s => (((((((s.del 6).del 5).del 4).del 3).del 2).del 1).del 0)) ⟨congrArg Value.bool (decide_eq_true (fun e => turn_take xs _ (by omega) e)), rfl⟩
          · have hp5 := hb5
            (try simp only [decide_eq_true_eq, decide_eq_false_iff_not, Bool.not_eq_true', Bool.not_eq_false', ne_eq, Decidable.not_not] at hp5)
            exact (turn_more xs _ hp5).elim
        · have hp4 := hb4
          (try simp only [decide_eq_true_eq, decide_eq_false_iff_not, Bool.not_eq_true', Bool.not_eq_false', ne_eq, Decidable.not_not] at hp4)
          exact (turn_set xs _ (by omega) hp4).elim
end Go.SL

import Derived.Test.YtgdlddjalilmhaaEng
import Derived.Test.YtgdlddjalilmhaaMBit
import Derived.Test.YtgdlddjalilmhaaFacts
set_option linter.unusedVariables false
set_option linter.unusedSimpArgs false
namespace Go.SL
open Go.Proofs

set_option maxRecDepth 100000 in
set_option maxHeartbeats 1000000 in
theorem BPut_calls {w0 w : World} {l : List HProp} (ao : Option Addr) (c : Nat) (bs : List UInt8) (lo : Option Addr) (ln lc : Nat) (xs : List Bool) (hs : Sat w0 w ((Row 5 encU8 (.slice ao bs.length c) bs) :: l)) (hr : Rds w0 l encBool lo xs) (hln : xs.length = ln) (hbs : bs.length ≤ 1000) (hxs : xs.length ≤ 2000) :
    Calls Try.prog 56 #[.slice ao bs.length c, .slice lo ln lc] w (Ret w0 fun v l' => ∃ ao c, v = .slice ao (bs ++ enc8 xs).length c ∧ l' = Row 5 encU8 (.slice ao (bs ++ enc8 xs).length c) (bs ++ enc8 xs) :: l) := by
  subst hln
  have hL : ∀ M, (bs ++ putB M (xs.length / 8 + 1)).length = bs.length + (xs.length / 8 + 1) := fun M => by simp [putB_length]
  refine calls_enter Try.func56 rfl rfl rfl hs ?_
  refine cd_sr ?_   -- 0
  refine ol_q (wn_none rfl) (op_assign (v := .slice _ _ _) rfl) rfl ?_
  refine ol_nil_then ?_
  refine cd_sr ?_   -- 1
  refine ol_q (wn_none rfl) (op_move (v := .slice _ _ _) rfl) rfl ?_
  refine ol_q (wn_none rfl) (op_len_slice Try.underlying55 rfl) rfl ?_
  refine ol_q (wn_none rfl) (op_assign (v := .int _ _) rfl) rfl ?_
  refine ol_nil_then ?_
  refine cd_sr ?_   -- 2
  refine ol_q (wn_none rfl) (op_move (v := .slice _ _ _) rfl) rfl ?_
  refine ol_q (wn_none rfl) (op_move (v := .slice _ _ _) rfl) rfl ?_
  refine ol_q (wn_none rfl) (op_len_slice Try.underlying41 rfl) rfl ?_
  refine ol_q (wn_none rfl) (op_quonk (A := xs.length) (C := 8) rfl rfl (by decide) (by omega)) rfl ?_
  refine ol_q (wn_none rfl) (op_add rfl rfl (by omega) (by omega)) rfl ?_
  refine ol_i (wn_none rfl) (os_appendn (E := encU8) (xs.length / 8 + 1) (0) rfl sB_55 Try.underlying3 zv_5 rfl rfl rfl rfl (by omega) (by simp; omega) (by unfold maxLen; simp; omega)) rfl ?_; rintro _ _ ⟨ao1, ac1, rfl, rfl⟩
  refine ol_q (wn_none rfl) (op_assign (v := .slice _ _ _) rfl) rfl ?_
  refine ol_nil_then ?_
  refine cd_seq ?_
  refine cd_sr ?_   -- 3
  refine ol_q (wn_none rfl) (op_move (v := .slice _ _ _) rfl) rfl ?_
  refine ol_q (wn_none rfl) (op_len_slice Try.underlying41 rfl) rfl ?_
  refine ol_q (wn_none rfl) (op_move (v := .int _ _) rfl) rfl ?_
  refine ol_nil_then ?_
  refine cd_block ?_
  refine cd_loop (α := Nat) (fun i => [(0, .slice ao1 (bs.length + (xs.length / 8 + 1)) ac1), (1, .slice lo xs.length lc), (5, .int .i64 bs.length), (16, .slice lo xs.length lc), (17, .int .i64 xs.length), (18, .int .i64 i)]) (fun i => Row 5 encU8 (.slice ao1 (bs.length + (xs.length / 8 + 1)) ac1) (bs ++ putB (low (xs.take i)) (xs.length / 8 + 1)) :: l) (fun i => i ≤ xs.length) (fun i => xs.length - i) 0 (Nat.zero_le _) ⟨congrArg (fun q => Value.slice ao1 q ac1) (by simp), rfl, rfl, rfl, rfl, rfl, trivial⟩ (fun _ s => by simpa [putB_zero, low] using s) ?_
  intro i hi f; (try dsimp only at hi ⊢)
  refine cd_sr ?_   -- 4
  refine ol_q (wn_none rfl) (op_lt rfl rfl) rfl ?_
  refine ol_nil_then ?_
  refine cd_seq ?_
  refine cd_cond rfl (fun hb1 => ?_) (fun hb1 => ?_)
  · have hp1 := hb1
    (try simp only [decide_eq_true_eq, decide_eq_false_iff_not, Bool.not_eq_true', Bool.not_eq_false', ne_eq, Decidable.not_not] at hp1)
    have hi1 : i < xs.length := by omega
    have hML := hL (low (xs.take i))
    have hst := low_step xs i hi1
    refine cd_skip ?_
    refine px_then ?_
    refine cd_seq ?_
    refine cd_block ?_
    refine cd_sr ?_   -- 5
    refine ol_q (wn_none rfl) (op_move (v := .int _ _) rfl) rfl ?_
    refine ol_q (wn_none rfl) (op_index _ sB_41 rfl rfl rfl (hr.cons _) rfl (by omega)) rfl ?_
    refine ol_q (wn_none rfl) (op_ldw sc_4 (hr.cons _) rfl (by omega) rfl) rfl ?_
    refine ol_q (wn_none rfl) (op_assign (v := .int _ _) rfl) rfl ?_
    refine ol_q (wn_none rfl) (op_assign (v := .bool _) rfl) rfl ?_
    refine ol_nil_then ?_
    refine cd_sr ?_   -- 6
    refine ol_q (wn_none rfl) (op_move (v := .bool _) rfl) rfl ?_
    refine ol_nil_then ?_
    refine cd_cond rfl (fun hb2 => ?_) (fun hb2 => ?_)
    · have hp2 := hb2
      (try simp only [decide_eq_true_eq, decide_eq_false_iff_not, Bool.not_eq_true', Bool.not_eq_false', ne_eq, Decidable.not_not] at hp2)
      rw [if_pos hb2] at hst
      have hps := put_set bs (low (xs.take i)) (xs.length / 8 + 1) i (by omega) (low_take_lt xs i) (by rw [hML]; omega)
      rw [← hst] at hps
      -- 7
      refine cd_drawt (M := []) mx [] 12 (by kernel_rfl) rfl rfl ?_
      dsimp only [List.take_succ_cons, List.take_zero, List.drop_succ_cons, List.drop_zero]
      refine rg_q (wn_none rfl) (op_move (v := .slice _ _ _) rfl) rfl rfl ?_
      refine rg_q (wn_none rfl) (op_move (v := .int _ _) rfl) rfl rfl ?_
      refine rg_q (wn_none rfl) (op_move (v := .int _ _) rfl) rfl rfl ?_
      refine rg_q (wn_none rfl) (op_quo rfl rfl (by omega) (by omega) (by omega)) rfl rfl ?_
      refine rg_q (wn_none rfl) (op_add rfl rfl (by omega) (by omega)) rfl rfl ?_
      refine rg_q (wn_none rfl) (op_index (bs.length + i / 8) sB_55 rfl rfl (by omega) (rds_row 0 rfl rfl) (hL _) (by omega)) rfl rfl ?_
      refine rg_q (wn_none rfl) (op_ldw sc_5 (rds_row 0 rfl rfl) rfl (by omega) rfl) rfl rfl ?_
      refine rg_q (wn_none rfl) (op_move (v := .int _ _) rfl) rfl rfl ?_
      refine rg_q (wn_none rfl) (op_remn (A := i) (C := 8) rfl rfl (by decide)) rfl rfl ?_
      refine rg_q (wn_none rfl) (op_shl8 (m := i % 8) 1 rfl rfl (by omega)) rfl rfl ?_
      refine rg_q (wn_none rfl) (op_or8 _ _ rfl rfl) rfl rfl ?_
      refine rg_q (wn_none rfl) (op_index (bs.length + i / 8) sB_55 rfl rfl (by omega) (rds_row 0 rfl rfl) (hL _) (by omega)) rfl rfl ?_
      refine rg_tail0 ?_
      refine ol_iN (wn_none rfl) (os_stsw  sc_5 rfl rfl rfl (by omega) rfl rfl) ?_; rintro _ _ ⟨rfl, rfl⟩
      refine ol_nil ?_
      refine px_blockN ?_
      refine px_then ?_
      refine cd_region ?_   -- 8
      refine ol_q (wn_none rfl) (op_add rfl rfl (by omega) (by omega)) rfl ?_
      refine ol_q (wn_none rfl) (op_move (v := .int _ _) rfl) rfl ?_
      refine ol_nil ?_
      exact px_loop (i + 1) (by omega) (by omega) ⟨rfl, rfl, rfl, rfl, rfl, congrArg (Value.int .i64) (by simp), trivial⟩ (fun _ s => by rw [hps] at s; exact s)
    · have hp2 := hb2
      (try simp only [decide_eq_true_eq, decide_eq_false_iff_not, Bool.not_eq_true', Bool.not_eq_false', ne_eq, Decidable.not_not] at hp2)
      rw [if_neg (by simp [hb2])] at hst
      refine cd_skip ?_
      refine px_blockN ?_
      refine px_then ?_
      refine cd_region ?_   -- 8
      refine ol_q (wn_none rfl) (op_add rfl rfl (by omega) (by omega)) rfl ?_
      refine ol_q (wn_none rfl) (op_move (v := .int _ _) rfl) rfl ?_
      refine ol_nil ?_
      exact px_loop (i + 1) (by omega) (by omega) ⟨rfl, rfl, rfl, rfl, rfl, congrArg (Value.int .i64) (by simp), trivial⟩ (fun _ s => by rw [← hst] at s; exact s)
  · have hp1 := hb1
    (try simp only [decide_eq_true_eq, decide_eq_false_iff_not, Bool.not_eq_true', Bool.not_eq_false', ne_eq, Decidable.not_not] at hp1)
    have e : i = xs.length := by omega
    subst e
    rw [List.take_length]
    have hML := hL (low xs)
    have hps := put_set bs (low xs) (xs.length / 8 + 1) xs.length (by omega) (low_lt xs) (by rw [hML]; omega)
    rw [enc8_full] at hps
    refine cd_exit ?_
    refine px_thenE ?_
    refine px_thenE ?_
    refine px_blockE ?_
    refine px_then ?_
    refine cd_seq ?_   -- 9
    refine cd_drawt (M := []) mx [] 12 (by kernel_rfl) rfl rfl ?_
    dsimp only [List.take_succ_cons, List.take_zero, List.drop_succ_cons, List.drop_zero]
    refine rg_q (wn_none rfl) (op_move (v := .slice _ _ _) rfl) rfl rfl ?_
    refine rg_q (wn_none rfl) (op_move (v := .slice _ _ _) rfl) rfl rfl ?_
    refine rg_q (wn_none rfl) (op_len_slice Try.underlying55 rfl) rfl rfl ?_
    refine rg_q (wn_none rfl) (op_sub rfl rfl (by omega) (by omega)) rfl rfl ?_
    refine rg_q (wn_none rfl) (op_index (bs.length + xs.length / 8) sB_55 rfl rfl (by omega) (rds_row 0 rfl rfl) (hL _) (by omega)) rfl rfl ?_
    refine rg_q (wn_none rfl) (op_ldw sc_5 (rds_row 0 rfl rfl) rfl (by omega) rfl) rfl rfl ?_
    refine rg_q (wn_none rfl) (op_move (v := .slice _ _ _) rfl) rfl rfl ?_
    refine rg_q (wn_none rfl) (op_len_slice Try.underlying41 rfl) rfl rfl ?_
    refine rg_q (wn_none rfl) (op_remn (A := xs.length) (C := 8) rfl rfl (by decide)) rfl rfl ?_
    refine rg_q (wn_none rfl) (op_shl8 (m := xs.length % 8) 1 rfl rfl (by omega)) rfl rfl ?_
    refine rg_q (wn_none rfl) (op_or8 _ _ rfl rfl) rfl rfl ?_
    refine rg_q (wn_none rfl) (op_index (bs.length + xs.length / 8) sB_55 rfl rfl (by omega) (rds_row 0 rfl rfl) (hL _) (by omega)) rfl rfl ?_
    refine rg_tail0 ?_
    refine ol_iN (wn_none rfl) (os_stsw  sc_5 rfl rfl rfl (by omega) rfl rfl) ?_; rintro _ _ ⟨rfl, rfl⟩
    refine ol_nil_then ?_
    refine cd_sr ?_   -- 10
    refine ol_q (wn_none rfl) (op_move (v := .slice _ _ _) rfl) rfl ?_
    refine ol_q (wn_none rfl) (op_assign (v := .slice _ _ _) rfl) rfl ?_
    refine ol_nil_then ?_
    refine cd_ret ?_
    refine px_ret1 rfl (v := .slice _ _ _) rfl (l' := Row 5 encU8 (.slice ao1 (bs ++ enc8 xs).length ac1) (bs ++ enc8 xs) :: l) (fun _ s => ?_) ⟨ao1, ac1, congrArg (fun q => Value.slice ao1 q ac1) (by simp [enc8_length]), rfl⟩
    rw [hps] at s
    rw [show (bs ++ enc8 xs).length = bs.length + (xs.length / 8 + 1) by simp [enc8_length]]
    exact s

set_option maxRecDepth 100000 in
theorem Len8_calls {w0 w : World} {l : List HProp} (c : UInt8) (hs : Sat w0 w (l))  :
    Calls Try.prog 63 #[.int .u8 (c.toNat : Int)] w (Ret w0 fun v l' => v = .int .i64 (len8 c.toNat : Nat) ∧ l' = l) := by
  refine calls_enter Try.func63 rfl rfl rfl hs ?_
  refine cd_sr ?_   -- 0
  refine ol_q (wn_none rfl) (op_assign (v := .int _ _) rfl) rfl ?_
  refine ol_nil_then ?_
  refine cd_sr ?_   -- 1
  refine ol_q (wn_none rfl) (op_move (v := .int _ _) rfl) rfl ?_
  refine ol_q (wn_none rfl) (op_sidx c.toNat Try.underlying9 rfl rfl (by first | rfl | omega) (by show c.toNat < 256; exact c.toNat_lt)) rfl ?_
  refine ol_q (wn_none rfl) (op_convint Try.underlying3 (by rw [Try.underlying5]; rfl) rfl (Nat.lt_of_lt_of_le (UInt8.toNat_lt _) (by decide))) rfl ?_
  refine ol_q (wn_none rfl) (op_assign (v := .int _ _) rfl) rfl ?_
  refine ol_nil_then ?_
  refine cd_ret ?_
  exact px_ret1 rfl (v := .int _ _) rfl (fun _ s => s) ⟨congrArg (Value.int .i64) (len8_key _ (by decide +kernel) _ c.toNat_lt), rfl⟩

set_option maxRecDepth 100000 in
set_option maxHeartbeats 1000000 in
theorem BGet_calls {w0 w : World} {l : List HProp} (s : List UInt8) (most : Int) (hs : Sat w0 w (l)) (hs1 : s.length ≤ 100000) :
    Calls Try.prog 48 #[.string (B s), .int .i64 most] w (Ret w0 fun v l' => ∃ ao c, v = .tuple #[.slice ao (getD' s most).length c, .bool (getB s most).isSome] ∧ l' = Row 4 encBool (.slice ao (getD' s most).length c) (getD' s most) :: l) := by
  refine calls_enter Try.func48 rfl rfl rfl hs ?_
  refine cd_sr ?_   -- 0
  refine ol_q (wn_none rfl) (op_assign (v := .slice _ _ _) rfl) rfl ?_
  refine ol_q (wn_none rfl) (op_assign (v := .bool _) rfl) rfl ?_
  refine ol_nil_then ?_
  refine cd_seq ?_
  refine cd_sr ?_   -- 1
  refine ol_q (wn_none rfl) (op_move (v := .string _) rfl) rfl ?_
  refine ol_q (wn_none rfl) (op_seql rfl rfl) rfl ?_
  refine ol_q (wn_none rfl) (op_move (v := .bool _) rfl) rfl ?_
  refine ol_split 11 rfl (fun hb1 => ?_) (fun hb1 => ?_)
  · have hp1 := hb1
    (try simp only [decide_eq_true_eq, decide_eq_false_iff_not, Bool.not_eq_true', Bool.not_eq_false', ne_eq, Decidable.not_not] at hp1)
    refine ol_skip (wn_some rfl rfl rfl hb1 rfl) rfl ?_
    refine ol_skip (wn_some rfl rfl rfl hb1 rfl) rfl ?_
    refine ol_skip (wn_some rfl rfl rfl hb1 rfl) rfl ?_
    refine ol_skip (wn_some rfl rfl rfl hb1 rfl) rfl ?_
    refine ol_skip (wn_some rfl rfl rfl hb1 rfl) rfl ?_
    refine ol_skip (wn_some rfl rfl rfl hb1 rfl) rfl ?_
    refine ol_q (wn_none rfl) (op_pick_t (v := .bool _) rfl hb1 rfl) rfl ?_
    refine ol_nil_then ?_
    refine cd_cond_t rfl rfl ?_
    refine cd_sr ?_   -- 2
    refine ol_q (wn_none rfl) (op_assign (v := .slice _ _ _) rfl) rfl ?_
    refine ol_q (wn_none rfl) (op_assign (v := .bool _) rfl) rfl ?_
    refine ol_nil_then ?_
    refine cd_ret ?_
    refine px_thenR ?_
    have hE : getB s most = none := getB_none (.inl (by assumption))
    have hG : getD' s most = [] := by unfold getD'; rw [hE]; rfl
    exact px_ret2 rfl (v1 := .slice none 0 0) (v2 := .bool false) rfl rfl (l' := Row 4 encBool (.slice none (getD' s most).length 0) (getD' s most) :: l) (fun _ s' => by rw [hG]; exact s'.rowNil) ⟨none, 0, by rw [hG, hE]; rfl, rfl⟩
  · have hp1 := hb1
    (try simp only [decide_eq_true_eq, decide_eq_false_iff_not, Bool.not_eq_true', Bool.not_eq_false', ne_eq, Decidable.not_not] at hp1)
    have hne : s.length ≠ 0 := fun h0 => hp1 (List.eq_nil_of_length_eq_zero h0)
    refine ol_q (wn_some rfl rfl rfl hb1 rfl) (op_move (v := .string _) rfl) rfl ?_
    refine ol_q (wn_some rfl rfl rfl hb1 rfl) (op_move (v := .string _) rfl) rfl ?_
    refine ol_q (wn_some rfl rfl rfl hb1 rfl) (op_len_string Try.underlying9 rfl) rfl ?_
    refine ol_q (wn_some rfl rfl rfl hb1 rfl) (op_sub rfl rfl (by omega) (by omega)) rfl ?_
    refine ol_q (wn_some rfl rfl rfl hb1 rfl) (op_sidx (s.length - 1) Try.underlying9 rfl rfl (by first | rfl | omega) (by omega)) rfl ?_
    refine ol_q (wn_some rfl rfl rfl hb1 rfl) (op_eqn (C := 0) rfl rfl) rfl ?_
    refine ol_q (wn_none rfl) (op_pick_f (v := .bool _) rfl hb1 rfl) rfl ?_
    refine ol_nil_then ?_
    refine cd_cond rfl (fun hb2 => ?_) (fun hb2 => ?_)
    · have hp2 := hb2
      (try simp only [decide_eq_true_eq, decide_eq_false_iff_not, Bool.not_eq_true', Bool.not_eq_false', ne_eq, Decidable.not_not] at hp2)
      have hnone : s = [] ∨ (s.getD (s.length - 1) 0).toNat = 0 ∧ True := by first | exact .inr ⟨hp2, trivial⟩ | exact .inl (by assumption)
      refine cd_sr ?_   -- 2
      refine ol_q (wn_none rfl) (op_assign (v := .slice _ _ _) rfl) rfl ?_
      refine ol_q (wn_none rfl) (op_assign (v := .bool _) rfl) rfl ?_
      refine ol_nil_then ?_
      refine cd_ret ?_
      refine px_thenR ?_
      have hE : getB s most = none := getB_none (hnone.elim .inl (fun h => .inr (.inl h.1)))
      have hG : getD' s most = [] := by unfold getD'; rw [hE]; rfl
      exact px_ret2 rfl (v1 := .slice none 0 0) (v2 := .bool false) rfl rfl (l' := Row 4 encBool (.slice none (getD' s most).length 0) (getD' s most) :: l) (fun _ s' => by rw [hG]; exact s'.rowNil) ⟨none, 0, by rw [hG, hE]; rfl, rfl⟩
    · have hp2 := hb2
      (try simp only [decide_eq_true_eq, decide_eq_false_iff_not, Bool.not_eq_true', Bool.not_eq_false', ne_eq, Decidable.not_not] at hp2)
      have hs0 : s ≠ [] := fun h0 => hne (by rw [h0]; rfl)
      obtain ⟨hn, hn2, hn3⟩ := rowLen_eq s hs0 hp2
      have hl8 := len8_le (s.getD (s.length - 1) 0).toNat_lt
      refine cd_skip ?_
      refine px_then ?_
      refine cd_sr ?_   -- 3
      refine ol_q (wn_none rfl) (op_move (v := .string _) rfl) rfl ?_
      refine ol_q (wn_none rfl) (op_len_string Try.underlying9 rfl) rfl ?_
      refine ol_q (wn_none rfl) (op_sub rfl rfl (by omega) (by omega)) rfl ?_
      refine ol_q (wn_none rfl) (op_mul rfl rfl (by omega) (by omega)) rfl ?_
      refine ol_q (wn_none rfl) (op_move (v := .string _) rfl) rfl ?_
      refine ol_q (wn_none rfl) (op_move (v := .string _) rfl) rfl ?_
      refine ol_q (wn_none rfl) (op_len_string Try.underlying9 rfl) rfl ?_
      refine ol_q (wn_none rfl) (op_sub rfl rfl (by omega) (by omega)) rfl ?_
      refine ol_q (wn_none rfl) (op_sidx (s.length - 1) Try.underlying9 rfl rfl (by first | rfl | omega) (by omega)) rfl ?_
      refine ol_i (wn_none rfl) (os_call cb_63 rfl (fun w s => Len8_calls _  s )) rfl ?_; rintro _ l ⟨rfl, rfl⟩
      refine ol_q (wn_none rfl) (op_add rfl rfl (by omega) (by omega)) rfl ?_
      refine ol_q (wn_none rfl) (op_sub rfl rfl (by omega) (by omega)) rfl ?_
      refine ol_q (wn_none rfl) (op_assign (v := .int _ _) rfl) rfl ?_
      refine ol_nil_then ?_
      refine cd_seq ?_
      refine cd_sr ?_   -- 4
      refine ol_q (wn_none rfl) (op_move (v := .int _ _) rfl) rfl ?_
      refine ol_q (wn_none rfl) (op_move (v := .int _ _) rfl) rfl ?_
      refine ol_q (wn_none rfl) (op_gt rfl rfl) rfl ?_
      refine ol_nil_then ?_
      refine cd_cond rfl (fun hb3 => ?_) (fun hb3 => ?_)
      · have hp3 := hb3
        (try simp only [decide_eq_true_eq, decide_eq_false_iff_not, Bool.not_eq_true', Bool.not_eq_false', ne_eq, Decidable.not_not] at hp3)
        refine cd_sr ?_   -- 5
        refine ol_q (wn_none rfl) (op_assign (v := .slice _ _ _) rfl) rfl ?_
        refine ol_q (wn_none rfl) (op_assign (v := .bool _) rfl) rfl ?_
        refine ol_nil_then ?_
        refine cd_ret ?_
        refine px_thenR ?_
        have hE : getB s most = none := getB_none (.inr (.inr (by omega)))
        have hG : getD' s most = [] := by unfold getD'; rw [hE]; rfl
        exact px_ret2 rfl (v1 := .slice none 0 0) (v2 := .bool false) rfl rfl (l' := Row 4 encBool (.slice none (getD' s most).length 0) (getD' s most) :: l) (fun _ s' => by rw [hG]; exact s'.rowNil) ⟨none, 0, by rw [hG, hE]; rfl, rfl⟩
      · have hp3 := hb3
        (try simp only [decide_eq_true_eq, decide_eq_false_iff_not, Bool.not_eq_true', Bool.not_eq_false', ne_eq, Decidable.not_not] at hp3)
        refine cd_skip ?_
        refine px_then ?_
        refine cd_sr ?_   -- 6
        refine ol_q (wn_none rfl) (op_move (v := .int _ _) rfl) rfl ?_
        refine ol_i (wn_none rfl) (os_make (E := encBool) (rowLen s) (false) sB_41 zv_4 rfl rfl rfl hn.symm (by omega) (by unfold maxLen; omega)) rfl ?_; rintro _ _ ⟨ao1, rfl, rfl⟩
        refine ol_q (wn_none rfl) (op_assign (v := .slice _ _ _) rfl) rfl ?_
        refine ol_nil_then ?_
        refine cd_seq ?_
        refine cd_sr ?_   -- 7
        refine ol_q (wn_none rfl) (op_move (v := .slice _ _ _) rfl) rfl ?_
        refine ol_q (wn_none rfl) (op_len_slice Try.underlying41 rfl) rfl ?_
        refine ol_q (wn_none rfl) (op_move (v := .int _ _) rfl) rfl ?_
        refine ol_nil_then ?_
        refine cd_block ?_
        refine cd_loop (α := Nat) (fun i => [(0, .string (B s)), (7, .slice ao1 (rowLen s) (rowLen s)), (37, .int .i64 (rowLen s)), (38, .int .i64 i)]) (fun i => Row 4 encBool (.slice ao1 (rowLen s) (rowLen s)) (bitsOf (leNat s) i ++ List.replicate (rowLen s - i) false) :: l) (fun i => i ≤ rowLen s) (fun i => rowLen s - i) 0 (Nat.zero_le _) ⟨rfl, congrArg (fun q => Value.slice ao1 q (rowLen s)) (by simp), congrArg (Value.int .i64) (by simp), rfl, trivial⟩ (fun _ s => by simpa [bitsOf] using s) ?_
        intro i hi f; (try dsimp only at hi ⊢)
        refine cd_sr ?_   -- 8
        refine ol_q (wn_none rfl) (op_lt rfl rfl) rfl ?_
        refine ol_nil_then ?_
        refine cd_seq ?_
        refine cd_cond rfl (fun hb4 => ?_) (fun hb4 => ?_)
        · have hp4 := hb4
          (try simp only [decide_eq_true_eq, decide_eq_false_iff_not, Bool.not_eq_true', Bool.not_eq_false', ne_eq, Decidable.not_not] at hp4)
          have hi1 : i < rowLen s := by omega
          have hLn : (bitsOf (leNat s) i ++ List.replicate (rowLen s - i) false).length = rowLen s := by simp [bitsOf_length]; omega
          have hbs := bits_set (leNat s) (rowLen s) i hi1
          rw [bit_of] at hbs
          refine cd_skip ?_
          refine px_then ?_
          refine cd_seq ?_
          refine cd_block ?_
          refine cd_sr ?_   -- 9
          refine ol_q (wn_none rfl) (op_move (v := .int _ _) rfl) rfl ?_
          refine ol_q (wn_none rfl) (op_assign (v := .int _ _) rfl) rfl ?_
          refine ol_nil_then ?_
          refine cd_region ?_   -- 10
          refine ol_q (wn_none rfl) (op_move (v := .slice _ _ _) rfl) rfl ?_
          refine ol_q (wn_none rfl) (op_move (v := .int _ _) rfl) rfl ?_
          refine ol_q (wn_none rfl) (op_move (v := .string _) rfl) rfl ?_
          refine ol_q (wn_none rfl) (op_move (v := .int _ _) rfl) rfl ?_
          refine ol_q (wn_none rfl) (op_quo rfl rfl (by omega) (by omega) (by omega)) rfl ?_
          refine ol_q (wn_none rfl) (op_sidx (i / 8) Try.underlying9 rfl rfl (by first | rfl | omega) (by omega)) rfl ?_
          refine ol_q (wn_none rfl) (op_move (v := .int _ _) rfl) rfl ?_
          refine ol_q (wn_none rfl) (op_remn (A := i) (C := 8) rfl rfl (by decide)) rfl ?_
          refine ol_q (wn_none rfl) (op_shr_nat (m := i % 8) rfl rfl (by show i % 8 ≤ 8; omega)) rfl ?_
          refine ol_q (wn_none rfl) (op_and1 rfl (Nat.lt_of_le_of_lt (Nat.div_le_self _ _) (UInt8.toNat_lt _)) rfl) rfl ?_
          refine ol_q (wn_none rfl) (op_eqn (C := 1) rfl rfl) rfl ?_
          refine ol_q (wn_none rfl) (op_index _ sB_41 rfl rfl rfl (rds_row 0 rfl rfl) (by simp [bitsOf_length]; omega) (by omega)) rfl ?_
          refine ol_iN (wn_none rfl) (os_stsw  sc_4 rfl rfl rfl (by omega) rfl rfl) ?_; rintro _ _ ⟨rfl, rfl⟩
          refine ol_nil ?_
          refine px_blockN ?_
          refine px_then ?_
          refine cd_region ?_   -- 11
          refine ol_q (wn_none rfl) (op_add rfl rfl (by omega) (by omega)) rfl ?_
          refine ol_q (wn_none rfl) (op_move (v := .int _ _) rfl) rfl ?_
          refine ol_nil ?_
          exact px_loop (i + 1) (by omega) (by omega) ⟨rfl, rfl, rfl, congrArg (Value.int .i64) (by simp), trivial⟩ (fun _ s => by rw [hbs] at s; exact s)
        · have hp4 := hb4
          (try simp only [decide_eq_true_eq, decide_eq_false_iff_not, Bool.not_eq_true', Bool.not_eq_false', ne_eq, Decidable.not_not] at hp4)
          have e : i = rowLen s := by omega
          subst e
          have e2 := getB_some (most := most) hs0 (by assumption) (by omega)
          refine cd_exit ?_
          refine px_thenE ?_
          refine px_thenE ?_
          refine px_blockE ?_
          refine px_then ?_
          refine cd_sr ?_   -- 12
          refine ol_q (wn_none rfl) (op_move (v := .slice _ _ _) rfl) rfl ?_
          refine ol_q (wn_none rfl) (op_assign (v := .slice _ _ _) rfl) rfl ?_
          refine ol_q (wn_none rfl) (op_assign (v := .bool _) rfl) rfl ?_
          refine ol_nil_then ?_
          refine cd_ret ?_
          have hG : getD' s most = bitsOf (leNat s) (rowLen s) := by unfold getD'; rw [e2]; rfl
          refine px_ret2 rfl (v1 := .slice _ _ _) (v2 := .bool _) rfl rfl (l' := Row 4 encBool (.slice ao1 (getD' s most).length (rowLen s)) (getD' s most) :: l) (fun _ s' => ?_) ⟨ao1, rowLen s, ?_, rfl⟩
          · rw [hG, bitsOf_length]; simpa using s'
          · rw [hG, bitsOf_length, e2]; rfl

set_option maxRecDepth 100000 in
set_option maxHeartbeats 1000000 in
theorem Same_calls {w0 w : World} {l : List HProp} (ao : Option Addr) (ac : Nat) (xs : List Bool) (bo : Option Addr) (bc : Nat) (ys : List Bool) (hs : Sat w0 w (l)) (hra : Rds w0 l encBool ao xs) (hrb : Rds w0 l encBool bo ys) (hx : xs.length ≤ 100000) :
    Calls Try.prog 55 #[.slice ao xs.length ac, .slice bo ys.length bc] w (Ret w0 fun v l' => v = .bool (decide (xs = ys)) ∧ l' = l) := by
  refine calls_enter Try.func55 rfl rfl rfl hs ?_
  refine cd_sr ?_   -- 0
  refine ol_q (wn_none rfl) (op_assign (v := .bool _) rfl) rfl ?_
  refine ol_nil_then ?_
  refine cd_seq ?_
  refine cd_sr ?_   -- 1
  refine ol_q (wn_none rfl) (op_move (v := .slice _ _ _) rfl) rfl ?_
  refine ol_q (wn_none rfl) (op_len_slice Try.underlying41 rfl) rfl ?_
  refine ol_q (wn_none rfl) (op_move (v := .slice _ _ _) rfl) rfl ?_
  refine ol_q (wn_none rfl) (op_len_slice Try.underlying41 rfl) rfl ?_
  refine ol_q (wn_none rfl) (op_ne rfl rfl) rfl ?_
  refine ol_nil_then ?_
  refine cd_cond rfl (fun hb1 => ?_) (fun hb1 => ?_)
  · have hp1 := hb1
    (try simp only [decide_eq_true_eq, decide_eq_false_iff_not, Bool.not_eq_true', Bool.not_eq_false', ne_eq, Decidable.not_not] at hp1)
    refine cd_sr ?_   -- 2
    refine ol_q (wn_none rfl) (op_assign (v := .bool _) rfl) rfl ?_
    refine ol_nil_then ?_
    refine cd_ret ?_
    refine px_thenR ?_
    exact px_ret1 rfl (v := .bool _) rfl (fun _ s => s) ⟨congrArg Value.bool (decide_eq_false (fun h => by subst h; omega)).symm, rfl⟩
  · have hp1 := hb1
    (try simp only [decide_eq_true_eq, decide_eq_false_iff_not, Bool.not_eq_true', Bool.not_eq_false', ne_eq, Decidable.not_not] at hp1)
    refine cd_skip ?_
    refine px_then ?_
    refine cd_seq ?_
    refine cd_sr ?_   -- 3
    refine ol_q (wn_none rfl) (op_move (v := .slice _ _ _) rfl) rfl ?_
    refine ol_q (wn_none rfl) (op_len_slice Try.underlying41 rfl) rfl ?_
    refine ol_q (wn_none rfl) (op_move (v := .int _ _) rfl) rfl ?_
    refine ol_nil_then ?_
    refine cd_block ?_
    refine cd_loop (α := Nat) (fun i => [(0, .slice ao xs.length ac), (1, .slice bo ys.length bc), (12, .int .i64 xs.length), (13, .int .i64 i)]) (fun _ => l) (fun i => i ≤ xs.length ∧ xs.take i = ys.take i) (fun i => xs.length - i) 0 ⟨Nat.zero_le _, rfl⟩ ⟨rfl, rfl, rfl, rfl, trivial⟩ (fun _ s => s) ?_
    rintro i ⟨hi, ht⟩ f; (try dsimp only at hi ht ⊢)
    refine cd_sr ?_   -- 4
    refine ol_q (wn_none rfl) (op_lt rfl rfl) rfl ?_
    refine ol_nil_then ?_
    refine cd_seq ?_
    refine cd_cond rfl (fun hb2 => ?_) (fun hb2 => ?_)
    · have hp2 := hb2
      (try simp only [decide_eq_true_eq, decide_eq_false_iff_not, Bool.not_eq_true', Bool.not_eq_false', ne_eq, Decidable.not_not] at hp2)
      have hi1 : i < xs.length := by omega
      have hi2 : i < ys.length := by omega
      refine cd_skip ?_
      refine px_then ?_
      refine cd_seq ?_
      refine cd_block ?_
      refine cd_sr ?_   -- 5
      refine ol_q (wn_none rfl) (op_move (v := .int _ _) rfl) rfl ?_
      refine ol_q (wn_none rfl) (op_assign (v := .int _ _) rfl) rfl ?_
      refine ol_nil_then ?_
      refine cd_seq ?_   -- 6
      refine cd_draw (M := []) mx [] (by kernel_rfl) ?_
      refine rg_q (wn_none rfl) (op_move (v := .slice _ _ _) rfl) rfl rfl ?_
      refine rg_q (wn_none rfl) (op_move (v := .int _ _) rfl) rfl rfl ?_
      refine rg_q (wn_none rfl) (op_index _ sB_41 rfl rfl rfl hra rfl (by omega)) rfl rfl ?_
      refine rg_q (wn_none rfl) (op_ldw sc_4 hra rfl (by omega) rfl) rfl rfl ?_
      refine rg_q (wn_none rfl) (op_move (v := .slice _ _ _) rfl) rfl rfl ?_
      refine rg_q (wn_none rfl) (op_move (v := .int _ _) rfl) rfl rfl ?_
      refine rg_q (wn_none rfl) (op_index _ sB_41 rfl rfl rfl hrb rfl (by omega)) rfl rfl ?_
      refine rg_q (wn_none rfl) (op_ldw sc_4 hrb rfl (by omega) rfl) rfl rfl ?_
      refine rg_q (wn_none rfl) (op_bneq Try.underlying4 rfl rfl) rfl rfl ?_
      refine rg_nil_then0 ?_
      refine cd_cond rfl (fun hb3 => ?_) (fun hb3 => ?_)
      · have hp3 := hb3
        (try simp only [decide_eq_true_eq, decide_eq_false_iff_not, Bool.not_eq_true', Bool.not_eq_false', ne_eq, Decidable.not_not] at hp3)
        refine cd_sr ?_   -- 7
        refine ol_q (wn_none rfl) (op_assign (v := .bool _) rfl) rfl ?_
        refine ol_nil_then ?_
        refine cd_ret ?_
        refine px_blockR ?_
        refine px_thenR ?_
        refine px_thenR ?_
        refine px_blockR ?_
        refine px_thenR ?_
        exact px_ret1 rfl (v := .bool _) rfl (fun _ s => s) ⟨congrArg Value.bool (decide_eq_false (fun h => by subst h; simp at hp3)).symm, rfl⟩
      · have hp3 := hb3
        (try simp only [decide_eq_true_eq, decide_eq_false_iff_not, Bool.not_eq_true', Bool.not_eq_false', ne_eq, Decidable.not_not] at hp3)
        refine cd_skip ?_
        refine px_blockN ?_
        refine px_then ?_
        refine cd_region ?_   -- 8
        refine ol_q (wn_none rfl) (op_add rfl rfl (by omega) (by omega)) rfl ?_
        refine ol_q (wn_none rfl) (op_move (v := .int _ _) rfl) rfl ?_
        refine ol_nil ?_
        exact px_loop (i + 1) ⟨by omega, by rw [List.take_succ_eq_append_getElem hi1, List.take_succ_eq_append_getElem hi2, ht, (by simpa using hp3 : xs[i] = ys[i])]⟩ (by omega) ⟨rfl, rfl, rfl, congrArg (Value.int .i64) (by simp), trivial⟩ (fun _ s => s)
    · have hp2 := hb2
      (try simp only [decide_eq_true_eq, decide_eq_false_iff_not, Bool.not_eq_true', Bool.not_eq_false', ne_eq, Decidable.not_not] at hp2)
      refine cd_exit ?_
      refine px_thenE ?_
      refine px_thenE ?_
      refine px_blockE ?_
      refine px_then ?_
      refine cd_sr ?_   -- 9
      refine ol_q (wn_none rfl) (op_assign (v := .bool _) rfl) rfl ?_
      refine ol_nil_then ?_
      refine cd_ret ?_
      have e : i = xs.length := by omega
      subst e
      exact px_ret1 rfl (v := .bool _) rfl (fun _ s => s) ⟨congrArg Value.bool (decide_eq_true (by rw [List.take_length] at ht; rw [ht]; exact List.take_of_length_le (by omega))).symm, rfl⟩
end Go.SL

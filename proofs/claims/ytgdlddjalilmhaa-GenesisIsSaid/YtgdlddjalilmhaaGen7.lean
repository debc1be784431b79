import Derived.Test.YtgdlddjalilmhaaGen6
set_option linter.unusedVariables false
set_option linter.unusedSimpArgs false
namespace Go.SL
open Go.Proofs

set_option maxRecDepth 100000 in
set_option maxHeartbeats 1000000 in
theorem GenesisIs_calls {w0 w : World} {l : List HProp} (ao : Option Addr) (c : Nat) (xs : List Val) (n1 n2 n3 n4 n5 n6 n7 n8 n9 n10 n11 : Int) (hs : Sat w0 w (l)) (hr : Rds w0 l encVal ao xs) (hq : ∀ y ∈ xs, I64 y.stake ∧ y.key.length ≤ maxLen) :
    Calls Try.prog 3 #[.agg (cfgC ⟨⟨ao, xs.length, c⟩, n1, n2, n3, n4, n5, n6, n7, n8, n9, n10, n11⟩).toArray] w (Ret w0 fun v l' => v = .bool true ∧ l' = l) := by
  refine calls_enter Try.func3 rfl rfl rfl hs ?_
  refine cd_sr ?_   -- 0
  refine ol_i (wn_none rfl) (os_boxa rfl) rfl ?_; rintro _ _ ⟨bx1, rfl, rfl⟩
  refine ol_q (wn_none rfl) (op_assign (v := .bool _) rfl) rfl ?_
  refine ol_nil_then ?_
  refine cd_seq ?_
  refine cd_sr ?_   -- 1
  refine ol_i (wn_none rfl) (os_call cb_15 rfl (fun w s => gAlive_calls  s )) rfl ?_; rintro _ l ⟨rfl, rfl⟩
  refine ol_q (wn_none rfl) (op_not rfl) rfl ?_
  refine ol_nil_then ?_
  refine cd_cond_f rfl rfl ?_
  refine cd_skip ?_
  refine px_then ?_
  refine cd_seq ?_
  refine cd_sr ?_   -- 3
  refine ol_q (wn_none rfl) (op_lda (L := cfgC _) 0 ag_24 rfl rfl (cfgC_ta _) (by simp [cfgC_len])) rfl ?_
  refine ol_i (wn_none rfl) (os_call cb_16 rfl (fun w s => Great_calls _ _ _ _ _ _ _ _ _ _ _ _ _ _  s (hr.cons _))) rfl ?_; rintro _ l ⟨rfl, rfl⟩
  refine ol_nil_then ?_
  refine cd_cond rfl (fun hb1 => ?_) (fun hb1 => ?_)
  · have hp1 := hb1
    (try simp only [decide_eq_true_eq, decide_eq_false_iff_not, Bool.not_eq_true', Bool.not_eq_false', ne_eq, Decidable.not_not] at hp1)
    refine cd_sr ?_   -- 4
    refine ol_q (wn_none rfl) (op_assign (v := .bool _) rfl) rfl ?_
    refine ol_nil_then ?_
    refine cd_ret ?_
    refine px_thenR ?_
    exact px_ret1 rfl (v := .bool _) rfl (fun _ s => (s.del 0)) ⟨congrArg Value.bool (by first | rfl | simp), rfl⟩
  · have hp1 := hb1
    (try simp only [decide_eq_true_eq, decide_eq_false_iff_not, Bool.not_eq_true', Bool.not_eq_false', ne_eq, Decidable.not_not] at hp1)
    have hgr : greatC xs = false := by simpa using hb1
    have hxl : xs.length ≤ 100 := by unfold greatC at hgr; rw [Bool.or_eq_false_iff] at hgr; have := of_decide_eq_false hgr.1; omega
    refine cd_skip ?_
    refine px_then ?_
    refine cd_sr ?_   -- 5
    refine ol_q (wn_none rfl) (op_field fld_24_0 rfl) rfl ?_
    refine ol_q (wn_none rfl) (op_ld 0 sc_22 rfl rfl (cfgC_a0 _)) rfl ?_
    refine ol_i (wn_none rfl) (os_call cb_17 rfl (fun w s => Total_calls _ _ _  s (hr.cons _) (by first | omega | (simp; done) | (simp; omega)))) rfl ?_; rintro _ l ⟨rfl, rfl⟩
    refine ol_q (wn_none rfl) (op_move (v := .tuple _) rfl) rfl ?_
    refine ol_q (wn_none rfl) (op_extract (v := .int _ _) rfl rfl) rfl ?_
    refine ol_q (wn_none rfl) (op_extract (v := .bool _) rfl rfl) rfl ?_
    refine ol_q (wn_none rfl) (op_assign (v := .int _ _) rfl) rfl ?_
    refine ol_q (wn_none rfl) (op_assign (v := .bool _) rfl) rfl ?_
    refine ol_nil_then ?_
    refine cd_sr ?_   -- 6
    refine ol_q (wn_none rfl) (op_field fld_24_0 rfl) rfl ?_
    refine ol_q (wn_none rfl) (op_ld 0 sc_22 rfl rfl (cfgC_a0 _)) rfl ?_
    refine ol_i (wn_none rfl) (os_call cb_18 rfl (fun w s => RTotal_calls _ _ _  s (hr.cons _) (by first | omega | (simp; done) | (simp; omega)) (by assumption))) rfl ?_; rintro _ l ⟨rfl, rfl⟩
    refine ol_q (wn_none rfl) (op_move (v := .tuple _) rfl) rfl ?_
    refine ol_q (wn_none rfl) (op_extract (v := .int _ _) rfl rfl) rfl ?_
    refine ol_q (wn_none rfl) (op_extract (v := .bool _) rfl rfl) rfl ?_
    refine ol_q (wn_none rfl) (op_assign (v := .int _ _) rfl) rfl ?_
    refine ol_q (wn_none rfl) (op_assign (v := .bool _) rfl) rfl ?_
    refine ol_nil_then ?_
    refine cd_seq ?_   -- 7
    refine cd_draw (M := []) mx [10, 12] (by kernel_rfl) ?_
    refine rg_q (wn_none rfl) (op_move (v := .int _ _) rfl) rfl rfl ?_
    refine rg_q (wn_none rfl) (op_move (v := .int _ _) rfl) rfl rfl ?_
    refine rg_q (wn_none rfl) (op_eq rfl rfl) rfl rfl ?_
    refine rg_q (wn_none rfl) (op_move (v := .bool _) rfl) rfl rfl ?_
    refine rg_split 26 rfl (fun hb2 => ?_) (fun hb2 => ?_)
    · have hp2 := hb2
      (try simp only [decide_eq_true_eq, decide_eq_false_iff_not, Bool.not_eq_true', Bool.not_eq_false', ne_eq, Decidable.not_not] at hp2)
      refine rg_q (wn_some rfl rfl rfl hb2 rfl) (op_move (v := .bool _) rfl) rfl rfl ?_
      refine rg_q (wn_some rfl rfl rfl hb2 rfl) (op_move (v := .bool _) rfl) rfl rfl ?_
      refine rg_q (wn_some rfl rfl rfl hb2 rfl) (op_beql Try.underlying4 rfl rfl) rfl rfl ?_
      refine rg_q (wn_none rfl) (op_pick_t (v := .bool _) rfl hb2 rfl) rfl rfl ?_
      refine rg_q (wn_none rfl) (op_move (v := .bool _) rfl) rfl rfl ?_
      refine rg_split 31 rfl (fun hb3 => ?_) (fun hb3 => ?_)
      · have hp3 := hb3
        (try simp only [decide_eq_true_eq, decide_eq_false_iff_not, Bool.not_eq_true', Bool.not_eq_false', ne_eq, Decidable.not_not] at hp3)
        refine rg_q (wn_some rfl rfl rfl hb3 rfl) (op_lda (L := cfgC _) 0 ag_24 rfl rfl (cfgC_ta _) (by simp [cfgC_len])) rfl rfl ?_
        refine rg_i (wn_some rfl rfl rfl hb3 rfl) (os_call cb_19 rfl (fun w s => Good_calls _ _ _ _ _ _ _ _ _ _ _ _ _ _  s (hr.cons _) (by first | omega | (simp; done) | (simp; omega)))) rfl rfl ?_; rintro _ l ⟨rfl, rfl⟩; refine ⟨[], rfl, ?_⟩
        refine rg_q (wn_some rfl rfl rfl hb3 rfl) (op_lda (L := cfgC _) 0 ag_24 rfl rfl (cfgC_ta _) (by simp [cfgC_len])) rfl rfl ?_
        refine rg_i (wn_some rfl rfl rfl hb3 rfl) (os_call cb_20 rfl (fun w s => RGood_calls _ _ _ _ _ _ _ _ _ _ _ _ _ _  s (hr.cons _) (by first | omega | (simp; done) | (simp; omega)) (by assumption))) rfl rfl ?_; rintro _ l ⟨rfl, rfl⟩; refine ⟨[], rfl, ?_⟩
        refine rg_q (wn_some rfl rfl rfl hb3 rfl) (op_beql Try.underlying4 rfl rfl) rfl rfl ?_
        refine rg_q (wn_none rfl) (op_pick_t (v := .bool _) rfl hb3 rfl) rfl rfl ?_
        refine rg_q (wn_none rfl) (op_assign (v := .bool _) rfl) rfl rfl ?_
        refine rg_nil_then0 ?_
        refine cd_ret ?_
        exact px_ret1 rfl (v := .bool _) rfl (fun _ s => (s.del 0)) ⟨congrArg Value.bool (by first | rfl | simp), rfl⟩
      · have hp3 := hb3
        (try simp only [decide_eq_true_eq, decide_eq_false_iff_not, Bool.not_eq_true', Bool.not_eq_false', ne_eq, Decidable.not_not] at hp3)
        exact absurd hb3 (by simp)
    · have hp2 := hb2
      (try simp only [decide_eq_true_eq, decide_eq_false_iff_not, Bool.not_eq_true', Bool.not_eq_false', ne_eq, Decidable.not_not] at hp2)
      exact absurd hb2 (by simp)
end Go.SL

import Derived.Test.YtgdlddjalilmhaaGen3
set_option linter.unusedVariables false
set_option linter.unusedSimpArgs false
namespace Go.SL
open Go.Proofs

theorem galive_good (ao : Option Addr) (n : Nat) : goodC ⟨⟨ao, n, 1⟩, 4, 1, 1, 1, 1, 1, 1, 1, 1, 1, 1⟩ [⟨5, [107]⟩] = true := by simp [goodC, numsC, inR, totF, valOK]
theorem galive_len (ao : Option Addr) (n : Nat) : (bytesC ⟨⟨ao, n, 1⟩, 4, 1, 1, 1, 1, 1, 1, 1, 1, 1, 1⟩ [⟨5, [107]⟩]).length = 58 := by simp [bytesC, bytesA_length, bytesV, putB_length, nums12]

set_option maxRecDepth 100000 in
set_option maxHeartbeats 1000000 in
theorem gAlive_calls {w0 w : World} {l : List HProp}  (hs : Sat w0 w (l))  :
    Calls Try.prog 15 #[] w (Ret w0 fun v l' => v = .bool true ∧ l' = l) := by
  refine calls_enter Try.func15 rfl rfl rfl hs ?_
  refine cd_sr ?_   -- 0
  refine ol_q (wn_none rfl) (op_assign (v := .bool _) rfl) rfl ?_
  refine ol_nil_then ?_
  refine cd_sr ?_   -- 1
  refine ol_q (wn_none rfl) (op_build (L := valC ⟨5, [107]⟩) (vs := [(0, .int _ _), (1, .string _)]) bB_60 rfl ⟨⟨rfl, by rw [valC_len]; rfl⟩, ⟨rfl, by rw [valC_len]; rfl⟩, trivial⟩ (by simp [fill2, valC, Val.zero, SlV.v, B, Value.cells])) rfl ?_
  refine ol_i (wn_none rfl) (os_bslice (E := encVal) [_] (ys := [_]) sB_22 zv_60 rfl rfl rfl rfl (by decide)) rfl ?_; rintro _ _ ⟨ao1, rfl, rfl⟩
  refine ol_q (wn_none rfl) (op_build (L := cfgC ⟨⟨ao1, List.length [(⟨5, [107]⟩ : Val)], 1⟩, 4, 1, 1, 1, 1, 1, 1, 1, 1, 1, 1⟩) (vs := [(0, (SlV.v ⟨_, _, _⟩)), (1, .int _ _), (2, .int _ _), (3, .int _ _), (4, .int _ _), (5, .int _ _), (6, .int _ _), (7, .int _ _), (8, .int _ _), (9, .int _ _), (10, .int _ _), (11, .int _ _)]) bB_24 rfl ⟨⟨rfl, by rw [cfgC_len]; rfl⟩, ⟨rfl, by rw [cfgC_len]; rfl⟩, ⟨rfl, by rw [cfgC_len]; rfl⟩, ⟨rfl, by rw [cfgC_len]; rfl⟩, ⟨rfl, by rw [cfgC_len]; rfl⟩, ⟨rfl, by rw [cfgC_len]; rfl⟩, ⟨rfl, by rw [cfgC_len]; rfl⟩, ⟨rfl, by rw [cfgC_len]; rfl⟩, ⟨rfl, by rw [cfgC_len]; rfl⟩, ⟨rfl, by rw [cfgC_len]; rfl⟩, ⟨rfl, by rw [cfgC_len]; rfl⟩, ⟨rfl, by rw [cfgC_len]; rfl⟩, trivial⟩ (by simp [fill2, cfgC, Cfg.zero, SlV.v, B, Value.cells])) rfl ?_
  refine ol_i (wn_none rfl) (os_alloc (cs := (cfgC Cfg.zero).toArray) zB_24 (by kernel_rfl)) rfl ?_; rintro _ _ ⟨bx1, rfl, rfl⟩
  refine ol_iN (wn_none rfl) (os_storew (cfgC _) ag_24 rfl rfl (cfgC_len _) (cfgC_one _) (by simp [cfgC_len]) (Free.zero _)) ?_; rintro _ _ ⟨rfl, rfl⟩
  refine ol_nil_then ?_
  refine cd_sr ?_   -- 2
  refine ol_q (wn_none rfl) (op_field fld_24_0 rfl) rfl ?_
  refine ol_q (wn_none rfl) (op_ld 0 sc_22 rfl rfl (cfgC_a0 _)) rfl ?_
  refine ol_i (wn_none rfl) (os_call cb_17 rfl (fun w s => Total_calls _ _ _  s (rds_row 1 rfl rfl) (by simp))) rfl ?_; rintro _ l ⟨rfl, rfl⟩
  refine ol_q (wn_none rfl) (op_move (v := .tuple _) rfl) rfl ?_
  refine ol_q (wn_none rfl) (op_extract (v := .int _ _) rfl rfl) rfl ?_
  refine ol_q (wn_none rfl) (op_extract (v := .bool _) rfl rfl) rfl ?_
  refine ol_q (wn_none rfl) (op_assign (v := .int _ _) rfl) rfl ?_
  refine ol_q (wn_none rfl) (op_assign (v := .bool _) rfl) rfl ?_
  refine ol_nil_then ?_
  refine cd_sr ?_   -- 3
  refine ol_q (wn_none rfl) (op_lda (L := cfgC _) 0 ag_24 rfl rfl (cfgC_ta _) (by simp [cfgC_len])) rfl ?_
  refine ol_i (wn_none rfl) (os_call cb_19 rfl (fun w s => Good_calls _ _ _ _ _ _ _ _ _ _ _ _ _ _  s (rds_row 1 rfl rfl) (by simp))) rfl ?_; rintro _ l ⟨rfl, rfl⟩
  refine ol_q (wn_none rfl) (op_move (v := .bool _) rfl) rfl ?_
  refine ol_split 15 rfl (fun hb1 => ?_) (fun hb1 => ?_)
  · have hp1 := hb1
    (try simp only [decide_eq_true_eq, decide_eq_false_iff_not, Bool.not_eq_true', Bool.not_eq_false', ne_eq, Decidable.not_not] at hp1)
    refine ol_q (wn_some rfl rfl rfl hb1 rfl) (op_lda (L := cfgC _) 0 ag_24 rfl rfl (cfgC_ta _) (by simp [cfgC_len])) rfl ?_
    refine ol_i (wn_some rfl rfl rfl hb1 rfl) (os_call cb_23 rfl (fun w s => Epoch_calls (sl := 7) _ _ _ _ _ _ _ _ _ _ _ _ _ _  s (by decide) (by decide) (by decide))) rfl ?_; rintro _ l ⟨rfl, rfl⟩
    refine ol_q (wn_some rfl rfl rfl hb1 rfl) (op_eq rfl rfl) rfl ?_
    refine ol_q (wn_none rfl) (op_pick_t (v := .bool _) rfl hb1 rfl) rfl ?_
    refine ol_q (wn_none rfl) (op_move (v := .bool _) rfl) rfl ?_
    refine ol_split 20 rfl (fun hb2 => ?_) (fun hb2 => ?_)
    · have hp2 := hb2
      (try simp only [decide_eq_true_eq, decide_eq_false_iff_not, Bool.not_eq_true', Bool.not_eq_false', ne_eq, Decidable.not_not] at hp2)
      refine ol_q (wn_some rfl rfl rfl hb2 rfl) (op_move (v := .int _ _) rfl) rfl ?_
      refine ol_q (wn_some rfl rfl rfl hb2 rfl) (op_eq rfl rfl) rfl ?_
      refine ol_q (wn_none rfl) (op_pick_t (v := .bool _) rfl hb2 rfl) rfl ?_
      refine ol_q (wn_none rfl) (op_move (v := .bool _) rfl) rfl ?_
      refine ol_split 24 rfl (fun hb3 => ?_) (fun hb3 => ?_)
      · have hp3 := hb3
        (try simp only [decide_eq_true_eq, decide_eq_false_iff_not, Bool.not_eq_true', Bool.not_eq_false', ne_eq, Decidable.not_not] at hp3)
        refine ol_q (wn_some rfl rfl rfl hb3 rfl) (op_move (v := .bool _) rfl) rfl ?_
        refine ol_q (wn_none rfl) (op_pick_t (v := .bool _) rfl hb3 rfl) rfl ?_
        refine ol_q (wn_none rfl) (op_move (v := .bool _) rfl) rfl ?_
        refine ol_split 27 rfl (fun hb4 => ?_) (fun hb4 => ?_)
        · have hp4 := hb4
          (try simp only [decide_eq_true_eq, decide_eq_false_iff_not, Bool.not_eq_true', Bool.not_eq_false', ne_eq, Decidable.not_not] at hp4)
          refine ol_q (wn_some rfl rfl rfl hb4 rfl) (op_lda (L := cfgC _) 0 ag_24 rfl rfl (cfgC_ta _) (by simp [cfgC_len])) rfl ?_
          refine ol_i (wn_some rfl rfl rfl hb4 rfl) (os_call cb_21 rfl (fun w s => GBytes_calls _ _ _ _ _ _ _ _ _ _ _ _ _ _  s (rds_row 1 rfl rfl) (by simp) (by simp))) rfl ?_; rintro _ l ⟨rfl, rfl⟩
          refine ol_q (wn_some rfl rfl rfl hb4 rfl) (op_len_string Try.underlying9 rfl) rfl ?_
          refine ol_q (wn_some rfl rfl rfl hb4 rfl) (op_eq rfl rfl) rfl ?_
          refine ol_q (wn_none rfl) (op_pick_t (v := .bool _) rfl hb4 rfl) rfl ?_
          refine ol_q (wn_none rfl) (op_assign (v := .bool _) rfl) rfl ?_
          refine ol_nil_then ?_
          refine cd_ret ?_
          exact px_ret1 rfl (v := .bool _) rfl (fun _ s => ((s.del 1).del 0)) ⟨congrArg Value.bool (by first | (rw [galive_len]; simp; done) | decide +kernel), rfl⟩
        · have hp4 := hb4
          (try simp only [decide_eq_true_eq, decide_eq_false_iff_not, Bool.not_eq_true', Bool.not_eq_false', ne_eq, Decidable.not_not] at hp4)
          exact absurd hb4 (by first | (rw [galive_good]; simp; done) | decide +kernel)
      · have hp3 := hb3
        (try simp only [decide_eq_true_eq, decide_eq_false_iff_not, Bool.not_eq_true', Bool.not_eq_false', ne_eq, Decidable.not_not] at hp3)
        exact absurd hb3 (by first | (rw [galive_good]; simp; done) | decide +kernel)
    · have hp2 := hb2
      (try simp only [decide_eq_true_eq, decide_eq_false_iff_not, Bool.not_eq_true', Bool.not_eq_false', ne_eq, Decidable.not_not] at hp2)
      exact absurd hb2 (by first | (rw [galive_good]; simp; done) | decide +kernel)
  · have hp1 := hb1
    (try simp only [decide_eq_true_eq, decide_eq_false_iff_not, Bool.not_eq_true', Bool.not_eq_false', ne_eq, Decidable.not_not] at hp1)
    exact absurd hb1 (by first | (rw [galive_good]; simp; done) | decide +kernel)
end Go.SL

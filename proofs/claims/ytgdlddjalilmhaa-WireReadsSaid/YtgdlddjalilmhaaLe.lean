import Derived.Test.YtgdlddjalilmhaaEng
import Derived.Test.YtgdlddjalilmhaaMLe
import Derived.Test.YtgdlddjalilmhaaFacts
set_option linter.unusedVariables false
set_option linter.unusedSimpArgs false
namespace Go.SL
open Go.Proofs

/-- a reader: its block -/
def RdObj (p : Nat) (r : RdS) : HProp := Blk p (.cells #[.string (B r.rest), .bool r.short] 86 (0, 0))

set_option maxRecDepth 100000 in
set_option maxHeartbeats 1000000 in
theorem From_calls {w0 w : World} {l : List HProp} (s : List UInt8) (hs : Sat w0 w (l))  :
    Calls Try.prog 45 #[.string (B s)] w (Ret w0 fun v l' => ∃ p, v = .pointer (some ⟨p, 0, none⟩) ∧ l' = RdObj p ⟨s, false⟩ :: l) := by
  refine calls_enter Try.func45 rfl rfl rfl hs ?_
  refine cd_sr ?_   -- 0
  refine ol_q (wn_none rfl) (op_assign (v := .pointer _) rfl) rfl ?_
  refine ol_nil_then ?_
  refine cd_sr ?_   -- 1
  refine ol_q (wn_none rfl) (op_move (v := .string _) rfl) rfl ?_
  refine ol_q (wn_none rfl) (op_build (L := [_, _]) (vs := [(0, .string _)]) bB_86 rfl ⟨⟨rfl, rfl⟩, trivial⟩ rfl) rfl ?_
  refine ol_i (wn_none rfl) (os_boxa rfl) rfl ?_; rintro _ _ ⟨bx1, rfl, rfl⟩
  refine ol_q (wn_none rfl) (op_assign (v := .pointer _) rfl) rfl ?_
  refine ol_nil_then ?_
  refine cd_ret ?_
  exact px_ret1 rfl rfl (fun _ s => s) ⟨_, rfl, rfl⟩

set_option maxRecDepth 100000 in
set_option maxHeartbeats 1000000 in
theorem End_calls {w0 w : World} {l : List HProp} (p : Nat) (r : RdS) (hs : Sat w0 w ((RdObj p r) :: l))  :
    Calls Try.prog 50 #[.pointer (some ⟨p, 0, none⟩)] w (Ret w0 fun v l' => v = .bool (!r.short && decide (r.rest = [])) ∧ l' = RdObj p r :: l) := by
  refine calls_enter Try.func50 rfl rfl rfl hs ?_
  refine cd_sr ?_   -- 0
  refine ol_q (wn_none rfl) (op_assign (v := .bool _) rfl) rfl ?_
  refine ol_nil_then ?_
  refine cd_sr ?_   -- 1
  refine ol_q (wn_none rfl) (op_move (v := .pointer _) rfl) rfl ?_
  refine ol_q (wn_none rfl) (op_nenil Try.underlying66 rfl rfl) rfl ?_
  refine ol_q (wn_none rfl) (op_move (v := .bool _) rfl) rfl ?_
  refine ol_q (wn_some rfl rfl rfl rfl rfl) (op_move (v := .pointer _) rfl) rfl ?_
  refine ol_q (wn_some rfl rfl rfl rfl rfl) (op_nilck rfl) rfl ?_
  refine ol_q (wn_some rfl rfl rfl rfl rfl) (op_field fld_86_1 rfl) rfl ?_
  refine ol_q (wn_some rfl rfl rfl rfl rfl) (op_ld 0 sc_4 rfl rfl rfl) rfl ?_
  refine ol_q (wn_some rfl rfl rfl rfl rfl) (op_not rfl) rfl ?_
  refine ol_q (wn_none rfl) (op_pick_t (v := .bool _) rfl rfl rfl) rfl ?_
  refine ol_q (wn_none rfl) (op_move (v := .bool _) rfl) rfl ?_
  refine ol_split 12 rfl (fun hb1 => ?_) (fun hb1 => ?_)
  · have hp1 := hb1
    (try simp only [decide_eq_true_eq, decide_eq_false_iff_not, Bool.not_eq_true', Bool.not_eq_false', ne_eq, Decidable.not_not] at hp1)
    refine ol_q (wn_some rfl rfl rfl hb1 rfl) (op_move (v := .pointer _) rfl) rfl ?_
    refine ol_q (wn_some rfl rfl rfl hb1 rfl) (op_nilck rfl) rfl ?_
    refine ol_q (wn_some rfl rfl rfl hb1 rfl) (op_field fld_86_0 rfl) rfl ?_
    refine ol_q (wn_some rfl rfl rfl hb1 rfl) (op_ld 0 sc_9 rfl rfl rfl) rfl ?_
    refine ol_q (wn_some rfl rfl rfl hb1 rfl) (op_seql rfl rfl) rfl ?_
    refine ol_q (wn_none rfl) (op_pick_t (v := .bool _) rfl hb1 rfl) rfl ?_
    refine ol_q (wn_none rfl) (op_assign (v := .bool _) rfl) rfl ?_
    refine ol_nil_then ?_
    refine cd_ret ?_
    exact px_ret1 rfl (v := .bool _) rfl (fun _ s => s) ⟨by simp_all, rfl⟩
  · have hp1 := hb1
    (try simp only [decide_eq_true_eq, decide_eq_false_iff_not, Bool.not_eq_true', Bool.not_eq_false', ne_eq, Decidable.not_not] at hp1)
    refine ol_skip (wn_some rfl rfl rfl hb1 rfl) rfl ?_
    refine ol_skip (wn_some rfl rfl rfl hb1 rfl) rfl ?_
    refine ol_skip (wn_some rfl rfl rfl hb1 rfl) rfl ?_
    refine ol_skip (wn_some rfl rfl rfl hb1 rfl) rfl ?_
    refine ol_skip (wn_some rfl rfl rfl hb1 rfl) rfl ?_
    refine ol_q (wn_none rfl) (op_pick_f (v := .bool _) rfl hb1 rfl) rfl ?_
    refine ol_q (wn_none rfl) (op_assign (v := .bool _) rfl) rfl ?_
    refine ol_nil_then ?_
    refine cd_ret ?_
    exact px_ret1 rfl (v := .bool _) rfl (fun _ s => s) ⟨by simp_all, rfl⟩

set_option maxRecDepth 100000 in
set_option maxHeartbeats 1000000 in
theorem End_nil {w0 w : World} {l : List HProp}  (hs : Sat w0 w (l))  :
    Calls Try.prog 50 #[.pointer none] w (Ret w0 fun v l' => v = .bool false ∧ l' = l) := by
  refine calls_enter Try.func50 rfl rfl rfl hs ?_
  refine cd_sr ?_   -- 0
  refine ol_q (wn_none rfl) (op_assign (v := .bool _) rfl) rfl ?_
  refine ol_nil_then ?_
  refine cd_sr ?_   -- 1
  refine ol_q (wn_none rfl) (op_move (v := .pointer _) rfl) rfl ?_
  refine ol_q (wn_none rfl) (op_nenil Try.underlying66 rfl rfl) rfl ?_
  refine ol_q (wn_none rfl) (op_move (v := .bool _) rfl) rfl ?_
  refine ol_skip (wn_some rfl rfl rfl rfl rfl) rfl ?_
  refine ol_skip (wn_some rfl rfl rfl rfl rfl) rfl ?_
  refine ol_skip (wn_some rfl rfl rfl rfl rfl) rfl ?_
  refine ol_skip (wn_some rfl rfl rfl rfl rfl) rfl ?_
  refine ol_skip (wn_some rfl rfl rfl rfl rfl) rfl ?_
  refine ol_q (wn_none rfl) (op_pick_f (v := .bool _) rfl rfl rfl) rfl ?_
  refine ol_q (wn_none rfl) (op_move (v := .bool _) rfl) rfl ?_
  refine ol_skip (wn_some rfl rfl rfl rfl rfl) rfl ?_
  refine ol_skip (wn_some rfl rfl rfl rfl rfl) rfl ?_
  refine ol_skip (wn_some rfl rfl rfl rfl rfl) rfl ?_
  refine ol_skip (wn_some rfl rfl rfl rfl rfl) rfl ?_
  refine ol_skip (wn_some rfl rfl rfl rfl rfl) rfl ?_
  refine ol_q (wn_none rfl) (op_pick_f (v := .bool _) rfl rfl rfl) rfl ?_
  refine ol_q (wn_none rfl) (op_assign (v := .bool _) rfl) rfl ?_
  refine ol_nil_then ?_
  refine cd_ret ?_
  exact px_ret1 rfl (v := .bool _) rfl (fun _ s => s) ⟨rfl, rfl⟩

set_option maxRecDepth 100000 in
set_option maxHeartbeats 1000000 in
theorem Left_calls {w0 w : World} {l : List HProp} (p : Nat) (r : RdS) (hs : Sat w0 w ((RdObj p r) :: l))  :
    Calls Try.prog 49 #[.pointer (some ⟨p, 0, none⟩)] w (Ret w0 fun v l' => v = .int .i64 r.rest.length ∧ l' = RdObj p r :: l) := by
  refine calls_enter Try.func49 rfl rfl rfl hs ?_
  refine cd_sr ?_   -- 0
  refine ol_q (wn_none rfl) (op_assign (v := .int _ _) rfl) rfl ?_
  refine ol_nil_then ?_
  refine cd_seq ?_
  refine cd_sr ?_   -- 1
  refine ol_q (wn_none rfl) (op_move (v := .pointer _) rfl) rfl ?_
  refine ol_q (wn_none rfl) (op_eqnil Try.underlying66 rfl rfl) rfl ?_
  refine ol_nil_then ?_
  refine cd_cond_f rfl rfl ?_
  refine cd_skip ?_
  refine px_then ?_
  refine cd_sr ?_   -- 3
  refine ol_q (wn_none rfl) (op_move (v := .pointer _) rfl) rfl ?_
  refine ol_q (wn_none rfl) (op_nilck rfl) rfl ?_
  refine ol_q (wn_none rfl) (op_field fld_86_0 rfl) rfl ?_
  refine ol_q (wn_none rfl) (op_ld 0 sc_9 rfl rfl rfl) rfl ?_
  refine ol_q (wn_none rfl) (op_len_string Try.underlying9 rfl) rfl ?_
  refine ol_q (wn_none rfl) (op_assign (v := .int _ _) rfl) rfl ?_
  refine ol_nil_then ?_
  refine cd_ret ?_
  exact px_ret1 rfl (v := .int _ _) rfl (fun _ s => s) ⟨rfl, rfl⟩

set_option maxRecDepth 100000 in
set_option maxHeartbeats 1000000 in
theorem Left_nil {w0 w : World} {l : List HProp}  (hs : Sat w0 w (l))  :
    Calls Try.prog 49 #[.pointer none] w (Ret w0 fun v l' => v = .int .i64 0 ∧ l' = l) := by
  refine calls_enter Try.func49 rfl rfl rfl hs ?_
  refine cd_sr ?_   -- 0
  refine ol_q (wn_none rfl) (op_assign (v := .int _ _) rfl) rfl ?_
  refine ol_nil_then ?_
  refine cd_seq ?_
  refine cd_sr ?_   -- 1
  refine ol_q (wn_none rfl) (op_move (v := .pointer _) rfl) rfl ?_
  refine ol_q (wn_none rfl) (op_eqnil Try.underlying66 rfl rfl) rfl ?_
  refine ol_nil_then ?_
  refine cd_cond_t rfl rfl ?_
  refine cd_sr ?_   -- 2
  refine ol_q (wn_none rfl) (op_assign (v := .int _ _) rfl) rfl ?_
  refine ol_nil_then ?_
  refine cd_ret ?_
  refine px_thenR ?_
  exact px_ret1 rfl (v := .int _ _) rfl (fun _ s => s) ⟨rfl, rfl⟩

set_option maxRecDepth 100000 in
set_option maxHeartbeats 1000000 in
theorem Bytes_calls {w0 w : World} {l : List HProp} (p : Nat) (r : RdS) (n : Int) (hs : Sat w0 w ((RdObj p r) :: l))  :
    Calls Try.prog 47 #[.pointer (some ⟨p, 0, none⟩), .int .i64 n] w (Ret w0 fun v l' => v = .string (B (rdBytes r n).1) ∧ l' = RdObj p (rdBytes r n).2 :: l) := by
  refine calls_enter Try.func47 rfl rfl rfl hs ?_
  refine cd_sr ?_   -- 0
  refine ol_q (wn_none rfl) (op_assign (v := .string _) rfl) rfl ?_
  refine ol_nil_then ?_
  refine cd_seq ?_
  refine cd_sr ?_   -- 1
  refine ol_q (wn_none rfl) (op_move (v := .pointer _) rfl) rfl ?_
  refine ol_q (wn_none rfl) (op_eqnil Try.underlying66 rfl rfl) rfl ?_
  refine ol_q (wn_none rfl) (op_move (v := .bool _) rfl) rfl ?_
  refine ol_q (wn_some rfl rfl rfl rfl rfl) (op_move (v := .pointer _) rfl) rfl ?_
  refine ol_q (wn_some rfl rfl rfl rfl rfl) (op_nilck rfl) rfl ?_
  refine ol_q (wn_some rfl rfl rfl rfl rfl) (op_field fld_86_1 rfl) rfl ?_
  refine ol_q (wn_some rfl rfl rfl rfl rfl) (op_ld 0 sc_4 rfl rfl rfl) rfl ?_
  refine ol_q (wn_none rfl) (op_pick_f (v := .bool _) rfl rfl rfl) rfl ?_
  refine ol_q (wn_none rfl) (op_move (v := .bool _) rfl) rfl ?_
  refine ol_split 14 rfl (fun hb1 => ?_) (fun hb1 => ?_)
  · have hp1 := hb1
    (try simp only [decide_eq_true_eq, decide_eq_false_iff_not, Bool.not_eq_true', Bool.not_eq_false', ne_eq, Decidable.not_not] at hp1)
    refine ol_skip (wn_some rfl rfl rfl hb1 rfl) rfl ?_
    refine ol_skip (wn_some rfl rfl rfl hb1 rfl) rfl ?_
    refine ol_q (wn_none rfl) (op_pick_t (v := .bool _) rfl hb1 rfl) rfl ?_
    refine ol_q (wn_none rfl) (op_move (v := .bool _) rfl) rfl ?_
    refine ol_skip (wn_some rfl rfl rfl rfl rfl) rfl ?_
    refine ol_skip (wn_some rfl rfl rfl rfl rfl) rfl ?_
    refine ol_skip (wn_some rfl rfl rfl rfl rfl) rfl ?_
    refine ol_skip (wn_some rfl rfl rfl rfl rfl) rfl ?_
    refine ol_skip (wn_some rfl rfl rfl rfl rfl) rfl ?_
    refine ol_skip (wn_some rfl rfl rfl rfl rfl) rfl ?_
    refine ol_skip (wn_some rfl rfl rfl rfl rfl) rfl ?_
    refine ol_q (wn_none rfl) (op_pick_t (v := .bool _) rfl rfl rfl) rfl ?_
    refine ol_nil_then ?_
    refine cd_cond_t rfl rfl ?_
    refine cd_seq ?_
    refine cd_sr ?_   -- 2
    refine ol_q (wn_none rfl) (op_move (v := .pointer _) rfl) rfl ?_
    refine ol_q (wn_none rfl) (op_nenil Try.underlying66 rfl rfl) rfl ?_
    refine ol_nil_then ?_
    refine cd_cond_t rfl rfl ?_
    refine cd_region ?_   -- 3
    refine ol_q (wn_none rfl) (op_move (v := .pointer _) rfl) rfl ?_
    refine ol_q (wn_none rfl) (op_move (v := .pointer _) rfl) rfl ?_
    refine ol_q (wn_none rfl) (op_nilck rfl) rfl ?_
    refine ol_q (wn_none rfl) (op_field fld_86_1 rfl) rfl ?_
    refine ol_iN (wn_none rfl) (os_store (v := .bool _) sc_4 rfl rfl rfl rfl (Free.zero _) rfl) ?_; rintro _ _ ⟨rfl, rfl⟩
    refine ol_q (wn_none rfl) (op_nilck rfl) rfl ?_
    refine ol_q (wn_none rfl) (op_field fld_86_0 rfl) rfl ?_
    refine ol_iN (wn_none rfl) (os_store (v := .string _) sc_9 rfl rfl rfl rfl (Free.zero _) rfl) ?_; rintro _ _ ⟨rfl, rfl⟩
    refine ol_nil ?_
    refine px_then ?_
    refine cd_sr ?_   -- 4
    refine ol_q (wn_none rfl) (op_assign (v := .string _) rfl) rfl ?_
    refine ol_nil_then ?_
    refine cd_ret ?_
    refine px_thenR ?_
    exact px_ret1 rfl (v := .string _) rfl (fun _ s => s) ⟨by simp [rdBytes, *] <;> rfl, by simp [rdBytes, RdObj, *] <;> rfl⟩
  · have hp1 := hb1
    (try simp only [decide_eq_true_eq, decide_eq_false_iff_not, Bool.not_eq_true', Bool.not_eq_false', ne_eq, Decidable.not_not] at hp1)
    refine ol_q (wn_some rfl rfl rfl hb1 rfl) (op_move (v := .int _ _) rfl) rfl ?_
    refine ol_q (wn_some rfl rfl rfl hb1 rfl) (op_lt rfl rfl) rfl ?_
    refine ol_q (wn_none rfl) (op_pick_f (v := .bool _) rfl hb1 rfl) rfl ?_
    refine ol_q (wn_none rfl) (op_move (v := .bool _) rfl) rfl ?_
    refine ol_split 18 rfl (fun hb2 => ?_) (fun hb2 => ?_)
    · have hp2 := hb2
      (try simp only [decide_eq_true_eq, decide_eq_false_iff_not, Bool.not_eq_true', Bool.not_eq_false', ne_eq, Decidable.not_not] at hp2)
      refine ol_skip (wn_some rfl rfl rfl hb2 rfl) rfl ?_
      refine ol_skip (wn_some rfl rfl rfl hb2 rfl) rfl ?_
      refine ol_skip (wn_some rfl rfl rfl hb2 rfl) rfl ?_
      refine ol_skip (wn_some rfl rfl rfl hb2 rfl) rfl ?_
      refine ol_skip (wn_some rfl rfl rfl hb2 rfl) rfl ?_
      refine ol_skip (wn_some rfl rfl rfl hb2 rfl) rfl ?_
      refine ol_skip (wn_some rfl rfl rfl hb2 rfl) rfl ?_
      refine ol_q (wn_none rfl) (op_pick_t (v := .bool _) rfl hb2 rfl) rfl ?_
      refine ol_nil_then ?_
      refine cd_cond_t rfl rfl ?_
      refine cd_seq ?_
      refine cd_sr ?_   -- 2
      refine ol_q (wn_none rfl) (op_move (v := .pointer _) rfl) rfl ?_
      refine ol_q (wn_none rfl) (op_nenil Try.underlying66 rfl rfl) rfl ?_
      refine ol_nil_then ?_
      refine cd_cond_t rfl rfl ?_
      refine cd_region ?_   -- 3
      refine ol_q (wn_none rfl) (op_move (v := .pointer _) rfl) rfl ?_
      refine ol_q (wn_none rfl) (op_move (v := .pointer _) rfl) rfl ?_
      refine ol_q (wn_none rfl) (op_nilck rfl) rfl ?_
      refine ol_q (wn_none rfl) (op_field fld_86_1 rfl) rfl ?_
      refine ol_iN (wn_none rfl) (os_store (v := .bool _) sc_4 rfl rfl rfl rfl (Free.zero _) rfl) ?_; rintro _ _ ⟨rfl, rfl⟩
      refine ol_q (wn_none rfl) (op_nilck rfl) rfl ?_
      refine ol_q (wn_none rfl) (op_field fld_86_0 rfl) rfl ?_
      refine ol_iN (wn_none rfl) (os_store (v := .string _) sc_9 rfl rfl rfl rfl (Free.zero _) rfl) ?_; rintro _ _ ⟨rfl, rfl⟩
      refine ol_nil ?_
      refine px_then ?_
      refine cd_sr ?_   -- 4
      refine ol_q (wn_none rfl) (op_assign (v := .string _) rfl) rfl ?_
      refine ol_nil_then ?_
      refine cd_ret ?_
      refine px_thenR ?_
      exact px_ret1 rfl (v := .string _) rfl (fun _ s => s) ⟨by simp [rdBytes, *] <;> rfl, by simp [rdBytes, RdObj, *] <;> rfl⟩
    · have hp2 := hb2
      (try simp only [decide_eq_true_eq, decide_eq_false_iff_not, Bool.not_eq_true', Bool.not_eq_false', ne_eq, Decidable.not_not] at hp2)
      refine ol_q (wn_some rfl rfl rfl hb2 rfl) (op_move (v := .int _ _) rfl) rfl ?_
      refine ol_q (wn_some rfl rfl rfl hb2 rfl) (op_move (v := .pointer _) rfl) rfl ?_
      refine ol_q (wn_some rfl rfl rfl hb2 rfl) (op_nilck rfl) rfl ?_
      refine ol_q (wn_some rfl rfl rfl hb2 rfl) (op_field fld_86_0 rfl) rfl ?_
      refine ol_q (wn_some rfl rfl rfl hb2 rfl) (op_ld 0 sc_9 rfl rfl rfl) rfl ?_
      refine ol_q (wn_some rfl rfl rfl hb2 rfl) (op_len_string Try.underlying9 rfl) rfl ?_
      refine ol_q (wn_some rfl rfl rfl hb2 rfl) (op_gt rfl rfl) rfl ?_
      refine ol_q (wn_none rfl) (op_pick_f (v := .bool _) rfl hb2 rfl) rfl ?_
      refine ol_nil_then ?_
      refine cd_cond rfl (fun hb3 => ?_) (fun hb3 => ?_)
      · have hp3 := hb3
        (try simp only [decide_eq_true_eq, decide_eq_false_iff_not, Bool.not_eq_true', Bool.not_eq_false', ne_eq, Decidable.not_not] at hp3)
        refine cd_seq ?_
        refine cd_sr ?_   -- 2
        refine ol_q (wn_none rfl) (op_move (v := .pointer _) rfl) rfl ?_
        refine ol_q (wn_none rfl) (op_nenil Try.underlying66 rfl rfl) rfl ?_
        refine ol_nil_then ?_
        refine cd_cond_t rfl rfl ?_
        refine cd_region ?_   -- 3
        refine ol_q (wn_none rfl) (op_move (v := .pointer _) rfl) rfl ?_
        refine ol_q (wn_none rfl) (op_move (v := .pointer _) rfl) rfl ?_
        refine ol_q (wn_none rfl) (op_nilck rfl) rfl ?_
        refine ol_q (wn_none rfl) (op_field fld_86_1 rfl) rfl ?_
        refine ol_iN (wn_none rfl) (os_store (v := .bool _) sc_4 rfl rfl rfl rfl (Free.zero _) rfl) ?_; rintro _ _ ⟨rfl, rfl⟩
        refine ol_q (wn_none rfl) (op_nilck rfl) rfl ?_
        refine ol_q (wn_none rfl) (op_field fld_86_0 rfl) rfl ?_
        refine ol_iN (wn_none rfl) (os_store (v := .string _) sc_9 rfl rfl rfl rfl (Free.zero _) rfl) ?_; rintro _ _ ⟨rfl, rfl⟩
        refine ol_nil ?_
        refine px_then ?_
        refine cd_sr ?_   -- 4
        refine ol_q (wn_none rfl) (op_assign (v := .string _) rfl) rfl ?_
        refine ol_nil_then ?_
        refine cd_ret ?_
        refine px_thenR ?_
        exact px_ret1 rfl (v := .string _) rfl (fun _ s => s) ⟨by simp [rdBytes, *] <;> rfl, by simp [rdBytes, RdObj, *] <;> rfl⟩
      · have hp3 := hb3
        (try simp only [decide_eq_true_eq, decide_eq_false_iff_not, Bool.not_eq_true', Bool.not_eq_false', ne_eq, Decidable.not_not] at hp3)
        refine cd_skip ?_
        refine px_then ?_
        refine cd_sr ?_   -- 5
        refine ol_q (wn_none rfl) (op_move (v := .pointer _) rfl) rfl ?_
        refine ol_q (wn_none rfl) (op_nilck rfl) rfl ?_
        refine ol_q (wn_none rfl) (op_field fld_86_0 rfl) rfl ?_
        refine ol_q (wn_none rfl) (op_ld 0 sc_9 rfl rfl rfl) rfl ?_
        refine ol_q (wn_none rfl) (op_move (v := .int _ _) rfl) rfl ?_
        refine ol_q (wn_none rfl) (op_sslice_to _ Try.underlying9 rfl rfl (Int.toNat_of_nonneg (by omega)).symm (by omega)) rfl ?_
        refine ol_q (wn_none rfl) (op_assign (v := .string _) rfl) rfl ?_
        refine ol_nil_then ?_
        refine cd_sr ?_   -- 6
        refine ol_q (wn_none rfl) (op_move (v := .pointer _) rfl) rfl ?_
        refine ol_q (wn_none rfl) (op_move (v := .pointer _) rfl) rfl ?_
        refine ol_q (wn_none rfl) (op_nilck rfl) rfl ?_
        refine ol_q (wn_none rfl) (op_field fld_86_0 rfl) rfl ?_
        refine ol_q (wn_none rfl) (op_ld 0 sc_9 rfl rfl rfl) rfl ?_
        refine ol_q (wn_none rfl) (op_move (v := .int _ _) rfl) rfl ?_
        refine ol_q (wn_none rfl) (op_sslice_from _ Try.underlying9 rfl rfl (Int.toNat_of_nonneg (by omega)).symm (by omega)) rfl ?_
        refine ol_q (wn_none rfl) (op_nilck rfl) rfl ?_
        refine ol_q (wn_none rfl) (op_field fld_86_0 rfl) rfl ?_
        refine ol_iN (wn_none rfl) (os_store (v := .string _) sc_9 rfl rfl rfl rfl (Free.zero _) rfl) ?_; rintro _ _ ⟨rfl, rfl⟩
        refine ol_nil_then ?_
        refine cd_sr ?_   -- 7
        refine ol_q (wn_none rfl) (op_move (v := .string _) rfl) rfl ?_
        refine ol_q (wn_none rfl) (op_assign (v := .string _) rfl) rfl ?_
        refine ol_nil_then ?_
        refine cd_ret ?_
        exact px_ret1 rfl (v := .string _) rfl (fun _ s => s) ⟨by simp [rdBytes, *] <;> rfl, by simp [rdBytes, RdObj, *] <;> rfl⟩

set_option maxRecDepth 100000 in
set_option maxHeartbeats 1000000 in
theorem Bytes_nil {w0 w : World} {l : List HProp} (n : Int) (hs : Sat w0 w (l))  :
    Calls Try.prog 47 #[.pointer none, .int .i64 n] w (Ret w0 fun v l' => v = .string (B []) ∧ l' = l) := by
  refine calls_enter Try.func47 rfl rfl rfl hs ?_
  refine cd_sr ?_   -- 0
  refine ol_q (wn_none rfl) (op_assign (v := .string _) rfl) rfl ?_
  refine ol_nil_then ?_
  refine cd_seq ?_
  refine cd_sr ?_   -- 1
  refine ol_q (wn_none rfl) (op_move (v := .pointer _) rfl) rfl ?_
  refine ol_q (wn_none rfl) (op_eqnil Try.underlying66 rfl rfl) rfl ?_
  refine ol_q (wn_none rfl) (op_move (v := .bool _) rfl) rfl ?_
  refine ol_skip (wn_some rfl rfl rfl rfl rfl) rfl ?_
  refine ol_skip (wn_some rfl rfl rfl rfl rfl) rfl ?_
  refine ol_skip (wn_some rfl rfl rfl rfl rfl) rfl ?_
  refine ol_skip (wn_some rfl rfl rfl rfl rfl) rfl ?_
  refine ol_q (wn_none rfl) (op_pick_t (v := .bool _) rfl rfl rfl) rfl ?_
  refine ol_q (wn_none rfl) (op_move (v := .bool _) rfl) rfl ?_
  refine ol_skip (wn_some rfl rfl rfl rfl rfl) rfl ?_
  refine ol_skip (wn_some rfl rfl rfl rfl rfl) rfl ?_
  refine ol_q (wn_none rfl) (op_pick_t (v := .bool _) rfl rfl rfl) rfl ?_
  refine ol_q (wn_none rfl) (op_move (v := .bool _) rfl) rfl ?_
  refine ol_skip (wn_some rfl rfl rfl rfl rfl) rfl ?_
  refine ol_skip (wn_some rfl rfl rfl rfl rfl) rfl ?_
  refine ol_skip (wn_some rfl rfl rfl rfl rfl) rfl ?_
  refine ol_skip (wn_some rfl rfl rfl rfl rfl) rfl ?_
  refine ol_skip (wn_some rfl rfl rfl rfl rfl) rfl ?_
  refine ol_skip (wn_some rfl rfl rfl rfl rfl) rfl ?_
  refine ol_skip (wn_some rfl rfl rfl rfl rfl) rfl ?_
  refine ol_q (wn_none rfl) (op_pick_t (v := .bool _) rfl rfl rfl) rfl ?_
  refine ol_nil_then ?_
  refine cd_cond_t rfl rfl ?_
  refine cd_seq ?_
  refine cd_sr ?_   -- 2
  refine ol_q (wn_none rfl) (op_move (v := .pointer _) rfl) rfl ?_
  refine ol_q (wn_none rfl) (op_nenil Try.underlying66 rfl rfl) rfl ?_
  refine ol_nil_then ?_
  refine cd_cond_f rfl rfl ?_
  refine cd_skip ?_
  refine px_then ?_
  refine cd_sr ?_   -- 4
  refine ol_q (wn_none rfl) (op_assign (v := .string _) rfl) rfl ?_
  refine ol_nil_then ?_
  refine cd_ret ?_
  refine px_thenR ?_
  exact px_ret1 rfl (v := .string _) rfl (fun _ s => s) ⟨rfl, rfl⟩

set_option maxRecDepth 100000 in
set_option maxHeartbeats 1000000 in
theorem Put_calls {w0 w : World} {l : List HProp} (ao : Option Addr) (c : Nat) (bs : List UInt8) (A : Nat) (wd : Int) (hs : Sat w0 w ((Row 5 encU8 (.slice ao bs.length c) bs) :: l)) (hA : A < 18446744073709551616) (hbs : bs.length ≤ 1000000) :
    Calls Try.prog 44 #[.slice ao bs.length c, .int .u64 (A : Int), .int .i64 wd] w (Ret w0 fun v l' => ∃ ao c, v = .slice ao (bs ++ putB A (clamp8 wd)).length c ∧ l' = Row 5 encU8 (.slice ao (bs ++ putB A (clamp8 wd)).length c) (bs ++ putB A (clamp8 wd)) :: l) := by
  refine calls_enter Try.func44 rfl rfl rfl hs ?_
  refine cd_sr ?_   -- 0
  refine ol_q (wn_none rfl) (op_assign (v := .slice _ _ _) rfl) rfl ?_
  refine ol_nil_then ?_
  refine cd_seq ?_
  refine cd_sr ?_   -- 1
  refine ol_q (wn_none rfl) (op_move (v := .int _ _) rfl) rfl ?_
  refine ol_q (wn_none rfl) (op_max rfl rfl) rfl ?_
  refine ol_q (wn_none rfl) (op_min rfl rfl) rfl ?_
  refine ol_q (wn_none rfl) (op_move (v := .int _ _) rfl) rfl ?_
  refine ol_nil_then ?_
  refine cd_block ?_
  refine cd_loop (α := Nat × Option Addr × Nat) (fun x => [(0, .slice x.2.1 (bs ++ putB A x.1).length x.2.2), (1, .int .u64 ((A / 256 ^ x.1 : Nat) : Int)), (9, .int .i64 (clamp8 wd : Int)), (10, .int .i64 x.1)]) (fun x => Row 5 encU8 (.slice x.2.1 (bs ++ putB A x.1).length x.2.2) (bs ++ putB A x.1) :: l) (fun x => x.1 ≤ clamp8 wd) (fun x => clamp8 wd - x.1) (0, ao, c) (Nat.zero_le _) ⟨by rw [putB, List.append_nil]; rfl, congrArg (Value.int .u64) (show (A : Int) = _ by simp), congrArg (Value.int .i64) (clamp8_if wd), rfl, trivial⟩ (fun _ s => by simpa [putB] using s) ?_
  rintro ⟨k, v1, v2⟩ hk f; dsimp only at hk ⊢; have hc := clamp8_le wd; have hcd : (clamp8 wd : Int) = min (max wd 0) 8 := by unfold clamp8; omega
  refine cd_sr ?_   -- 2
  refine ol_q (wn_none rfl) (op_lt rfl rfl) rfl ?_
  refine ol_nil_then ?_
  refine cd_seq ?_
  refine cd_cond rfl (fun hb1 => ?_) (fun hb1 => ?_)
  · have hp1 := hb1
    (try simp only [decide_eq_true_eq, decide_eq_false_iff_not, Bool.not_eq_true', Bool.not_eq_false', ne_eq, Decidable.not_not] at hp1)
    refine cd_skip ?_
    refine px_then ?_
    refine cd_seq ?_
    refine cd_block ?_
    refine cd_sr ?_   -- 3
    refine ol_q (wn_none rfl) (op_move (v := .slice _ _ _) rfl) rfl ?_
    refine ol_q (wn_none rfl) (op_move (v := .int _ _) rfl) rfl ?_
    refine ol_q (wn_none rfl) (op_conv8 Try.underlying5 (by rw [Try.underlying32]; rfl) rfl) rfl ?_
    refine ol_i (wn_none rfl) (os_bslice (E := encU8) [_] (ys := [_]) sB_55 zv_5 rfl rfl rfl rfl (by decide)) rfl ?_; rintro _ _ ⟨ao1, rfl, rfl⟩
    refine ol_pull1 ?_
    refine ol_i (wn_none rfl) (os_append (E := encU8) rfl sB_55 zv_5 rfl rfl rfl (fun w s => (rds_row 1 rfl rfl) [] w s) rfl (by simp [putB_length]; omega) (by unfold maxLen; simp [putB_length]; omega)) rfl ?_; rintro _ _ ⟨ao2, ac2, rfl, rfl⟩
    refine ol_q (wn_none rfl) (op_assign (v := .slice _ _ _) rfl) rfl ?_
    refine ol_nil_then ?_
    refine cd_region ?_   -- 4
    refine ol_q (wn_none rfl) (op_move (v := .int _ _) rfl) rfl ?_
    refine ol_q (wn_none rfl) (op_shr_nat (m := 8) rfl rfl (by decide)) rfl ?_
    refine ol_q (wn_none rfl) (op_assign (v := .int _ _) rfl) rfl ?_
    refine ol_nil ?_
    refine px_blockN ?_
    refine px_then ?_
    refine cd_region ?_   -- 5
    refine ol_q (wn_none rfl) (op_add rfl rfl (by omega) (by omega)) rfl ?_
    refine ol_q (wn_none rfl) (op_move (v := .int _ _) rfl) rfl ?_
    refine ol_nil ?_
    have hk1 : k < clamp8 wd := by omega
    have e1 : bs ++ putB A k ++ [UInt8.ofNat (A / 256 ^ k)] = bs ++ putB A (k + 1) := by simp [putB]
    exact px_loop (k + 1, ao2, ac2) hk1 (by dsimp only; omega) ⟨congrArg (fun q => Value.slice ao2 (List.length q) ac2) e1, congrArg (Value.int .u64) (by simp [Nat.pow_succ, Nat.div_div_eq_div_mul]), rfl, congrArg (Value.int .i64) (by simp), trivial⟩ (fun _ s => by rw [e1] at s; exact s.del 1)
  · have hp1 := hb1
    (try simp only [decide_eq_true_eq, decide_eq_false_iff_not, Bool.not_eq_true', Bool.not_eq_false', ne_eq, Decidable.not_not] at hp1)
    refine cd_exit ?_
    refine px_thenE ?_
    refine px_thenE ?_
    refine px_blockE ?_
    refine px_then ?_
    refine cd_sr ?_   -- 6
    refine ol_q (wn_none rfl) (op_move (v := .slice _ _ _) rfl) rfl ?_
    refine ol_q (wn_none rfl) (op_assign (v := .slice _ _ _) rfl) rfl ?_
    refine ol_nil_then ?_
    refine cd_ret ?_
    have e1 : k = clamp8 wd := by omega
    subst e1
    exact px_ret1 rfl (v := .slice _ _ _) rfl (fun _ s => s) ⟨_, _, rfl, rfl⟩

set_option maxRecDepth 100000 in
set_option maxHeartbeats 1000000 in
theorem Uint_calls {w0 w : World} {l : List HProp} (p : Nat) (r : RdS) (n : Int) (hs : Sat w0 w ((RdObj p r) :: l))  :
    Calls Try.prog 46 #[.pointer (some ⟨p, 0, none⟩), .int .i64 n] w (Ret w0 fun v l' => v = .int .u64 (rdUint r n).1 ∧ l' = RdObj p (rdUint r n).2 :: l) := by
  have hlen := rdBytes_len r n
  simp only [rdUint]
  refine calls_enter Try.func46 rfl rfl rfl hs ?_
  refine cd_sr ?_   -- 0
  refine ol_q (wn_none rfl) (op_assign (v := .int _ _) rfl) rfl ?_
  refine ol_nil_then ?_
  refine cd_seq ?_
  refine cd_sr ?_   -- 1
  refine ol_q (wn_none rfl) (op_move (v := .int _ _) rfl) rfl ?_
  refine ol_q (wn_none rfl) (op_gt rfl rfl) rfl ?_
  refine ol_nil_then ?_
  refine cd_cond rfl (fun hb1 => ?_) (fun hb1 => ?_)
  · have hp1 := hb1
    (try simp only [decide_eq_true_eq, decide_eq_false_iff_not, Bool.not_eq_true', Bool.not_eq_false', ne_eq, Decidable.not_not] at hp1)
    rw [if_pos hp1] at *
    refine cd_region ?_   -- 2
    refine ol_q (wn_none rfl) (op_assign (v := .int _ _) rfl) rfl ?_
    refine ol_nil ?_
    refine px_then ?_
    refine cd_sr ?_   -- 3
    refine ol_q (wn_none rfl) (op_move (v := .pointer _) rfl) rfl ?_
    refine ol_q (wn_none rfl) (op_move (v := .int _ _) rfl) rfl ?_
    refine ol_i (wn_none rfl) (os_call cb_47 rfl (fun w s => Bytes_calls _ _ _  s )) rfl ?_; rintro _ _ ⟨rfl, rfl⟩
    refine ol_q (wn_none rfl) (op_assign (v := .string _) rfl) rfl ?_
    refine ol_nil_then ?_
    refine cd_sr ?_   -- 4
    refine ol_q (wn_none rfl) (op_assign (v := .int _ _) rfl) rfl ?_
    refine ol_nil_then ?_
    refine cd_seq ?_
    refine cd_sr ?_   -- 5
    refine ol_q (wn_none rfl) (op_move (v := .string _) rfl) rfl ?_
    refine ol_q (wn_none rfl) (op_len_string Try.underlying9 rfl) rfl ?_
    refine ol_q (wn_none rfl) (op_sub rfl rfl (by omega) (by omega)) rfl ?_
    refine ol_q (wn_none rfl) (op_assign (v := .int _ _) rfl) rfl ?_
    refine ol_nil_then ?_
    refine cd_block ?_
    generalize hS : (rdBytes r _).1 = S at *
    refine cd_loop (α := Nat) (fun j => [(5, .string (B S)), (6, .int .u64 (leNat (S.drop j) : Nat)), (7, .int .i64 ((j : Int) - 1))]) (fun _ => _) (fun j => j ≤ S.length) (fun j => j) S.length (Nat.le_refl _) ⟨rfl, by rw [List.drop_length]; rfl, rfl, trivial⟩ (fun _ s => s) ?_
    intro j hj f; (try dsimp only at hj ⊢)
    refine cd_seq ?_
    refine cd_sr ?_   -- 6
    refine ol_q (wn_none rfl) (op_move (v := .int _ _) rfl) rfl ?_
    refine ol_q (wn_none rfl) (op_ge rfl rfl) rfl ?_
    refine ol_nil_then ?_
    refine cd_cond rfl (fun hb2 => ?_) (fun hb2 => ?_)
    · have hp2 := hb2
      (try simp only [decide_eq_true_eq, decide_eq_false_iff_not, Bool.not_eq_true', Bool.not_eq_false', ne_eq, Decidable.not_not] at hp2)
      obtain ⟨j, rfl⟩ : ∃ i, j = i + 1 := ⟨j - 1, by omega⟩
      have hd := leNat_drop S j (by omega)
      have hb := leNat_lt (S.drop (j + 1))
      rw [List.length_drop] at hb
      have hb2 := Nat.pow_le_pow_right (show 0 < 256 by decide) (show S.length - (j + 1) ≤ 7 by omega)
      have hu := (S.getD j 0).toNat_lt
      refine cd_skip ?_
      refine px_then ?_
      refine cd_seq ?_
      refine cd_block ?_
      refine cd_region ?_   -- 8
      refine ol_q (wn_none rfl) (op_move (v := .int _ _) rfl) rfl ?_
      refine ol_q (wn_none rfl) (op_shl_nat (m := 8) rfl rfl (by decide) (by omega)) rfl ?_
      refine ol_q (wn_none rfl) (op_move (v := .string _) rfl) rfl ?_
      refine ol_q (wn_none rfl) (op_move (v := .int _ _) rfl) rfl ?_
      refine ol_q (wn_none rfl) (op_sidx j Try.underlying9 rfl rfl (by first | rfl | omega) (by omega)) rfl ?_
      refine ol_q (wn_none rfl) (op_conv64 Try.underlying32 (by rw [Try.underlying5]; rfl) rfl (by omega)) rfl ?_
      refine ol_q (wn_none rfl) (op_or64 rfl rfl (by omega) (by omega)) rfl ?_
      refine ol_q (wn_none rfl) (op_assign (v := .int _ _) rfl) rfl ?_
      refine ol_nil ?_
      refine px_blockN ?_
      refine px_then ?_
      refine cd_region ?_   -- 7
      refine ol_q (wn_none rfl) (op_move (v := .int _ _) rfl) rfl ?_
      refine ol_q (wn_none rfl) (op_sub rfl rfl (by omega) (by omega)) rfl ?_
      refine ol_q (wn_none rfl) (op_assign (v := .int _ _) rfl) rfl ?_
      refine ol_nil ?_
      exact px_loop j (by omega) (by omega) ⟨rfl, congrArg (Value.int .u64) (congrArg (fun q : Nat => (q : Int)) ((or_low _ _ hu).trans hd.symm)), congrArg (Value.int .i64) (by omega), trivial⟩ (fun _ s => s)
    · have hp2 := hb2
      (try simp only [decide_eq_true_eq, decide_eq_false_iff_not, Bool.not_eq_true', Bool.not_eq_false', ne_eq, Decidable.not_not] at hp2)
      refine cd_exit ?_
      refine px_thenE ?_
      refine px_thenE ?_
      refine px_blockE ?_
      refine px_then ?_
      refine cd_sr ?_   -- 9
      refine ol_q (wn_none rfl) (op_move (v := .int _ _) rfl) rfl ?_
      refine ol_q (wn_none rfl) (op_assign (v := .int _ _) rfl) rfl ?_
      refine ol_nil_then ?_
      refine cd_ret ?_
      have e1 : j = 0 := by omega
      subst e1
      exact px_ret1 rfl (v := .int _ _) rfl (fun _ s => s) ⟨rfl, rfl⟩
  · have hp1 := hb1
    (try simp only [decide_eq_true_eq, decide_eq_false_iff_not, Bool.not_eq_true', Bool.not_eq_false', ne_eq, Decidable.not_not] at hp1)
    rw [if_neg hp1] at *
    refine cd_skip ?_
    refine px_then ?_
    refine cd_sr ?_   -- 3
    refine ol_q (wn_none rfl) (op_move (v := .pointer _) rfl) rfl ?_
    refine ol_q (wn_none rfl) (op_move (v := .int _ _) rfl) rfl ?_
    refine ol_i (wn_none rfl) (os_call cb_47 rfl (fun w s => Bytes_calls _ _ _  s )) rfl ?_; rintro _ _ ⟨rfl, rfl⟩
    refine ol_q (wn_none rfl) (op_assign (v := .string _) rfl) rfl ?_
    refine ol_nil_then ?_
    refine cd_sr ?_   -- 4
    refine ol_q (wn_none rfl) (op_assign (v := .int _ _) rfl) rfl ?_
    refine ol_nil_then ?_
    refine cd_seq ?_
    refine cd_sr ?_   -- 5
    refine ol_q (wn_none rfl) (op_move (v := .string _) rfl) rfl ?_
    refine ol_q (wn_none rfl) (op_len_string Try.underlying9 rfl) rfl ?_
    refine ol_q (wn_none rfl) (op_sub rfl rfl (by omega) (by omega)) rfl ?_
    refine ol_q (wn_none rfl) (op_assign (v := .int _ _) rfl) rfl ?_
    refine ol_nil_then ?_
    refine cd_block ?_
    generalize hS : (rdBytes r _).1 = S at *
    refine cd_loop (α := Nat) (fun j => [(5, .string (B S)), (6, .int .u64 (leNat (S.drop j) : Nat)), (7, .int .i64 ((j : Int) - 1))]) (fun _ => _) (fun j => j ≤ S.length) (fun j => j) S.length (Nat.le_refl _) ⟨rfl, by rw [List.drop_length]; rfl, rfl, trivial⟩ (fun _ s => s) ?_
    intro j hj f; (try dsimp only at hj ⊢)
    refine cd_seq ?_
    refine cd_sr ?_   -- 6
    refine ol_q (wn_none rfl) (op_move (v := .int _ _) rfl) rfl ?_
    refine ol_q (wn_none rfl) (op_ge rfl rfl) rfl ?_
    refine ol_nil_then ?_
    refine cd_cond rfl (fun hb3 => ?_) (fun hb3 => ?_)
    · have hp3 := hb3
      (try simp only [decide_eq_true_eq, decide_eq_false_iff_not, Bool.not_eq_true', Bool.not_eq_false', ne_eq, Decidable.not_not] at hp3)
      obtain ⟨j, rfl⟩ : ∃ i, j = i + 1 := ⟨j - 1, by omega⟩
      have hd := leNat_drop S j (by omega)
      have hb := leNat_lt (S.drop (j + 1))
      rw [List.length_drop] at hb
      have hb2 := Nat.pow_le_pow_right (show 0 < 256 by decide) (show S.length - (j + 1) ≤ 7 by omega)
      have hu := (S.getD j 0).toNat_lt
      refine cd_skip ?_
      refine px_then ?_
      refine cd_seq ?_
      refine cd_block ?_
      refine cd_region ?_   -- 8
      refine ol_q (wn_none rfl) (op_move (v := .int _ _) rfl) rfl ?_
      refine ol_q (wn_none rfl) (op_shl_nat (m := 8) rfl rfl (by decide) (by omega)) rfl ?_
      refine ol_q (wn_none rfl) (op_move (v := .string _) rfl) rfl ?_
      refine ol_q (wn_none rfl) (op_move (v := .int _ _) rfl) rfl ?_
      refine ol_q (wn_none rfl) (op_sidx j Try.underlying9 rfl rfl (by first | rfl | omega) (by omega)) rfl ?_
      refine ol_q (wn_none rfl) (op_conv64 Try.underlying32 (by rw [Try.underlying5]; rfl) rfl (by omega)) rfl ?_
      refine ol_q (wn_none rfl) (op_or64 rfl rfl (by omega) (by omega)) rfl ?_
      refine ol_q (wn_none rfl) (op_assign (v := .int _ _) rfl) rfl ?_
      refine ol_nil ?_
      refine px_blockN ?_
      refine px_then ?_
      refine cd_region ?_   -- 7
      refine ol_q (wn_none rfl) (op_move (v := .int _ _) rfl) rfl ?_
      refine ol_q (wn_none rfl) (op_sub rfl rfl (by omega) (by omega)) rfl ?_
      refine ol_q (wn_none rfl) (op_assign (v := .int _ _) rfl) rfl ?_
      refine ol_nil ?_
      exact px_loop j (by omega) (by omega) ⟨rfl, congrArg (Value.int .u64) (congrArg (fun q : Nat => (q : Int)) ((or_low _ _ hu).trans hd.symm)), congrArg (Value.int .i64) (by omega), trivial⟩ (fun _ s => s)
    · have hp3 := hb3
      (try simp only [decide_eq_true_eq, decide_eq_false_iff_not, Bool.not_eq_true', Bool.not_eq_false', ne_eq, Decidable.not_not] at hp3)
      refine cd_exit ?_
      refine px_thenE ?_
      refine px_thenE ?_
      refine px_blockE ?_
      refine px_then ?_
      refine cd_sr ?_   -- 9
      refine ol_q (wn_none rfl) (op_move (v := .int _ _) rfl) rfl ?_
      refine ol_q (wn_none rfl) (op_assign (v := .int _ _) rfl) rfl ?_
      refine ol_nil_then ?_
      refine cd_ret ?_
      have e1 : j = 0 := by omega
      subst e1
      exact px_ret1 rfl (v := .int _ _) rfl (fun _ s => s) ⟨rfl, rfl⟩

/-- the reference's reader: its block -/
def RfObj (p : Nat) (s : List UInt8) (r : RdS) : HProp := Blk p (.cells #[.string (B s), .int .i64 ((s.length : Int) - r.rest.length), .bool r.short] 75 (0, 0))
theorem RfObj_mk {p : Nat} {s : List UInt8} {r : RdS} {a : Int} {b : Bool} (ha : a = (s.length : Int) - r.rest.length) (hb : b = r.short) : Blk p (.cells #[.string (B s), .int .i64 a, .bool b] 75 (0, 0)) = RfObj p s r := by subst ha hb; rfl

set_option maxRecDepth 100000 in
set_option maxHeartbeats 1000000 in
theorem RBytes_calls {w0 w : World} {l : List HProp} (p : Nat) (s : List UInt8) (r : RdS) (n : Int) (hs : Sat w0 w ((RfObj p s r) :: l)) (hr : r.rest <:+ s) (hsl : s.length ≤ 1000000) :
    Calls Try.prog 53 #[.pointer (some ⟨p, 0, none⟩), .int .i64 n] w (Ret w0 fun v l' => v = .string (B (rdBytes r n).1) ∧ l' = RfObj p s (rdBytes r n).2 :: l) := by
  have hle := hr.length_le
  refine calls_enter Try.func53 rfl rfl rfl hs ?_
  refine cd_sr ?_   -- 0
  refine ol_q (wn_none rfl) (op_assign (v := .string _) rfl) rfl ?_
  refine ol_nil_then ?_
  refine cd_seq ?_
  refine cd_seq ?_   -- 1
  refine cd_draw (M := []) mx [] (by kernel_rfl) ?_
  refine rg_q (wn_none rfl) (op_move (v := .pointer _) rfl) rfl rfl ?_
  refine rg_q (wn_none rfl) (op_nilck rfl) rfl rfl ?_
  refine rg_q (wn_none rfl) (op_field fld_75_2 rfl) rfl rfl ?_
  refine rg_q (wn_none rfl) (op_ld 0 sc_4 rfl rfl rfl) rfl rfl ?_
  refine rg_q (wn_none rfl) (op_move (v := .bool _) rfl) rfl rfl ?_
  refine rg_split 9 rfl (fun hb1 => ?_) (fun hb1 => ?_)
  · have hp1 := hb1
    (try simp only [decide_eq_true_eq, decide_eq_false_iff_not, Bool.not_eq_true', Bool.not_eq_false', ne_eq, Decidable.not_not] at hp1)
    refine rg_skip (wn_some rfl rfl rfl hb1 rfl) rfl ?_
    refine rg_skip (wn_some rfl rfl rfl hb1 rfl) rfl ?_
    refine rg_q (wn_none rfl) (op_pick_t (v := .bool _) rfl hb1 rfl) rfl rfl ?_
    refine rg_q (wn_none rfl) (op_move (v := .bool _) rfl) rfl rfl ?_
    refine rg_skip (wn_some rfl rfl rfl rfl rfl) rfl ?_
    refine rg_skip (wn_some rfl rfl rfl rfl rfl) rfl ?_
    refine rg_skip (wn_some rfl rfl rfl rfl rfl) rfl ?_
    refine rg_skip (wn_some rfl rfl rfl rfl rfl) rfl ?_
    refine rg_skip (wn_some rfl rfl rfl rfl rfl) rfl ?_
    refine rg_skip (wn_some rfl rfl rfl rfl rfl) rfl ?_
    refine rg_skip (wn_some rfl rfl rfl rfl rfl) rfl ?_
    refine rg_skip (wn_some rfl rfl rfl rfl rfl) rfl ?_
    refine rg_skip (wn_some rfl rfl rfl rfl rfl) rfl ?_
    refine rg_skip (wn_some rfl rfl rfl rfl rfl) rfl ?_
    refine rg_skip (wn_some rfl rfl rfl rfl rfl) rfl ?_
    refine rg_skip (wn_some rfl rfl rfl rfl rfl) rfl ?_
    refine rg_q (wn_none rfl) (op_pick_t (v := .bool _) rfl rfl rfl) rfl rfl ?_
    refine rg_nil_then0 ?_
    refine cd_cond_t rfl rfl ?_
    refine cd_sr ?_   -- 2
    refine ol_q (wn_none rfl) (op_move (v := .pointer _) rfl) rfl ?_
    refine ol_q (wn_none rfl) (op_nilck rfl) rfl ?_
    refine ol_q (wn_none rfl) (op_field fld_75_2 rfl) rfl ?_
    refine ol_iN (wn_none rfl) (os_store (v := .bool _) sc_4 rfl rfl rfl rfl (Free.zero _) rfl) ?_; rintro _ _ ⟨rfl, rfl⟩
    refine ol_nil_then ?_
    refine cd_sr ?_   -- 3
    refine ol_q (wn_none rfl) (op_move (v := .pointer _) rfl) rfl ?_
    refine ol_q (wn_none rfl) (op_move (v := .pointer _) rfl) rfl ?_
    refine ol_q (wn_none rfl) (op_nilck rfl) rfl ?_
    refine ol_q (wn_none rfl) (op_field fld_75_0 rfl) rfl ?_
    refine ol_q (wn_none rfl) (op_ld 0 sc_9 rfl rfl rfl) rfl ?_
    refine ol_q (wn_none rfl) (op_len_string Try.underlying9 rfl) rfl ?_
    refine ol_q (wn_none rfl) (op_nilck rfl) rfl ?_
    refine ol_q (wn_none rfl) (op_field fld_75_1 rfl) rfl ?_
    refine ol_iN (wn_none rfl) (os_store (v := .int _ _) sc_3 rfl rfl rfl rfl (Free.zero _) rfl) ?_; rintro _ _ ⟨rfl, rfl⟩
    refine ol_nil_then ?_
    refine cd_sr ?_   -- 4
    refine ol_q (wn_none rfl) (op_assign (v := .string _) rfl) rfl ?_
    refine ol_nil_then ?_
    refine cd_ret ?_
    refine px_thenR ?_
    have e := rdBytes_bad (r := r) (n := n) (by first | (left; assumption) | (right; omega))
    exact px_ret1 rfl (v := .string _) rfl (fun _ s => s) ⟨by rw [e]; rfl, by rw [e]; simp [RfObj]⟩
  · have hp1 := hb1
    (try simp only [decide_eq_true_eq, decide_eq_false_iff_not, Bool.not_eq_true', Bool.not_eq_false', ne_eq, Decidable.not_not] at hp1)
    refine rg_q (wn_some rfl rfl rfl hb1 rfl) (op_move (v := .int _ _) rfl) rfl rfl ?_
    refine rg_q (wn_some rfl rfl rfl hb1 rfl) (op_lt rfl rfl) rfl rfl ?_
    refine rg_q (wn_none rfl) (op_pick_f (v := .bool _) rfl hb1 rfl) rfl rfl ?_
    refine rg_q (wn_none rfl) (op_move (v := .bool _) rfl) rfl rfl ?_
    refine rg_split 13 rfl (fun hb2 => ?_) (fun hb2 => ?_)
    · have hp2 := hb2
      (try simp only [decide_eq_true_eq, decide_eq_false_iff_not, Bool.not_eq_true', Bool.not_eq_false', ne_eq, Decidable.not_not] at hp2)
      refine rg_skip (wn_some rfl rfl rfl hb2 rfl) rfl ?_
      refine rg_skip (wn_some rfl rfl rfl hb2 rfl) rfl ?_
      refine rg_skip (wn_some rfl rfl rfl hb2 rfl) rfl ?_
      refine rg_skip (wn_some rfl rfl rfl hb2 rfl) rfl ?_
      refine rg_skip (wn_some rfl rfl rfl hb2 rfl) rfl ?_
      refine rg_skip (wn_some rfl rfl rfl hb2 rfl) rfl ?_
      refine rg_skip (wn_some rfl rfl rfl hb2 rfl) rfl ?_
      refine rg_skip (wn_some rfl rfl rfl hb2 rfl) rfl ?_
      refine rg_skip (wn_some rfl rfl rfl hb2 rfl) rfl ?_
      refine rg_skip (wn_some rfl rfl rfl hb2 rfl) rfl ?_
      refine rg_skip (wn_some rfl rfl rfl hb2 rfl) rfl ?_
      refine rg_skip (wn_some rfl rfl rfl hb2 rfl) rfl ?_
      refine rg_q (wn_none rfl) (op_pick_t (v := .bool _) rfl hb2 rfl) rfl rfl ?_
      refine rg_nil_then0 ?_
      refine cd_cond_t rfl rfl ?_
      refine cd_sr ?_   -- 2
      refine ol_q (wn_none rfl) (op_move (v := .pointer _) rfl) rfl ?_
      refine ol_q (wn_none rfl) (op_nilck rfl) rfl ?_
      refine ol_q (wn_none rfl) (op_field fld_75_2 rfl) rfl ?_
      refine ol_iN (wn_none rfl) (os_store (v := .bool _) sc_4 rfl rfl rfl rfl (Free.zero _) rfl) ?_; rintro _ _ ⟨rfl, rfl⟩
      refine ol_nil_then ?_
      refine cd_sr ?_   -- 3
      refine ol_q (wn_none rfl) (op_move (v := .pointer _) rfl) rfl ?_
      refine ol_q (wn_none rfl) (op_move (v := .pointer _) rfl) rfl ?_
      refine ol_q (wn_none rfl) (op_nilck rfl) rfl ?_
      refine ol_q (wn_none rfl) (op_field fld_75_0 rfl) rfl ?_
      refine ol_q (wn_none rfl) (op_ld 0 sc_9 rfl rfl rfl) rfl ?_
      refine ol_q (wn_none rfl) (op_len_string Try.underlying9 rfl) rfl ?_
      refine ol_q (wn_none rfl) (op_nilck rfl) rfl ?_
      refine ol_q (wn_none rfl) (op_field fld_75_1 rfl) rfl ?_
      refine ol_iN (wn_none rfl) (os_store (v := .int _ _) sc_3 rfl rfl rfl rfl (Free.zero _) rfl) ?_; rintro _ _ ⟨rfl, rfl⟩
      refine ol_nil_then ?_
      refine cd_sr ?_   -- 4
      refine ol_q (wn_none rfl) (op_assign (v := .string _) rfl) rfl ?_
      refine ol_nil_then ?_
      refine cd_ret ?_
      refine px_thenR ?_
      have e := rdBytes_bad (r := r) (n := n) (by first | (left; assumption) | (right; omega))
      exact px_ret1 rfl (v := .string _) rfl (fun _ s => s) ⟨by rw [e]; rfl, by rw [e]; simp [RfObj]⟩
    · have hp2 := hb2
      (try simp only [decide_eq_true_eq, decide_eq_false_iff_not, Bool.not_eq_true', Bool.not_eq_false', ne_eq, Decidable.not_not] at hp2)
      refine rg_q (wn_some rfl rfl rfl hb2 rfl) (op_move (v := .int _ _) rfl) rfl rfl ?_
      refine rg_q (wn_some rfl rfl rfl hb2 rfl) (op_move (v := .pointer _) rfl) rfl rfl ?_
      refine rg_q (wn_some rfl rfl rfl hb2 rfl) (op_nilck rfl) rfl rfl ?_
      refine rg_q (wn_some rfl rfl rfl hb2 rfl) (op_field fld_75_0 rfl) rfl rfl ?_
      refine rg_q (wn_some rfl rfl rfl hb2 rfl) (op_ld 0 sc_9 rfl rfl rfl) rfl rfl ?_
      refine rg_q (wn_some rfl rfl rfl hb2 rfl) (op_len_string Try.underlying9 rfl) rfl rfl ?_
      refine rg_q (wn_some rfl rfl rfl hb2 rfl) (op_move (v := .pointer _) rfl) rfl rfl ?_
      refine rg_q (wn_some rfl rfl rfl hb2 rfl) (op_nilck rfl) rfl rfl ?_
      refine rg_q (wn_some rfl rfl rfl hb2 rfl) (op_field fld_75_1 rfl) rfl rfl ?_
      refine rg_q (wn_some rfl rfl rfl hb2 rfl) (op_ld 0 sc_3 rfl rfl rfl) rfl rfl ?_
      refine rg_q (wn_some rfl rfl rfl hb2 rfl) (op_sub rfl rfl (by omega) (by omega)) rfl rfl ?_
      refine rg_q (wn_some rfl rfl rfl hb2 rfl) (op_gt rfl rfl) rfl rfl ?_
      refine rg_q (wn_none rfl) (op_pick_f (v := .bool _) rfl hb2 rfl) rfl rfl ?_
      refine rg_nil_then0 ?_
      refine cd_cond rfl (fun hb3 => ?_) (fun hb3 => ?_)
      · have hp3 := hb3
        (try simp only [decide_eq_true_eq, decide_eq_false_iff_not, Bool.not_eq_true', Bool.not_eq_false', ne_eq, Decidable.not_not] at hp3)
        refine cd_sr ?_   -- 2
        refine ol_q (wn_none rfl) (op_move (v := .pointer _) rfl) rfl ?_
        refine ol_q (wn_none rfl) (op_nilck rfl) rfl ?_
        refine ol_q (wn_none rfl) (op_field fld_75_2 rfl) rfl ?_
        refine ol_iN (wn_none rfl) (os_store (v := .bool _) sc_4 rfl rfl rfl rfl (Free.zero _) rfl) ?_; rintro _ _ ⟨rfl, rfl⟩
        refine ol_nil_then ?_
        refine cd_sr ?_   -- 3
        refine ol_q (wn_none rfl) (op_move (v := .pointer _) rfl) rfl ?_
        refine ol_q (wn_none rfl) (op_move (v := .pointer _) rfl) rfl ?_
        refine ol_q (wn_none rfl) (op_nilck rfl) rfl ?_
        refine ol_q (wn_none rfl) (op_field fld_75_0 rfl) rfl ?_
        refine ol_q (wn_none rfl) (op_ld 0 sc_9 rfl rfl rfl) rfl ?_
        refine ol_q (wn_none rfl) (op_len_string Try.underlying9 rfl) rfl ?_
        refine ol_q (wn_none rfl) (op_nilck rfl) rfl ?_
        refine ol_q (wn_none rfl) (op_field fld_75_1 rfl) rfl ?_
        refine ol_iN (wn_none rfl) (os_store (v := .int _ _) sc_3 rfl rfl rfl rfl (Free.zero _) rfl) ?_; rintro _ _ ⟨rfl, rfl⟩
        refine ol_nil_then ?_
        refine cd_sr ?_   -- 4
        refine ol_q (wn_none rfl) (op_assign (v := .string _) rfl) rfl ?_
        refine ol_nil_then ?_
        refine cd_ret ?_
        refine px_thenR ?_
        have e := rdBytes_bad (r := r) (n := n) (by first | (left; assumption) | (right; omega))
        exact px_ret1 rfl (v := .string _) rfl (fun _ s => s) ⟨by rw [e]; rfl, by rw [e]; simp [RfObj]⟩
      · have hp3 := hb3
        (try simp only [decide_eq_true_eq, decide_eq_false_iff_not, Bool.not_eq_true', Bool.not_eq_false', ne_eq, Decidable.not_not] at hp3)
        refine cd_skip ?_
        refine px_then ?_
        refine cd_sr ?_   -- 5
        refine ol_q (wn_none rfl) (op_move (v := .pointer _) rfl) rfl ?_
        refine ol_q (wn_none rfl) (op_move (v := .pointer _) rfl) rfl ?_
        refine ol_q (wn_none rfl) (op_nilck rfl) rfl ?_
        refine ol_q (wn_none rfl) (op_field fld_75_1 rfl) rfl ?_
        refine ol_q (wn_none rfl) (op_ld 0 sc_3 rfl rfl rfl) rfl ?_
        refine ol_q (wn_none rfl) (op_move (v := .int _ _) rfl) rfl ?_
        refine ol_q (wn_none rfl) (op_add rfl rfl (by omega) (by omega)) rfl ?_
        refine ol_q (wn_none rfl) (op_nilck rfl) rfl ?_
        refine ol_q (wn_none rfl) (op_field fld_75_1 rfl) rfl ?_
        refine ol_iN (wn_none rfl) (os_store (v := .int _ _) sc_3 rfl rfl rfl rfl (Free.zero _) rfl) ?_; rintro _ _ ⟨rfl, rfl⟩
        refine ol_nil_then ?_
        refine cd_seq ?_   -- 6
        refine cd_draw (M := []) mx [] (by kernel_rfl) ?_
        refine rg_q (wn_none rfl) (op_move (v := .pointer _) rfl) rfl rfl ?_
        refine rg_q (wn_none rfl) (op_nilck rfl) rfl rfl ?_
        refine rg_q (wn_none rfl) (op_field fld_75_0 rfl) rfl rfl ?_
        refine rg_q (wn_none rfl) (op_ld 0 sc_9 rfl rfl rfl) rfl rfl ?_
        refine rg_q (wn_none rfl) (op_move (v := .pointer _) rfl) rfl rfl ?_
        refine rg_q (wn_none rfl) (op_nilck rfl) rfl rfl ?_
        refine rg_q (wn_none rfl) (op_field fld_75_1 rfl) rfl rfl ?_
        refine rg_q (wn_none rfl) (op_ld 0 sc_3 rfl rfl rfl) rfl rfl ?_
        refine rg_q (wn_none rfl) (op_move (v := .int _ _) rfl) rfl rfl ?_
        refine rg_q (wn_none rfl) (op_sub rfl rfl (by omega) (by omega)) rfl rfl ?_
        refine rg_q (wn_none rfl) (op_move (v := .pointer _) rfl) rfl rfl ?_
        refine rg_q (wn_none rfl) (op_nilck rfl) rfl rfl ?_
        refine rg_q (wn_none rfl) (op_field fld_75_1 rfl) rfl rfl ?_
        refine rg_q (wn_none rfl) (op_ld 0 sc_3 rfl rfl rfl) rfl rfl ?_
        refine rg_q (wn_none rfl) (op_sslice _ _ Try.underlying9 rfl rfl rfl (Int.toNat_of_nonneg (by omega)).symm (Int.toNat_of_nonneg (by omega)).symm (by omega) (by omega)) rfl rfl ?_
        refine rg_q (wn_none rfl) (op_assign (v := .string _) rfl) rfl rfl ?_
        refine rg_nil_then0 ?_
        refine cd_ret ?_
        have e := rdBytes_ok (r := r) (n := n) (by assumption) (by omega) (by omega)
        exact px_ret1 rfl (v := .string _) rfl (fun _ s => s) ⟨by rw [e, ← suf_slice hr n (by omega) (by omega)], by rw [e]; exact congrArg (· :: l) (RfObj_mk (by simp only [List.length_drop]; omega) (by assumption))⟩

set_option maxRecDepth 100000 in
set_option maxHeartbeats 1000000 in
theorem REnd_calls {w0 w : World} {l : List HProp} (p : Nat) (s : List UInt8) (r : RdS) (hs : Sat w0 w ((RfObj p s r) :: l)) (hr : r.rest <:+ s) (hsl : s.length ≤ 1000000) :
    Calls Try.prog 54 #[.pointer (some ⟨p, 0, none⟩)] w (Ret w0 fun v l' => v = .bool (!r.short && decide (r.rest = [])) ∧ l' = RfObj p s r :: l) := by
  have hle := hr.length_le
  refine calls_enter Try.func54 rfl rfl rfl hs ?_
  refine cd_sr ?_   -- 0
  refine ol_q (wn_none rfl) (op_assign (v := .bool _) rfl) rfl ?_
  refine ol_nil_then ?_
  refine cd_seq ?_   -- 1
  refine cd_draw (M := []) mx [] (by kernel_rfl) ?_
  refine rg_q (wn_none rfl) (op_move (v := .pointer _) rfl) rfl rfl ?_
  refine rg_q (wn_none rfl) (op_nilck rfl) rfl rfl ?_
  refine rg_q (wn_none rfl) (op_field fld_75_2 rfl) rfl rfl ?_
  refine rg_q (wn_none rfl) (op_ld 0 sc_4 rfl rfl rfl) rfl rfl ?_
  refine rg_q (wn_none rfl) (op_not rfl) rfl rfl ?_
  refine rg_q (wn_none rfl) (op_move (v := .bool _) rfl) rfl rfl ?_
  refine rg_split 8 rfl (fun hb1 => ?_) (fun hb1 => ?_)
  · have hp1 := hb1
    (try simp only [decide_eq_true_eq, decide_eq_false_iff_not, Bool.not_eq_true', Bool.not_eq_false', ne_eq, Decidable.not_not] at hp1)
    refine rg_q (wn_some rfl rfl rfl hb1 rfl) (op_move (v := .pointer _) rfl) rfl rfl ?_
    refine rg_q (wn_some rfl rfl rfl hb1 rfl) (op_nilck rfl) rfl rfl ?_
    refine rg_q (wn_some rfl rfl rfl hb1 rfl) (op_field fld_75_1 rfl) rfl rfl ?_
    refine rg_q (wn_some rfl rfl rfl hb1 rfl) (op_ld 0 sc_3 rfl rfl rfl) rfl rfl ?_
    refine rg_q (wn_some rfl rfl rfl hb1 rfl) (op_move (v := .pointer _) rfl) rfl rfl ?_
    refine rg_q (wn_some rfl rfl rfl hb1 rfl) (op_nilck rfl) rfl rfl ?_
    refine rg_q (wn_some rfl rfl rfl hb1 rfl) (op_field fld_75_0 rfl) rfl rfl ?_
    refine rg_q (wn_some rfl rfl rfl hb1 rfl) (op_ld 0 sc_9 rfl rfl rfl) rfl rfl ?_
    refine rg_q (wn_some rfl rfl rfl hb1 rfl) (op_len_string Try.underlying9 rfl) rfl rfl ?_
    refine rg_q (wn_some rfl rfl rfl hb1 rfl) (op_eq rfl rfl) rfl rfl ?_
    refine rg_q (wn_none rfl) (op_pick_t (v := .bool _) rfl hb1 rfl) rfl rfl ?_
    refine rg_q (wn_none rfl) (op_assign (v := .bool _) rfl) rfl rfl ?_
    refine rg_nil_then0 ?_
    refine cd_ret ?_
    exact px_ret1 rfl (v := .bool _) rfl (fun _ s => s) ⟨by congr 1; simp [*]; try (rw [← List.length_eq_zero_iff]; omega), rfl⟩
  · have hp1 := hb1
    (try simp only [decide_eq_true_eq, decide_eq_false_iff_not, Bool.not_eq_true', Bool.not_eq_false', ne_eq, Decidable.not_not] at hp1)
    refine rg_skip (wn_some rfl rfl rfl hb1 rfl) rfl ?_
    refine rg_skip (wn_some rfl rfl rfl hb1 rfl) rfl ?_
    refine rg_skip (wn_some rfl rfl rfl hb1 rfl) rfl ?_
    refine rg_skip (wn_some rfl rfl rfl hb1 rfl) rfl ?_
    refine rg_skip (wn_some rfl rfl rfl hb1 rfl) rfl ?_
    refine rg_skip (wn_some rfl rfl rfl hb1 rfl) rfl ?_
    refine rg_skip (wn_some rfl rfl rfl hb1 rfl) rfl ?_
    refine rg_skip (wn_some rfl rfl rfl hb1 rfl) rfl ?_
    refine rg_skip (wn_some rfl rfl rfl hb1 rfl) rfl ?_
    refine rg_skip (wn_some rfl rfl rfl hb1 rfl) rfl ?_
    refine rg_q (wn_none rfl) (op_pick_f (v := .bool _) rfl hb1 rfl) rfl rfl ?_
    refine rg_q (wn_none rfl) (op_assign (v := .bool _) rfl) rfl rfl ?_
    refine rg_nil_then0 ?_
    refine cd_ret ?_
    exact px_ret1 rfl (v := .bool _) rfl (fun _ s => s) ⟨by congr 1; simp [*]; try (rw [← List.length_eq_zero_iff]; omega), rfl⟩

set_option maxRecDepth 100000 in
set_option maxHeartbeats 1000000 in
theorem RUint_calls {w0 w : World} {l : List HProp} (p : Nat) (s : List UInt8) (r : RdS) (n : Int) (hs : Sat w0 w ((RfObj p s r) :: l)) (hr : r.rest <:+ s) (hsl : s.length ≤ 1000000) :
    Calls Try.prog 51 #[.pointer (some ⟨p, 0, none⟩), .int .i64 n] w (Ret w0 fun v l' => v = .int .u64 (rdUint r n).1 ∧ l' = RfObj p s (rdUint r n).2 :: l) := by
  have hlen := rdBytes_len r n
  simp only [rdUint]
  refine calls_enter Try.func51 rfl rfl rfl hs ?_
  refine cd_sr ?_   -- 0
  refine ol_q (wn_none rfl) (op_assign (v := .int _ _) rfl) rfl ?_
  refine ol_nil_then ?_
  refine cd_seq ?_
  refine cd_sr ?_   -- 1
  refine ol_q (wn_none rfl) (op_move (v := .int _ _) rfl) rfl ?_
  refine ol_q (wn_none rfl) (op_gt rfl rfl) rfl ?_
  refine ol_nil_then ?_
  refine cd_cond rfl (fun hb1 => ?_) (fun hb1 => ?_)
  · have hp1 := hb1
    (try simp only [decide_eq_true_eq, decide_eq_false_iff_not, Bool.not_eq_true', Bool.not_eq_false', ne_eq, Decidable.not_not] at hp1)
    rw [if_pos hp1] at *
    refine cd_region ?_   -- 2
    refine ol_q (wn_none rfl) (op_assign (v := .int _ _) rfl) rfl ?_
    refine ol_nil ?_
    refine px_then ?_
    refine cd_sr ?_   -- 3
    refine ol_q (wn_none rfl) (op_assign (v := .int _ _) rfl) rfl ?_
    refine ol_q (wn_none rfl) (op_assign (v := .int _ _) rfl) rfl ?_
    refine ol_nil_then ?_
    refine cd_seq ?_
    refine cd_sr ?_   -- 4
    refine ol_q (wn_none rfl) (op_move (v := .pointer _) rfl) rfl ?_
    refine ol_q (wn_none rfl) (op_move (v := .int _ _) rfl) rfl ?_
    refine ol_i (wn_none rfl) (os_call cb_53 rfl (fun w s => RBytes_calls _ _ _ _  s (by assumption) (by omega))) rfl ?_; rintro _ _ ⟨rfl, rfl⟩
    refine ol_i (wn_none rfl) (os_s2b sB_55 Try.underlying5 Try.underlying9 rfl (by omega)) rfl ?_; rintro _ _ ⟨ao1, ac1, rfl, rfl⟩
    refine ol_q (wn_none rfl) (op_len_slice Try.underlying55 rfl) rfl ?_
    refine ol_q (wn_none rfl) (op_move (v := .int _ _) rfl) rfl ?_
    refine ol_nil_then ?_
    refine cd_block ?_
    generalize hS : (rdBytes r _).1 = S at *
    refine cd_loop (α := Nat) (fun j => [(5, .int .u64 (leNat (S.take j) : Nat)), (6, .int .u64 ((256 ^ j % 18446744073709551616 : Nat) : Int)), (14, .slice ao1 S.length ac1), (15, .int .i64 S.length), (16, .int .i64 j)]) (fun _ => _) (fun j => j ≤ S.length) (fun j => S.length - j) 0 (Nat.zero_le _) ⟨rfl, rfl, rfl, rfl, rfl, trivial⟩ (fun _ s => s) ?_
    intro j hj f; (try dsimp only at hj ⊢)
    refine cd_sr ?_   -- 5
    refine ol_q (wn_none rfl) (op_lt rfl rfl) rfl ?_
    refine ol_nil_then ?_
    refine cd_seq ?_
    refine cd_cond rfl (fun hb2 => ?_) (fun hb2 => ?_)
    · have hp2 := hb2
      (try simp only [decide_eq_true_eq, decide_eq_false_iff_not, Bool.not_eq_true', Bool.not_eq_false', ne_eq, Decidable.not_not] at hp2)
      have hj1 : j < S.length := by omega
      have hd := leNat_take S j hj1
      have hb := leNat_lt (S.take (j + 1))
      rw [List.length_take] at hb
      have hb2 := Nat.pow_le_pow_right (show 0 < 256 by decide) (show min (j + 1) S.length ≤ 8 by omega)
      have hu := (S.getD j 0).toNat_lt
      have hpw : 256 ^ j % 18446744073709551616 = 256 ^ j := Nat.mod_eq_of_lt (Nat.lt_of_le_of_lt (Nat.pow_le_pow_right (show 0 < 256 by decide) (show j ≤ 7 by omega)) (by decide))
      have hpS : S[j] = S.getD j 0 := by simp [hj1]
      have hu2 := S[j].toNat_lt
      refine cd_skip ?_
      refine px_then ?_
      refine cd_seq ?_
      refine cd_block ?_
      refine cd_sr ?_   -- 6
      refine ol_q (wn_none rfl) (op_index _ sB_55 rfl rfl rfl (rds_row 0 rfl rfl) rfl (by omega)) rfl ?_
      refine ol_q (wn_none rfl) (op_ldw sc_5 (rds_row 0 rfl rfl) rfl (by omega) rfl) rfl ?_
      refine ol_q (wn_none rfl) (op_assign (v := .int _ _) rfl) rfl ?_
      refine ol_nil_then ?_
      refine cd_sr ?_   -- 7
      refine ol_q (wn_none rfl) (op_move (v := .int _ _) rfl) rfl ?_
      refine ol_q (wn_none rfl) (op_move (v := .int _ _) rfl) rfl ?_
      refine ol_q (wn_none rfl) (op_move (v := .int _ _) rfl) rfl ?_
      refine ol_q (wn_none rfl) (op_conv64 Try.underlying32 (by rw [Try.underlying5]; rfl) rfl (by omega)) rfl ?_
      refine ol_q (wn_none rfl) (op_muln rfl rfl (by rw [hpw, hpS]; omega)) rfl ?_
      refine ol_q (wn_none rfl) (op_addn rfl rfl (by rw [hpw, hpS]; omega)) rfl ?_
      refine ol_q (wn_none rfl) (op_assign (v := .int _ _) rfl) rfl ?_
      refine ol_nil_then ?_
      refine cd_region ?_   -- 8
      refine ol_q (wn_none rfl) (op_move (v := .int _ _) rfl) rfl ?_
      refine ol_q (wn_none rfl) (op_mulm (C := 256) rfl rfl) rfl ?_
      refine ol_q (wn_none rfl) (op_assign (v := .int _ _) rfl) rfl ?_
      refine ol_nil ?_
      refine px_blockN ?_
      refine px_then ?_
      refine cd_region ?_   -- 9
      refine ol_q (wn_none rfl) (op_add rfl rfl (by omega) (by omega)) rfl ?_
      refine ol_q (wn_none rfl) (op_move (v := .int _ _) rfl) rfl ?_
      refine ol_nil ?_
      exact px_loop (j + 1) (by omega) (by omega) ⟨congrArg (Value.int .u64) (by rw [hd, hpw, hpS]), congrArg (Value.int .u64) (by rw [Nat.pow_succ, Nat.mod_mul_mod]), rfl, rfl, congrArg (Value.int .i64) (by simp), trivial⟩ (fun _ s => s)
    · have hp2 := hb2
      (try simp only [decide_eq_true_eq, decide_eq_false_iff_not, Bool.not_eq_true', Bool.not_eq_false', ne_eq, Decidable.not_not] at hp2)
      refine cd_exit ?_
      refine px_thenE ?_
      refine px_thenE ?_
      refine px_blockE ?_
      refine px_then ?_
      refine cd_sr ?_   -- 10
      refine ol_q (wn_none rfl) (op_move (v := .int _ _) rfl) rfl ?_
      refine ol_q (wn_none rfl) (op_assign (v := .int _ _) rfl) rfl ?_
      refine ol_nil_then ?_
      refine cd_ret ?_
      have e1 : j = S.length := by omega
      subst e1
      exact px_ret1 rfl (v := .int _ _) rfl (fun _ s => s.del 0) ⟨by rw [List.take_length], rfl⟩
  · have hp1 := hb1
    (try simp only [decide_eq_true_eq, decide_eq_false_iff_not, Bool.not_eq_true', Bool.not_eq_false', ne_eq, Decidable.not_not] at hp1)
    rw [if_neg hp1] at *
    refine cd_skip ?_
    refine px_then ?_
    refine cd_sr ?_   -- 3
    refine ol_q (wn_none rfl) (op_assign (v := .int _ _) rfl) rfl ?_
    refine ol_q (wn_none rfl) (op_assign (v := .int _ _) rfl) rfl ?_
    refine ol_nil_then ?_
    refine cd_seq ?_
    refine cd_sr ?_   -- 4
    refine ol_q (wn_none rfl) (op_move (v := .pointer _) rfl) rfl ?_
    refine ol_q (wn_none rfl) (op_move (v := .int _ _) rfl) rfl ?_
    refine ol_i (wn_none rfl) (os_call cb_53 rfl (fun w s => RBytes_calls _ _ _ _  s (by assumption) (by omega))) rfl ?_; rintro _ _ ⟨rfl, rfl⟩
    refine ol_i (wn_none rfl) (os_s2b sB_55 Try.underlying5 Try.underlying9 rfl (by omega)) rfl ?_; rintro _ _ ⟨ao2, ac2, rfl, rfl⟩
    refine ol_q (wn_none rfl) (op_len_slice Try.underlying55 rfl) rfl ?_
    refine ol_q (wn_none rfl) (op_move (v := .int _ _) rfl) rfl ?_
    refine ol_nil_then ?_
    refine cd_block ?_
    generalize hS : (rdBytes r _).1 = S at *
    refine cd_loop (α := Nat) (fun j => [(5, .int .u64 (leNat (S.take j) : Nat)), (6, .int .u64 ((256 ^ j % 18446744073709551616 : Nat) : Int)), (14, .slice ao2 S.length ac2), (15, .int .i64 S.length), (16, .int .i64 j)]) (fun _ => _) (fun j => j ≤ S.length) (fun j => S.length - j) 0 (Nat.zero_le _) ⟨rfl, rfl, rfl, rfl, rfl, trivial⟩ (fun _ s => s) ?_
    intro j hj f; (try dsimp only at hj ⊢)
    refine cd_sr ?_   -- 5
    refine ol_q (wn_none rfl) (op_lt rfl rfl) rfl ?_
    refine ol_nil_then ?_
    refine cd_seq ?_
    refine cd_cond rfl (fun hb3 => ?_) (fun hb3 => ?_)
    · have hp3 := hb3
      (try simp only [decide_eq_true_eq, decide_eq_false_iff_not, Bool.not_eq_true', Bool.not_eq_false', ne_eq, Decidable.not_not] at hp3)
      have hj1 : j < S.length := by omega
      have hd := leNat_take S j hj1
      have hb := leNat_lt (S.take (j + 1))
      rw [List.length_take] at hb
      have hb2 := Nat.pow_le_pow_right (show 0 < 256 by decide) (show min (j + 1) S.length ≤ 8 by omega)
      have hu := (S.getD j 0).toNat_lt
      have hpw : 256 ^ j % 18446744073709551616 = 256 ^ j := Nat.mod_eq_of_lt (Nat.lt_of_le_of_lt (Nat.pow_le_pow_right (show 0 < 256 by decide) (show j ≤ 7 by omega)) (by decide))
      have hpS : S[j] = S.getD j 0 := by simp [hj1]
      have hu2 := S[j].toNat_lt
      refine cd_skip ?_
      refine px_then ?_
      refine cd_seq ?_
      refine cd_block ?_
      refine cd_sr ?_   -- 6
      refine ol_q (wn_none rfl) (op_index _ sB_55 rfl rfl rfl (rds_row 0 rfl rfl) rfl (by omega)) rfl ?_
      refine ol_q (wn_none rfl) (op_ldw sc_5 (rds_row 0 rfl rfl) rfl (by omega) rfl) rfl ?_
      refine ol_q (wn_none rfl) (op_assign (v := .int _ _) rfl) rfl ?_
      refine ol_nil_then ?_
      refine cd_sr ?_   -- 7
      refine ol_q (wn_none rfl) (op_move (v := .int _ _) rfl) rfl ?_
      refine ol_q (wn_none rfl) (op_move (v := .int _ _) rfl) rfl ?_
      refine ol_q (wn_none rfl) (op_move (v := .int _ _) rfl) rfl ?_
      refine ol_q (wn_none rfl) (op_conv64 Try.underlying32 (by rw [Try.underlying5]; rfl) rfl (by omega)) rfl ?_
      refine ol_q (wn_none rfl) (op_muln rfl rfl (by rw [hpw, hpS]; omega)) rfl ?_
      refine ol_q (wn_none rfl) (op_addn rfl rfl (by rw [hpw, hpS]; omega)) rfl ?_
      refine ol_q (wn_none rfl) (op_assign (v := .int _ _) rfl) rfl ?_
      refine ol_nil_then ?_
      refine cd_region ?_   -- 8
      refine ol_q (wn_none rfl) (op_move (v := .int _ _) rfl) rfl ?_
      refine ol_q (wn_none rfl) (op_mulm (C := 256) rfl rfl) rfl ?_
      refine ol_q (wn_none rfl) (op_assign (v := .int _ _) rfl) rfl ?_
      refine ol_nil ?_
      refine px_blockN ?_
      refine px_then ?_
      refine cd_region ?_   -- 9
      refine ol_q (wn_none rfl) (op_add rfl rfl (by omega) (by omega)) rfl ?_
      refine ol_q (wn_none rfl) (op_move (v := .int _ _) rfl) rfl ?_
      refine ol_nil ?_
      exact px_loop (j + 1) (by omega) (by omega) ⟨congrArg (Value.int .u64) (by rw [hd, hpw, hpS]), congrArg (Value.int .u64) (by rw [Nat.pow_succ, Nat.mod_mul_mod]), rfl, rfl, congrArg (Value.int .i64) (by simp), trivial⟩ (fun _ s => s)
    · have hp3 := hb3
      (try simp only [decide_eq_true_eq, decide_eq_false_iff_not, Bool.not_eq_true', Bool.not_eq_false', ne_eq, Decidable.not_not] at hp3)
      refine cd_exit ?_
      refine px_thenE ?_
      refine px_thenE ?_
      refine px_blockE ?_
      refine px_then ?_
      refine cd_sr ?_   -- 10
      refine ol_q (wn_none rfl) (op_move (v := .int _ _) rfl) rfl ?_
      refine ol_q (wn_none rfl) (op_assign (v := .int _ _) rfl) rfl ?_
      refine ol_nil_then ?_
      refine cd_ret ?_
      have e1 : j = S.length := by omega
      subst e1
      exact px_ret1 rfl (v := .int _ _) rfl (fun _ s => s.del 0) ⟨by rw [List.take_length], rfl⟩

set_option maxRecDepth 100000 in
set_option maxHeartbeats 1000000 in
theorem RPut_calls {w0 w : World} {l : List HProp} (k A : Nat) (wd : Int) (hs : Sat w0 w (l)) (hk : clamp8 wd = k) (hA : A < 18446744073709551616) :
    Calls Try.prog 57 #[.int .u64 (A : Int), .int .i64 wd] w (Ret w0 fun v l' => v = .string (B (putB A k)) ∧ l' = l) := by
  induction k using Nat.strongRecOn generalizing w l A wd with | _ k ih => ?_
  refine calls_enter Try.func57 rfl rfl rfl hs ?_
  refine cd_sr ?_   -- 0
  refine ol_q (wn_none rfl) (op_assign (v := .string _) rfl) rfl ?_
  refine ol_nil_then ?_
  refine cd_seq ?_
  refine cd_sr ?_   -- 1
  refine ol_q (wn_none rfl) (op_move (v := .int _ _) rfl) rfl ?_
  refine ol_q (wn_none rfl) (op_le rfl rfl) rfl ?_
  refine ol_nil_then ?_
  refine cd_cond rfl (fun hb1 => ?_) (fun hb1 => ?_)
  · have hp1 := hb1
    (try simp only [decide_eq_true_eq, decide_eq_false_iff_not, Bool.not_eq_true', Bool.not_eq_false', ne_eq, Decidable.not_not] at hp1)
    refine cd_sr ?_   -- 2
    refine ol_q (wn_none rfl) (op_assign (v := .string _) rfl) rfl ?_
    refine ol_nil_then ?_
    refine cd_ret ?_
    refine px_thenR ?_
    have e : k = 0 := by subst hk; unfold clamp8; omega
    subst e
    exact px_ret1 rfl (v := .string _) rfl (fun _ s => s) ⟨rfl, rfl⟩
  · have hp1 := hb1
    (try simp only [decide_eq_true_eq, decide_eq_false_iff_not, Bool.not_eq_true', Bool.not_eq_false', ne_eq, Decidable.not_not] at hp1)
    refine cd_skip ?_
    refine px_then ?_
    refine cd_seq ?_   -- 3
    refine cd_drawe (M := []) mx [3, 4, 10] ?_
    -- 0
    refine et_quiet 0 (by kernel_rfl) rfl (by kernel_rfl) (wn_none rfl) (op_move (v := .int _ _) rfl) rfl ?_
    -- 1
    refine et_quiet 1 (by kernel_rfl) rfl (by kernel_rfl) (wn_none rfl) (op_remn (C := 256) rfl rfl (by first | decide | omega)) rfl ?_
    -- 2
    refine et_quiet 2 (by kernel_rfl) rfl (by kernel_rfl) (wn_none rfl) (op_conv8 Try.underlying5 (by rw [Try.underlying32]; rfl) rfl) rfl ?_
    -- 5
    refine et_quiet 5 (by kernel_rfl) rfl (by kernel_rfl) (wn_none rfl) (op_move (v := .int _ _) rfl) rfl ?_
    -- 6
    refine et_quiet 6 (by kernel_rfl) rfl (by kernel_rfl) (wn_none rfl) (op_quon (C := 256) rfl rfl (by first | decide | omega) (by omega)) rfl ?_
    -- 7
    refine et_quiet 7 (by kernel_rfl) rfl (by kernel_rfl) (wn_none rfl) (op_move (v := .int _ _) rfl) rfl ?_
    -- 8
    refine et_quiet 8 (by kernel_rfl) rfl (by kernel_rfl) (wn_none rfl) (op_min rfl rfl) rfl ?_
    -- 9
    refine et_quiet 9 (by kernel_rfl) rfl (by kernel_rfl) (wn_none rfl) (op_sub rfl rfl (by omega) (by omega)) rfl ?_
    refine et_2 (i1 := 3) (i2 := 10) (by kernel_rfl) ?_ ?_
    · -- 3
      refine ei_i rfl rfl (wn_none rfl) (os_bslice (E := encU8) [_] (ys := [_]) sB_55 zv_5 rfl rfl rfl rfl (by decide)) rfl ?_; rintro _ _ ⟨ao1, rfl, rfl⟩; refine ⟨[_], rfl, ?_⟩
      refine et_2 (i1 := 4) (i2 := 10) (by kernel_rfl) ?_ ?_
      · -- 4
        refine ei_i rfl rfl (wn_none rfl) (os_q (op_b2s sB_55 Try.underlying5 Try.underlying9 rfl (rds_row 0 rfl rfl) rfl)) rfl ?_; rintro _ _ ⟨rfl, rfl⟩; refine ⟨[_], rfl, ?_⟩
        refine et_1 (i := 10) (by kernel_rfl) ?_
        refine ei_i rfl rfl (wn_none rfl) (os_call cb_57 rfl (fun w s => ih _ (by rw [← hk, clamp8_pred hp1]; exact Nat.lt_succ_self _) _ _   s rfl (by omega))) rfl ?_; rintro _ l ⟨rfl, rfl⟩; refine ⟨[_], rfl, ?_⟩
        -- 11
        refine et_quiet 11 (by kernel_rfl) rfl (by kernel_rfl) (wn_none rfl) (op_sadd rfl rfl (by simp only [putB_length, List.length_cons, List.length_nil]; have := clamp8_le ((if 8 < wd then 8 else wd) - 1); omega)) rfl ?_
        -- 12
        refine et_quiet 12 (by kernel_rfl) rfl (by kernel_rfl) (wn_none rfl) (op_assign (v := .string _) rfl) rfl ?_
        refine et_nil_then (by kernel_rfl) ?_
        refine cd_ret ?_
        exact px_ret1 rfl (v := .string _) rfl (fun _ s => s.del 0) ⟨by rw [← hk, clamp8_pred hp1, putB_cons]; rfl, rfl⟩
      · -- 10
        refine ei_i rfl rfl (wn_none rfl) (os_call cb_57 rfl (fun w s => ih _ (by rw [← hk, clamp8_pred hp1]; exact Nat.lt_succ_self _) _ _   s rfl (by omega))) rfl ?_; rintro _ l ⟨rfl, rfl⟩; refine ⟨[_], rfl, ?_⟩
        refine et_1 (i := 4) (by kernel_rfl) ?_
        refine ei_i rfl rfl (wn_none rfl) (os_q (op_b2s sB_55 Try.underlying5 Try.underlying9 rfl (rds_row 0 rfl rfl) rfl)) rfl ?_; rintro _ _ ⟨rfl, rfl⟩; refine ⟨[_], rfl, ?_⟩
        -- 11
        refine et_quiet 11 (by kernel_rfl) rfl (by kernel_rfl) (wn_none rfl) (op_sadd rfl rfl (by simp only [putB_length, List.length_cons, List.length_nil]; have := clamp8_le ((if 8 < wd then 8 else wd) - 1); omega)) rfl ?_
        -- 12
        refine et_quiet 12 (by kernel_rfl) rfl (by kernel_rfl) (wn_none rfl) (op_assign (v := .string _) rfl) rfl ?_
        refine et_nil_then (by kernel_rfl) ?_
        refine cd_ret ?_
        exact px_ret1 rfl (v := .string _) rfl (fun _ s => s.del 0) ⟨by rw [← hk, clamp8_pred hp1, putB_cons]; rfl, rfl⟩
    · -- 10
      refine ei_i rfl rfl (wn_none rfl) (os_call cb_57 rfl (fun w s => ih _ (by rw [← hk, clamp8_pred hp1]; exact Nat.lt_succ_self _) _ _   s rfl (by omega))) rfl ?_; rintro _ l ⟨rfl, rfl⟩; refine ⟨[], rfl, ?_⟩
      refine et_1 (i := 3) (by kernel_rfl) ?_
      refine ei_i rfl rfl (wn_none rfl) (os_bslice (E := encU8) [_] (ys := [_]) sB_55 zv_5 rfl rfl rfl rfl (by decide)) rfl ?_; rintro _ _ ⟨ao2, rfl, rfl⟩; refine ⟨[_], rfl, ?_⟩
      refine et_1 (i := 4) (by kernel_rfl) ?_
      refine ei_i rfl rfl (wn_none rfl) (os_q (op_b2s sB_55 Try.underlying5 Try.underlying9 rfl (rds_row 0 rfl rfl) rfl)) rfl ?_; rintro _ _ ⟨rfl, rfl⟩; refine ⟨[_], rfl, ?_⟩
      -- 11
      refine et_quiet 11 (by kernel_rfl) rfl (by kernel_rfl) (wn_none rfl) (op_sadd rfl rfl (by simp only [putB_length, List.length_cons, List.length_nil]; have := clamp8_le ((if 8 < wd then 8 else wd) - 1); omega)) rfl ?_
      -- 12
      refine et_quiet 12 (by kernel_rfl) rfl (by kernel_rfl) (wn_none rfl) (op_assign (v := .string _) rfl) rfl ?_
      refine et_nil_then (by kernel_rfl) ?_
      refine cd_ret ?_
      exact px_ret1 rfl (v := .string _) rfl (fun _ s => s.del 0) ⟨by rw [← hk, clamp8_pred hp1, putB_cons]; rfl, rfl⟩
end Go.SL

import Derived.Test.YtgdlddjalilmhaaMWire
import Derived.Test.YtgdlddjalilmhaaLe
import Derived.Test.YtgdlddjalilmhaaBit
import Derived.Test.YtgdlddjalilmhaaGen
set_option linter.unusedVariables false
set_option linter.unusedSimpArgs false
namespace Go.SL
open Go.Proofs

set_option maxRecDepth 100000 in
set_option maxHeartbeats 1000000 in
theorem WGood_calls {w0 w : World} {l : List HProp} (k sl : Int) (tg : Root) (mb : Int) (bd : Nat) (bo : Option Addr) (bc : Nat) (bits : List Bool) (tag : Tag) (hs : Sat w0 w (l)) (hr : Rds w0 l encBool bo bits) (hxl : bits.length ≤ 1000) (hbd : bd < 18446744073709551616) :
    Calls Try.prog 35 #[.agg (msgC ⟨k, sl, tg, mb, bd, ⟨bo, bits.length, bc⟩, tag⟩).toArray] w (Ret w0 fun v l' => v = .bool (goodW k sl mb bd bits) ∧ l' = l) := by
  refine calls_enter Try.func35 rfl rfl rfl hs ?_
  refine cd_sr ?_   -- 0
  refine ol_i (wn_none rfl) (os_boxa rfl) rfl ?_; rintro _ _ ⟨bx1, rfl, rfl⟩
  refine ol_q (wn_none rfl) (op_assign (v := .bool _) rfl) rfl ?_
  refine ol_nil_then ?_
  refine cd_seq ?_
  refine cd_sr ?_   -- 1
  refine ol_q (wn_none rfl) (op_field fld_45_1 rfl) rfl ?_
  refine ol_q (wn_none rfl) (op_ld 0 sc_3 rfl rfl (show (msgC _).toArray[1]? = some (.int .i64 sl) from msgC_a1 _)) rfl ?_
  refine ol_q (wn_none rfl) (op_lt rfl rfl) rfl ?_
  refine ol_q (wn_none rfl) (op_move (v := .bool _) rfl) rfl ?_
  refine ol_split 6 rfl (fun hb1 => ?_) (fun hb1 => ?_)
  · have hp1 := hb1
    (try simp only [decide_eq_true_eq, decide_eq_false_iff_not, Bool.not_eq_true', Bool.not_eq_false', ne_eq, Decidable.not_not] at hp1)
    refine ol_skip (wn_some rfl rfl rfl hb1 rfl) rfl ?_
    refine ol_skip (wn_some rfl rfl rfl hb1 rfl) rfl ?_
    refine ol_skip (wn_some rfl rfl rfl hb1 rfl) rfl ?_
    refine ol_q (wn_none rfl) (op_pick_t (v := .bool _) rfl hb1 rfl) rfl ?_
    refine ol_q (wn_none rfl) (op_move (v := .bool _) rfl) rfl ?_
    refine ol_skip (wn_some rfl rfl rfl rfl rfl) rfl ?_
    refine ol_skip (wn_some rfl rfl rfl rfl rfl) rfl ?_
    refine ol_skip (wn_some rfl rfl rfl rfl rfl) rfl ?_
    refine ol_q (wn_none rfl) (op_pick_t (v := .bool _) rfl rfl rfl) rfl ?_
    refine ol_q (wn_none rfl) (op_move (v := .bool _) rfl) rfl ?_
    refine ol_skip (wn_some rfl rfl rfl rfl rfl) rfl ?_
    refine ol_skip (wn_some rfl rfl rfl rfl rfl) rfl ?_
    refine ol_skip (wn_some rfl rfl rfl rfl rfl) rfl ?_
    refine ol_q (wn_none rfl) (op_pick_t (v := .bool _) rfl rfl rfl) rfl ?_
    refine ol_q (wn_none rfl) (op_move (v := .bool _) rfl) rfl ?_
    refine ol_skip (wn_some rfl rfl rfl rfl rfl) rfl ?_
    refine ol_skip (wn_some rfl rfl rfl rfl rfl) rfl ?_
    refine ol_skip (wn_some rfl rfl rfl rfl rfl) rfl ?_
    refine ol_skip (wn_some rfl rfl rfl rfl rfl) rfl ?_
    refine ol_skip (wn_undef rfl rfl rfl rfl) rfl ?_
    refine ol_skip (wn_undef rfl rfl rfl rfl) rfl ?_
    refine ol_skip (wn_undef rfl rfl rfl rfl) rfl ?_
    refine ol_skip (wn_some rfl rfl rfl rfl rfl) rfl ?_
    refine ol_q (wn_none rfl) (op_pick_t (v := .bool _) rfl rfl rfl) rfl ?_
    refine ol_nil_then ?_
    refine cd_cond_t rfl rfl ?_
    refine cd_sr ?_   -- 2
    refine ol_q (wn_none rfl) (op_assign (v := .bool _) rfl) rfl ?_
    refine ol_nil_then ?_
    refine cd_ret ?_
    refine px_thenR ?_
    exact px_ret1 rfl (v := .bool _) rfl (fun _ s => (s.del 0)) ⟨congrArg Value.bool (by unfold goodW; cases hcb : bits.contains true <;> (simp only [hcb, Bool.false_eq_true, and_false, false_or, and_true]; first | (symm; exact decide_eq_true (by omega)) | (symm; exact decide_eq_false (by omega)) | exact decide_eq_decide.2 (by omega))), rfl⟩
  · have hp1 := hb1
    (try simp only [decide_eq_true_eq, decide_eq_false_iff_not, Bool.not_eq_true', Bool.not_eq_false', ne_eq, Decidable.not_not] at hp1)
    refine ol_q (wn_some rfl rfl rfl hb1 rfl) (op_field fld_45_1 rfl) rfl ?_
    refine ol_q (wn_some rfl rfl rfl hb1 rfl) (op_ld 0 sc_3 rfl rfl (show (msgC _).toArray[1]? = some (.int .i64 sl) from msgC_a1 _)) rfl ?_
    refine ol_q (wn_some rfl rfl rfl hb1 rfl) (op_gt rfl rfl) rfl ?_
    refine ol_q (wn_none rfl) (op_pick_f (v := .bool _) rfl hb1 rfl) rfl ?_
    refine ol_q (wn_none rfl) (op_move (v := .bool _) rfl) rfl ?_
    refine ol_split 11 rfl (fun hb2 => ?_) (fun hb2 => ?_)
    · have hp2 := hb2
      (try simp only [decide_eq_true_eq, decide_eq_false_iff_not, Bool.not_eq_true', Bool.not_eq_false', ne_eq, Decidable.not_not] at hp2)
      refine ol_skip (wn_some rfl rfl rfl hb2 rfl) rfl ?_
      refine ol_skip (wn_some rfl rfl rfl hb2 rfl) rfl ?_
      refine ol_skip (wn_some rfl rfl rfl hb2 rfl) rfl ?_
      refine ol_q (wn_none rfl) (op_pick_t (v := .bool _) rfl hb2 rfl) rfl ?_
      refine ol_q (wn_none rfl) (op_move (v := .bool _) rfl) rfl ?_
      refine ol_skip (wn_some rfl rfl rfl rfl rfl) rfl ?_
      refine ol_skip (wn_some rfl rfl rfl rfl rfl) rfl ?_
      refine ol_skip (wn_some rfl rfl rfl rfl rfl) rfl ?_
      refine ol_q (wn_none rfl) (op_pick_t (v := .bool _) rfl rfl rfl) rfl ?_
      refine ol_q (wn_none rfl) (op_move (v := .bool _) rfl) rfl ?_
      refine ol_skip (wn_some rfl rfl rfl rfl rfl) rfl ?_
      refine ol_skip (wn_some rfl rfl rfl rfl rfl) rfl ?_
      refine ol_skip (wn_some rfl rfl rfl rfl rfl) rfl ?_
      refine ol_skip (wn_some rfl rfl rfl rfl rfl) rfl ?_
      refine ol_skip (wn_undef rfl rfl rfl rfl) rfl ?_
      refine ol_skip (wn_undef rfl rfl rfl rfl) rfl ?_
      refine ol_skip (wn_undef rfl rfl rfl rfl) rfl ?_
      refine ol_skip (wn_some rfl rfl rfl rfl rfl) rfl ?_
      refine ol_q (wn_none rfl) (op_pick_t (v := .bool _) rfl rfl rfl) rfl ?_
      refine ol_nil_then ?_
      refine cd_cond_t rfl rfl ?_
      refine cd_sr ?_   -- 2
      refine ol_q (wn_none rfl) (op_assign (v := .bool _) rfl) rfl ?_
      refine ol_nil_then ?_
      refine cd_ret ?_
      refine px_thenR ?_
      exact px_ret1 rfl (v := .bool _) rfl (fun _ s => (s.del 0)) ⟨congrArg Value.bool (by unfold goodW; cases hcb : bits.contains true <;> (simp only [hcb, Bool.false_eq_true, and_false, false_or, and_true]; first | (symm; exact decide_eq_true (by omega)) | (symm; exact decide_eq_false (by omega)) | exact decide_eq_decide.2 (by omega))), rfl⟩
    · have hp2 := hb2
      (try simp only [decide_eq_true_eq, decide_eq_false_iff_not, Bool.not_eq_true', Bool.not_eq_false', ne_eq, Decidable.not_not] at hp2)
      refine ol_q (wn_some rfl rfl rfl hb2 rfl) (op_field fld_45_3 rfl) rfl ?_
      refine ol_q (wn_some rfl rfl rfl hb2 rfl) (op_ld 0 sc_3 rfl rfl (show (msgC _).toArray[34]? = some (.int .i64 mb) from msgC_a34 _)) rfl ?_
      refine ol_q (wn_some rfl rfl rfl hb2 rfl) (op_lt rfl rfl) rfl ?_
      refine ol_q (wn_none rfl) (op_pick_f (v := .bool _) rfl hb2 rfl) rfl ?_
      refine ol_q (wn_none rfl) (op_move (v := .bool _) rfl) rfl ?_
      refine ol_split 16 rfl (fun hb3 => ?_) (fun hb3 => ?_)
      · have hp3 := hb3
        (try simp only [decide_eq_true_eq, decide_eq_false_iff_not, Bool.not_eq_true', Bool.not_eq_false', ne_eq, Decidable.not_not] at hp3)
        refine ol_skip (wn_some rfl rfl rfl hb3 rfl) rfl ?_
        refine ol_skip (wn_some rfl rfl rfl hb3 rfl) rfl ?_
        refine ol_skip (wn_some rfl rfl rfl hb3 rfl) rfl ?_
        refine ol_q (wn_none rfl) (op_pick_t (v := .bool _) rfl hb3 rfl) rfl ?_
        refine ol_q (wn_none rfl) (op_move (v := .bool _) rfl) rfl ?_
        refine ol_skip (wn_some rfl rfl rfl rfl rfl) rfl ?_
        refine ol_skip (wn_some rfl rfl rfl rfl rfl) rfl ?_
        refine ol_skip (wn_some rfl rfl rfl rfl rfl) rfl ?_
        refine ol_skip (wn_some rfl rfl rfl rfl rfl) rfl ?_
        refine ol_skip (wn_undef rfl rfl rfl rfl) rfl ?_
        refine ol_skip (wn_undef rfl rfl rfl rfl) rfl ?_
        refine ol_skip (wn_undef rfl rfl rfl rfl) rfl ?_
        refine ol_skip (wn_some rfl rfl rfl rfl rfl) rfl ?_
        refine ol_q (wn_none rfl) (op_pick_t (v := .bool _) rfl rfl rfl) rfl ?_
        refine ol_nil_then ?_
        refine cd_cond_t rfl rfl ?_
        refine cd_sr ?_   -- 2
        refine ol_q (wn_none rfl) (op_assign (v := .bool _) rfl) rfl ?_
        refine ol_nil_then ?_
        refine cd_ret ?_
        refine px_thenR ?_
        exact px_ret1 rfl (v := .bool _) rfl (fun _ s => (s.del 0)) ⟨congrArg Value.bool (by unfold goodW; cases hcb : bits.contains true <;> (simp only [hcb, Bool.false_eq_true, and_false, false_or, and_true]; first | (symm; exact decide_eq_true (by omega)) | (symm; exact decide_eq_false (by omega)) | exact decide_eq_decide.2 (by omega))), rfl⟩
      · have hp3 := hb3
        (try simp only [decide_eq_true_eq, decide_eq_false_iff_not, Bool.not_eq_true', Bool.not_eq_false', ne_eq, Decidable.not_not] at hp3)
        refine ol_q (wn_some rfl rfl rfl hb3 rfl) (op_field fld_45_3 rfl) rfl ?_
        refine ol_q (wn_some rfl rfl rfl hb3 rfl) (op_ld 0 sc_3 rfl rfl (show (msgC _).toArray[34]? = some (.int .i64 mb) from msgC_a34 _)) rfl ?_
        refine ol_q (wn_some rfl rfl rfl hb3 rfl) (op_gt rfl rfl) rfl ?_
        refine ol_q (wn_none rfl) (op_pick_f (v := .bool _) rfl hb3 rfl) rfl ?_
        refine ol_q (wn_none rfl) (op_move (v := .bool _) rfl) rfl ?_
        refine ol_split 21 rfl (fun hb4 => ?_) (fun hb4 => ?_)
        · have hp4 := hb4
          (try simp only [decide_eq_true_eq, decide_eq_false_iff_not, Bool.not_eq_true', Bool.not_eq_false', ne_eq, Decidable.not_not] at hp4)
          refine ol_skip (wn_some rfl rfl rfl hb4 rfl) rfl ?_
          refine ol_skip (wn_some rfl rfl rfl hb4 rfl) rfl ?_
          refine ol_skip (wn_some rfl rfl rfl hb4 rfl) rfl ?_
          refine ol_skip (wn_some rfl rfl rfl hb4 rfl) rfl ?_
          refine ol_skip (wn_undef rfl rfl rfl rfl) rfl ?_
          refine ol_skip (wn_undef rfl rfl rfl rfl) rfl ?_
          refine ol_skip (wn_undef rfl rfl rfl rfl) rfl ?_
          refine ol_skip (wn_some rfl rfl rfl hb4 rfl) rfl ?_
          refine ol_q (wn_none rfl) (op_pick_t (v := .bool _) rfl hb4 rfl) rfl ?_
          refine ol_nil_then ?_
          refine cd_cond_t rfl rfl ?_
          refine cd_sr ?_   -- 2
          refine ol_q (wn_none rfl) (op_assign (v := .bool _) rfl) rfl ?_
          refine ol_nil_then ?_
          refine cd_ret ?_
          refine px_thenR ?_
          exact px_ret1 rfl (v := .bool _) rfl (fun _ s => (s.del 0)) ⟨congrArg Value.bool (by unfold goodW; cases hcb : bits.contains true <;> (simp only [hcb, Bool.false_eq_true, and_false, false_or, and_true]; first | (symm; exact decide_eq_true (by omega)) | (symm; exact decide_eq_false (by omega)) | exact decide_eq_decide.2 (by omega))), rfl⟩
        · have hp4 := hb4
          (try simp only [decide_eq_true_eq, decide_eq_false_iff_not, Bool.not_eq_true', Bool.not_eq_false', ne_eq, Decidable.not_not] at hp4)
          refine ol_q (wn_some rfl rfl rfl hb4 rfl) (op_field fld_45_0 rfl) rfl ?_
          refine ol_q (wn_some rfl rfl rfl hb4 rfl) (op_ld 0 sc_3 rfl rfl (show (msgC _).toArray[0]? = some (.int .i64 k) from msgC_a0 _)) rfl ?_
          refine ol_q (wn_some rfl rfl rfl hb4 rfl) (op_ne rfl rfl) rfl ?_
          refine ol_q (wn_some rfl rfl rfl hb4 rfl) (op_move (v := .bool _) rfl) rfl ?_
          refine ol_split 25 rfl (fun hb5 => ?_) (fun hb5 => ?_)
          · have hp5 := hb5
            (try simp only [decide_eq_true_eq, decide_eq_false_iff_not, Bool.not_eq_true', Bool.not_eq_false', ne_eq, Decidable.not_not] at hp5)
            refine ol_q (wn_some rfl rfl rfl hb5 rfl) (op_field fld_45_4 rfl) rfl ?_
            refine ol_q (wn_some rfl rfl rfl hb5 rfl) (op_ld 0 sc_32 rfl rfl (show (msgC _).toArray[35]? = some (.int .u64 (bd : Int)) from msgC_a35 _)) rfl ?_
            refine ol_q (wn_some rfl rfl rfl hb5 rfl) (op_ne rfl rfl) rfl ?_
            refine ol_q (wn_some rfl rfl rfl hb4 rfl) (op_pick_t (v := .bool _) rfl hb5 rfl) rfl ?_
            refine ol_q (wn_none rfl) (op_pick_f (v := .bool _) rfl hb4 rfl) rfl ?_
            refine ol_nil_then ?_
            refine cd_cond rfl (fun hb6 => ?_) (fun hb6 => ?_)
            · have hp6 := hb6
              (try simp only [decide_eq_true_eq, decide_eq_false_iff_not, Bool.not_eq_true', Bool.not_eq_false', ne_eq, Decidable.not_not] at hp6)
              refine cd_sr ?_   -- 2
              refine ol_q (wn_none rfl) (op_assign (v := .bool _) rfl) rfl ?_
              refine ol_nil_then ?_
              refine cd_ret ?_
              refine px_thenR ?_
              exact px_ret1 rfl (v := .bool _) rfl (fun _ s => (s.del 0)) ⟨congrArg Value.bool (by unfold goodW; cases hcb : bits.contains true <;> (simp only [hcb, Bool.false_eq_true, and_false, false_or, and_true]; first | (symm; exact decide_eq_true (by omega)) | (symm; exact decide_eq_false (by omega)) | exact decide_eq_decide.2 (by omega))), rfl⟩
            · have hp6 := hb6
              (try simp only [decide_eq_true_eq, decide_eq_false_iff_not, Bool.not_eq_true', Bool.not_eq_false', ne_eq, Decidable.not_not] at hp6)
              refine cd_skip ?_
              refine px_then ?_
              refine cd_seq ?_
              refine cd_sr ?_   -- 3
              refine ol_q (wn_none rfl) (op_field fld_45_0 rfl) rfl ?_
              refine ol_q (wn_none rfl) (op_ld 0 sc_3 rfl rfl (show (msgC _).toArray[0]? = some (.int .i64 k) from msgC_a0 _)) rfl ?_
              refine ol_q (wn_none rfl) (op_eq rfl rfl) rfl ?_
              refine ol_nil_then ?_
              refine cd_cond rfl (fun hb7 => ?_) (fun hb7 => ?_)
              · have hp7 := hb7
                (try simp only [decide_eq_true_eq, decide_eq_false_iff_not, Bool.not_eq_true', Bool.not_eq_false', ne_eq, Decidable.not_not] at hp7)
                refine cd_sr ?_   -- 4
                refine ol_q (wn_none rfl) (op_field fld_45_3 rfl) rfl ?_
                refine ol_q (wn_none rfl) (op_ld 0 sc_3 rfl rfl (show (msgC _).toArray[34]? = some (.int .i64 mb) from msgC_a34 _)) rfl ?_
                refine ol_q (wn_none rfl) (op_eq rfl rfl) rfl ?_
                refine ol_q (wn_none rfl) (op_move (v := .bool _) rfl) rfl ?_
                refine ol_split 37 rfl (fun hb8 => ?_) (fun hb8 => ?_)
                · have hp8 := hb8
                  (try simp only [decide_eq_true_eq, decide_eq_false_iff_not, Bool.not_eq_true', Bool.not_eq_false', ne_eq, Decidable.not_not] at hp8)
                  refine ol_q (wn_some rfl rfl rfl hb8 rfl) (op_field fld_45_5 rfl) rfl ?_
                  refine ol_q (wn_some rfl rfl rfl hb8 rfl) (op_ld 0 sc_41 rfl rfl (show (msgC _).toArray[36]? = some (.slice bo bits.length bc) from msgC_a36 _)) rfl ?_
                  refine ol_q (wn_some rfl rfl rfl hb8 rfl) (op_len_slice Try.underlying41 rfl) rfl ?_
                  refine ol_q (wn_some rfl rfl rfl hb8 rfl) (op_le rfl rfl) rfl ?_
                  refine ol_q (wn_none rfl) (op_pick_t (v := .bool _) rfl hb8 rfl) rfl ?_
                  refine ol_q (wn_none rfl) (op_move (v := .bool _) rfl) rfl ?_
                  refine ol_split 43 rfl (fun hb9 => ?_) (fun hb9 => ?_)
                  · have hp9 := hb9
                    (try simp only [decide_eq_true_eq, decide_eq_false_iff_not, Bool.not_eq_true', Bool.not_eq_false', ne_eq, Decidable.not_not] at hp9)
                    refine ol_q (wn_some rfl rfl rfl hb9 rfl) (op_field fld_45_5 rfl) rfl ?_
                    refine ol_q (wn_some rfl rfl rfl hb9 rfl) (op_ld 0 sc_41 rfl rfl (show (msgC _).toArray[36]? = some (.slice bo bits.length bc) from msgC_a36 _)) rfl ?_
                    refine ol_i (wn_some rfl rfl rfl hb9 rfl) (os_call cb_42 rfl (fun w s => Contains_calls _ _ _ _  s (hr.cons _) (by first | omega | (simp; done) | (simp; omega)))) rfl ?_; rintro _ l ⟨rfl, rfl⟩
                    refine ol_q (wn_none rfl) (op_pick_t (v := .bool _) rfl hb9 rfl) rfl ?_
                    refine ol_q (wn_none rfl) (op_assign (v := .bool _) rfl) rfl ?_
                    refine ol_nil_then ?_
                    refine cd_ret ?_
                    refine px_thenR ?_
                    exact px_ret1 rfl (v := .bool _) rfl (fun _ s => (s.del 0)) ⟨congrArg Value.bool (by unfold goodW; cases hcb : bits.contains true <;> (simp only [hcb, Bool.false_eq_true, and_false, false_or, and_true]; first | (symm; exact decide_eq_true (by omega)) | (symm; exact decide_eq_false (by omega)) | exact decide_eq_decide.2 (by omega))), rfl⟩
                  · have hp9 := hb9
                    (try simp only [decide_eq_true_eq, decide_eq_false_iff_not, Bool.not_eq_true', Bool.not_eq_false', ne_eq, Decidable.not_not] at hp9)
                    refine ol_skip (wn_some rfl rfl rfl hb9 rfl) rfl ?_
                    refine ol_skip (wn_some rfl rfl rfl hb9 rfl) rfl ?_
                    refine ol_skip (wn_some rfl rfl rfl hb9 rfl) rfl ?_
                    refine ol_q (wn_none rfl) (op_pick_f (v := .bool _) rfl hb9 rfl) rfl ?_
                    refine ol_q (wn_none rfl) (op_assign (v := .bool _) rfl) rfl ?_
                    refine ol_nil_then ?_
                    refine cd_ret ?_
                    refine px_thenR ?_
                    exact px_ret1 rfl (v := .bool _) rfl (fun _ s => (s.del 0)) ⟨congrArg Value.bool (by unfold goodW; cases hcb : bits.contains true <;> (simp only [hcb, Bool.false_eq_true, and_false, false_or, and_true]; first | (symm; exact decide_eq_true (by omega)) | (symm; exact decide_eq_false (by omega)) | exact decide_eq_decide.2 (by omega))), rfl⟩
                · have hp8 := hb8
                  (try simp only [decide_eq_true_eq, decide_eq_false_iff_not, Bool.not_eq_true', Bool.not_eq_false', ne_eq, Decidable.not_not] at hp8)
                  refine ol_skip (wn_some rfl rfl rfl hb8 rfl) rfl ?_
                  refine ol_skip (wn_some rfl rfl rfl hb8 rfl) rfl ?_
                  refine ol_skip (wn_some rfl rfl rfl hb8 rfl) rfl ?_
                  refine ol_skip (wn_some rfl rfl rfl hb8 rfl) rfl ?_
                  refine ol_q (wn_none rfl) (op_pick_f (v := .bool _) rfl hb8 rfl) rfl ?_
                  refine ol_q (wn_none rfl) (op_move (v := .bool _) rfl) rfl ?_
                  refine ol_skip (wn_some rfl rfl rfl rfl rfl) rfl ?_
                  refine ol_skip (wn_some rfl rfl rfl rfl rfl) rfl ?_
                  refine ol_skip (wn_some rfl rfl rfl rfl rfl) rfl ?_
                  refine ol_q (wn_none rfl) (op_pick_f (v := .bool _) rfl rfl rfl) rfl ?_
                  refine ol_q (wn_none rfl) (op_assign (v := .bool _) rfl) rfl ?_
                  refine ol_nil_then ?_
                  refine cd_ret ?_
                  refine px_thenR ?_
                  exact px_ret1 rfl (v := .bool _) rfl (fun _ s => (s.del 0)) ⟨congrArg Value.bool (by unfold goodW; cases hcb : bits.contains true <;> (simp only [hcb, Bool.false_eq_true, and_false, false_or, and_true]; first | (symm; exact decide_eq_true (by omega)) | (symm; exact decide_eq_false (by omega)) | exact decide_eq_decide.2 (by omega))), rfl⟩
              · have hp7 := hb7
                (try simp only [decide_eq_true_eq, decide_eq_false_iff_not, Bool.not_eq_true', Bool.not_eq_false', ne_eq, Decidable.not_not] at hp7)
                refine cd_skip ?_
                refine px_then ?_
                refine cd_sr ?_   -- 5
                refine ol_q (wn_none rfl) (op_field fld_45_0 rfl) rfl ?_
                refine ol_q (wn_none rfl) (op_ld 0 sc_3 rfl rfl (show (msgC _).toArray[0]? = some (.int .i64 k) from msgC_a0 _)) rfl ?_
                refine ol_q (wn_none rfl) (op_eq rfl rfl) rfl ?_
                refine ol_q (wn_none rfl) (op_move (v := .bool _) rfl) rfl ?_
                refine ol_split 51 rfl (fun hb10 => ?_) (fun hb10 => ?_)
                · have hp10 := hb10
                  (try simp only [decide_eq_true_eq, decide_eq_false_iff_not, Bool.not_eq_true', Bool.not_eq_false', ne_eq, Decidable.not_not] at hp10)
                  refine ol_skip (wn_some rfl rfl rfl hb10 rfl) rfl ?_
                  refine ol_skip (wn_some rfl rfl rfl hb10 rfl) rfl ?_
                  refine ol_skip (wn_some rfl rfl rfl hb10 rfl) rfl ?_
                  refine ol_q (wn_none rfl) (op_pick_t (v := .bool _) rfl hb10 rfl) rfl ?_
                  refine ol_q (wn_none rfl) (op_move (v := .bool _) rfl) rfl ?_
                  refine ol_q (wn_some rfl rfl rfl rfl rfl) (op_field fld_45_5 rfl) rfl ?_
                  refine ol_q (wn_some rfl rfl rfl rfl rfl) (op_ld 0 sc_41 rfl rfl (show (msgC _).toArray[36]? = some (.slice bo bits.length bc) from msgC_a36 _)) rfl ?_
                  refine ol_q (wn_some rfl rfl rfl rfl rfl) (op_len_slice Try.underlying41 rfl) rfl ?_
                  refine ol_q (wn_some rfl rfl rfl rfl rfl) (op_eq rfl rfl) rfl ?_
                  refine ol_q (wn_none rfl) (op_pick_t (v := .bool _) rfl rfl rfl) rfl ?_
                  refine ol_q (wn_none rfl) (op_assign (v := .bool _) rfl) rfl ?_
                  refine ol_nil_then ?_
                  refine cd_ret ?_
                  exact px_ret1 rfl (v := .bool _) rfl (fun _ s => (s.del 0)) ⟨congrArg Value.bool (by unfold goodW; cases hcb : bits.contains true <;> (simp only [hcb, Bool.false_eq_true, and_false, false_or, and_true]; first | (symm; exact decide_eq_true (by omega)) | (symm; exact decide_eq_false (by omega)) | exact decide_eq_decide.2 (by omega))), rfl⟩
                · have hp10 := hb10
                  (try simp only [decide_eq_true_eq, decide_eq_false_iff_not, Bool.not_eq_true', Bool.not_eq_false', ne_eq, Decidable.not_not] at hp10)
                  refine ol_q (wn_some rfl rfl rfl hb10 rfl) (op_field fld_45_0 rfl) rfl ?_
                  refine ol_q (wn_some rfl rfl rfl hb10 rfl) (op_ld 0 sc_3 rfl rfl (show (msgC _).toArray[0]? = some (.int .i64 k) from msgC_a0 _)) rfl ?_
                  refine ol_q (wn_some rfl rfl rfl hb10 rfl) (op_eq rfl rfl) rfl ?_
                  refine ol_q (wn_none rfl) (op_pick_f (v := .bool _) rfl hb10 rfl) rfl ?_
                  refine ol_q (wn_none rfl) (op_move (v := .bool _) rfl) rfl ?_
                  refine ol_split 56 rfl (fun hb11 => ?_) (fun hb11 => ?_)
                  · have hp11 := hb11
                    (try simp only [decide_eq_true_eq, decide_eq_false_iff_not, Bool.not_eq_true', Bool.not_eq_false', ne_eq, Decidable.not_not] at hp11)
                    refine ol_q (wn_some rfl rfl rfl hb11 rfl) (op_field fld_45_5 rfl) rfl ?_
                    refine ol_q (wn_some rfl rfl rfl hb11 rfl) (op_ld 0 sc_41 rfl rfl (show (msgC _).toArray[36]? = some (.slice bo bits.length bc) from msgC_a36 _)) rfl ?_
                    refine ol_q (wn_some rfl rfl rfl hb11 rfl) (op_len_slice Try.underlying41 rfl) rfl ?_
                    refine ol_q (wn_some rfl rfl rfl hb11 rfl) (op_eq rfl rfl) rfl ?_
                    refine ol_q (wn_none rfl) (op_pick_t (v := .bool _) rfl hb11 rfl) rfl ?_
                    refine ol_q (wn_none rfl) (op_assign (v := .bool _) rfl) rfl ?_
                    refine ol_nil_then ?_
                    refine cd_ret ?_
                    exact px_ret1 rfl (v := .bool _) rfl (fun _ s => (s.del 0)) ⟨congrArg Value.bool (by unfold goodW; cases hcb : bits.contains true <;> (simp only [hcb, Bool.false_eq_true, and_false, false_or, and_true]; first | (symm; exact decide_eq_true (by omega)) | (symm; exact decide_eq_false (by omega)) | exact decide_eq_decide.2 (by omega))), rfl⟩
                  · have hp11 := hb11
                    (try simp only [decide_eq_true_eq, decide_eq_false_iff_not, Bool.not_eq_true', Bool.not_eq_false', ne_eq, Decidable.not_not] at hp11)
                    refine ol_skip (wn_some rfl rfl rfl hb11 rfl) rfl ?_
                    refine ol_skip (wn_some rfl rfl rfl hb11 rfl) rfl ?_
                    refine ol_skip (wn_some rfl rfl rfl hb11 rfl) rfl ?_
                    refine ol_skip (wn_some rfl rfl rfl hb11 rfl) rfl ?_
                    refine ol_q (wn_none rfl) (op_pick_f (v := .bool _) rfl hb11 rfl) rfl ?_
                    refine ol_q (wn_none rfl) (op_assign (v := .bool _) rfl) rfl ?_
                    refine ol_nil_then ?_
                    refine cd_ret ?_
                    exact px_ret1 rfl (v := .bool _) rfl (fun _ s => (s.del 0)) ⟨congrArg Value.bool (by unfold goodW; cases hcb : bits.contains true <;> (simp only [hcb, Bool.false_eq_true, and_false, false_or, and_true]; first | (symm; exact decide_eq_true (by omega)) | (symm; exact decide_eq_false (by omega)) | exact decide_eq_decide.2 (by omega))), rfl⟩
          · have hp5 := hb5
            (try simp only [decide_eq_true_eq, decide_eq_false_iff_not, Bool.not_eq_true', Bool.not_eq_false', ne_eq, Decidable.not_not] at hp5)
            refine ol_skip (wn_some rfl rfl rfl hb5 rfl) rfl ?_
            refine ol_skip (wn_some rfl rfl rfl hb5 rfl) rfl ?_
            refine ol_skip (wn_some rfl rfl rfl hb5 rfl) rfl ?_
            refine ol_q (wn_some rfl rfl rfl hb4 rfl) (op_pick_f (v := .bool _) rfl hb5 rfl) rfl ?_
            refine ol_q (wn_none rfl) (op_pick_f (v := .bool _) rfl hb4 rfl) rfl ?_
            refine ol_nil_then ?_
            refine cd_cond_f rfl rfl ?_
            refine cd_skip ?_
            refine px_then ?_
            refine cd_seq ?_
            refine cd_sr ?_   -- 3
            refine ol_q (wn_none rfl) (op_field fld_45_0 rfl) rfl ?_
            refine ol_q (wn_none rfl) (op_ld 0 sc_3 rfl rfl (show (msgC _).toArray[0]? = some (.int .i64 k) from msgC_a0 _)) rfl ?_
            refine ol_q (wn_none rfl) (op_eq rfl rfl) rfl ?_
            refine ol_nil_then ?_
            refine cd_cond rfl (fun hb12 => ?_) (fun hb12 => ?_)
            · have hp12 := hb12
              (try simp only [decide_eq_true_eq, decide_eq_false_iff_not, Bool.not_eq_true', Bool.not_eq_false', ne_eq, Decidable.not_not] at hp12)
              refine cd_sr ?_   -- 4
              refine ol_q (wn_none rfl) (op_field fld_45_3 rfl) rfl ?_
              refine ol_q (wn_none rfl) (op_ld 0 sc_3 rfl rfl (show (msgC _).toArray[34]? = some (.int .i64 mb) from msgC_a34 _)) rfl ?_
              refine ol_q (wn_none rfl) (op_eq rfl rfl) rfl ?_
              refine ol_q (wn_none rfl) (op_move (v := .bool _) rfl) rfl ?_
              refine ol_split 37 rfl (fun hb13 => ?_) (fun hb13 => ?_)
              · have hp13 := hb13
                (try simp only [decide_eq_true_eq, decide_eq_false_iff_not, Bool.not_eq_true', Bool.not_eq_false', ne_eq, Decidable.not_not] at hp13)
                refine ol_q (wn_some rfl rfl rfl hb13 rfl) (op_field fld_45_5 rfl) rfl ?_
                refine ol_q (wn_some rfl rfl rfl hb13 rfl) (op_ld 0 sc_41 rfl rfl (show (msgC _).toArray[36]? = some (.slice bo bits.length bc) from msgC_a36 _)) rfl ?_
                refine ol_q (wn_some rfl rfl rfl hb13 rfl) (op_len_slice Try.underlying41 rfl) rfl ?_
                refine ol_q (wn_some rfl rfl rfl hb13 rfl) (op_le rfl rfl) rfl ?_
                refine ol_q (wn_none rfl) (op_pick_t (v := .bool _) rfl hb13 rfl) rfl ?_
                refine ol_q (wn_none rfl) (op_move (v := .bool _) rfl) rfl ?_
                refine ol_split 43 rfl (fun hb14 => ?_) (fun hb14 => ?_)
                · have hp14 := hb14
                  (try simp only [decide_eq_true_eq, decide_eq_false_iff_not, Bool.not_eq_true', Bool.not_eq_false', ne_eq, Decidable.not_not] at hp14)
                  refine ol_q (wn_some rfl rfl rfl hb14 rfl) (op_field fld_45_5 rfl) rfl ?_
                  refine ol_q (wn_some rfl rfl rfl hb14 rfl) (op_ld 0 sc_41 rfl rfl (show (msgC _).toArray[36]? = some (.slice bo bits.length bc) from msgC_a36 _)) rfl ?_
                  refine ol_i (wn_some rfl rfl rfl hb14 rfl) (os_call cb_42 rfl (fun w s => Contains_calls _ _ _ _  s (hr.cons _) (by first | omega | (simp; done) | (simp; omega)))) rfl ?_; rintro _ l ⟨rfl, rfl⟩
                  refine ol_q (wn_none rfl) (op_pick_t (v := .bool _) rfl hb14 rfl) rfl ?_
                  refine ol_q (wn_none rfl) (op_assign (v := .bool _) rfl) rfl ?_
                  refine ol_nil_then ?_
                  refine cd_ret ?_
                  refine px_thenR ?_
                  exact px_ret1 rfl (v := .bool _) rfl (fun _ s => (s.del 0)) ⟨congrArg Value.bool (by unfold goodW; cases hcb : bits.contains true <;> (simp only [hcb, Bool.false_eq_true, and_false, false_or, and_true]; first | (symm; exact decide_eq_true (by omega)) | (symm; exact decide_eq_false (by omega)) | exact decide_eq_decide.2 (by omega))), rfl⟩
                · have hp14 := hb14
                  (try simp only [decide_eq_true_eq, decide_eq_false_iff_not, Bool.not_eq_true', Bool.not_eq_false', ne_eq, Decidable.not_not] at hp14)
                  refine ol_skip (wn_some rfl rfl rfl hb14 rfl) rfl ?_
                  refine ol_skip (wn_some rfl rfl rfl hb14 rfl) rfl ?_
                  refine ol_skip (wn_some rfl rfl rfl hb14 rfl) rfl ?_
                  refine ol_q (wn_none rfl) (op_pick_f (v := .bool _) rfl hb14 rfl) rfl ?_
                  refine ol_q (wn_none rfl) (op_assign (v := .bool _) rfl) rfl ?_
                  refine ol_nil_then ?_
                  refine cd_ret ?_
                  refine px_thenR ?_
                  exact px_ret1 rfl (v := .bool _) rfl (fun _ s => (s.del 0)) ⟨congrArg Value.bool (by unfold goodW; cases hcb : bits.contains true <;> (simp only [hcb, Bool.false_eq_true, and_false, false_or, and_true]; first | (symm; exact decide_eq_true (by omega)) | (symm; exact decide_eq_false (by omega)) | exact decide_eq_decide.2 (by omega))), rfl⟩
              · have hp13 := hb13
                (try simp only [decide_eq_true_eq, decide_eq_false_iff_not, Bool.not_eq_true', Bool.not_eq_false', ne_eq, Decidable.not_not] at hp13)
                refine ol_skip (wn_some rfl rfl rfl hb13 rfl) rfl ?_
                refine ol_skip (wn_some rfl rfl rfl hb13 rfl) rfl ?_
                refine ol_skip (wn_some rfl rfl rfl hb13 rfl) rfl ?_
                refine ol_skip (wn_some rfl rfl rfl hb13 rfl) rfl ?_
                refine ol_q (wn_none rfl) (op_pick_f (v := .bool _) rfl hb13 rfl) rfl ?_
                refine ol_q (wn_none rfl) (op_move (v := .bool _) rfl) rfl ?_
                refine ol_skip (wn_some rfl rfl rfl rfl rfl) rfl ?_
                refine ol_skip (wn_some rfl rfl rfl rfl rfl) rfl ?_
                refine ol_skip (wn_some rfl rfl rfl rfl rfl) rfl ?_
                refine ol_q (wn_none rfl) (op_pick_f (v := .bool _) rfl rfl rfl) rfl ?_
                refine ol_q (wn_none rfl) (op_assign (v := .bool _) rfl) rfl ?_
                refine ol_nil_then ?_
                refine cd_ret ?_
                refine px_thenR ?_
                exact px_ret1 rfl (v := .bool _) rfl (fun _ s => (s.del 0)) ⟨congrArg Value.bool (by unfold goodW; cases hcb : bits.contains true <;> (simp only [hcb, Bool.false_eq_true, and_false, false_or, and_true]; first | (symm; exact decide_eq_true (by omega)) | (symm; exact decide_eq_false (by omega)) | exact decide_eq_decide.2 (by omega))), rfl⟩
            · have hp12 := hb12
              (try simp only [decide_eq_true_eq, decide_eq_false_iff_not, Bool.not_eq_true', Bool.not_eq_false', ne_eq, Decidable.not_not] at hp12)
              refine cd_skip ?_
              refine px_then ?_
              refine cd_sr ?_   -- 5
              refine ol_q (wn_none rfl) (op_field fld_45_0 rfl) rfl ?_
              refine ol_q (wn_none rfl) (op_ld 0 sc_3 rfl rfl (show (msgC _).toArray[0]? = some (.int .i64 k) from msgC_a0 _)) rfl ?_
              refine ol_q (wn_none rfl) (op_eq rfl rfl) rfl ?_
              refine ol_q (wn_none rfl) (op_move (v := .bool _) rfl) rfl ?_
              refine ol_split 51 rfl (fun hb15 => ?_) (fun hb15 => ?_)
              · have hp15 := hb15
                (try simp only [decide_eq_true_eq, decide_eq_false_iff_not, Bool.not_eq_true', Bool.not_eq_false', ne_eq, Decidable.not_not] at hp15)
                refine ol_skip (wn_some rfl rfl rfl hb15 rfl) rfl ?_
                refine ol_skip (wn_some rfl rfl rfl hb15 rfl) rfl ?_
                refine ol_skip (wn_some rfl rfl rfl hb15 rfl) rfl ?_
                refine ol_q (wn_none rfl) (op_pick_t (v := .bool _) rfl hb15 rfl) rfl ?_
                refine ol_q (wn_none rfl) (op_move (v := .bool _) rfl) rfl ?_
                refine ol_q (wn_some rfl rfl rfl rfl rfl) (op_field fld_45_5 rfl) rfl ?_
                refine ol_q (wn_some rfl rfl rfl rfl rfl) (op_ld 0 sc_41 rfl rfl (show (msgC _).toArray[36]? = some (.slice bo bits.length bc) from msgC_a36 _)) rfl ?_
                refine ol_q (wn_some rfl rfl rfl rfl rfl) (op_len_slice Try.underlying41 rfl) rfl ?_
                refine ol_q (wn_some rfl rfl rfl rfl rfl) (op_eq rfl rfl) rfl ?_
                refine ol_q (wn_none rfl) (op_pick_t (v := .bool _) rfl rfl rfl) rfl ?_
                refine ol_q (wn_none rfl) (op_assign (v := .bool _) rfl) rfl ?_
                refine ol_nil_then ?_
                refine cd_ret ?_
                exact px_ret1 rfl (v := .bool _) rfl (fun _ s => (s.del 0)) ⟨congrArg Value.bool (by unfold goodW; cases hcb : bits.contains true <;> (simp only [hcb, Bool.false_eq_true, and_false, false_or, and_true]; first | (symm; exact decide_eq_true (by omega)) | (symm; exact decide_eq_false (by omega)) | exact decide_eq_decide.2 (by omega))), rfl⟩
              · have hp15 := hb15
                (try simp only [decide_eq_true_eq, decide_eq_false_iff_not, Bool.not_eq_true', Bool.not_eq_false', ne_eq, Decidable.not_not] at hp15)
                refine ol_q (wn_some rfl rfl rfl hb15 rfl) (op_field fld_45_0 rfl) rfl ?_
                refine ol_q (wn_some rfl rfl rfl hb15 rfl) (op_ld 0 sc_3 rfl rfl (show (msgC _).toArray[0]? = some (.int .i64 k) from msgC_a0 _)) rfl ?_
                refine ol_q (wn_some rfl rfl rfl hb15 rfl) (op_eq rfl rfl) rfl ?_
                refine ol_q (wn_none rfl) (op_pick_f (v := .bool _) rfl hb15 rfl) rfl ?_
                refine ol_q (wn_none rfl) (op_move (v := .bool _) rfl) rfl ?_
                refine ol_split 56 rfl (fun hb16 => ?_) (fun hb16 => ?_)
                · have hp16 := hb16
                  (try simp only [decide_eq_true_eq, decide_eq_false_iff_not, Bool.not_eq_true', Bool.not_eq_false', ne_eq, Decidable.not_not] at hp16)
                  refine ol_q (wn_some rfl rfl rfl hb16 rfl) (op_field fld_45_5 rfl) rfl ?_
                  refine ol_q (wn_some rfl rfl rfl hb16 rfl) (op_ld 0 sc_41 rfl rfl (show (msgC _).toArray[36]? = some (.slice bo bits.length bc) from msgC_a36 _)) rfl ?_
                  refine ol_q (wn_some rfl rfl rfl hb16 rfl) (op_len_slice Try.underlying41 rfl) rfl ?_
                  refine ol_q (wn_some rfl rfl rfl hb16 rfl) (op_eq rfl rfl) rfl ?_
                  refine ol_q (wn_none rfl) (op_pick_t (v := .bool _) rfl hb16 rfl) rfl ?_
                  refine ol_q (wn_none rfl) (op_assign (v := .bool _) rfl) rfl ?_
                  refine ol_nil_then ?_
                  refine cd_ret ?_
                  exact px_ret1 rfl (v := .bool _) rfl (fun _ s => (s.del 0)) ⟨congrArg Value.bool (by unfold goodW; cases hcb : bits.contains true <;> (simp only [hcb, Bool.false_eq_true, and_false, false_or, and_true]; first | (symm; exact decide_eq_true (by omega)) | (symm; exact decide_eq_false (by omega)) | exact decide_eq_decide.2 (by omega))), rfl⟩
                · have hp16 := hb16
                  (try simp only [decide_eq_true_eq, decide_eq_false_iff_not, Bool.not_eq_true', Bool.not_eq_false', ne_eq, Decidable.not_not] at hp16)
                  refine ol_skip (wn_some rfl rfl rfl hb16 rfl) rfl ?_
                  refine ol_skip (wn_some rfl rfl rfl hb16 rfl) rfl ?_
                  refine ol_skip (wn_some rfl rfl rfl hb16 rfl) rfl ?_
                  refine ol_skip (wn_some rfl rfl rfl hb16 rfl) rfl ?_
                  refine ol_q (wn_none rfl) (op_pick_f (v := .bool _) rfl hb16 rfl) rfl ?_
                  refine ol_q (wn_none rfl) (op_assign (v := .bool _) rfl) rfl ?_
                  refine ol_nil_then ?_
                  refine cd_ret ?_
                  exact px_ret1 rfl (v := .bool _) rfl (fun _ s => (s.del 0)) ⟨congrArg Value.bool (by unfold goodW; cases hcb : bits.contains true <;> (simp only [hcb, Bool.false_eq_true, and_false, false_or, and_true]; first | (symm; exact decide_eq_true (by omega)) | (symm; exact decide_eq_false (by omega)) | exact decide_eq_decide.2 (by omega))), rfl⟩

set_option maxRecDepth 100000 in
set_option maxHeartbeats 1000000 in
theorem WRGood_calls {w0 w : World} {l : List HProp} (k sl : Int) (tg : Root) (mb : Int) (bd : Nat) (bo : Option Addr) (bc : Nat) (bits : List Bool) (tag : Tag) (hs : Sat w0 w (l)) (hr : Rds w0 l encBool bo bits) (hxl : bits.length ≤ 1000) (hbd : bd < 18446744073709551616) :
    Calls Try.prog 30 #[.agg (msgC ⟨k, sl, tg, mb, bd, ⟨bo, bits.length, bc⟩, tag⟩).toArray] w (Ret w0 fun v l' => v = .bool (goodW k sl mb bd bits) ∧ l' = l) := by
  refine calls_enter Try.func30 rfl rfl rfl hs ?_
  refine cd_sr ?_   -- 0
  refine ol_i (wn_none rfl) (os_boxa rfl) rfl ?_; rintro _ _ ⟨bx1, rfl, rfl⟩
  refine ol_q (wn_none rfl) (op_assign (v := .bool _) rfl) rfl ?_
  refine ol_nil_then ?_
  refine cd_seq ?_
  refine cd_sr ?_   -- 1
  refine ol_q (wn_none rfl) (op_field fld_45_0 rfl) rfl ?_
  refine ol_q (wn_none rfl) (op_ld 0 sc_3 rfl rfl (show (msgC _).toArray[0]? = some (.int .i64 k) from msgC_a0 _)) rfl ?_
  refine ol_q (wn_none rfl) (op_lt rfl rfl) rfl ?_
  refine ol_q (wn_none rfl) (op_move (v := .bool _) rfl) rfl ?_
  refine ol_split 9 rfl (fun hb1 => ?_) (fun hb1 => ?_)
  · have hp1 := hb1
    (try simp only [decide_eq_true_eq, decide_eq_false_iff_not, Bool.not_eq_true', Bool.not_eq_false', ne_eq, Decidable.not_not] at hp1)
    refine ol_skip (wn_some rfl rfl rfl hb1 rfl) rfl ?_
    refine ol_skip (wn_some rfl rfl rfl hb1 rfl) rfl ?_
    refine ol_skip (wn_some rfl rfl rfl hb1 rfl) rfl ?_
    refine ol_q (wn_none rfl) (op_pick_t (v := .bool _) rfl hb1 rfl) rfl ?_
    refine ol_q (wn_none rfl) (op_move (v := .bool _) rfl) rfl ?_
    refine ol_skip (wn_some rfl rfl rfl rfl rfl) rfl ?_
    refine ol_skip (wn_some rfl rfl rfl rfl rfl) rfl ?_
    refine ol_skip (wn_some rfl rfl rfl rfl rfl) rfl ?_
    refine ol_q (wn_none rfl) (op_pick_t (v := .bool _) rfl rfl rfl) rfl ?_
    refine ol_q (wn_none rfl) (op_move (v := .bool _) rfl) rfl ?_
    refine ol_skip (wn_some rfl rfl rfl rfl rfl) rfl ?_
    refine ol_skip (wn_some rfl rfl rfl rfl rfl) rfl ?_
    refine ol_skip (wn_some rfl rfl rfl rfl rfl) rfl ?_
    refine ol_q (wn_none rfl) (op_pick_t (v := .bool _) rfl rfl rfl) rfl ?_
    refine ol_q (wn_none rfl) (op_move (v := .bool _) rfl) rfl ?_
    refine ol_skip (wn_some rfl rfl rfl rfl rfl) rfl ?_
    refine ol_skip (wn_some rfl rfl rfl rfl rfl) rfl ?_
    refine ol_skip (wn_some rfl rfl rfl rfl rfl) rfl ?_
    refine ol_q (wn_none rfl) (op_pick_t (v := .bool _) rfl rfl rfl) rfl ?_
    refine ol_q (wn_none rfl) (op_move (v := .bool _) rfl) rfl ?_
    refine ol_skip (wn_some rfl rfl rfl rfl rfl) rfl ?_
    refine ol_skip (wn_some rfl rfl rfl rfl rfl) rfl ?_
    refine ol_skip (wn_some rfl rfl rfl rfl rfl) rfl ?_
    refine ol_q (wn_none rfl) (op_pick_t (v := .bool _) rfl rfl rfl) rfl ?_
    refine ol_nil_then ?_
    refine cd_cond_t rfl rfl ?_
    refine cd_sr ?_   -- 2
    refine ol_q (wn_none rfl) (op_assign (v := .bool _) rfl) rfl ?_
    refine ol_nil_then ?_
    refine cd_ret ?_
    refine px_thenR ?_
    exact px_ret1 rfl (v := .bool _) rfl (fun _ s => (s.del 0)) ⟨congrArg Value.bool (by unfold goodW; cases hcb : bits.contains true <;> (simp only [hcb, Bool.false_eq_true, and_false, false_or, and_true]; first | (symm; exact decide_eq_true (by omega)) | (symm; exact decide_eq_false (by omega)) | exact decide_eq_decide.2 (by omega))), rfl⟩
  · have hp1 := hb1
    (try simp only [decide_eq_true_eq, decide_eq_false_iff_not, Bool.not_eq_true', Bool.not_eq_false', ne_eq, Decidable.not_not] at hp1)
    refine ol_q (wn_some rfl rfl rfl hb1 rfl) (op_field fld_45_0 rfl) rfl ?_
    refine ol_q (wn_some rfl rfl rfl hb1 rfl) (op_ld 0 sc_3 rfl rfl (show (msgC _).toArray[0]? = some (.int .i64 k) from msgC_a0 _)) rfl ?_
    refine ol_q (wn_some rfl rfl rfl hb1 rfl) (op_gt rfl rfl) rfl ?_
    refine ol_q (wn_none rfl) (op_pick_f (v := .bool _) rfl hb1 rfl) rfl ?_
    refine ol_q (wn_none rfl) (op_move (v := .bool _) rfl) rfl ?_
    refine ol_split 14 rfl (fun hb2 => ?_) (fun hb2 => ?_)
    · have hp2 := hb2
      (try simp only [decide_eq_true_eq, decide_eq_false_iff_not, Bool.not_eq_true', Bool.not_eq_false', ne_eq, Decidable.not_not] at hp2)
      refine ol_skip (wn_some rfl rfl rfl hb2 rfl) rfl ?_
      refine ol_skip (wn_some rfl rfl rfl hb2 rfl) rfl ?_
      refine ol_skip (wn_some rfl rfl rfl hb2 rfl) rfl ?_
      refine ol_q (wn_none rfl) (op_pick_t (v := .bool _) rfl hb2 rfl) rfl ?_
      refine ol_q (wn_none rfl) (op_move (v := .bool _) rfl) rfl ?_
      refine ol_skip (wn_some rfl rfl rfl rfl rfl) rfl ?_
      refine ol_skip (wn_some rfl rfl rfl rfl rfl) rfl ?_
      refine ol_skip (wn_some rfl rfl rfl rfl rfl) rfl ?_
      refine ol_q (wn_none rfl) (op_pick_t (v := .bool _) rfl rfl rfl) rfl ?_
      refine ol_q (wn_none rfl) (op_move (v := .bool _) rfl) rfl ?_
      refine ol_skip (wn_some rfl rfl rfl rfl rfl) rfl ?_
      refine ol_skip (wn_some rfl rfl rfl rfl rfl) rfl ?_
      refine ol_skip (wn_some rfl rfl rfl rfl rfl) rfl ?_
      refine ol_q (wn_none rfl) (op_pick_t (v := .bool _) rfl rfl rfl) rfl ?_
      refine ol_q (wn_none rfl) (op_move (v := .bool _) rfl) rfl ?_
      refine ol_skip (wn_some rfl rfl rfl rfl rfl) rfl ?_
      refine ol_skip (wn_some rfl rfl rfl rfl rfl) rfl ?_
      refine ol_skip (wn_some rfl rfl rfl rfl rfl) rfl ?_
      refine ol_q (wn_none rfl) (op_pick_t (v := .bool _) rfl rfl rfl) rfl ?_
      refine ol_nil_then ?_
      refine cd_cond_t rfl rfl ?_
      refine cd_sr ?_   -- 2
      refine ol_q (wn_none rfl) (op_assign (v := .bool _) rfl) rfl ?_
      refine ol_nil_then ?_
      refine cd_ret ?_
      refine px_thenR ?_
      exact px_ret1 rfl (v := .bool _) rfl (fun _ s => (s.del 0)) ⟨congrArg Value.bool (by unfold goodW; cases hcb : bits.contains true <;> (simp only [hcb, Bool.false_eq_true, and_false, false_or, and_true]; first | (symm; exact decide_eq_true (by omega)) | (symm; exact decide_eq_false (by omega)) | exact decide_eq_decide.2 (by omega))), rfl⟩
    · have hp2 := hb2
      (try simp only [decide_eq_true_eq, decide_eq_false_iff_not, Bool.not_eq_true', Bool.not_eq_false', ne_eq, Decidable.not_not] at hp2)
      refine ol_q (wn_some rfl rfl rfl hb2 rfl) (op_field fld_45_1 rfl) rfl ?_
      refine ol_q (wn_some rfl rfl rfl hb2 rfl) (op_ld 0 sc_3 rfl rfl (show (msgC _).toArray[1]? = some (.int .i64 sl) from msgC_a1 _)) rfl ?_
      refine ol_q (wn_some rfl rfl rfl hb2 rfl) (op_lt rfl rfl) rfl ?_
      refine ol_q (wn_none rfl) (op_pick_f (v := .bool _) rfl hb2 rfl) rfl ?_
      refine ol_q (wn_none rfl) (op_move (v := .bool _) rfl) rfl ?_
      refine ol_split 19 rfl (fun hb3 => ?_) (fun hb3 => ?_)
      · have hp3 := hb3
        (try simp only [decide_eq_true_eq, decide_eq_false_iff_not, Bool.not_eq_true', Bool.not_eq_false', ne_eq, Decidable.not_not] at hp3)
        refine ol_skip (wn_some rfl rfl rfl hb3 rfl) rfl ?_
        refine ol_skip (wn_some rfl rfl rfl hb3 rfl) rfl ?_
        refine ol_skip (wn_some rfl rfl rfl hb3 rfl) rfl ?_
        refine ol_q (wn_none rfl) (op_pick_t (v := .bool _) rfl hb3 rfl) rfl ?_
        refine ol_q (wn_none rfl) (op_move (v := .bool _) rfl) rfl ?_
        refine ol_skip (wn_some rfl rfl rfl rfl rfl) rfl ?_
        refine ol_skip (wn_some rfl rfl rfl rfl rfl) rfl ?_
        refine ol_skip (wn_some rfl rfl rfl rfl rfl) rfl ?_
        refine ol_q (wn_none rfl) (op_pick_t (v := .bool _) rfl rfl rfl) rfl ?_
        refine ol_q (wn_none rfl) (op_move (v := .bool _) rfl) rfl ?_
        refine ol_skip (wn_some rfl rfl rfl rfl rfl) rfl ?_
        refine ol_skip (wn_some rfl rfl rfl rfl rfl) rfl ?_
        refine ol_skip (wn_some rfl rfl rfl rfl rfl) rfl ?_
        refine ol_q (wn_none rfl) (op_pick_t (v := .bool _) rfl rfl rfl) rfl ?_
        refine ol_nil_then ?_
        refine cd_cond_t rfl rfl ?_
        refine cd_sr ?_   -- 2
        refine ol_q (wn_none rfl) (op_assign (v := .bool _) rfl) rfl ?_
        refine ol_nil_then ?_
        refine cd_ret ?_
        refine px_thenR ?_
        exact px_ret1 rfl (v := .bool _) rfl (fun _ s => (s.del 0)) ⟨congrArg Value.bool (by unfold goodW; cases hcb : bits.contains true <;> (simp only [hcb, Bool.false_eq_true, and_false, false_or, and_true]; first | (symm; exact decide_eq_true (by omega)) | (symm; exact decide_eq_false (by omega)) | exact decide_eq_decide.2 (by omega))), rfl⟩
      · have hp3 := hb3
        (try simp only [decide_eq_true_eq, decide_eq_false_iff_not, Bool.not_eq_true', Bool.not_eq_false', ne_eq, Decidable.not_not] at hp3)
        refine ol_q (wn_some rfl rfl rfl hb3 rfl) (op_field fld_45_1 rfl) rfl ?_
        refine ol_q (wn_some rfl rfl rfl hb3 rfl) (op_ld 0 sc_3 rfl rfl (show (msgC _).toArray[1]? = some (.int .i64 sl) from msgC_a1 _)) rfl ?_
        refine ol_q (wn_some rfl rfl rfl hb3 rfl) (op_gt rfl rfl) rfl ?_
        refine ol_q (wn_none rfl) (op_pick_f (v := .bool _) rfl hb3 rfl) rfl ?_
        refine ol_q (wn_none rfl) (op_move (v := .bool _) rfl) rfl ?_
        refine ol_split 24 rfl (fun hb4 => ?_) (fun hb4 => ?_)
        · have hp4 := hb4
          (try simp only [decide_eq_true_eq, decide_eq_false_iff_not, Bool.not_eq_true', Bool.not_eq_false', ne_eq, Decidable.not_not] at hp4)
          refine ol_skip (wn_some rfl rfl rfl hb4 rfl) rfl ?_
          refine ol_skip (wn_some rfl rfl rfl hb4 rfl) rfl ?_
          refine ol_skip (wn_some rfl rfl rfl hb4 rfl) rfl ?_
          refine ol_q (wn_none rfl) (op_pick_t (v := .bool _) rfl hb4 rfl) rfl ?_
          refine ol_q (wn_none rfl) (op_move (v := .bool _) rfl) rfl ?_
          refine ol_skip (wn_some rfl rfl rfl rfl rfl) rfl ?_
          refine ol_skip (wn_some rfl rfl rfl rfl rfl) rfl ?_
          refine ol_skip (wn_some rfl rfl rfl rfl rfl) rfl ?_
          refine ol_q (wn_none rfl) (op_pick_t (v := .bool _) rfl rfl rfl) rfl ?_
          refine ol_nil_then ?_
          refine cd_cond_t rfl rfl ?_
          refine cd_sr ?_   -- 2
          refine ol_q (wn_none rfl) (op_assign (v := .bool _) rfl) rfl ?_
          refine ol_nil_then ?_
          refine cd_ret ?_
          refine px_thenR ?_
          exact px_ret1 rfl (v := .bool _) rfl (fun _ s => (s.del 0)) ⟨congrArg Value.bool (by unfold goodW; cases hcb : bits.contains true <;> (simp only [hcb, Bool.false_eq_true, and_false, false_or, and_true]; first | (symm; exact decide_eq_true (by omega)) | (symm; exact decide_eq_false (by omega)) | exact decide_eq_decide.2 (by omega))), rfl⟩
        · have hp4 := hb4
          (try simp only [decide_eq_true_eq, decide_eq_false_iff_not, Bool.not_eq_true', Bool.not_eq_false', ne_eq, Decidable.not_not] at hp4)
          refine ol_q (wn_some rfl rfl rfl hb4 rfl) (op_field fld_45_3 rfl) rfl ?_
          refine ol_q (wn_some rfl rfl rfl hb4 rfl) (op_ld 0 sc_3 rfl rfl (show (msgC _).toArray[34]? = some (.int .i64 mb) from msgC_a34 _)) rfl ?_
          refine ol_q (wn_some rfl rfl rfl hb4 rfl) (op_lt rfl rfl) rfl ?_
          refine ol_q (wn_none rfl) (op_pick_f (v := .bool _) rfl hb4 rfl) rfl ?_
          refine ol_q (wn_none rfl) (op_move (v := .bool _) rfl) rfl ?_
          refine ol_split 29 rfl (fun hb5 => ?_) (fun hb5 => ?_)
          · have hp5 := hb5
            (try simp only [decide_eq_true_eq, decide_eq_false_iff_not, Bool.not_eq_true', Bool.not_eq_false', ne_eq, Decidable.not_not] at hp5)
            refine ol_skip (wn_some rfl rfl rfl hb5 rfl) rfl ?_
            refine ol_skip (wn_some rfl rfl rfl hb5 rfl) rfl ?_
            refine ol_skip (wn_some rfl rfl rfl hb5 rfl) rfl ?_
            refine ol_q (wn_none rfl) (op_pick_t (v := .bool _) rfl hb5 rfl) rfl ?_
            refine ol_nil_then ?_
            refine cd_cond_t rfl rfl ?_
            refine cd_sr ?_   -- 2
            refine ol_q (wn_none rfl) (op_assign (v := .bool _) rfl) rfl ?_
            refine ol_nil_then ?_
            refine cd_ret ?_
            refine px_thenR ?_
            exact px_ret1 rfl (v := .bool _) rfl (fun _ s => (s.del 0)) ⟨congrArg Value.bool (by unfold goodW; cases hcb : bits.contains true <;> (simp only [hcb, Bool.false_eq_true, and_false, false_or, and_true]; first | (symm; exact decide_eq_true (by omega)) | (symm; exact decide_eq_false (by omega)) | exact decide_eq_decide.2 (by omega))), rfl⟩
          · have hp5 := hb5
            (try simp only [decide_eq_true_eq, decide_eq_false_iff_not, Bool.not_eq_true', Bool.not_eq_false', ne_eq, Decidable.not_not] at hp5)
            refine ol_q (wn_some rfl rfl rfl hb5 rfl) (op_field fld_45_3 rfl) rfl ?_
            refine ol_q (wn_some rfl rfl rfl hb5 rfl) (op_ld 0 sc_3 rfl rfl (show (msgC _).toArray[34]? = some (.int .i64 mb) from msgC_a34 _)) rfl ?_
            refine ol_q (wn_some rfl rfl rfl hb5 rfl) (op_gt rfl rfl) rfl ?_
            refine ol_q (wn_none rfl) (op_pick_f (v := .bool _) rfl hb5 rfl) rfl ?_
            refine ol_nil_then ?_
            refine cd_cond rfl (fun hb6 => ?_) (fun hb6 => ?_)
            · have hp6 := hb6
              (try simp only [decide_eq_true_eq, decide_eq_false_iff_not, Bool.not_eq_true', Bool.not_eq_false', ne_eq, Decidable.not_not] at hp6)
              refine cd_sr ?_   -- 2
              refine ol_q (wn_none rfl) (op_assign (v := .bool _) rfl) rfl ?_
              refine ol_nil_then ?_
              refine cd_ret ?_
              refine px_thenR ?_
              exact px_ret1 rfl (v := .bool _) rfl (fun _ s => (s.del 0)) ⟨congrArg Value.bool (by unfold goodW; cases hcb : bits.contains true <;> (simp only [hcb, Bool.false_eq_true, and_false, false_or, and_true]; first | (symm; exact decide_eq_true (by omega)) | (symm; exact decide_eq_false (by omega)) | exact decide_eq_decide.2 (by omega))), rfl⟩
            · have hp6 := hb6
              (try simp only [decide_eq_true_eq, decide_eq_false_iff_not, Bool.not_eq_true', Bool.not_eq_false', ne_eq, Decidable.not_not] at hp6)
              refine cd_skip ?_
              refine px_then ?_
              refine cd_sr ?_   -- 3
              refine ol_q (wn_none rfl) (op_assign (v := .int _ _) rfl) rfl ?_
              refine ol_nil_then ?_
              refine cd_seq ?_
              refine cd_sr ?_   -- 4
              refine ol_q (wn_none rfl) (op_field fld_45_5 rfl) rfl ?_
              refine ol_q (wn_none rfl) (op_ld 0 sc_41 rfl rfl (show (msgC _).toArray[36]? = some (.slice bo bits.length bc) from msgC_a36 _)) rfl ?_
              refine ol_q (wn_none rfl) (op_len_slice Try.underlying41 rfl) rfl ?_
              refine ol_q (wn_none rfl) (op_move (v := .int _ _) rfl) rfl ?_
              refine ol_nil_then ?_
              refine cd_block ?_
              refine cd_loop2 (α := Nat) [(3, 3), (5, 5), (37, 44)] (fun x => [(3, .int .i64 (((bits.take x).count true : Nat) : Int)), (37, .int .i64 (x : Int))]) (fun _ => _) (fun x => x ≤ bits.length) (fun x => bits.length - x) 0 (Nat.zero_le _) ⟨rfl, rfl, trivial⟩ (fun _ s => s) ?_
              rintro i hi f; (try dsimp only at hi ⊢)
              have hcl : (bits.take i).count true ≤ bits.length := Nat.le_trans List.count_le_length (by rw [List.length_take]; omega)
              refine cd_sr ?_   -- 5
              refine ol_q (wn_none rfl) (op_lt rfl rfl) rfl ?_
              refine ol_nil_then ?_
              refine cd_seq ?_
              refine cd_cond rfl (fun hb7 => ?_) (fun hb7 => ?_)
              · have hp7 := hb7
                (try simp only [decide_eq_true_eq, decide_eq_false_iff_not, Bool.not_eq_true', Bool.not_eq_false', ne_eq, Decidable.not_not] at hp7)
                have hi1 : i < bits.length := by omega
                refine cd_skip ?_
                refine px_then ?_
                refine cd_seq ?_
                refine cd_block ?_
                refine cd_sr ?_   -- 6
                refine ol_q (wn_none rfl) (op_index _ sB_41 rfl rfl rfl (hr.cons _) rfl (by omega)) rfl ?_
                refine ol_q (wn_none rfl) (op_ldw sc_4 (hr.cons _) rfl (by omega) rfl) rfl ?_
                refine ol_q (wn_none rfl) (op_assign (v := .bool _) rfl) rfl ?_
                refine ol_nil_then ?_
                refine cd_sr ?_   -- 7
                refine ol_q (wn_none rfl) (op_move (v := .bool _) rfl) rfl ?_
                refine ol_nil_then ?_
                refine cd_cond rfl (fun hb8 => ?_) (fun hb8 => ?_)
                · have hp8 := hb8
                  (try simp only [decide_eq_true_eq, decide_eq_false_iff_not, Bool.not_eq_true', Bool.not_eq_false', ne_eq, Decidable.not_not] at hp8)
                  refine cd_region ?_   -- 8
                  refine ol_q (wn_none rfl) (op_move (v := .int _ _) rfl) rfl ?_
                  refine ol_q (wn_none rfl) (op_add rfl rfl (by omega) (by omega)) rfl ?_
                  refine ol_q (wn_none rfl) (op_assign (v := .int _ _) rfl) rfl ?_
                  refine ol_nil ?_
                  refine px_blockN ?_
                  refine px_then ?_
                  refine cd_region ?_   -- 9
                  refine ol_q (wn_none rfl) (op_add rfl rfl (by omega) (by omega)) rfl ?_
                  refine ol_q (wn_none rfl) (op_move (v := .int _ _) rfl) rfl ?_
                  refine ol_nil ?_
                  have e1 := cnt_succ bits i hi1
                  rw [if_pos hb8] at e1
                  refine px_loop2 (i + 1) (by omega) (by (try dsimp only); omega) ⟨congrArg (Value.int .i64) (by omega), congrArg (Value.int .i64) (by simp), trivial⟩ ?_ (fun _ s => s)
                  repeat (first | exact kept_over | refine kept_upd rfl ?_ | refine kept_overS (by decide) ?_)
                · have hp8 := hb8
                  (try simp only [decide_eq_true_eq, decide_eq_false_iff_not, Bool.not_eq_true', Bool.not_eq_false', ne_eq, Decidable.not_not] at hp8)
                  refine cd_skip ?_
                  refine px_blockN ?_
                  refine px_then ?_
                  refine cd_region ?_   -- 9
                  refine ol_q (wn_none rfl) (op_add rfl rfl (by omega) (by omega)) rfl ?_
                  refine ol_q (wn_none rfl) (op_move (v := .int _ _) rfl) rfl ?_
                  refine ol_nil ?_
                  have e1 := cnt_succ bits i hi1
                  rw [if_neg (by rw [hb8]; simp)] at e1
                  refine px_loop2 (i + 1) (by omega) (by (try dsimp only); omega) ⟨congrArg (Value.int .i64) (by omega), congrArg (Value.int .i64) (by simp), trivial⟩ ?_ (fun _ s => s)
                  repeat (first | exact kept_over | refine kept_upd rfl ?_ | refine kept_overS (by decide) ?_)
              · have hp7 := hb7
                (try simp only [decide_eq_true_eq, decide_eq_false_iff_not, Bool.not_eq_true', Bool.not_eq_false', ne_eq, Decidable.not_not] at hp7)
                obtain rfl : i = bits.length := by omega
                rw [List.take_length]
                refine cd_exit ?_
                refine px_thenE ?_
                refine px_thenE ?_
                refine px_blockE ?_
                refine px_then ?_
                refine cd_seq ?_
                refine cd_sr ?_   -- 10
                refine ol_q (wn_none rfl) (op_field fld_45_0 rfl) rfl ?_
                refine ol_q (wn_none rfl) (op_ld 0 sc_3 rfl rfl (show (msgC _).toArray[0]? = some (.int .i64 k) from msgC_a0 _)) rfl ?_
                refine ol_q (wn_none rfl) (op_eq rfl rfl) rfl ?_
                refine ol_nil_then ?_
                refine cd_cond rfl (fun hb9 => ?_) (fun hb9 => ?_)
                · have hp9 := hb9
                  (try simp only [decide_eq_true_eq, decide_eq_false_iff_not, Bool.not_eq_true', Bool.not_eq_false', ne_eq, Decidable.not_not] at hp9)
                  refine cd_sr ?_   -- 11
                  refine ol_q (wn_none rfl) (op_field fld_45_3 rfl) rfl ?_
                  refine ol_q (wn_none rfl) (op_ld 0 sc_3 rfl rfl (show (msgC _).toArray[34]? = some (.int .i64 mb) from msgC_a34 _)) rfl ?_
                  refine ol_q (wn_none rfl) (op_eq rfl rfl) rfl ?_
                  refine ol_q (wn_none rfl) (op_move (v := .bool _) rfl) rfl ?_
                  refine ol_split 51 rfl (fun hb10 => ?_) (fun hb10 => ?_)
                  · have hp10 := hb10
                    (try simp only [decide_eq_true_eq, decide_eq_false_iff_not, Bool.not_eq_true', Bool.not_eq_false', ne_eq, Decidable.not_not] at hp10)
                    refine ol_q (wn_some rfl rfl rfl hb10 rfl) (op_field fld_45_4 rfl) rfl ?_
                    refine ol_q (wn_some rfl rfl rfl hb10 rfl) (op_ld 0 sc_32 rfl rfl (show (msgC _).toArray[35]? = some (.int .u64 (bd : Int)) from msgC_a35 _)) rfl ?_
                    refine ol_q (wn_some rfl rfl rfl hb10 rfl) (op_eqn (C := 0) rfl rfl) rfl ?_
                    refine ol_q (wn_none rfl) (op_pick_t (v := .bool _) rfl hb10 rfl) rfl ?_
                    refine ol_q (wn_none rfl) (op_move (v := .bool _) rfl) rfl ?_
                    refine ol_split 56 rfl (fun hb11 => ?_) (fun hb11 => ?_)
                    · have hp11 := hb11
                      (try simp only [decide_eq_true_eq, decide_eq_false_iff_not, Bool.not_eq_true', Bool.not_eq_false', ne_eq, Decidable.not_not] at hp11)
                      refine ol_q (wn_some rfl rfl rfl hb11 rfl) (op_field fld_45_5 rfl) rfl ?_
                      refine ol_q (wn_some rfl rfl rfl hb11 rfl) (op_ld 0 sc_41 rfl rfl (show (msgC _).toArray[36]? = some (.slice bo bits.length bc) from msgC_a36 _)) rfl ?_
                      refine ol_q (wn_some rfl rfl rfl hb11 rfl) (op_len_slice Try.underlying41 rfl) rfl ?_
                      refine ol_q (wn_some rfl rfl rfl hb11 rfl) (op_le rfl rfl) rfl ?_
                      refine ol_q (wn_none rfl) (op_pick_t (v := .bool _) rfl hb11 rfl) rfl ?_
                      refine ol_q (wn_none rfl) (op_move (v := .bool _) rfl) rfl ?_
                      refine ol_split 62 rfl (fun hb12 => ?_) (fun hb12 => ?_)
                      · have hp12 := hb12
                        (try simp only [decide_eq_true_eq, decide_eq_false_iff_not, Bool.not_eq_true', Bool.not_eq_false', ne_eq, Decidable.not_not] at hp12)
                        refine ol_q (wn_some rfl rfl rfl hb12 rfl) (op_move (v := .int _ _) rfl) rfl ?_
                        refine ol_q (wn_some rfl rfl rfl hb12 rfl) (op_gt rfl rfl) rfl ?_
                        refine ol_q (wn_none rfl) (op_pick_t (v := .bool _) rfl hb12 rfl) rfl ?_
                        refine ol_q (wn_none rfl) (op_assign (v := .bool _) rfl) rfl ?_
                        refine ol_nil_then ?_
                        refine cd_ret ?_
                        refine px_thenR ?_
                        exact px_ret1 rfl (v := .bool _) rfl (fun _ s => (s.del 0)) ⟨congrArg Value.bool (by
                          unfold goodW
                          cases hcb : bits.contains true with
                          | true => (have hc9 : 0 < bits.count true := (cnt_pos bits).2 hcb; simp only [hcb, Bool.false_eq_true, and_false, false_or, and_true]; first | (symm; exact decide_eq_true (by omega)) | (symm; exact decide_eq_false (by omega)) | exact decide_eq_decide.2 (by omega))
                          | false => (have hc9 : ¬ 0 < bits.count true := (fun h => by rw [(cnt_pos bits).1 h] at hcb; cases hcb); simp only [hcb, Bool.false_eq_true, and_false, false_or, and_true]; first | (symm; exact decide_eq_true (by omega)) | (symm; exact decide_eq_false (by omega)) | exact decide_eq_decide.2 (by omega))), rfl⟩
                      · have hp12 := hb12
                        (try simp only [decide_eq_true_eq, decide_eq_false_iff_not, Bool.not_eq_true', Bool.not_eq_false', ne_eq, Decidable.not_not] at hp12)
                        refine ol_skip (wn_some rfl rfl rfl hb12 rfl) rfl ?_
                        refine ol_skip (wn_some rfl rfl rfl hb12 rfl) rfl ?_
                        refine ol_q (wn_none rfl) (op_pick_f (v := .bool _) rfl hb12 rfl) rfl ?_
                        refine ol_q (wn_none rfl) (op_assign (v := .bool _) rfl) rfl ?_
                        refine ol_nil_then ?_
                        refine cd_ret ?_
                        refine px_thenR ?_
                        exact px_ret1 rfl (v := .bool _) rfl (fun _ s => (s.del 0)) ⟨congrArg Value.bool (by
                          unfold goodW
                          cases hcb : bits.contains true with
                          | true => (have hc9 : 0 < bits.count true := (cnt_pos bits).2 hcb; simp only [hcb, Bool.false_eq_true, and_false, false_or, and_true]; first | (symm; exact decide_eq_true (by omega)) | (symm; exact decide_eq_false (by omega)) | exact decide_eq_decide.2 (by omega))
                          | false => (have hc9 : ¬ 0 < bits.count true := (fun h => by rw [(cnt_pos bits).1 h] at hcb; cases hcb); simp only [hcb, Bool.false_eq_true, and_false, false_or, and_true]; first | (symm; exact decide_eq_true (by omega)) | (symm; exact decide_eq_false (by omega)) | exact decide_eq_decide.2 (by omega))), rfl⟩
                    · have hp11 := hb11
                      (try simp only [decide_eq_true_eq, decide_eq_false_iff_not, Bool.not_eq_true', Bool.not_eq_false', ne_eq, Decidable.not_not] at hp11)
                      refine ol_skip (wn_some rfl rfl rfl hb11 rfl) rfl ?_
                      refine ol_skip (wn_some rfl rfl rfl hb11 rfl) rfl ?_
                      refine ol_skip (wn_some rfl rfl rfl hb11 rfl) rfl ?_
                      refine ol_skip (wn_some rfl rfl rfl hb11 rfl) rfl ?_
                      refine ol_q (wn_none rfl) (op_pick_f (v := .bool _) rfl hb11 rfl) rfl ?_
                      refine ol_q (wn_none rfl) (op_move (v := .bool _) rfl) rfl ?_
                      refine ol_skip (wn_some rfl rfl rfl rfl rfl) rfl ?_
                      refine ol_skip (wn_some rfl rfl rfl rfl rfl) rfl ?_
                      refine ol_q (wn_none rfl) (op_pick_f (v := .bool _) rfl rfl rfl) rfl ?_
                      refine ol_q (wn_none rfl) (op_assign (v := .bool _) rfl) rfl ?_
                      refine ol_nil_then ?_
                      refine cd_ret ?_
                      refine px_thenR ?_
                      exact px_ret1 rfl (v := .bool _) rfl (fun _ s => (s.del 0)) ⟨congrArg Value.bool (by
                        unfold goodW
                        cases hcb : bits.contains true with
                        | true => (have hc9 : 0 < bits.count true := (cnt_pos bits).2 hcb; simp only [hcb, Bool.false_eq_true, and_false, false_or, and_true]; first | (symm; exact decide_eq_true (by omega)) | (symm; exact decide_eq_false (by omega)) | exact decide_eq_decide.2 (by omega))
                        | false => (have hc9 : ¬ 0 < bits.count true := (fun h => by rw [(cnt_pos bits).1 h] at hcb; cases hcb); simp only [hcb, Bool.false_eq_true, and_false, false_or, and_true]; first | (symm; exact decide_eq_true (by omega)) | (symm; exact decide_eq_false (by omega)) | exact decide_eq_decide.2 (by omega))), rfl⟩
                  · have hp10 := hb10
                    (try simp only [decide_eq_true_eq, decide_eq_false_iff_not, Bool.not_eq_true', Bool.not_eq_false', ne_eq, Decidable.not_not] at hp10)
                    refine ol_skip (wn_some rfl rfl rfl hb10 rfl) rfl ?_
                    refine ol_skip (wn_some rfl rfl rfl hb10 rfl) rfl ?_
                    refine ol_skip (wn_some rfl rfl rfl hb10 rfl) rfl ?_
                    refine ol_q (wn_none rfl) (op_pick_f (v := .bool _) rfl hb10 rfl) rfl ?_
                    refine ol_q (wn_none rfl) (op_move (v := .bool _) rfl) rfl ?_
                    refine ol_skip (wn_some rfl rfl rfl rfl rfl) rfl ?_
                    refine ol_skip (wn_some rfl rfl rfl rfl rfl) rfl ?_
                    refine ol_skip (wn_some rfl rfl rfl rfl rfl) rfl ?_
                    refine ol_skip (wn_some rfl rfl rfl rfl rfl) rfl ?_
                    refine ol_q (wn_none rfl) (op_pick_f (v := .bool _) rfl rfl rfl) rfl ?_
                    refine ol_q (wn_none rfl) (op_move (v := .bool _) rfl) rfl ?_
                    refine ol_skip (wn_some rfl rfl rfl rfl rfl) rfl ?_
                    refine ol_skip (wn_some rfl rfl rfl rfl rfl) rfl ?_
                    refine ol_q (wn_none rfl) (op_pick_f (v := .bool _) rfl rfl rfl) rfl ?_
                    refine ol_q (wn_none rfl) (op_assign (v := .bool _) rfl) rfl ?_
                    refine ol_nil_then ?_
                    refine cd_ret ?_
                    refine px_thenR ?_
                    exact px_ret1 rfl (v := .bool _) rfl (fun _ s => (s.del 0)) ⟨congrArg Value.bool (by
                      unfold goodW
                      cases hcb : bits.contains true with
                      | true => (have hc9 : 0 < bits.count true := (cnt_pos bits).2 hcb; simp only [hcb, Bool.false_eq_true, and_false, false_or, and_true]; first | (symm; exact decide_eq_true (by omega)) | (symm; exact decide_eq_false (by omega)) | exact decide_eq_decide.2 (by omega))
                      | false => (have hc9 : ¬ 0 < bits.count true := (fun h => by rw [(cnt_pos bits).1 h] at hcb; cases hcb); simp only [hcb, Bool.false_eq_true, and_false, false_or, and_true]; first | (symm; exact decide_eq_true (by omega)) | (symm; exact decide_eq_false (by omega)) | exact decide_eq_decide.2 (by omega))), rfl⟩
                · have hp9 := hb9
                  (try simp only [decide_eq_true_eq, decide_eq_false_iff_not, Bool.not_eq_true', Bool.not_eq_false', ne_eq, Decidable.not_not] at hp9)
                  refine cd_skip ?_
                  refine px_then ?_
                  refine cd_sr ?_   -- 12
                  refine ol_q (wn_none rfl) (op_field fld_45_5 rfl) rfl ?_
                  refine ol_q (wn_none rfl) (op_ld 0 sc_41 rfl rfl (show (msgC _).toArray[36]? = some (.slice bo bits.length bc) from msgC_a36 _)) rfl ?_
                  refine ol_q (wn_none rfl) (op_len_slice Try.underlying41 rfl) rfl ?_
                  refine ol_q (wn_none rfl) (op_eq rfl rfl) rfl ?_
                  refine ol_q (wn_none rfl) (op_move (v := .bool _) rfl) rfl ?_
                  refine ol_split 70 rfl (fun hb13 => ?_) (fun hb13 => ?_)
                  · have hp13 := hb13
                    (try simp only [decide_eq_true_eq, decide_eq_false_iff_not, Bool.not_eq_true', Bool.not_eq_false', ne_eq, Decidable.not_not] at hp13)
                    refine ol_q (wn_some rfl rfl rfl hb13 rfl) (op_field fld_45_0 rfl) rfl ?_
                    refine ol_q (wn_some rfl rfl rfl hb13 rfl) (op_ld 0 sc_3 rfl rfl (show (msgC _).toArray[0]? = some (.int .i64 k) from msgC_a0 _)) rfl ?_
                    refine ol_q (wn_some rfl rfl rfl hb13 rfl) (op_eq rfl rfl) rfl ?_
                    refine ol_q (wn_some rfl rfl rfl hb13 rfl) (op_move (v := .bool _) rfl) rfl ?_
                    refine ol_split 74 rfl (fun hb14 => ?_) (fun hb14 => ?_)
                    · have hp14 := hb14
                      (try simp only [decide_eq_true_eq, decide_eq_false_iff_not, Bool.not_eq_true', Bool.not_eq_false', ne_eq, Decidable.not_not] at hp14)
                      refine ol_skip (wn_some rfl rfl rfl hb14 rfl) rfl ?_
                      refine ol_skip (wn_some rfl rfl rfl hb14 rfl) rfl ?_
                      refine ol_skip (wn_some rfl rfl rfl hb14 rfl) rfl ?_
                      refine ol_q (wn_some rfl rfl rfl hb13 rfl) (op_pick_t (v := .bool _) rfl hb14 rfl) rfl ?_
                      refine ol_q (wn_none rfl) (op_pick_t (v := .bool _) rfl hb13 rfl) rfl ?_
                      refine ol_q (wn_none rfl) (op_assign (v := .bool _) rfl) rfl ?_
                      refine ol_nil_then ?_
                      refine cd_ret ?_
                      exact px_ret1 rfl (v := .bool _) rfl (fun _ s => (s.del 0)) ⟨congrArg Value.bool (by
                        unfold goodW
                        cases hcb : bits.contains true with
                        | true => (have hc9 : 0 < bits.count true := (cnt_pos bits).2 hcb; simp only [hcb, Bool.false_eq_true, and_false, false_or, and_true]; first | (symm; exact decide_eq_true (by omega)) | (symm; exact decide_eq_false (by omega)) | exact decide_eq_decide.2 (by omega))
                        | false => (have hc9 : ¬ 0 < bits.count true := (fun h => by rw [(cnt_pos bits).1 h] at hcb; cases hcb); simp only [hcb, Bool.false_eq_true, and_false, false_or, and_true]; first | (symm; exact decide_eq_true (by omega)) | (symm; exact decide_eq_false (by omega)) | exact decide_eq_decide.2 (by omega))), rfl⟩
                    · have hp14 := hb14
                      (try simp only [decide_eq_true_eq, decide_eq_false_iff_not, Bool.not_eq_true', Bool.not_eq_false', ne_eq, Decidable.not_not] at hp14)
                      refine ol_q (wn_some rfl rfl rfl hb14 rfl) (op_field fld_45_4 rfl) rfl ?_
                      refine ol_q (wn_some rfl rfl rfl hb14 rfl) (op_ld 0 sc_32 rfl rfl (show (msgC _).toArray[35]? = some (.int .u64 (bd : Int)) from msgC_a35 _)) rfl ?_
                      refine ol_q (wn_some rfl rfl rfl hb14 rfl) (op_eqn (C := 0) rfl rfl) rfl ?_
                      refine ol_q (wn_some rfl rfl rfl hb13 rfl) (op_pick_f (v := .bool _) rfl hb14 rfl) rfl ?_
                      refine ol_q (wn_none rfl) (op_pick_t (v := .bool _) rfl hb13 rfl) rfl ?_
                      refine ol_q (wn_none rfl) (op_assign (v := .bool _) rfl) rfl ?_
                      refine ol_nil_then ?_
                      refine cd_ret ?_
                      exact px_ret1 rfl (v := .bool _) rfl (fun _ s => (s.del 0)) ⟨congrArg Value.bool (by
                        unfold goodW
                        cases hcb : bits.contains true with
                        | true => (have hc9 : 0 < bits.count true := (cnt_pos bits).2 hcb; simp only [hcb, Bool.false_eq_true, and_false, false_or, and_true]; first | (symm; exact decide_eq_true (by omega)) | (symm; exact decide_eq_false (by omega)) | exact decide_eq_decide.2 (by omega))
                        | false => (have hc9 : ¬ 0 < bits.count true := (fun h => by rw [(cnt_pos bits).1 h] at hcb; cases hcb); simp only [hcb, Bool.false_eq_true, and_false, false_or, and_true]; first | (symm; exact decide_eq_true (by omega)) | (symm; exact decide_eq_false (by omega)) | exact decide_eq_decide.2 (by omega))), rfl⟩
                  · have hp13 := hb13
                    (try simp only [decide_eq_true_eq, decide_eq_false_iff_not, Bool.not_eq_true', Bool.not_eq_false', ne_eq, Decidable.not_not] at hp13)
                    refine ol_skip (wn_some rfl rfl rfl hb13 rfl) rfl ?_
                    refine ol_skip (wn_some rfl rfl rfl hb13 rfl) rfl ?_
                    refine ol_skip (wn_some rfl rfl rfl hb13 rfl) rfl ?_
                    refine ol_skip (wn_some rfl rfl rfl hb13 rfl) rfl ?_
                    refine ol_skip (wn_undef rfl rfl rfl rfl) rfl ?_
                    refine ol_skip (wn_undef rfl rfl rfl rfl) rfl ?_
                    refine ol_skip (wn_undef rfl rfl rfl rfl) rfl ?_
                    refine ol_skip (wn_some rfl rfl rfl hb13 rfl) rfl ?_
                    refine ol_q (wn_none rfl) (op_pick_f (v := .bool _) rfl hb13 rfl) rfl ?_
                    refine ol_q (wn_none rfl) (op_assign (v := .bool _) rfl) rfl ?_
                    refine ol_nil_then ?_
                    refine cd_ret ?_
                    exact px_ret1 rfl (v := .bool _) rfl (fun _ s => (s.del 0)) ⟨congrArg Value.bool (by
                      unfold goodW
                      cases hcb : bits.contains true with
                      | true => (have hc9 : 0 < bits.count true := (cnt_pos bits).2 hcb; simp only [hcb, Bool.false_eq_true, and_false, false_or, and_true]; first | (symm; exact decide_eq_true (by omega)) | (symm; exact decide_eq_false (by omega)) | exact decide_eq_decide.2 (by omega))
                      | false => (have hc9 : ¬ 0 < bits.count true := (fun h => by rw [(cnt_pos bits).1 h] at hcb; cases hcb); simp only [hcb, Bool.false_eq_true, and_false, false_or, and_true]; first | (symm; exact decide_eq_true (by omega)) | (symm; exact decide_eq_false (by omega)) | exact decide_eq_decide.2 (by omega))), rfl⟩

set_option maxRecDepth 100000 in
set_option maxHeartbeats 1000000 in
theorem Plain_calls {w0 w : World} {l : List HProp} (k sl : Int) (tg : Root) (mb : Int) (bd : Nat) (bo : Option Addr) (bc : Nat) (bits : List Bool) (tag : Tag) (hs : Sat w0 w (l)) (hr : Rds w0 l encBool bo bits) (hxl : bits.length ≤ 1000) (hbd : bd < 18446744073709551616) :
    Calls Try.prog 31 #[.agg (msgC ⟨k, sl, tg, mb, bd, ⟨bo, bits.length, bc⟩, tag⟩).toArray] w (Ret w0 fun v l' => v = .string (B (plainW k sl tg mb bd bits)) ∧ l' = l) := by
  have hu1 := u64N_lt sl
  have hu2 := u64N_lt mb
  have htl := root_len tg
  refine calls_enter Try.func31 rfl rfl rfl hs ?_
  refine cd_sr ?_   -- 0
  refine ol_i (wn_none rfl) (os_boxa rfl) rfl ?_; rintro _ _ ⟨bx1, rfl, rfl⟩
  refine ol_q (wn_none rfl) (op_assign (v := .string _) rfl) rfl ?_
  refine ol_nil_then ?_
  refine cd_sr ?_   -- 1
  refine ol_q (wn_none rfl) (op_field fld_45_0 rfl) rfl ?_
  refine ol_q (wn_none rfl) (op_ld 0 sc_3 rfl rfl (show (msgC _).toArray[0]? = some (.int .i64 k) from msgC_a0 _)) rfl ?_
  refine ol_q (wn_none rfl) (op_conv8i Try.underlying5 (by rw [Try.underlying3]; rfl) rfl) rfl ?_
  refine ol_i (wn_none rfl) (os_bslice (E := encU8) [_] (ys := [_]) sB_55 zv_5 rfl rfl rfl rfl (by decide)) rfl ?_; rintro _ _ ⟨ao1, rfl, rfl⟩
  refine ol_q (wn_none rfl) (op_field fld_45_1 rfl) rfl ?_
  refine ol_q (wn_none rfl) (op_ld 1 sc_3 rfl rfl (show (msgC _).toArray[1]? = some (.int .i64 sl) from msgC_a1 _)) rfl ?_
  refine ol_q (wn_none rfl) (op_conv64i Try.underlying32 (by rw [Try.underlying3]; rfl) rfl) rfl ?_
  refine ol_i (wn_none rfl) (os_call cb_44 rfl (fun w s => Put_calls (wd := 4) _ _ _ _  s (by omega) (by simp [putB_length, htl]))) rfl ?_; rintro _ _ ⟨pa1, pc1, rfl, rfl⟩; rw [show clamp8 4 = 4 from rfl]
  refine ol_q (wn_none rfl) (op_assign (v := .slice _ _ _) rfl) rfl ?_
  refine ol_nil_then ?_
  refine cd_sr ?_   -- 2
  refine ol_q (wn_none rfl) (op_move (v := .slice _ _ _) rfl) rfl ?_
  refine ol_q (wn_none rfl) (op_field fld_45_2 rfl) rfl ?_
  refine ol_q (wn_none rfl) (op_slicea_all a1_40 rfl) rfl ?_
  refine ol_i (wn_none rfl) (os_append (E := encU8) rfl sB_55 zv_5 rfl rfl rfl (fun w s => (rds_fld 1 2 32 rfl (msgC_af2 _)) [] w s) (root_len _) (by simp [putB_length]) (by unfold maxLen; simp [putB_length])) rfl ?_; rintro _ _ ⟨ao2, ac2, rfl, rfl⟩
  refine ol_q (wn_none rfl) (op_assign (v := .slice _ _ _) rfl) rfl ?_
  refine ol_nil_then ?_
  refine cd_seq ?_
  refine cd_sr ?_   -- 3
  refine ol_q (wn_none rfl) (op_field fld_45_0 rfl) rfl ?_
  refine ol_q (wn_none rfl) (op_ld 1 sc_3 rfl rfl (show (msgC _).toArray[0]? = some (.int .i64 k) from msgC_a0 _)) rfl ?_
  refine ol_nil_then ?_
  refine cd_block ?_
  refine cd_sr ?_   -- 4
  refine ol_q (wn_none rfl) (op_eq rfl rfl) rfl ?_
  refine ol_q (wn_none rfl) (op_assign (v := .bool _) rfl) rfl ?_
  refine ol_nil_then ?_
  refine cd_cond rfl (fun hb1 => ?_) (fun hb1 => ?_)
  · have hp1 := hb1
    (try simp only [decide_eq_true_eq, decide_eq_false_iff_not, Bool.not_eq_true', Bool.not_eq_false', ne_eq, Decidable.not_not] at hp1)
    have hk1 : k = 1 := by omega
    -- 5
    refine cd_draw (M := [_]) mx [4, 7] (by kernel_rfl) ?_
    refine rg_q (wn_none rfl) (op_move (v := .slice _ _ _) rfl) rfl rfl ?_
    refine rg_q (wn_none rfl) (op_field fld_45_3 rfl) rfl rfl ?_
    refine rg_q (wn_none rfl) (op_ld 0 sc_3 rfl rfl (show (msgC _).toArray[34]? = some (.int .i64 mb) from msgC_a34 _)) rfl rfl ?_
    refine rg_q (wn_none rfl) (op_conv64i Try.underlying32 (by rw [Try.underlying3]; rfl) rfl) rfl rfl ?_
    refine rg_i (wn_none rfl) (os_call cb_44 rfl (fun w s => Put_calls (wd := 2) _ _ _ _  s (by omega) (by simp [putB_length, htl]))) rfl rfl ?_; rintro _ _ ⟨pa2, pc2, rfl, rfl⟩; rw [show clamp8 2 = 2 from rfl]; refine ⟨[_], rfl, ?_⟩
    refine rg_q (wn_none rfl) (op_field fld_45_4 rfl) rfl rfl ?_
    refine rg_q (wn_none rfl) (op_ld 0 sc_32 rfl rfl (show (msgC _).toArray[35]? = some (.int .u64 (bd : Int)) from msgC_a35 _)) rfl rfl ?_
    refine rg_i (wn_none rfl) (os_call cb_44 rfl (fun w s => Put_calls (wd := 8) _ _ _ _  s (by omega) (by simp [putB_length, htl]))) rfl rfl ?_; rintro _ _ ⟨pa3, pc3, rfl, rfl⟩; rw [show clamp8 8 = 8 from rfl]; refine ⟨[_], rfl, ?_⟩
    refine rg_q (wn_none rfl) (op_assign (v := .slice _ _ _) rfl) rfl rfl ?_
    refine rg_nil1 ?_
    refine px_blockN ?_
    refine px_then ?_
    refine cd_sr ?_   -- 10
    refine ol_q (wn_none rfl) (op_move (v := .slice _ _ _) rfl) rfl ?_
    refine ol_q (wn_none rfl) (op_b2s sB_55 Try.underlying5 Try.underlying9 rfl (rds_row 0 rfl rfl) rfl) rfl ?_
    refine ol_q (wn_none rfl) (op_assign (v := .string _) rfl) rfl ?_
    refine ol_nil_then ?_
    refine cd_ret ?_
    exact px_ret1 rfl (v := .string _) rfl (fun _ s => ((s.del 1).del 0)) ⟨by unfold plainW bodyW; rw [if_pos hk1]; simp only [List.append_assoc], rfl⟩
  · have hp1 := hb1
    (try simp only [decide_eq_true_eq, decide_eq_false_iff_not, Bool.not_eq_true', Bool.not_eq_false', ne_eq, Decidable.not_not] at hp1)
    have hk1 : ¬ k = 1 := by omega
    refine cd_sr ?_   -- 6
    refine ol_q (wn_none rfl) (op_eq rfl rfl) rfl ?_
    refine ol_q (wn_none rfl) (op_assign (v := .bool _) rfl) rfl ?_
    refine ol_nil_then ?_
    refine cd_cond rfl (fun hb2 => ?_) (fun hb2 => ?_)
    · have hp2 := hb2
      (try simp only [decide_eq_true_eq, decide_eq_false_iff_not, Bool.not_eq_true', Bool.not_eq_false', ne_eq, Decidable.not_not] at hp2)
      have hk2 : k = 2 := by omega
      refine cd_region ?_   -- 7
      refine ol_q (wn_none rfl) (op_move (v := .slice _ _ _) rfl) rfl ?_
      refine ol_q (wn_none rfl) (op_field fld_45_3 rfl) rfl ?_
      refine ol_q (wn_none rfl) (op_ld 1 sc_3 rfl rfl (show (msgC _).toArray[34]? = some (.int .i64 mb) from msgC_a34 _)) rfl ?_
      refine ol_q (wn_none rfl) (op_conv64i Try.underlying32 (by rw [Try.underlying3]; rfl) rfl) rfl ?_
      refine ol_i (wn_none rfl) (os_call cb_44 rfl (fun w s => Put_calls (wd := 2) _ _ _ _  s (by omega) (by simp [putB_length, htl]))) rfl ?_; rintro _ _ ⟨pa4, pc4, rfl, rfl⟩; rw [show clamp8 2 = 2 from rfl]
      refine ol_q (wn_none rfl) (op_assign (v := .slice _ _ _) rfl) rfl ?_
      refine ol_nil ?_
      refine px_blockN ?_
      refine px_then ?_
      refine cd_sr ?_   -- 10
      refine ol_q (wn_none rfl) (op_move (v := .slice _ _ _) rfl) rfl ?_
      refine ol_q (wn_none rfl) (op_b2s sB_55 Try.underlying5 Try.underlying9 rfl (rds_row 0 rfl rfl) rfl) rfl ?_
      refine ol_q (wn_none rfl) (op_assign (v := .string _) rfl) rfl ?_
      refine ol_nil_then ?_
      refine cd_ret ?_
      exact px_ret1 rfl (v := .string _) rfl (fun _ s => ((s.del 1).del 0)) ⟨by unfold plainW bodyW; rw [if_neg hk1, if_pos hk2], rfl⟩
    · have hp2 := hb2
      (try simp only [decide_eq_true_eq, decide_eq_false_iff_not, Bool.not_eq_true', Bool.not_eq_false', ne_eq, Decidable.not_not] at hp2)
      have hk2 : ¬ k = 2 := by omega
      refine cd_sr ?_   -- 8
      refine ol_q (wn_none rfl) (op_eq rfl rfl) rfl ?_
      refine ol_q (wn_none rfl) (op_assign (v := .bool _) rfl) rfl ?_
      refine ol_nil_then ?_
      refine cd_cond rfl (fun hb3 => ?_) (fun hb3 => ?_)
      · have hp3 := hb3
        (try simp only [decide_eq_true_eq, decide_eq_false_iff_not, Bool.not_eq_true', Bool.not_eq_false', ne_eq, Decidable.not_not] at hp3)
        have hk3 : k = 3 := by omega
        refine cd_region ?_   -- 9
        refine ol_q (wn_none rfl) (op_move (v := .slice _ _ _) rfl) rfl ?_
        refine ol_q (wn_none rfl) (op_field fld_45_5 rfl) rfl ?_
        refine ol_q (wn_none rfl) (op_ld 1 sc_41 rfl rfl (show (msgC _).toArray[36]? = some (.slice bo bits.length bc) from msgC_a36 _)) rfl ?_
        refine ol_i (wn_none rfl) (os_call cb_56 rfl (fun w s => BPut_calls _ _ _ _ _ _ _  s (hr.cons _) rfl (by simp [putB_length, htl]) (by omega))) rfl ?_; rintro _ _ ⟨pa5, pc5, rfl, rfl⟩
        refine ol_q (wn_none rfl) (op_assign (v := .slice _ _ _) rfl) rfl ?_
        refine ol_nil ?_
        refine px_blockN ?_
        refine px_then ?_
        refine cd_sr ?_   -- 10
        refine ol_q (wn_none rfl) (op_move (v := .slice _ _ _) rfl) rfl ?_
        refine ol_q (wn_none rfl) (op_b2s sB_55 Try.underlying5 Try.underlying9 rfl (rds_row 0 rfl rfl) rfl) rfl ?_
        refine ol_q (wn_none rfl) (op_assign (v := .string _) rfl) rfl ?_
        refine ol_nil_then ?_
        refine cd_ret ?_
        exact px_ret1 rfl (v := .string _) rfl (fun _ s => ((s.del 1).del 0)) ⟨by unfold plainW bodyW; rw [if_neg hk1, if_neg hk2, if_pos hk3], rfl⟩
      · have hp3 := hb3
        (try simp only [decide_eq_true_eq, decide_eq_false_iff_not, Bool.not_eq_true', Bool.not_eq_false', ne_eq, Decidable.not_not] at hp3)
        have hk3 : ¬ k = 3 := by omega
        refine cd_skip ?_
        refine px_blockN ?_
        refine px_then ?_
        refine cd_sr ?_   -- 10
        refine ol_q (wn_none rfl) (op_move (v := .slice _ _ _) rfl) rfl ?_
        refine ol_q (wn_none rfl) (op_b2s sB_55 Try.underlying5 Try.underlying9 rfl (rds_row 0 rfl rfl) rfl) rfl ?_
        refine ol_q (wn_none rfl) (op_assign (v := .string _) rfl) rfl ?_
        refine ol_nil_then ?_
        refine cd_ret ?_
        exact px_ret1 rfl (v := .string _) rfl (fun _ s => ((s.del 1).del 0)) ⟨by unfold plainW bodyW; rw [if_neg hk1, if_neg hk2, if_neg hk3, List.append_nil], rfl⟩

set_option maxRecDepth 100000 in
set_option maxHeartbeats 1000000 in
theorem Encode_calls {w0 w : World} {l : List HProp} (k sl : Int) (tg : Root) (mb : Int) (bd : Nat) (bo : Option Addr) (bc : Nat) (bits : List Bool) (tag : Tag) (hs : Sat w0 w (l)) (hr : Rds w0 l encBool bo bits) (hxl : bits.length ≤ 1000) (hbd : bd < 18446744073709551616) :
    Calls Try.prog 29 #[.agg (msgC ⟨k, sl, tg, mb, bd, ⟨bo, bits.length, bc⟩, tag⟩).toArray] w (Ret w0 fun v l' => v = .tuple #[.string (B (if goodW k sl mb bd bits = true then plainW k sl tg mb bd bits ++ tag.1 else [])), .bool (goodW k sl mb bd bits)] ∧ l' = l) := by
  have hpl := plainW_len k sl tg mb bd bits
  have hbl := bodyW_le k mb bd bits
  refine calls_enter Try.func29 rfl rfl rfl hs ?_
  refine cd_sr ?_   -- 0
  refine ol_i (wn_none rfl) (os_boxa rfl) rfl ?_; rintro _ _ ⟨bx1, rfl, rfl⟩
  refine ol_q (wn_none rfl) (op_assign (v := .string _) rfl) rfl ?_
  refine ol_q (wn_none rfl) (op_assign (v := .bool _) rfl) rfl ?_
  refine ol_nil_then ?_
  refine cd_seq ?_
  refine cd_sr ?_   -- 1
  refine ol_q (wn_none rfl) (op_lda (L := msgC _) 0 ag_45 rfl rfl (msgC_ta _) (by simp [msgC_len])) rfl ?_
  refine ol_i (wn_none rfl) (os_call cb_35 rfl (fun w s => WGood_calls _ _ _ _ _ _ _ _ _  s (hr.cons _) (by omega) (by omega))) rfl ?_; rintro _ l ⟨rfl, rfl⟩
  refine ol_q (wn_none rfl) (op_not rfl) rfl ?_
  refine ol_nil_then ?_
  refine cd_cond rfl (fun hb1 => ?_) (fun hb1 => ?_)
  · have hp1 := hb1
    (try simp only [decide_eq_true_eq, decide_eq_false_iff_not, Bool.not_eq_true', Bool.not_eq_false', ne_eq, Decidable.not_not] at hp1)
    have hg9 : goodW k sl mb bd bits = false := by simpa using hb1
    refine cd_sr ?_   -- 2
    refine ol_q (wn_none rfl) (op_assign (v := .string _) rfl) rfl ?_
    refine ol_q (wn_none rfl) (op_assign (v := .bool _) rfl) rfl ?_
    refine ol_nil_then ?_
    refine cd_ret ?_
    refine px_thenR ?_
    exact px_ret2 rfl (v1 := .string _) (v2 := .bool _) rfl rfl (fun _ s => (s.del 0)) ⟨by rw [hg9]; rfl, rfl⟩
  · have hp1 := hb1
    (try simp only [decide_eq_true_eq, decide_eq_false_iff_not, Bool.not_eq_true', Bool.not_eq_false', ne_eq, Decidable.not_not] at hp1)
    have hg9 : goodW k sl mb bd bits = true := by simpa using hb1
    refine cd_skip ?_
    refine px_then ?_
    refine cd_seq ?_   -- 3
    refine cd_draw (M := []) mx [1] (by kernel_rfl) ?_
    refine rg_q (wn_none rfl) (op_lda (L := msgC _) 0 ag_45 rfl rfl (msgC_ta _) (by simp [msgC_len])) rfl rfl ?_
    refine rg_i (wn_none rfl) (os_call cb_31 rfl (fun w s => Plain_calls _ _ _ _ _ _ _ _ _  s (hr.cons _) (by omega) (by omega))) rfl rfl ?_; rintro _ l ⟨rfl, rfl⟩; refine ⟨[], rfl, ?_⟩
    refine rg_q (wn_none rfl) (op_field fld_45_6 rfl) rfl rfl ?_
    refine rg_q (wn_none rfl) (op_slicea_all a1_43 rfl) rfl rfl ?_
    refine rg_q (wn_none rfl) (op_b2s sB_55 Try.underlying5 Try.underlying9 rfl (rds_fld 0 37 16 rfl (msgC_af37 _)) (tag_len _)) rfl rfl ?_
    refine rg_q (wn_none rfl) (op_sadd rfl rfl (by rw [tag_len]; omega)) rfl rfl ?_
    refine rg_q (wn_none rfl) (op_assign (v := .string _) rfl) rfl rfl ?_
    refine rg_q (wn_none rfl) (op_assign (v := .bool _) rfl) rfl rfl ?_
    refine rg_nil_then0 ?_
    refine cd_ret ?_
    exact px_ret2 rfl (v1 := .string _) (v2 := .bool _) rfl rfl (fun _ s => (s.del 0)) ⟨by rw [hg9]; rfl, rfl⟩
end Go.SL

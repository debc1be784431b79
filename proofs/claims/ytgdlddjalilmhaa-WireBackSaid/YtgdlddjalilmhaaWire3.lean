import Derived.Test.YtgdlddjalilmhaaWire2
set_option linter.unusedVariables false
set_option linter.unusedSimpArgs false
namespace Go.SL
open Go.Proofs

theorem opens_Msg {H : Type} {enc : TypeId × Value → H} {W : World} : Opens enc Try.prog W 45 (fun cs => ∃ a : Msg, cs = encMsg.cells a ∧ ((∃ ys : List Bool, a.bits.n = ys.length ∧ a.bits.n ≤ a.bits.c ∧ a.bits.c ≤ maxLen ∧ Shows W encBool a.bits.a ys ∧ ∀ y ∈ ys, True) ∧ I64 a.kind ∧ I64 a.slot ∧ I64 a.member ∧ a.body < 18446744073709551616)) := fun fuel cs x h => by
  obtain ⟨hl, hf⟩ := opens_field Try.underlying45 h
  have hc : Try.prog.cellsOf 45 = 53 := by kernel_rfl
  rw [hc] at hl
  obtain ⟨n0, h0, w0⟩ := hf 0 0 3 1 _ rfl (by kernel_rfl) (opens_int Try.underlying3)
  obtain ⟨n1, h1, w1⟩ := hf 1 1 3 1 _ rfl (by kernel_rfl) (opens_int Try.underlying3)
  obtain ⟨n2, h2, _⟩ := hf 2 2 40 32 _ rfl (by kernel_rfl) (opens_root rB_40)
  obtain ⟨n3, h3, w3⟩ := hf 3 34 3 1 _ rfl (by kernel_rfl) (opens_int Try.underlying3)
  obtain ⟨n4, h4, w4⟩ := hf 4 35 32 1 _ rfl (by kernel_rfl) (opens_u64 Try.underlying32)
  obtain ⟨ao5, c5, ys5, h5, hl5, hm5, hs5, hq5⟩ := hf 5 36 41 1 _ rfl (by kernel_rfl) (opens_slice encBool Try.underlying41 (by kernel_rfl) (opens_flag Try.underlying4))
  obtain ⟨n6, h6, _⟩ := hf 6 37 43 16 _ rfl (by kernel_rfl) (opens_tag tB_43)
  refine ⟨⟨n0, n1, n2, n3, n4, ⟨ao5, ys5.length, c5⟩, n6⟩, ?_, ⟨ys5, rfl, hl5, hm5, hs5, hq5⟩, wf_i64 w0, wf_i64 w1, wf_i64 w3, w4⟩
  have e0 : cs.drop 0 = (cs.drop 0).take 1 ++ cs.drop 1 := seg cs 0 1
  have e1 : cs.drop 1 = (cs.drop 1).take 1 ++ cs.drop 2 := seg cs 1 1
  have e2 : cs.drop 2 = (cs.drop 2).take 32 ++ cs.drop 34 := seg cs 2 32
  have e3 : cs.drop 34 = (cs.drop 34).take 1 ++ cs.drop 35 := seg cs 34 1
  have e4 : cs.drop 35 = (cs.drop 35).take 1 ++ cs.drop 36 := seg cs 35 1
  have e5 : cs.drop 36 = (cs.drop 36).take 1 ++ cs.drop 37 := seg cs 36 1
  have e6 : cs.drop 37 = (cs.drop 37).take 16 ++ cs.drop 53 := seg cs 37 16
  have eN : cs.drop 53 = [] := List.drop_eq_nil_of_le (by omega)
  have e : cs.drop 0 = [.int .i64 n0] ++ ([.int .i64 n1] ++ (rootC n2 ++ ([.int .i64 n3] ++ ([.int .u64 (n4 : Int)] ++ ([.slice ao5 ys5.length c5] ++ (tagC n6 ++ ([]))))))) := by rw [e0, h0, e1, h1, e2, h2, e3, h3, e4, h4, e5, h5, e6, h6, eN]; rfl
  rw [List.drop_zero] at e
  rw [e]
  show _ = msgC _
  unfold msgC
  simp

set_option maxRecDepth 100000 in
set_option maxHeartbeats 1000000 in
theorem WSame_calls {w0 w : World} {l : List HProp} (k sl : Int) (tg : Root) (mb : Int) (bd : Nat) (bo : Option Addr) (bc : Nat) (bits : List Bool) (tag : Tag) (k2 sl2 : Int) (tg2 : Root) (mb2 : Int) (bd2 : Nat) (bo2 : Option Addr) (bc2 : Nat) (ys : List Bool) (tag2 : Tag) (hs : Sat w0 w (l)) (hr : Rds w0 l encBool bo bits) (hr2 : Rds w0 l encBool bo2 ys) (hxl : bits.length ≤ 100000) :
    Calls Try.prog 27 #[.agg (msgC ⟨k, sl, tg, mb, bd, ⟨bo, bits.length, bc⟩, tag⟩).toArray, .agg (msgC ⟨k2, sl2, tg2, mb2, bd2, ⟨bo2, ys.length, bc2⟩, tag2⟩).toArray] w (Ret w0 fun v l' => v = .bool (sameW k sl tg mb bd bits tag k2 sl2 tg2 mb2 bd2 ys tag2) ∧ l' = l) := by
  refine calls_enter Try.func27 rfl rfl rfl hs ?_
  refine cd_sr ?_   -- 0
  refine ol_i (wn_none rfl) (os_boxa rfl) rfl ?_; rintro _ _ ⟨bx1, rfl, rfl⟩
  refine ol_i (wn_none rfl) (os_boxa rfl) rfl ?_; rintro _ _ ⟨bx2, rfl, rfl⟩
  refine ol_q (wn_none rfl) (op_assign (v := .bool _) rfl) rfl ?_
  refine ol_nil_then ?_
  refine cd_sr ?_   -- 1
  refine ol_q (wn_none rfl) (op_field fld_45_0 rfl) rfl ?_
  refine ol_q (wn_none rfl) (op_ld 1 sc_3 rfl rfl (show (msgC _).toArray[0]? = some (.int .i64 k) from msgC_a0 _)) rfl ?_
  refine ol_q (wn_none rfl) (op_field fld_45_0 rfl) rfl ?_
  refine ol_q (wn_none rfl) (op_ld 0 sc_3 rfl rfl (show (msgC _).toArray[0]? = some (.int .i64 k2) from msgC_a0 _)) rfl ?_
  refine ol_q (wn_none rfl) (op_eq rfl rfl) rfl ?_
  refine ol_q (wn_none rfl) (op_move (v := .bool _) rfl) rfl ?_
  refine ol_split 10 rfl (fun hb1 => ?_) (fun hb1 => ?_)
  · have hp1 := hb1
    (try simp only [decide_eq_true_eq, decide_eq_false_iff_not, Bool.not_eq_true', Bool.not_eq_false', ne_eq, Decidable.not_not] at hp1)
    have q0 : decide (k = k2) = true := hb1
    refine ol_q (wn_some rfl rfl rfl hb1 rfl) (op_field fld_45_1 rfl) rfl ?_
    refine ol_q (wn_some rfl rfl rfl hb1 rfl) (op_ld 1 sc_3 rfl rfl (show (msgC _).toArray[1]? = some (.int .i64 sl) from msgC_a1 _)) rfl ?_
    refine ol_q (wn_some rfl rfl rfl hb1 rfl) (op_field fld_45_1 rfl) rfl ?_
    refine ol_q (wn_some rfl rfl rfl hb1 rfl) (op_ld 0 sc_3 rfl rfl (show (msgC _).toArray[1]? = some (.int .i64 sl2) from msgC_a1 _)) rfl ?_
    refine ol_q (wn_some rfl rfl rfl hb1 rfl) (op_eq rfl rfl) rfl ?_
    refine ol_q (wn_none rfl) (op_pick_t (v := .bool _) rfl hb1 rfl) rfl ?_
    refine ol_q (wn_none rfl) (op_move (v := .bool _) rfl) rfl ?_
    refine ol_split 17 rfl (fun hb2 => ?_) (fun hb2 => ?_)
    · have hp2 := hb2
      (try simp only [decide_eq_true_eq, decide_eq_false_iff_not, Bool.not_eq_true', Bool.not_eq_false', ne_eq, Decidable.not_not] at hp2)
      have q1 : decide (sl = sl2) = true := hb2
      refine ol_q (wn_some rfl rfl rfl hb2 rfl) (op_field fld_45_2 rfl) rfl ?_
      refine ol_q (wn_some rfl rfl rfl hb2 rfl) (op_lda (L := rootC _) 1 ag_40 rfl rfl (msgC_af2 _) (by simp [msgC_len])) rfl ?_
      refine ol_q (wn_some rfl rfl rfl hb2 rfl) (op_field fld_45_2 rfl) rfl ?_
      refine ol_q (wn_some rfl rfl rfl hb2 rfl) (op_lda (L := rootC _) 0 ag_40 rfl rfl (msgC_af2 _) (by simp [msgC_len])) rfl ?_
      refine ol_q (wn_some rfl rfl rfl hb2 rfl) (op_eqroot _ _ rB_40 rfl rfl) rfl ?_
      refine ol_q (wn_none rfl) (op_pick_t (v := .bool _) rfl hb2 rfl) rfl ?_
      refine ol_q (wn_none rfl) (op_move (v := .bool _) rfl) rfl ?_
      refine ol_split 24 rfl (fun hb3 => ?_) (fun hb3 => ?_)
      · have hp3 := hb3
        (try simp only [decide_eq_true_eq, decide_eq_false_iff_not, Bool.not_eq_true', Bool.not_eq_false', ne_eq, Decidable.not_not] at hp3)
        have q2 : decide (tg = tg2) = true := hb3
        refine ol_q (wn_some rfl rfl rfl hb3 rfl) (op_field fld_45_3 rfl) rfl ?_
        refine ol_q (wn_some rfl rfl rfl hb3 rfl) (op_ld 1 sc_3 rfl rfl (show (msgC _).toArray[34]? = some (.int .i64 mb) from msgC_a34 _)) rfl ?_
        refine ol_q (wn_some rfl rfl rfl hb3 rfl) (op_field fld_45_3 rfl) rfl ?_
        refine ol_q (wn_some rfl rfl rfl hb3 rfl) (op_ld 0 sc_3 rfl rfl (show (msgC _).toArray[34]? = some (.int .i64 mb2) from msgC_a34 _)) rfl ?_
        refine ol_q (wn_some rfl rfl rfl hb3 rfl) (op_eq rfl rfl) rfl ?_
        refine ol_q (wn_none rfl) (op_pick_t (v := .bool _) rfl hb3 rfl) rfl ?_
        refine ol_q (wn_none rfl) (op_move (v := .bool _) rfl) rfl ?_
        refine ol_split 31 rfl (fun hb4 => ?_) (fun hb4 => ?_)
        · have hp4 := hb4
          (try simp only [decide_eq_true_eq, decide_eq_false_iff_not, Bool.not_eq_true', Bool.not_eq_false', ne_eq, Decidable.not_not] at hp4)
          have q3 : decide (mb = mb2) = true := hb4
          refine ol_q (wn_some rfl rfl rfl hb4 rfl) (op_field fld_45_4 rfl) rfl ?_
          refine ol_q (wn_some rfl rfl rfl hb4 rfl) (op_ld 1 sc_32 rfl rfl (show (msgC _).toArray[35]? = some (.int .u64 (bd : Int)) from msgC_a35 _)) rfl ?_
          refine ol_q (wn_some rfl rfl rfl hb4 rfl) (op_field fld_45_4 rfl) rfl ?_
          refine ol_q (wn_some rfl rfl rfl hb4 rfl) (op_ld 0 sc_32 rfl rfl (show (msgC _).toArray[35]? = some (.int .u64 (bd2 : Int)) from msgC_a35 _)) rfl ?_
          refine ol_q (wn_some rfl rfl rfl hb4 rfl) (op_eqn rfl rfl) rfl ?_
          refine ol_q (wn_none rfl) (op_pick_t (v := .bool _) rfl hb4 rfl) rfl ?_
          refine ol_q (wn_none rfl) (op_move (v := .bool _) rfl) rfl ?_
          refine ol_split 38 rfl (fun hb5 => ?_) (fun hb5 => ?_)
          · have hp5 := hb5
            (try simp only [decide_eq_true_eq, decide_eq_false_iff_not, Bool.not_eq_true', Bool.not_eq_false', ne_eq, Decidable.not_not] at hp5)
            have q4 : decide (bd = bd2) = true := hb5
            refine ol_q (wn_some rfl rfl rfl hb5 rfl) (op_field fld_45_6 rfl) rfl ?_
            refine ol_q (wn_some rfl rfl rfl hb5 rfl) (op_lda (L := tagC _) 1 ag_43 rfl rfl (msgC_af37 _) (by simp [msgC_len])) rfl ?_
            refine ol_q (wn_some rfl rfl rfl hb5 rfl) (op_field fld_45_6 rfl) rfl ?_
            refine ol_q (wn_some rfl rfl rfl hb5 rfl) (op_lda (L := tagC _) 0 ag_43 rfl rfl (msgC_af37 _) (by simp [msgC_len])) rfl ?_
            refine ol_q (wn_some rfl rfl rfl hb5 rfl) (op_eqtag _ _ tB_43 rfl rfl) rfl ?_
            refine ol_q (wn_none rfl) (op_pick_t (v := .bool _) rfl hb5 rfl) rfl ?_
            refine ol_q (wn_none rfl) (op_move (v := .bool _) rfl) rfl ?_
            refine ol_split 45 rfl (fun hb6 => ?_) (fun hb6 => ?_)
            · have hp6 := hb6
              (try simp only [decide_eq_true_eq, decide_eq_false_iff_not, Bool.not_eq_true', Bool.not_eq_false', ne_eq, Decidable.not_not] at hp6)
              have q5 : decide (tag = tag2) = true := hb6
              refine ol_q (wn_some rfl rfl rfl hb6 rfl) (op_field fld_45_5 rfl) rfl ?_
              refine ol_q (wn_some rfl rfl rfl hb6 rfl) (op_ld 1 sc_41 rfl rfl (show (msgC _).toArray[36]? = some (.slice bo bits.length bc) from msgC_a36 _)) rfl ?_
              refine ol_q (wn_some rfl rfl rfl hb6 rfl) (op_field fld_45_5 rfl) rfl ?_
              refine ol_q (wn_some rfl rfl rfl hb6 rfl) (op_ld 0 sc_41 rfl rfl (show (msgC _).toArray[36]? = some (.slice bo2 ys.length bc2) from msgC_a36 _)) rfl ?_
              refine ol_i (wn_some rfl rfl rfl hb6 rfl) (os_call cb_55 rfl (fun w s => Same_calls _ _ _ _ _ _  s ((hr.cons _).cons _) ((hr2.cons _).cons _) (by first | omega | (simp; done) | (simp; omega)))) rfl ?_; rintro _ l ⟨rfl, rfl⟩
              refine ol_q (wn_none rfl) (op_pick_t (v := .bool _) rfl hb6 rfl) rfl ?_
              refine ol_q (wn_none rfl) (op_assign (v := .bool _) rfl) rfl ?_
              refine ol_nil_then ?_
              refine cd_ret ?_
              exact px_ret1 rfl (v := .bool _) rfl (fun _ s => ((s.del 1).del 0)) ⟨congrArg Value.bool (by unfold sameW; rw [q0, q1, q2, q3, q4, q5]; rfl), rfl⟩
            · have hp6 := hb6
              (try simp only [decide_eq_true_eq, decide_eq_false_iff_not, Bool.not_eq_true', Bool.not_eq_false', ne_eq, Decidable.not_not] at hp6)
              have q5 : decide (tag = tag2) = false := hb6
              refine ol_skip (wn_some rfl rfl rfl hb6 rfl) rfl ?_
              refine ol_skip (wn_some rfl rfl rfl hb6 rfl) rfl ?_
              refine ol_skip (wn_some rfl rfl rfl hb6 rfl) rfl ?_
              refine ol_skip (wn_some rfl rfl rfl hb6 rfl) rfl ?_
              refine ol_skip (wn_some rfl rfl rfl hb6 rfl) rfl ?_
              refine ol_q (wn_none rfl) (op_pick_f (v := .bool _) rfl hb6 rfl) rfl ?_
              refine ol_q (wn_none rfl) (op_assign (v := .bool _) rfl) rfl ?_
              refine ol_nil_then ?_
              refine cd_ret ?_
              exact px_ret1 rfl (v := .bool _) rfl (fun _ s => ((s.del 1).del 0)) ⟨congrArg Value.bool (by unfold sameW; rw [q0, q1, q2, q3, q4, q5]; rfl), rfl⟩
          · have hp5 := hb5
            (try simp only [decide_eq_true_eq, decide_eq_false_iff_not, Bool.not_eq_true', Bool.not_eq_false', ne_eq, Decidable.not_not] at hp5)
            have q4 : decide (bd = bd2) = false := hb5
            refine ol_skip (wn_some rfl rfl rfl hb5 rfl) rfl ?_
            refine ol_skip (wn_some rfl rfl rfl hb5 rfl) rfl ?_
            refine ol_skip (wn_some rfl rfl rfl hb5 rfl) rfl ?_
            refine ol_skip (wn_some rfl rfl rfl hb5 rfl) rfl ?_
            refine ol_skip (wn_some rfl rfl rfl hb5 rfl) rfl ?_
            refine ol_q (wn_none rfl) (op_pick_f (v := .bool _) rfl hb5 rfl) rfl ?_
            refine ol_q (wn_none rfl) (op_move (v := .bool _) rfl) rfl ?_
            refine ol_skip (wn_some rfl rfl rfl rfl rfl) rfl ?_
            refine ol_skip (wn_some rfl rfl rfl rfl rfl) rfl ?_
            refine ol_skip (wn_some rfl rfl rfl rfl rfl) rfl ?_
            refine ol_skip (wn_some rfl rfl rfl rfl rfl) rfl ?_
            refine ol_skip (wn_some rfl rfl rfl rfl rfl) rfl ?_
            refine ol_q (wn_none rfl) (op_pick_f (v := .bool _) rfl rfl rfl) rfl ?_
            refine ol_q (wn_none rfl) (op_assign (v := .bool _) rfl) rfl ?_
            refine ol_nil_then ?_
            refine cd_ret ?_
            exact px_ret1 rfl (v := .bool _) rfl (fun _ s => ((s.del 1).del 0)) ⟨congrArg Value.bool (by unfold sameW; rw [q0, q1, q2, q3, q4]; rfl), rfl⟩
        · have hp4 := hb4
          (try simp only [decide_eq_true_eq, decide_eq_false_iff_not, Bool.not_eq_true', Bool.not_eq_false', ne_eq, Decidable.not_not] at hp4)
          have q3 : decide (mb = mb2) = false := hb4
          refine ol_skip (wn_some rfl rfl rfl hb4 rfl) rfl ?_
          refine ol_skip (wn_some rfl rfl rfl hb4 rfl) rfl ?_
          refine ol_skip (wn_some rfl rfl rfl hb4 rfl) rfl ?_
          refine ol_skip (wn_some rfl rfl rfl hb4 rfl) rfl ?_
          refine ol_skip (wn_some rfl rfl rfl hb4 rfl) rfl ?_
          refine ol_q (wn_none rfl) (op_pick_f (v := .bool _) rfl hb4 rfl) rfl ?_
          refine ol_q (wn_none rfl) (op_move (v := .bool _) rfl) rfl ?_
          refine ol_skip (wn_some rfl rfl rfl rfl rfl) rfl ?_
          refine ol_skip (wn_some rfl rfl rfl rfl rfl) rfl ?_
          refine ol_skip (wn_some rfl rfl rfl rfl rfl) rfl ?_
          refine ol_skip (wn_some rfl rfl rfl rfl rfl) rfl ?_
          refine ol_skip (wn_some rfl rfl rfl rfl rfl) rfl ?_
          refine ol_q (wn_none rfl) (op_pick_f (v := .bool _) rfl rfl rfl) rfl ?_
          refine ol_q (wn_none rfl) (op_move (v := .bool _) rfl) rfl ?_
          refine ol_skip (wn_some rfl rfl rfl rfl rfl) rfl ?_
          refine ol_skip (wn_some rfl rfl rfl rfl rfl) rfl ?_
          refine ol_skip (wn_some rfl rfl rfl rfl rfl) rfl ?_
          refine ol_skip (wn_some rfl rfl rfl rfl rfl) rfl ?_
          refine ol_skip (wn_some rfl rfl rfl rfl rfl) rfl ?_
          refine ol_q (wn_none rfl) (op_pick_f (v := .bool _) rfl rfl rfl) rfl ?_
          refine ol_q (wn_none rfl) (op_assign (v := .bool _) rfl) rfl ?_
          refine ol_nil_then ?_
          refine cd_ret ?_
          exact px_ret1 rfl (v := .bool _) rfl (fun _ s => ((s.del 1).del 0)) ⟨congrArg Value.bool (by unfold sameW; rw [q0, q1, q2, q3]; rfl), rfl⟩
      · have hp3 := hb3
        (try simp only [decide_eq_true_eq, decide_eq_false_iff_not, Bool.not_eq_true', Bool.not_eq_false', ne_eq, Decidable.not_not] at hp3)
        have q2 : decide (tg = tg2) = false := hb3
        refine ol_skip (wn_some rfl rfl rfl hb3 rfl) rfl ?_
        refine ol_skip (wn_some rfl rfl rfl hb3 rfl) rfl ?_
        refine ol_skip (wn_some rfl rfl rfl hb3 rfl) rfl ?_
        refine ol_skip (wn_some rfl rfl rfl hb3 rfl) rfl ?_
        refine ol_skip (wn_some rfl rfl rfl hb3 rfl) rfl ?_
        refine ol_q (wn_none rfl) (op_pick_f (v := .bool _) rfl hb3 rfl) rfl ?_
        refine ol_q (wn_none rfl) (op_move (v := .bool _) rfl) rfl ?_
        refine ol_skip (wn_some rfl rfl rfl rfl rfl) rfl ?_
        refine ol_skip (wn_some rfl rfl rfl rfl rfl) rfl ?_
        refine ol_skip (wn_some rfl rfl rfl rfl rfl) rfl ?_
        refine ol_skip (wn_some rfl rfl rfl rfl rfl) rfl ?_
        refine ol_skip (wn_some rfl rfl rfl rfl rfl) rfl ?_
        refine ol_q (wn_none rfl) (op_pick_f (v := .bool _) rfl rfl rfl) rfl ?_
        refine ol_q (wn_none rfl) (op_move (v := .bool _) rfl) rfl ?_
        refine ol_skip (wn_some rfl rfl rfl rfl rfl) rfl ?_
        refine ol_skip (wn_some rfl rfl rfl rfl rfl) rfl ?_
        refine ol_skip (wn_some rfl rfl rfl rfl rfl) rfl ?_
        refine ol_skip (wn_some rfl rfl rfl rfl rfl) rfl ?_
        refine ol_skip (wn_some rfl rfl rfl rfl rfl) rfl ?_
        refine ol_q (wn_none rfl) (op_pick_f (v := .bool _) rfl rfl rfl) rfl ?_
        refine ol_q (wn_none rfl) (op_move (v := .bool _) rfl) rfl ?_
        refine ol_skip (wn_some rfl rfl rfl rfl rfl) rfl ?_
        refine ol_skip (wn_some rfl rfl rfl rfl rfl) rfl ?_
        refine ol_skip (wn_some rfl rfl rfl rfl rfl) rfl ?_
        refine ol_skip (wn_some rfl rfl rfl rfl rfl) rfl ?_
        refine ol_skip (wn_some rfl rfl rfl rfl rfl) rfl ?_
        refine ol_q (wn_none rfl) (op_pick_f (v := .bool _) rfl rfl rfl) rfl ?_
        refine ol_q (wn_none rfl) (op_assign (v := .bool _) rfl) rfl ?_
        refine ol_nil_then ?_
        refine cd_ret ?_
        exact px_ret1 rfl (v := .bool _) rfl (fun _ s => ((s.del 1).del 0)) ⟨congrArg Value.bool (by unfold sameW; rw [q0, q1, q2]; rfl), rfl⟩
    · have hp2 := hb2
      (try simp only [decide_eq_true_eq, decide_eq_false_iff_not, Bool.not_eq_true', Bool.not_eq_false', ne_eq, Decidable.not_not] at hp2)
      have q1 : decide (sl = sl2) = false := hb2
      refine ol_skip (wn_some rfl rfl rfl hb2 rfl) rfl ?_
      refine ol_skip (wn_some rfl rfl rfl hb2 rfl) rfl ?_
      refine ol_skip (wn_some rfl rfl rfl hb2 rfl) rfl ?_
      refine ol_skip (wn_some rfl rfl rfl hb2 rfl) rfl ?_
      refine ol_skip (wn_some rfl rfl rfl hb2 rfl) rfl ?_
      refine ol_q (wn_none rfl) (op_pick_f (v := .bool _) rfl hb2 rfl) rfl ?_
      refine ol_q (wn_none rfl) (op_move (v := .bool _) rfl) rfl ?_
      refine ol_skip (wn_some rfl rfl rfl rfl rfl) rfl ?_
      refine ol_skip (wn_some rfl rfl rfl rfl rfl) rfl ?_
      refine ol_skip (wn_some rfl rfl rfl rfl rfl) rfl ?_
      refine ol_skip (wn_some rfl rfl rfl rfl rfl) rfl ?_
      refine ol_skip (wn_some rfl rfl rfl rfl rfl) rfl ?_
      refine ol_q (wn_none rfl) (op_pick_f (v := .bool _) rfl rfl rfl) rfl ?_
      refine ol_q (wn_none rfl) (op_move (v := .bool _) rfl) rfl ?_
      refine ol_skip (wn_some rfl rfl rfl rfl rfl) rfl ?_
      refine ol_skip (wn_some rfl rfl rfl rfl rfl) rfl ?_
      refine ol_skip (wn_some rfl rfl rfl rfl rfl) rfl ?_
      refine ol_skip (wn_some rfl rfl rfl rfl rfl) rfl ?_
      refine ol_skip (wn_some rfl rfl rfl rfl rfl) rfl ?_
      refine ol_q (wn_none rfl) (op_pick_f (v := .bool _) rfl rfl rfl) rfl ?_
      refine ol_q (wn_none rfl) (op_move (v := .bool _) rfl) rfl ?_
      refine ol_skip (wn_some rfl rfl rfl rfl rfl) rfl ?_
      refine ol_skip (wn_some rfl rfl rfl rfl rfl) rfl ?_
      refine ol_skip (wn_some rfl rfl rfl rfl rfl) rfl ?_
      refine ol_skip (wn_some rfl rfl rfl rfl rfl) rfl ?_
      refine ol_skip (wn_some rfl rfl rfl rfl rfl) rfl ?_
      refine ol_q (wn_none rfl) (op_pick_f (v := .bool _) rfl rfl rfl) rfl ?_
      refine ol_q (wn_none rfl) (op_move (v := .bool _) rfl) rfl ?_
      refine ol_skip (wn_some rfl rfl rfl rfl rfl) rfl ?_
      refine ol_skip (wn_some rfl rfl rfl rfl rfl) rfl ?_
      refine ol_skip (wn_some rfl rfl rfl rfl rfl) rfl ?_
      refine ol_skip (wn_some rfl rfl rfl rfl rfl) rfl ?_
      refine ol_skip (wn_some rfl rfl rfl rfl rfl) rfl ?_
      refine ol_q (wn_none rfl) (op_pick_f (v := .bool _) rfl rfl rfl) rfl ?_
      refine ol_q (wn_none rfl) (op_assign (v := .bool _) rfl) rfl ?_
      refine ol_nil_then ?_
      refine cd_ret ?_
      exact px_ret1 rfl (v := .bool _) rfl (fun _ s => ((s.del 1).del 0)) ⟨congrArg Value.bool (by unfold sameW; rw [q0, q1]; rfl), rfl⟩
  · have hp1 := hb1
    (try simp only [decide_eq_true_eq, decide_eq_false_iff_not, Bool.not_eq_true', Bool.not_eq_false', ne_eq, Decidable.not_not] at hp1)
    have q0 : decide (k = k2) = false := hb1
    refine ol_skip (wn_some rfl rfl rfl hb1 rfl) rfl ?_
    refine ol_skip (wn_some rfl rfl rfl hb1 rfl) rfl ?_
    refine ol_skip (wn_some rfl rfl rfl hb1 rfl) rfl ?_
    refine ol_skip (wn_some rfl rfl rfl hb1 rfl) rfl ?_
    refine ol_skip (wn_some rfl rfl rfl hb1 rfl) rfl ?_
    refine ol_q (wn_none rfl) (op_pick_f (v := .bool _) rfl hb1 rfl) rfl ?_
    refine ol_q (wn_none rfl) (op_move (v := .bool _) rfl) rfl ?_
    refine ol_skip (wn_some rfl rfl rfl rfl rfl) rfl ?_
    refine ol_skip (wn_some rfl rfl rfl rfl rfl) rfl ?_
    refine ol_skip (wn_some rfl rfl rfl rfl rfl) rfl ?_
    refine ol_skip (wn_some rfl rfl rfl rfl rfl) rfl ?_
    refine ol_skip (wn_some rfl rfl rfl rfl rfl) rfl ?_
    refine ol_q (wn_none rfl) (op_pick_f (v := .bool _) rfl rfl rfl) rfl ?_
    refine ol_q (wn_none rfl) (op_move (v := .bool _) rfl) rfl ?_
    refine ol_skip (wn_some rfl rfl rfl rfl rfl) rfl ?_
    refine ol_skip (wn_some rfl rfl rfl rfl rfl) rfl ?_
    refine ol_skip (wn_some rfl rfl rfl rfl rfl) rfl ?_
    refine ol_skip (wn_some rfl rfl rfl rfl rfl) rfl ?_
    refine ol_skip (wn_some rfl rfl rfl rfl rfl) rfl ?_
    refine ol_q (wn_none rfl) (op_pick_f (v := .bool _) rfl rfl rfl) rfl ?_
    refine ol_q (wn_none rfl) (op_move (v := .bool _) rfl) rfl ?_
    refine ol_skip (wn_some rfl rfl rfl rfl rfl) rfl ?_
    refine ol_skip (wn_some rfl rfl rfl rfl rfl) rfl ?_
    refine ol_skip (wn_some rfl rfl rfl rfl rfl) rfl ?_
    refine ol_skip (wn_some rfl rfl rfl rfl rfl) rfl ?_
    refine ol_skip (wn_some rfl rfl rfl rfl rfl) rfl ?_
    refine ol_q (wn_none rfl) (op_pick_f (v := .bool _) rfl rfl rfl) rfl ?_
    refine ol_q (wn_none rfl) (op_move (v := .bool _) rfl) rfl ?_
    refine ol_skip (wn_some rfl rfl rfl rfl rfl) rfl ?_
    refine ol_skip (wn_some rfl rfl rfl rfl rfl) rfl ?_
    refine ol_skip (wn_some rfl rfl rfl rfl rfl) rfl ?_
    refine ol_skip (wn_some rfl rfl rfl rfl rfl) rfl ?_
    refine ol_skip (wn_some rfl rfl rfl rfl rfl) rfl ?_
    refine ol_q (wn_none rfl) (op_pick_f (v := .bool _) rfl rfl rfl) rfl ?_
    refine ol_q (wn_none rfl) (op_move (v := .bool _) rfl) rfl ?_
    refine ol_skip (wn_some rfl rfl rfl rfl rfl) rfl ?_
    refine ol_skip (wn_some rfl rfl rfl rfl rfl) rfl ?_
    refine ol_skip (wn_some rfl rfl rfl rfl rfl) rfl ?_
    refine ol_skip (wn_some rfl rfl rfl rfl rfl) rfl ?_
    refine ol_skip (wn_some rfl rfl rfl rfl rfl) rfl ?_
    refine ol_q (wn_none rfl) (op_pick_f (v := .bool _) rfl rfl rfl) rfl ?_
    refine ol_q (wn_none rfl) (op_assign (v := .bool _) rfl) rfl ?_
    refine ol_nil_then ?_
    refine cd_ret ?_
    exact px_ret1 rfl (v := .bool _) rfl (fun _ s => ((s.del 1).del 0)) ⟨congrArg Value.bool (by unfold sameW; rw [q0]; rfl), rfl⟩

set_option maxRecDepth 100000 in
set_option maxHeartbeats 1000000 in
theorem wgreat_calls {w0 w : World} {l : List HProp} (k sl : Int) (tg : Root) (mb : Int) (bd : Nat) (bo : Option Addr) (bc : Nat) (bits : List Bool) (tag : Tag) (hs : Sat w0 w (l))  :
    Calls Try.prog 28 #[.agg (msgC ⟨k, sl, tg, mb, bd, ⟨bo, bits.length, bc⟩, tag⟩).toArray] w (Ret w0 fun v l' => v = .bool (decide ((bits.length : Int) > 200)) ∧ l' = l) := by
  refine calls_enter Try.func28 rfl rfl rfl hs ?_
  refine cd_sr ?_   -- 0
  refine ol_i (wn_none rfl) (os_boxa rfl) rfl ?_; rintro _ _ ⟨bx1, rfl, rfl⟩
  refine ol_q (wn_none rfl) (op_assign (v := .bool _) rfl) rfl ?_
  refine ol_nil_then ?_
  refine cd_sr ?_   -- 1
  refine ol_q (wn_none rfl) (op_field fld_45_5 rfl) rfl ?_
  refine ol_q (wn_none rfl) (op_ld 0 sc_41 rfl rfl (show (msgC _).toArray[36]? = some (.slice bo bits.length bc) from msgC_a36 _)) rfl ?_
  refine ol_q (wn_none rfl) (op_len_slice Try.underlying41 rfl) rfl ?_
  refine ol_q (wn_none rfl) (op_gt rfl rfl) rfl ?_
  refine ol_q (wn_none rfl) (op_assign (v := .bool _) rfl) rfl ?_
  refine ol_nil_then ?_
  refine cd_ret ?_
  exact px_ret1 rfl (v := .bool _) rfl (fun _ s => (s.del 0)) ⟨rfl, rfl⟩

set_option maxRecDepth 100000 in
set_option maxHeartbeats 1000000 in
theorem wAlive_calls {w0 w : World} {l : List HProp}  (hs : Sat w0 w (l))  :
    Calls Try.prog 24 #[] w (Ret w0 fun v l' => v = .bool true ∧ l' = l) := by
  refine calls_enter Try.func24 rfl rfl rfl hs ?_
  refine cd_sr ?_   -- 0
  refine ol_q (wn_none rfl) (op_assign (v := .bool _) rfl) rfl ?_
  refine ol_nil_then ?_
  refine cd_sr ?_   -- 1
  refine ol_q (wn_none rfl) (op_build (L := msgC _) (vs := [(0, .int _ _), (1, .int _ _), (3, .int _ _)]) bB_45 rfl ⟨⟨rfl, by rw [msgC_len]; rfl⟩, ⟨rfl, by rw [msgC_len]; rfl⟩, ⟨rfl, by rw [msgC_len]; rfl⟩, trivial⟩ ((msgC_b0 _ _ _).trans ((msgC_b1 _ _ _).trans ((msgC_b3 _ _ _).trans rfl)))) rfl ?_
  refine ol_i (wn_none rfl) (os_call cb_29 rfl (fun w s => Encode_calls (bits := ([] : List Bool)) _ _ _ _ _ _ _ _  s (rds_nil _) (by show 0 ≤ 1000; omega) (by show 0 < 18446744073709551616; omega))) rfl ?_; rintro _ l ⟨rfl, rfl⟩
  refine ol_q (wn_none rfl) (op_move (v := .tuple _) rfl) rfl ?_
  refine ol_q (wn_none rfl) (op_extract (v := .string _) rfl rfl) rfl ?_
  refine ol_q (wn_none rfl) (op_extract (v := .bool _) rfl rfl) rfl ?_
  refine ol_q (wn_none rfl) (op_assign (v := .string _) rfl) rfl ?_
  refine ol_q (wn_none rfl) (op_assign (v := .bool _) rfl) rfl ?_
  refine ol_nil_then ?_
  refine cd_sr ?_   -- 2
  refine ol_q (wn_none rfl) (op_move (v := .string _) rfl) rfl ?_
  refine ol_i (wn_none rfl) (os_call cb_25 rfl (fun w s => Decode_calls (src := walE)  s (by rw [wal_len]; omega))) rfl ?_; rintro _ _ ⟨da2, dc2, rfl, rfl⟩; rw [wal_dec]
  refine ol_q (wn_none rfl) (op_move (v := .tuple _) rfl) rfl ?_
  refine ol_q (wn_none rfl) (op_extract (v := .agg _) rfl rfl) rfl ?_
  refine ol_q (wn_none rfl) (op_extract (v := .bool _) rfl rfl) rfl ?_
  refine ol_i (wn_none rfl) (os_alloc (cs := (msgC Msg.zero).toArray) zB_45 (by kernel_rfl)) rfl ?_; rintro _ _ ⟨bx1, rfl, rfl⟩
  refine ol_iN (wn_none rfl) (os_storew (msgC _) ag_45 rfl rfl (msgC_len _) (msgC_one _) (by simp [msgC_len]) (Free.zero _)) ?_; rintro _ _ ⟨rfl, rfl⟩
  refine ol_q (wn_none rfl) (op_assign (v := .bool _) rfl) rfl ?_
  refine ol_nil_then ?_
  refine cd_sr ?_   -- 3
  refine ol_q (wn_none rfl) (op_move (v := .bool _) rfl) rfl ?_
  refine ol_q (wn_none rfl) (op_move (v := .bool _) rfl) rfl ?_
  refine ol_split 16 rfl (fun hb1 => ?_) (fun hb1 => ?_)
  · have hp1 := hb1
    (try simp only [decide_eq_true_eq, decide_eq_false_iff_not, Bool.not_eq_true', Bool.not_eq_false', ne_eq, Decidable.not_not] at hp1)
    refine ol_q (wn_some rfl rfl rfl hb1 rfl) (op_move (v := .bool _) rfl) rfl ?_
    refine ol_q (wn_none rfl) (op_pick_t (v := .bool _) rfl hb1 rfl) rfl ?_
    refine ol_q (wn_none rfl) (op_move (v := .bool _) rfl) rfl ?_
    refine ol_split 19 rfl (fun hb2 => ?_) (fun hb2 => ?_)
    · have hp2 := hb2
      (try simp only [decide_eq_true_eq, decide_eq_false_iff_not, Bool.not_eq_true', Bool.not_eq_false', ne_eq, Decidable.not_not] at hp2)
      refine ol_q (wn_some rfl rfl rfl hb2 rfl) (op_move (v := .string _) rfl) rfl ?_
      refine ol_q (wn_some rfl rfl rfl hb2 rfl) (op_len_string Try.underlying9 rfl) rfl ?_
      refine ol_q (wn_some rfl rfl rfl hb2 rfl) (op_eq rfl rfl) rfl ?_
      refine ol_q (wn_none rfl) (op_pick_t (v := .bool _) rfl hb2 rfl) rfl ?_
      refine ol_q (wn_none rfl) (op_move (v := .bool _) rfl) rfl ?_
      refine ol_split 24 rfl (fun hb3 => ?_) (fun hb3 => ?_)
      · have hp3 := hb3
        (try simp only [decide_eq_true_eq, decide_eq_false_iff_not, Bool.not_eq_true', Bool.not_eq_false', ne_eq, Decidable.not_not] at hp3)
        refine ol_q (wn_some rfl rfl rfl hb3 rfl) (op_field fld_45_1 rfl) rfl ?_
        refine ol_q (wn_some rfl rfl rfl hb3 rfl) (op_ld 0 sc_3 rfl rfl (msgC_a1 _)) rfl ?_
        refine ol_q (wn_some rfl rfl rfl hb3 rfl) (op_eq rfl rfl) rfl ?_
        refine ol_q (wn_none rfl) (op_pick_t (v := .bool _) rfl hb3 rfl) rfl ?_
        refine ol_q (wn_none rfl) (op_move (v := .bool _) rfl) rfl ?_
        refine ol_split 29 rfl (fun hb4 => ?_) (fun hb4 => ?_)
        · have hp4 := hb4
          (try simp only [decide_eq_true_eq, decide_eq_false_iff_not, Bool.not_eq_true', Bool.not_eq_false', ne_eq, Decidable.not_not] at hp4)
          refine ol_q (wn_some rfl rfl rfl hb4 rfl) (op_field fld_45_3 rfl) rfl ?_
          refine ol_q (wn_some rfl rfl rfl hb4 rfl) (op_ld 0 sc_3 rfl rfl (msgC_a34 _)) rfl ?_
          refine ol_q (wn_some rfl rfl rfl hb4 rfl) (op_eq rfl rfl) rfl ?_
          refine ol_q (wn_none rfl) (op_pick_t (v := .bool _) rfl hb4 rfl) rfl ?_
          refine ol_q (wn_none rfl) (op_move (v := .bool _) rfl) rfl ?_
          refine ol_split 34 rfl (fun hb5 => ?_) (fun hb5 => ?_)
          · have hp5 := hb5
            (try simp only [decide_eq_true_eq, decide_eq_false_iff_not, Bool.not_eq_true', Bool.not_eq_false', ne_eq, Decidable.not_not] at hp5)
            refine ol_q (wn_some rfl rfl rfl hb5 rfl) (op_lda (L := msgC _) 0 ag_45 rfl rfl (msgC_ta _) (by simp [msgC_len])) rfl ?_
            refine ol_i (wn_some rfl rfl rfl hb5 rfl) (os_call cb_35 rfl (fun w s => WGood_calls (bits := ([] : List Bool)) _ _ _ _ _ _ _ _  s (rds_row 1 rfl rfl) (by show 0 ≤ 1000; omega) (by show 0 < 18446744073709551616; omega))) rfl ?_; rintro _ l ⟨rfl, rfl⟩
            refine ol_q (wn_none rfl) (op_pick_t (v := .bool _) rfl hb5 rfl) rfl ?_
            refine ol_q (wn_none rfl) (op_assign (v := .bool _) rfl) rfl ?_
            refine ol_nil_then ?_
            refine cd_ret ?_
            exact px_ret1 rfl (v := .bool _) rfl (fun _ s => ((s.del 1).del 0)) ⟨congrArg Value.bool (by exact wal_good), rfl⟩
          · have hp5 := hb5
            (try simp only [decide_eq_true_eq, decide_eq_false_iff_not, Bool.not_eq_true', Bool.not_eq_false', ne_eq, Decidable.not_not] at hp5)
            exact Bool.noConfusion (show true = false from hb5)
        · have hp4 := hb4
          (try simp only [decide_eq_true_eq, decide_eq_false_iff_not, Bool.not_eq_true', Bool.not_eq_false', ne_eq, Decidable.not_not] at hp4)
          exact Bool.noConfusion (show true = false from hb4)
      · have hp3 := hb3
        (try simp only [decide_eq_true_eq, decide_eq_false_iff_not, Bool.not_eq_true', Bool.not_eq_false', ne_eq, Decidable.not_not] at hp3)
        exact Bool.noConfusion ((show decide (((walE.length : Nat) : Int) = 55) = true by rw [wal_len]; rfl).symm.trans hb3)
    · have hp2 := hb2
      (try simp only [decide_eq_true_eq, decide_eq_false_iff_not, Bool.not_eq_true', Bool.not_eq_false', ne_eq, Decidable.not_not] at hp2)
      exact Bool.noConfusion (show true = false from hb2)
  · have hp1 := hb1
    (try simp only [decide_eq_true_eq, decide_eq_false_iff_not, Bool.not_eq_true', Bool.not_eq_false', ne_eq, Decidable.not_not] at hp1)
    exact Bool.noConfusion (wal_good.symm.trans hb1)
end Go.SL

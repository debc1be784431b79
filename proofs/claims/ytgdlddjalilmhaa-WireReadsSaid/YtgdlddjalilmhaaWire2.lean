import Derived.Test.YtgdlddjalilmhaaWire
set_option linter.unusedVariables false
set_option linter.unusedSimpArgs false
namespace Go.SL
open Go.Proofs

set_option maxRecDepth 100000 in
set_option maxHeartbeats 1000000 in
theorem Decode_calls {w0 w : World} {l : List HProp} (src : List UInt8) (hs : Sat w0 w (l)) (hs1 : src.length ≤ 100000) :
    Calls Try.prog 25 #[.string (B src)] w (Ret w0 fun v l' => ∃ ao c, v = .tuple #[.agg (msgC ⟨(decP src).1.kind, (decP src).1.slot, (decP src).1.target, (decP src).1.member, (decP src).1.body, ⟨ao, (decP src).1.bits.length, c⟩, (decP src).1.tag⟩).toArray, .bool (decP src).2] ∧ l' = Row 4 encBool (.slice ao (decP src).1.bits.length c) (decP src).1.bits :: l) := by
  have ha1 := rdUint_lt1 ⟨src, false⟩
  have hb1 := rdUint_lt4 (rdUint ⟨src, false⟩ 1).2
  have hc1 := rdUint_lt2 (rdBytes (rdUint (rdUint ⟨src, false⟩ 1).2 4).2 32).2
  have hd1 := rdUint_lt8 (rdUint (rdBytes (rdUint (rdUint ⟨src, false⟩ 1).2 4).2 32).2 2).2
  have hr1 := rdUint_rest ⟨src, false⟩ 1
  have hr2 := rdUint_rest (rdUint ⟨src, false⟩ 1).2 4
  have hr3 := rdBytes_rest (rdUint (rdUint ⟨src, false⟩ 1).2 4).2 32
  have hr4 := rdBytes_len2 (rdBytes (rdUint (rdUint ⟨src, false⟩ 1).2 4).2 32).2 (((rdBytes (rdUint (rdUint ⟨src, false⟩ 1).2 4).2 32).2.rest.length : Int) - 16)
  dsimp only at hr1
  refine calls_enter Try.func25 rfl rfl rfl hs ?_
  refine cd_sr ?_   -- 0
  refine ol_i (wn_none rfl) (os_alloc (cs := (msgC Msg.zero).toArray) zB_45 (by kernel_rfl)) rfl ?_; rintro _ _ ⟨bx1, rfl, rfl⟩
  refine ol_q (wn_none rfl) (op_assign (v := .bool _) rfl) rfl ?_
  refine ol_nil_then ?_
  refine cd_sr ?_   -- 1
  refine ol_q (wn_none rfl) (op_move (v := .string _) rfl) rfl ?_
  refine ol_i (wn_none rfl) (os_call cb_45 rfl (fun w s => From_calls _  s )) rfl ?_; rintro _ _ ⟨p1, rfl, rfl⟩
  refine ol_q (wn_none rfl) (op_assign (v := .pointer _) rfl) rfl ?_
  refine ol_nil_then ?_
  refine cd_sr ?_   -- 2
  refine ol_q (wn_none rfl) (op_move (v := .pointer _) rfl) rfl ?_
  refine ol_i (wn_none rfl) (os_call cb_46 rfl (fun w s => Uint_calls (n := 1) _ _  s )) rfl ?_; rintro _ _ ⟨rfl, rfl⟩
  refine ol_q (wn_none rfl) (op_convint Try.underlying3 (by rw [Try.underlying32]; rfl) rfl (by omega)) rfl ?_
  refine ol_q (wn_none rfl) (op_move (v := .pointer _) rfl) rfl ?_
  refine ol_i (wn_none rfl) (os_call cb_46 rfl (fun w s => Uint_calls (n := 4) _ _  s )) rfl ?_; rintro _ _ ⟨rfl, rfl⟩
  refine ol_q (wn_none rfl) (op_convint Try.underlying3 (by rw [Try.underlying32]; rfl) rfl (by omega)) rfl ?_
  refine ol_q (wn_none rfl) (op_build (L := msgC _) (vs := [(0, .int _ _), (1, .int _ _)]) bB_45 rfl ⟨⟨rfl, by rw [msgC_len]; rfl⟩, ⟨rfl, by rw [msgC_len]; rfl⟩, trivial⟩ ((msgC_b0 _ _ _).trans ((msgC_b1 _ _ _).trans rfl))) rfl ?_
  refine ol_i (wn_none rfl) (os_alloc (cs := (msgC Msg.zero).toArray) zB_45 (by kernel_rfl)) rfl ?_; rintro _ _ ⟨bx2, rfl, rfl⟩
  refine ol_iN (wn_none rfl) (os_storew (msgC _) ag_45 rfl rfl (msgC_len _) (msgC_one _) (by simp [msgC_len]) (Free.zero _)) ?_; rintro _ _ ⟨rfl, rfl⟩
  refine ol_nil_then ?_
  refine cd_pull1 ?_
  refine cd_seq ?_   -- 3
  refine cd_drawt (M := [_]) mx [3] 4 (by kernel_rfl) rfl rfl ?_
  dsimp only [List.take_succ_cons, List.take_zero, List.drop_succ_cons, List.drop_zero]
  refine rg_q (wn_none rfl) (op_field fld_45_2 rfl) rfl rfl ?_
  refine rg_q (wn_none rfl) (op_slicea_all a1_40 rfl) rfl rfl ?_
  refine rg_q (wn_none rfl) (op_move (v := .pointer _) rfl) rfl rfl ?_
  refine rg_i (wn_none rfl) (os_call cb_47 rfl (fun w s => Bytes_calls (n := 32) _ _  s )) rfl rfl ?_; rintro _ _ ⟨rfl, rfl⟩; refine ⟨[_], rfl, ?_⟩
  refine rg_tail1 ?_
  refine ol_pull1 ?_
  refine ol_i (wn_none rfl) (os_copyf (r := (_ : Root).1) _ (msgC _) 55 rfl s1_55 rfl rfl (root_len _) (msgC_af2 _) (by simp [msgC_len]) (Free.zero _) (msgC_p2 _ (Root.over _ _))) rfl ?_; rintro _ _ ⟨rfl, rfl⟩
  refine ol_nil_then ?_
  refine cd_seq ?_
  refine cd_sr ?_   -- 4
  refine ol_q (wn_none rfl) (op_field fld_45_0 rfl) rfl ?_
  refine ol_q (wn_none rfl) (op_ld 0 sc_3 rfl rfl (show (msgC _).toArray[0]? = some (.int .i64 (((rdUint ⟨src, false⟩ 1).1 : Nat) : Int)) from msgC_a0 _)) rfl ?_
  refine ol_nil_then ?_
  refine cd_block ?_
  refine cd_sr ?_   -- 5
  refine ol_q (wn_none rfl) (op_eq rfl rfl) rfl ?_
  refine ol_q (wn_none rfl) (op_assign (v := .bool _) rfl) rfl ?_
  refine ol_nil_then ?_
  refine cd_cond rfl (fun hb1 => ?_) (fun hb1 => ?_)
  · have hp1 := hb1
    (try simp only [decide_eq_true_eq, decide_eq_false_iff_not, Bool.not_eq_true', Bool.not_eq_false', ne_eq, Decidable.not_not] at hp1)
    have hk1 : ((rdUint ⟨src, false⟩ 1).1 : Int) = 1 := by omega
    refine cd_region ?_   -- 6
    refine ol_q (wn_none rfl) (op_move (v := .pointer _) rfl) rfl ?_
    refine ol_pull1 ?_
    refine ol_i (wn_none rfl) (os_call cb_46 rfl (fun w s => Uint_calls (n := 2) _ _  s )) rfl ?_; rintro _ _ ⟨rfl, rfl⟩
    refine ol_q (wn_none rfl) (op_convint Try.underlying3 (by rw [Try.underlying32]; rfl) rfl (by omega)) rfl ?_
    refine ol_q (wn_none rfl) (op_move (v := .pointer _) rfl) rfl ?_
    refine ol_i (wn_none rfl) (os_call cb_46 rfl (fun w s => Uint_calls (n := 8) _ _  s )) rfl ?_; rintro _ _ ⟨rfl, rfl⟩
    refine ol_q (wn_none rfl) (op_field fld_45_3 rfl) rfl ?_
    refine ol_pull1 ?_
    refine ol_iN (wn_none rfl) (os_store (v := .int _ _) sc_3 rfl rfl rfl (by simp [msgC_len]) (Free.zero _) (msgC_s34 _ _)) ?_; rintro _ _ ⟨rfl, rfl⟩
    refine ol_q (wn_none rfl) (op_field fld_45_4 rfl) rfl ?_
    refine ol_iN (wn_none rfl) (os_store (v := .int _ _) sc_32 rfl rfl rfl (by simp [msgC_len]) (Free.zero _) (msgC_s35 _ _)) ?_; rintro _ _ ⟨rfl, rfl⟩
    refine ol_nil ?_
    refine px_blockN ?_
    refine px_then ?_
    refine cd_pull1 ?_
    refine cd_seq ?_   -- 14
    refine cd_drawt (M := [_]) mx [3] 4 (by kernel_rfl) rfl rfl ?_
    dsimp only [List.take_succ_cons, List.take_zero, List.drop_succ_cons, List.drop_zero]
    refine rg_q (wn_none rfl) (op_field fld_45_6 rfl) rfl rfl ?_
    refine rg_q (wn_none rfl) (op_slicea_all a1_43 rfl) rfl rfl ?_
    refine rg_q (wn_none rfl) (op_move (v := .pointer _) rfl) rfl rfl ?_
    refine rg_i (wn_none rfl) (os_call cb_47 rfl (fun w s => Bytes_calls (n := 16) _ _  s )) rfl rfl ?_; rintro _ _ ⟨rfl, rfl⟩; refine ⟨[_], rfl, ?_⟩
    refine rg_tail1 ?_
    refine ol_pull1 ?_
    refine ol_i (wn_none rfl) (os_copyf (r := (_ : Tag).1) _ (msgC _) 55 rfl s1_55 rfl rfl (tag_len _) (msgC_af37 _) (by simp [msgC_len]) (Free.zero _) (msgC_p37 _ (Tag.over _ _))) rfl ?_; rintro _ _ ⟨rfl, rfl⟩
    refine ol_nil_then ?_
    refine cd_seq ?_
    refine cd_sr ?_   -- 15
    refine ol_q (wn_none rfl) (op_move (v := .pointer _) rfl) rfl ?_
    refine ol_pull1 ?_
    refine ol_i (wn_none rfl) (os_call cb_50 rfl (fun w s => End_calls _ _  s )) rfl ?_; rintro _ _ ⟨rfl, rfl⟩
    refine ol_q (wn_none rfl) (op_not rfl) rfl ?_
    refine ol_q (wn_none rfl) (op_move (v := .bool _) rfl) rfl ?_
    refine ol_split 63 rfl (fun hb2 => ?_) (fun hb2 => ?_)
    · have hp2 := hb2
      (try simp only [decide_eq_true_eq, decide_eq_false_iff_not, Bool.not_eq_true', Bool.not_eq_false', ne_eq, Decidable.not_not] at hp2)
      have hend : endR (rdBytes (rdUint (rdUint (rdBytes (rdUint (rdUint ⟨src, false⟩ 1).2 4).2 32).2 2).2 8).2 16).2 = false := by have h9 : (!endR (rdBytes (rdUint (rdUint (rdBytes (rdUint (rdUint ⟨src, false⟩ 1).2 4).2 32).2 2).2 8).2 16).2) = true := hb2; simpa using h9
      refine ol_skip (wn_some rfl rfl rfl hb2 rfl) rfl ?_
      refine ol_skip (wn_some rfl rfl rfl hb2 rfl) rfl ?_
      refine ol_skip (wn_some rfl rfl rfl hb2 rfl) rfl ?_
      refine ol_q (wn_none rfl) (op_pick_t (v := .bool _) rfl hb2 rfl) rfl ?_
      refine ol_nil_then ?_
      refine cd_cond_t rfl rfl ?_
      refine cd_sr ?_   -- 16
      refine ol_q (wn_none rfl) (op_build (L := msgC _) (vs := []) bB_45 rfl trivial rfl) rfl ?_
      refine ol_pull2 ?_
      refine ol_iN (wn_none rfl) (os_storew (msgC _) ag_45 rfl rfl (msgC_len _) (msgC_one _) (by simp [msgC_len]) (Free.zero _)) ?_; rintro _ _ ⟨rfl, rfl⟩
      refine ol_q (wn_none rfl) (op_assign (v := .bool _) rfl) rfl ?_
      refine ol_nil_then ?_
      refine cd_ret ?_
      refine px_thenR ?_
      have hd : decP src = (MsgP.zero, false) := by
        unfold decP
        dsimp only
        rw [if_pos hk1, okW_no (by rintro ⟨q1, q2⟩; rw [hend] at q1; cases q1)]
      exact px_rv2 rfl (rv_cella 0 ag_45 rfl rfl (msgC_ta _) (by simp [msgC_len])) (rv_tmp rfl) (fun _ s => Sat.rowNil (((s.del 2).del 1).del 0)) ⟨none, 0, by rw [hd]; rfl, by rw [hd]; rfl⟩
    · have hp2 := hb2
      (try simp only [decide_eq_true_eq, decide_eq_false_iff_not, Bool.not_eq_true', Bool.not_eq_false', ne_eq, Decidable.not_not] at hp2)
      have hend : endR (rdBytes (rdUint (rdUint (rdBytes (rdUint (rdUint ⟨src, false⟩ 1).2 4).2 32).2 2).2 8).2 16).2 = true := by have h9 : (!endR (rdBytes (rdUint (rdUint (rdBytes (rdUint (rdUint ⟨src, false⟩ 1).2 4).2 32).2 2).2 8).2 16).2) = false := hb2; simpa using h9
      refine ol_q (wn_some rfl rfl rfl hb2 rfl) (op_lda (L := msgC _) 1 ag_45 rfl rfl (msgC_ta _) (by simp [msgC_len])) rfl ?_
      refine ol_i (wn_some rfl rfl rfl hb2 rfl) (os_call cb_35 rfl (fun w s => WGood_calls (bits := ([] : List Bool)) _ _ _ _ _ _ _ _  s (rds_nil _) (by show 0 ≤ 1000; omega) (by first | exact hd1 | (show 0 < _; omega)))) rfl ?_; rintro _ l ⟨rfl, rfl⟩
      refine ol_q (wn_some rfl rfl rfl hb2 rfl) (op_not rfl) rfl ?_
      refine ol_q (wn_none rfl) (op_pick_f (v := .bool _) rfl hb2 rfl) rfl ?_
      refine ol_nil_then ?_
      refine cd_cond rfl (fun hb3 => ?_) (fun hb3 => ?_)
      · have hp3 := hb3
        (try simp only [decide_eq_true_eq, decide_eq_false_iff_not, Bool.not_eq_true', Bool.not_eq_false', ne_eq, Decidable.not_not] at hp3)
        have hgd : goodW ((rdUint ⟨src, false⟩ 1).1 : Int) ((rdUint (rdUint ⟨src, false⟩ 1).2 4).1 : Int) ((rdUint (rdBytes (rdUint (rdUint ⟨src, false⟩ 1).2 4).2 32).2 2).1 : Int) (rdUint (rdUint (rdBytes (rdUint (rdUint ⟨src, false⟩ 1).2 4).2 32).2 2).2 8).1 [] = false := by have h9 : (!goodW ((rdUint ⟨src, false⟩ 1).1 : Int) ((rdUint (rdUint ⟨src, false⟩ 1).2 4).1 : Int) ((rdUint (rdBytes (rdUint (rdUint ⟨src, false⟩ 1).2 4).2 32).2 2).1 : Int) (rdUint (rdUint (rdBytes (rdUint (rdUint ⟨src, false⟩ 1).2 4).2 32).2 2).2 8).1 []) = true := hb3; simpa using h9
        refine cd_sr ?_   -- 16
        refine ol_q (wn_none rfl) (op_build (L := msgC _) (vs := []) bB_45 rfl trivial rfl) rfl ?_
        refine ol_pull2 ?_
        refine ol_iN (wn_none rfl) (os_storew (msgC _) ag_45 rfl rfl (msgC_len _) (msgC_one _) (by simp [msgC_len]) (Free.zero _)) ?_; rintro _ _ ⟨rfl, rfl⟩
        refine ol_q (wn_none rfl) (op_assign (v := .bool _) rfl) rfl ?_
        refine ol_nil_then ?_
        refine cd_ret ?_
        refine px_thenR ?_
        have hd : decP src = (MsgP.zero, false) := by
          unfold decP
          dsimp only
          rw [if_pos hk1, okW_no (by rintro ⟨q1, q2⟩; rw [show goodW _ _ _ _ _ = false from hgd] at q2; cases q2)]
        exact px_rv2 rfl (rv_cella 0 ag_45 rfl rfl (msgC_ta _) (by simp [msgC_len])) (rv_tmp rfl) (fun _ s => Sat.rowNil (((s.del 2).del 1).del 0)) ⟨none, 0, by rw [hd]; rfl, by rw [hd]; rfl⟩
      · have hp3 := hb3
        (try simp only [decide_eq_true_eq, decide_eq_false_iff_not, Bool.not_eq_true', Bool.not_eq_false', ne_eq, Decidable.not_not] at hp3)
        have hgd : goodW ((rdUint ⟨src, false⟩ 1).1 : Int) ((rdUint (rdUint ⟨src, false⟩ 1).2 4).1 : Int) ((rdUint (rdBytes (rdUint (rdUint ⟨src, false⟩ 1).2 4).2 32).2 2).1 : Int) (rdUint (rdUint (rdBytes (rdUint (rdUint ⟨src, false⟩ 1).2 4).2 32).2 2).2 8).1 [] = true := by have h9 : (!goodW ((rdUint ⟨src, false⟩ 1).1 : Int) ((rdUint (rdUint ⟨src, false⟩ 1).2 4).1 : Int) ((rdUint (rdBytes (rdUint (rdUint ⟨src, false⟩ 1).2 4).2 32).2 2).1 : Int) (rdUint (rdUint (rdBytes (rdUint (rdUint ⟨src, false⟩ 1).2 4).2 32).2 2).2 8).1 []) = false := hb3; simpa using h9
        refine cd_skip ?_
        refine px_then ?_
        refine cd_sr ?_   -- 17
        refine ol_q (wn_none rfl) (op_lda (L := msgC _) 1 ag_45 rfl rfl (msgC_ta _) (by simp [msgC_len])) rfl ?_
        refine ol_pull2 ?_
        refine ol_iN (wn_none rfl) (os_storew (msgC _) ag_45 rfl rfl (msgC_len _) (msgC_one _) (by simp [msgC_len]) (Free.zero _)) ?_; rintro _ _ ⟨rfl, rfl⟩
        refine ol_q (wn_none rfl) (op_assign (v := .bool _) rfl) rfl ?_
        refine ol_nil_then ?_
        refine cd_ret ?_
        have hd : decP src = (⟨(rdUint ⟨src, false⟩ 1).1, (rdUint (rdUint ⟨src, false⟩ 1).2 4).1, (Root.zero.over (rdBytes (rdUint (rdUint ⟨src, false⟩ 1).2 4).2 32).1), (rdUint (rdBytes (rdUint (rdUint ⟨src, false⟩ 1).2 4).2 32).2 2).1, (rdUint (rdUint (rdBytes (rdUint (rdUint ⟨src, false⟩ 1).2 4).2 32).2 2).2 8).1, [], Tag.zero.over (rdBytes (rdUint (rdUint (rdBytes (rdUint (rdUint ⟨src, false⟩ 1).2 4).2 32).2 2).2 8).2 16).1⟩, true) := by
          unfold decP
          dsimp only
          rw [if_pos hk1, okW_yes hend hgd]
        exact px_rv2 rfl (rv_cella 0 ag_45 rfl rfl (msgC_ta _) (by simp [msgC_len])) (rv_tmp rfl) (fun _ s => Sat.rowNil (((s.del 2).del 1).del 0)) ⟨none, 0, by rw [hd]; rfl, by rw [hd]; rfl⟩
  · have hp1 := hb1
    (try simp only [decide_eq_true_eq, decide_eq_false_iff_not, Bool.not_eq_true', Bool.not_eq_false', ne_eq, Decidable.not_not] at hp1)
    have hk1 : ¬ ((rdUint ⟨src, false⟩ 1).1 : Int) = 1 := by omega
    refine cd_sr ?_   -- 7
    refine ol_q (wn_none rfl) (op_eq rfl rfl) rfl ?_
    refine ol_q (wn_none rfl) (op_assign (v := .bool _) rfl) rfl ?_
    refine ol_nil_then ?_
    refine cd_cond rfl (fun hb4 => ?_) (fun hb4 => ?_)
    · have hp4 := hb4
      (try simp only [decide_eq_true_eq, decide_eq_false_iff_not, Bool.not_eq_true', Bool.not_eq_false', ne_eq, Decidable.not_not] at hp4)
      have hk2 : ((rdUint ⟨src, false⟩ 1).1 : Int) = 2 := by omega
      refine cd_region ?_   -- 8
      refine ol_q (wn_none rfl) (op_move (v := .pointer _) rfl) rfl ?_
      refine ol_pull1 ?_
      refine ol_i (wn_none rfl) (os_call cb_46 rfl (fun w s => Uint_calls (n := 2) _ _  s )) rfl ?_; rintro _ _ ⟨rfl, rfl⟩
      refine ol_q (wn_none rfl) (op_convint Try.underlying3 (by rw [Try.underlying32]; rfl) rfl (by omega)) rfl ?_
      refine ol_q (wn_none rfl) (op_field fld_45_3 rfl) rfl ?_
      refine ol_pull1 ?_
      refine ol_iN (wn_none rfl) (os_store (v := .int _ _) sc_3 rfl rfl rfl (by simp [msgC_len]) (Free.zero _) (msgC_s34 _ _)) ?_; rintro _ _ ⟨rfl, rfl⟩
      refine ol_nil ?_
      refine px_blockN ?_
      refine px_then ?_
      refine cd_pull1 ?_
      refine cd_seq ?_   -- 14
      refine cd_drawt (M := [_]) mx [3] 4 (by kernel_rfl) rfl rfl ?_
      dsimp only [List.take_succ_cons, List.take_zero, List.drop_succ_cons, List.drop_zero]
      refine rg_q (wn_none rfl) (op_field fld_45_6 rfl) rfl rfl ?_
      refine rg_q (wn_none rfl) (op_slicea_all a1_43 rfl) rfl rfl ?_
      refine rg_q (wn_none rfl) (op_move (v := .pointer _) rfl) rfl rfl ?_
      refine rg_i (wn_none rfl) (os_call cb_47 rfl (fun w s => Bytes_calls (n := 16) _ _  s )) rfl rfl ?_; rintro _ _ ⟨rfl, rfl⟩; refine ⟨[_], rfl, ?_⟩
      refine rg_tail1 ?_
      refine ol_pull1 ?_
      refine ol_i (wn_none rfl) (os_copyf (r := (_ : Tag).1) _ (msgC _) 55 rfl s1_55 rfl rfl (tag_len _) (msgC_af37 _) (by simp [msgC_len]) (Free.zero _) (msgC_p37 _ (Tag.over _ _))) rfl ?_; rintro _ _ ⟨rfl, rfl⟩
      refine ol_nil_then ?_
      refine cd_seq ?_
      refine cd_sr ?_   -- 15
      refine ol_q (wn_none rfl) (op_move (v := .pointer _) rfl) rfl ?_
      refine ol_pull1 ?_
      refine ol_i (wn_none rfl) (os_call cb_50 rfl (fun w s => End_calls _ _  s )) rfl ?_; rintro _ _ ⟨rfl, rfl⟩
      refine ol_q (wn_none rfl) (op_not rfl) rfl ?_
      refine ol_q (wn_none rfl) (op_move (v := .bool _) rfl) rfl ?_
      refine ol_split 63 rfl (fun hb5 => ?_) (fun hb5 => ?_)
      · have hp5 := hb5
        (try simp only [decide_eq_true_eq, decide_eq_false_iff_not, Bool.not_eq_true', Bool.not_eq_false', ne_eq, Decidable.not_not] at hp5)
        have hend : endR (rdBytes (rdUint (rdBytes (rdUint (rdUint ⟨src, false⟩ 1).2 4).2 32).2 2).2 16).2 = false := by have h9 : (!endR (rdBytes (rdUint (rdBytes (rdUint (rdUint ⟨src, false⟩ 1).2 4).2 32).2 2).2 16).2) = true := hb5; simpa using h9
        refine ol_skip (wn_some rfl rfl rfl hb5 rfl) rfl ?_
        refine ol_skip (wn_some rfl rfl rfl hb5 rfl) rfl ?_
        refine ol_skip (wn_some rfl rfl rfl hb5 rfl) rfl ?_
        refine ol_q (wn_none rfl) (op_pick_t (v := .bool _) rfl hb5 rfl) rfl ?_
        refine ol_nil_then ?_
        refine cd_cond_t rfl rfl ?_
        refine cd_sr ?_   -- 16
        refine ol_q (wn_none rfl) (op_build (L := msgC _) (vs := []) bB_45 rfl trivial rfl) rfl ?_
        refine ol_pull2 ?_
        refine ol_iN (wn_none rfl) (os_storew (msgC _) ag_45 rfl rfl (msgC_len _) (msgC_one _) (by simp [msgC_len]) (Free.zero _)) ?_; rintro _ _ ⟨rfl, rfl⟩
        refine ol_q (wn_none rfl) (op_assign (v := .bool _) rfl) rfl ?_
        refine ol_nil_then ?_
        refine cd_ret ?_
        refine px_thenR ?_
        have hd : decP src = (MsgP.zero, false) := by
          unfold decP
          dsimp only
          rw [if_neg hk1, if_pos hk2, okW_no (by rintro ⟨q1, q2⟩; rw [hend] at q1; cases q1)]
        exact px_rv2 rfl (rv_cella 0 ag_45 rfl rfl (msgC_ta _) (by simp [msgC_len])) (rv_tmp rfl) (fun _ s => Sat.rowNil (((s.del 2).del 1).del 0)) ⟨none, 0, by rw [hd]; rfl, by rw [hd]; rfl⟩
      · have hp5 := hb5
        (try simp only [decide_eq_true_eq, decide_eq_false_iff_not, Bool.not_eq_true', Bool.not_eq_false', ne_eq, Decidable.not_not] at hp5)
        have hend : endR (rdBytes (rdUint (rdBytes (rdUint (rdUint ⟨src, false⟩ 1).2 4).2 32).2 2).2 16).2 = true := by have h9 : (!endR (rdBytes (rdUint (rdBytes (rdUint (rdUint ⟨src, false⟩ 1).2 4).2 32).2 2).2 16).2) = false := hb5; simpa using h9
        refine ol_q (wn_some rfl rfl rfl hb5 rfl) (op_lda (L := msgC _) 1 ag_45 rfl rfl (msgC_ta _) (by simp [msgC_len])) rfl ?_
        refine ol_i (wn_some rfl rfl rfl hb5 rfl) (os_call cb_35 rfl (fun w s => WGood_calls (bits := ([] : List Bool)) _ _ _ _ _ _ _ _  s (rds_nil _) (by show 0 ≤ 1000; omega) (by first | exact hd1 | (show 0 < _; omega)))) rfl ?_; rintro _ l ⟨rfl, rfl⟩
        refine ol_q (wn_some rfl rfl rfl hb5 rfl) (op_not rfl) rfl ?_
        refine ol_q (wn_none rfl) (op_pick_f (v := .bool _) rfl hb5 rfl) rfl ?_
        refine ol_nil_then ?_
        refine cd_cond rfl (fun hb6 => ?_) (fun hb6 => ?_)
        · have hp6 := hb6
          (try simp only [decide_eq_true_eq, decide_eq_false_iff_not, Bool.not_eq_true', Bool.not_eq_false', ne_eq, Decidable.not_not] at hp6)
          have hgd : goodW ((rdUint ⟨src, false⟩ 1).1 : Int) ((rdUint (rdUint ⟨src, false⟩ 1).2 4).1 : Int) ((rdUint (rdBytes (rdUint (rdUint ⟨src, false⟩ 1).2 4).2 32).2 2).1 : Int) 0 [] = false := by have h9 : (!goodW ((rdUint ⟨src, false⟩ 1).1 : Int) ((rdUint (rdUint ⟨src, false⟩ 1).2 4).1 : Int) ((rdUint (rdBytes (rdUint (rdUint ⟨src, false⟩ 1).2 4).2 32).2 2).1 : Int) 0 []) = true := hb6; simpa using h9
          refine cd_sr ?_   -- 16
          refine ol_q (wn_none rfl) (op_build (L := msgC _) (vs := []) bB_45 rfl trivial rfl) rfl ?_
          refine ol_pull2 ?_
          refine ol_iN (wn_none rfl) (os_storew (msgC _) ag_45 rfl rfl (msgC_len _) (msgC_one _) (by simp [msgC_len]) (Free.zero _)) ?_; rintro _ _ ⟨rfl, rfl⟩
          refine ol_q (wn_none rfl) (op_assign (v := .bool _) rfl) rfl ?_
          refine ol_nil_then ?_
          refine cd_ret ?_
          refine px_thenR ?_
          have hd : decP src = (MsgP.zero, false) := by
            unfold decP
            dsimp only
            rw [if_neg hk1, if_pos hk2, okW_no (by rintro ⟨q1, q2⟩; rw [show goodW _ _ _ _ _ = false from hgd] at q2; cases q2)]
          exact px_rv2 rfl (rv_cella 0 ag_45 rfl rfl (msgC_ta _) (by simp [msgC_len])) (rv_tmp rfl) (fun _ s => Sat.rowNil (((s.del 2).del 1).del 0)) ⟨none, 0, by rw [hd]; rfl, by rw [hd]; rfl⟩
        · have hp6 := hb6
          (try simp only [decide_eq_true_eq, decide_eq_false_iff_not, Bool.not_eq_true', Bool.not_eq_false', ne_eq, Decidable.not_not] at hp6)
          have hgd : goodW ((rdUint ⟨src, false⟩ 1).1 : Int) ((rdUint (rdUint ⟨src, false⟩ 1).2 4).1 : Int) ((rdUint (rdBytes (rdUint (rdUint ⟨src, false⟩ 1).2 4).2 32).2 2).1 : Int) 0 [] = true := by have h9 : (!goodW ((rdUint ⟨src, false⟩ 1).1 : Int) ((rdUint (rdUint ⟨src, false⟩ 1).2 4).1 : Int) ((rdUint (rdBytes (rdUint (rdUint ⟨src, false⟩ 1).2 4).2 32).2 2).1 : Int) 0 []) = false := hb6; simpa using h9
          refine cd_skip ?_
          refine px_then ?_
          refine cd_sr ?_   -- 17
          refine ol_q (wn_none rfl) (op_lda (L := msgC _) 1 ag_45 rfl rfl (msgC_ta _) (by simp [msgC_len])) rfl ?_
          refine ol_pull2 ?_
          refine ol_iN (wn_none rfl) (os_storew (msgC _) ag_45 rfl rfl (msgC_len _) (msgC_one _) (by simp [msgC_len]) (Free.zero _)) ?_; rintro _ _ ⟨rfl, rfl⟩
          refine ol_q (wn_none rfl) (op_assign (v := .bool _) rfl) rfl ?_
          refine ol_nil_then ?_
          refine cd_ret ?_
          have hd : decP src = (⟨(rdUint ⟨src, false⟩ 1).1, (rdUint (rdUint ⟨src, false⟩ 1).2 4).1, (Root.zero.over (rdBytes (rdUint (rdUint ⟨src, false⟩ 1).2 4).2 32).1), (rdUint (rdBytes (rdUint (rdUint ⟨src, false⟩ 1).2 4).2 32).2 2).1, 0, [], Tag.zero.over (rdBytes (rdUint (rdBytes (rdUint (rdUint ⟨src, false⟩ 1).2 4).2 32).2 2).2 16).1⟩, true) := by
            unfold decP
            dsimp only
            rw [if_neg hk1, if_pos hk2, okW_yes hend hgd]
          exact px_rv2 rfl (rv_cella 0 ag_45 rfl rfl (msgC_ta _) (by simp [msgC_len])) (rv_tmp rfl) (fun _ s => Sat.rowNil (((s.del 2).del 1).del 0)) ⟨none, 0, by rw [hd]; rfl, by rw [hd]; rfl⟩
    · have hp4 := hb4
      (try simp only [decide_eq_true_eq, decide_eq_false_iff_not, Bool.not_eq_true', Bool.not_eq_false', ne_eq, Decidable.not_not] at hp4)
      have hk2 : ¬ ((rdUint ⟨src, false⟩ 1).1 : Int) = 2 := by omega
      refine cd_sr ?_   -- 9
      refine ol_q (wn_none rfl) (op_eq rfl rfl) rfl ?_
      refine ol_q (wn_none rfl) (op_assign (v := .bool _) rfl) rfl ?_
      refine ol_nil_then ?_
      refine cd_cond rfl (fun hb7 => ?_) (fun hb7 => ?_)
      · have hp7 := hb7
        (try simp only [decide_eq_true_eq, decide_eq_false_iff_not, Bool.not_eq_true', Bool.not_eq_false', ne_eq, Decidable.not_not] at hp7)
        have hk3 : ((rdUint ⟨src, false⟩ 1).1 : Int) = 3 := by omega
        refine cd_sr ?_   -- 10
        refine ol_q (wn_none rfl) (op_move (v := .pointer _) rfl) rfl ?_
        refine ol_q (wn_none rfl) (op_move (v := .pointer _) rfl) rfl ?_
        refine ol_pull1 ?_
        refine ol_i (wn_none rfl) (os_call cb_49 rfl (fun w s => Left_calls _ _  s )) rfl ?_; rintro _ _ ⟨rfl, rfl⟩
        refine ol_q (wn_none rfl) (op_sub rfl rfl (by omega) (by omega)) rfl ?_
        refine ol_i (wn_none rfl) (os_call cb_47 rfl (fun w s => Bytes_calls _ _ _  s )) rfl ?_; rintro _ _ ⟨rfl, rfl⟩
        refine ol_i (wn_none rfl) (os_call cb_48 rfl (fun w s => BGet_calls (most := 16) _  s (by first | omega | (simp; done) | (simp; omega)))) rfl ?_; rintro _ _ ⟨ga16, gc16, rfl, rfl⟩
        refine ol_q (wn_none rfl) (op_move (v := .tuple _) rfl) rfl ?_
        refine ol_q (wn_none rfl) (op_extract (v := .slice _ _ _) rfl rfl) rfl ?_
        refine ol_q (wn_none rfl) (op_extract (v := .bool _) rfl rfl) rfl ?_
        refine ol_q (wn_none rfl) (op_assign (v := .slice _ _ _) rfl) rfl ?_
        refine ol_q (wn_none rfl) (op_assign (v := .bool _) rfl) rfl ?_
        refine ol_nil_then ?_
        refine cd_seq ?_
        refine cd_sr ?_   -- 11
        refine ol_q (wn_none rfl) (op_move (v := .bool _) rfl) rfl ?_
        refine ol_q (wn_none rfl) (op_not rfl) rfl ?_
        refine ol_nil_then ?_
        refine cd_cond rfl (fun hb8 => ?_) (fun hb8 => ?_)
        · have hp8 := hb8
          (try simp only [decide_eq_true_eq, decide_eq_false_iff_not, Bool.not_eq_true', Bool.not_eq_false', ne_eq, Decidable.not_not] at hp8)
          have hgo : ¬ (getB (rdBytes (rdBytes (rdUint (rdUint ⟨src, false⟩ 1).2 4).2 32).2 (((rdBytes (rdUint (rdUint ⟨src, false⟩ 1).2 4).2 32).2.rest.length : Int) - 16)).1 16).isSome = true := by simpa using hb8
          refine cd_sr ?_   -- 12
          refine ol_q (wn_none rfl) (op_build (L := msgC _) (vs := []) bB_45 rfl trivial rfl) rfl ?_
          refine ol_pull3 ?_
          refine ol_iN (wn_none rfl) (os_storew (msgC _) ag_45 rfl rfl (msgC_len _) (msgC_one _) (by simp [msgC_len]) (Free.zero _)) ?_; rintro _ _ ⟨rfl, rfl⟩
          refine ol_q (wn_none rfl) (op_assign (v := .bool _) rfl) rfl ?_
          refine ol_nil_then ?_
          refine cd_ret ?_
          refine px_thenR ?_
          refine px_blockR ?_
          refine px_thenR ?_
          have hd : decP src = (MsgP.zero, false) := by
            unfold decP
            dsimp only
            rw [if_neg hk1, if_neg hk2, if_pos hk3, if_neg hgo]
          exact px_rv2 rfl (rv_cella 0 ag_45 rfl rfl (msgC_ta _) (by simp [msgC_len])) (rv_tmp rfl) (fun _ s => Sat.rowNil ((((s.del 3).del 2).del 1).del 0)) ⟨none, 0, by rw [hd]; rfl, by rw [hd]; rfl⟩
        · have hp8 := hb8
          (try simp only [decide_eq_true_eq, decide_eq_false_iff_not, Bool.not_eq_true', Bool.not_eq_false', ne_eq, Decidable.not_not] at hp8)
          have hgo : (getB (rdBytes (rdBytes (rdUint (rdUint ⟨src, false⟩ 1).2 4).2 32).2 (((rdBytes (rdUint (rdUint ⟨src, false⟩ 1).2 4).2 32).2.rest.length : Int) - 16)).1 16).isSome = true := by simpa using hb8
          refine cd_skip ?_
          refine px_then ?_
          refine cd_region ?_   -- 13
          refine ol_q (wn_none rfl) (op_move (v := .slice _ _ _) rfl) rfl ?_
          refine ol_q (wn_none rfl) (op_field fld_45_5 rfl) rfl ?_
          refine ol_pull2 ?_
          refine ol_iN (wn_none rfl) (os_store (v := .slice _ _ _) sc_41 rfl rfl rfl (by simp [msgC_len]) (Free.zero _) (msgC_s36 _ ⟨_, _, _⟩)) ?_; rintro _ _ ⟨rfl, rfl⟩
          refine ol_nil ?_
          refine px_blockN ?_
          refine px_then ?_
          refine cd_pull2 ?_
          refine cd_seq ?_   -- 14
          refine cd_drawt (M := [_]) mx [3] 4 (by kernel_rfl) rfl rfl ?_
          dsimp only [List.take_succ_cons, List.take_zero, List.drop_succ_cons, List.drop_zero]
          refine rg_q (wn_none rfl) (op_field fld_45_6 rfl) rfl rfl ?_
          refine rg_q (wn_none rfl) (op_slicea_all a1_43 rfl) rfl rfl ?_
          refine rg_q (wn_none rfl) (op_move (v := .pointer _) rfl) rfl rfl ?_
          refine rg_i (wn_none rfl) (os_call cb_47 rfl (fun w s => Bytes_calls (n := 16) _ _  s )) rfl rfl ?_; rintro _ _ ⟨rfl, rfl⟩; refine ⟨[_], rfl, ?_⟩
          refine rg_tail1 ?_
          refine ol_pull1 ?_
          refine ol_i (wn_none rfl) (os_copyf (r := (_ : Tag).1) _ (msgC _) 55 rfl s1_55 rfl rfl (tag_len _) (msgC_af37 _) (by simp [msgC_len]) (Free.zero _) (msgC_p37 _ (Tag.over _ _))) rfl ?_; rintro _ _ ⟨rfl, rfl⟩
          refine ol_nil_then ?_
          refine cd_seq ?_
          refine cd_sr ?_   -- 15
          refine ol_q (wn_none rfl) (op_move (v := .pointer _) rfl) rfl ?_
          refine ol_pull1 ?_
          refine ol_i (wn_none rfl) (os_call cb_50 rfl (fun w s => End_calls _ _  s )) rfl ?_; rintro _ _ ⟨rfl, rfl⟩
          refine ol_q (wn_none rfl) (op_not rfl) rfl ?_
          refine ol_q (wn_none rfl) (op_move (v := .bool _) rfl) rfl ?_
          refine ol_split 63 rfl (fun hb9 => ?_) (fun hb9 => ?_)
          · have hp9 := hb9
            (try simp only [decide_eq_true_eq, decide_eq_false_iff_not, Bool.not_eq_true', Bool.not_eq_false', ne_eq, Decidable.not_not] at hp9)
            have hend : endR (rdBytes (rdBytes (rdBytes (rdUint (rdUint ⟨src, false⟩ 1).2 4).2 32).2 (((rdBytes (rdUint (rdUint ⟨src, false⟩ 1).2 4).2 32).2.rest.length : Int) - 16)).2 16).2 = false := by have h9 : (!endR (rdBytes (rdBytes (rdBytes (rdUint (rdUint ⟨src, false⟩ 1).2 4).2 32).2 (((rdBytes (rdUint (rdUint ⟨src, false⟩ 1).2 4).2 32).2.rest.length : Int) - 16)).2 16).2) = true := hb9; simpa using h9
            refine ol_skip (wn_some rfl rfl rfl hb9 rfl) rfl ?_
            refine ol_skip (wn_some rfl rfl rfl hb9 rfl) rfl ?_
            refine ol_skip (wn_some rfl rfl rfl hb9 rfl) rfl ?_
            refine ol_q (wn_none rfl) (op_pick_t (v := .bool _) rfl hb9 rfl) rfl ?_
            refine ol_nil_then ?_
            refine cd_cond_t rfl rfl ?_
            refine cd_sr ?_   -- 16
            refine ol_q (wn_none rfl) (op_build (L := msgC _) (vs := []) bB_45 rfl trivial rfl) rfl ?_
            refine ol_pull3 ?_
            refine ol_iN (wn_none rfl) (os_storew (msgC _) ag_45 rfl rfl (msgC_len _) (msgC_one _) (by simp [msgC_len]) (Free.zero _)) ?_; rintro _ _ ⟨rfl, rfl⟩
            refine ol_q (wn_none rfl) (op_assign (v := .bool _) rfl) rfl ?_
            refine ol_nil_then ?_
            refine cd_ret ?_
            refine px_thenR ?_
            have hd : decP src = (MsgP.zero, false) := by
              unfold decP
              dsimp only
              rw [if_neg hk1, if_neg hk2, if_pos hk3, if_pos hgo, okW_no (by rintro ⟨q1, q2⟩; rw [hend] at q1; cases q1)]
            exact px_rv2 rfl (rv_cella 0 ag_45 rfl rfl (msgC_ta _) (by simp [msgC_len])) (rv_tmp rfl) (fun _ s => Sat.rowNil ((((s.del 3).del 2).del 1).del 0)) ⟨none, 0, by rw [hd]; rfl, by rw [hd]; rfl⟩
          · have hp9 := hb9
            (try simp only [decide_eq_true_eq, decide_eq_false_iff_not, Bool.not_eq_true', Bool.not_eq_false', ne_eq, Decidable.not_not] at hp9)
            have hend : endR (rdBytes (rdBytes (rdBytes (rdUint (rdUint ⟨src, false⟩ 1).2 4).2 32).2 (((rdBytes (rdUint (rdUint ⟨src, false⟩ 1).2 4).2 32).2.rest.length : Int) - 16)).2 16).2 = true := by have h9 : (!endR (rdBytes (rdBytes (rdBytes (rdUint (rdUint ⟨src, false⟩ 1).2 4).2 32).2 (((rdBytes (rdUint (rdUint ⟨src, false⟩ 1).2 4).2 32).2.rest.length : Int) - 16)).2 16).2) = false := hb9; simpa using h9
            refine ol_q (wn_some rfl rfl rfl hb9 rfl) (op_lda (L := msgC _) 1 ag_45 rfl rfl (msgC_ta _) (by simp [msgC_len])) rfl ?_
            refine ol_i (wn_some rfl rfl rfl hb9 rfl) (os_call cb_35 rfl (fun w s => WGood_calls (bits := (getD' (rdBytes (rdBytes (rdUint (rdUint ⟨src, false⟩ 1).2 4).2 32).2 (((rdBytes (rdUint (rdUint ⟨src, false⟩ 1).2 4).2 32).2.rest.length : Int) - 16)).1 16)) _ _ _ _ _ _ _ _  s (rds_row 2 rfl rfl) (by have := (getB_back (most := 16) hgo).2; omega) (by first | exact hd1 | (show 0 < _; omega)))) rfl ?_; rintro _ l ⟨rfl, rfl⟩
            refine ol_q (wn_some rfl rfl rfl hb9 rfl) (op_not rfl) rfl ?_
            refine ol_q (wn_none rfl) (op_pick_f (v := .bool _) rfl hb9 rfl) rfl ?_
            refine ol_nil_then ?_
            refine cd_cond rfl (fun hb10 => ?_) (fun hb10 => ?_)
            · have hp10 := hb10
              (try simp only [decide_eq_true_eq, decide_eq_false_iff_not, Bool.not_eq_true', Bool.not_eq_false', ne_eq, Decidable.not_not] at hp10)
              have hgd : goodW ((rdUint ⟨src, false⟩ 1).1 : Int) ((rdUint (rdUint ⟨src, false⟩ 1).2 4).1 : Int) 0 0 (getD' (rdBytes (rdBytes (rdUint (rdUint ⟨src, false⟩ 1).2 4).2 32).2 (((rdBytes (rdUint (rdUint ⟨src, false⟩ 1).2 4).2 32).2.rest.length : Int) - 16)).1 16) = false := by have h9 : (!goodW ((rdUint ⟨src, false⟩ 1).1 : Int) ((rdUint (rdUint ⟨src, false⟩ 1).2 4).1 : Int) 0 0 (getD' (rdBytes (rdBytes (rdUint (rdUint ⟨src, false⟩ 1).2 4).2 32).2 (((rdBytes (rdUint (rdUint ⟨src, false⟩ 1).2 4).2 32).2.rest.length : Int) - 16)).1 16)) = true := hb10; simpa using h9
              refine cd_sr ?_   -- 16
              refine ol_q (wn_none rfl) (op_build (L := msgC _) (vs := []) bB_45 rfl trivial rfl) rfl ?_
              refine ol_pull3 ?_
              refine ol_iN (wn_none rfl) (os_storew (msgC _) ag_45 rfl rfl (msgC_len _) (msgC_one _) (by simp [msgC_len]) (Free.zero _)) ?_; rintro _ _ ⟨rfl, rfl⟩
              refine ol_q (wn_none rfl) (op_assign (v := .bool _) rfl) rfl ?_
              refine ol_nil_then ?_
              refine cd_ret ?_
              refine px_thenR ?_
              have hd : decP src = (MsgP.zero, false) := by
                unfold decP
                dsimp only
                rw [if_neg hk1, if_neg hk2, if_pos hk3, if_pos hgo, okW_no (by rintro ⟨q1, q2⟩; rw [show goodW _ _ _ _ _ = false from hgd] at q2; cases q2)]
              exact px_rv2 rfl (rv_cella 0 ag_45 rfl rfl (msgC_ta _) (by simp [msgC_len])) (rv_tmp rfl) (fun _ s => Sat.rowNil ((((s.del 3).del 2).del 1).del 0)) ⟨none, 0, by rw [hd]; rfl, by rw [hd]; rfl⟩
            · have hp10 := hb10
              (try simp only [decide_eq_true_eq, decide_eq_false_iff_not, Bool.not_eq_true', Bool.not_eq_false', ne_eq, Decidable.not_not] at hp10)
              have hgd : goodW ((rdUint ⟨src, false⟩ 1).1 : Int) ((rdUint (rdUint ⟨src, false⟩ 1).2 4).1 : Int) 0 0 (getD' (rdBytes (rdBytes (rdUint (rdUint ⟨src, false⟩ 1).2 4).2 32).2 (((rdBytes (rdUint (rdUint ⟨src, false⟩ 1).2 4).2 32).2.rest.length : Int) - 16)).1 16) = true := by have h9 : (!goodW ((rdUint ⟨src, false⟩ 1).1 : Int) ((rdUint (rdUint ⟨src, false⟩ 1).2 4).1 : Int) 0 0 (getD' (rdBytes (rdBytes (rdUint (rdUint ⟨src, false⟩ 1).2 4).2 32).2 (((rdBytes (rdUint (rdUint ⟨src, false⟩ 1).2 4).2 32).2.rest.length : Int) - 16)).1 16)) = false := hb10; simpa using h9
              refine cd_skip ?_
              refine px_then ?_
              refine cd_sr ?_   -- 17
              refine ol_q (wn_none rfl) (op_lda (L := msgC _) 1 ag_45 rfl rfl (msgC_ta _) (by simp [msgC_len])) rfl ?_
              refine ol_pull3 ?_
              refine ol_iN (wn_none rfl) (os_storew (msgC _) ag_45 rfl rfl (msgC_len _) (msgC_one _) (by simp [msgC_len]) (Free.zero _)) ?_; rintro _ _ ⟨rfl, rfl⟩
              refine ol_q (wn_none rfl) (op_assign (v := .bool _) rfl) rfl ?_
              refine ol_nil_then ?_
              refine cd_ret ?_
              have hd : decP src = (⟨(rdUint ⟨src, false⟩ 1).1, (rdUint (rdUint ⟨src, false⟩ 1).2 4).1, (Root.zero.over (rdBytes (rdUint (rdUint ⟨src, false⟩ 1).2 4).2 32).1), 0, 0, getD' (rdBytes (rdBytes (rdUint (rdUint ⟨src, false⟩ 1).2 4).2 32).2 (((rdBytes (rdUint (rdUint ⟨src, false⟩ 1).2 4).2 32).2.rest.length : Int) - 16)).1 16, Tag.zero.over (rdBytes (rdBytes (rdBytes (rdUint (rdUint ⟨src, false⟩ 1).2 4).2 32).2 (((rdBytes (rdUint (rdUint ⟨src, false⟩ 1).2 4).2 32).2.rest.length : Int) - 16)).2 16).1⟩, true) := by
                unfold decP
                dsimp only
                rw [if_neg hk1, if_neg hk2, if_pos hk3, if_pos hgo, okW_yes hend hgd]
              exact px_rv2 rfl (rv_cella 0 ag_45 rfl rfl (msgC_ta _) (by simp [msgC_len])) (rv_tmp rfl) (fun _ s => (((s.del 2).del 1).del 0)) ⟨ga16, gc16, by rw [hd]; rfl, by rw [hd]; rfl⟩
      · have hp7 := hb7
        (try simp only [decide_eq_true_eq, decide_eq_false_iff_not, Bool.not_eq_true', Bool.not_eq_false', ne_eq, Decidable.not_not] at hp7)
        have hk3 : ¬ ((rdUint ⟨src, false⟩ 1).1 : Int) = 3 := by omega
        refine cd_skip ?_
        refine px_blockN ?_
        refine px_then ?_
        refine cd_pull1 ?_
        refine cd_seq ?_   -- 14
        refine cd_drawt (M := [_]) mx [3] 4 (by kernel_rfl) rfl rfl ?_
        dsimp only [List.take_succ_cons, List.take_zero, List.drop_succ_cons, List.drop_zero]
        refine rg_q (wn_none rfl) (op_field fld_45_6 rfl) rfl rfl ?_
        refine rg_q (wn_none rfl) (op_slicea_all a1_43 rfl) rfl rfl ?_
        refine rg_q (wn_none rfl) (op_move (v := .pointer _) rfl) rfl rfl ?_
        refine rg_i (wn_none rfl) (os_call cb_47 rfl (fun w s => Bytes_calls (n := 16) _ _  s )) rfl rfl ?_; rintro _ _ ⟨rfl, rfl⟩; refine ⟨[_], rfl, ?_⟩
        refine rg_tail1 ?_
        refine ol_pull1 ?_
        refine ol_i (wn_none rfl) (os_copyf (r := (_ : Tag).1) _ (msgC _) 55 rfl s1_55 rfl rfl (tag_len _) (msgC_af37 _) (by simp [msgC_len]) (Free.zero _) (msgC_p37 _ (Tag.over _ _))) rfl ?_; rintro _ _ ⟨rfl, rfl⟩
        refine ol_nil_then ?_
        refine cd_seq ?_
        refine cd_sr ?_   -- 15
        refine ol_q (wn_none rfl) (op_move (v := .pointer _) rfl) rfl ?_
        refine ol_pull1 ?_
        refine ol_i (wn_none rfl) (os_call cb_50 rfl (fun w s => End_calls _ _  s )) rfl ?_; rintro _ _ ⟨rfl, rfl⟩
        refine ol_q (wn_none rfl) (op_not rfl) rfl ?_
        refine ol_q (wn_none rfl) (op_move (v := .bool _) rfl) rfl ?_
        refine ol_split 63 rfl (fun hb11 => ?_) (fun hb11 => ?_)
        · have hp11 := hb11
          (try simp only [decide_eq_true_eq, decide_eq_false_iff_not, Bool.not_eq_true', Bool.not_eq_false', ne_eq, Decidable.not_not] at hp11)
          have hend : endR (rdBytes (rdBytes (rdUint (rdUint ⟨src, false⟩ 1).2 4).2 32).2 16).2 = false := by have h9 : (!endR (rdBytes (rdBytes (rdUint (rdUint ⟨src, false⟩ 1).2 4).2 32).2 16).2) = true := hb11; simpa using h9
          refine ol_skip (wn_some rfl rfl rfl hb11 rfl) rfl ?_
          refine ol_skip (wn_some rfl rfl rfl hb11 rfl) rfl ?_
          refine ol_skip (wn_some rfl rfl rfl hb11 rfl) rfl ?_
          refine ol_q (wn_none rfl) (op_pick_t (v := .bool _) rfl hb11 rfl) rfl ?_
          refine ol_nil_then ?_
          refine cd_cond_t rfl rfl ?_
          refine cd_sr ?_   -- 16
          refine ol_q (wn_none rfl) (op_build (L := msgC _) (vs := []) bB_45 rfl trivial rfl) rfl ?_
          refine ol_pull2 ?_
          refine ol_iN (wn_none rfl) (os_storew (msgC _) ag_45 rfl rfl (msgC_len _) (msgC_one _) (by simp [msgC_len]) (Free.zero _)) ?_; rintro _ _ ⟨rfl, rfl⟩
          refine ol_q (wn_none rfl) (op_assign (v := .bool _) rfl) rfl ?_
          refine ol_nil_then ?_
          refine cd_ret ?_
          refine px_thenR ?_
          have hd : decP src = (MsgP.zero, false) := by
            unfold decP
            dsimp only
            rw [if_neg hk1, if_neg hk2, if_neg hk3, okW_no (by rintro ⟨q1, q2⟩; rw [hend] at q1; cases q1)]
          exact px_rv2 rfl (rv_cella 0 ag_45 rfl rfl (msgC_ta _) (by simp [msgC_len])) (rv_tmp rfl) (fun _ s => Sat.rowNil (((s.del 2).del 1).del 0)) ⟨none, 0, by rw [hd]; rfl, by rw [hd]; rfl⟩
        · have hp11 := hb11
          (try simp only [decide_eq_true_eq, decide_eq_false_iff_not, Bool.not_eq_true', Bool.not_eq_false', ne_eq, Decidable.not_not] at hp11)
          have hend : endR (rdBytes (rdBytes (rdUint (rdUint ⟨src, false⟩ 1).2 4).2 32).2 16).2 = true := by have h9 : (!endR (rdBytes (rdBytes (rdUint (rdUint ⟨src, false⟩ 1).2 4).2 32).2 16).2) = false := hb11; simpa using h9
          refine ol_q (wn_some rfl rfl rfl hb11 rfl) (op_lda (L := msgC _) 1 ag_45 rfl rfl (msgC_ta _) (by simp [msgC_len])) rfl ?_
          refine ol_i (wn_some rfl rfl rfl hb11 rfl) (os_call cb_35 rfl (fun w s => WGood_calls (bits := ([] : List Bool)) _ _ _ _ _ _ _ _  s (rds_nil _) (by show 0 ≤ 1000; omega) (by first | exact hd1 | (show 0 < _; omega)))) rfl ?_; rintro _ l ⟨rfl, rfl⟩
          refine ol_q (wn_some rfl rfl rfl hb11 rfl) (op_not rfl) rfl ?_
          refine ol_q (wn_none rfl) (op_pick_f (v := .bool _) rfl hb11 rfl) rfl ?_
          refine ol_nil_then ?_
          refine cd_cond rfl (fun hb12 => ?_) (fun hb12 => ?_)
          · have hp12 := hb12
            (try simp only [decide_eq_true_eq, decide_eq_false_iff_not, Bool.not_eq_true', Bool.not_eq_false', ne_eq, Decidable.not_not] at hp12)
            have hgd : goodW ((rdUint ⟨src, false⟩ 1).1 : Int) ((rdUint (rdUint ⟨src, false⟩ 1).2 4).1 : Int) 0 0 [] = false := by have h9 : (!goodW ((rdUint ⟨src, false⟩ 1).1 : Int) ((rdUint (rdUint ⟨src, false⟩ 1).2 4).1 : Int) 0 0 []) = true := hb12; simpa using h9
            refine cd_sr ?_   -- 16
            refine ol_q (wn_none rfl) (op_build (L := msgC _) (vs := []) bB_45 rfl trivial rfl) rfl ?_
            refine ol_pull2 ?_
            refine ol_iN (wn_none rfl) (os_storew (msgC _) ag_45 rfl rfl (msgC_len _) (msgC_one _) (by simp [msgC_len]) (Free.zero _)) ?_; rintro _ _ ⟨rfl, rfl⟩
            refine ol_q (wn_none rfl) (op_assign (v := .bool _) rfl) rfl ?_
            refine ol_nil_then ?_
            refine cd_ret ?_
            refine px_thenR ?_
            have hd : decP src = (MsgP.zero, false) := by
              unfold decP
              dsimp only
              rw [if_neg hk1, if_neg hk2, if_neg hk3, okW_no (by rintro ⟨q1, q2⟩; rw [show goodW _ _ _ _ _ = false from hgd] at q2; cases q2)]
            exact px_rv2 rfl (rv_cella 0 ag_45 rfl rfl (msgC_ta _) (by simp [msgC_len])) (rv_tmp rfl) (fun _ s => Sat.rowNil (((s.del 2).del 1).del 0)) ⟨none, 0, by rw [hd]; rfl, by rw [hd]; rfl⟩
          · have hp12 := hb12
            (try simp only [decide_eq_true_eq, decide_eq_false_iff_not, Bool.not_eq_true', Bool.not_eq_false', ne_eq, Decidable.not_not] at hp12)
            have hgd : goodW ((rdUint ⟨src, false⟩ 1).1 : Int) ((rdUint (rdUint ⟨src, false⟩ 1).2 4).1 : Int) 0 0 [] = true := by have h9 : (!goodW ((rdUint ⟨src, false⟩ 1).1 : Int) ((rdUint (rdUint ⟨src, false⟩ 1).2 4).1 : Int) 0 0 []) = false := hb12; simpa using h9
            refine cd_skip ?_
            refine px_then ?_
            refine cd_sr ?_   -- 17
            refine ol_q (wn_none rfl) (op_lda (L := msgC _) 1 ag_45 rfl rfl (msgC_ta _) (by simp [msgC_len])) rfl ?_
            refine ol_pull2 ?_
            refine ol_iN (wn_none rfl) (os_storew (msgC _) ag_45 rfl rfl (msgC_len _) (msgC_one _) (by simp [msgC_len]) (Free.zero _)) ?_; rintro _ _ ⟨rfl, rfl⟩
            refine ol_q (wn_none rfl) (op_assign (v := .bool _) rfl) rfl ?_
            refine ol_nil_then ?_
            refine cd_ret ?_
            have hd : decP src = (⟨(rdUint ⟨src, false⟩ 1).1, (rdUint (rdUint ⟨src, false⟩ 1).2 4).1, (Root.zero.over (rdBytes (rdUint (rdUint ⟨src, false⟩ 1).2 4).2 32).1), 0, 0, [], Tag.zero.over (rdBytes (rdBytes (rdUint (rdUint ⟨src, false⟩ 1).2 4).2 32).2 16).1⟩, true) := by
              unfold decP
              dsimp only
              rw [if_neg hk1, if_neg hk2, if_neg hk3, okW_yes hend hgd]
            exact px_rv2 rfl (rv_cella 0 ag_45 rfl rfl (msgC_ta _) (by simp [msgC_len])) (rv_tmp rfl) (fun _ s => Sat.rowNil (((s.del 2).del 1).del 0)) ⟨none, 0, by rw [hd]; rfl, by rw [hd]; rfl⟩
end Go.SL

import Derived.Test.YtbgnabofcceajaaWeiL
set_option linter.unusedVariables false
set_option linter.unusedSimpArgs false
namespace Go.SL
open Go.Proofs

def alT : TreeS := (((TreeS.new (nameR 0) 0 9).add (nameR 1) (nameR 0) 1).2.add (nameR 2) (nameR 0) 1).2
def alO : List Int := growO alT.nodes.length []
def alU : List Int := (applyO alT.nodes alO [⟨nameR 1, 5⟩]).2
theorem al_1 : headW alT.nodes alO = nameR 2 := by decide +kernel
theorem al_2 : (applyO alT.nodes alO [⟨nameR 1, 5⟩]).1 = 0 := by decide +kernel
theorem al_3 : headW alT.nodes alU = nameR 1 := by decide +kernel
theorem al_4 : ofF alT alU.length (sumN alT.nodes alU) (nameR 0) = 5 := by decide +kernel
theorem al_5 : ofF alT alU.length (oA alU) (nameR 0) = 0 := by decide +kernel
theorem al_l : alO.length ≤ alT.nodes.length := by decide +kernel
theorem al_p : 0 < alO.length := by decide +kernel
theorem al_u : alU.length ≤ alT.nodes.length := Nat.le_of_eq (applyO_len al_l _)
theorem al_q : 0 < alU.length := by rw [show alU.length = alT.nodes.length from applyO_len al_l _]; decide +kernel
theorem al_o : OwnOK alO := OwnOK.nil.zeros _

set_option maxRecDepth 100000 in
set_option maxHeartbeats 1000000 in
theorem wlAlive_calls {w0 w : World} {l : List HProp}  (hs : Sat w0 w (l))  :
    Calls Try.prog 33 #[] w (Ret w0 fun v l' => v = .bool true ∧ l' = l) := by
  refine calls_enter Try.func33 rfl rfl rfl hs ?_
  refine cd_sr ?_   -- 0
  refine ol_q (wn_none rfl) (op_assign (v := .bool _) rfl) rfl ?_
  refine ol_nil_then ?_
  refine cd_sr ?_   -- 1
  refine ol_i (wn_none rfl) (os_call cb_20 rfl (fun w s => Name_calls (n := 0)  s )) rfl ?_; rintro _ l ⟨rfl, rfl⟩
  refine ol_i (wn_none rfl) (os_call cb_21 rfl (fun w s => TNew_calls _ _ _ s)) rfl ?_; rintro _ l2 (⟨rfl, hl2, hbad1⟩ | ⟨p1, rfl, hok1, rfl⟩)
  · exact absurd hbad1 (by omega)
  · have hob1 := hok1
    refine ol_q (wn_none rfl) (op_move (v := .tuple _) rfl) rfl ?_
    refine ol_q (wn_none rfl) (op_extract (v := .pointer _) rfl rfl) rfl ?_
    refine ol_q (wn_none rfl) (op_extract (v := .int _ _) rfl rfl) rfl ?_
    refine ol_q (wn_none rfl) (op_assign (v := .pointer _) rfl) rfl ?_
    refine ol_q (wn_none rfl) (op_assign (v := .int _ _) rfl) rfl ?_
    refine ol_nil_then ?_
    refine cd_sr ?_   -- 2
    refine ol_q (wn_none rfl) (op_move (v := .pointer _) rfl) rfl ?_
    refine ol_i (wn_none rfl) (os_call cb_20 rfl (fun w s => Name_calls (n := 1)  s )) rfl ?_; rintro _ l ⟨rfl, rfl⟩
    refine ol_i (wn_none rfl) (os_call cb_20 rfl (fun w s => Name_calls (n := 0)  s )) rfl ?_; rintro _ l ⟨rfl, rfl⟩
    refine ol_i (wn_none rfl) (os_call cb_22 rfl (fun w s => Add_calls (slot := 1) _ _ _ _  s )) rfl ?_; rintro _ _ ⟨rfl, rfl⟩
    refine ol_nil_then ?_
    refine cd_sr ?_   -- 3
    refine ol_q (wn_none rfl) (op_move (v := .pointer _) rfl) rfl ?_
    refine ol_i (wn_none rfl) (os_call cb_20 rfl (fun w s => Name_calls (n := 2)  s )) rfl ?_; rintro _ l ⟨rfl, rfl⟩
    refine ol_i (wn_none rfl) (os_call cb_20 rfl (fun w s => Name_calls (n := 0)  s )) rfl ?_; rintro _ l ⟨rfl, rfl⟩
    refine ol_i (wn_none rfl) (os_call cb_22 rfl (fun w s => Add_calls (slot := 1) _ _ _ _  s )) rfl ?_; rintro _ _ ⟨rfl, rfl⟩
    refine ol_nil_then ?_
    refine cd_sr ?_   -- 4
    refine ol_q (wn_none rfl) (op_move (v := .pointer _) rfl) rfl ?_
    refine ol_i (wn_none rfl) (os_call cb_35 rfl (fun w s => WNew_calls _ _  s )) rfl ?_; rintro _ _ ⟨pw8, rfl, rfl⟩
    refine ol_q (wn_none rfl) (op_assign (v := .pointer _) rfl) rfl ?_
    refine ol_nil_then ?_
    refine cd_seq ?_
    refine cd_sr ?_   -- 5
    refine ol_q (wn_none rfl) (op_move (v := .pointer _) rfl) rfl ?_
    refine ol_pull1 ?_
    refine ol_i (wn_none rfl) (os_call cb_39 rfl (fun w s => Head_calls (t := alT) (o := alO) _ _  s al_l al_p)) rfl ?_; rintro _ _ ⟨rfl, rfl⟩
    refine ol_i (wn_none rfl) (os_call cb_20 rfl (fun w s => Name_calls (n := 2)  s )) rfl ?_; rintro _ l ⟨rfl, rfl⟩
    refine ol_q (wn_none rfl) (op_neroot _ _ rB_30 rfl rfl) rfl ?_
    refine ol_q (wn_none rfl) (op_move (v := .bool _) rfl) rfl ?_
    refine ol_split 23 rfl (fun hb1 => ?_) (fun hb1 => ?_)
    · have hp1 := hb1
      (try simp only [decide_eq_true_eq, decide_eq_false_iff_not, Bool.not_eq_true', Bool.not_eq_false', ne_eq, Decidable.not_not] at hp1)
      exact absurd hb1 (by rw [al_1]; simp)
    · have hp1 := hb1
      (try simp only [decide_eq_true_eq, decide_eq_false_iff_not, Bool.not_eq_true', Bool.not_eq_false', ne_eq, Decidable.not_not] at hp1)
      refine ol_q (wn_some rfl rfl rfl hb1 rfl) (op_move (v := .pointer _) rfl) rfl ?_
      refine ol_i (wn_some rfl rfl rfl hb1 rfl) (os_call cb_20 rfl (fun w s => Name_calls (n := 1)  s )) rfl ?_; rintro _ l ⟨rfl, rfl⟩
      refine ol_q (wn_some rfl rfl rfl hb1 rfl) (op_build (L := deltaC _) (vs := [(0, .agg (rootC _).toArray), (1, .int _ _)]) bB_80 rfl ⟨⟨by simp [Value.cells, rootC_len], by rw [deltaC_len]; rfl⟩, ⟨rfl, by rw [deltaC_len]; rfl⟩, trivial⟩ ((deltaC_b0 _ _ _).trans ((deltaC_b1 _ _ _).trans rfl))) rfl ?_
      refine ol_i (wn_some rfl rfl rfl hb1 rfl) (os_bslice (E := encDelta) [_] (ys := [_]) sB_77 zv_80 rfl rfl rfl rfl (by decide)) rfl ?_; rintro _ _ ⟨ao1, rfl, rfl⟩
      refine ol_pull2 ?_
      refine ol_pull2 ?_
      refine ol_i (wn_some rfl rfl rfl hb1 rfl) (os_call cb_36 rfl (fun w s => Apply_calls (t := alT) (o := alO) (xs := [⟨nameR 1, 5⟩]) _ _ _ _  s al_l al_o (rds_row 0 rfl rfl) (by decide))) rfl ?_; rintro _ _ ⟨rfl, rfl⟩
      refine ol_q (wn_some rfl rfl rfl hb1 rfl) (op_ne rfl rfl) rfl ?_
      refine ol_q (wn_none rfl) (op_pick_f (v := .bool _) rfl hb1 rfl) rfl ?_
      refine ol_nil_then ?_
      refine cd_cond rfl (fun hb2 => ?_) (fun hb2 => ?_)
      · have hp2 := hb2
        (try simp only [decide_eq_true_eq, decide_eq_false_iff_not, Bool.not_eq_true', Bool.not_eq_false', ne_eq, Decidable.not_not] at hp2)
        exact absurd hb2 (by rw [al_2]; simp)
      · have hp2 := hb2
        (try simp only [decide_eq_true_eq, decide_eq_false_iff_not, Bool.not_eq_true', Bool.not_eq_false', ne_eq, Decidable.not_not] at hp2)
        refine cd_skip ?_
        refine px_then ?_
        refine cd_sr ?_   -- 7
        refine ol_q (wn_none rfl) (op_move (v := .pointer _) rfl) rfl ?_
        refine ol_pull1 ?_
        refine ol_pull1 ?_
        refine ol_i (wn_none rfl) (os_call cb_39 rfl (fun w s => Head_calls (t := alT) (o := alU) _ _  s al_u al_q)) rfl ?_; rintro _ _ ⟨rfl, rfl⟩
        refine ol_i (wn_none rfl) (os_call cb_20 rfl (fun w s => Name_calls (n := 1)  s )) rfl ?_; rintro _ l ⟨rfl, rfl⟩
        refine ol_q (wn_none rfl) (op_eqroot _ _ rB_30 rfl rfl) rfl ?_
        refine ol_q (wn_none rfl) (op_move (v := .bool _) rfl) rfl ?_
        refine ol_split 35 rfl (fun hb3 => ?_) (fun hb3 => ?_)
        · have hp3 := hb3
          (try simp only [decide_eq_true_eq, decide_eq_false_iff_not, Bool.not_eq_true', Bool.not_eq_false', ne_eq, Decidable.not_not] at hp3)
          refine ol_q (wn_some rfl rfl rfl hb3 rfl) (op_move (v := .pointer _) rfl) rfl ?_
          refine ol_i (wn_some rfl rfl rfl hb3 rfl) (os_call cb_20 rfl (fun w s => Name_calls (n := 0)  s )) rfl ?_; rintro _ l ⟨rfl, rfl⟩
          refine ol_pull1 ?_
          refine ol_pull1 ?_
          refine ol_i (wn_some rfl rfl rfl hb3 rfl) (os_call cb_38 rfl (fun w s => Weight_calls (t := alT) (o := alU) _ _ _  s )) rfl ?_; rintro _ _ ⟨rfl, rfl⟩
          refine ol_q (wn_some rfl rfl rfl hb3 rfl) (op_eq rfl rfl) rfl ?_
          refine ol_q (wn_none rfl) (op_pick_t (v := .bool _) rfl hb3 rfl) rfl ?_
          refine ol_q (wn_none rfl) (op_move (v := .bool _) rfl) rfl ?_
          refine ol_split 41 rfl (fun hb4 => ?_) (fun hb4 => ?_)
          · have hp4 := hb4
            (try simp only [decide_eq_true_eq, decide_eq_false_iff_not, Bool.not_eq_true', Bool.not_eq_false', ne_eq, Decidable.not_not] at hp4)
            refine ol_q (wn_some rfl rfl rfl hb4 rfl) (op_move (v := .pointer _) rfl) rfl ?_
            refine ol_i (wn_some rfl rfl rfl hb4 rfl) (os_call cb_20 rfl (fun w s => Name_calls (n := 0)  s )) rfl ?_; rintro _ l ⟨rfl, rfl⟩
            refine ol_pull1 ?_
            refine ol_pull1 ?_
            refine ol_i (wn_some rfl rfl rfl hb4 rfl) (os_call cb_37 rfl (fun w s => Own_calls (t := alT) (o := alU) _ _ _  s )) rfl ?_; rintro _ _ ⟨rfl, rfl⟩
            refine ol_q (wn_some rfl rfl rfl hb4 rfl) (op_eq rfl rfl) rfl ?_
            refine ol_q (wn_none rfl) (op_pick_t (v := .bool _) rfl hb4 rfl) rfl ?_
            refine ol_q (wn_none rfl) (op_assign (v := .bool _) rfl) rfl ?_
            refine ol_nil_then ?_
            refine cd_ret ?_
            exact px_ret1 rfl (v := .bool _) rfl (fun _ s => (((s.del 2).del 1).del 0)) ⟨congrArg Value.bool (by first | rfl | (rw [al_5]; rfl)), rfl⟩
          · have hp4 := hb4
            (try simp only [decide_eq_true_eq, decide_eq_false_iff_not, Bool.not_eq_true', Bool.not_eq_false', ne_eq, Decidable.not_not] at hp4)
            exact absurd hb4 (by rw [al_4]; simp)
        · have hp3 := hb3
          (try simp only [decide_eq_true_eq, decide_eq_false_iff_not, Bool.not_eq_true', Bool.not_eq_false', ne_eq, Decidable.not_not] at hp3)
          exact absurd hb3 (by rw [al_3]; simp)
end Go.SL

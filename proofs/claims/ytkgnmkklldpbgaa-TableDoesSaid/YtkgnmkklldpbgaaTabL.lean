import Derived.Test.YtkgnmkklldpbgaaTabR
set_option linter.unusedVariables false
set_option linter.unusedSimpArgs false
namespace Go.SL
open Go.Proofs

theorem opens_TCall {H : Type} {enc : TypeId × Value → H} {W : World} : Opens enc Try.prog W 27 (fun cs => ∃ a : TCall, cs = encTCall.cells a ∧ (I64 a.who ∧ I64 a.slot ∧ I64 a.nr)) := fun fuel cs x h => by
  obtain ⟨hl, hf⟩ := opens_field Try.underlying27 h
  have hc : Try.prog.cellsOf 27 = 4 := by kernel_rfl
  rw [hc] at hl
  obtain ⟨n0, h0⟩ := hf 0 0 4 1 _ rfl (by kernel_rfl) (opens_bool Try.underlying4)
  obtain ⟨n1, h1, w1⟩ := hf 1 1 3 1 _ rfl (by kernel_rfl) (opens_int Try.underlying3)
  obtain ⟨n2, h2, w2⟩ := hf 2 2 3 1 _ rfl (by kernel_rfl) (opens_int Try.underlying3)
  obtain ⟨n3, h3, w3⟩ := hf 3 3 3 1 _ rfl (by kernel_rfl) (opens_int Try.underlying3)
  refine ⟨⟨n0, n1, n2, n3⟩, ?_, wf_i64 w1, wf_i64 w2, wf_i64 w3⟩
  have e0 : cs.drop 0 = (cs.drop 0).take 1 ++ cs.drop 1 := seg cs 0 1
  have e1 : cs.drop 1 = (cs.drop 1).take 1 ++ cs.drop 2 := seg cs 1 1
  have e2 : cs.drop 2 = (cs.drop 2).take 1 ++ cs.drop 3 := seg cs 2 1
  have e3 : cs.drop 3 = (cs.drop 3).take 1 ++ cs.drop 4 := seg cs 3 1
  have eN : cs.drop 4 = [] := List.drop_eq_nil_of_le (by omega)
  have e : cs.drop 0 = [.bool n0] ++ ([.int .i64 n1] ++ ([.int .i64 n2] ++ ([.int .i64 n3] ++ ([])))) := by rw [e0, h0, e1, h1, e2, h2, e3, h3, eN]
  rw [List.drop_zero] at e
  rw [e]
  show _ = tCallC _
  unfold tCallC
  simp

theorem vote_zero_of {t : TabS} {w : Int} (h : t.isV w = false) : (t.vote w).getD Vote.zero = Vote.zero ∧ (t.vote w).isSome = false ∧ t.counts w = false := by
  rw [TabS.vote_none h]
  exact ⟨rfl, rfl, by unfold TabS.counts; rw [h]; rfl⟩
theorem vote_at_of {t : TabS} {N : Nat} {F : List First} {Lv : List Vote} {Hs Ou : List Bool} (hR : RTabOf t N F Lv Hs Ou) {i : Nat} (h : i < N) (h1 : i < Lv.length) (h2 : i < Hs.length) (h3 : i < Ou.length) : (t.vote i).getD Vote.zero = Lv[i] ∧ (t.vote i).isSome = Hs[i] ∧ t.counts i = !Ou[i] := by
  have hN := hR.n
  have hl : i < t.latest.length := by omega
  have hv : t.isV i = true := TabS.isV_iff.2 ⟨by omega, by omega⟩
  have e : t.vote i = t.latest[i] := by
    rw [TabS.vote_at ⟨by omega, by omega⟩]
    simp [List.getD_eq_getElem?_getD, hl]
  have e1 : Lv[i] = (t.latest[i]).getD Vote.zero := by simp only [hR.l, List.getElem_map]
  have e2 : Hs[i] = (t.latest[i]).isSome := by simp only [hR.h, List.getElem_map]
  have e3 : Ou[i] = t.out[i]'(by rw [← hR.o]; exact h3) := by simp only [hR.o]
  refine ⟨by rw [e, e1], by rw [e, e2], ?_⟩
  unfold TabS.counts
  rw [hv, e3]
  have h4 : i < t.out.length := by rw [← hR.o]; exact h3
  simp [List.getD_eq_getElem?_getD, h4]

set_option maxRecDepth 100000 in
set_option maxHeartbeats 1000000 in
theorem same_calls {w0 w : World} {l : List HProp} (p q : Nat) (t : TabS) (hs : Sat w0 w ((TabObj p t) :: (RTabObj q t) :: l))  :
    Calls Try.prog 24 #[.pointer (some ⟨p, 0, none⟩), .pointer (some ⟨q, 0, none⟩)] w (Ret w0 fun v l' => v = .bool true ∧ l' = TabObj p t :: RTabObj q t :: l) := by
  have hsame := hs
  obtain ⟨a1, c1, a2, c2, a3, c3, a4, c4, N, F, Lv, Hs, Ou, hw, hR, hs⟩ := (hs.pull 1).rtabOpen
  have hs1 := hw.s1; have hs2 := hw.s2; have hn1 := hw.n1; have hlo := hw.lo; have hN := hR.n
  have hLl : Lv.length = N := by rw [hR.l, hR.n, List.length_map]
  have hHl : Hs.length = N := by rw [hR.h, hR.n, List.length_map]
  have hOl : Ou.length = N := by rw [hR.o, hR.n]; exact hlo
  have hFl : F.length = t.first.length := by rw [hR.f, List.length_map]
  refine calls_enter Try.func24 rfl rfl rfl hs ?_
  refine cd_sr ?_   -- 0
  refine ol_q (wn_none rfl) (op_assign (v := .bool _) rfl) rfl ?_
  refine ol_nil_then ?_
  refine cd_seq ?_
  refine cd_sr ?_   -- 1
  refine ol_q (wn_none rfl) (op_assign (v := .int _ _) rfl) rfl ?_
  refine ol_nil_then ?_
  refine cd_block ?_
  refine cd_loop2 (α := Nat) [(4, 64)] (fun x => [(5, .int .i64 ((x : Int) - 1))]) (fun _ => _) (fun x => x ≤ N + 2) (fun x => N + 2 - x) 0 (by omega) ⟨rfl, trivial⟩ (fun _ s => s) ?_
  intro i hi f; (try dsimp only at hi ⊢)
  refine cd_seq ?_
  refine cd_sr ?_   -- 2
  refine ol_q (wn_none rfl) (op_move (v := .int _ _) rfl) rfl ?_
  refine ol_q (wn_none rfl) (op_move (v := .pointer _) rfl) rfl ?_
  refine ol_q (wn_none rfl) (op_nilck rfl) rfl ?_
  refine ol_q (wn_none rfl) (op_field fld_100_0 rfl) rfl ?_
  refine ol_q (wn_none rfl) (op_ld 0 sc_3 rfl rfl rfl) rfl ?_
  refine ol_q (wn_none rfl) (op_le rfl rfl) rfl ?_
  refine ol_nil_then ?_
  refine cd_cond rfl (fun hb1 => ?_) (fun hb1 => ?_)
  · have hp1 := hb1
    (try simp only [decide_eq_true_eq, decide_eq_false_iff_not, Bool.not_eq_true', Bool.not_eq_false', ne_eq, Decidable.not_not] at hp1)
    refine cd_skip ?_
    refine px_then ?_
    refine cd_seq ?_
    refine cd_block ?_
    refine cd_sr ?_   -- 4
    refine ol_q (wn_none rfl) (op_move (v := .pointer _) rfl) rfl ?_
    refine ol_q (wn_none rfl) (op_move (v := .int _ _) rfl) rfl ?_
    refine ol_pull5 ?_
    refine ol_i (wn_none rfl) (os_call cb_21 rfl (fun w s => TVote_calls _ _ _  s )) rfl ?_; rintro _ _ ⟨rfl, rfl⟩
    refine ol_q (wn_none rfl) (op_move (v := .tuple _) rfl) rfl ?_
    refine ol_q (wn_none rfl) (op_extract (v := .agg _) rfl rfl) rfl ?_
    refine ol_q (wn_none rfl) (op_extract (v := .bool _) rfl rfl) rfl ?_
    refine ol_i (wn_none rfl) (os_alloc (cs := (voteC Vote.zero).toArray) zB_31 (by kernel_rfl)) rfl ?_; rintro _ _ ⟨bx1, rfl, rfl⟩
    refine ol_iN (wn_none rfl) (os_storew (voteC _) ag_31 rfl rfl (voteC_len _) (voteC_one _) (by simp [voteC_len]) (Free.zero _)) ?_; rintro _ _ ⟨rfl, rfl⟩
    refine ol_q (wn_none rfl) (op_assign (v := .bool _) rfl) rfl ?_
    refine ol_nil_then ?_
    refine cd_sr ?_   -- 5
    refine ol_i (wn_none rfl) (os_alloc (cs := (voteC Vote.zero).toArray) zB_31 (by kernel_rfl)) rfl ?_; rintro _ _ ⟨bx2, rfl, rfl⟩
    refine ol_nil_then ?_
    refine cd_sr ?_   -- 6
    refine ol_q (wn_none rfl) (op_assign (v := .bool _) rfl) rfl ?_
    refine ol_q (wn_none rfl) (op_assign (v := .bool _) rfl) rfl ?_
    refine ol_nil_then ?_
    refine cd_seq ?_
    refine cd_sr ?_   -- 7
    refine ol_q (wn_none rfl) (op_move (v := .pointer _) rfl) rfl ?_
    refine ol_q (wn_none rfl) (op_move (v := .int _ _) rfl) rfl ?_
    refine ol_pull3 ?_
    refine ol_i (wn_none rfl) (os_call cb_48 rfl (fun w s => RIs_calls _ _ _ _ _ _ _ _  s )) rfl ?_; rintro _ _ ⟨rfl, rfl⟩
    refine ol_nil_then ?_
    refine cd_cond rfl (fun hb2 => ?_) (fun hb2 => ?_)
    · have hp2 := hb2
      (try simp only [decide_eq_true_eq, decide_eq_false_iff_not, Bool.not_eq_true', Bool.not_eq_false', ne_eq, Decidable.not_not] at hp2)
      obtain ⟨hg1, hg2⟩ : 0 ≤ (i : Int) - 1 ∧ (i : Int) - 1 < N := by simpa using hb2
      obtain ⟨k, rfl⟩ : ∃ k, i = k + 1 := ⟨i - 1, by omega⟩
      have hk : ((k + 1 : Nat) : Int) - 1 = (k : Int) := by omega
      simp only [hk] at *
      obtain ⟨e1, e2, e3⟩ := vote_at_of hR (i := k) (by omega) (by omega) (by omega) (by omega)
      refine cd_pull1 ?_
      -- 8
      refine cd_draw (M := [_]) mx [22] (by kernel_rfl) ?_
      refine rg_q (wn_none rfl) (op_move (v := .pointer _) rfl) rfl rfl ?_
      refine rg_q (wn_none rfl) (op_nilck rfl) rfl rfl ?_
      refine rg_q (wn_none rfl) (op_field fld_100_3 rfl) rfl rfl ?_
      refine rg_q (wn_none rfl) (op_ld 0 sc_46 rfl rfl rfl) rfl rfl ?_
      refine rg_q (wn_none rfl) (op_move (v := .int _ _) rfl) rfl rfl ?_
      refine rg_q (wn_none rfl) (op_index k sB_46 rfl rfl rfl (rds_row 4 rfl rfl) rfl (by omega)) rfl rfl ?_
      refine rg_q (wn_none rfl) (op_ldaw (L := voteC _) ag_31 (rds_row 4 rfl rfl) rfl (by omega) rfl (voteC_ta _)) rfl rfl ?_
      refine rg_q (wn_none rfl) (op_move (v := .pointer _) rfl) rfl rfl ?_
      refine rg_q (wn_none rfl) (op_nilck rfl) rfl rfl ?_
      refine rg_q (wn_none rfl) (op_field fld_100_4 rfl) rfl rfl ?_
      refine rg_q (wn_none rfl) (op_ld 0 sc_52 rfl rfl rfl) rfl rfl ?_
      refine rg_q (wn_none rfl) (op_move (v := .int _ _) rfl) rfl rfl ?_
      refine rg_q (wn_none rfl) (op_index k sB_52 rfl rfl rfl (rds_row 5 rfl rfl) rfl (by omega)) rfl rfl ?_
      refine rg_q (wn_none rfl) (op_ldw sc_4 (rds_row 5 rfl rfl) rfl (by omega) rfl) rfl rfl ?_
      refine rg_q (wn_none rfl) (op_move (v := .pointer _) rfl) rfl rfl ?_
      refine rg_q (wn_none rfl) (op_nilck rfl) rfl rfl ?_
      refine rg_q (wn_none rfl) (op_field fld_100_5 rfl) rfl rfl ?_
      refine rg_q (wn_none rfl) (op_ld 0 sc_52 rfl rfl rfl) rfl rfl ?_
      refine rg_q (wn_none rfl) (op_move (v := .int _ _) rfl) rfl rfl ?_
      refine rg_q (wn_none rfl) (op_index k sB_52 rfl rfl rfl (rds_row 6 rfl rfl) rfl (by omega)) rfl rfl ?_
      refine rg_q (wn_none rfl) (op_ldw sc_4 (rds_row 6 rfl rfl) rfl (by omega) rfl) rfl rfl ?_
      refine rg_q (wn_none rfl) (op_not rfl) rfl rfl ?_
      refine rg_iN (wn_none rfl) (os_storew (voteC _) ag_31 rfl rfl (voteC_len _) (voteC_one _) (by simp [voteC_len]) (Free.zero _)) rfl ?_; rintro _ _ ⟨rfl, rfl⟩; refine ⟨[_], rfl, ?_⟩
      refine rg_q (wn_none rfl) (op_assign (v := .bool _) rfl) rfl rfl ?_
      refine rg_q (wn_none rfl) (op_assign (v := .bool _) rfl) rfl rfl ?_
      refine rg_nil1 ?_
      refine px_then ?_
      refine cd_sr ?_   -- 9
      refine ol_q (wn_none rfl) (op_lda (L := voteC _) 2 ag_31 rfl rfl (voteC_ta _) (by simp [voteC_len])) rfl ?_
      refine ol_q (wn_none rfl) (op_lda (L := voteC _) 0 ag_31 rfl rfl (voteC_ta _) (by simp [voteC_len])) rfl ?_
      refine ol_q (wn_none rfl) (op_nes stB_31 rfl rfl (feq_Vote fs_31 Try.underlying3 rB_29 _ _)) rfl ?_
      refine ol_q (wn_none rfl) (op_move (v := .bool _) rfl) rfl ?_
      refine ol_split 53 rfl (fun hb3 => ?_) (fun hb3 => ?_)
      · have hp3 := hb3
        (try simp only [decide_eq_true_eq, decide_eq_false_iff_not, Bool.not_eq_true', Bool.not_eq_false', ne_eq, Decidable.not_not] at hp3)
        exact absurd hb3 (by simp [e1, e2, e3])
      · have hp3 := hb3
        (try simp only [decide_eq_true_eq, decide_eq_false_iff_not, Bool.not_eq_true', Bool.not_eq_false', ne_eq, Decidable.not_not] at hp3)
        refine ol_q (wn_some rfl rfl rfl hb3 rfl) (op_move (v := .bool _) rfl) rfl ?_
        refine ol_q (wn_some rfl rfl rfl hb3 rfl) (op_move (v := .bool _) rfl) rfl ?_
        refine ol_q (wn_some rfl rfl rfl hb3 rfl) (op_bneq Try.underlying4 rfl rfl) rfl ?_
        refine ol_q (wn_none rfl) (op_pick_f (v := .bool _) rfl hb3 rfl) rfl ?_
        refine ol_q (wn_none rfl) (op_move (v := .bool _) rfl) rfl ?_
        refine ol_split 58 rfl (fun hb4 => ?_) (fun hb4 => ?_)
        · have hp4 := hb4
          (try simp only [decide_eq_true_eq, decide_eq_false_iff_not, Bool.not_eq_true', Bool.not_eq_false', ne_eq, Decidable.not_not] at hp4)
          exact absurd hb4 (by simp [e1, e2, e3])
        · have hp4 := hb4
          (try simp only [decide_eq_true_eq, decide_eq_false_iff_not, Bool.not_eq_true', Bool.not_eq_false', ne_eq, Decidable.not_not] at hp4)
          refine ol_q (wn_some rfl rfl rfl hb4 rfl) (op_move (v := .pointer _) rfl) rfl ?_
          refine ol_q (wn_some rfl rfl rfl hb4 rfl) (op_move (v := .int _ _) rfl) rfl ?_
          refine ol_pull3 ?_
          refine ol_i (wn_some rfl rfl rfl hb4 rfl) (os_call cb_19 rfl (fun w s => Counts_calls _ _ _  s )) rfl ?_; rintro _ _ ⟨rfl, rfl⟩
          refine ol_q (wn_some rfl rfl rfl hb4 rfl) (op_move (v := .bool _) rfl) rfl ?_
          refine ol_q (wn_some rfl rfl rfl hb4 rfl) (op_bneq Try.underlying4 rfl rfl) rfl ?_
          refine ol_q (wn_none rfl) (op_pick_f (v := .bool _) rfl hb4 rfl) rfl ?_
          refine ol_nil_then ?_
          refine cd_cond rfl (fun hb5 => ?_) (fun hb5 => ?_)
          · have hp5 := hb5
            (try simp only [decide_eq_true_eq, decide_eq_false_iff_not, Bool.not_eq_true', Bool.not_eq_false', ne_eq, Decidable.not_not] at hp5)
            exact absurd hb5 (by simp [e1, e2, e3])
          · have hp5 := hb5
            (try simp only [decide_eq_true_eq, decide_eq_false_iff_not, Bool.not_eq_true', Bool.not_eq_false', ne_eq, Decidable.not_not] at hp5)
            refine cd_skip ?_
            refine px_blockN ?_
            refine px_then ?_
            refine cd_region ?_   -- 3
            refine ol_q (wn_none rfl) (op_move (v := .int _ _) rfl) rfl ?_
            refine ol_q (wn_none rfl) (op_add rfl rfl (by omega) (by omega)) rfl ?_
            refine ol_q (wn_none rfl) (op_assign (v := .int _ _) rfl) rfl ?_
            refine ol_nil ?_
            refine px_loop2 (k + 1 + 1) (by omega) (by (try dsimp only); omega) ⟨congrArg (Value.int .i64) (by omega), trivial⟩ ?_ (fun _ s => (((((((s.del 3).del 1).pull 5).pull 5).pull 5).pull 5).pull 5))
            repeat (first | exact kept_over | refine kept_upd rfl ?_ | refine kept_overS (by decide) ?_)
    · have hp2 := hb2
      (try simp only [decide_eq_true_eq, decide_eq_false_iff_not, Bool.not_eq_true', Bool.not_eq_false', ne_eq, Decidable.not_not] at hp2)
      have hv : t.isV ((i : Int) - 1) = false := by unfold TabS.isV; rw [← hN]; exact hb2
      obtain ⟨e1, e2, e3⟩ := vote_zero_of hv
      refine cd_skip ?_
      refine px_then ?_
      refine cd_sr ?_   -- 9
      refine ol_q (wn_none rfl) (op_lda (L := voteC _) 2 ag_31 rfl rfl (voteC_ta _) (by simp [voteC_len])) rfl ?_
      refine ol_q (wn_none rfl) (op_lda (L := voteC _) 1 ag_31 rfl rfl (voteC_ta _) (by simp [voteC_len])) rfl ?_
      refine ol_q (wn_none rfl) (op_nes stB_31 rfl rfl (feq_Vote fs_31 Try.underlying3 rB_29 _ _)) rfl ?_
      refine ol_q (wn_none rfl) (op_move (v := .bool _) rfl) rfl ?_
      refine ol_split 53 rfl (fun hb6 => ?_) (fun hb6 => ?_)
      · have hp6 := hb6
        (try simp only [decide_eq_true_eq, decide_eq_false_iff_not, Bool.not_eq_true', Bool.not_eq_false', ne_eq, Decidable.not_not] at hp6)
        exact absurd hb6 (by simp [e1, e2, e3])
      · have hp6 := hb6
        (try simp only [decide_eq_true_eq, decide_eq_false_iff_not, Bool.not_eq_true', Bool.not_eq_false', ne_eq, Decidable.not_not] at hp6)
        refine ol_q (wn_some rfl rfl rfl hb6 rfl) (op_move (v := .bool _) rfl) rfl ?_
        refine ol_q (wn_some rfl rfl rfl hb6 rfl) (op_move (v := .bool _) rfl) rfl ?_
        refine ol_q (wn_some rfl rfl rfl hb6 rfl) (op_bneq Try.underlying4 rfl rfl) rfl ?_
        refine ol_q (wn_none rfl) (op_pick_f (v := .bool _) rfl hb6 rfl) rfl ?_
        refine ol_q (wn_none rfl) (op_move (v := .bool _) rfl) rfl ?_
        refine ol_split 58 rfl (fun hb7 => ?_) (fun hb7 => ?_)
        · have hp7 := hb7
          (try simp only [decide_eq_true_eq, decide_eq_false_iff_not, Bool.not_eq_true', Bool.not_eq_false', ne_eq, Decidable.not_not] at hp7)
          exact absurd hb7 (by simp [e1, e2, e3])
        · have hp7 := hb7
          (try simp only [decide_eq_true_eq, decide_eq_false_iff_not, Bool.not_eq_true', Bool.not_eq_false', ne_eq, Decidable.not_not] at hp7)
          refine ol_q (wn_some rfl rfl rfl hb7 rfl) (op_move (v := .pointer _) rfl) rfl ?_
          refine ol_q (wn_some rfl rfl rfl hb7 rfl) (op_move (v := .int _ _) rfl) rfl ?_
          refine ol_pull3 ?_
          refine ol_i (wn_some rfl rfl rfl hb7 rfl) (os_call cb_19 rfl (fun w s => Counts_calls _ _ _  s )) rfl ?_; rintro _ _ ⟨rfl, rfl⟩
          refine ol_q (wn_some rfl rfl rfl hb7 rfl) (op_move (v := .bool _) rfl) rfl ?_
          refine ol_q (wn_some rfl rfl rfl hb7 rfl) (op_bneq Try.underlying4 rfl rfl) rfl ?_
          refine ol_q (wn_none rfl) (op_pick_f (v := .bool _) rfl hb7 rfl) rfl ?_
          refine ol_nil_then ?_
          refine cd_cond rfl (fun hb8 => ?_) (fun hb8 => ?_)
          · have hp8 := hb8
            (try simp only [decide_eq_true_eq, decide_eq_false_iff_not, Bool.not_eq_true', Bool.not_eq_false', ne_eq, Decidable.not_not] at hp8)
            exact absurd hb8 (by simp [e1, e2, e3])
          · have hp8 := hb8
            (try simp only [decide_eq_true_eq, decide_eq_false_iff_not, Bool.not_eq_true', Bool.not_eq_false', ne_eq, Decidable.not_not] at hp8)
            refine cd_skip ?_
            refine px_blockN ?_
            refine px_then ?_
            refine cd_region ?_   -- 3
            refine ol_q (wn_none rfl) (op_move (v := .int _ _) rfl) rfl ?_
            refine ol_q (wn_none rfl) (op_add rfl rfl (by omega) (by omega)) rfl ?_
            refine ol_q (wn_none rfl) (op_assign (v := .int _ _) rfl) rfl ?_
            refine ol_nil ?_
            refine px_loop2 (i + 1) (by omega) (by (try dsimp only); omega) ⟨congrArg (Value.int .i64) (by omega), trivial⟩ ?_ (fun _ s => (((((((s.del 3).del 2).pull 5).pull 5).pull 5).pull 5).pull 5))
            repeat (first | exact kept_over | refine kept_upd rfl ?_ | refine kept_overS (by decide) ?_)
  · have hp1 := hb1
    (try simp only [decide_eq_true_eq, decide_eq_false_iff_not, Bool.not_eq_true', Bool.not_eq_false', ne_eq, Decidable.not_not] at hp1)
    refine cd_exit ?_
    refine px_thenE ?_
    refine px_thenE ?_
    refine px_blockE ?_
    refine px_then ?_
    refine cd_pull5 ?_
    refine cd_seq ?_   -- 11
    refine cd_draw (M := [_]) mx [1] (by kernel_rfl) ?_
    refine rg_q (wn_none rfl) (op_move (v := .pointer _) rfl) rfl rfl ?_
    refine rg_i (wn_none rfl) (os_call cb_20 rfl (fun w s => Marks_calls _ _  s )) rfl rfl ?_; rintro _ _ ⟨rfl, rfl⟩; refine ⟨[_], rfl, ?_⟩
    refine rg_q (wn_none rfl) (op_move (v := .pointer _) rfl) rfl rfl ?_
    refine rg_q (wn_none rfl) (op_nilck rfl) rfl rfl ?_
    refine rg_q (wn_none rfl) (op_field fld_100_2 rfl) rfl rfl ?_
    refine rg_q (wn_none rfl) (op_ld 0 sc_98 rfl rfl rfl) rfl rfl ?_
    refine rg_q (wn_none rfl) (op_len_slice Try.underlying98 rfl) rfl rfl ?_
    refine rg_q (wn_none rfl) (op_eq rfl rfl) rfl rfl ?_
    refine rg_q (wn_none rfl) (op_assign (v := .bool _) rfl) rfl rfl ?_
    refine rg_nil_then1 ?_
    refine cd_ret ?_
    exact px_ret1 rfl (v := .bool _) (l' := TabObj p t :: RTabObj q t :: l) rfl (fun _ s => (Sat.rtabMk hw hR rfl rfl rfl rfl (((((s.pull 5).pull 5).pull 5).pull 5).pull 5)).pull 1) ⟨congrArg Value.bool (by simp [hFl]), rfl⟩

set_option maxRecDepth 100000 in
set_option maxHeartbeats 1000000 in
theorem tabAlive_calls {w0 w : World} {l : List HProp}  (hs : Sat w0 w (l))  :
    Calls Try.prog 15 #[] w (Ret w0 fun v l' => v = .bool true ∧ l' = l) := by
  refine calls_enter Try.func15 rfl rfl rfl hs ?_
  refine cd_sr ?_   -- 0
  refine ol_q (wn_none rfl) (op_assign (v := .bool _) rfl) rfl ?_
  refine ol_nil_then ?_
  refine cd_sr ?_   -- 1
  refine ol_i (wn_none rfl) (os_call cb_16 rfl (fun w s => New_calls _ _ s)) rfl ?_; rintro _ l2 (⟨rfl, hl2, hbad1⟩ | ⟨p1, rfl, hok1, rfl⟩)
  · exact absurd hbad1 (by omega)
  · have hob1 := hok1
    refine ol_q (wn_none rfl) (op_assign (v := .pointer _) rfl) rfl ?_
    refine ol_nil_then ?_
    refine cd_sr ?_   -- 2
    refine ol_q (wn_none rfl) (op_build (L := tCallC _) (vs := [(1, .int _ _), (2, .int _ _), (3, .int _ _)]) bB_27 rfl ⟨⟨rfl, by rw [tCallC_len]; rfl⟩, ⟨rfl, by rw [tCallC_len]; rfl⟩, ⟨rfl, by rw [tCallC_len]; rfl⟩, trivial⟩ ((tCallC_b1 _ _ _).trans ((tCallC_b2 _ _ _).trans ((tCallC_b3 _ _ _).trans rfl)))) rfl ?_
    refine ol_q (wn_none rfl) (op_build (L := tCallC _) (vs := [(1, .int _ _), (2, .int _ _), (3, .int _ _)]) bB_27 rfl ⟨⟨rfl, by rw [tCallC_len]; rfl⟩, ⟨rfl, by rw [tCallC_len]; rfl⟩, ⟨rfl, by rw [tCallC_len]; rfl⟩, trivial⟩ ((tCallC_b1 _ _ _).trans ((tCallC_b2 _ _ _).trans ((tCallC_b3 _ _ _).trans rfl)))) rfl ?_
    refine ol_q (wn_none rfl) (op_build (L := tCallC _) (vs := [(1, .int _ _), (2, .int _ _), (3, .int _ _)]) bB_27 rfl ⟨⟨rfl, by rw [tCallC_len]; rfl⟩, ⟨rfl, by rw [tCallC_len]; rfl⟩, ⟨rfl, by rw [tCallC_len]; rfl⟩, trivial⟩ ((tCallC_b1 _ _ _).trans ((tCallC_b2 _ _ _).trans ((tCallC_b3 _ _ _).trans rfl)))) rfl ?_
    refine ol_i (wn_none rfl) (os_alloc (cs := (tCallC TCall.zero).toArray) zB_27 (by kernel_rfl)) rfl ?_; rintro _ _ ⟨bx1, rfl, rfl⟩
    refine ol_i (wn_none rfl) (os_alloc (cs := (tCallC TCall.zero).toArray) zB_27 (by kernel_rfl)) rfl ?_; rintro _ _ ⟨bx2, rfl, rfl⟩
    refine ol_i (wn_none rfl) (os_alloc (cs := (tCallC TCall.zero).toArray) zB_27 (by kernel_rfl)) rfl ?_; rintro _ _ ⟨bx3, rfl, rfl⟩
    refine ol_pull2 ?_
    refine ol_iN (wn_none rfl) (os_storew (tCallC _) ag_27 rfl rfl (tCallC_len _) (tCallC_one _) (by simp [tCallC_len]) (Free.zero _)) ?_; rintro _ _ ⟨rfl, rfl⟩
    refine ol_pull2 ?_
    refine ol_iN (wn_none rfl) (os_storew (tCallC _) ag_27 rfl rfl (tCallC_len _) (tCallC_one _) (by simp [tCallC_len]) (Free.zero _)) ?_; rintro _ _ ⟨rfl, rfl⟩
    refine ol_pull2 ?_
    refine ol_iN (wn_none rfl) (os_storew (tCallC _) ag_27 rfl rfl (tCallC_len _) (tCallC_one _) (by simp [tCallC_len]) (Free.zero _)) ?_; rintro _ _ ⟨rfl, rfl⟩
    refine ol_nil_then ?_
    refine cd_sr ?_   -- 3
    refine ol_q (wn_none rfl) (op_move (v := .pointer _) rfl) rfl ?_
    refine ol_q (wn_none rfl) (op_lda (L := tCallC _) 2 ag_27 rfl rfl (tCallC_ta _) (by simp [tCallC_len])) rfl ?_
    refine ol_i (wn_none rfl) (os_call cb_17 rfl (fun w s => vote_calls _  s )) rfl ?_; rintro _ l ⟨rfl, rfl⟩
    refine ol_pull3 ?_
    refine ol_i (wn_none rfl) (os_call cb_18 rfl (fun w s => Take_calls _ _ _  s )) rfl ?_; rintro _ _ ⟨rfl, rfl⟩
    refine ol_q (wn_none rfl) (op_eq rfl rfl) rfl ?_
    refine ol_q (wn_none rfl) (op_move (v := .bool _) rfl) rfl ?_
    refine ol_split 14 rfl (fun hb1 => ?_) (fun hb1 => ?_)
    · have hp1 := hb1
      (try simp only [decide_eq_true_eq, decide_eq_false_iff_not, Bool.not_eq_true', Bool.not_eq_false', ne_eq, Decidable.not_not] at hp1)
      refine ol_q (wn_some rfl rfl rfl hb1 rfl) (op_move (v := .pointer _) rfl) rfl ?_
      refine ol_q (wn_some rfl rfl rfl hb1 rfl) (op_lda (L := tCallC _) 3 ag_27 rfl rfl (tCallC_ta _) (by simp [tCallC_len])) rfl ?_
      refine ol_i (wn_some rfl rfl rfl hb1 rfl) (os_call cb_17 rfl (fun w s => vote_calls _  s )) rfl ?_; rintro _ l ⟨rfl, rfl⟩
      refine ol_i (wn_some rfl rfl rfl hb1 rfl) (os_call cb_18 rfl (fun w s => Take_calls _ _ _  s )) rfl ?_; rintro _ _ ⟨rfl, rfl⟩
      refine ol_q (wn_some rfl rfl rfl hb1 rfl) (op_eq rfl rfl) rfl ?_
      refine ol_q (wn_none rfl) (op_pick_t (v := .bool _) rfl hb1 rfl) rfl ?_
      refine ol_q (wn_none rfl) (op_move (v := .bool _) rfl) rfl ?_
      refine ol_split 21 rfl (fun hb2 => ?_) (fun hb2 => ?_)
      · have hp2 := hb2
        (try simp only [decide_eq_true_eq, decide_eq_false_iff_not, Bool.not_eq_true', Bool.not_eq_false', ne_eq, Decidable.not_not] at hp2)
        refine ol_q (wn_some rfl rfl rfl hb2 rfl) (op_move (v := .pointer _) rfl) rfl ?_
        refine ol_q (wn_some rfl rfl rfl hb2 rfl) (op_lda (L := tCallC _) 2 ag_27 rfl rfl (tCallC_ta _) (by simp [tCallC_len])) rfl ?_
        refine ol_i (wn_some rfl rfl rfl hb2 rfl) (os_call cb_17 rfl (fun w s => vote_calls _  s )) rfl ?_; rintro _ l ⟨rfl, rfl⟩
        refine ol_i (wn_some rfl rfl rfl hb2 rfl) (os_call cb_18 rfl (fun w s => Take_calls _ _ _  s )) rfl ?_; rintro _ _ ⟨rfl, rfl⟩
        refine ol_q (wn_some rfl rfl rfl hb2 rfl) (op_eq rfl rfl) rfl ?_
        refine ol_q (wn_none rfl) (op_pick_t (v := .bool _) rfl hb2 rfl) rfl ?_
        refine ol_q (wn_none rfl) (op_move (v := .bool _) rfl) rfl ?_
        refine ol_split 28 rfl (fun hb3 => ?_) (fun hb3 => ?_)
        · have hp3 := hb3
          (try simp only [decide_eq_true_eq, decide_eq_false_iff_not, Bool.not_eq_true', Bool.not_eq_false', ne_eq, Decidable.not_not] at hp3)
          refine ol_q (wn_some rfl rfl rfl hb3 rfl) (op_move (v := .pointer _) rfl) rfl ?_
          refine ol_q (wn_some rfl rfl rfl hb3 rfl) (op_lda (L := tCallC _) 1 ag_27 rfl rfl (tCallC_ta _) (by simp [tCallC_len])) rfl ?_
          refine ol_i (wn_some rfl rfl rfl hb3 rfl) (os_call cb_17 rfl (fun w s => vote_calls _  s )) rfl ?_; rintro _ l ⟨rfl, rfl⟩
          refine ol_i (wn_some rfl rfl rfl hb3 rfl) (os_call cb_18 rfl (fun w s => Take_calls _ _ _  s )) rfl ?_; rintro _ _ ⟨rfl, rfl⟩
          refine ol_q (wn_some rfl rfl rfl hb3 rfl) (op_eq rfl rfl) rfl ?_
          refine ol_q (wn_none rfl) (op_pick_t (v := .bool _) rfl hb3 rfl) rfl ?_
          refine ol_q (wn_none rfl) (op_move (v := .bool _) rfl) rfl ?_
          refine ol_split 35 rfl (fun hb4 => ?_) (fun hb4 => ?_)
          · have hp4 := hb4
            (try simp only [decide_eq_true_eq, decide_eq_false_iff_not, Bool.not_eq_true', Bool.not_eq_false', ne_eq, Decidable.not_not] at hp4)
            refine ol_q (wn_some rfl rfl rfl hb4 rfl) (op_move (v := .pointer _) rfl) rfl ?_
            refine ol_i (wn_some rfl rfl rfl hb4 rfl) (os_call cb_19 rfl (fun w s => Counts_calls (who := 1) _ _  s )) rfl ?_; rintro _ _ ⟨rfl, rfl⟩
            refine ol_q (wn_some rfl rfl rfl hb4 rfl) (op_not rfl) rfl ?_
            refine ol_q (wn_none rfl) (op_pick_t (v := .bool _) rfl hb4 rfl) rfl ?_
            refine ol_q (wn_none rfl) (op_move (v := .bool _) rfl) rfl ?_
            refine ol_split 40 rfl (fun hb5 => ?_) (fun hb5 => ?_)
            · have hp5 := hb5
              (try simp only [decide_eq_true_eq, decide_eq_false_iff_not, Bool.not_eq_true', Bool.not_eq_false', ne_eq, Decidable.not_not] at hp5)
              refine ol_q (wn_some rfl rfl rfl hb5 rfl) (op_move (v := .pointer _) rfl) rfl ?_
              refine ol_i (wn_some rfl rfl rfl hb5 rfl) (os_call cb_19 rfl (fun w s => Counts_calls (who := 0) _ _  s )) rfl ?_; rintro _ _ ⟨rfl, rfl⟩
              refine ol_q (wn_none rfl) (op_pick_t (v := .bool _) rfl hb5 rfl) rfl ?_
              refine ol_q (wn_none rfl) (op_move (v := .bool _) rfl) rfl ?_
              refine ol_split 44 rfl (fun hb6 => ?_) (fun hb6 => ?_)
              · have hp6 := hb6
                (try simp only [decide_eq_true_eq, decide_eq_false_iff_not, Bool.not_eq_true', Bool.not_eq_false', ne_eq, Decidable.not_not] at hp6)
                refine ol_q (wn_some rfl rfl rfl hb6 rfl) (op_move (v := .pointer _) rfl) rfl ?_
                refine ol_i (wn_some rfl rfl rfl hb6 rfl) (os_call cb_20 rfl (fun w s => Marks_calls _ _  s )) rfl ?_; rintro _ _ ⟨rfl, rfl⟩
                refine ol_q (wn_some rfl rfl rfl hb6 rfl) (op_eq rfl rfl) rfl ?_
                refine ol_q (wn_none rfl) (op_pick_t (v := .bool _) rfl hb6 rfl) rfl ?_
                refine ol_q (wn_none rfl) (op_assign (v := .bool _) rfl) rfl ?_
                refine ol_nil_then ?_
                refine cd_ret ?_
                exact px_ret1 rfl (v := .bool _) rfl (fun _ s => ((((s.del 3).del 2).del 1).del 0)) ⟨congrArg Value.bool (by decide +kernel), rfl⟩
              · have hp6 := hb6
                (try simp only [decide_eq_true_eq, decide_eq_false_iff_not, Bool.not_eq_true', Bool.not_eq_false', ne_eq, Decidable.not_not] at hp6)
                exact absurd hb6 (by decide +kernel)
            · have hp5 := hb5
              (try simp only [decide_eq_true_eq, decide_eq_false_iff_not, Bool.not_eq_true', Bool.not_eq_false', ne_eq, Decidable.not_not] at hp5)
              exact absurd hb5 (by decide +kernel)
          · have hp4 := hb4
            (try simp only [decide_eq_true_eq, decide_eq_false_iff_not, Bool.not_eq_true', Bool.not_eq_false', ne_eq, Decidable.not_not] at hp4)
            exact absurd hb4 (by decide +kernel)
        · have hp3 := hb3
          (try simp only [decide_eq_true_eq, decide_eq_false_iff_not, Bool.not_eq_true', Bool.not_eq_false', ne_eq, Decidable.not_not] at hp3)
          exact absurd hb3 (by decide +kernel)
      · have hp2 := hb2
        (try simp only [decide_eq_true_eq, decide_eq_false_iff_not, Bool.not_eq_true', Bool.not_eq_false', ne_eq, Decidable.not_not] at hp2)
        exact absurd hb2 (by decide +kernel)
    · have hp1 := hb1
      (try simp only [decide_eq_true_eq, decide_eq_false_iff_not, Bool.not_eq_true', Bool.not_eq_false', ne_eq, Decidable.not_not] at hp1)
      exact absurd hb1 (by decide +kernel)

set_option maxRecDepth 100000 in
set_option maxHeartbeats 1000000 in
theorem TableDoes_calls {w0 w : World} {l : List HProp} (n sl : Int) (ao : Option Addr) (c : Nat) (xs : List TCall) (hs : Sat w0 w (l)) (hr : Rds w0 l encTCall ao xs) (hq : ∀ a ∈ xs, I64 a.who ∧ I64 a.slot ∧ I64 a.nr) :
    Calls Try.prog 6 #[.int .i64 n, .int .i64 sl, .slice ao xs.length c] w (Ret w0 fun v l' => v = .bool true ∧ l' = l) := by
  refine calls_enter Try.func6 rfl rfl rfl hs ?_
  refine cd_sr ?_   -- 0
  refine ol_q (wn_none rfl) (op_assign (v := .bool _) rfl) rfl ?_
  refine ol_nil_then ?_
  refine cd_seq ?_
  refine cd_sr ?_   -- 1
  refine ol_i (wn_none rfl) (os_call cb_15 rfl (fun w s => tabAlive_calls  s )) rfl ?_; rintro _ l ⟨rfl, rfl⟩
  refine ol_q (wn_none rfl) (op_not rfl) rfl ?_
  refine ol_nil_then ?_
  refine cd_cond_f rfl rfl ?_
  refine cd_skip ?_
  refine px_then ?_
  refine cd_seq ?_
  refine cd_sr ?_   -- 3
  refine ol_q (wn_none rfl) (op_move (v := .slice _ _ _) rfl) rfl ?_
  refine ol_q (wn_none rfl) (op_len_slice Try.underlying22 rfl) rfl ?_
  refine ol_q (wn_none rfl) (op_gt rfl rfl) rfl ?_
  refine ol_nil_then ?_
  refine cd_cond rfl (fun hb1 => ?_) (fun hb1 => ?_)
  · have hp1 := hb1
    (try simp only [decide_eq_true_eq, decide_eq_false_iff_not, Bool.not_eq_true', Bool.not_eq_false', ne_eq, Decidable.not_not] at hp1)
    refine cd_sr ?_   -- 4
    refine ol_q (wn_none rfl) (op_assign (v := .bool _) rfl) rfl ?_
    refine ol_nil_then ?_
    refine cd_ret ?_
    refine px_thenR ?_
    exact px_ret1 rfl (v := .bool _) rfl (fun _ s => s) ⟨congrArg Value.bool (by simp), rfl⟩
  · have hp1 := hb1
    (try simp only [decide_eq_true_eq, decide_eq_false_iff_not, Bool.not_eq_true', Bool.not_eq_false', ne_eq, Decidable.not_not] at hp1)
    refine cd_skip ?_
    refine px_then ?_
    refine cd_sr ?_   -- 5
    refine ol_q (wn_none rfl) (op_assign (v := .pointer _) rfl) rfl ?_
    refine ol_nil_then ?_
    refine cd_sr ?_   -- 6
    refine ol_q (wn_none rfl) (op_move (v := .pointer _) rfl) rfl ?_
    refine ol_i (wn_none rfl) (os_call cb_25 rfl (fun w s => Forget_nil (slot := 5)  s )) rfl ?_; rintro _ l ⟨rfl, rfl⟩
    refine ol_nil_then ?_
    refine cd_sr ?_   -- 7
    refine ol_q (wn_none rfl) (op_move (v := .pointer _) rfl) rfl ?_
    refine ol_i (wn_none rfl) (os_call cb_21 rfl (fun w s => TVote_nil (who := 0)  s )) rfl ?_; rintro _ l ⟨rfl, rfl⟩
    refine ol_q (wn_none rfl) (op_move (v := .tuple _) rfl) rfl ?_
    refine ol_q (wn_none rfl) (op_extract (v := .agg _) rfl rfl) rfl ?_
    refine ol_q (wn_none rfl) (op_extract (v := .bool _) rfl rfl) rfl ?_
    refine ol_i (wn_none rfl) (os_alloc (cs := (voteC Vote.zero).toArray) zB_31 (by kernel_rfl)) rfl ?_; rintro _ _ ⟨bx1, rfl, rfl⟩
    refine ol_iN (wn_none rfl) (os_storew (voteC _) ag_31 rfl rfl (voteC_len _) (voteC_one _) (by simp [voteC_len]) (Free.zero _)) ?_; rintro _ _ ⟨rfl, rfl⟩
    refine ol_q (wn_none rfl) (op_assign (v := .bool _) rfl) rfl ?_
    refine ol_nil_then ?_
    refine cd_seq ?_
    refine cd_sr ?_   -- 8
    refine ol_q (wn_none rfl) (op_move (v := .pointer _) rfl) rfl ?_
    refine ol_q (wn_none rfl) (op_build (L := voteC _) (vs := []) bB_31 rfl trivial rfl) rfl ?_
    refine ol_i (wn_none rfl) (os_call cb_18 rfl (fun w s => Take_nil _  s )) rfl ?_; rintro _ l ⟨rfl, rfl⟩
    refine ol_q (wn_none rfl) (op_ne rfl rfl) rfl ?_
    refine ol_q (wn_none rfl) (op_move (v := .bool _) rfl) rfl ?_
    refine ol_split 31 rfl (fun hb2 => ?_) (fun hb2 => ?_)
    · have hp2 := hb2
      (try simp only [decide_eq_true_eq, decide_eq_false_iff_not, Bool.not_eq_true', Bool.not_eq_false', ne_eq, Decidable.not_not] at hp2)
      exact absurd hb2 (by simp)
    · have hp2 := hb2
      (try simp only [decide_eq_true_eq, decide_eq_false_iff_not, Bool.not_eq_true', Bool.not_eq_false', ne_eq, Decidable.not_not] at hp2)
      refine ol_q (wn_some rfl rfl rfl hb2 rfl) (op_move (v := .bool _) rfl) rfl ?_
      refine ol_q (wn_none rfl) (op_pick_f (v := .bool _) rfl hb2 rfl) rfl ?_
      refine ol_q (wn_none rfl) (op_move (v := .bool _) rfl) rfl ?_
      refine ol_q (wn_some rfl rfl rfl rfl rfl) (op_move (v := .pointer _) rfl) rfl ?_
      refine ol_i (wn_some rfl rfl rfl rfl rfl) (os_call cb_19 rfl (fun w s => Counts_nil (who := 0)  s )) rfl ?_; rintro _ l ⟨rfl, rfl⟩
      refine ol_q (wn_none rfl) (op_pick_f (v := .bool _) rfl rfl rfl) rfl ?_
      refine ol_q (wn_none rfl) (op_move (v := .bool _) rfl) rfl ?_
      refine ol_q (wn_some rfl rfl rfl rfl rfl) (op_move (v := .pointer _) rfl) rfl ?_
      refine ol_i (wn_some rfl rfl rfl rfl rfl) (os_call cb_20 rfl (fun w s => Marks_nil  s )) rfl ?_; rintro _ l ⟨rfl, rfl⟩
      refine ol_q (wn_some rfl rfl rfl rfl rfl) (op_ne rfl rfl) rfl ?_
      refine ol_q (wn_none rfl) (op_pick_f (v := .bool _) rfl rfl rfl) rfl ?_
      refine ol_nil_then ?_
      refine cd_cond rfl (fun hb3 => ?_) (fun hb3 => ?_)
      · have hp3 := hb3
        (try simp only [decide_eq_true_eq, decide_eq_false_iff_not, Bool.not_eq_true', Bool.not_eq_false', ne_eq, Decidable.not_not] at hp3)
        exact absurd hb3 (by simp)
      · have hp3 := hb3
        (try simp only [decide_eq_true_eq, decide_eq_false_iff_not, Bool.not_eq_true', Bool.not_eq_false', ne_eq, Decidable.not_not] at hp3)
        refine cd_skip ?_
        refine px_then ?_
        refine cd_sr ?_   -- 10
        refine ol_q (wn_none rfl) (op_move (v := .int _ _) rfl) rfl ?_
        refine ol_q (wn_none rfl) (op_move (v := .int _ _) rfl) rfl ?_
        refine ol_i (wn_none rfl) (os_call cb_16 rfl (fun w s => New_calls _ _ s)) rfl ?_; rintro _ l2 (⟨rfl, hl2, hbad1⟩ | ⟨p1, rfl, hok1, rfl⟩)
        · rw [hl2]
          refine ol_q (wn_none rfl) (op_assign (v := .pointer _) rfl) rfl ?_
          refine ol_nil_then ?_
          refine cd_sr ?_   -- 11
          refine ol_q (wn_none rfl) (op_move (v := .int _ _) rfl) rfl ?_
          refine ol_q (wn_none rfl) (op_move (v := .int _ _) rfl) rfl ?_
          refine ol_i (wn_none rfl) (os_call cb_22 rfl (fun w s => RNew_calls _ _ s)) rfl ?_; rintro _ l2 (⟨rfl, hl2, hbad2⟩ | ⟨p2, rfl, hok2, rfl⟩)
          · rw [hl2]
            refine ol_q (wn_none rfl) (op_move (v := .tuple _) rfl) rfl ?_
            refine ol_q (wn_none rfl) (op_extract (v := .pointer _) rfl rfl) rfl ?_
            refine ol_q (wn_none rfl) (op_extract (v := .bool _) rfl rfl) rfl ?_
            refine ol_q (wn_none rfl) (op_assign (v := .pointer _) rfl) rfl ?_
            refine ol_q (wn_none rfl) (op_assign (v := .bool _) rfl) rfl ?_
            refine ol_nil_then ?_
            refine cd_seq ?_
            refine cd_sr ?_   -- 12
            refine ol_q (wn_none rfl) (op_move (v := .bool _) rfl) rfl ?_
            refine ol_q (wn_none rfl) (op_not rfl) rfl ?_
            refine ol_nil_then ?_
            refine cd_cond_t rfl rfl ?_
            refine cd_sr ?_   -- 13
            refine ol_q (wn_none rfl) (op_move (v := .pointer _) rfl) rfl ?_
            refine ol_q (wn_none rfl) (op_eqnil Try.underlying24 rfl rfl) rfl ?_
            refine ol_q (wn_none rfl) (op_assign (v := .bool _) rfl) rfl ?_
            refine ol_nil_then ?_
            refine cd_ret ?_
            refine px_thenR ?_
            exact px_ret1 rfl (v := .bool _) rfl (fun _ s => (s.del 0)) ⟨congrArg Value.bool (by simp), rfl⟩
          · exact absurd hbad1 (by omega)
        · have hob1 := hok1
          refine ol_q (wn_none rfl) (op_assign (v := .pointer _) rfl) rfl ?_
          refine ol_nil_then ?_
          refine cd_sr ?_   -- 11
          refine ol_q (wn_none rfl) (op_move (v := .int _ _) rfl) rfl ?_
          refine ol_q (wn_none rfl) (op_move (v := .int _ _) rfl) rfl ?_
          refine ol_i (wn_none rfl) (os_call cb_22 rfl (fun w s => RNew_calls _ _ s)) rfl ?_; rintro _ l2 (⟨rfl, hl2, hbad2⟩ | ⟨p2, rfl, hok2, rfl⟩)
          · exact absurd hbad2 (by omega)
          · have hob2 := hok2
            refine ol_q (wn_none rfl) (op_move (v := .tuple _) rfl) rfl ?_
            refine ol_q (wn_none rfl) (op_extract (v := .pointer _) rfl rfl) rfl ?_
            refine ol_q (wn_none rfl) (op_extract (v := .bool _) rfl rfl) rfl ?_
            refine ol_q (wn_none rfl) (op_assign (v := .pointer _) rfl) rfl ?_
            refine ol_q (wn_none rfl) (op_assign (v := .bool _) rfl) rfl ?_
            refine ol_nil_then ?_
            refine cd_seq ?_
            refine cd_sr ?_   -- 12
            refine ol_q (wn_none rfl) (op_move (v := .bool _) rfl) rfl ?_
            refine ol_q (wn_none rfl) (op_not rfl) rfl ?_
            refine ol_nil_then ?_
            refine cd_cond_f rfl rfl ?_
            refine cd_skip ?_
            refine px_then ?_
            refine cd_seq ?_
            refine cd_sr ?_   -- 14
            refine ol_q (wn_none rfl) (op_move (v := .slice _ _ _) rfl) rfl ?_
            refine ol_q (wn_none rfl) (op_len_slice Try.underlying22 rfl) rfl ?_
            refine ol_q (wn_none rfl) (op_move (v := .int _ _) rfl) rfl ?_
            refine ol_nil_then ?_
            refine cd_block ?_
            refine cd_loop2 (α := Nat × TabS) [(6, 6), (14, 14), (58, 85)] (fun x => [(58, .int .i64 (x.1 : Int))]) (fun x => RTabObj p2 x.2 :: TabObj p1 x.2 :: l) (fun x => x.1 ≤ xs.length) (fun x => xs.length - x.1) (0, TabS.new n.toNat sl) (Nat.zero_le _) ⟨rfl, trivial⟩ (fun _ s => (s.del 2)) ?_
            rintro ⟨i, t⟩ hi f; (try dsimp only at hi ⊢)
            refine cd_sr ?_   -- 15
            refine ol_q (wn_none rfl) (op_lt rfl rfl) rfl ?_
            refine ol_nil_then ?_
            refine cd_seq ?_
            refine cd_cond rfl (fun hb4 => ?_) (fun hb4 => ?_)
            · have hp4 := hb4
              (try simp only [decide_eq_true_eq, decide_eq_false_iff_not, Bool.not_eq_true', Bool.not_eq_false', ne_eq, Decidable.not_not] at hp4)
              have hqi := hq _ (List.getElem_mem (show i < xs.length by omega)); unfold I64 at hqi
              refine cd_skip ?_
              refine px_then ?_
              refine cd_seq ?_
              refine cd_block ?_
              refine cd_sr ?_   -- 16
              refine ol_q (wn_none rfl) (op_index _ sB_22 rfl rfl rfl ((hr.cons _).cons _) rfl (by omega)) rfl ?_
              refine ol_q (wn_none rfl) (op_ldaw (L := tCallC _) ag_27 ((hr.cons _).cons _) rfl (by omega) rfl (tCallC_ta _)) rfl ?_
              refine ol_i (wn_none rfl) (os_alloc (cs := (tCallC TCall.zero).toArray) zB_27 (by kernel_rfl)) rfl ?_; rintro _ _ ⟨bx2, rfl, rfl⟩
              refine ol_iN (wn_none rfl) (os_storew (tCallC _) ag_27 rfl rfl (tCallC_len _) (tCallC_one _) (by simp [tCallC_len]) (Free.zero _)) ?_; rintro _ _ ⟨rfl, rfl⟩
              refine ol_nil_then ?_
              refine cd_seq ?_
              refine cd_sr ?_   -- 17
              refine ol_q (wn_none rfl) (op_field fld_27_0 rfl) rfl ?_
              refine ol_q (wn_none rfl) (op_ld 0 sc_4 rfl rfl (tCallC_a0 _)) rfl ?_
              refine ol_nil_then ?_
              refine cd_cond rfl (fun hb5 => ?_) (fun hb5 => ?_)
              · have hp5 := hb5
                (try simp only [decide_eq_true_eq, decide_eq_false_iff_not, Bool.not_eq_true', Bool.not_eq_false', ne_eq, Decidable.not_not] at hp5)
                refine cd_sr ?_   -- 18
                refine ol_q (wn_none rfl) (op_move (v := .pointer _) rfl) rfl ?_
                refine ol_q (wn_none rfl) (op_field fld_27_2 rfl) rfl ?_
                refine ol_q (wn_none rfl) (op_ld 0 sc_3 rfl rfl (tCallC_a2 _)) rfl ?_
                refine ol_pull2 ?_
                refine ol_i (wn_none rfl) (os_call cb_25 rfl (fun w s => Forget_calls _ _ _  s (by omega))) rfl ?_; rintro _ _ ⟨rfl, rfl⟩
                refine ol_nil_then ?_
                refine cd_region ?_   -- 19
                refine ol_q (wn_none rfl) (op_move (v := .pointer _) rfl) rfl ?_
                refine ol_q (wn_none rfl) (op_field fld_27_2 rfl) rfl ?_
                refine ol_q (wn_none rfl) (op_ld 1 sc_3 rfl rfl (tCallC_a2 _)) rfl ?_
                refine ol_pull2 ?_
                refine ol_i (wn_none rfl) (os_call cb_26 rfl (fun w s => RForget_calls _ _ _  s (by omega))) rfl ?_; rintro _ _ ⟨rfl, rfl⟩
                refine ol_nil ?_
                refine px_then ?_
                refine cd_sr ?_   -- 22
                refine ol_q (wn_none rfl) (op_move (v := .pointer _) rfl) rfl ?_
                refine ol_q (wn_none rfl) (op_move (v := .pointer _) rfl) rfl ?_
                refine ol_pull1 ?_
                refine ol_i (wn_none rfl) (os_call cb_24 rfl (fun w s => same_calls _ _ _  s )) rfl ?_; rintro _ _ ⟨rfl, rfl⟩
                refine ol_q (wn_none rfl) (op_not rfl) rfl ?_
                refine ol_nil_then ?_
                refine cd_cond_f rfl rfl ?_
                refine cd_skip ?_
                refine px_blockN ?_
                refine px_then ?_
                refine cd_region ?_   -- 24
                refine ol_q (wn_none rfl) (op_add rfl rfl (by omega) (by omega)) rfl ?_
                refine ol_q (wn_none rfl) (op_move (v := .int _ _) rfl) rfl ?_
                refine ol_nil ?_
                refine px_loop2 (i + 1, (t.forget xs[i].slot)) (by dsimp only; omega) (by (try dsimp only); omega) ⟨congrArg (Value.int .i64) (by simp), trivial⟩ ?_ (fun _ s => ((s.del 2).pull 1))
                repeat (first | exact kept_over | refine kept_upd rfl ?_ | refine kept_overS (by decide) ?_)
              · have hp5 := hb5
                (try simp only [decide_eq_true_eq, decide_eq_false_iff_not, Bool.not_eq_true', Bool.not_eq_false', ne_eq, Decidable.not_not] at hp5)
                refine cd_pull1 ?_
                refine cd_pull2 ?_
                refine cd_seq ?_   -- 20
                refine cd_drawe (M := [_, _]) mx [2, 3, 6, 7] ?_
                -- 0
                refine et_quiet 0 (by kernel_rfl) rfl (by kernel_rfl) (wn_none rfl) (op_move (v := .pointer _) rfl) rfl ?_
                -- 1
                refine et_quiet 1 (by kernel_rfl) rfl (by kernel_rfl) (wn_none rfl) (op_lda (L := tCallC _) 0 ag_27 rfl rfl (tCallC_ta _) (by simp [tCallC_len])) rfl ?_
                -- 4
                refine et_quiet 4 (by kernel_rfl) rfl (by kernel_rfl) (wn_none rfl) (op_move (v := .pointer _) rfl) rfl ?_
                -- 5
                refine et_quiet 5 (by kernel_rfl) rfl (by kernel_rfl) (wn_none rfl) (op_lda (L := tCallC _) 0 ag_27 rfl rfl (tCallC_ta _) (by simp [tCallC_len])) rfl ?_
                refine et_1 (i := 2) (by kernel_rfl) ?_
                refine ei_i rfl rfl (wn_none rfl) (os_call cb_17 rfl (fun w s => vote_calls _  s )) rfl ?_; rintro _ l ⟨rfl, rfl⟩; refine ⟨[_, _], rfl, ?_⟩
                refine et_1 (i := 3) (by kernel_rfl) ?_
                refine ei_i rfl rfl (wn_none rfl) (os_call cb_18 rfl (fun w s => Take_calls _ _ _  s )) rfl ?_; rintro _ _ ⟨rfl, rfl⟩; refine ⟨[_, _], rfl, ?_⟩
                refine et_1 (i := 6) (by kernel_rfl) ?_
                refine ei_i rfl rfl (wn_none rfl) (os_call cb_17 rfl (fun w s => vote_calls _  s )) rfl ?_; rintro _ l ⟨rfl, rfl⟩; refine ⟨[_, _], rfl, ?_⟩
                refine et_1 (i := 7) (by kernel_rfl) ?_
                refine ei_i rfl rfl (wn_none rfl) (os_pull1 (os_call cb_23 rfl (fun w s => RTake_calls _ _ _  s ))) rfl ?_; rintro _ _ ⟨rfl, rfl⟩; refine ⟨[_, _], rfl, ?_⟩
                -- 8
                refine et_quiet 8 (by kernel_rfl) rfl (by kernel_rfl) (wn_none rfl) (op_ne rfl rfl) rfl ?_
                refine et_nil_then (by kernel_rfl) ?_
                refine cd_cond rfl (fun hb6 => ?_) (fun hb6 => ?_)
                · have hp6 := hb6
                  (try simp only [decide_eq_true_eq, decide_eq_false_iff_not, Bool.not_eq_true', Bool.not_eq_false', ne_eq, Decidable.not_not] at hp6)
                  exact absurd hb6 (by simp)
                · have hp6 := hb6
                  (try simp only [decide_eq_true_eq, decide_eq_false_iff_not, Bool.not_eq_true', Bool.not_eq_false', ne_eq, Decidable.not_not] at hp6)
                  refine cd_skip ?_
                  refine px_then ?_
                  refine cd_sr ?_   -- 22
                  refine ol_q (wn_none rfl) (op_move (v := .pointer _) rfl) rfl ?_
                  refine ol_q (wn_none rfl) (op_move (v := .pointer _) rfl) rfl ?_
                  refine ol_pull1 ?_
                  refine ol_i (wn_none rfl) (os_call cb_24 rfl (fun w s => same_calls _ _ _  s )) rfl ?_; rintro _ _ ⟨rfl, rfl⟩
                  refine ol_q (wn_none rfl) (op_not rfl) rfl ?_
                  refine ol_nil_then ?_
                  refine cd_cond_f rfl rfl ?_
                  refine cd_skip ?_
                  refine px_blockN ?_
                  refine px_then ?_
                  refine cd_region ?_   -- 24
                  refine ol_q (wn_none rfl) (op_add rfl rfl (by omega) (by omega)) rfl ?_
                  refine ol_q (wn_none rfl) (op_move (v := .int _ _) rfl) rfl ?_
                  refine ol_nil ?_
                  refine px_loop2 (i + 1, (t.take ⟨xs[i].who, xs[i].slot, nameR xs[i].nr⟩).2) (by dsimp only; omega) (by (try dsimp only); omega) ⟨congrArg (Value.int .i64) (by simp), trivial⟩ ?_ (fun _ s => ((s.del 2).pull 1))
                  repeat (first | exact kept_over | refine kept_upd rfl ?_ | refine kept_overS (by decide) ?_)
            · have hp4 := hb4
              (try simp only [decide_eq_true_eq, decide_eq_false_iff_not, Bool.not_eq_true', Bool.not_eq_false', ne_eq, Decidable.not_not] at hp4)
              refine cd_exit ?_
              refine px_thenE ?_
              refine px_thenE ?_
              refine px_blockE ?_
              refine px_then ?_
              refine cd_sr ?_   -- 25
              refine ol_q (wn_none rfl) (op_move (v := .pointer _) rfl) rfl ?_
              refine ol_q (wn_none rfl) (op_move (v := .pointer _) rfl) rfl ?_
              refine ol_pull1 ?_
              refine ol_i (wn_none rfl) (os_call cb_24 rfl (fun w s => same_calls _ _ _  s )) rfl ?_; rintro _ _ ⟨rfl, rfl⟩
              refine ol_q (wn_none rfl) (op_assign (v := .bool _) rfl) rfl ?_
              refine ol_nil_then ?_
              refine cd_ret ?_
              exact px_ret1 rfl (v := .bool _) rfl (fun _ s => ((s.del 1).del 0)) ⟨congrArg Value.bool (by simp), rfl⟩

set_option maxRecDepth 100000 in
set_option maxHeartbeats 1000000 in
theorem TableNone_calls {w0 w : World} {l : List HProp} (n sl : Int) (ao : Option Addr) (c : Nat) (xs : List TCall) (r : Root) (hs : Sat w0 w (l)) (hr : Rds w0 l encTCall ao xs) (hq : ∀ a ∈ xs, I64 a.who ∧ I64 a.slot ∧ I64 a.nr) :
    Calls Try.prog 5 #[.int .i64 n, .int .i64 sl, .slice ao xs.length c, .agg (rootC r).toArray] w (Ret w0 fun v l' => v = .bool true ∧ l' = l) := by
  refine calls_enter Try.func5 rfl rfl rfl hs ?_
  refine cd_sr ?_   -- 0
  refine ol_i (wn_none rfl) (os_boxa rfl) rfl ?_; rintro _ _ ⟨bx1, rfl, rfl⟩
  refine ol_q (wn_none rfl) (op_assign (v := .bool _) rfl) rfl ?_
  refine ol_nil_then ?_
  refine cd_seq ?_
  refine cd_sr ?_   -- 1
  refine ol_i (wn_none rfl) (os_call cb_15 rfl (fun w s => tabAlive_calls  s )) rfl ?_; rintro _ l ⟨rfl, rfl⟩
  refine ol_q (wn_none rfl) (op_not rfl) rfl ?_
  refine ol_nil_then ?_
  refine cd_cond_f rfl rfl ?_
  refine cd_skip ?_
  refine px_then ?_
  refine cd_seq ?_
  refine cd_sr ?_   -- 3
  refine ol_q (wn_none rfl) (op_move (v := .slice _ _ _) rfl) rfl ?_
  refine ol_q (wn_none rfl) (op_len_slice Try.underlying22 rfl) rfl ?_
  refine ol_q (wn_none rfl) (op_gt rfl rfl) rfl ?_
  refine ol_nil_then ?_
  refine cd_cond rfl (fun hb1 => ?_) (fun hb1 => ?_)
  · have hp1 := hb1
    (try simp only [decide_eq_true_eq, decide_eq_false_iff_not, Bool.not_eq_true', Bool.not_eq_false', ne_eq, Decidable.not_not] at hp1)
    refine cd_sr ?_   -- 4
    refine ol_q (wn_none rfl) (op_assign (v := .bool _) rfl) rfl ?_
    refine ol_nil_then ?_
    refine cd_ret ?_
    refine px_thenR ?_
    exact px_ret1 rfl (v := .bool _) rfl (fun _ s => (s.del 0)) ⟨congrArg Value.bool (by simp), rfl⟩
  · have hp1 := hb1
    (try simp only [decide_eq_true_eq, decide_eq_false_iff_not, Bool.not_eq_true', Bool.not_eq_false', ne_eq, Decidable.not_not] at hp1)
    refine cd_skip ?_
    refine px_then ?_
    refine cd_sr ?_   -- 5
    refine ol_q (wn_none rfl) (op_move (v := .int _ _) rfl) rfl ?_
    refine ol_q (wn_none rfl) (op_move (v := .int _ _) rfl) rfl ?_
    refine ol_i (wn_none rfl) (os_call cb_16 rfl (fun w s => New_calls _ _ s)) rfl ?_; rintro _ l2 (⟨rfl, hl2, hbad1⟩ | ⟨p1, rfl, hok1, rfl⟩)
    · rw [hl2]
      refine ol_q (wn_none rfl) (op_assign (v := .pointer _) rfl) rfl ?_
      refine ol_nil_then ?_
      refine cd_sr ?_   -- 6
      refine ol_q (wn_none rfl) (op_move (v := .int _ _) rfl) rfl ?_
      refine ol_q (wn_none rfl) (op_move (v := .int _ _) rfl) rfl ?_
      refine ol_i (wn_none rfl) (os_call cb_22 rfl (fun w s => RNew_calls _ _ s)) rfl ?_; rintro _ l2 (⟨rfl, hl2, hbad2⟩ | ⟨p2, rfl, hok2, rfl⟩)
      · rw [hl2]
        refine ol_q (wn_none rfl) (op_move (v := .tuple _) rfl) rfl ?_
        refine ol_q (wn_none rfl) (op_extract (v := .pointer _) rfl rfl) rfl ?_
        refine ol_q (wn_none rfl) (op_extract (v := .bool _) rfl rfl) rfl ?_
        refine ol_q (wn_none rfl) (op_assign (v := .pointer _) rfl) rfl ?_
        refine ol_q (wn_none rfl) (op_assign (v := .bool _) rfl) rfl ?_
        refine ol_nil_then ?_
        refine cd_seq ?_
        refine cd_sr ?_   -- 7
        refine ol_q (wn_none rfl) (op_move (v := .bool _) rfl) rfl ?_
        refine ol_q (wn_none rfl) (op_not rfl) rfl ?_
        refine ol_q (wn_none rfl) (op_move (v := .bool _) rfl) rfl ?_
        refine ol_skip (wn_some rfl rfl rfl rfl rfl) rfl ?_
        refine ol_skip (wn_some rfl rfl rfl rfl rfl) rfl ?_
        refine ol_q (wn_none rfl) (op_pick_t (v := .bool _) rfl rfl rfl) rfl ?_
        refine ol_nil_then ?_
        refine cd_cond_t rfl rfl ?_
        refine cd_sr ?_   -- 8
        refine ol_q (wn_none rfl) (op_move (v := .bool _) rfl) rfl ?_
        refine ol_q (wn_none rfl) (op_not rfl) rfl ?_
        refine ol_q (wn_none rfl) (op_move (v := .bool _) rfl) rfl ?_
        refine ol_q (wn_some rfl rfl rfl rfl rfl) (op_move (v := .pointer _) rfl) rfl ?_
        refine ol_q (wn_some rfl rfl rfl rfl rfl) (op_eqnil Try.underlying24 rfl rfl) rfl ?_
        refine ol_q (wn_none rfl) (op_pick_t (v := .bool _) rfl rfl rfl) rfl ?_
        refine ol_q (wn_none rfl) (op_assign (v := .bool _) rfl) rfl ?_
        refine ol_nil_then ?_
        refine cd_ret ?_
        refine px_thenR ?_
        exact px_ret1 rfl (v := .bool _) rfl (fun _ s => (s.del 0)) ⟨congrArg Value.bool (by simp), rfl⟩
      · exact absurd hbad1 (by omega)
    · have hob1 := hok1
      refine ol_q (wn_none rfl) (op_assign (v := .pointer _) rfl) rfl ?_
      refine ol_nil_then ?_
      refine cd_sr ?_   -- 6
      refine ol_q (wn_none rfl) (op_move (v := .int _ _) rfl) rfl ?_
      refine ol_q (wn_none rfl) (op_move (v := .int _ _) rfl) rfl ?_
      refine ol_i (wn_none rfl) (os_call cb_22 rfl (fun w s => RNew_calls _ _ s)) rfl ?_; rintro _ l2 (⟨rfl, hl2, hbad2⟩ | ⟨p2, rfl, hok2, rfl⟩)
      · exact absurd hbad2 (by omega)
      · have hob2 := hok2
        refine ol_q (wn_none rfl) (op_move (v := .tuple _) rfl) rfl ?_
        refine ol_q (wn_none rfl) (op_extract (v := .pointer _) rfl rfl) rfl ?_
        refine ol_q (wn_none rfl) (op_extract (v := .bool _) rfl rfl) rfl ?_
        refine ol_q (wn_none rfl) (op_assign (v := .pointer _) rfl) rfl ?_
        refine ol_q (wn_none rfl) (op_assign (v := .bool _) rfl) rfl ?_
        refine ol_nil_then ?_
        refine cd_seq ?_
        refine cd_sr ?_   -- 7
        refine ol_q (wn_none rfl) (op_move (v := .bool _) rfl) rfl ?_
        refine ol_q (wn_none rfl) (op_not rfl) rfl ?_
        refine ol_q (wn_none rfl) (op_move (v := .bool _) rfl) rfl ?_
        refine ol_q (wn_some rfl rfl rfl rfl rfl) (op_move (v := .pointer _) rfl) rfl ?_
        refine ol_q (wn_some rfl rfl rfl rfl rfl) (op_eqnil Try.underlying24 rfl rfl) rfl ?_
        refine ol_q (wn_none rfl) (op_pick_f (v := .bool _) rfl rfl rfl) rfl ?_
        refine ol_nil_then ?_
        refine cd_cond_f rfl rfl ?_
        refine cd_skip ?_
        refine px_then ?_
        refine cd_seq ?_
        refine cd_sr ?_   -- 9
        refine ol_q (wn_none rfl) (op_move (v := .slice _ _ _) rfl) rfl ?_
        refine ol_q (wn_none rfl) (op_len_slice Try.underlying22 rfl) rfl ?_
        refine ol_q (wn_none rfl) (op_move (v := .int _ _) rfl) rfl ?_
        refine ol_nil_then ?_
        refine cd_block ?_
        refine cd_loop2 (α := Nat × TabS) [(8, 8), (13, 13), (15, 15), (44, 83)] (fun x => [(44, .int .i64 (x.1 : Int))]) (fun x => RTabObj p2 x.2 :: TabObj p1 x.2 :: Blk bx1 (.cells (rootC r).toArray 29 (0, 0)) :: l) (fun x => x.1 ≤ xs.length ∧ x.2.latest.length = n.toNat) (fun x => xs.length - x.1) (0, TabS.new n.toNat sl) ⟨Nat.zero_le _, by simp [TabS.new]⟩ ⟨rfl, trivial⟩ (fun _ s => s) ?_
        rintro ⟨i, t⟩ ⟨hi, hlen⟩ f; (try dsimp only at hi hlen ⊢)
        refine cd_sr ?_   -- 10
        refine ol_q (wn_none rfl) (op_lt rfl rfl) rfl ?_
        refine ol_nil_then ?_
        refine cd_seq ?_
        refine cd_cond rfl (fun hb2 => ?_) (fun hb2 => ?_)
        · have hp2 := hb2
          (try simp only [decide_eq_true_eq, decide_eq_false_iff_not, Bool.not_eq_true', Bool.not_eq_false', ne_eq, Decidable.not_not] at hp2)
          have hqi := hq _ (List.getElem_mem (show i < xs.length by omega)); unfold I64 at hqi
          have hlen2 : (t.take ⟨xs[i].who, xs[i].slot, nameR xs[i].nr⟩).2.latest.length = n.toNat := (t.take_slots _).2.trans hlen
          refine cd_skip ?_
          refine px_then ?_
          refine cd_seq ?_
          refine cd_block ?_
          refine cd_sr ?_   -- 11
          refine ol_q (wn_none rfl) (op_index _ sB_22 rfl rfl rfl (((hr.cons _).cons _).cons _) rfl (by omega)) rfl ?_
          refine ol_q (wn_none rfl) (op_ldaw (L := tCallC _) ag_27 (((hr.cons _).cons _).cons _) rfl (by omega) rfl (tCallC_ta _)) rfl ?_
          refine ol_i (wn_none rfl) (os_alloc (cs := (tCallC TCall.zero).toArray) zB_27 (by kernel_rfl)) rfl ?_; rintro _ _ ⟨bx2, rfl, rfl⟩
          refine ol_iN (wn_none rfl) (os_storew (tCallC _) ag_27 rfl rfl (tCallC_len _) (tCallC_one _) (by simp [tCallC_len]) (Free.zero _)) ?_; rintro _ _ ⟨rfl, rfl⟩
          refine ol_nil_then ?_
          refine cd_seq ?_
          refine cd_sr ?_   -- 12
          refine ol_q (wn_none rfl) (op_field fld_27_0 rfl) rfl ?_
          refine ol_q (wn_none rfl) (op_ld 0 sc_4 rfl rfl (tCallC_a0 _)) rfl ?_
          refine ol_nil_then ?_
          refine cd_cond rfl (fun hb3 => ?_) (fun hb3 => ?_)
          · have hp3 := hb3
            (try simp only [decide_eq_true_eq, decide_eq_false_iff_not, Bool.not_eq_true', Bool.not_eq_false', ne_eq, Decidable.not_not] at hp3)
            refine cd_exit ?_
            refine px_thenE ?_
            refine px_blockE ?_
            refine px_then ?_
            refine cd_region ?_   -- 23
            refine ol_q (wn_none rfl) (op_add rfl rfl (by omega) (by omega)) rfl ?_
            refine ol_q (wn_none rfl) (op_move (v := .int _ _) rfl) rfl ?_
            refine ol_nil ?_
            refine px_loop2 (i + 1, t) ⟨by dsimp only; omega, hlen⟩ (by (try dsimp only); omega) ⟨congrArg (Value.int .i64) (by simp), trivial⟩ ?_ (fun _ s => (s.del 0))
            repeat (first | exact kept_over | refine kept_upd rfl ?_ | refine kept_overS (by decide) ?_)
          · have hp3 := hb3
            (try simp only [decide_eq_true_eq, decide_eq_false_iff_not, Bool.not_eq_true', Bool.not_eq_false', ne_eq, Decidable.not_not] at hp3)
            refine cd_skip ?_
            refine px_then ?_
            refine cd_seq ?_
            refine cd_pull1 ?_
            refine cd_pull2 ?_
            refine cd_seq ?_   -- 13
            refine cd_drawe (M := [_, _]) mx [2, 3, 6, 7] ?_
            -- 0
            refine et_quiet 0 (by kernel_rfl) rfl (by kernel_rfl) (wn_none rfl) (op_move (v := .pointer _) rfl) rfl ?_
            -- 1
            refine et_quiet 1 (by kernel_rfl) rfl (by kernel_rfl) (wn_none rfl) (op_lda (L := tCallC _) 0 ag_27 rfl rfl (tCallC_ta _) (by simp [tCallC_len])) rfl ?_
            -- 4
            refine et_quiet 4 (by kernel_rfl) rfl (by kernel_rfl) (wn_none rfl) (op_move (v := .pointer _) rfl) rfl ?_
            -- 5
            refine et_quiet 5 (by kernel_rfl) rfl (by kernel_rfl) (wn_none rfl) (op_lda (L := tCallC _) 0 ag_27 rfl rfl (tCallC_ta _) (by simp [tCallC_len])) rfl ?_
            refine et_1 (i := 2) (by kernel_rfl) ?_
            refine ei_i rfl rfl (wn_none rfl) (os_call cb_17 rfl (fun w s => vote_calls _  s )) rfl ?_; rintro _ l ⟨rfl, rfl⟩; refine ⟨[_, _], rfl, ?_⟩
            refine et_1 (i := 3) (by kernel_rfl) ?_
            refine ei_i rfl rfl (wn_none rfl) (os_call cb_18 rfl (fun w s => Take_calls _ _ _  s )) rfl ?_; rintro _ _ ⟨rfl, rfl⟩; refine ⟨[_, _], rfl, ?_⟩
            refine et_1 (i := 6) (by kernel_rfl) ?_
            refine ei_i rfl rfl (wn_none rfl) (os_call cb_17 rfl (fun w s => vote_calls _  s )) rfl ?_; rintro _ l ⟨rfl, rfl⟩; refine ⟨[_, _], rfl, ?_⟩
            refine et_1 (i := 7) (by kernel_rfl) ?_
            refine ei_i rfl rfl (wn_none rfl) (os_pull1 (os_call cb_23 rfl (fun w s => RTake_calls _ _ _  s ))) rfl ?_; rintro _ _ ⟨rfl, rfl⟩; refine ⟨[_, _], rfl, ?_⟩
            -- 8
            refine et_quiet 8 (by kernel_rfl) rfl (by kernel_rfl) (wn_none rfl) (op_ne rfl rfl) rfl ?_
            refine et_nil_then (by kernel_rfl) ?_
            refine cd_cond rfl (fun hb4 => ?_) (fun hb4 => ?_)
            · have hp4 := hb4
              (try simp only [decide_eq_true_eq, decide_eq_false_iff_not, Bool.not_eq_true', Bool.not_eq_false', ne_eq, Decidable.not_not] at hp4)
              exact absurd hb4 (by simp)
            · have hp4 := hb4
              (try simp only [decide_eq_true_eq, decide_eq_false_iff_not, Bool.not_eq_true', Bool.not_eq_false', ne_eq, Decidable.not_not] at hp4)
              refine cd_skip ?_
              refine px_then ?_
              refine cd_seq ?_
              refine cd_sr ?_   -- 15
              refine ol_q (wn_none rfl) (op_lda (L := rootC _) 3 ag_29 rfl rfl (rootC_take' _) (by simp [rootC_len])) rfl ?_
              refine ol_q (wn_none rfl) (op_build (L := voteC _) (vs := [(0, .int _ _), (2, .agg (rootC _).toArray)]) bB_31 rfl ⟨⟨rfl, by rw [voteC_len]; rfl⟩, ⟨by simp [Value.cells, rootC_len], by rw [voteC_len]; rfl⟩, trivial⟩ ((voteC_b0 _ _ _).trans ((voteC_b2 _ _ _).trans rfl))) rfl ?_
              refine ol_q (wn_none rfl) (op_move (v := .int _ _) rfl) rfl ?_
              refine ol_q (wn_none rfl) (op_lda (L := rootC _) 3 ag_29 rfl rfl (rootC_take' _) (by simp [rootC_len])) rfl ?_
              refine ol_q (wn_none rfl) (op_build (L := voteC _) (vs := [(0, .int _ _), (2, .agg (rootC _).toArray)]) bB_31 rfl ⟨⟨rfl, by rw [voteC_len]; rfl⟩, ⟨by simp [Value.cells, rootC_len], by rw [voteC_len]; rfl⟩, trivial⟩ ((voteC_b0 _ _ _).trans ((voteC_b2 _ _ _).trans rfl))) rfl ?_
              refine ol_q (wn_none rfl) (op_lda (L := rootC _) 3 ag_29 rfl rfl (rootC_take' _) (by simp [rootC_len])) rfl ?_
              refine ol_q (wn_none rfl) (op_build (L := voteC _) (vs := [(1, .int _ _), (2, .agg (rootC _).toArray)]) bB_31 rfl ⟨⟨rfl, by rw [voteC_len]; rfl⟩, ⟨by simp [Value.cells, rootC_len], by rw [voteC_len]; rfl⟩, trivial⟩ ((voteC_b1 _ _ _).trans ((voteC_b2 _ _ _).trans rfl))) rfl ?_
              refine ol_q (wn_none rfl) (op_lda (L := rootC _) 3 ag_29 rfl rfl (rootC_take' _) (by simp [rootC_len])) rfl ?_
              refine ol_q (wn_none rfl) (op_build (L := voteC _) (vs := [(1, .int _ _), (2, .agg (rootC _).toArray)]) bB_31 rfl ⟨⟨rfl, by rw [voteC_len]; rfl⟩, ⟨by simp [Value.cells, rootC_len], by rw [voteC_len]; rfl⟩, trivial⟩ ((voteC_b1 _ _ _).trans ((voteC_b2 _ _ _).trans rfl))) rfl ?_
              refine ol_i (wn_none rfl) (os_bslice (E := encVote) [_, _, _, _] (ys := [_, _, _, _]) sB_46 zv_31 rfl rfl rfl rfl (by decide)) rfl ?_; rintro _ _ ⟨ao1, rfl, rfl⟩
              refine ol_q (wn_none rfl) (op_len_slice Try.underlying46 rfl) rfl ?_
              refine ol_q (wn_none rfl) (op_move (v := .int _ _) rfl) rfl ?_
              refine ol_nil_then ?_
              refine cd_block ?_
              have hbv : ∀ v : Vote, (v.who = -1 ∨ v.who = n ∨ v.slot = -1 ∨ v.slot = 1073741825) → (t.take ⟨xs[i].who, xs[i].slot, nameR xs[i].nr⟩).2.take v = (5, (t.take ⟨xs[i].who, xs[i].slot, nameR xs[i].nr⟩).2) := fun v hv => TabS.take_none (hv.elim (fun h => .inl (bool_not_true fun h2 => by rw [TabS.isV_iff, h] at h2; omega)) fun hv => hv.elim (fun h => .inl (bool_not_true fun h2 => by rw [TabS.isV_iff, h, hlen2] at h2; omega)) fun hv => hv.elim (fun h => .inr (.inl (by omega))) fun h => .inr (.inr (by omega)))
              refine cd_loop2 (α := Nat) [(8, 8), (15, 15), (70, 78)] (fun x => [(70, .int .i64 (x : Int))]) (fun _ => _) (fun x => x ≤ 4) (fun x => 4 - x) 0 (by omega) ⟨rfl, trivial⟩ (fun _ s => s) ?_
              intro j hj f
              refine cd_sr ?_   -- 16
              refine ol_q (wn_none rfl) (op_lt rfl rfl) rfl ?_
              refine ol_nil_then ?_
              refine cd_seq ?_
              refine cd_cond rfl (fun hb5 => ?_) (fun hb5 => ?_)
              · have hp5 := hb5
                (try simp only [decide_eq_true_eq, decide_eq_false_iff_not, Bool.not_eq_true', Bool.not_eq_false', ne_eq, Decidable.not_not] at hp5)
                have hj2 : j < 4 := by have h0 := hb5; simp at h0; omega
                refine cd_skip ?_
                refine px_then ?_
                refine cd_seq ?_
                refine cd_block ?_
                refine cd_sr ?_   -- 17
                refine ol_q (wn_none rfl) (op_index _ sB_46 rfl rfl rfl (rds_row 0 rfl rfl) rfl (by simp; omega)) rfl ?_
                refine ol_q (wn_none rfl) (op_ldaw (L := voteC _) ag_31 (rds_row 0 rfl rfl) rfl (by simp; omega) rfl (voteC_ta _)) rfl ?_
                refine ol_i (wn_none rfl) (os_alloc (cs := (voteC Vote.zero).toArray) zB_31 (by kernel_rfl)) rfl ?_; rintro _ _ ⟨bx3, rfl, rfl⟩
                refine ol_iN (wn_none rfl) (os_storew (voteC _) ag_31 rfl rfl (voteC_len _) (voteC_one _) (by simp [voteC_len]) (Free.zero _)) ?_; rintro _ _ ⟨rfl, rfl⟩
                refine ol_nil_then ?_
                refine cd_sr ?_   -- 18
                refine ol_q (wn_none rfl) (op_move (v := .pointer _) rfl) rfl ?_
                refine ol_q (wn_none rfl) (op_lda (L := voteC _) 0 ag_31 rfl rfl (voteC_ta _) (by simp [voteC_len])) rfl ?_
                refine ol_pull3 ?_
                refine ol_i (wn_none rfl) (os_call cb_18 rfl (fun w s => Take_calls _ _ _  s )) rfl ?_; rintro _ _ ⟨rfl, rfl⟩; rw [hbv _ (by rcases (show j = 0 ∨ j = 1 ∨ j = 2 ∨ j = 3 by omega) with rfl | rfl | rfl | rfl <;> simp)]
                refine ol_q (wn_none rfl) (op_ne rfl rfl) rfl ?_
                refine ol_nil_then ?_
                refine cd_cond rfl (fun hb6 => ?_) (fun hb6 => ?_)
                · have hp6 := hb6
                  (try simp only [decide_eq_true_eq, decide_eq_false_iff_not, Bool.not_eq_true', Bool.not_eq_false', ne_eq, Decidable.not_not] at hp6)
                  exact absurd hb6 (by simp)
                · have hp6 := hb6
                  (try simp only [decide_eq_true_eq, decide_eq_false_iff_not, Bool.not_eq_true', Bool.not_eq_false', ne_eq, Decidable.not_not] at hp6)
                  refine cd_skip ?_
                  refine px_blockN ?_
                  refine px_then ?_
                  refine cd_region ?_   -- 20
                  refine ol_q (wn_none rfl) (op_add rfl rfl (by omega) (by omega)) rfl ?_
                  refine ol_q (wn_none rfl) (op_move (v := .int _ _) rfl) rfl ?_
                  refine ol_nil ?_
                  refine px_loop2 (j + 1) (by omega) (by (try dsimp only); omega) ⟨congrArg (Value.int .i64) (by simp), trivial⟩ ?_ (fun _ s => ((((((s.del 1).pull 4).pull 4).pull 2).pull 4).pull 4))
                  repeat (first | exact kept_over | refine kept_upd rfl ?_ | refine kept_overS (by decide) ?_)
              · have hp5 := hb5
                (try simp only [decide_eq_true_eq, decide_eq_false_iff_not, Bool.not_eq_true', Bool.not_eq_false', ne_eq, Decidable.not_not] at hp5)
                refine cd_exit ?_
                refine px_thenE ?_
                refine px_thenE ?_
                refine px_blockE ?_
                refine px_then ?_
                refine cd_sr ?_   -- 21
                refine ol_q (wn_none rfl) (op_move (v := .pointer _) rfl) rfl ?_
                refine ol_q (wn_none rfl) (op_move (v := .pointer _) rfl) rfl ?_
                refine ol_pull1 ?_
                refine ol_pull2 ?_
                refine ol_i (wn_none rfl) (os_call cb_24 rfl (fun w s => same_calls _ _ _  s )) rfl ?_; rintro _ _ ⟨rfl, rfl⟩
                refine ol_q (wn_none rfl) (op_not rfl) rfl ?_
                refine ol_nil_then ?_
                refine cd_cond_f rfl rfl ?_
                refine cd_skip ?_
                refine px_blockN ?_
                refine px_then ?_
                refine cd_region ?_   -- 23
                refine ol_q (wn_none rfl) (op_add rfl rfl (by omega) (by omega)) rfl ?_
                refine ol_q (wn_none rfl) (op_move (v := .int _ _) rfl) rfl ?_
                refine ol_nil ?_
                refine px_loop2 (i + 1, (t.take ⟨xs[i].who, xs[i].slot, nameR xs[i].nr⟩).2) ⟨by dsimp only; omega, hlen2⟩ (by (try dsimp only); omega) ⟨congrArg (Value.int .i64) (by simp), trivial⟩ ?_ (fun _ s => (((((s.del 3).del 2).pull 2).pull 1).pull 2))
                repeat (first | exact kept_over | refine kept_upd rfl ?_ | refine kept_overS (by decide) ?_)
        · have hp2 := hb2
          (try simp only [decide_eq_true_eq, decide_eq_false_iff_not, Bool.not_eq_true', Bool.not_eq_false', ne_eq, Decidable.not_not] at hp2)
          refine cd_exit ?_
          refine px_thenE ?_
          refine px_thenE ?_
          refine px_blockE ?_
          refine px_then ?_
          refine cd_sr ?_   -- 24
          refine ol_q (wn_none rfl) (op_assign (v := .bool _) rfl) rfl ?_
          refine ol_nil_then ?_
          refine cd_ret ?_
          exact px_ret1 rfl (v := .bool _) rfl (fun _ s => (((s.del 2).del 1).del 0)) ⟨congrArg Value.bool (by simp), rfl⟩

set_option maxRecDepth 100000 in
set_option maxHeartbeats 1000000 in
theorem TableOnce_calls {w0 w : World} {l : List HProp} (n sl : Int) (ao : Option Addr) (c : Nat) (xs : List TCall) (hs : Sat w0 w (l)) (hr : Rds w0 l encTCall ao xs) (hq : ∀ a ∈ xs, I64 a.who ∧ I64 a.slot ∧ I64 a.nr) :
    Calls Try.prog 7 #[.int .i64 n, .int .i64 sl, .slice ao xs.length c] w (Ret w0 fun v l' => v = .bool true ∧ l' = l) := by
  refine calls_enter Try.func7 rfl rfl rfl hs ?_
  refine cd_sr ?_   -- 0
  refine ol_q (wn_none rfl) (op_assign (v := .bool _) rfl) rfl ?_
  refine ol_nil_then ?_
  refine cd_seq ?_
  refine cd_sr ?_   -- 1
  refine ol_i (wn_none rfl) (os_call cb_15 rfl (fun w s => tabAlive_calls  s )) rfl ?_; rintro _ l ⟨rfl, rfl⟩
  refine ol_q (wn_none rfl) (op_not rfl) rfl ?_
  refine ol_nil_then ?_
  refine cd_cond_f rfl rfl ?_
  refine cd_skip ?_
  refine px_then ?_
  refine cd_seq ?_
  refine cd_sr ?_   -- 3
  refine ol_q (wn_none rfl) (op_move (v := .slice _ _ _) rfl) rfl ?_
  refine ol_q (wn_none rfl) (op_len_slice Try.underlying22 rfl) rfl ?_
  refine ol_q (wn_none rfl) (op_gt rfl rfl) rfl ?_
  refine ol_nil_then ?_
  refine cd_cond rfl (fun hb1 => ?_) (fun hb1 => ?_)
  · have hp1 := hb1
    (try simp only [decide_eq_true_eq, decide_eq_false_iff_not, Bool.not_eq_true', Bool.not_eq_false', ne_eq, Decidable.not_not] at hp1)
    refine cd_sr ?_   -- 4
    refine ol_q (wn_none rfl) (op_assign (v := .bool _) rfl) rfl ?_
    refine ol_nil_then ?_
    refine cd_ret ?_
    refine px_thenR ?_
    exact px_ret1 rfl (v := .bool _) rfl (fun _ s => s) ⟨congrArg Value.bool (by simp), rfl⟩
  · have hp1 := hb1
    (try simp only [decide_eq_true_eq, decide_eq_false_iff_not, Bool.not_eq_true', Bool.not_eq_false', ne_eq, Decidable.not_not] at hp1)
    refine cd_skip ?_
    refine px_then ?_
    refine cd_sr ?_   -- 5
    refine ol_q (wn_none rfl) (op_move (v := .int _ _) rfl) rfl ?_
    refine ol_q (wn_none rfl) (op_move (v := .int _ _) rfl) rfl ?_
    refine ol_i (wn_none rfl) (os_call cb_16 rfl (fun w s => New_calls _ _ s)) rfl ?_; rintro _ l2 (⟨rfl, hl2, hbad1⟩ | ⟨p1, rfl, hok1, rfl⟩)
    · rw [hl2]
      refine ol_q (wn_none rfl) (op_assign (v := .pointer _) rfl) rfl ?_
      refine ol_nil_then ?_
      refine cd_seq ?_
      refine cd_sr ?_   -- 6
      refine ol_q (wn_none rfl) (op_move (v := .pointer _) rfl) rfl ?_
      refine ol_q (wn_none rfl) (op_eqnil Try.underlying24 rfl rfl) rfl ?_
      refine ol_nil_then ?_
      refine cd_cond_t rfl rfl ?_
      refine cd_sr ?_   -- 7
      refine ol_q (wn_none rfl) (op_assign (v := .bool _) rfl) rfl ?_
      refine ol_nil_then ?_
      refine cd_ret ?_
      refine px_thenR ?_
      exact px_ret1 rfl (v := .bool _) rfl (fun _ s => s) ⟨congrArg Value.bool (by simp), rfl⟩
    · have hob1 := hok1
      refine ol_q (wn_none rfl) (op_assign (v := .pointer _) rfl) rfl ?_
      refine ol_nil_then ?_
      refine cd_seq ?_
      refine cd_sr ?_   -- 6
      refine ol_q (wn_none rfl) (op_move (v := .pointer _) rfl) rfl ?_
      refine ol_q (wn_none rfl) (op_eqnil Try.underlying24 rfl rfl) rfl ?_
      refine ol_nil_then ?_
      refine cd_cond_f rfl rfl ?_
      refine cd_skip ?_
      refine px_then ?_
      refine cd_seq ?_
      refine cd_sr ?_   -- 8
      refine ol_q (wn_none rfl) (op_move (v := .slice _ _ _) rfl) rfl ?_
      refine ol_q (wn_none rfl) (op_len_slice Try.underlying22 rfl) rfl ?_
      refine ol_q (wn_none rfl) (op_move (v := .int _ _) rfl) rfl ?_
      refine ol_nil_then ?_
      refine cd_block ?_
      refine cd_loop2 (α := Nat × TabS) [(6, 6), (9, 15), (28, 121)] (fun x => [(28, .int .i64 (x.1 : Int))]) (fun x => TabObj p1 x.2 :: l) (fun x => x.1 ≤ xs.length ∧ x.2.slots = sl) (fun x => xs.length - x.1) (0, TabS.new n.toNat sl) ⟨Nat.zero_le _, rfl⟩ ⟨rfl, trivial⟩ (fun _ s => s) ?_
      rintro ⟨i, t⟩ ⟨hi, hsl⟩ f; (try dsimp only at hi hsl ⊢); refine cd_know (φ := t.WF) (fun w s => s.tabWF) (fun hwf => ?_)
      refine cd_sr ?_   -- 9
      refine ol_q (wn_none rfl) (op_lt rfl rfl) rfl ?_
      refine ol_nil_then ?_
      refine cd_seq ?_
      refine cd_cond rfl (fun hb2 => ?_) (fun hb2 => ?_)
      · have hp2 := hb2
        (try simp only [decide_eq_true_eq, decide_eq_false_iff_not, Bool.not_eq_true', Bool.not_eq_false', ne_eq, Decidable.not_not] at hp2)
        have hqi := hq _ (List.getElem_mem (show i < xs.length by omega)); unfold I64 at hqi
        refine cd_skip ?_
        refine px_then ?_
        refine cd_seq ?_
        refine cd_block ?_
        refine cd_sr ?_   -- 10
        refine ol_q (wn_none rfl) (op_index _ sB_22 rfl rfl rfl (hr.cons _) rfl (by omega)) rfl ?_
        refine ol_q (wn_none rfl) (op_ldaw (L := tCallC _) ag_27 (hr.cons _) rfl (by omega) rfl (tCallC_ta _)) rfl ?_
        refine ol_i (wn_none rfl) (os_alloc (cs := (tCallC TCall.zero).toArray) zB_27 (by kernel_rfl)) rfl ?_; rintro _ _ ⟨bx1, rfl, rfl⟩
        refine ol_iN (wn_none rfl) (os_storew (tCallC _) ag_27 rfl rfl (tCallC_len _) (tCallC_one _) (by simp [tCallC_len]) (Free.zero _)) ?_; rintro _ _ ⟨rfl, rfl⟩
        refine ol_nil_then ?_
        refine cd_sr ?_   -- 11
        refine ol_q (wn_none rfl) (op_move (v := .pointer _) rfl) rfl ?_
        refine ol_q (wn_none rfl) (op_field fld_27_1 rfl) rfl ?_
        refine ol_q (wn_none rfl) (op_ld 0 sc_3 rfl rfl (tCallC_a1 _)) rfl ?_
        refine ol_pull1 ?_
        refine ol_i (wn_none rfl) (os_call cb_21 rfl (fun w s => TVote_calls _ _ _  s )) rfl ?_; rintro _ _ ⟨rfl, rfl⟩
        refine ol_q (wn_none rfl) (op_move (v := .tuple _) rfl) rfl ?_
        refine ol_q (wn_none rfl) (op_extract (v := .agg _) rfl rfl) rfl ?_
        refine ol_q (wn_none rfl) (op_extract (v := .bool _) rfl rfl) rfl ?_
        refine ol_i (wn_none rfl) (os_alloc (cs := (voteC Vote.zero).toArray) zB_31 (by kernel_rfl)) rfl ?_; rintro _ _ ⟨bx2, rfl, rfl⟩
        refine ol_iN (wn_none rfl) (os_storew (voteC _) ag_31 rfl rfl (voteC_len _) (voteC_one _) (by simp [voteC_len]) (Free.zero _)) ?_; rintro _ _ ⟨rfl, rfl⟩
        refine ol_q (wn_none rfl) (op_assign (v := .bool _) rfl) rfl ?_
        refine ol_nil_then ?_
        refine cd_sr ?_   -- 12
        refine ol_q (wn_none rfl) (op_move (v := .pointer _) rfl) rfl ?_
        refine ol_q (wn_none rfl) (op_field fld_27_1 rfl) rfl ?_
        refine ol_q (wn_none rfl) (op_ld 2 sc_3 rfl rfl (tCallC_a1 _)) rfl ?_
        refine ol_pull1 ?_
        refine ol_i (wn_none rfl) (os_call cb_19 rfl (fun w s => Counts_calls _ _ _  s )) rfl ?_; rintro _ _ ⟨rfl, rfl⟩
        refine ol_q (wn_none rfl) (op_assign (v := .bool _) rfl) rfl ?_
        refine ol_nil_then ?_
        refine cd_seq ?_
        refine cd_sr ?_   -- 13
        refine ol_q (wn_none rfl) (op_field fld_27_0 rfl) rfl ?_
        refine ol_q (wn_none rfl) (op_ld 2 sc_4 rfl rfl (tCallC_a0 _)) rfl ?_
        refine ol_nil_then ?_
        refine cd_cond rfl (fun hb3 => ?_) (fun hb3 => ?_)
        · have hp3 := hb3
          (try simp only [decide_eq_true_eq, decide_eq_false_iff_not, Bool.not_eq_true', Bool.not_eq_false', ne_eq, Decidable.not_not] at hp3)
          refine cd_sr ?_   -- 14
          refine ol_q (wn_none rfl) (op_move (v := .pointer _) rfl) rfl ?_
          refine ol_q (wn_none rfl) (op_field fld_27_2 rfl) rfl ?_
          refine ol_q (wn_none rfl) (op_ld 2 sc_3 rfl rfl (tCallC_a2 _)) rfl ?_
          refine ol_i (wn_none rfl) (os_call cb_25 rfl (fun w s => Forget_calls _ _ _  s (by omega))) rfl ?_; rintro _ _ ⟨rfl, rfl⟩
          refine ol_nil_then ?_
          refine cd_exit ?_
          refine px_thenE ?_
          refine px_blockE ?_
          refine px_then ?_
          refine cd_region ?_   -- 21
          refine ol_q (wn_none rfl) (op_add rfl rfl (by omega) (by omega)) rfl ?_
          refine ol_q (wn_none rfl) (op_move (v := .int _ _) rfl) rfl ?_
          refine ol_nil ?_
          refine px_loop2 (i + 1, t.forget xs[i].slot) ⟨by dsimp only; omega, (t.forget_slots _).1.trans hsl⟩ (by (try dsimp only); omega) ⟨congrArg (Value.int .i64) (by simp), trivial⟩ ?_ (fun _ s => ((s.del 2).del 1))
          repeat (first | exact kept_over | refine kept_upd rfl ?_ | refine kept_overS (by decide) ?_)
        · have hp3 := hb3
          (try simp only [decide_eq_true_eq, decide_eq_false_iff_not, Bool.not_eq_true', Bool.not_eq_false', ne_eq, Decidable.not_not] at hp3)
          refine cd_skip ?_
          refine px_then ?_
          refine cd_sr ?_   -- 15
          refine ol_q (wn_none rfl) (op_move (v := .pointer _) rfl) rfl ?_
          refine ol_q (wn_none rfl) (op_lda (L := tCallC _) 2 ag_27 rfl rfl (tCallC_ta _) (by simp [tCallC_len])) rfl ?_
          refine ol_i (wn_none rfl) (os_call cb_17 rfl (fun w s => vote_calls _  s )) rfl ?_; rintro _ l ⟨rfl, rfl⟩
          refine ol_i (wn_none rfl) (os_call cb_18 rfl (fun w s => Take_calls _ _ _  s )) rfl ?_; rintro _ _ ⟨rfl, rfl⟩
          refine ol_q (wn_none rfl) (op_assign (v := .int _ _) rfl) rfl ?_
          refine ol_nil_then ?_
          obtain ⟨o1, o2, o3, o4, o5⟩ := TabS.once2 t ⟨xs[i].who, xs[i].slot, nameR xs[i].nr⟩ hwf
          have hTs : (t.take ⟨xs[i].who, xs[i].slot, nameR xs[i].nr⟩).2.slots = sl := (t.take_slots _).1.trans hsl
          obtain ⟨T, hT⟩ : ∃ T, T = t.take ⟨xs[i].who, xs[i].slot, nameR xs[i].nr⟩ := ⟨_, rfl⟩
          rw [← hT] at o1 o2 o3 o4 o5 hTs ⊢
          dsimp only at o1 o2 o3 o4 o5
          have hB := vote_slot_rg hwf xs[i].who; rw [hsl] at o3
          refine cd_sr ?_   -- 16
          refine ol_q (wn_none rfl) (op_move (v := .pointer _) rfl) rfl ?_
          refine ol_q (wn_none rfl) (op_field fld_27_1 rfl) rfl ?_
          refine ol_q (wn_none rfl) (op_ld 2 sc_3 rfl rfl (tCallC_a1 _)) rfl ?_
          refine ol_i (wn_none rfl) (os_call cb_21 rfl (fun w s => TVote_calls _ _ _  s )) rfl ?_; rintro _ _ ⟨rfl, rfl⟩
          refine ol_q (wn_none rfl) (op_move (v := .tuple _) rfl) rfl ?_
          refine ol_q (wn_none rfl) (op_extract (v := .agg _) rfl rfl) rfl ?_
          refine ol_q (wn_none rfl) (op_extract (v := .bool _) rfl rfl) rfl ?_
          refine ol_i (wn_none rfl) (os_alloc (cs := (voteC Vote.zero).toArray) zB_31 (by kernel_rfl)) rfl ?_; rintro _ _ ⟨bx3, rfl, rfl⟩
          refine ol_iN (wn_none rfl) (os_storew (voteC _) ag_31 rfl rfl (voteC_len _) (voteC_one _) (by simp [voteC_len]) (Free.zero _)) ?_; rintro _ _ ⟨rfl, rfl⟩
          refine ol_q (wn_none rfl) (op_assign (v := .bool _) rfl) rfl ?_
          refine ol_nil_then ?_
          refine cd_seq ?_
          refine cd_sr ?_   -- 17
          refine ol_q (wn_none rfl) (op_move (v := .bool _) rfl) rfl ?_
          refine ol_q (wn_none rfl) (op_not rfl) rfl ?_
          refine ol_q (wn_none rfl) (op_move (v := .bool _) rfl) rfl ?_
          refine ol_split 62 rfl (fun hb4 => ?_) (fun hb4 => ?_)
          · have hp4 := hb4
            (try simp only [decide_eq_true_eq, decide_eq_false_iff_not, Bool.not_eq_true', Bool.not_eq_false', ne_eq, Decidable.not_not] at hp4)
            refine ol_q (wn_some rfl rfl rfl hb4 rfl) (op_move (v := .pointer _) rfl) rfl ?_
            refine ol_q (wn_some rfl rfl rfl hb4 rfl) (op_field fld_27_1 rfl) rfl ?_
            refine ol_q (wn_some rfl rfl rfl hb4 rfl) (op_ld 3 sc_3 rfl rfl (tCallC_a1 _)) rfl ?_
            refine ol_pull1 ?_
            refine ol_i (wn_some rfl rfl rfl hb4 rfl) (os_call cb_19 rfl (fun w s => Counts_calls _ _ _  s )) rfl ?_; rintro _ _ ⟨rfl, rfl⟩
            refine ol_q (wn_none rfl) (op_pick_t (v := .bool _) rfl hb4 rfl) rfl ?_
            refine ol_q (wn_none rfl) (op_move (v := .bool _) rfl) rfl ?_
            refine ol_split 68 rfl (fun hb5 => ?_) (fun hb5 => ?_)
            · have hp5 := hb5
              (try simp only [decide_eq_true_eq, decide_eq_false_iff_not, Bool.not_eq_true', Bool.not_eq_false', ne_eq, Decidable.not_not] at hp5)
              exact absurd (o1 hb5) (by simp_all)
            · have hp5 := hb5
              (try simp only [decide_eq_true_eq, decide_eq_false_iff_not, Bool.not_eq_true', Bool.not_eq_false', ne_eq, Decidable.not_not] at hp5)
              refine ol_q (wn_some rfl rfl rfl hb5 rfl) (op_move (v := .int _ _) rfl) rfl ?_
              refine ol_q (wn_some rfl rfl rfl hb5 rfl) (op_eq rfl rfl) rfl ?_
              refine ol_q (wn_some rfl rfl rfl hb5 rfl) (op_move (v := .bool _) rfl) rfl ?_
              refine ol_q (wn_some rfl rfl rfl hb5 rfl) (op_move (v := .bool _) rfl) rfl ?_
              refine ol_split 72 rfl (fun hb6 => ?_) (fun hb6 => ?_)
              · have hp6 := hb6
                (try simp only [decide_eq_true_eq, decide_eq_false_iff_not, Bool.not_eq_true', Bool.not_eq_false', ne_eq, Decidable.not_not] at hp6)
                refine ol_q (wn_some rfl rfl rfl hb6 rfl) (op_move (v := .pointer _) rfl) rfl ?_
                refine ol_q (wn_some rfl rfl rfl hb6 rfl) (op_field fld_27_1 rfl) rfl ?_
                refine ol_q (wn_some rfl rfl rfl hb6 rfl) (op_ld 3 sc_3 rfl rfl (tCallC_a1 _)) rfl ?_
                refine ol_i (wn_some rfl rfl rfl hb6 rfl) (os_call cb_19 rfl (fun w s => Counts_calls _ _ _  s )) rfl ?_; rintro _ _ ⟨rfl, rfl⟩
                refine ol_q (wn_some rfl rfl rfl hb6 rfl) (op_not rfl) rfl ?_
                refine ol_q (wn_some rfl rfl rfl hb5 rfl) (op_pick_t (v := .bool _) rfl hb6 rfl) rfl ?_
                refine ol_q (wn_some rfl rfl rfl hb5 rfl) (op_bneq Try.underlying4 rfl rfl) rfl ?_
                refine ol_q (wn_none rfl) (op_pick_f (v := .bool _) rfl hb5 rfl) rfl ?_
                refine ol_nil_then ?_
                refine cd_cond rfl (fun hb7 => ?_) (fun hb7 => ?_)
                · have hp7 := hb7
                  (try simp only [decide_eq_true_eq, decide_eq_false_iff_not, Bool.not_eq_true', Bool.not_eq_false', ne_eq, Decidable.not_not] at hp7)
                  exfalso; revert hb7; simp_all
                · have hp7 := hb7
                  (try simp only [decide_eq_true_eq, decide_eq_false_iff_not, Bool.not_eq_true', Bool.not_eq_false', ne_eq, Decidable.not_not] at hp7)
                  refine cd_skip ?_
                  refine px_then ?_
                  refine cd_seq ?_   -- 19
                  refine cd_draw (M := []) mx [8] (by kernel_rfl) ?_
                  refine rg_q (wn_none rfl) (op_move (v := .int _ _) rfl) rfl rfl ?_
                  refine rg_q (wn_none rfl) (op_eq rfl rfl) rfl rfl ?_
                  refine rg_q (wn_none rfl) (op_move (v := .bool _) rfl) rfl rfl ?_
                  refine rg_split 83 rfl (fun hb8 => ?_) (fun hb8 => ?_)
                  · have hp8 := hb8
                    (try simp only [decide_eq_true_eq, decide_eq_false_iff_not, Bool.not_eq_true', Bool.not_eq_false', ne_eq, Decidable.not_not] at hp8)
                    obtain ⟨o6, o7⟩ := o3 (of_decide_eq_true hb8)
                    obtain ⟨o8, o9⟩ := o5 (of_decide_eq_true hb8)
                    have hX : ((T.2.vote xs[i].who).getD Vote.zero) = ⟨xs[i].who, xs[i].slot, nameR xs[i].nr⟩ := by rw [o6]; rfl
                    have hXs : ((T.2.vote xs[i].who).getD Vote.zero).slot = xs[i].slot := by rw [hX]
                    refine rg_q (wn_some rfl rfl rfl hb8 rfl) (op_move (v := .bool _) rfl) rfl rfl ?_
                    refine rg_q (wn_some rfl rfl rfl hb8 rfl) (op_not rfl) rfl rfl ?_
                    refine rg_q (wn_some rfl rfl rfl hb8 rfl) (op_move (v := .bool _) rfl) rfl rfl ?_
                    refine rg_split 86 rfl (fun hb9 => ?_) (fun hb9 => ?_)
                    · have hp9 := hb9
                      (try simp only [decide_eq_true_eq, decide_eq_false_iff_not, Bool.not_eq_true', Bool.not_eq_false', ne_eq, Decidable.not_not] at hp9)
                      exact absurd hb9 (by rw [o6]; simp)
                    · have hp9 := hb9
                      (try simp only [decide_eq_true_eq, decide_eq_false_iff_not, Bool.not_eq_true', Bool.not_eq_false', ne_eq, Decidable.not_not] at hp9)
                      refine rg_q (wn_some rfl rfl rfl hb9 rfl) (op_lda (L := voteC _) 1 ag_31 rfl rfl (voteC_ta _) (by simp [voteC_len])) rfl rfl ?_
                      refine rg_q (wn_some rfl rfl rfl hb9 rfl) (op_lda (L := tCallC _) 3 ag_27 rfl rfl (tCallC_ta _) (by simp [tCallC_len])) rfl rfl ?_
                      refine rg_i (wn_some rfl rfl rfl hb9 rfl) (os_call cb_17 rfl (fun w s => vote_calls _  s )) rfl rfl ?_; rintro _ l ⟨rfl, rfl⟩; refine ⟨[], rfl, ?_⟩
                      refine rg_q (wn_some rfl rfl rfl hb9 rfl) (op_nes stB_31 rfl rfl (feq_Vote fs_31 Try.underlying3 rB_29 _ _)) rfl rfl ?_
                      refine rg_q (wn_some rfl rfl rfl hb8 rfl) (op_pick_f (v := .bool _) rfl hb9 rfl) rfl rfl ?_
                      refine rg_q (wn_some rfl rfl rfl hb8 rfl) (op_move (v := .bool _) rfl) rfl rfl ?_
                      refine rg_split 92 rfl (fun hb10 => ?_) (fun hb10 => ?_)
                      · have hp10 := hb10
                        (try simp only [decide_eq_true_eq, decide_eq_false_iff_not, Bool.not_eq_true', Bool.not_eq_false', ne_eq, Decidable.not_not] at hp10)
                        exact absurd hb10 (by rw [hX]; simp)
                      · have hp10 := hb10
                        (try simp only [decide_eq_true_eq, decide_eq_false_iff_not, Bool.not_eq_true', Bool.not_eq_false', ne_eq, Decidable.not_not] at hp10)
                        refine rg_q (wn_some rfl rfl rfl hb10 rfl) (op_move (v := .bool _) rfl) rfl rfl ?_
                        refine rg_q (wn_some rfl rfl rfl hb10 rfl) (op_move (v := .bool _) rfl) rfl rfl ?_
                        refine rg_split 94 rfl (fun hb11 => ?_) (fun hb11 => ?_)
                        · have hp11 := hb11
                          (try simp only [decide_eq_true_eq, decide_eq_false_iff_not, Bool.not_eq_true', Bool.not_eq_false', ne_eq, Decidable.not_not] at hp11)
                          obtain ⟨old, hold⟩ := Option.isSome_iff_exists.1 hb11
                          have o10 := o7 old hold
                          have hOs : ((t.vote xs[i].who).getD Vote.zero).slot = old.slot := by rw [hold]; rfl
                          refine rg_q (wn_some rfl rfl rfl hb11 rfl) (op_field fld_31_1 rfl) rfl rfl ?_
                          refine rg_q (wn_some rfl rfl rfl hb11 rfl) (op_ld 1 sc_3 rfl rfl (voteC_a1 _)) rfl rfl ?_
                          refine rg_q (wn_some rfl rfl rfl hb11 rfl) (op_move (v := .int _ _) rfl) rfl rfl ?_
                          refine rg_q (wn_some rfl rfl rfl hb11 rfl) (op_quo rfl rfl (by omega) (by omega) (by omega)) rfl rfl ?_
                          refine rg_q (wn_some rfl rfl rfl hb11 rfl) (op_field fld_31_1 rfl) rfl rfl ?_
                          refine rg_q (wn_some rfl rfl rfl hb11 rfl) (op_ld 2 sc_3 rfl rfl (voteC_a1 _)) rfl rfl ?_
                          refine rg_q (wn_some rfl rfl rfl hb11 rfl) (op_move (v := .int _ _) rfl) rfl rfl ?_
                          refine rg_q (wn_some rfl rfl rfl hb11 rfl) (op_quo rfl rfl (by omega) (by omega) (by omega)) rfl rfl ?_
                          refine rg_q (wn_some rfl rfl rfl hb11 rfl) (op_lt rfl rfl) rfl rfl ?_
                          refine rg_q (wn_some rfl rfl rfl hb10 rfl) (op_pick_t (v := .bool _) rfl hb11 rfl) rfl rfl ?_
                          refine rg_q (wn_some rfl rfl rfl hb8 rfl) (op_pick_f (v := .bool _) rfl hb10 rfl) rfl rfl ?_
                          refine rg_q (wn_none rfl) (op_pick_t (v := .bool _) rfl hb8 rfl) rfl rfl ?_
                          refine rg_q (wn_none rfl) (op_move (v := .bool _) rfl) rfl rfl ?_
                          refine rg_split 107 rfl (fun hb12 => ?_) (fun hb12 => ?_)
                          · have hp12 := hb12
                            (try simp only [decide_eq_true_eq, decide_eq_false_iff_not, Bool.not_eq_true', Bool.not_eq_false', ne_eq, Decidable.not_not] at hp12)
                            exact absurd (of_decide_eq_true hb12) (by rw [hXs, hOs]; omega)
                          · have hp12 := hb12
                            (try simp only [decide_eq_true_eq, decide_eq_false_iff_not, Bool.not_eq_true', Bool.not_eq_false', ne_eq, Decidable.not_not] at hp12)
                            refine rg_q (wn_some rfl rfl rfl hb12 rfl) (op_move (v := .int _ _) rfl) rfl rfl ?_
                            refine rg_q (wn_some rfl rfl rfl hb12 rfl) (op_ne rfl rfl) rfl rfl ?_
                            refine rg_q (wn_some rfl rfl rfl hb12 rfl) (op_move (v := .bool _) rfl) rfl rfl ?_
                            refine rg_split 110 rfl (fun hb13 => ?_) (fun hb13 => ?_)
                            · have hp13 := hb13
                              (try simp only [decide_eq_true_eq, decide_eq_false_iff_not, Bool.not_eq_true', Bool.not_eq_false', ne_eq, Decidable.not_not] at hp13)
                              exact absurd hb13 (by simp_all)
                            · have hp13 := hb13
                              (try simp only [decide_eq_true_eq, decide_eq_false_iff_not, Bool.not_eq_true', Bool.not_eq_false', ne_eq, Decidable.not_not] at hp13)
                              refine rg_skip (wn_some rfl rfl rfl hb13 rfl) rfl ?_
                              refine rg_skip (wn_some rfl rfl rfl hb13 rfl) rfl ?_
                              refine rg_skip (wn_some rfl rfl rfl hb13 rfl) rfl ?_
                              refine rg_skip (wn_some rfl rfl rfl hb13 rfl) rfl ?_
                              refine rg_skip (wn_undef rfl rfl rfl rfl) rfl ?_
                              refine rg_skip (wn_undef rfl rfl rfl rfl) rfl ?_
                              refine rg_skip (wn_undef rfl rfl rfl rfl) rfl ?_
                              refine rg_skip (wn_some rfl rfl rfl hb13 rfl) rfl ?_
                              refine rg_q (wn_some rfl rfl rfl hb12 rfl) (op_pick_f (v := .bool _) rfl hb13 rfl) rfl rfl ?_
                              refine rg_q (wn_none rfl) (op_pick_f (v := .bool _) rfl hb12 rfl) rfl rfl ?_
                              refine rg_nil_then0 ?_
                              refine cd_cond_f rfl rfl ?_
                              refine cd_skip ?_
                              refine px_blockN ?_
                              refine px_then ?_
                              refine cd_region ?_   -- 21
                              refine ol_q (wn_none rfl) (op_add rfl rfl (by omega) (by omega)) rfl ?_
                              refine ol_q (wn_none rfl) (op_move (v := .int _ _) rfl) rfl ?_
                              refine ol_nil ?_
                              refine px_loop2 (i + 1, T.2) ⟨by dsimp only; omega, hTs⟩ (by (try dsimp only); omega) ⟨congrArg (Value.int .i64) (by simp), trivial⟩ ?_ (fun _ s => (((s.del 3).del 2).del 1))
                              repeat (first | exact kept_over | refine kept_upd rfl ?_ | refine kept_overS (by decide) ?_)
                        · have hp11 := hb11
                          (try simp only [decide_eq_true_eq, decide_eq_false_iff_not, Bool.not_eq_true', Bool.not_eq_false', ne_eq, Decidable.not_not] at hp11)
                          refine rg_skip (wn_some rfl rfl rfl hb11 rfl) rfl ?_
                          refine rg_skip (wn_some rfl rfl rfl hb11 rfl) rfl ?_
                          refine rg_skip (wn_some rfl rfl rfl hb11 rfl) rfl ?_
                          refine rg_skip (wn_some rfl rfl rfl hb11 rfl) rfl ?_
                          refine rg_skip (wn_some rfl rfl rfl hb11 rfl) rfl ?_
                          refine rg_skip (wn_some rfl rfl rfl hb11 rfl) rfl ?_
                          refine rg_skip (wn_some rfl rfl rfl hb11 rfl) rfl ?_
                          refine rg_skip (wn_some rfl rfl rfl hb11 rfl) rfl ?_
                          refine rg_skip (wn_some rfl rfl rfl hb11 rfl) rfl ?_
                          refine rg_q (wn_some rfl rfl rfl hb10 rfl) (op_pick_f (v := .bool _) rfl hb11 rfl) rfl rfl ?_
                          refine rg_q (wn_some rfl rfl rfl hb8 rfl) (op_pick_f (v := .bool _) rfl hb10 rfl) rfl rfl ?_
                          refine rg_q (wn_none rfl) (op_pick_t (v := .bool _) rfl hb8 rfl) rfl rfl ?_
                          refine rg_q (wn_none rfl) (op_move (v := .bool _) rfl) rfl rfl ?_
                          refine rg_q (wn_some rfl rfl rfl rfl rfl) (op_move (v := .int _ _) rfl) rfl rfl ?_
                          refine rg_q (wn_some rfl rfl rfl rfl rfl) (op_ne rfl rfl) rfl rfl ?_
                          refine rg_q (wn_some rfl rfl rfl rfl rfl) (op_move (v := .bool _) rfl) rfl rfl ?_
                          refine rg_split 110 rfl (fun hb14 => ?_) (fun hb14 => ?_)
                          · have hp14 := hb14
                            (try simp only [decide_eq_true_eq, decide_eq_false_iff_not, Bool.not_eq_true', Bool.not_eq_false', ne_eq, Decidable.not_not] at hp14)
                            exact absurd hb14 (by simp_all)
                          · have hp14 := hb14
                            (try simp only [decide_eq_true_eq, decide_eq_false_iff_not, Bool.not_eq_true', Bool.not_eq_false', ne_eq, Decidable.not_not] at hp14)
                            refine rg_skip (wn_some rfl rfl rfl hb14 rfl) rfl ?_
                            refine rg_skip (wn_some rfl rfl rfl hb14 rfl) rfl ?_
                            refine rg_skip (wn_some rfl rfl rfl hb14 rfl) rfl ?_
                            refine rg_skip (wn_some rfl rfl rfl hb14 rfl) rfl ?_
                            refine rg_skip (wn_undef rfl rfl rfl rfl) rfl ?_
                            refine rg_skip (wn_undef rfl rfl rfl rfl) rfl ?_
                            refine rg_skip (wn_undef rfl rfl rfl rfl) rfl ?_
                            refine rg_skip (wn_some rfl rfl rfl hb14 rfl) rfl ?_
                            refine rg_q (wn_some rfl rfl rfl rfl rfl) (op_pick_f (v := .bool _) rfl hb14 rfl) rfl rfl ?_
                            refine rg_q (wn_none rfl) (op_pick_f (v := .bool _) rfl rfl rfl) rfl rfl ?_
                            refine rg_nil_then0 ?_
                            refine cd_cond_f rfl rfl ?_
                            refine cd_skip ?_
                            refine px_blockN ?_
                            refine px_then ?_
                            refine cd_region ?_   -- 21
                            refine ol_q (wn_none rfl) (op_add rfl rfl (by omega) (by omega)) rfl ?_
                            refine ol_q (wn_none rfl) (op_move (v := .int _ _) rfl) rfl ?_
                            refine ol_nil ?_
                            refine px_loop2 (i + 1, T.2) ⟨by dsimp only; omega, hTs⟩ (by (try dsimp only); omega) ⟨congrArg (Value.int .i64) (by simp), trivial⟩ ?_ (fun _ s => (((s.del 3).del 2).del 1))
                            repeat (first | exact kept_over | refine kept_upd rfl ?_ | refine kept_overS (by decide) ?_)
                  · have hp8 := hb8
                    (try simp only [decide_eq_true_eq, decide_eq_false_iff_not, Bool.not_eq_true', Bool.not_eq_false', ne_eq, Decidable.not_not] at hp8)
                    have o6 := o4 (of_decide_eq_false hb8)
                    refine rg_skip (wn_some rfl rfl rfl hb8 rfl) rfl ?_
                    refine rg_skip (wn_some rfl rfl rfl hb8 rfl) rfl ?_
                    refine rg_skip (wn_some rfl rfl rfl hb8 rfl) rfl ?_
                    refine rg_skip (wn_undef rfl rfl rfl rfl) rfl ?_
                    refine rg_skip (wn_undef rfl rfl rfl rfl) rfl ?_
                    refine rg_skip (wn_undef rfl rfl rfl rfl) rfl ?_
                    refine rg_skip (wn_undef rfl rfl rfl rfl) rfl ?_
                    refine rg_skip (wn_some rfl rfl rfl hb8 rfl) rfl ?_
                    refine rg_skip (wn_some rfl rfl rfl hb8 rfl) rfl ?_
                    refine rg_skip (wn_undef rfl rfl rfl rfl) rfl ?_
                    refine rg_skip (wn_undef rfl rfl rfl rfl) rfl ?_
                    refine rg_skip (wn_undef rfl rfl rfl rfl) rfl ?_
                    refine rg_skip (wn_undef rfl rfl rfl rfl) rfl ?_
                    refine rg_skip (wn_undef rfl rfl rfl rfl) rfl ?_
                    refine rg_skip (wn_undef rfl rfl rfl rfl) rfl ?_
                    refine rg_skip (wn_undef rfl rfl rfl rfl) rfl ?_
                    refine rg_skip (wn_undef rfl rfl rfl rfl) rfl ?_
                    refine rg_skip (wn_undef rfl rfl rfl rfl) rfl ?_
                    refine rg_skip (wn_undef rfl rfl rfl rfl) rfl ?_
                    refine rg_skip (wn_undef rfl rfl rfl rfl) rfl ?_
                    refine rg_skip (wn_undef rfl rfl rfl rfl) rfl ?_
                    refine rg_skip (wn_some rfl rfl rfl hb8 rfl) rfl ?_
                    refine rg_q (wn_none rfl) (op_pick_f (v := .bool _) rfl hb8 rfl) rfl rfl ?_
                    refine rg_q (wn_none rfl) (op_move (v := .bool _) rfl) rfl rfl ?_
                    refine rg_q (wn_some rfl rfl rfl rfl rfl) (op_move (v := .int _ _) rfl) rfl rfl ?_
                    refine rg_q (wn_some rfl rfl rfl rfl rfl) (op_ne rfl rfl) rfl rfl ?_
                    refine rg_q (wn_some rfl rfl rfl rfl rfl) (op_move (v := .bool _) rfl) rfl rfl ?_
                    refine rg_split 110 rfl (fun hb15 => ?_) (fun hb15 => ?_)
                    · have hp15 := hb15
                      (try simp only [decide_eq_true_eq, decide_eq_false_iff_not, Bool.not_eq_true', Bool.not_eq_false', ne_eq, Decidable.not_not] at hp15)
                      refine rg_q (wn_some rfl rfl rfl hb15 rfl) (op_lda (L := voteC _) 1 ag_31 rfl rfl (voteC_ta _) (by simp [voteC_len])) rfl rfl ?_
                      refine rg_q (wn_some rfl rfl rfl hb15 rfl) (op_lda (L := voteC _) 2 ag_31 rfl rfl (voteC_ta _) (by simp [voteC_len])) rfl rfl ?_
                      refine rg_q (wn_some rfl rfl rfl hb15 rfl) (op_nes stB_31 rfl rfl (feq_Vote fs_31 Try.underlying3 rB_29 _ _)) rfl rfl ?_
                      refine rg_q (wn_some rfl rfl rfl hb15 rfl) (op_move (v := .bool _) rfl) rfl rfl ?_
                      refine rg_split 114 rfl (fun hb16 => ?_) (fun hb16 => ?_)
                      · have hp16 := hb16
                        (try simp only [decide_eq_true_eq, decide_eq_false_iff_not, Bool.not_eq_true', Bool.not_eq_false', ne_eq, Decidable.not_not] at hp16)
                        exact absurd hb16 (by rw [o6]; simp)
                      · have hp16 := hb16
                        (try simp only [decide_eq_true_eq, decide_eq_false_iff_not, Bool.not_eq_true', Bool.not_eq_false', ne_eq, Decidable.not_not] at hp16)
                        refine rg_q (wn_some rfl rfl rfl hb16 rfl) (op_move (v := .bool _) rfl) rfl rfl ?_
                        refine rg_q (wn_some rfl rfl rfl hb16 rfl) (op_move (v := .bool _) rfl) rfl rfl ?_
                        refine rg_q (wn_some rfl rfl rfl hb16 rfl) (op_bneq Try.underlying4 rfl rfl) rfl rfl ?_
                        refine rg_q (wn_some rfl rfl rfl hb15 rfl) (op_pick_f (v := .bool _) rfl hb16 rfl) rfl rfl ?_
                        refine rg_q (wn_some rfl rfl rfl rfl rfl) (op_pick_t (v := .bool _) rfl hb15 rfl) rfl rfl ?_
                        refine rg_q (wn_none rfl) (op_pick_f (v := .bool _) rfl rfl rfl) rfl rfl ?_
                        refine rg_nil_then0 ?_
                        refine cd_cond rfl (fun hb17 => ?_) (fun hb17 => ?_)
                        · have hp17 := hb17
                          (try simp only [decide_eq_true_eq, decide_eq_false_iff_not, Bool.not_eq_true', Bool.not_eq_false', ne_eq, Decidable.not_not] at hp17)
                          exact absurd hb17 (by rw [o6]; simp)
                        · have hp17 := hb17
                          (try simp only [decide_eq_true_eq, decide_eq_false_iff_not, Bool.not_eq_true', Bool.not_eq_false', ne_eq, Decidable.not_not] at hp17)
                          refine cd_skip ?_
                          refine px_blockN ?_
                          refine px_then ?_
                          refine cd_region ?_   -- 21
                          refine ol_q (wn_none rfl) (op_add rfl rfl (by omega) (by omega)) rfl ?_
                          refine ol_q (wn_none rfl) (op_move (v := .int _ _) rfl) rfl ?_
                          refine ol_nil ?_
                          refine px_loop2 (i + 1, T.2) ⟨by dsimp only; omega, hTs⟩ (by (try dsimp only); omega) ⟨congrArg (Value.int .i64) (by simp), trivial⟩ ?_ (fun _ s => (((s.del 3).del 2).del 1))
                          repeat (first | exact kept_over | refine kept_upd rfl ?_ | refine kept_overS (by decide) ?_)
                    · have hp15 := hb15
                      (try simp only [decide_eq_true_eq, decide_eq_false_iff_not, Bool.not_eq_true', Bool.not_eq_false', ne_eq, Decidable.not_not] at hp15)
                      exact absurd hb15 (by simp_all)
              · have hp6 := hb6
                (try simp only [decide_eq_true_eq, decide_eq_false_iff_not, Bool.not_eq_true', Bool.not_eq_false', ne_eq, Decidable.not_not] at hp6)
                refine ol_skip (wn_some rfl rfl rfl hb6 rfl) rfl ?_
                refine ol_skip (wn_some rfl rfl rfl hb6 rfl) rfl ?_
                refine ol_skip (wn_some rfl rfl rfl hb6 rfl) rfl ?_
                refine ol_skip (wn_some rfl rfl rfl hb6 rfl) rfl ?_
                refine ol_skip (wn_some rfl rfl rfl hb6 rfl) rfl ?_
                refine ol_q (wn_some rfl rfl rfl hb5 rfl) (op_pick_f (v := .bool _) rfl hb6 rfl) rfl ?_
                refine ol_q (wn_some rfl rfl rfl hb5 rfl) (op_bneq Try.underlying4 rfl rfl) rfl ?_
                refine ol_q (wn_none rfl) (op_pick_f (v := .bool _) rfl hb5 rfl) rfl ?_
                refine ol_nil_then ?_
                refine cd_cond rfl (fun hb18 => ?_) (fun hb18 => ?_)
                · have hp18 := hb18
                  (try simp only [decide_eq_true_eq, decide_eq_false_iff_not, Bool.not_eq_true', Bool.not_eq_false', ne_eq, Decidable.not_not] at hp18)
                  exfalso; revert hb18; simp_all
                · have hp18 := hb18
                  (try simp only [decide_eq_true_eq, decide_eq_false_iff_not, Bool.not_eq_true', Bool.not_eq_false', ne_eq, Decidable.not_not] at hp18)
                  refine cd_skip ?_
                  refine px_then ?_
                  refine cd_seq ?_   -- 19
                  refine cd_draw (M := []) mx [8] (by kernel_rfl) ?_
                  refine rg_q (wn_none rfl) (op_move (v := .int _ _) rfl) rfl rfl ?_
                  refine rg_q (wn_none rfl) (op_eq rfl rfl) rfl rfl ?_
                  refine rg_q (wn_none rfl) (op_move (v := .bool _) rfl) rfl rfl ?_
                  refine rg_split 83 rfl (fun hb19 => ?_) (fun hb19 => ?_)
                  · have hp19 := hb19
                    (try simp only [decide_eq_true_eq, decide_eq_false_iff_not, Bool.not_eq_true', Bool.not_eq_false', ne_eq, Decidable.not_not] at hp19)
                    obtain ⟨o6, o7⟩ := o3 (of_decide_eq_true hb19)
                    obtain ⟨o8, o9⟩ := o5 (of_decide_eq_true hb19)
                    have hX : ((T.2.vote xs[i].who).getD Vote.zero) = ⟨xs[i].who, xs[i].slot, nameR xs[i].nr⟩ := by rw [o6]; rfl
                    have hXs : ((T.2.vote xs[i].who).getD Vote.zero).slot = xs[i].slot := by rw [hX]
                    refine rg_q (wn_some rfl rfl rfl hb19 rfl) (op_move (v := .bool _) rfl) rfl rfl ?_
                    refine rg_q (wn_some rfl rfl rfl hb19 rfl) (op_not rfl) rfl rfl ?_
                    refine rg_q (wn_some rfl rfl rfl hb19 rfl) (op_move (v := .bool _) rfl) rfl rfl ?_
                    refine rg_split 86 rfl (fun hb20 => ?_) (fun hb20 => ?_)
                    · have hp20 := hb20
                      (try simp only [decide_eq_true_eq, decide_eq_false_iff_not, Bool.not_eq_true', Bool.not_eq_false', ne_eq, Decidable.not_not] at hp20)
                      exact absurd hb20 (by rw [o6]; simp)
                    · have hp20 := hb20
                      (try simp only [decide_eq_true_eq, decide_eq_false_iff_not, Bool.not_eq_true', Bool.not_eq_false', ne_eq, Decidable.not_not] at hp20)
                      refine rg_q (wn_some rfl rfl rfl hb20 rfl) (op_lda (L := voteC _) 1 ag_31 rfl rfl (voteC_ta _) (by simp [voteC_len])) rfl rfl ?_
                      refine rg_q (wn_some rfl rfl rfl hb20 rfl) (op_lda (L := tCallC _) 3 ag_27 rfl rfl (tCallC_ta _) (by simp [tCallC_len])) rfl rfl ?_
                      refine rg_i (wn_some rfl rfl rfl hb20 rfl) (os_call cb_17 rfl (fun w s => vote_calls _  s )) rfl rfl ?_; rintro _ l ⟨rfl, rfl⟩; refine ⟨[], rfl, ?_⟩
                      refine rg_q (wn_some rfl rfl rfl hb20 rfl) (op_nes stB_31 rfl rfl (feq_Vote fs_31 Try.underlying3 rB_29 _ _)) rfl rfl ?_
                      refine rg_q (wn_some rfl rfl rfl hb19 rfl) (op_pick_f (v := .bool _) rfl hb20 rfl) rfl rfl ?_
                      refine rg_q (wn_some rfl rfl rfl hb19 rfl) (op_move (v := .bool _) rfl) rfl rfl ?_
                      refine rg_split 92 rfl (fun hb21 => ?_) (fun hb21 => ?_)
                      · have hp21 := hb21
                        (try simp only [decide_eq_true_eq, decide_eq_false_iff_not, Bool.not_eq_true', Bool.not_eq_false', ne_eq, Decidable.not_not] at hp21)
                        exact absurd hb21 (by rw [hX]; simp)
                      · have hp21 := hb21
                        (try simp only [decide_eq_true_eq, decide_eq_false_iff_not, Bool.not_eq_true', Bool.not_eq_false', ne_eq, Decidable.not_not] at hp21)
                        refine rg_q (wn_some rfl rfl rfl hb21 rfl) (op_move (v := .bool _) rfl) rfl rfl ?_
                        refine rg_q (wn_some rfl rfl rfl hb21 rfl) (op_move (v := .bool _) rfl) rfl rfl ?_
                        refine rg_split 94 rfl (fun hb22 => ?_) (fun hb22 => ?_)
                        · have hp22 := hb22
                          (try simp only [decide_eq_true_eq, decide_eq_false_iff_not, Bool.not_eq_true', Bool.not_eq_false', ne_eq, Decidable.not_not] at hp22)
                          obtain ⟨old, hold⟩ := Option.isSome_iff_exists.1 hb22
                          have o10 := o7 old hold
                          have hOs : ((t.vote xs[i].who).getD Vote.zero).slot = old.slot := by rw [hold]; rfl
                          refine rg_q (wn_some rfl rfl rfl hb22 rfl) (op_field fld_31_1 rfl) rfl rfl ?_
                          refine rg_q (wn_some rfl rfl rfl hb22 rfl) (op_ld 1 sc_3 rfl rfl (voteC_a1 _)) rfl rfl ?_
                          refine rg_q (wn_some rfl rfl rfl hb22 rfl) (op_move (v := .int _ _) rfl) rfl rfl ?_
                          refine rg_q (wn_some rfl rfl rfl hb22 rfl) (op_quo rfl rfl (by omega) (by omega) (by omega)) rfl rfl ?_
                          refine rg_q (wn_some rfl rfl rfl hb22 rfl) (op_field fld_31_1 rfl) rfl rfl ?_
                          refine rg_q (wn_some rfl rfl rfl hb22 rfl) (op_ld 2 sc_3 rfl rfl (voteC_a1 _)) rfl rfl ?_
                          refine rg_q (wn_some rfl rfl rfl hb22 rfl) (op_move (v := .int _ _) rfl) rfl rfl ?_
                          refine rg_q (wn_some rfl rfl rfl hb22 rfl) (op_quo rfl rfl (by omega) (by omega) (by omega)) rfl rfl ?_
                          refine rg_q (wn_some rfl rfl rfl hb22 rfl) (op_lt rfl rfl) rfl rfl ?_
                          refine rg_q (wn_some rfl rfl rfl hb21 rfl) (op_pick_t (v := .bool _) rfl hb22 rfl) rfl rfl ?_
                          refine rg_q (wn_some rfl rfl rfl hb19 rfl) (op_pick_f (v := .bool _) rfl hb21 rfl) rfl rfl ?_
                          refine rg_q (wn_none rfl) (op_pick_t (v := .bool _) rfl hb19 rfl) rfl rfl ?_
                          refine rg_q (wn_none rfl) (op_move (v := .bool _) rfl) rfl rfl ?_
                          refine rg_split 107 rfl (fun hb23 => ?_) (fun hb23 => ?_)
                          · have hp23 := hb23
                            (try simp only [decide_eq_true_eq, decide_eq_false_iff_not, Bool.not_eq_true', Bool.not_eq_false', ne_eq, Decidable.not_not] at hp23)
                            exact absurd (of_decide_eq_true hb23) (by rw [hXs, hOs]; omega)
                          · have hp23 := hb23
                            (try simp only [decide_eq_true_eq, decide_eq_false_iff_not, Bool.not_eq_true', Bool.not_eq_false', ne_eq, Decidable.not_not] at hp23)
                            refine rg_q (wn_some rfl rfl rfl hb23 rfl) (op_move (v := .int _ _) rfl) rfl rfl ?_
                            refine rg_q (wn_some rfl rfl rfl hb23 rfl) (op_ne rfl rfl) rfl rfl ?_
                            refine rg_q (wn_some rfl rfl rfl hb23 rfl) (op_move (v := .bool _) rfl) rfl rfl ?_
                            refine rg_split 110 rfl (fun hb24 => ?_) (fun hb24 => ?_)
                            · have hp24 := hb24
                              (try simp only [decide_eq_true_eq, decide_eq_false_iff_not, Bool.not_eq_true', Bool.not_eq_false', ne_eq, Decidable.not_not] at hp24)
                              exact absurd hb24 (by simp_all)
                            · have hp24 := hb24
                              (try simp only [decide_eq_true_eq, decide_eq_false_iff_not, Bool.not_eq_true', Bool.not_eq_false', ne_eq, Decidable.not_not] at hp24)
                              refine rg_skip (wn_some rfl rfl rfl hb24 rfl) rfl ?_
                              refine rg_skip (wn_some rfl rfl rfl hb24 rfl) rfl ?_
                              refine rg_skip (wn_some rfl rfl rfl hb24 rfl) rfl ?_
                              refine rg_skip (wn_some rfl rfl rfl hb24 rfl) rfl ?_
                              refine rg_skip (wn_undef rfl rfl rfl rfl) rfl ?_
                              refine rg_skip (wn_undef rfl rfl rfl rfl) rfl ?_
                              refine rg_skip (wn_undef rfl rfl rfl rfl) rfl ?_
                              refine rg_skip (wn_some rfl rfl rfl hb24 rfl) rfl ?_
                              refine rg_q (wn_some rfl rfl rfl hb23 rfl) (op_pick_f (v := .bool _) rfl hb24 rfl) rfl rfl ?_
                              refine rg_q (wn_none rfl) (op_pick_f (v := .bool _) rfl hb23 rfl) rfl rfl ?_
                              refine rg_nil_then0 ?_
                              refine cd_cond_f rfl rfl ?_
                              refine cd_skip ?_
                              refine px_blockN ?_
                              refine px_then ?_
                              refine cd_region ?_   -- 21
                              refine ol_q (wn_none rfl) (op_add rfl rfl (by omega) (by omega)) rfl ?_
                              refine ol_q (wn_none rfl) (op_move (v := .int _ _) rfl) rfl ?_
                              refine ol_nil ?_
                              refine px_loop2 (i + 1, T.2) ⟨by dsimp only; omega, hTs⟩ (by (try dsimp only); omega) ⟨congrArg (Value.int .i64) (by simp), trivial⟩ ?_ (fun _ s => (((s.del 3).del 2).del 1))
                              repeat (first | exact kept_over | refine kept_upd rfl ?_ | refine kept_overS (by decide) ?_)
                        · have hp22 := hb22
                          (try simp only [decide_eq_true_eq, decide_eq_false_iff_not, Bool.not_eq_true', Bool.not_eq_false', ne_eq, Decidable.not_not] at hp22)
                          refine rg_skip (wn_some rfl rfl rfl hb22 rfl) rfl ?_
                          refine rg_skip (wn_some rfl rfl rfl hb22 rfl) rfl ?_
                          refine rg_skip (wn_some rfl rfl rfl hb22 rfl) rfl ?_
                          refine rg_skip (wn_some rfl rfl rfl hb22 rfl) rfl ?_
                          refine rg_skip (wn_some rfl rfl rfl hb22 rfl) rfl ?_
                          refine rg_skip (wn_some rfl rfl rfl hb22 rfl) rfl ?_
                          refine rg_skip (wn_some rfl rfl rfl hb22 rfl) rfl ?_
                          refine rg_skip (wn_some rfl rfl rfl hb22 rfl) rfl ?_
                          refine rg_skip (wn_some rfl rfl rfl hb22 rfl) rfl ?_
                          refine rg_q (wn_some rfl rfl rfl hb21 rfl) (op_pick_f (v := .bool _) rfl hb22 rfl) rfl rfl ?_
                          refine rg_q (wn_some rfl rfl rfl hb19 rfl) (op_pick_f (v := .bool _) rfl hb21 rfl) rfl rfl ?_
                          refine rg_q (wn_none rfl) (op_pick_t (v := .bool _) rfl hb19 rfl) rfl rfl ?_
                          refine rg_q (wn_none rfl) (op_move (v := .bool _) rfl) rfl rfl ?_
                          refine rg_q (wn_some rfl rfl rfl rfl rfl) (op_move (v := .int _ _) rfl) rfl rfl ?_
                          refine rg_q (wn_some rfl rfl rfl rfl rfl) (op_ne rfl rfl) rfl rfl ?_
                          refine rg_q (wn_some rfl rfl rfl rfl rfl) (op_move (v := .bool _) rfl) rfl rfl ?_
                          refine rg_split 110 rfl (fun hb25 => ?_) (fun hb25 => ?_)
                          · have hp25 := hb25
                            (try simp only [decide_eq_true_eq, decide_eq_false_iff_not, Bool.not_eq_true', Bool.not_eq_false', ne_eq, Decidable.not_not] at hp25)
                            exact absurd hb25 (by simp_all)
                          · have hp25 := hb25
                            (try simp only [decide_eq_true_eq, decide_eq_false_iff_not, Bool.not_eq_true', Bool.not_eq_false', ne_eq, Decidable.not_not] at hp25)
                            refine rg_skip (wn_some rfl rfl rfl hb25 rfl) rfl ?_
                            refine rg_skip (wn_some rfl rfl rfl hb25 rfl) rfl ?_
                            refine rg_skip (wn_some rfl rfl rfl hb25 rfl) rfl ?_
                            refine rg_skip (wn_some rfl rfl rfl hb25 rfl) rfl ?_
                            refine rg_skip (wn_undef rfl rfl rfl rfl) rfl ?_
                            refine rg_skip (wn_undef rfl rfl rfl rfl) rfl ?_
                            refine rg_skip (wn_undef rfl rfl rfl rfl) rfl ?_
                            refine rg_skip (wn_some rfl rfl rfl hb25 rfl) rfl ?_
                            refine rg_q (wn_some rfl rfl rfl rfl rfl) (op_pick_f (v := .bool _) rfl hb25 rfl) rfl rfl ?_
                            refine rg_q (wn_none rfl) (op_pick_f (v := .bool _) rfl rfl rfl) rfl rfl ?_
                            refine rg_nil_then0 ?_
                            refine cd_cond_f rfl rfl ?_
                            refine cd_skip ?_
                            refine px_blockN ?_
                            refine px_then ?_
                            refine cd_region ?_   -- 21
                            refine ol_q (wn_none rfl) (op_add rfl rfl (by omega) (by omega)) rfl ?_
                            refine ol_q (wn_none rfl) (op_move (v := .int _ _) rfl) rfl ?_
                            refine ol_nil ?_
                            refine px_loop2 (i + 1, T.2) ⟨by dsimp only; omega, hTs⟩ (by (try dsimp only); omega) ⟨congrArg (Value.int .i64) (by simp), trivial⟩ ?_ (fun _ s => (((s.del 3).del 2).del 1))
                            repeat (first | exact kept_over | refine kept_upd rfl ?_ | refine kept_overS (by decide) ?_)
                  · have hp19 := hb19
                    (try simp only [decide_eq_true_eq, decide_eq_false_iff_not, Bool.not_eq_true', Bool.not_eq_false', ne_eq, Decidable.not_not] at hp19)
                    have o6 := o4 (of_decide_eq_false hb19)
                    refine rg_skip (wn_some rfl rfl rfl hb19 rfl) rfl ?_
                    refine rg_skip (wn_some rfl rfl rfl hb19 rfl) rfl ?_
                    refine rg_skip (wn_some rfl rfl rfl hb19 rfl) rfl ?_
                    refine rg_skip (wn_undef rfl rfl rfl rfl) rfl ?_
                    refine rg_skip (wn_undef rfl rfl rfl rfl) rfl ?_
                    refine rg_skip (wn_undef rfl rfl rfl rfl) rfl ?_
                    refine rg_skip (wn_undef rfl rfl rfl rfl) rfl ?_
                    refine rg_skip (wn_some rfl rfl rfl hb19 rfl) rfl ?_
                    refine rg_skip (wn_some rfl rfl rfl hb19 rfl) rfl ?_
                    refine rg_skip (wn_undef rfl rfl rfl rfl) rfl ?_
                    refine rg_skip (wn_undef rfl rfl rfl rfl) rfl ?_
                    refine rg_skip (wn_undef rfl rfl rfl rfl) rfl ?_
                    refine rg_skip (wn_undef rfl rfl rfl rfl) rfl ?_
                    refine rg_skip (wn_undef rfl rfl rfl rfl) rfl ?_
                    refine rg_skip (wn_undef rfl rfl rfl rfl) rfl ?_
                    refine rg_skip (wn_undef rfl rfl rfl rfl) rfl ?_
                    refine rg_skip (wn_undef rfl rfl rfl rfl) rfl ?_
                    refine rg_skip (wn_undef rfl rfl rfl rfl) rfl ?_
                    refine rg_skip (wn_undef rfl rfl rfl rfl) rfl ?_
                    refine rg_skip (wn_undef rfl rfl rfl rfl) rfl ?_
                    refine rg_skip (wn_undef rfl rfl rfl rfl) rfl ?_
                    refine rg_skip (wn_some rfl rfl rfl hb19 rfl) rfl ?_
                    refine rg_q (wn_none rfl) (op_pick_f (v := .bool _) rfl hb19 rfl) rfl rfl ?_
                    refine rg_q (wn_none rfl) (op_move (v := .bool _) rfl) rfl rfl ?_
                    refine rg_q (wn_some rfl rfl rfl rfl rfl) (op_move (v := .int _ _) rfl) rfl rfl ?_
                    refine rg_q (wn_some rfl rfl rfl rfl rfl) (op_ne rfl rfl) rfl rfl ?_
                    refine rg_q (wn_some rfl rfl rfl rfl rfl) (op_move (v := .bool _) rfl) rfl rfl ?_
                    refine rg_split 110 rfl (fun hb26 => ?_) (fun hb26 => ?_)
                    · have hp26 := hb26
                      (try simp only [decide_eq_true_eq, decide_eq_false_iff_not, Bool.not_eq_true', Bool.not_eq_false', ne_eq, Decidable.not_not] at hp26)
                      refine rg_q (wn_some rfl rfl rfl hb26 rfl) (op_lda (L := voteC _) 1 ag_31 rfl rfl (voteC_ta _) (by simp [voteC_len])) rfl rfl ?_
                      refine rg_q (wn_some rfl rfl rfl hb26 rfl) (op_lda (L := voteC _) 2 ag_31 rfl rfl (voteC_ta _) (by simp [voteC_len])) rfl rfl ?_
                      refine rg_q (wn_some rfl rfl rfl hb26 rfl) (op_nes stB_31 rfl rfl (feq_Vote fs_31 Try.underlying3 rB_29 _ _)) rfl rfl ?_
                      refine rg_q (wn_some rfl rfl rfl hb26 rfl) (op_move (v := .bool _) rfl) rfl rfl ?_
                      refine rg_split 114 rfl (fun hb27 => ?_) (fun hb27 => ?_)
                      · have hp27 := hb27
                        (try simp only [decide_eq_true_eq, decide_eq_false_iff_not, Bool.not_eq_true', Bool.not_eq_false', ne_eq, Decidable.not_not] at hp27)
                        exact absurd hb27 (by rw [o6]; simp)
                      · have hp27 := hb27
                        (try simp only [decide_eq_true_eq, decide_eq_false_iff_not, Bool.not_eq_true', Bool.not_eq_false', ne_eq, Decidable.not_not] at hp27)
                        refine rg_q (wn_some rfl rfl rfl hb27 rfl) (op_move (v := .bool _) rfl) rfl rfl ?_
                        refine rg_q (wn_some rfl rfl rfl hb27 rfl) (op_move (v := .bool _) rfl) rfl rfl ?_
                        refine rg_q (wn_some rfl rfl rfl hb27 rfl) (op_bneq Try.underlying4 rfl rfl) rfl rfl ?_
                        refine rg_q (wn_some rfl rfl rfl hb26 rfl) (op_pick_f (v := .bool _) rfl hb27 rfl) rfl rfl ?_
                        refine rg_q (wn_some rfl rfl rfl rfl rfl) (op_pick_t (v := .bool _) rfl hb26 rfl) rfl rfl ?_
                        refine rg_q (wn_none rfl) (op_pick_f (v := .bool _) rfl rfl rfl) rfl rfl ?_
                        refine rg_nil_then0 ?_
                        refine cd_cond rfl (fun hb28 => ?_) (fun hb28 => ?_)
                        · have hp28 := hb28
                          (try simp only [decide_eq_true_eq, decide_eq_false_iff_not, Bool.not_eq_true', Bool.not_eq_false', ne_eq, Decidable.not_not] at hp28)
                          exact absurd hb28 (by rw [o6]; simp)
                        · have hp28 := hb28
                          (try simp only [decide_eq_true_eq, decide_eq_false_iff_not, Bool.not_eq_true', Bool.not_eq_false', ne_eq, Decidable.not_not] at hp28)
                          refine cd_skip ?_
                          refine px_blockN ?_
                          refine px_then ?_
                          refine cd_region ?_   -- 21
                          refine ol_q (wn_none rfl) (op_add rfl rfl (by omega) (by omega)) rfl ?_
                          refine ol_q (wn_none rfl) (op_move (v := .int _ _) rfl) rfl ?_
                          refine ol_nil ?_
                          refine px_loop2 (i + 1, T.2) ⟨by dsimp only; omega, hTs⟩ (by (try dsimp only); omega) ⟨congrArg (Value.int .i64) (by simp), trivial⟩ ?_ (fun _ s => (((s.del 3).del 2).del 1))
                          repeat (first | exact kept_over | refine kept_upd rfl ?_ | refine kept_overS (by decide) ?_)
                    · have hp26 := hb26
                      (try simp only [decide_eq_true_eq, decide_eq_false_iff_not, Bool.not_eq_true', Bool.not_eq_false', ne_eq, Decidable.not_not] at hp26)
                      exact absurd hb26 (by simp_all)
          · have hp4 := hb4
            (try simp only [decide_eq_true_eq, decide_eq_false_iff_not, Bool.not_eq_true', Bool.not_eq_false', ne_eq, Decidable.not_not] at hp4)
            refine ol_skip (wn_some rfl rfl rfl hb4 rfl) rfl ?_
            refine ol_skip (wn_some rfl rfl rfl hb4 rfl) rfl ?_
            refine ol_skip (wn_some rfl rfl rfl hb4 rfl) rfl ?_
            refine ol_skip (wn_some rfl rfl rfl hb4 rfl) rfl ?_
            refine ol_q (wn_none rfl) (op_pick_f (v := .bool _) rfl hb4 rfl) rfl ?_
            refine ol_q (wn_none rfl) (op_move (v := .bool _) rfl) rfl ?_
            refine ol_q (wn_some rfl rfl rfl rfl rfl) (op_move (v := .int _ _) rfl) rfl ?_
            refine ol_q (wn_some rfl rfl rfl rfl rfl) (op_eq rfl rfl) rfl ?_
            refine ol_q (wn_some rfl rfl rfl rfl rfl) (op_move (v := .bool _) rfl) rfl ?_
            refine ol_q (wn_some rfl rfl rfl rfl rfl) (op_move (v := .bool _) rfl) rfl ?_
            refine ol_split 72 rfl (fun hb29 => ?_) (fun hb29 => ?_)
            · have hp29 := hb29
              (try simp only [decide_eq_true_eq, decide_eq_false_iff_not, Bool.not_eq_true', Bool.not_eq_false', ne_eq, Decidable.not_not] at hp29)
              refine ol_q (wn_some rfl rfl rfl hb29 rfl) (op_move (v := .pointer _) rfl) rfl ?_
              refine ol_q (wn_some rfl rfl rfl hb29 rfl) (op_field fld_27_1 rfl) rfl ?_
              refine ol_q (wn_some rfl rfl rfl hb29 rfl) (op_ld 3 sc_3 rfl rfl (tCallC_a1 _)) rfl ?_
              refine ol_pull1 ?_
              refine ol_i (wn_some rfl rfl rfl hb29 rfl) (os_call cb_19 rfl (fun w s => Counts_calls _ _ _  s )) rfl ?_; rintro _ _ ⟨rfl, rfl⟩
              refine ol_q (wn_some rfl rfl rfl hb29 rfl) (op_not rfl) rfl ?_
              refine ol_q (wn_some rfl rfl rfl rfl rfl) (op_pick_t (v := .bool _) rfl hb29 rfl) rfl ?_
              refine ol_q (wn_some rfl rfl rfl rfl rfl) (op_bneq Try.underlying4 rfl rfl) rfl ?_
              refine ol_q (wn_none rfl) (op_pick_f (v := .bool _) rfl rfl rfl) rfl ?_
              refine ol_nil_then ?_
              refine cd_cond rfl (fun hb30 => ?_) (fun hb30 => ?_)
              · have hp30 := hb30
                (try simp only [decide_eq_true_eq, decide_eq_false_iff_not, Bool.not_eq_true', Bool.not_eq_false', ne_eq, Decidable.not_not] at hp30)
                exfalso; revert hb30; simp_all
              · have hp30 := hb30
                (try simp only [decide_eq_true_eq, decide_eq_false_iff_not, Bool.not_eq_true', Bool.not_eq_false', ne_eq, Decidable.not_not] at hp30)
                refine cd_skip ?_
                refine px_then ?_
                refine cd_seq ?_   -- 19
                refine cd_draw (M := []) mx [8] (by kernel_rfl) ?_
                refine rg_q (wn_none rfl) (op_move (v := .int _ _) rfl) rfl rfl ?_
                refine rg_q (wn_none rfl) (op_eq rfl rfl) rfl rfl ?_
                refine rg_q (wn_none rfl) (op_move (v := .bool _) rfl) rfl rfl ?_
                refine rg_split 83 rfl (fun hb31 => ?_) (fun hb31 => ?_)
                · have hp31 := hb31
                  (try simp only [decide_eq_true_eq, decide_eq_false_iff_not, Bool.not_eq_true', Bool.not_eq_false', ne_eq, Decidable.not_not] at hp31)
                  obtain ⟨o6, o7⟩ := o3 (of_decide_eq_true hb31)
                  obtain ⟨o8, o9⟩ := o5 (of_decide_eq_true hb31)
                  have hX : ((T.2.vote xs[i].who).getD Vote.zero) = ⟨xs[i].who, xs[i].slot, nameR xs[i].nr⟩ := by rw [o6]; rfl
                  have hXs : ((T.2.vote xs[i].who).getD Vote.zero).slot = xs[i].slot := by rw [hX]
                  refine rg_q (wn_some rfl rfl rfl hb31 rfl) (op_move (v := .bool _) rfl) rfl rfl ?_
                  refine rg_q (wn_some rfl rfl rfl hb31 rfl) (op_not rfl) rfl rfl ?_
                  refine rg_q (wn_some rfl rfl rfl hb31 rfl) (op_move (v := .bool _) rfl) rfl rfl ?_
                  refine rg_split 86 rfl (fun hb32 => ?_) (fun hb32 => ?_)
                  · have hp32 := hb32
                    (try simp only [decide_eq_true_eq, decide_eq_false_iff_not, Bool.not_eq_true', Bool.not_eq_false', ne_eq, Decidable.not_not] at hp32)
                    exact absurd hb32 (by rw [o6]; simp)
                  · have hp32 := hb32
                    (try simp only [decide_eq_true_eq, decide_eq_false_iff_not, Bool.not_eq_true', Bool.not_eq_false', ne_eq, Decidable.not_not] at hp32)
                    refine rg_q (wn_some rfl rfl rfl hb32 rfl) (op_lda (L := voteC _) 1 ag_31 rfl rfl (voteC_ta _) (by simp [voteC_len])) rfl rfl ?_
                    refine rg_q (wn_some rfl rfl rfl hb32 rfl) (op_lda (L := tCallC _) 3 ag_27 rfl rfl (tCallC_ta _) (by simp [tCallC_len])) rfl rfl ?_
                    refine rg_i (wn_some rfl rfl rfl hb32 rfl) (os_call cb_17 rfl (fun w s => vote_calls _  s )) rfl rfl ?_; rintro _ l ⟨rfl, rfl⟩; refine ⟨[], rfl, ?_⟩
                    refine rg_q (wn_some rfl rfl rfl hb32 rfl) (op_nes stB_31 rfl rfl (feq_Vote fs_31 Try.underlying3 rB_29 _ _)) rfl rfl ?_
                    refine rg_q (wn_some rfl rfl rfl hb31 rfl) (op_pick_f (v := .bool _) rfl hb32 rfl) rfl rfl ?_
                    refine rg_q (wn_some rfl rfl rfl hb31 rfl) (op_move (v := .bool _) rfl) rfl rfl ?_
                    refine rg_split 92 rfl (fun hb33 => ?_) (fun hb33 => ?_)
                    · have hp33 := hb33
                      (try simp only [decide_eq_true_eq, decide_eq_false_iff_not, Bool.not_eq_true', Bool.not_eq_false', ne_eq, Decidable.not_not] at hp33)
                      exact absurd hb33 (by rw [hX]; simp)
                    · have hp33 := hb33
                      (try simp only [decide_eq_true_eq, decide_eq_false_iff_not, Bool.not_eq_true', Bool.not_eq_false', ne_eq, Decidable.not_not] at hp33)
                      refine rg_q (wn_some rfl rfl rfl hb33 rfl) (op_move (v := .bool _) rfl) rfl rfl ?_
                      refine rg_q (wn_some rfl rfl rfl hb33 rfl) (op_move (v := .bool _) rfl) rfl rfl ?_
                      refine rg_split 94 rfl (fun hb34 => ?_) (fun hb34 => ?_)
                      · have hp34 := hb34
                        (try simp only [decide_eq_true_eq, decide_eq_false_iff_not, Bool.not_eq_true', Bool.not_eq_false', ne_eq, Decidable.not_not] at hp34)
                        obtain ⟨old, hold⟩ := Option.isSome_iff_exists.1 hb34
                        have o10 := o7 old hold
                        have hOs : ((t.vote xs[i].who).getD Vote.zero).slot = old.slot := by rw [hold]; rfl
                        refine rg_q (wn_some rfl rfl rfl hb34 rfl) (op_field fld_31_1 rfl) rfl rfl ?_
                        refine rg_q (wn_some rfl rfl rfl hb34 rfl) (op_ld 1 sc_3 rfl rfl (voteC_a1 _)) rfl rfl ?_
                        refine rg_q (wn_some rfl rfl rfl hb34 rfl) (op_move (v := .int _ _) rfl) rfl rfl ?_
                        refine rg_q (wn_some rfl rfl rfl hb34 rfl) (op_quo rfl rfl (by omega) (by omega) (by omega)) rfl rfl ?_
                        refine rg_q (wn_some rfl rfl rfl hb34 rfl) (op_field fld_31_1 rfl) rfl rfl ?_
                        refine rg_q (wn_some rfl rfl rfl hb34 rfl) (op_ld 2 sc_3 rfl rfl (voteC_a1 _)) rfl rfl ?_
                        refine rg_q (wn_some rfl rfl rfl hb34 rfl) (op_move (v := .int _ _) rfl) rfl rfl ?_
                        refine rg_q (wn_some rfl rfl rfl hb34 rfl) (op_quo rfl rfl (by omega) (by omega) (by omega)) rfl rfl ?_
                        refine rg_q (wn_some rfl rfl rfl hb34 rfl) (op_lt rfl rfl) rfl rfl ?_
                        refine rg_q (wn_some rfl rfl rfl hb33 rfl) (op_pick_t (v := .bool _) rfl hb34 rfl) rfl rfl ?_
                        refine rg_q (wn_some rfl rfl rfl hb31 rfl) (op_pick_f (v := .bool _) rfl hb33 rfl) rfl rfl ?_
                        refine rg_q (wn_none rfl) (op_pick_t (v := .bool _) rfl hb31 rfl) rfl rfl ?_
                        refine rg_q (wn_none rfl) (op_move (v := .bool _) rfl) rfl rfl ?_
                        refine rg_split 107 rfl (fun hb35 => ?_) (fun hb35 => ?_)
                        · have hp35 := hb35
                          (try simp only [decide_eq_true_eq, decide_eq_false_iff_not, Bool.not_eq_true', Bool.not_eq_false', ne_eq, Decidable.not_not] at hp35)
                          exact absurd (of_decide_eq_true hb35) (by rw [hXs, hOs]; omega)
                        · have hp35 := hb35
                          (try simp only [decide_eq_true_eq, decide_eq_false_iff_not, Bool.not_eq_true', Bool.not_eq_false', ne_eq, Decidable.not_not] at hp35)
                          refine rg_q (wn_some rfl rfl rfl hb35 rfl) (op_move (v := .int _ _) rfl) rfl rfl ?_
                          refine rg_q (wn_some rfl rfl rfl hb35 rfl) (op_ne rfl rfl) rfl rfl ?_
                          refine rg_q (wn_some rfl rfl rfl hb35 rfl) (op_move (v := .bool _) rfl) rfl rfl ?_
                          refine rg_split 110 rfl (fun hb36 => ?_) (fun hb36 => ?_)
                          · have hp36 := hb36
                            (try simp only [decide_eq_true_eq, decide_eq_false_iff_not, Bool.not_eq_true', Bool.not_eq_false', ne_eq, Decidable.not_not] at hp36)
                            exact absurd hb36 (by simp_all)
                          · have hp36 := hb36
                            (try simp only [decide_eq_true_eq, decide_eq_false_iff_not, Bool.not_eq_true', Bool.not_eq_false', ne_eq, Decidable.not_not] at hp36)
                            refine rg_skip (wn_some rfl rfl rfl hb36 rfl) rfl ?_
                            refine rg_skip (wn_some rfl rfl rfl hb36 rfl) rfl ?_
                            refine rg_skip (wn_some rfl rfl rfl hb36 rfl) rfl ?_
                            refine rg_skip (wn_some rfl rfl rfl hb36 rfl) rfl ?_
                            refine rg_skip (wn_undef rfl rfl rfl rfl) rfl ?_
                            refine rg_skip (wn_undef rfl rfl rfl rfl) rfl ?_
                            refine rg_skip (wn_undef rfl rfl rfl rfl) rfl ?_
                            refine rg_skip (wn_some rfl rfl rfl hb36 rfl) rfl ?_
                            refine rg_q (wn_some rfl rfl rfl hb35 rfl) (op_pick_f (v := .bool _) rfl hb36 rfl) rfl rfl ?_
                            refine rg_q (wn_none rfl) (op_pick_f (v := .bool _) rfl hb35 rfl) rfl rfl ?_
                            refine rg_nil_then0 ?_
                            refine cd_cond_f rfl rfl ?_
                            refine cd_skip ?_
                            refine px_blockN ?_
                            refine px_then ?_
                            refine cd_region ?_   -- 21
                            refine ol_q (wn_none rfl) (op_add rfl rfl (by omega) (by omega)) rfl ?_
                            refine ol_q (wn_none rfl) (op_move (v := .int _ _) rfl) rfl ?_
                            refine ol_nil ?_
                            refine px_loop2 (i + 1, T.2) ⟨by dsimp only; omega, hTs⟩ (by (try dsimp only); omega) ⟨congrArg (Value.int .i64) (by simp), trivial⟩ ?_ (fun _ s => (((s.del 3).del 2).del 1))
                            repeat (first | exact kept_over | refine kept_upd rfl ?_ | refine kept_overS (by decide) ?_)
                      · have hp34 := hb34
                        (try simp only [decide_eq_true_eq, decide_eq_false_iff_not, Bool.not_eq_true', Bool.not_eq_false', ne_eq, Decidable.not_not] at hp34)
                        refine rg_skip (wn_some rfl rfl rfl hb34 rfl) rfl ?_
                        refine rg_skip (wn_some rfl rfl rfl hb34 rfl) rfl ?_
                        refine rg_skip (wn_some rfl rfl rfl hb34 rfl) rfl ?_
                        refine rg_skip (wn_some rfl rfl rfl hb34 rfl) rfl ?_
                        refine rg_skip (wn_some rfl rfl rfl hb34 rfl) rfl ?_
                        refine rg_skip (wn_some rfl rfl rfl hb34 rfl) rfl ?_
                        refine rg_skip (wn_some rfl rfl rfl hb34 rfl) rfl ?_
                        refine rg_skip (wn_some rfl rfl rfl hb34 rfl) rfl ?_
                        refine rg_skip (wn_some rfl rfl rfl hb34 rfl) rfl ?_
                        refine rg_q (wn_some rfl rfl rfl hb33 rfl) (op_pick_f (v := .bool _) rfl hb34 rfl) rfl rfl ?_
                        refine rg_q (wn_some rfl rfl rfl hb31 rfl) (op_pick_f (v := .bool _) rfl hb33 rfl) rfl rfl ?_
                        refine rg_q (wn_none rfl) (op_pick_t (v := .bool _) rfl hb31 rfl) rfl rfl ?_
                        refine rg_q (wn_none rfl) (op_move (v := .bool _) rfl) rfl rfl ?_
                        refine rg_q (wn_some rfl rfl rfl rfl rfl) (op_move (v := .int _ _) rfl) rfl rfl ?_
                        refine rg_q (wn_some rfl rfl rfl rfl rfl) (op_ne rfl rfl) rfl rfl ?_
                        refine rg_q (wn_some rfl rfl rfl rfl rfl) (op_move (v := .bool _) rfl) rfl rfl ?_
                        refine rg_split 110 rfl (fun hb37 => ?_) (fun hb37 => ?_)
                        · have hp37 := hb37
                          (try simp only [decide_eq_true_eq, decide_eq_false_iff_not, Bool.not_eq_true', Bool.not_eq_false', ne_eq, Decidable.not_not] at hp37)
                          exact absurd hb37 (by simp_all)
                        · have hp37 := hb37
                          (try simp only [decide_eq_true_eq, decide_eq_false_iff_not, Bool.not_eq_true', Bool.not_eq_false', ne_eq, Decidable.not_not] at hp37)
                          refine rg_skip (wn_some rfl rfl rfl hb37 rfl) rfl ?_
                          refine rg_skip (wn_some rfl rfl rfl hb37 rfl) rfl ?_
                          refine rg_skip (wn_some rfl rfl rfl hb37 rfl) rfl ?_
                          refine rg_skip (wn_some rfl rfl rfl hb37 rfl) rfl ?_
                          refine rg_skip (wn_undef rfl rfl rfl rfl) rfl ?_
                          refine rg_skip (wn_undef rfl rfl rfl rfl) rfl ?_
                          refine rg_skip (wn_undef rfl rfl rfl rfl) rfl ?_
                          refine rg_skip (wn_some rfl rfl rfl hb37 rfl) rfl ?_
                          refine rg_q (wn_some rfl rfl rfl rfl rfl) (op_pick_f (v := .bool _) rfl hb37 rfl) rfl rfl ?_
                          refine rg_q (wn_none rfl) (op_pick_f (v := .bool _) rfl rfl rfl) rfl rfl ?_
                          refine rg_nil_then0 ?_
                          refine cd_cond_f rfl rfl ?_
                          refine cd_skip ?_
                          refine px_blockN ?_
                          refine px_then ?_
                          refine cd_region ?_   -- 21
                          refine ol_q (wn_none rfl) (op_add rfl rfl (by omega) (by omega)) rfl ?_
                          refine ol_q (wn_none rfl) (op_move (v := .int _ _) rfl) rfl ?_
                          refine ol_nil ?_
                          refine px_loop2 (i + 1, T.2) ⟨by dsimp only; omega, hTs⟩ (by (try dsimp only); omega) ⟨congrArg (Value.int .i64) (by simp), trivial⟩ ?_ (fun _ s => (((s.del 3).del 2).del 1))
                          repeat (first | exact kept_over | refine kept_upd rfl ?_ | refine kept_overS (by decide) ?_)
                · have hp31 := hb31
                  (try simp only [decide_eq_true_eq, decide_eq_false_iff_not, Bool.not_eq_true', Bool.not_eq_false', ne_eq, Decidable.not_not] at hp31)
                  have o6 := o4 (of_decide_eq_false hb31)
                  refine rg_skip (wn_some rfl rfl rfl hb31 rfl) rfl ?_
                  refine rg_skip (wn_some rfl rfl rfl hb31 rfl) rfl ?_
                  refine rg_skip (wn_some rfl rfl rfl hb31 rfl) rfl ?_
                  refine rg_skip (wn_undef rfl rfl rfl rfl) rfl ?_
                  refine rg_skip (wn_undef rfl rfl rfl rfl) rfl ?_
                  refine rg_skip (wn_undef rfl rfl rfl rfl) rfl ?_
                  refine rg_skip (wn_undef rfl rfl rfl rfl) rfl ?_
                  refine rg_skip (wn_some rfl rfl rfl hb31 rfl) rfl ?_
                  refine rg_skip (wn_some rfl rfl rfl hb31 rfl) rfl ?_
                  refine rg_skip (wn_undef rfl rfl rfl rfl) rfl ?_
                  refine rg_skip (wn_undef rfl rfl rfl rfl) rfl ?_
                  refine rg_skip (wn_undef rfl rfl rfl rfl) rfl ?_
                  refine rg_skip (wn_undef rfl rfl rfl rfl) rfl ?_
                  refine rg_skip (wn_undef rfl rfl rfl rfl) rfl ?_
                  refine rg_skip (wn_undef rfl rfl rfl rfl) rfl ?_
                  refine rg_skip (wn_undef rfl rfl rfl rfl) rfl ?_
                  refine rg_skip (wn_undef rfl rfl rfl rfl) rfl ?_
                  refine rg_skip (wn_undef rfl rfl rfl rfl) rfl ?_
                  refine rg_skip (wn_undef rfl rfl rfl rfl) rfl ?_
                  refine rg_skip (wn_undef rfl rfl rfl rfl) rfl ?_
                  refine rg_skip (wn_undef rfl rfl rfl rfl) rfl ?_
                  refine rg_skip (wn_some rfl rfl rfl hb31 rfl) rfl ?_
                  refine rg_q (wn_none rfl) (op_pick_f (v := .bool _) rfl hb31 rfl) rfl rfl ?_
                  refine rg_q (wn_none rfl) (op_move (v := .bool _) rfl) rfl rfl ?_
                  refine rg_q (wn_some rfl rfl rfl rfl rfl) (op_move (v := .int _ _) rfl) rfl rfl ?_
                  refine rg_q (wn_some rfl rfl rfl rfl rfl) (op_ne rfl rfl) rfl rfl ?_
                  refine rg_q (wn_some rfl rfl rfl rfl rfl) (op_move (v := .bool _) rfl) rfl rfl ?_
                  refine rg_split 110 rfl (fun hb38 => ?_) (fun hb38 => ?_)
                  · have hp38 := hb38
                    (try simp only [decide_eq_true_eq, decide_eq_false_iff_not, Bool.not_eq_true', Bool.not_eq_false', ne_eq, Decidable.not_not] at hp38)
                    refine rg_q (wn_some rfl rfl rfl hb38 rfl) (op_lda (L := voteC _) 1 ag_31 rfl rfl (voteC_ta _) (by simp [voteC_len])) rfl rfl ?_
                    refine rg_q (wn_some rfl rfl rfl hb38 rfl) (op_lda (L := voteC _) 2 ag_31 rfl rfl (voteC_ta _) (by simp [voteC_len])) rfl rfl ?_
                    refine rg_q (wn_some rfl rfl rfl hb38 rfl) (op_nes stB_31 rfl rfl (feq_Vote fs_31 Try.underlying3 rB_29 _ _)) rfl rfl ?_
                    refine rg_q (wn_some rfl rfl rfl hb38 rfl) (op_move (v := .bool _) rfl) rfl rfl ?_
                    refine rg_split 114 rfl (fun hb39 => ?_) (fun hb39 => ?_)
                    · have hp39 := hb39
                      (try simp only [decide_eq_true_eq, decide_eq_false_iff_not, Bool.not_eq_true', Bool.not_eq_false', ne_eq, Decidable.not_not] at hp39)
                      exact absurd hb39 (by rw [o6]; simp)
                    · have hp39 := hb39
                      (try simp only [decide_eq_true_eq, decide_eq_false_iff_not, Bool.not_eq_true', Bool.not_eq_false', ne_eq, Decidable.not_not] at hp39)
                      refine rg_q (wn_some rfl rfl rfl hb39 rfl) (op_move (v := .bool _) rfl) rfl rfl ?_
                      refine rg_q (wn_some rfl rfl rfl hb39 rfl) (op_move (v := .bool _) rfl) rfl rfl ?_
                      refine rg_q (wn_some rfl rfl rfl hb39 rfl) (op_bneq Try.underlying4 rfl rfl) rfl rfl ?_
                      refine rg_q (wn_some rfl rfl rfl hb38 rfl) (op_pick_f (v := .bool _) rfl hb39 rfl) rfl rfl ?_
                      refine rg_q (wn_some rfl rfl rfl rfl rfl) (op_pick_t (v := .bool _) rfl hb38 rfl) rfl rfl ?_
                      refine rg_q (wn_none rfl) (op_pick_f (v := .bool _) rfl rfl rfl) rfl rfl ?_
                      refine rg_nil_then0 ?_
                      refine cd_cond rfl (fun hb40 => ?_) (fun hb40 => ?_)
                      · have hp40 := hb40
                        (try simp only [decide_eq_true_eq, decide_eq_false_iff_not, Bool.not_eq_true', Bool.not_eq_false', ne_eq, Decidable.not_not] at hp40)
                        exact absurd hb40 (by rw [o6]; simp)
                      · have hp40 := hb40
                        (try simp only [decide_eq_true_eq, decide_eq_false_iff_not, Bool.not_eq_true', Bool.not_eq_false', ne_eq, Decidable.not_not] at hp40)
                        refine cd_skip ?_
                        refine px_blockN ?_
                        refine px_then ?_
                        refine cd_region ?_   -- 21
                        refine ol_q (wn_none rfl) (op_add rfl rfl (by omega) (by omega)) rfl ?_
                        refine ol_q (wn_none rfl) (op_move (v := .int _ _) rfl) rfl ?_
                        refine ol_nil ?_
                        refine px_loop2 (i + 1, T.2) ⟨by dsimp only; omega, hTs⟩ (by (try dsimp only); omega) ⟨congrArg (Value.int .i64) (by simp), trivial⟩ ?_ (fun _ s => (((s.del 3).del 2).del 1))
                        repeat (first | exact kept_over | refine kept_upd rfl ?_ | refine kept_overS (by decide) ?_)
                  · have hp38 := hb38
                    (try simp only [decide_eq_true_eq, decide_eq_false_iff_not, Bool.not_eq_true', Bool.not_eq_false', ne_eq, Decidable.not_not] at hp38)
                    exact absurd hb38 (by simp_all)
            · have hp29 := hb29
              (try simp only [decide_eq_true_eq, decide_eq_false_iff_not, Bool.not_eq_true', Bool.not_eq_false', ne_eq, Decidable.not_not] at hp29)
              refine ol_skip (wn_some rfl rfl rfl hb29 rfl) rfl ?_
              refine ol_skip (wn_some rfl rfl rfl hb29 rfl) rfl ?_
              refine ol_skip (wn_some rfl rfl rfl hb29 rfl) rfl ?_
              refine ol_skip (wn_some rfl rfl rfl hb29 rfl) rfl ?_
              refine ol_skip (wn_some rfl rfl rfl hb29 rfl) rfl ?_
              refine ol_q (wn_some rfl rfl rfl rfl rfl) (op_pick_f (v := .bool _) rfl hb29 rfl) rfl ?_
              refine ol_q (wn_some rfl rfl rfl rfl rfl) (op_bneq Try.underlying4 rfl rfl) rfl ?_
              refine ol_q (wn_none rfl) (op_pick_f (v := .bool _) rfl rfl rfl) rfl ?_
              refine ol_nil_then ?_
              refine cd_cond rfl (fun hb41 => ?_) (fun hb41 => ?_)
              · have hp41 := hb41
                (try simp only [decide_eq_true_eq, decide_eq_false_iff_not, Bool.not_eq_true', Bool.not_eq_false', ne_eq, Decidable.not_not] at hp41)
                exfalso; revert hb41; simp_all
              · have hp41 := hb41
                (try simp only [decide_eq_true_eq, decide_eq_false_iff_not, Bool.not_eq_true', Bool.not_eq_false', ne_eq, Decidable.not_not] at hp41)
                refine cd_skip ?_
                refine px_then ?_
                refine cd_seq ?_   -- 19
                refine cd_draw (M := []) mx [8] (by kernel_rfl) ?_
                refine rg_q (wn_none rfl) (op_move (v := .int _ _) rfl) rfl rfl ?_
                refine rg_q (wn_none rfl) (op_eq rfl rfl) rfl rfl ?_
                refine rg_q (wn_none rfl) (op_move (v := .bool _) rfl) rfl rfl ?_
                refine rg_split 83 rfl (fun hb42 => ?_) (fun hb42 => ?_)
                · have hp42 := hb42
                  (try simp only [decide_eq_true_eq, decide_eq_false_iff_not, Bool.not_eq_true', Bool.not_eq_false', ne_eq, Decidable.not_not] at hp42)
                  obtain ⟨o6, o7⟩ := o3 (of_decide_eq_true hb42)
                  obtain ⟨o8, o9⟩ := o5 (of_decide_eq_true hb42)
                  have hX : ((T.2.vote xs[i].who).getD Vote.zero) = ⟨xs[i].who, xs[i].slot, nameR xs[i].nr⟩ := by rw [o6]; rfl
                  have hXs : ((T.2.vote xs[i].who).getD Vote.zero).slot = xs[i].slot := by rw [hX]
                  refine rg_q (wn_some rfl rfl rfl hb42 rfl) (op_move (v := .bool _) rfl) rfl rfl ?_
                  refine rg_q (wn_some rfl rfl rfl hb42 rfl) (op_not rfl) rfl rfl ?_
                  refine rg_q (wn_some rfl rfl rfl hb42 rfl) (op_move (v := .bool _) rfl) rfl rfl ?_
                  refine rg_split 86 rfl (fun hb43 => ?_) (fun hb43 => ?_)
                  · have hp43 := hb43
                    (try simp only [decide_eq_true_eq, decide_eq_false_iff_not, Bool.not_eq_true', Bool.not_eq_false', ne_eq, Decidable.not_not] at hp43)
                    exact absurd hb43 (by rw [o6]; simp)
                  · have hp43 := hb43
                    (try simp only [decide_eq_true_eq, decide_eq_false_iff_not, Bool.not_eq_true', Bool.not_eq_false', ne_eq, Decidable.not_not] at hp43)
                    refine rg_q (wn_some rfl rfl rfl hb43 rfl) (op_lda (L := voteC _) 0 ag_31 rfl rfl (voteC_ta _) (by simp [voteC_len])) rfl rfl ?_
                    refine rg_q (wn_some rfl rfl rfl hb43 rfl) (op_lda (L := tCallC _) 3 ag_27 rfl rfl (tCallC_ta _) (by simp [tCallC_len])) rfl rfl ?_
                    refine rg_i (wn_some rfl rfl rfl hb43 rfl) (os_call cb_17 rfl (fun w s => vote_calls _  s )) rfl rfl ?_; rintro _ l ⟨rfl, rfl⟩; refine ⟨[], rfl, ?_⟩
                    refine rg_q (wn_some rfl rfl rfl hb43 rfl) (op_nes stB_31 rfl rfl (feq_Vote fs_31 Try.underlying3 rB_29 _ _)) rfl rfl ?_
                    refine rg_q (wn_some rfl rfl rfl hb42 rfl) (op_pick_f (v := .bool _) rfl hb43 rfl) rfl rfl ?_
                    refine rg_q (wn_some rfl rfl rfl hb42 rfl) (op_move (v := .bool _) rfl) rfl rfl ?_
                    refine rg_split 92 rfl (fun hb44 => ?_) (fun hb44 => ?_)
                    · have hp44 := hb44
                      (try simp only [decide_eq_true_eq, decide_eq_false_iff_not, Bool.not_eq_true', Bool.not_eq_false', ne_eq, Decidable.not_not] at hp44)
                      exact absurd hb44 (by rw [hX]; simp)
                    · have hp44 := hb44
                      (try simp only [decide_eq_true_eq, decide_eq_false_iff_not, Bool.not_eq_true', Bool.not_eq_false', ne_eq, Decidable.not_not] at hp44)
                      refine rg_q (wn_some rfl rfl rfl hb44 rfl) (op_move (v := .bool _) rfl) rfl rfl ?_
                      refine rg_q (wn_some rfl rfl rfl hb44 rfl) (op_move (v := .bool _) rfl) rfl rfl ?_
                      refine rg_split 94 rfl (fun hb45 => ?_) (fun hb45 => ?_)
                      · have hp45 := hb45
                        (try simp only [decide_eq_true_eq, decide_eq_false_iff_not, Bool.not_eq_true', Bool.not_eq_false', ne_eq, Decidable.not_not] at hp45)
                        obtain ⟨old, hold⟩ := Option.isSome_iff_exists.1 hb45
                        have o10 := o7 old hold
                        have hOs : ((t.vote xs[i].who).getD Vote.zero).slot = old.slot := by rw [hold]; rfl
                        refine rg_q (wn_some rfl rfl rfl hb45 rfl) (op_field fld_31_1 rfl) rfl rfl ?_
                        refine rg_q (wn_some rfl rfl rfl hb45 rfl) (op_ld 0 sc_3 rfl rfl (voteC_a1 _)) rfl rfl ?_
                        refine rg_q (wn_some rfl rfl rfl hb45 rfl) (op_move (v := .int _ _) rfl) rfl rfl ?_
                        refine rg_q (wn_some rfl rfl rfl hb45 rfl) (op_quo rfl rfl (by omega) (by omega) (by omega)) rfl rfl ?_
                        refine rg_q (wn_some rfl rfl rfl hb45 rfl) (op_field fld_31_1 rfl) rfl rfl ?_
                        refine rg_q (wn_some rfl rfl rfl hb45 rfl) (op_ld 2 sc_3 rfl rfl (voteC_a1 _)) rfl rfl ?_
                        refine rg_q (wn_some rfl rfl rfl hb45 rfl) (op_move (v := .int _ _) rfl) rfl rfl ?_
                        refine rg_q (wn_some rfl rfl rfl hb45 rfl) (op_quo rfl rfl (by omega) (by omega) (by omega)) rfl rfl ?_
                        refine rg_q (wn_some rfl rfl rfl hb45 rfl) (op_lt rfl rfl) rfl rfl ?_
                        refine rg_q (wn_some rfl rfl rfl hb44 rfl) (op_pick_t (v := .bool _) rfl hb45 rfl) rfl rfl ?_
                        refine rg_q (wn_some rfl rfl rfl hb42 rfl) (op_pick_f (v := .bool _) rfl hb44 rfl) rfl rfl ?_
                        refine rg_q (wn_none rfl) (op_pick_t (v := .bool _) rfl hb42 rfl) rfl rfl ?_
                        refine rg_q (wn_none rfl) (op_move (v := .bool _) rfl) rfl rfl ?_
                        refine rg_split 107 rfl (fun hb46 => ?_) (fun hb46 => ?_)
                        · have hp46 := hb46
                          (try simp only [decide_eq_true_eq, decide_eq_false_iff_not, Bool.not_eq_true', Bool.not_eq_false', ne_eq, Decidable.not_not] at hp46)
                          exact absurd (of_decide_eq_true hb46) (by rw [hXs, hOs]; omega)
                        · have hp46 := hb46
                          (try simp only [decide_eq_true_eq, decide_eq_false_iff_not, Bool.not_eq_true', Bool.not_eq_false', ne_eq, Decidable.not_not] at hp46)
                          refine rg_q (wn_some rfl rfl rfl hb46 rfl) (op_move (v := .int _ _) rfl) rfl rfl ?_
                          refine rg_q (wn_some rfl rfl rfl hb46 rfl) (op_ne rfl rfl) rfl rfl ?_
                          refine rg_q (wn_some rfl rfl rfl hb46 rfl) (op_move (v := .bool _) rfl) rfl rfl ?_
                          refine rg_split 110 rfl (fun hb47 => ?_) (fun hb47 => ?_)
                          · have hp47 := hb47
                            (try simp only [decide_eq_true_eq, decide_eq_false_iff_not, Bool.not_eq_true', Bool.not_eq_false', ne_eq, Decidable.not_not] at hp47)
                            exact absurd hb47 (by simp_all)
                          · have hp47 := hb47
                            (try simp only [decide_eq_true_eq, decide_eq_false_iff_not, Bool.not_eq_true', Bool.not_eq_false', ne_eq, Decidable.not_not] at hp47)
                            refine rg_skip (wn_some rfl rfl rfl hb47 rfl) rfl ?_
                            refine rg_skip (wn_some rfl rfl rfl hb47 rfl) rfl ?_
                            refine rg_skip (wn_some rfl rfl rfl hb47 rfl) rfl ?_
                            refine rg_skip (wn_some rfl rfl rfl hb47 rfl) rfl ?_
                            refine rg_skip (wn_undef rfl rfl rfl rfl) rfl ?_
                            refine rg_skip (wn_undef rfl rfl rfl rfl) rfl ?_
                            refine rg_skip (wn_undef rfl rfl rfl rfl) rfl ?_
                            refine rg_skip (wn_some rfl rfl rfl hb47 rfl) rfl ?_
                            refine rg_q (wn_some rfl rfl rfl hb46 rfl) (op_pick_f (v := .bool _) rfl hb47 rfl) rfl rfl ?_
                            refine rg_q (wn_none rfl) (op_pick_f (v := .bool _) rfl hb46 rfl) rfl rfl ?_
                            refine rg_nil_then0 ?_
                            refine cd_cond_f rfl rfl ?_
                            refine cd_skip ?_
                            refine px_blockN ?_
                            refine px_then ?_
                            refine cd_region ?_   -- 21
                            refine ol_q (wn_none rfl) (op_add rfl rfl (by omega) (by omega)) rfl ?_
                            refine ol_q (wn_none rfl) (op_move (v := .int _ _) rfl) rfl ?_
                            refine ol_nil ?_
                            refine px_loop2 (i + 1, T.2) ⟨by dsimp only; omega, hTs⟩ (by (try dsimp only); omega) ⟨congrArg (Value.int .i64) (by simp), trivial⟩ ?_ (fun _ s => (((s.del 3).del 2).del 0))
                            repeat (first | exact kept_over | refine kept_upd rfl ?_ | refine kept_overS (by decide) ?_)
                      · have hp45 := hb45
                        (try simp only [decide_eq_true_eq, decide_eq_false_iff_not, Bool.not_eq_true', Bool.not_eq_false', ne_eq, Decidable.not_not] at hp45)
                        refine rg_skip (wn_some rfl rfl rfl hb45 rfl) rfl ?_
                        refine rg_skip (wn_some rfl rfl rfl hb45 rfl) rfl ?_
                        refine rg_skip (wn_some rfl rfl rfl hb45 rfl) rfl ?_
                        refine rg_skip (wn_some rfl rfl rfl hb45 rfl) rfl ?_
                        refine rg_skip (wn_some rfl rfl rfl hb45 rfl) rfl ?_
                        refine rg_skip (wn_some rfl rfl rfl hb45 rfl) rfl ?_
                        refine rg_skip (wn_some rfl rfl rfl hb45 rfl) rfl ?_
                        refine rg_skip (wn_some rfl rfl rfl hb45 rfl) rfl ?_
                        refine rg_skip (wn_some rfl rfl rfl hb45 rfl) rfl ?_
                        refine rg_q (wn_some rfl rfl rfl hb44 rfl) (op_pick_f (v := .bool _) rfl hb45 rfl) rfl rfl ?_
                        refine rg_q (wn_some rfl rfl rfl hb42 rfl) (op_pick_f (v := .bool _) rfl hb44 rfl) rfl rfl ?_
                        refine rg_q (wn_none rfl) (op_pick_t (v := .bool _) rfl hb42 rfl) rfl rfl ?_
                        refine rg_q (wn_none rfl) (op_move (v := .bool _) rfl) rfl rfl ?_
                        refine rg_q (wn_some rfl rfl rfl rfl rfl) (op_move (v := .int _ _) rfl) rfl rfl ?_
                        refine rg_q (wn_some rfl rfl rfl rfl rfl) (op_ne rfl rfl) rfl rfl ?_
                        refine rg_q (wn_some rfl rfl rfl rfl rfl) (op_move (v := .bool _) rfl) rfl rfl ?_
                        refine rg_split 110 rfl (fun hb48 => ?_) (fun hb48 => ?_)
                        · have hp48 := hb48
                          (try simp only [decide_eq_true_eq, decide_eq_false_iff_not, Bool.not_eq_true', Bool.not_eq_false', ne_eq, Decidable.not_not] at hp48)
                          exact absurd hb48 (by simp_all)
                        · have hp48 := hb48
                          (try simp only [decide_eq_true_eq, decide_eq_false_iff_not, Bool.not_eq_true', Bool.not_eq_false', ne_eq, Decidable.not_not] at hp48)
                          refine rg_skip (wn_some rfl rfl rfl hb48 rfl) rfl ?_
                          refine rg_skip (wn_some rfl rfl rfl hb48 rfl) rfl ?_
                          refine rg_skip (wn_some rfl rfl rfl hb48 rfl) rfl ?_
                          refine rg_skip (wn_some rfl rfl rfl hb48 rfl) rfl ?_
                          refine rg_skip (wn_undef rfl rfl rfl rfl) rfl ?_
                          refine rg_skip (wn_undef rfl rfl rfl rfl) rfl ?_
                          refine rg_skip (wn_undef rfl rfl rfl rfl) rfl ?_
                          refine rg_skip (wn_some rfl rfl rfl hb48 rfl) rfl ?_
                          refine rg_q (wn_some rfl rfl rfl rfl rfl) (op_pick_f (v := .bool _) rfl hb48 rfl) rfl rfl ?_
                          refine rg_q (wn_none rfl) (op_pick_f (v := .bool _) rfl rfl rfl) rfl rfl ?_
                          refine rg_nil_then0 ?_
                          refine cd_cond_f rfl rfl ?_
                          refine cd_skip ?_
                          refine px_blockN ?_
                          refine px_then ?_
                          refine cd_region ?_   -- 21
                          refine ol_q (wn_none rfl) (op_add rfl rfl (by omega) (by omega)) rfl ?_
                          refine ol_q (wn_none rfl) (op_move (v := .int _ _) rfl) rfl ?_
                          refine ol_nil ?_
                          refine px_loop2 (i + 1, T.2) ⟨by dsimp only; omega, hTs⟩ (by (try dsimp only); omega) ⟨congrArg (Value.int .i64) (by simp), trivial⟩ ?_ (fun _ s => (((s.del 3).del 2).del 0))
                          repeat (first | exact kept_over | refine kept_upd rfl ?_ | refine kept_overS (by decide) ?_)
                · have hp42 := hb42
                  (try simp only [decide_eq_true_eq, decide_eq_false_iff_not, Bool.not_eq_true', Bool.not_eq_false', ne_eq, Decidable.not_not] at hp42)
                  have o6 := o4 (of_decide_eq_false hb42)
                  refine rg_skip (wn_some rfl rfl rfl hb42 rfl) rfl ?_
                  refine rg_skip (wn_some rfl rfl rfl hb42 rfl) rfl ?_
                  refine rg_skip (wn_some rfl rfl rfl hb42 rfl) rfl ?_
                  refine rg_skip (wn_undef rfl rfl rfl rfl) rfl ?_
                  refine rg_skip (wn_undef rfl rfl rfl rfl) rfl ?_
                  refine rg_skip (wn_undef rfl rfl rfl rfl) rfl ?_
                  refine rg_skip (wn_undef rfl rfl rfl rfl) rfl ?_
                  refine rg_skip (wn_some rfl rfl rfl hb42 rfl) rfl ?_
                  refine rg_skip (wn_some rfl rfl rfl hb42 rfl) rfl ?_
                  refine rg_skip (wn_undef rfl rfl rfl rfl) rfl ?_
                  refine rg_skip (wn_undef rfl rfl rfl rfl) rfl ?_
                  refine rg_skip (wn_undef rfl rfl rfl rfl) rfl ?_
                  refine rg_skip (wn_undef rfl rfl rfl rfl) rfl ?_
                  refine rg_skip (wn_undef rfl rfl rfl rfl) rfl ?_
                  refine rg_skip (wn_undef rfl rfl rfl rfl) rfl ?_
                  refine rg_skip (wn_undef rfl rfl rfl rfl) rfl ?_
                  refine rg_skip (wn_undef rfl rfl rfl rfl) rfl ?_
                  refine rg_skip (wn_undef rfl rfl rfl rfl) rfl ?_
                  refine rg_skip (wn_undef rfl rfl rfl rfl) rfl ?_
                  refine rg_skip (wn_undef rfl rfl rfl rfl) rfl ?_
                  refine rg_skip (wn_undef rfl rfl rfl rfl) rfl ?_
                  refine rg_skip (wn_some rfl rfl rfl hb42 rfl) rfl ?_
                  refine rg_q (wn_none rfl) (op_pick_f (v := .bool _) rfl hb42 rfl) rfl rfl ?_
                  refine rg_q (wn_none rfl) (op_move (v := .bool _) rfl) rfl rfl ?_
                  refine rg_q (wn_some rfl rfl rfl rfl rfl) (op_move (v := .int _ _) rfl) rfl rfl ?_
                  refine rg_q (wn_some rfl rfl rfl rfl rfl) (op_ne rfl rfl) rfl rfl ?_
                  refine rg_q (wn_some rfl rfl rfl rfl rfl) (op_move (v := .bool _) rfl) rfl rfl ?_
                  refine rg_split 110 rfl (fun hb49 => ?_) (fun hb49 => ?_)
                  · have hp49 := hb49
                    (try simp only [decide_eq_true_eq, decide_eq_false_iff_not, Bool.not_eq_true', Bool.not_eq_false', ne_eq, Decidable.not_not] at hp49)
                    refine rg_q (wn_some rfl rfl rfl hb49 rfl) (op_lda (L := voteC _) 0 ag_31 rfl rfl (voteC_ta _) (by simp [voteC_len])) rfl rfl ?_
                    refine rg_q (wn_some rfl rfl rfl hb49 rfl) (op_lda (L := voteC _) 2 ag_31 rfl rfl (voteC_ta _) (by simp [voteC_len])) rfl rfl ?_
                    refine rg_q (wn_some rfl rfl rfl hb49 rfl) (op_nes stB_31 rfl rfl (feq_Vote fs_31 Try.underlying3 rB_29 _ _)) rfl rfl ?_
                    refine rg_q (wn_some rfl rfl rfl hb49 rfl) (op_move (v := .bool _) rfl) rfl rfl ?_
                    refine rg_split 114 rfl (fun hb50 => ?_) (fun hb50 => ?_)
                    · have hp50 := hb50
                      (try simp only [decide_eq_true_eq, decide_eq_false_iff_not, Bool.not_eq_true', Bool.not_eq_false', ne_eq, Decidable.not_not] at hp50)
                      exact absurd hb50 (by rw [o6]; simp)
                    · have hp50 := hb50
                      (try simp only [decide_eq_true_eq, decide_eq_false_iff_not, Bool.not_eq_true', Bool.not_eq_false', ne_eq, Decidable.not_not] at hp50)
                      refine rg_q (wn_some rfl rfl rfl hb50 rfl) (op_move (v := .bool _) rfl) rfl rfl ?_
                      refine rg_q (wn_some rfl rfl rfl hb50 rfl) (op_move (v := .bool _) rfl) rfl rfl ?_
                      refine rg_q (wn_some rfl rfl rfl hb50 rfl) (op_bneq Try.underlying4 rfl rfl) rfl rfl ?_
                      refine rg_q (wn_some rfl rfl rfl hb49 rfl) (op_pick_f (v := .bool _) rfl hb50 rfl) rfl rfl ?_
                      refine rg_q (wn_some rfl rfl rfl rfl rfl) (op_pick_t (v := .bool _) rfl hb49 rfl) rfl rfl ?_
                      refine rg_q (wn_none rfl) (op_pick_f (v := .bool _) rfl rfl rfl) rfl rfl ?_
                      refine rg_nil_then0 ?_
                      refine cd_cond rfl (fun hb51 => ?_) (fun hb51 => ?_)
                      · have hp51 := hb51
                        (try simp only [decide_eq_true_eq, decide_eq_false_iff_not, Bool.not_eq_true', Bool.not_eq_false', ne_eq, Decidable.not_not] at hp51)
                        exact absurd hb51 (by rw [o6]; simp)
                      · have hp51 := hb51
                        (try simp only [decide_eq_true_eq, decide_eq_false_iff_not, Bool.not_eq_true', Bool.not_eq_false', ne_eq, Decidable.not_not] at hp51)
                        refine cd_skip ?_
                        refine px_blockN ?_
                        refine px_then ?_
                        refine cd_region ?_   -- 21
                        refine ol_q (wn_none rfl) (op_add rfl rfl (by omega) (by omega)) rfl ?_
                        refine ol_q (wn_none rfl) (op_move (v := .int _ _) rfl) rfl ?_
                        refine ol_nil ?_
                        refine px_loop2 (i + 1, T.2) ⟨by dsimp only; omega, hTs⟩ (by (try dsimp only); omega) ⟨congrArg (Value.int .i64) (by simp), trivial⟩ ?_ (fun _ s => (((s.del 3).del 2).del 0))
                        repeat (first | exact kept_over | refine kept_upd rfl ?_ | refine kept_overS (by decide) ?_)
                  · have hp49 := hb49
                    (try simp only [decide_eq_true_eq, decide_eq_false_iff_not, Bool.not_eq_true', Bool.not_eq_false', ne_eq, Decidable.not_not] at hp49)
                    exact absurd hb49 (by simp_all)
      · have hp2 := hb2
        (try simp only [decide_eq_true_eq, decide_eq_false_iff_not, Bool.not_eq_true', Bool.not_eq_false', ne_eq, Decidable.not_not] at hp2)
        refine cd_exit ?_
        refine px_thenE ?_
        refine px_thenE ?_
        refine px_blockE ?_
        refine px_then ?_
        refine cd_sr ?_   -- 22
        refine ol_q (wn_none rfl) (op_assign (v := .bool _) rfl) rfl ?_
        refine ol_nil_then ?_
        refine cd_ret ?_
        exact px_ret1 rfl (v := .bool _) rfl (fun _ s => (s.del 0)) ⟨congrArg Value.bool (by simp), rfl⟩

set_option maxRecDepth 100000 in
set_option maxHeartbeats 1000000 in
theorem TableApart_calls {w0 w : World} {l : List HProp} (sl : Int) (ao : Option Addr) (c : Nat) (xs : List TCall) (who : Int) (hs : Sat w0 w (l)) (hr : Rds w0 l encTCall ao xs) (hq : ∀ a ∈ xs, I64 a.who ∧ I64 a.slot ∧ I64 a.nr) :
    Calls Try.prog 8 #[.int .i64 sl, .slice ao xs.length c, .int .i64 who] w (Ret w0 fun v l' => v = .bool true ∧ l' = l) := by
  refine calls_enter Try.func8 rfl rfl rfl hs ?_
  refine cd_sr ?_   -- 0
  refine ol_q (wn_none rfl) (op_assign (v := .bool _) rfl) rfl ?_
  refine ol_nil_then ?_
  refine cd_seq ?_
  refine cd_sr ?_   -- 1
  refine ol_i (wn_none rfl) (os_call cb_15 rfl (fun w s => tabAlive_calls  s )) rfl ?_; rintro _ l ⟨rfl, rfl⟩
  refine ol_q (wn_none rfl) (op_not rfl) rfl ?_
  refine ol_nil_then ?_
  refine cd_cond_f rfl rfl ?_
  refine cd_skip ?_
  refine px_then ?_
  refine cd_seq ?_
  refine cd_sr ?_   -- 3
  refine ol_q (wn_none rfl) (op_move (v := .slice _ _ _) rfl) rfl ?_
  refine ol_q (wn_none rfl) (op_len_slice Try.underlying22 rfl) rfl ?_
  refine ol_q (wn_none rfl) (op_gt rfl rfl) rfl ?_
  refine ol_nil_then ?_
  refine cd_cond rfl (fun hb1 => ?_) (fun hb1 => ?_)
  · have hp1 := hb1
    (try simp only [decide_eq_true_eq, decide_eq_false_iff_not, Bool.not_eq_true', Bool.not_eq_false', ne_eq, Decidable.not_not] at hp1)
    refine cd_sr ?_   -- 4
    refine ol_q (wn_none rfl) (op_assign (v := .bool _) rfl) rfl ?_
    refine ol_nil_then ?_
    refine cd_ret ?_
    refine px_thenR ?_
    exact px_ret1 rfl (v := .bool _) rfl (fun _ s => s) ⟨congrArg Value.bool (by first | rfl | (simp; omega)), rfl⟩
  · have hp1 := hb1
    (try simp only [decide_eq_true_eq, decide_eq_false_iff_not, Bool.not_eq_true', Bool.not_eq_false', ne_eq, Decidable.not_not] at hp1)
    refine cd_skip ?_
    refine px_then ?_
    refine cd_sr ?_   -- 5
    refine ol_q (wn_none rfl) (op_move (v := .int _ _) rfl) rfl ?_
    refine ol_i (wn_none rfl) (os_call cb_16 rfl (fun w s => New_calls _ _ s)) rfl ?_; rintro _ l2 (⟨rfl, hl2, hbad1⟩ | ⟨p1, rfl, hok1, rfl⟩)
    · rw [hl2]
      refine ol_q (wn_none rfl) (op_move (v := .int _ _) rfl) rfl ?_
      refine ol_i (wn_none rfl) (os_call cb_16 rfl (fun w s => New_calls _ _ s)) rfl ?_; rintro _ l2 (⟨rfl, hl2, hbad2⟩ | ⟨p2, rfl, hok2, rfl⟩)
      · rw [hl2]
        refine ol_q (wn_none rfl) (op_assign (v := .pointer _) rfl) rfl ?_
        refine ol_q (wn_none rfl) (op_assign (v := .pointer _) rfl) rfl ?_
        refine ol_nil_then ?_
        refine cd_seq ?_
        refine cd_sr ?_   -- 6
        refine ol_q (wn_none rfl) (op_move (v := .pointer _) rfl) rfl ?_
        refine ol_q (wn_none rfl) (op_eqnil Try.underlying24 rfl rfl) rfl ?_
        refine ol_q (wn_none rfl) (op_move (v := .bool _) rfl) rfl ?_
        refine ol_skip (wn_some rfl rfl rfl rfl rfl) rfl ?_
        refine ol_skip (wn_some rfl rfl rfl rfl rfl) rfl ?_
        refine ol_q (wn_none rfl) (op_pick_t (v := .bool _) rfl rfl rfl) rfl ?_
        refine ol_nil_then ?_
        refine cd_cond_t rfl rfl ?_
        refine cd_sr ?_   -- 7
        refine ol_q (wn_none rfl) (op_move (v := .int _ _) rfl) rfl ?_
        refine ol_q (wn_none rfl) (op_lt rfl rfl) rfl ?_
        refine ol_q (wn_none rfl) (op_move (v := .bool _) rfl) rfl ?_
        refine ol_split 33 rfl (fun hb2 => ?_) (fun hb2 => ?_)
        · have hp2 := hb2
          (try simp only [decide_eq_true_eq, decide_eq_false_iff_not, Bool.not_eq_true', Bool.not_eq_false', ne_eq, Decidable.not_not] at hp2)
          refine ol_skip (wn_some rfl rfl rfl hb2 rfl) rfl ?_
          refine ol_skip (wn_some rfl rfl rfl hb2 rfl) rfl ?_
          refine ol_q (wn_none rfl) (op_pick_t (v := .bool _) rfl hb2 rfl) rfl ?_
          refine ol_q (wn_none rfl) (op_assign (v := .bool _) rfl) rfl ?_
          refine ol_nil_then ?_
          refine cd_ret ?_
          refine px_thenR ?_
          exact px_ret1 rfl (v := .bool _) rfl (fun _ s => s) ⟨congrArg Value.bool (by first | rfl | (simp; omega)), rfl⟩
        · have hp2 := hb2
          (try simp only [decide_eq_true_eq, decide_eq_false_iff_not, Bool.not_eq_true', Bool.not_eq_false', ne_eq, Decidable.not_not] at hp2)
          refine ol_q (wn_some rfl rfl rfl hb2 rfl) (op_move (v := .int _ _) rfl) rfl ?_
          refine ol_q (wn_some rfl rfl rfl hb2 rfl) (op_gt rfl rfl) rfl ?_
          refine ol_q (wn_none rfl) (op_pick_f (v := .bool _) rfl hb2 rfl) rfl ?_
          refine ol_q (wn_none rfl) (op_assign (v := .bool _) rfl) rfl ?_
          refine ol_nil_then ?_
          refine cd_ret ?_
          refine px_thenR ?_
          exact px_ret1 rfl (v := .bool _) rfl (fun _ s => s) ⟨congrArg Value.bool (by first | rfl | (simp; omega)), rfl⟩
      · exact absurd hbad1 (by omega)
    · have hob1 := hok1
      refine ol_q (wn_none rfl) (op_move (v := .int _ _) rfl) rfl ?_
      refine ol_i (wn_none rfl) (os_call cb_16 rfl (fun w s => New_calls _ _ s)) rfl ?_; rintro _ l2 (⟨rfl, hl2, hbad2⟩ | ⟨p2, rfl, hok2, rfl⟩)
      · exact absurd hbad2 (by omega)
      · have hob2 := hok2
        refine ol_q (wn_none rfl) (op_assign (v := .pointer _) rfl) rfl ?_
        refine ol_q (wn_none rfl) (op_assign (v := .pointer _) rfl) rfl ?_
        refine ol_nil_then ?_
        refine cd_seq ?_
        refine cd_sr ?_   -- 6
        refine ol_q (wn_none rfl) (op_move (v := .pointer _) rfl) rfl ?_
        refine ol_q (wn_none rfl) (op_eqnil Try.underlying24 rfl rfl) rfl ?_
        refine ol_q (wn_none rfl) (op_move (v := .bool _) rfl) rfl ?_
        refine ol_q (wn_some rfl rfl rfl rfl rfl) (op_move (v := .pointer _) rfl) rfl ?_
        refine ol_q (wn_some rfl rfl rfl rfl rfl) (op_eqnil Try.underlying24 rfl rfl) rfl ?_
        refine ol_q (wn_none rfl) (op_pick_f (v := .bool _) rfl rfl rfl) rfl ?_
        refine ol_nil_then ?_
        refine cd_cond_f rfl rfl ?_
        refine cd_skip ?_
        refine px_then ?_
        refine cd_seq ?_
        refine cd_sr ?_   -- 8
        refine ol_q (wn_none rfl) (op_move (v := .slice _ _ _) rfl) rfl ?_
        refine ol_q (wn_none rfl) (op_len_slice Try.underlying22 rfl) rfl ?_
        refine ol_q (wn_none rfl) (op_move (v := .int _ _) rfl) rfl ?_
        refine ol_nil_then ?_
        refine cd_block ?_
        refine cd_loop2 (α := Nat × TabS × TabS) [(6, 6), (10, 11), (39, 69)] (fun x => [(39, .int .i64 (x.1 : Int))]) (fun x => TabObj p2 x.2.2 :: TabObj p1 x.2.1 :: l) (fun x => x.1 ≤ xs.length ∧ TabS.Apart who x.2.1 x.2.2) (fun x => xs.length - x.1) (0, TabS.new (8 : Int).toNat sl, TabS.new (8 : Int).toNat sl) ⟨Nat.zero_le _, TabS.Apart.start _ _⟩ ⟨rfl, trivial⟩ (fun _ s => s) ?_
        rintro ⟨i, a, b⟩ ⟨hi, hA⟩ f; (try dsimp only at hi hA ⊢); refine cd_know (φ := a.WF ∧ b.WF) (fun w s => ⟨(s.pull 1).tabWF, s.tabWF⟩) (fun hwf => ?_); obtain ⟨hwa, hwb⟩ := hwf; obtain ⟨hE1, hE2⟩ := hA.ends
        refine cd_sr ?_   -- 9
        refine ol_q (wn_none rfl) (op_lt rfl rfl) rfl ?_
        refine ol_nil_then ?_
        refine cd_seq ?_
        refine cd_cond rfl (fun hb3 => ?_) (fun hb3 => ?_)
        · have hp3 := hb3
          (try simp only [decide_eq_true_eq, decide_eq_false_iff_not, Bool.not_eq_true', Bool.not_eq_false', ne_eq, Decidable.not_not] at hp3)
          have hqi := hq _ (List.getElem_mem (show i < xs.length by omega)); unfold I64 at hqi
          refine cd_skip ?_
          refine px_then ?_
          refine cd_seq ?_
          refine cd_block ?_
          refine cd_sr ?_   -- 10
          refine ol_q (wn_none rfl) (op_index _ sB_22 rfl rfl rfl ((hr.cons _).cons _) rfl (by omega)) rfl ?_
          refine ol_q (wn_none rfl) (op_ldaw (L := tCallC _) ag_27 ((hr.cons _).cons _) rfl (by omega) rfl (tCallC_ta _)) rfl ?_
          refine ol_i (wn_none rfl) (os_alloc (cs := (tCallC TCall.zero).toArray) zB_27 (by kernel_rfl)) rfl ?_; rintro _ _ ⟨bx1, rfl, rfl⟩
          refine ol_iN (wn_none rfl) (os_storew (tCallC _) ag_27 rfl rfl (tCallC_len _) (tCallC_one _) (by simp [tCallC_len]) (Free.zero _)) ?_; rintro _ _ ⟨rfl, rfl⟩
          refine ol_nil_then ?_
          refine cd_seq ?_
          refine cd_sr ?_   -- 11
          refine ol_q (wn_none rfl) (op_field fld_27_0 rfl) rfl ?_
          refine ol_q (wn_none rfl) (op_ld 0 sc_4 rfl rfl (tCallC_a0 _)) rfl ?_
          refine ol_nil_then ?_
          refine cd_cond rfl (fun hb4 => ?_) (fun hb4 => ?_)
          · have hp4 := hb4
            (try simp only [decide_eq_true_eq, decide_eq_false_iff_not, Bool.not_eq_true', Bool.not_eq_false', ne_eq, Decidable.not_not] at hp4)
            refine cd_sr ?_   -- 12
            refine ol_q (wn_none rfl) (op_move (v := .pointer _) rfl) rfl ?_
            refine ol_q (wn_none rfl) (op_field fld_27_2 rfl) rfl ?_
            refine ol_q (wn_none rfl) (op_ld 0 sc_3 rfl rfl (tCallC_a2 _)) rfl ?_
            refine ol_pull2 ?_
            refine ol_i (wn_none rfl) (os_call cb_25 rfl (fun w s => Forget_calls _ _ _  s (by omega))) rfl ?_; rintro _ _ ⟨rfl, rfl⟩
            refine ol_nil_then ?_
            refine cd_sr ?_   -- 13
            refine ol_q (wn_none rfl) (op_move (v := .pointer _) rfl) rfl ?_
            refine ol_q (wn_none rfl) (op_field fld_27_2 rfl) rfl ?_
            refine ol_q (wn_none rfl) (op_ld 1 sc_3 rfl rfl (tCallC_a2 _)) rfl ?_
            refine ol_pull2 ?_
            refine ol_i (wn_none rfl) (os_call cb_25 rfl (fun w s => Forget_calls _ _ _  s (by omega))) rfl ?_; rintro _ _ ⟨rfl, rfl⟩
            refine ol_nil_then ?_
            refine cd_exit ?_
            refine px_thenE ?_
            refine px_blockE ?_
            refine px_then ?_
            refine cd_region ?_   -- 17
            refine ol_q (wn_none rfl) (op_add rfl rfl (by omega) (by omega)) rfl ?_
            refine ol_q (wn_none rfl) (op_move (v := .int _ _) rfl) rfl ?_
            refine ol_nil ?_
            refine px_loop2 (i + 1, a.forget xs[i].slot, b.forget xs[i].slot) ⟨by dsimp only; omega, hA.forget _⟩ (by (try dsimp only); omega) ⟨congrArg (Value.int .i64) (by simp), trivial⟩ ?_ (fun _ s => (s.del 2))
            repeat (first | exact kept_over | refine kept_upd rfl ?_ | refine kept_overS (by decide) ?_)
          · have hp4 := hb4
            (try simp only [decide_eq_true_eq, decide_eq_false_iff_not, Bool.not_eq_true', Bool.not_eq_false', ne_eq, Decidable.not_not] at hp4)
            refine cd_skip ?_
            refine px_then ?_
            refine cd_sr ?_   -- 14
            refine ol_q (wn_none rfl) (op_move (v := .pointer _) rfl) rfl ?_
            refine ol_q (wn_none rfl) (op_lda (L := tCallC _) 0 ag_27 rfl rfl (tCallC_ta _) (by simp [tCallC_len])) rfl ?_
            refine ol_i (wn_none rfl) (os_call cb_17 rfl (fun w s => vote_calls _  s )) rfl ?_; rintro _ l ⟨rfl, rfl⟩
            refine ol_pull2 ?_
            refine ol_i (wn_none rfl) (os_call cb_18 rfl (fun w s => Take_calls _ _ _  s )) rfl ?_; rintro _ _ ⟨rfl, rfl⟩
            refine ol_q (wn_none rfl) (op_assign (v := .int _ _) rfl) rfl ?_
            refine ol_nil_then ?_
            refine cd_sr ?_   -- 15
            refine ol_q (wn_none rfl) (op_field fld_27_1 rfl) rfl ?_
            refine ol_q (wn_none rfl) (op_ld 1 sc_3 rfl rfl (tCallC_a1 _)) rfl ?_
            refine ol_q (wn_none rfl) (op_move (v := .int _ _) rfl) rfl ?_
            refine ol_q (wn_none rfl) (op_eq rfl rfl) rfl ?_
            refine ol_q (wn_none rfl) (op_move (v := .bool _) rfl) rfl ?_
            refine ol_split 61 rfl (fun hb5 => ?_) (fun hb5 => ?_)
            · have hp5 := hb5
              (try simp only [decide_eq_true_eq, decide_eq_false_iff_not, Bool.not_eq_true', Bool.not_eq_false', ne_eq, Decidable.not_not] at hp5)
              have hboth := hA.both hwa hwb ⟨xs[i].who, xs[i].slot, nameR xs[i].nr⟩ (of_decide_eq_true hb5)
              refine ol_q (wn_some rfl rfl rfl hb5 rfl) (op_move (v := .pointer _) rfl) rfl ?_
              refine ol_q (wn_some rfl rfl rfl hb5 rfl) (op_lda (L := tCallC _) 1 ag_27 rfl rfl (tCallC_ta _) (by simp [tCallC_len])) rfl ?_
              refine ol_i (wn_some rfl rfl rfl hb5 rfl) (os_call cb_17 rfl (fun w s => vote_calls _  s )) rfl ?_; rintro _ l ⟨rfl, rfl⟩
              refine ol_pull2 ?_
              refine ol_i (wn_some rfl rfl rfl hb5 rfl) (os_call cb_18 rfl (fun w s => Take_calls _ _ _  s )) rfl ?_; rintro _ _ ⟨rfl, rfl⟩
              refine ol_q (wn_some rfl rfl rfl hb5 rfl) (op_move (v := .int _ _) rfl) rfl ?_
              refine ol_q (wn_some rfl rfl rfl hb5 rfl) (op_ne rfl rfl) rfl ?_
              refine ol_q (wn_none rfl) (op_pick_t (v := .bool _) rfl hb5 rfl) rfl ?_
              refine ol_nil_then ?_
              refine cd_cond rfl (fun hb6 => ?_) (fun hb6 => ?_)
              · have hp6 := hb6
                (try simp only [decide_eq_true_eq, decide_eq_false_iff_not, Bool.not_eq_true', Bool.not_eq_false', ne_eq, Decidable.not_not] at hp6)
                exact absurd hb6 (by rw [hboth.2]; simp)
              · have hp6 := hb6
                (try simp only [decide_eq_true_eq, decide_eq_false_iff_not, Bool.not_eq_true', Bool.not_eq_false', ne_eq, Decidable.not_not] at hp6)
                refine cd_skip ?_
                refine px_blockN ?_
                refine px_then ?_
                refine cd_region ?_   -- 17
                refine ol_q (wn_none rfl) (op_add rfl rfl (by omega) (by omega)) rfl ?_
                refine ol_q (wn_none rfl) (op_move (v := .int _ _) rfl) rfl ?_
                refine ol_nil ?_
                refine px_loop2 (i + 1, (a.take ⟨xs[i].who, xs[i].slot, nameR xs[i].nr⟩).2, (b.take ⟨xs[i].who, xs[i].slot, nameR xs[i].nr⟩).2) ⟨by dsimp only; omega, hboth.1⟩ (by (try dsimp only); omega) ⟨congrArg (Value.int .i64) (by simp), trivial⟩ ?_ (fun _ s => (s.del 2))
                repeat (first | exact kept_over | refine kept_upd rfl ?_ | refine kept_overS (by decide) ?_)
            · have hp5 := hb5
              (try simp only [decide_eq_true_eq, decide_eq_false_iff_not, Bool.not_eq_true', Bool.not_eq_false', ne_eq, Decidable.not_not] at hp5)
              have hwho := hb5
              refine ol_skip (wn_some rfl rfl rfl hb5 rfl) rfl ?_
              refine ol_skip (wn_some rfl rfl rfl hb5 rfl) rfl ?_
              refine ol_skip (wn_some rfl rfl rfl hb5 rfl) rfl ?_
              refine ol_skip (wn_some rfl rfl rfl hb5 rfl) rfl ?_
              refine ol_skip (wn_some rfl rfl rfl hb5 rfl) rfl ?_
              refine ol_skip (wn_some rfl rfl rfl hb5 rfl) rfl ?_
              refine ol_q (wn_none rfl) (op_pick_f (v := .bool _) rfl hb5 rfl) rfl ?_
              refine ol_nil_then ?_
              refine cd_cond_f rfl rfl ?_
              refine cd_skip ?_
              refine px_blockN ?_
              refine px_then ?_
              refine cd_region ?_   -- 17
              refine ol_q (wn_none rfl) (op_add rfl rfl (by omega) (by omega)) rfl ?_
              refine ol_q (wn_none rfl) (op_move (v := .int _ _) rfl) rfl ?_
              refine ol_nil ?_
              refine px_loop2 (i + 1, (a.take ⟨xs[i].who, xs[i].slot, nameR xs[i].nr⟩).2, b) ⟨by dsimp only; omega, hA.other hwa _ (of_decide_eq_false hwho)⟩ (by (try dsimp only); omega) ⟨congrArg (Value.int .i64) (by simp), trivial⟩ ?_ (fun _ s => ((s.del 1).pull 1))
              repeat (first | exact kept_over | refine kept_upd rfl ?_ | refine kept_overS (by decide) ?_)
        · have hp3 := hb3
          (try simp only [decide_eq_true_eq, decide_eq_false_iff_not, Bool.not_eq_true', Bool.not_eq_false', ne_eq, Decidable.not_not] at hp3)
          refine cd_exit ?_
          refine px_thenE ?_
          refine px_thenE ?_
          refine px_blockE ?_
          refine px_then ?_
          refine cd_sr ?_   -- 18
          refine ol_q (wn_none rfl) (op_move (v := .pointer _) rfl) rfl ?_
          refine ol_q (wn_none rfl) (op_move (v := .int _ _) rfl) rfl ?_
          refine ol_pull1 ?_
          refine ol_i (wn_none rfl) (os_call cb_21 rfl (fun w s => TVote_calls _ _ _  s )) rfl ?_; rintro _ _ ⟨rfl, rfl⟩
          refine ol_q (wn_none rfl) (op_move (v := .tuple _) rfl) rfl ?_
          refine ol_q (wn_none rfl) (op_extract (v := .agg _) rfl rfl) rfl ?_
          refine ol_q (wn_none rfl) (op_extract (v := .bool _) rfl rfl) rfl ?_
          refine ol_i (wn_none rfl) (os_alloc (cs := (voteC Vote.zero).toArray) zB_31 (by kernel_rfl)) rfl ?_; rintro _ _ ⟨bx2, rfl, rfl⟩
          refine ol_iN (wn_none rfl) (os_storew (voteC _) ag_31 rfl rfl (voteC_len _) (voteC_one _) (by simp [voteC_len]) (Free.zero _)) ?_; rintro _ _ ⟨rfl, rfl⟩
          refine ol_q (wn_none rfl) (op_assign (v := .bool _) rfl) rfl ?_
          refine ol_nil_then ?_
          refine cd_sr ?_   -- 19
          refine ol_q (wn_none rfl) (op_move (v := .pointer _) rfl) rfl ?_
          refine ol_q (wn_none rfl) (op_move (v := .int _ _) rfl) rfl ?_
          refine ol_pull2 ?_
          refine ol_i (wn_none rfl) (os_call cb_21 rfl (fun w s => TVote_calls _ _ _  s )) rfl ?_; rintro _ _ ⟨rfl, rfl⟩
          refine ol_q (wn_none rfl) (op_move (v := .tuple _) rfl) rfl ?_
          refine ol_q (wn_none rfl) (op_extract (v := .agg _) rfl rfl) rfl ?_
          refine ol_q (wn_none rfl) (op_extract (v := .bool _) rfl rfl) rfl ?_
          refine ol_i (wn_none rfl) (os_alloc (cs := (voteC Vote.zero).toArray) zB_31 (by kernel_rfl)) rfl ?_; rintro _ _ ⟨bx3, rfl, rfl⟩
          refine ol_iN (wn_none rfl) (os_storew (voteC _) ag_31 rfl rfl (voteC_len _) (voteC_one _) (by simp [voteC_len]) (Free.zero _)) ?_; rintro _ _ ⟨rfl, rfl⟩
          refine ol_q (wn_none rfl) (op_assign (v := .bool _) rfl) rfl ?_
          refine ol_nil_then ?_
          refine cd_sr ?_   -- 20
          refine ol_q (wn_none rfl) (op_lda (L := voteC _) 2 ag_31 rfl rfl (voteC_ta _) (by simp [voteC_len])) rfl ?_
          refine ol_q (wn_none rfl) (op_lda (L := voteC _) 0 ag_31 rfl rfl (voteC_ta _) (by simp [voteC_len])) rfl ?_
          refine ol_q (wn_none rfl) (op_eqs stB_31 rfl rfl (feq_Vote fs_31 Try.underlying3 rB_29 _ _)) rfl ?_
          refine ol_q (wn_none rfl) (op_move (v := .bool _) rfl) rfl ?_
          refine ol_split 85 rfl (fun hb7 => ?_) (fun hb7 => ?_)
          · have hp7 := hb7
            (try simp only [decide_eq_true_eq, decide_eq_false_iff_not, Bool.not_eq_true', Bool.not_eq_false', ne_eq, Decidable.not_not] at hp7)
            refine ol_q (wn_some rfl rfl rfl hb7 rfl) (op_move (v := .bool _) rfl) rfl ?_
            refine ol_q (wn_some rfl rfl rfl hb7 rfl) (op_move (v := .bool _) rfl) rfl ?_
            refine ol_q (wn_some rfl rfl rfl hb7 rfl) (op_beql Try.underlying4 rfl rfl) rfl ?_
            refine ol_q (wn_none rfl) (op_pick_t (v := .bool _) rfl hb7 rfl) rfl ?_
            refine ol_q (wn_none rfl) (op_move (v := .bool _) rfl) rfl ?_
            refine ol_split 90 rfl (fun hb8 => ?_) (fun hb8 => ?_)
            · have hp8 := hb8
              (try simp only [decide_eq_true_eq, decide_eq_false_iff_not, Bool.not_eq_true', Bool.not_eq_false', ne_eq, Decidable.not_not] at hp8)
              refine ol_q (wn_some rfl rfl rfl hb8 rfl) (op_move (v := .pointer _) rfl) rfl ?_
              refine ol_q (wn_some rfl rfl rfl hb8 rfl) (op_move (v := .int _ _) rfl) rfl ?_
              refine ol_pull3 ?_
              refine ol_i (wn_some rfl rfl rfl hb8 rfl) (os_call cb_19 rfl (fun w s => Counts_calls _ _ _  s )) rfl ?_; rintro _ _ ⟨rfl, rfl⟩
              refine ol_q (wn_some rfl rfl rfl hb8 rfl) (op_move (v := .pointer _) rfl) rfl ?_
              refine ol_q (wn_some rfl rfl rfl hb8 rfl) (op_move (v := .int _ _) rfl) rfl ?_
              refine ol_pull2 ?_
              refine ol_i (wn_some rfl rfl rfl hb8 rfl) (os_call cb_19 rfl (fun w s => Counts_calls _ _ _  s )) rfl ?_; rintro _ _ ⟨rfl, rfl⟩
              refine ol_q (wn_some rfl rfl rfl hb8 rfl) (op_beql Try.underlying4 rfl rfl) rfl ?_
              refine ol_q (wn_none rfl) (op_pick_t (v := .bool _) rfl hb8 rfl) rfl ?_
              refine ol_q (wn_none rfl) (op_assign (v := .bool _) rfl) rfl ?_
              refine ol_nil_then ?_
              refine cd_ret ?_
              exact px_ret1 rfl (v := .bool _) rfl (fun _ s => ((((s.del 3).del 2).del 1).del 0)) ⟨congrArg Value.bool (by rw [hE2]; simp), rfl⟩
            · have hp8 := hb8
              (try simp only [decide_eq_true_eq, decide_eq_false_iff_not, Bool.not_eq_true', Bool.not_eq_false', ne_eq, Decidable.not_not] at hp8)
              exact absurd hb8 (by rw [hE1]; simp)
          · have hp7 := hb7
            (try simp only [decide_eq_true_eq, decide_eq_false_iff_not, Bool.not_eq_true', Bool.not_eq_false', ne_eq, Decidable.not_not] at hp7)
            exact absurd hb7 (by rw [hE1]; simp)

set_option maxRecDepth 100000 in
set_option maxHeartbeats 1000000 in
theorem TableEpochs_calls {w0 w : World} {l : List HProp} (sl : Int) (ao : Option Addr) (c : Nat) (xs : List TCall) (hs : Sat w0 w (l)) (hr : Rds w0 l encTCall ao xs) (hq : ∀ a ∈ xs, I64 a.who ∧ I64 a.slot ∧ I64 a.nr) :
    Calls Try.prog 3 #[.int .i64 sl, .slice ao xs.length c] w (Ret w0 fun v l' => v = .bool true ∧ l' = l) := by
  refine calls_enter Try.func3 rfl rfl rfl hs ?_
  refine cd_sr ?_   -- 0
  refine ol_q (wn_none rfl) (op_assign (v := .bool _) rfl) rfl ?_
  refine ol_nil_then ?_
  refine cd_seq ?_
  refine cd_sr ?_   -- 1
  refine ol_i (wn_none rfl) (os_call cb_15 rfl (fun w s => tabAlive_calls  s )) rfl ?_; rintro _ l ⟨rfl, rfl⟩
  refine ol_q (wn_none rfl) (op_not rfl) rfl ?_
  refine ol_nil_then ?_
  refine cd_cond_f rfl rfl ?_
  refine cd_skip ?_
  refine px_then ?_
  refine cd_seq ?_
  refine cd_sr ?_   -- 3
  refine ol_q (wn_none rfl) (op_move (v := .slice _ _ _) rfl) rfl ?_
  refine ol_q (wn_none rfl) (op_len_slice Try.underlying22 rfl) rfl ?_
  refine ol_q (wn_none rfl) (op_gt rfl rfl) rfl ?_
  refine ol_nil_then ?_
  refine cd_cond rfl (fun hb1 => ?_) (fun hb1 => ?_)
  · have hp1 := hb1
    (try simp only [decide_eq_true_eq, decide_eq_false_iff_not, Bool.not_eq_true', Bool.not_eq_false', ne_eq, Decidable.not_not] at hp1)
    refine cd_sr ?_   -- 4
    refine ol_q (wn_none rfl) (op_assign (v := .bool _) rfl) rfl ?_
    refine ol_nil_then ?_
    refine cd_ret ?_
    refine px_thenR ?_
    exact px_ret1 rfl (v := .bool _) rfl (fun _ s => s) ⟨congrArg Value.bool (by first | rfl | (simp; omega)), rfl⟩
  · have hp1 := hb1
    (try simp only [decide_eq_true_eq, decide_eq_false_iff_not, Bool.not_eq_true', Bool.not_eq_false', ne_eq, Decidable.not_not] at hp1)
    refine cd_skip ?_
    refine px_then ?_
    refine cd_sr ?_   -- 5
    refine ol_q (wn_none rfl) (op_move (v := .int _ _) rfl) rfl ?_
    refine ol_i (wn_none rfl) (os_call cb_16 rfl (fun w s => New_calls _ _ s)) rfl ?_; rintro _ l2 (⟨rfl, hl2, hbad1⟩ | ⟨p1, rfl, hok1, rfl⟩)
    · rw [hl2]
      refine ol_q (wn_none rfl) (op_move (v := .int _ _) rfl) rfl ?_
      refine ol_i (wn_none rfl) (os_call cb_16 rfl (fun w s => New_calls _ _ s)) rfl ?_; rintro _ l2 (⟨rfl, hl2, hbad2⟩ | ⟨p2, rfl, hok2, rfl⟩)
      · rw [hl2]
        refine ol_q (wn_none rfl) (op_assign (v := .pointer _) rfl) rfl ?_
        refine ol_q (wn_none rfl) (op_assign (v := .pointer _) rfl) rfl ?_
        refine ol_nil_then ?_
        refine cd_seq ?_
        refine cd_sr ?_   -- 6
        refine ol_q (wn_none rfl) (op_move (v := .pointer _) rfl) rfl ?_
        refine ol_q (wn_none rfl) (op_eqnil Try.underlying24 rfl rfl) rfl ?_
        refine ol_q (wn_none rfl) (op_move (v := .bool _) rfl) rfl ?_
        refine ol_skip (wn_some rfl rfl rfl rfl rfl) rfl ?_
        refine ol_skip (wn_some rfl rfl rfl rfl rfl) rfl ?_
        refine ol_q (wn_none rfl) (op_pick_t (v := .bool _) rfl rfl rfl) rfl ?_
        refine ol_nil_then ?_
        refine cd_cond_t rfl rfl ?_
        refine cd_sr ?_   -- 7
        refine ol_q (wn_none rfl) (op_move (v := .int _ _) rfl) rfl ?_
        refine ol_q (wn_none rfl) (op_lt rfl rfl) rfl ?_
        refine ol_q (wn_none rfl) (op_move (v := .bool _) rfl) rfl ?_
        refine ol_split 28 rfl (fun hb2 => ?_) (fun hb2 => ?_)
        · have hp2 := hb2
          (try simp only [decide_eq_true_eq, decide_eq_false_iff_not, Bool.not_eq_true', Bool.not_eq_false', ne_eq, Decidable.not_not] at hp2)
          refine ol_skip (wn_some rfl rfl rfl hb2 rfl) rfl ?_
          refine ol_skip (wn_some rfl rfl rfl hb2 rfl) rfl ?_
          refine ol_q (wn_none rfl) (op_pick_t (v := .bool _) rfl hb2 rfl) rfl ?_
          refine ol_q (wn_none rfl) (op_assign (v := .bool _) rfl) rfl ?_
          refine ol_nil_then ?_
          refine cd_ret ?_
          refine px_thenR ?_
          exact px_ret1 rfl (v := .bool _) rfl (fun _ s => s) ⟨congrArg Value.bool (by first | rfl | (simp; omega)), rfl⟩
        · have hp2 := hb2
          (try simp only [decide_eq_true_eq, decide_eq_false_iff_not, Bool.not_eq_true', Bool.not_eq_false', ne_eq, Decidable.not_not] at hp2)
          refine ol_q (wn_some rfl rfl rfl hb2 rfl) (op_move (v := .int _ _) rfl) rfl ?_
          refine ol_q (wn_some rfl rfl rfl hb2 rfl) (op_gt rfl rfl) rfl ?_
          refine ol_q (wn_none rfl) (op_pick_f (v := .bool _) rfl hb2 rfl) rfl ?_
          refine ol_q (wn_none rfl) (op_assign (v := .bool _) rfl) rfl ?_
          refine ol_nil_then ?_
          refine cd_ret ?_
          refine px_thenR ?_
          exact px_ret1 rfl (v := .bool _) rfl (fun _ s => s) ⟨congrArg Value.bool (by first | rfl | (simp; omega)), rfl⟩
      · exact absurd hbad1 (by omega)
    · have hob1 := hok1
      refine ol_q (wn_none rfl) (op_move (v := .int _ _) rfl) rfl ?_
      refine ol_i (wn_none rfl) (os_call cb_16 rfl (fun w s => New_calls _ _ s)) rfl ?_; rintro _ l2 (⟨rfl, hl2, hbad2⟩ | ⟨p2, rfl, hok2, rfl⟩)
      · exact absurd hbad2 (by omega)
      · have hob2 := hok2
        refine ol_q (wn_none rfl) (op_assign (v := .pointer _) rfl) rfl ?_
        refine ol_q (wn_none rfl) (op_assign (v := .pointer _) rfl) rfl ?_
        refine ol_nil_then ?_
        refine cd_seq ?_
        refine cd_sr ?_   -- 6
        refine ol_q (wn_none rfl) (op_move (v := .pointer _) rfl) rfl ?_
        refine ol_q (wn_none rfl) (op_eqnil Try.underlying24 rfl rfl) rfl ?_
        refine ol_q (wn_none rfl) (op_move (v := .bool _) rfl) rfl ?_
        refine ol_q (wn_some rfl rfl rfl rfl rfl) (op_move (v := .pointer _) rfl) rfl ?_
        refine ol_q (wn_some rfl rfl rfl rfl rfl) (op_eqnil Try.underlying24 rfl rfl) rfl ?_
        refine ol_q (wn_none rfl) (op_pick_f (v := .bool _) rfl rfl rfl) rfl ?_
        refine ol_nil_then ?_
        refine cd_cond_f rfl rfl ?_
        refine cd_skip ?_
        refine px_then ?_
        refine cd_seq ?_
        refine cd_sr ?_   -- 8
        refine ol_q (wn_none rfl) (op_move (v := .slice _ _ _) rfl) rfl ?_
        refine ol_q (wn_none rfl) (op_len_slice Try.underlying22 rfl) rfl ?_
        refine ol_q (wn_none rfl) (op_move (v := .int _ _) rfl) rfl ?_
        refine ol_nil_then ?_
        refine cd_block ?_
        refine cd_loop2 (α := Nat × TabS × TabS) [(4, 4), (8, 10), (34, 75)] (fun x => [(34, .int .i64 (x.1 : Int))]) (fun x => TabObj p2 x.2.2 :: TabObj p1 x.2.1 :: l) (fun x => x.1 ≤ xs.length ∧ TabS.Eps x.2.1 x.2.2 ∧ x.2.1.slots = sl) (fun x => xs.length - x.1) (0, TabS.new (8 : Int).toNat sl, TabS.new (8 : Int).toNat sl) ⟨Nat.zero_le _, TabS.Eps.start _, rfl⟩ ⟨rfl, trivial⟩ (fun _ s => s) ?_
        rintro ⟨i, a, b⟩ ⟨hi, hA, hsl⟩ f; (try dsimp only at hi hA hsl ⊢); refine cd_know (φ := a.WF ∧ b.WF) (fun w s => ⟨(s.pull 1).tabWF, s.tabWF⟩) (fun hwf => ?_); obtain ⟨hwa, hwb⟩ := hwf
        refine cd_sr ?_   -- 9
        refine ol_q (wn_none rfl) (op_lt rfl rfl) rfl ?_
        refine ol_nil_then ?_
        refine cd_seq ?_
        refine cd_cond rfl (fun hb3 => ?_) (fun hb3 => ?_)
        · have hp3 := hb3
          (try simp only [decide_eq_true_eq, decide_eq_false_iff_not, Bool.not_eq_true', Bool.not_eq_false', ne_eq, Decidable.not_not] at hp3)
          have hqi := hq _ (List.getElem_mem (show i < xs.length by omega)); unfold I64 at hqi
          refine cd_skip ?_
          refine px_then ?_
          refine cd_seq ?_
          refine cd_block ?_
          refine cd_sr ?_   -- 10
          refine ol_q (wn_none rfl) (op_index _ sB_22 rfl rfl rfl ((hr.cons _).cons _) rfl (by omega)) rfl ?_
          refine ol_q (wn_none rfl) (op_ldaw (L := tCallC _) ag_27 ((hr.cons _).cons _) rfl (by omega) rfl (tCallC_ta _)) rfl ?_
          refine ol_i (wn_none rfl) (os_alloc (cs := (tCallC TCall.zero).toArray) zB_27 (by kernel_rfl)) rfl ?_; rintro _ _ ⟨bx1, rfl, rfl⟩
          refine ol_iN (wn_none rfl) (os_storew (tCallC _) ag_27 rfl rfl (tCallC_len _) (tCallC_one _) (by simp [tCallC_len]) (Free.zero _)) ?_; rintro _ _ ⟨rfl, rfl⟩
          refine ol_nil_then ?_
          refine cd_seq ?_
          refine cd_sr ?_   -- 11
          refine ol_q (wn_none rfl) (op_field fld_27_2 rfl) rfl ?_
          refine ol_q (wn_none rfl) (op_ld 0 sc_3 rfl rfl (tCallC_a2 _)) rfl ?_
          refine ol_q (wn_none rfl) (op_lt rfl rfl) rfl ?_
          refine ol_q (wn_none rfl) (op_move (v := .bool _) rfl) rfl ?_
          refine ol_split 41 rfl (fun hb4 => ?_) (fun hb4 => ?_)
          · have hp4 := hb4
            (try simp only [decide_eq_true_eq, decide_eq_false_iff_not, Bool.not_eq_true', Bool.not_eq_false', ne_eq, Decidable.not_not] at hp4)
            have hc1 := of_decide_eq_true hb4
            refine ol_skip (wn_some rfl rfl rfl hb4 rfl) rfl ?_
            refine ol_skip (wn_some rfl rfl rfl hb4 rfl) rfl ?_
            refine ol_skip (wn_some rfl rfl rfl hb4 rfl) rfl ?_
            refine ol_q (wn_none rfl) (op_pick_t (v := .bool _) rfl hb4 rfl) rfl ?_
            refine ol_nil_then ?_
            refine cd_cond_t rfl rfl ?_
            refine cd_exit ?_
            refine px_thenE ?_
            refine px_blockE ?_
            refine px_then ?_
            refine cd_region ?_   -- 17
            refine ol_q (wn_none rfl) (op_add rfl rfl (by omega) (by omega)) rfl ?_
            refine ol_q (wn_none rfl) (op_move (v := .int _ _) rfl) rfl ?_
            refine ol_nil ?_
            refine px_loop2 (i + 1, a, b) ⟨by dsimp only; omega, hA, hsl⟩ (by (try dsimp only); omega) ⟨congrArg (Value.int .i64) (by simp), trivial⟩ ?_ (fun _ s => (s.del 0))
            repeat (first | exact kept_over | refine kept_upd rfl ?_ | refine kept_overS (by decide) ?_)
          · have hp4 := hb4
            (try simp only [decide_eq_true_eq, decide_eq_false_iff_not, Bool.not_eq_true', Bool.not_eq_false', ne_eq, Decidable.not_not] at hp4)
            have hc1 := of_decide_eq_false hb4
            refine ol_q (wn_some rfl rfl rfl hb4 rfl) (op_field fld_27_2 rfl) rfl ?_
            refine ol_q (wn_some rfl rfl rfl hb4 rfl) (op_ld 0 sc_3 rfl rfl (tCallC_a2 _)) rfl ?_
            refine ol_q (wn_some rfl rfl rfl hb4 rfl) (op_gt rfl rfl) rfl ?_
            refine ol_q (wn_none rfl) (op_pick_f (v := .bool _) rfl hb4 rfl) rfl ?_
            refine ol_nil_then ?_
            refine cd_cond rfl (fun hb5 => ?_) (fun hb5 => ?_)
            · have hp5 := hb5
              (try simp only [decide_eq_true_eq, decide_eq_false_iff_not, Bool.not_eq_true', Bool.not_eq_false', ne_eq, Decidable.not_not] at hp5)
              refine cd_exit ?_
              refine px_thenE ?_
              refine px_blockE ?_
              refine px_then ?_
              refine cd_region ?_   -- 17
              refine ol_q (wn_none rfl) (op_add rfl rfl (by omega) (by omega)) rfl ?_
              refine ol_q (wn_none rfl) (op_move (v := .int _ _) rfl) rfl ?_
              refine ol_nil ?_
              refine px_loop2 (i + 1, a, b) ⟨by dsimp only; omega, hA, hsl⟩ (by (try dsimp only); omega) ⟨congrArg (Value.int .i64) (by simp), trivial⟩ ?_ (fun _ s => (s.del 0))
              repeat (first | exact kept_over | refine kept_upd rfl ?_ | refine kept_overS (by decide) ?_)
            · have hp5 := hb5
              (try simp only [decide_eq_true_eq, decide_eq_false_iff_not, Bool.not_eq_true', Bool.not_eq_false', ne_eq, Decidable.not_not] at hp5)
              have hc2 := of_decide_eq_false hb5
              have hst := hA.step hwa hwb ⟨xs[i].who, xs[i].slot, nameR xs[i].nr⟩ (by dsimp only; omega) (by dsimp only; omega); rw [hsl] at hst; dsimp only at hst
              have hrg := ep_round_rg (s := xs[i].slot) (k := sl) (by omega) (by omega)
              obtain ⟨hE1, hE2⟩ := hst.1.ends xs[i].who
              refine cd_skip ?_
              refine px_then ?_
              refine cd_sr ?_   -- 12
              refine ol_q (wn_none rfl) (op_lda (L := tCallC _) 0 ag_27 rfl rfl (tCallC_ta _) (by simp [tCallC_len])) rfl ?_
              refine ol_i (wn_none rfl) (os_call cb_17 rfl (fun w s => vote_calls _  s )) rfl ?_; rintro _ l ⟨rfl, rfl⟩
              refine ol_i (wn_none rfl) (os_alloc (cs := (voteC Vote.zero).toArray) zB_31 (by kernel_rfl)) rfl ?_; rintro _ _ ⟨bx2, rfl, rfl⟩
              refine ol_iN (wn_none rfl) (os_storew (voteC _) ag_31 rfl rfl (voteC_len _) (voteC_one _) (by simp [voteC_len]) (Free.zero _)) ?_; rintro _ _ ⟨rfl, rfl⟩
              refine ol_nil_then ?_
              refine cd_sr ?_   -- 13
              refine ol_q (wn_none rfl) (op_move (v := .pointer _) rfl) rfl ?_
              refine ol_q (wn_none rfl) (op_lda (L := voteC _) 0 ag_31 rfl rfl (voteC_ta _) (by simp [voteC_len])) rfl ?_
              refine ol_pull3 ?_
              refine ol_i (wn_none rfl) (os_call cb_18 rfl (fun w s => Take_calls _ _ _  s )) rfl ?_; rintro _ _ ⟨rfl, rfl⟩
              refine ol_q (wn_none rfl) (op_assign (v := .int _ _) rfl) rfl ?_
              refine ol_nil_then ?_
              refine cd_seq ?_   -- 14
              refine cd_drawt (M := []) mx [] 8 (by kernel_rfl) rfl rfl ?_
              dsimp only [List.take_succ_cons, List.take_zero, List.drop_succ_cons, List.drop_zero]
              refine rg_q (wn_none rfl) (op_field fld_27_2 rfl) rfl rfl ?_
              refine rg_q (wn_none rfl) (op_ld 2 sc_3 rfl rfl (tCallC_a2 _)) rfl rfl ?_
              refine rg_q (wn_none rfl) (op_field fld_27_2 rfl) rfl rfl ?_
              refine rg_q (wn_none rfl) (op_ld 2 sc_3 rfl rfl (tCallC_a2 _)) rfl rfl ?_
              refine rg_q (wn_none rfl) (op_move (v := .int _ _) rfl) rfl rfl ?_
              refine rg_q (wn_none rfl) (op_rem rfl rfl (by omega) (by omega)) rfl rfl ?_
              refine rg_q (wn_none rfl) (op_sub rfl rfl (by omega) (by omega)) rfl rfl ?_
              refine rg_q (wn_none rfl) (op_field fld_31_1 rfl) rfl rfl ?_
              refine rg_tail0 ?_
              refine ol_pull1 ?_
              refine ol_iN (wn_none rfl) (os_store (v := .int _ _) sc_3 rfl rfl rfl (by simp [voteC_len]) (Free.zero _) (voteC_s1 _ _)) ?_; rintro _ _ ⟨rfl, rfl⟩
              refine ol_nil_then ?_
              refine cd_pull1 ?_
              refine cd_pull3 ?_
              refine cd_seq ?_   -- 15
              refine cd_drawe (M := [_, _]) mx [2, 9, 13] ?_
              -- 0
              refine et_quiet 0 (by kernel_rfl) rfl (by kernel_rfl) (wn_none rfl) (op_move (v := .pointer _) rfl) rfl ?_
              -- 1
              refine et_quiet 1 (by kernel_rfl) rfl (by kernel_rfl) (wn_none rfl) (op_lda (L := voteC _) 0 ag_31 rfl rfl (voteC_ta _) (by simp [voteC_len])) rfl ?_
              -- 3
              refine et_quiet 3 (by kernel_rfl) rfl (by kernel_rfl) (wn_none rfl) (op_move (v := .int _ _) rfl) rfl ?_
              refine et_1 (i := 2) (by kernel_rfl) ?_
              refine ei_i rfl rfl (wn_none rfl) (os_call cb_18 rfl (fun w s => Take_calls _ _ _  s )) rfl ?_; rintro _ _ ⟨rfl, rfl⟩; refine ⟨[_, _], rfl, ?_⟩
              -- 4
              refine et_quiet 4 (by kernel_rfl) rfl (by kernel_rfl) (wn_none rfl) (op_ne rfl rfl) rfl ?_
              -- 5
              refine et_quiet 5 (by kernel_rfl) rfl (by kernel_rfl) (wn_none rfl) (op_move (v := .bool _) rfl) rfl ?_
              refine et_split 64 rfl (fun hb6 => ?_) (fun hb6 => ?_)
              · have hp6 := hb6
                (try simp only [decide_eq_true_eq, decide_eq_false_iff_not, Bool.not_eq_true', Bool.not_eq_false', ne_eq, Decidable.not_not] at hp6)
                exact absurd hb6 (by rw [hst.2]; simp)
              · have hp6 := hb6
                (try simp only [decide_eq_true_eq, decide_eq_false_iff_not, Bool.not_eq_true', Bool.not_eq_false', ne_eq, Decidable.not_not] at hp6)
                -- 6
                refine et_quiet 6 (by kernel_rfl) rfl (by kernel_rfl) (wn_some rfl rfl rfl hb6 rfl) (op_move (v := .pointer _) rfl) rfl ?_
                -- 7
                refine et_quiet 7 (by kernel_rfl) rfl (by kernel_rfl) (wn_some rfl rfl rfl hb6 rfl) (op_field fld_27_1 rfl) rfl ?_
                -- 8
                refine et_quiet 8 (by kernel_rfl) rfl (by kernel_rfl) (wn_some rfl rfl rfl hb6 rfl) (op_ld 1 sc_3 rfl rfl (tCallC_a1 _)) rfl ?_
                -- 10
                refine et_quiet 10 (by kernel_rfl) rfl (by kernel_rfl) (wn_some rfl rfl rfl hb6 rfl) (op_move (v := .pointer _) rfl) rfl ?_
                -- 11
                refine et_quiet 11 (by kernel_rfl) rfl (by kernel_rfl) (wn_some rfl rfl rfl hb6 rfl) (op_field fld_27_1 rfl) rfl ?_
                -- 12
                refine et_quiet 12 (by kernel_rfl) rfl (by kernel_rfl) (wn_some rfl rfl rfl hb6 rfl) (op_ld 1 sc_3 rfl rfl (tCallC_a1 _)) rfl ?_
                refine et_1 (i := 9) (by kernel_rfl) ?_
                refine ei_i rfl rfl (wn_some rfl rfl rfl hb6 rfl) (os_pull1 (os_call cb_19 rfl (fun w s => Counts_calls _ _ _  s ))) rfl ?_; rintro _ _ ⟨rfl, rfl⟩; refine ⟨[_, _], rfl, ?_⟩
                refine et_1 (i := 13) (by kernel_rfl) ?_
                refine ei_i rfl rfl (wn_some rfl rfl rfl hb6 rfl) (os_pull1 (os_call cb_19 rfl (fun w s => Counts_calls _ _ _  s ))) rfl ?_; rintro _ _ ⟨rfl, rfl⟩; refine ⟨[_, _], rfl, ?_⟩
                -- 14
                refine et_quiet 14 (by kernel_rfl) rfl (by kernel_rfl) (wn_some rfl rfl rfl hb6 rfl) (op_bneq Try.underlying4 rfl rfl) rfl ?_
                -- 15
                refine et_quiet 15 (by kernel_rfl) rfl (by kernel_rfl) (wn_none rfl) (op_pick_f (v := .bool _) rfl hb6 rfl) rfl ?_
                refine et_nil_then (by kernel_rfl) ?_
                refine cd_cond rfl (fun hb7 => ?_) (fun hb7 => ?_)
                · have hp7 := hb7
                  (try simp only [decide_eq_true_eq, decide_eq_false_iff_not, Bool.not_eq_true', Bool.not_eq_false', ne_eq, Decidable.not_not] at hp7)
                  exact absurd hb7 (by rw [hE1]; simp)
                · have hp7 := hb7
                  (try simp only [decide_eq_true_eq, decide_eq_false_iff_not, Bool.not_eq_true', Bool.not_eq_false', ne_eq, Decidable.not_not] at hp7)
                  refine cd_skip ?_
                  refine px_blockN ?_
                  refine px_then ?_
                  refine cd_region ?_   -- 17
                  refine ol_q (wn_none rfl) (op_add rfl rfl (by omega) (by omega)) rfl ?_
                  refine ol_q (wn_none rfl) (op_move (v := .int _ _) rfl) rfl ?_
                  refine ol_nil ?_
                  refine px_loop2 (i + 1, (a.take ⟨xs[i].who, xs[i].slot, nameR xs[i].nr⟩).2, (b.take ⟨xs[i].who, xs[i].slot - xs[i].slot % sl, nameR xs[i].nr⟩).2) ⟨by dsimp only; omega, hst.1, (a.take_slots _).1.trans hsl⟩ (by (try dsimp only); omega) ⟨congrArg (Value.int .i64) (by simp), trivial⟩ ?_ (fun _ s => ((s.del 3).del 2))
                  repeat (first | exact kept_over | refine kept_upd rfl ?_ | refine kept_overS (by decide) ?_)
        · have hp3 := hb3
          (try simp only [decide_eq_true_eq, decide_eq_false_iff_not, Bool.not_eq_true', Bool.not_eq_false', ne_eq, Decidable.not_not] at hp3)
          refine cd_exit ?_
          refine px_thenE ?_
          refine px_thenE ?_
          refine px_blockE ?_
          refine px_then ?_
          refine cd_sr ?_   -- 18
          refine ol_q (wn_none rfl) (op_move (v := .pointer _) rfl) rfl ?_
          refine ol_pull1 ?_
          refine ol_i (wn_none rfl) (os_call cb_20 rfl (fun w s => Marks_calls _ _  s )) rfl ?_; rintro _ _ ⟨rfl, rfl⟩
          refine ol_q (wn_none rfl) (op_move (v := .pointer _) rfl) rfl ?_
          refine ol_pull1 ?_
          refine ol_i (wn_none rfl) (os_call cb_20 rfl (fun w s => Marks_calls _ _  s )) rfl ?_; rintro _ _ ⟨rfl, rfl⟩
          refine ol_q (wn_none rfl) (op_eq rfl rfl) rfl ?_
          refine ol_q (wn_none rfl) (op_assign (v := .bool _) rfl) rfl ?_
          refine ol_nil_then ?_
          refine cd_ret ?_
          exact px_ret1 rfl (v := .bool _) rfl (fun _ s => ((s.del 1).del 0)) ⟨congrArg Value.bool (by rw [(hA.ends 0).2]; simp), rfl⟩
end Go.SL

import Derived.Test.YtbgnabofcceajaaTreeR
set_option linter.unusedVariables false
set_option linter.unusedSimpArgs false
namespace Go.SL
open Go.Proofs

theorem opens_TAdd {H : Type} {enc : TypeId × Value → H} {W : World} : Opens enc Try.prog W 54 (fun cs => ∃ a : TAdd, cs = encTAdd.cells a ∧ (I64 a.root ∧ I64 a.parent ∧ I64 a.slot)) := fun fuel cs x h => by
  obtain ⟨hl, hf⟩ := opens_field Try.underlying54 h
  have hc : Try.prog.cellsOf 54 = 3 := by kernel_rfl
  rw [hc] at hl
  obtain ⟨n0, h0, w0⟩ := hf 0 0 3 1 _ rfl (by kernel_rfl) (opens_int Try.underlying3)
  obtain ⟨n1, h1, w1⟩ := hf 1 1 3 1 _ rfl (by kernel_rfl) (opens_int Try.underlying3)
  obtain ⟨n2, h2, w2⟩ := hf 2 2 3 1 _ rfl (by kernel_rfl) (opens_int Try.underlying3)
  refine ⟨⟨n0, n1, n2⟩, ?_, wf_i64 w0, wf_i64 w1, wf_i64 w2⟩
  have e0 : cs.drop 0 = (cs.drop 0).take 1 ++ cs.drop 1 := seg cs 0 1
  have e1 : cs.drop 1 = (cs.drop 1).take 1 ++ cs.drop 2 := seg cs 1 1
  have e2 : cs.drop 2 = (cs.drop 2).take 1 ++ cs.drop 3 := seg cs 2 1
  have eN : cs.drop 3 = [] := List.drop_eq_nil_of_le (by omega)
  have e : cs.drop 0 = [.int .i64 n0] ++ ([.int .i64 n1] ++ ([.int .i64 n2] ++ ([]))) := by rw [e0, h0, e1, h1, e2, h2, eN]
  rw [List.drop_zero] at e
  rw [e]
  show _ = tAddC _
  unfold tAddC
  simp

set_option maxRecDepth 100000 in
set_option maxHeartbeats 1000000 in
theorem Kids_calls {w0 w : World} {l : List HProp} (p : Nat) (t : TreeS) (r : Root) (hs : Sat w0 w ((TreeObj p t) :: l))  :
    Calls Try.prog 26 #[.pointer (some ⟨p, 0, none⟩), .agg (rootC r).toArray] w (Ret w0 fun v l' => ∃ ao c, v = .slice ao (t.kids r).length c ∧ l' = Row 30 encRoot (.slice ao (t.kids r).length c) (t.kids r) :: TreeObj p t :: l) := by
  have hw := hs.treeWF; have hkl := kids_len t r
  have hpl := t.place_lt r; have hpg : -1 ≤ t.place r := by unfold TreeS.place; split <;> omega
  have hm1 := hw.m1; have hm2 := hw.m2; have hle := hw.le; have hne := hw.ne
  refine calls_enter Try.func26 rfl rfl rfl hs ?_
  refine cd_sr ?_   -- 0
  refine ol_i (wn_none rfl) (os_boxa rfl) rfl ?_; rintro _ _ ⟨bx1, rfl, rfl⟩
  refine ol_q (wn_none rfl) (op_assign (v := .slice _ _ _) rfl) rfl ?_
  refine ol_nil_then ?_
  refine cd_sr ?_   -- 1
  refine ol_q (wn_none rfl) (op_move (v := .pointer _) rfl) rfl ?_
  refine ol_q (wn_none rfl) (op_lda (L := rootC _) 0 ag_30 rfl rfl (rootC_take' _) (by simp [rootC_len])) rfl ?_
  refine ol_pull1 ?_
  refine ol_i (wn_none rfl) (os_call cb_28 rfl (fun w s => Place_calls _ _ _  s )) rfl ?_; rintro _ _ ⟨rfl, rfl⟩
  refine ol_q (wn_none rfl) (op_assign (v := .int _ _) rfl) rfl ?_
  refine ol_nil_then ?_
  refine cd_sr ?_   -- 2
  refine ol_q (wn_none rfl) (op_assign (v := .slice _ _ _) rfl) rfl ?_
  refine ol_nil_then ?_
  refine cd_seq ?_
  refine cd_sr ?_   -- 3
  refine ol_q (wn_none rfl) (op_move (v := .int _ _) rfl) rfl ?_
  refine ol_q (wn_none rfl) (op_add rfl rfl (by omega) (by omega)) rfl ?_
  refine ol_q (wn_none rfl) (op_assign (v := .int _ _) rfl) rfl ?_
  refine ol_nil_then ?_
  refine cd_block ?_
  refine cd_treeOpen ?_; intro a1 c1 b _
  have hk0 : kidsTo t.nodes r (t.place r + 1).toNat = [] := by
    rcases hix : idxOf t.nodes r with _ | a0
    · exact kidsTo_none hix _
    · exact kidsTo_low hw.pa hix (by unfold TreeS.place; rw [hix]; dsimp only; omega)
  refine cd_loop2 (α := Nat × Option Addr × Nat) [(6, 7), (13, 46)] (fun x => [(6, .slice x.2.1 (kidsTo t.nodes r x.1).length x.2.2), (7, .int .i64 (x.1 : Int))]) (fun x => Row 30 encRoot (.slice x.2.1 (kidsTo t.nodes r x.1).length x.2.2) (kidsTo t.nodes r x.1) :: Blk p (.cells #[.slice a1 t.nodes.length c1, .map (some b), .int .i64 t.most] 87 (0, 0)) :: Row 32 encNode (.slice a1 t.nodes.length c1) t.nodes :: MapO EVR EVI b (atOf t.nodes) :: l) (fun x => x.1 ≤ t.nodes.length ∧ t.place r < x.1) (fun x => t.nodes.length - x.1) ((t.place r + 1).toNat, none, 0) ⟨by dsimp only; omega, by dsimp only; omega⟩ ⟨by rw [hk0]; rfl, congrArg (Value.int .i64) (by omega), trivial⟩ (fun _ s => by rw [hk0]; exact Sat.rowNil (s.del 3)) ?_
  rintro ⟨i, vo, vc⟩ ⟨hi, hgt⟩ f; (try dsimp only at hi hgt ⊢); have hkl2 := kidsTo_len t.nodes r i
  refine cd_seq ?_
  refine cd_sr ?_   -- 4
  refine ol_q (wn_none rfl) (op_move (v := .int _ _) rfl) rfl ?_
  refine ol_q (wn_none rfl) (op_ge rfl rfl) rfl ?_
  refine ol_q (wn_none rfl) (op_move (v := .bool _) rfl) rfl ?_
  refine ol_split 15 rfl (fun hb1 => ?_) (fun hb1 => ?_)
  · have hp1 := hb1
    (try simp only [decide_eq_true_eq, decide_eq_false_iff_not, Bool.not_eq_true', Bool.not_eq_false', ne_eq, Decidable.not_not] at hp1)
    obtain ⟨a0, hra, hpa⟩ := TreeS.place_some (t := t) (r := r) (by omega)
    refine ol_q (wn_some rfl rfl rfl hb1 rfl) (op_move (v := .int _ _) rfl) rfl ?_
    refine ol_q (wn_some rfl rfl rfl hb1 rfl) (op_move (v := .pointer _) rfl) rfl ?_
    refine ol_q (wn_some rfl rfl rfl hb1 rfl) (op_nilck rfl) rfl ?_
    refine ol_q (wn_some rfl rfl rfl hb1 rfl) (op_field fld_87_0 rfl) rfl ?_
    refine ol_q (wn_some rfl rfl rfl hb1 rfl) (op_ld 1 sc_84 rfl rfl rfl) rfl ?_
    refine ol_q (wn_some rfl rfl rfl hb1 rfl) (op_len_slice Try.underlying84 rfl) rfl ?_
    refine ol_q (wn_some rfl rfl rfl hb1 rfl) (op_lt rfl rfl) rfl ?_
    refine ol_q (wn_none rfl) (op_pick_t (v := .bool _) rfl hb1 rfl) rfl ?_
    refine ol_nil_then ?_
    refine cd_cond rfl (fun hb2 => ?_) (fun hb2 => ?_)
    · have hp2 := hb2
      (try simp only [decide_eq_true_eq, decide_eq_false_iff_not, Bool.not_eq_true', Bool.not_eq_false', ne_eq, Decidable.not_not] at hp2)
      refine cd_skip ?_
      refine px_then ?_
      refine cd_seq ?_
      refine cd_block ?_
      refine cd_sr ?_   -- 6
      refine ol_q (wn_none rfl) (op_move (v := .pointer _) rfl) rfl ?_
      refine ol_q (wn_none rfl) (op_nilck rfl) rfl ?_
      refine ol_q (wn_none rfl) (op_field fld_87_0 rfl) rfl ?_
      refine ol_q (wn_none rfl) (op_ld 1 sc_84 rfl rfl rfl) rfl ?_
      refine ol_q (wn_none rfl) (op_move (v := .int _ _) rfl) rfl ?_
      refine ol_q (wn_none rfl) (op_index i sB_84 rfl rfl rfl (rds_row 2 rfl rfl) rfl (by omega)) rfl ?_
      refine ol_q (wn_none rfl) (op_fielde fld_32_2 rfl (rds_row 2 rfl rfl) (by omega)) rfl ?_
      refine ol_q (wn_none rfl) (op_ldf 33 sc_3 (rds_row 2 rfl rfl) rfl (by omega) rfl (nodeC_l33 _)) rfl ?_
      refine ol_q (wn_none rfl) (op_move (v := .int _ _) rfl) rfl ?_
      refine ol_q (wn_none rfl) (op_eq rfl rfl) rfl ?_
      refine ol_nil_then ?_
      refine cd_cond rfl (fun hb3 => ?_) (fun hb3 => ?_)
      · have hp3 := hb3
        (try simp only [decide_eq_true_eq, decide_eq_false_iff_not, Bool.not_eq_true', Bool.not_eq_false', ne_eq, Decidable.not_not] at hp3)
        have hpe := of_decide_eq_true hb3
        refine cd_region ?_   -- 7
        refine ol_q (wn_none rfl) (op_move (v := .slice _ _ _) rfl) rfl ?_
        refine ol_q (wn_none rfl) (op_move (v := .pointer _) rfl) rfl ?_
        refine ol_q (wn_none rfl) (op_nilck rfl) rfl ?_
        refine ol_q (wn_none rfl) (op_field fld_87_0 rfl) rfl ?_
        refine ol_q (wn_none rfl) (op_ld 1 sc_84 rfl rfl rfl) rfl ?_
        refine ol_q (wn_none rfl) (op_move (v := .int _ _) rfl) rfl ?_
        refine ol_q (wn_none rfl) (op_index i sB_84 rfl rfl rfl (rds_row 2 rfl rfl) rfl (by omega)) rfl ?_
        refine ol_q (wn_none rfl) (op_fielde fld_32_0 rfl (rds_row 2 rfl rfl) (by omega)) rfl ?_
        refine ol_q (wn_none rfl) (op_ldaf (L := rootC _) 0 ag_30 (rds_row 2 rfl rfl) rfl (by omega) rfl (nodeC_f0 _)) rfl ?_
        refine ol_i (wn_none rfl) (os_bslice (E := encRoot) [_] (ys := [_]) sB_45 zv_30 rfl rfl rfl rfl (by decide)) rfl ?_; rintro _ _ ⟨ao1, rfl, rfl⟩
        refine ol_pull1 ?_
        refine ol_i (wn_none rfl) (os_append (E := encRoot) rfl sB_45 zv_30 rfl rfl rfl (fun w s => (rds_row 1 rfl rfl) [] w s) rfl (by simp; omega) (by unfold maxLen; simp; omega)) rfl ?_; rintro _ _ ⟨ao2, ac2, rfl, rfl⟩
        refine ol_q (wn_none rfl) (op_assign (v := .slice _ _ _) rfl) rfl ?_
        refine ol_nil ?_
        refine px_blockN ?_
        refine px_then ?_
        refine cd_region ?_   -- 5
        refine ol_q (wn_none rfl) (op_move (v := .int _ _) rfl) rfl ?_
        refine ol_q (wn_none rfl) (op_add rfl rfl (by omega) (by omega)) rfl ?_
        refine ol_q (wn_none rfl) (op_assign (v := .int _ _) rfl) rfl ?_
        refine ol_nil ?_
        have e1 : kidsTo t.nodes r (i + 1) = kidsTo t.nodes r i ++ [t.nodes[i].root] := by rw [kidsTo_succ hra (by omega), if_pos (by omega)]
        refine px_loop2 (i + 1, ao2, ac2) ⟨by dsimp only; omega, by dsimp only; omega⟩ (by (try dsimp only); omega) ⟨congrArg (fun q => Value.slice ao2 (List.length q) ac2) e1.symm, congrArg (Value.int .i64) (by simp), trivial⟩ ?_ (fun _ s => (by rw [e1]; exact (s.del 1)))
        repeat (first | exact kept_over | refine kept_upd rfl ?_ | refine kept_overS (by decide) ?_)
      · have hp3 := hb3
        (try simp only [decide_eq_true_eq, decide_eq_false_iff_not, Bool.not_eq_true', Bool.not_eq_false', ne_eq, Decidable.not_not] at hp3)
        have hpe := of_decide_eq_false hb3
        refine cd_skip ?_
        refine px_blockN ?_
        refine px_then ?_
        refine cd_region ?_   -- 5
        refine ol_q (wn_none rfl) (op_move (v := .int _ _) rfl) rfl ?_
        refine ol_q (wn_none rfl) (op_add rfl rfl (by omega) (by omega)) rfl ?_
        refine ol_q (wn_none rfl) (op_assign (v := .int _ _) rfl) rfl ?_
        refine ol_nil ?_
        have e1 : kidsTo t.nodes r (i + 1) = kidsTo t.nodes r i := by rw [kidsTo_succ hra (by omega), if_neg (by omega)]
        refine px_loop2 (i + 1, vo, vc) ⟨by dsimp only; omega, by dsimp only; omega⟩ (by (try dsimp only); omega) ⟨congrArg (fun q => Value.slice vo (List.length q) vc) e1.symm, congrArg (Value.int .i64) (by simp), trivial⟩ ?_ (fun _ s => (by rw [e1]; exact s))
        repeat (first | exact kept_over | refine kept_upd rfl ?_ | refine kept_overS (by decide) ?_)
    · have hp2 := hb2
      (try simp only [decide_eq_true_eq, decide_eq_false_iff_not, Bool.not_eq_true', Bool.not_eq_false', ne_eq, Decidable.not_not] at hp2)
      refine cd_exit ?_
      refine px_thenE ?_
      refine px_thenE ?_
      refine px_blockE ?_
      refine px_then ?_
      refine cd_sr ?_   -- 8
      refine ol_q (wn_none rfl) (op_move (v := .slice _ _ _) rfl) rfl ?_
      refine ol_q (wn_none rfl) (op_assign (v := .slice _ _ _) rfl) rfl ?_
      refine ol_nil_then ?_
      refine cd_ret ?_
      have e : kidsTo t.nodes r i = t.kids r := by rw [← kidsTo_all]; congr 1; omega
      exact px_ret1 rfl (v := .slice _ _ _) (l' := Row 30 encRoot (.slice vo (t.kids r).length vc) (t.kids r) :: TreeObj p t :: l) (congrArg (fun q => Value.slice vo (List.length q) vc) e) (fun _ s => by rw [e] at s; exact (Sat.treeMk hw rfl (((s.pull 3).pull 3).pull 3)).pull 1) ⟨vo, vc, rfl, rfl⟩
  · have hp1 := hb1
    (try simp only [decide_eq_true_eq, decide_eq_false_iff_not, Bool.not_eq_true', Bool.not_eq_false', ne_eq, Decidable.not_not] at hp1)
    have hra := TreeS.place_none (t := t) (r := r) (by omega)
    refine ol_skip (wn_some rfl rfl rfl hb1 rfl) rfl ?_
    refine ol_skip (wn_some rfl rfl rfl hb1 rfl) rfl ?_
    refine ol_skip (wn_some rfl rfl rfl hb1 rfl) rfl ?_
    refine ol_skip (wn_some rfl rfl rfl hb1 rfl) rfl ?_
    refine ol_skip (wn_some rfl rfl rfl hb1 rfl) rfl ?_
    refine ol_skip (wn_some rfl rfl rfl hb1 rfl) rfl ?_
    refine ol_skip (wn_some rfl rfl rfl hb1 rfl) rfl ?_
    refine ol_q (wn_none rfl) (op_pick_f (v := .bool _) rfl hb1 rfl) rfl ?_
    refine ol_nil_then ?_
    refine cd_cond_f rfl rfl ?_
    refine cd_exit ?_
    refine px_thenE ?_
    refine px_thenE ?_
    refine px_blockE ?_
    refine px_then ?_
    refine cd_sr ?_   -- 8
    refine ol_q (wn_none rfl) (op_move (v := .slice _ _ _) rfl) rfl ?_
    refine ol_q (wn_none rfl) (op_assign (v := .slice _ _ _) rfl) rfl ?_
    refine ol_nil_then ?_
    refine cd_ret ?_
    have e : kidsTo t.nodes r i = t.kids r := by rw [kidsTo_none hra, ← kidsTo_all, kidsTo_none hra]
    exact px_ret1 rfl (v := .slice _ _ _) (l' := Row 30 encRoot (.slice vo (t.kids r).length vc) (t.kids r) :: TreeObj p t :: l) (congrArg (fun q => Value.slice vo (List.length q) vc) e) (fun _ s => by rw [e] at s; exact (Sat.treeMk hw rfl (((s.pull 3).pull 3).pull 3)).pull 1) ⟨vo, vc, rfl, rfl⟩

set_option maxRecDepth 100000 in
set_option maxHeartbeats 1000000 in
theorem Kids_nil {w0 w : World} {l : List HProp} (r : Root) (hs : Sat w0 w (l))  :
    Calls Try.prog 26 #[.pointer none, .agg (rootC r).toArray] w (Ret w0 fun v l' => v = .slice none 0 0 ∧ l' = l) := by
  refine calls_enter Try.func26 rfl rfl rfl hs ?_
  refine cd_sr ?_   -- 0
  refine ol_i (wn_none rfl) (os_boxa rfl) rfl ?_; rintro _ _ ⟨bx1, rfl, rfl⟩
  refine ol_q (wn_none rfl) (op_assign (v := .slice _ _ _) rfl) rfl ?_
  refine ol_nil_then ?_
  refine cd_sr ?_   -- 1
  refine ol_q (wn_none rfl) (op_move (v := .pointer _) rfl) rfl ?_
  refine ol_q (wn_none rfl) (op_lda (L := rootC _) 0 ag_30 rfl rfl (rootC_take' _) (by simp [rootC_len])) rfl ?_
  refine ol_i (wn_none rfl) (os_call cb_28 rfl (fun w s => Place_nil _  s )) rfl ?_; rintro _ l ⟨rfl, rfl⟩
  refine ol_q (wn_none rfl) (op_assign (v := .int _ _) rfl) rfl ?_
  refine ol_nil_then ?_
  refine cd_sr ?_   -- 2
  refine ol_q (wn_none rfl) (op_assign (v := .slice _ _ _) rfl) rfl ?_
  refine ol_nil_then ?_
  refine cd_seq ?_
  refine cd_sr ?_   -- 3
  refine ol_q (wn_none rfl) (op_move (v := .int _ _) rfl) rfl ?_
  refine ol_q (wn_none rfl) (op_add rfl rfl (by omega) (by omega)) rfl ?_
  refine ol_q (wn_none rfl) (op_assign (v := .int _ _) rfl) rfl ?_
  refine ol_nil_then ?_
  refine cd_block ?_
  refine cd_loop2 (α := Nat) [(6, 7), (13, 46)] (fun x => [(6, .slice none 0 0), (7, .int .i64 0)]) (fun _ => _) (fun x => True) (fun x => x) 0 trivial ⟨rfl, rfl, trivial⟩ (fun _ s => s) ?_
  intro i hi f
  refine cd_seq ?_
  refine cd_sr ?_   -- 4
  refine ol_q (wn_none rfl) (op_move (v := .int _ _) rfl) rfl ?_
  refine ol_q (wn_none rfl) (op_ge rfl rfl) rfl ?_
  refine ol_q (wn_none rfl) (op_move (v := .bool _) rfl) rfl ?_
  refine ol_split 15 rfl (fun hb1 => ?_) (fun hb1 => ?_)
  · have hp1 := hb1
    (try simp only [decide_eq_true_eq, decide_eq_false_iff_not, Bool.not_eq_true', Bool.not_eq_false', ne_eq, Decidable.not_not] at hp1)
    exact absurd hb1 (by decide)
  · have hp1 := hb1
    (try simp only [decide_eq_true_eq, decide_eq_false_iff_not, Bool.not_eq_true', Bool.not_eq_false', ne_eq, Decidable.not_not] at hp1)
    refine ol_skip (wn_some rfl rfl rfl hb1 rfl) rfl ?_
    refine ol_skip (wn_some rfl rfl rfl hb1 rfl) rfl ?_
    refine ol_skip (wn_some rfl rfl rfl hb1 rfl) rfl ?_
    refine ol_skip (wn_some rfl rfl rfl hb1 rfl) rfl ?_
    refine ol_skip (wn_some rfl rfl rfl hb1 rfl) rfl ?_
    refine ol_skip (wn_some rfl rfl rfl hb1 rfl) rfl ?_
    refine ol_skip (wn_some rfl rfl rfl hb1 rfl) rfl ?_
    refine ol_q (wn_none rfl) (op_pick_f (v := .bool _) rfl hb1 rfl) rfl ?_
    refine ol_nil_then ?_
    refine cd_cond_f rfl rfl ?_
    refine cd_exit ?_
    refine px_thenE ?_
    refine px_thenE ?_
    refine px_blockE ?_
    refine px_then ?_
    refine cd_sr ?_   -- 8
    refine ol_q (wn_none rfl) (op_move (v := .slice _ _ _) rfl) rfl ?_
    refine ol_q (wn_none rfl) (op_assign (v := .slice _ _ _) rfl) rfl ?_
    refine ol_nil_then ?_
    refine cd_ret ?_
    exact px_ret1 rfl (v := .slice _ _ _) rfl (fun _ s => (s.del 0)) ⟨rfl, rfl⟩

set_option maxRecDepth 100000 in
set_option maxHeartbeats 1000000 in
theorem RKids_calls {w0 w : World} {l : List HProp} (p : Nat) (t : TreeS) (r : Root) (hs : Sat w0 w ((RTreeObj p t) :: l))  :
    Calls Try.prog 27 #[.pointer (some ⟨p, 0, none⟩), .agg (rootC r).toArray] w (Ret w0 fun v l' => ∃ ao c, v = .slice ao (t.kids r).length c ∧ l' = Row 30 encRoot (.slice ao (t.kids r).length c) (t.kids r) :: RTreeObj p t :: l) := by
  obtain ⟨a1, c1, a2, c2, a3, c3, R, Sl, Pa, hw, hR, hs⟩ := hs.rtreeOpen
  have hm1 := hw.m1; have hm2 := hw.m2; have hle := hw.le; have hne := hw.ne
  have hRl : R.length = t.nodes.length := by rw [hR.r, List.length_map]
  have hSl : Sl.length = t.nodes.length := by rw [hR.s, List.length_map]
  have hPl : Pa.length = t.nodes.length := by rw [hR.p]; unfold parR; rw [List.length_map]
  have hp1 : rplace R r = t.place r := by rw [hR.r, rplace_map]
  have hkl := kids_len t r
  refine calls_enter Try.func27 rfl rfl rfl hs ?_
  refine cd_sr ?_   -- 0
  refine ol_i (wn_none rfl) (os_boxa rfl) rfl ?_; rintro _ _ ⟨bx1, rfl, rfl⟩
  refine ol_q (wn_none rfl) (op_assign (v := .slice _ _ _) rfl) rfl ?_
  refine ol_nil_then ?_
  refine cd_sr ?_   -- 1
  refine ol_q (wn_none rfl) (op_assign (v := .slice _ _ _) rfl) rfl ?_
  refine ol_nil_then ?_
  refine cd_seq ?_
  refine cd_sr ?_   -- 2
  refine ol_q (wn_none rfl) (op_move (v := .pointer _) rfl) rfl ?_
  refine ol_q (wn_none rfl) (op_nilck rfl) rfl ?_
  refine ol_q (wn_none rfl) (op_field fld_73_2 rfl) rfl ?_
  refine ol_q (wn_none rfl) (op_ld 1 sc_45 rfl rfl rfl) rfl ?_
  refine ol_q (wn_none rfl) (op_len_slice Try.underlying45 rfl) rfl ?_
  refine ol_q (wn_none rfl) (op_move (v := .int _ _) rfl) rfl ?_
  refine ol_nil_then ?_
  refine cd_block ?_
  have hk0 : kidsTo t.nodes r 0 = [] := by unfold kidsTo; split <;> simp
  refine cd_loop2 (α := Nat × Option Addr × Nat) [(5, 7), (13, 41)] (fun x => [(5, .slice x.2.1 (kidsTo t.nodes r x.1).length x.2.2), (13, .int .i64 (x.1 : Int))]) (fun x => Row 30 encRoot (.slice x.2.1 (kidsTo t.nodes r x.1).length x.2.2) (kidsTo t.nodes r x.1) :: Blk bx1 (.cells (rootC r).toArray 30 (0, 0)) :: Blk p (.cells #[.slice a1 R.length c1, .slice a2 Sl.length c2, .slice a3 Pa.length c3, .int .i64 t.most] 73 (0, 0)) :: Row 30 encRoot (.slice a1 R.length c1) R :: Row 3 encI64 (.slice a2 Sl.length c2) Sl :: Row 30 encRoot (.slice a3 Pa.length c3) Pa :: l) (fun x => x.1 ≤ t.nodes.length) (fun x => t.nodes.length - x.1) (0, none, 0) (Nat.zero_le _) ⟨by rw [hk0]; rfl, rfl, trivial⟩ (fun _ s => by rw [hk0]; exact Sat.rowNil s) ?_
  rintro ⟨i, vo, vc⟩ hi f; (try dsimp only at hi ⊢); have hkl2 := kidsTo_len t.nodes r i
  refine cd_sr ?_   -- 3
  refine ol_q (wn_none rfl) (op_lt rfl rfl) rfl ?_
  refine ol_nil_then ?_
  refine cd_seq ?_
  refine cd_cond rfl (fun hb1 => ?_) (fun hb1 => ?_)
  · have hp1 := hb1
    (try simp only [decide_eq_true_eq, decide_eq_false_iff_not, Bool.not_eq_true', Bool.not_eq_false', ne_eq, Decidable.not_not] at hp1)
    refine cd_skip ?_
    refine px_then ?_
    refine cd_seq ?_
    refine cd_block ?_
    refine cd_sr ?_   -- 4
    refine ol_q (wn_none rfl) (op_move (v := .int _ _) rfl) rfl ?_
    refine ol_q (wn_none rfl) (op_index _ sB_45 rfl rfl rfl (rds_row 5 rfl rfl) rfl (by omega)) rfl ?_
    refine ol_q (wn_none rfl) (op_ldaw (L := rootC _) ag_30 (rds_row 5 rfl rfl) rfl (by omega) rfl (rootC_ta _)) rfl ?_
    refine ol_i (wn_none rfl) (os_alloc (cs := (rootC Root.zero).toArray) zB_30 (by kernel_rfl)) rfl ?_; rintro _ _ ⟨bx2, rfl, rfl⟩
    refine ol_q (wn_none rfl) (op_assign (v := .int _ _) rfl) rfl ?_
    refine ol_iN (wn_none rfl) (os_storera _ ag_30 rfl rfl (Free.zero _)) ?_; rintro _ _ ⟨rfl, rfl⟩
    refine ol_nil_then ?_
    refine cd_sr ?_   -- 5
    refine ol_q (wn_none rfl) (op_move (v := .int _ _) rfl) rfl ?_
    refine ol_q (wn_none rfl) (op_gt rfl rfl) rfl ?_
    refine ol_q (wn_none rfl) (op_move (v := .bool _) rfl) rfl ?_
    refine ol_split 20 rfl (fun hb2 => ?_) (fun hb2 => ?_)
    · have hp2 := hb2
      (try simp only [decide_eq_true_eq, decide_eq_false_iff_not, Bool.not_eq_true', Bool.not_eq_false', ne_eq, Decidable.not_not] at hp2)
      refine ol_q (wn_some rfl rfl rfl hb2 rfl) (op_lda (L := rootC _) 0 ag_30 rfl rfl (rootC_take' _) (by simp [rootC_len])) rfl ?_
      refine ol_q (wn_some rfl rfl rfl hb2 rfl) (op_lda (L := rootC _) 2 ag_30 rfl rfl (rootC_take' _) (by simp [rootC_len])) rfl ?_
      refine ol_q (wn_some rfl rfl rfl hb2 rfl) (op_eqroot _ _ rB_30 rfl rfl) rfl ?_
      refine ol_q (wn_none rfl) (op_pick_t (v := .bool _) rfl hb2 rfl) rfl ?_
      refine ol_q (wn_none rfl) (op_move (v := .bool _) rfl) rfl ?_
      refine ol_split 25 rfl (fun hb3 => ?_) (fun hb3 => ?_)
      · have hp3 := hb3
        (try simp only [decide_eq_true_eq, decide_eq_false_iff_not, Bool.not_eq_true', Bool.not_eq_false', ne_eq, Decidable.not_not] at hp3)
        have hpe := of_decide_eq_true hb3
        refine ol_q (wn_some rfl rfl rfl hb3 rfl) (op_move (v := .pointer _) rfl) rfl ?_
        refine ol_q (wn_some rfl rfl rfl hb3 rfl) (op_lda (L := rootC _) 2 ag_30 rfl rfl (rootC_take' _) (by simp [rootC_len])) rfl ?_
        refine ol_pull4 ?_
        refine ol_pull4 ?_
        refine ol_i (wn_some rfl rfl rfl hb3 rfl) (os_call cb_47 rfl (fun w s => RPlaceO_calls _ _ _ _ _ _ _ _  s )) rfl ?_; rintro _ _ ⟨rfl, rfl⟩; simp only [hp1]
        refine ol_q (wn_some rfl rfl rfl hb3 rfl) (op_ge rfl rfl) rfl ?_
        refine ol_q (wn_none rfl) (op_pick_t (v := .bool _) rfl hb3 rfl) rfl ?_
        refine ol_nil_then ?_
        refine cd_cond rfl (fun hb4 => ?_) (fun hb4 => ?_)
        · have hp4 := hb4
          (try simp only [decide_eq_true_eq, decide_eq_false_iff_not, Bool.not_eq_true', Bool.not_eq_false', ne_eq, Decidable.not_not] at hp4)
          refine cd_region ?_   -- 6
          refine ol_q (wn_none rfl) (op_move (v := .slice _ _ _) rfl) rfl ?_
          refine ol_q (wn_none rfl) (op_move (v := .pointer _) rfl) rfl ?_
          refine ol_q (wn_none rfl) (op_nilck rfl) rfl ?_
          refine ol_q (wn_none rfl) (op_field fld_73_0 rfl) rfl ?_
          refine ol_q (wn_none rfl) (op_ld 0 sc_45 rfl rfl rfl) rfl ?_
          refine ol_q (wn_none rfl) (op_move (v := .int _ _) rfl) rfl ?_
          refine ol_q (wn_none rfl) (op_index i sB_45 rfl rfl rfl (rds_row 1 rfl rfl) rfl (by omega)) rfl ?_
          refine ol_q (wn_none rfl) (op_ldaw (L := rootC _) ag_30 (rds_row 1 rfl rfl) rfl (by omega) rfl (rootC_ta _)) rfl ?_
          refine ol_i (wn_none rfl) (os_bslice (E := encRoot) [_] (ys := [_]) sB_45 zv_30 rfl rfl rfl rfl (by decide)) rfl ?_; rintro _ _ ⟨ao1, rfl, rfl⟩
          refine ol_pull4 ?_
          refine ol_i (wn_none rfl) (os_append (E := encRoot) rfl sB_45 zv_30 rfl rfl rfl (fun w s => (rds_row 1 rfl rfl) [] w s) rfl (by simp; omega) (by unfold maxLen; simp; omega)) rfl ?_; rintro _ _ ⟨ao2, ac2, rfl, rfl⟩
          refine ol_q (wn_none rfl) (op_assign (v := .slice _ _ _) rfl) rfl ?_
          refine ol_nil ?_
          refine px_blockN ?_
          refine px_then ?_
          refine cd_region ?_   -- 7
          refine ol_q (wn_none rfl) (op_add rfl rfl (by omega) (by omega)) rfl ?_
          refine ol_q (wn_none rfl) (op_move (v := .int _ _) rfl) rfl ?_
          refine ol_nil ?_
          obtain ⟨a0, hra, _⟩ := TreeS.place_some (t := t) (r := r) (by omega)
          have hpk := (par_kid hw (r := r) (i := i) (by omega) (by omega) (by rw [← hR.p]; omega) a0 hra).1 (by simp only [hR.p] at hpe; exact hpe)
          have hRi : R[i] = t.nodes[i].root := by simp only [hR.r, List.getElem_map]
          have e1 : kidsTo t.nodes r (i + 1) = kidsTo t.nodes r i ++ [R[i]] := by rw [kidsTo_succ hra (by omega), if_pos hpk, hRi]
          refine px_loop2 (i + 1, ao2, ac2) (by dsimp only; omega) (by (try dsimp only); omega) ⟨congrArg (fun q => Value.slice ao2 (List.length q) ac2) e1.symm, congrArg (Value.int .i64) (by simp), trivial⟩ ?_ (fun _ s => (by rw [e1]; exact ((((((((s.del 4).del 1).pull 5).pull 5).pull 4).pull 4).pull 5).pull 5)))
          repeat (first | exact kept_over | refine kept_upd rfl ?_ | refine kept_overS (by decide) ?_)
        · have hp4 := hb4
          (try simp only [decide_eq_true_eq, decide_eq_false_iff_not, Bool.not_eq_true', Bool.not_eq_false', ne_eq, Decidable.not_not] at hp4)
          refine cd_skip ?_
          refine px_blockN ?_
          refine px_then ?_
          refine cd_region ?_   -- 7
          refine ol_q (wn_none rfl) (op_add rfl rfl (by omega) (by omega)) rfl ?_
          refine ol_q (wn_none rfl) (op_move (v := .int _ _) rfl) rfl ?_
          refine ol_nil ?_
          have e1 : kidsTo t.nodes r (i + 1) = kidsTo t.nodes r i := by
            cases hra : idxOf t.nodes r with
            | none => rw [kidsTo_none hra, kidsTo_none hra]
            | some a0 => exact absurd (TreeS.place_iff.2 (by rw [hra]; rfl)) (by omega)
          refine px_loop2 (i + 1, vo, vc) (by dsimp only; omega) (by (try dsimp only); omega) ⟨congrArg (fun q => Value.slice vo (List.length q) vc) e1.symm, congrArg (Value.int .i64) (by simp), trivial⟩ ?_ (fun _ s => (by rw [e1]; exact (((((((s.del 2).pull 5).pull 5).pull 3).pull 3).pull 5).pull 5)))
          repeat (first | exact kept_over | refine kept_upd rfl ?_ | refine kept_overS (by decide) ?_)
      · have hp3 := hb3
        (try simp only [decide_eq_true_eq, decide_eq_false_iff_not, Bool.not_eq_true', Bool.not_eq_false', ne_eq, Decidable.not_not] at hp3)
        have hpe := of_decide_eq_false hb3
        refine ol_skip (wn_some rfl rfl rfl hb3 rfl) rfl ?_
        refine ol_skip (wn_some rfl rfl rfl hb3 rfl) rfl ?_
        refine ol_skip (wn_some rfl rfl rfl hb3 rfl) rfl ?_
        refine ol_skip (wn_some rfl rfl rfl hb3 rfl) rfl ?_
        refine ol_q (wn_none rfl) (op_pick_f (v := .bool _) rfl hb3 rfl) rfl ?_
        refine ol_nil_then ?_
        refine cd_cond_f rfl rfl ?_
        refine cd_skip ?_
        refine px_blockN ?_
        refine px_then ?_
        refine cd_region ?_   -- 7
        refine ol_q (wn_none rfl) (op_add rfl rfl (by omega) (by omega)) rfl ?_
        refine ol_q (wn_none rfl) (op_move (v := .int _ _) rfl) rfl ?_
        refine ol_nil ?_
        have e1 : kidsTo t.nodes r (i + 1) = kidsTo t.nodes r i := by
          cases hra : idxOf t.nodes r with
          | none => rw [kidsTo_none hra, kidsTo_none hra]
          | some a0 => rw [kidsTo_succ hra (by omega), if_neg fun h => hpe (by simp only [hR.p]; exact (par_kid hw (r := r) (i := i) (by omega) (by omega) (by rw [← hR.p]; omega) a0 hra).2 h)]
        refine px_loop2 (i + 1, vo, vc) (by dsimp only; omega) (by (try dsimp only); omega) ⟨congrArg (fun q => Value.slice vo (List.length q) vc) e1.symm, congrArg (Value.int .i64) (by simp), trivial⟩ ?_ (fun _ s => (by rw [e1]; exact (s.del 0)))
        repeat (first | exact kept_over | refine kept_upd rfl ?_ | refine kept_overS (by decide) ?_)
    · have hp2 := hb2
      (try simp only [decide_eq_true_eq, decide_eq_false_iff_not, Bool.not_eq_true', Bool.not_eq_false', ne_eq, Decidable.not_not] at hp2)
      refine ol_skip (wn_some rfl rfl rfl hb2 rfl) rfl ?_
      refine ol_skip (wn_some rfl rfl rfl hb2 rfl) rfl ?_
      refine ol_skip (wn_some rfl rfl rfl hb2 rfl) rfl ?_
      refine ol_q (wn_none rfl) (op_pick_f (v := .bool _) rfl hb2 rfl) rfl ?_
      refine ol_q (wn_none rfl) (op_move (v := .bool _) rfl) rfl ?_
      refine ol_skip (wn_some rfl rfl rfl rfl rfl) rfl ?_
      refine ol_skip (wn_some rfl rfl rfl rfl rfl) rfl ?_
      refine ol_skip (wn_some rfl rfl rfl rfl rfl) rfl ?_
      refine ol_skip (wn_some rfl rfl rfl rfl rfl) rfl ?_
      refine ol_q (wn_none rfl) (op_pick_f (v := .bool _) rfl rfl rfl) rfl ?_
      refine ol_nil_then ?_
      refine cd_cond_f rfl rfl ?_
      refine cd_skip ?_
      refine px_blockN ?_
      refine px_then ?_
      refine cd_region ?_   -- 7
      refine ol_q (wn_none rfl) (op_add rfl rfl (by omega) (by omega)) rfl ?_
      refine ol_q (wn_none rfl) (op_move (v := .int _ _) rfl) rfl ?_
      refine ol_nil ?_
      have e1 : kidsTo t.nodes r (i + 1) = kidsTo t.nodes r i := by
        cases hra : idxOf t.nodes r with
        | none => rw [kidsTo_none hra, kidsTo_none hra]
        | some a0 => rw [kidsTo_low hw.pa hra (by omega), kidsTo_low hw.pa hra (by omega)]
      refine px_loop2 (i + 1, vo, vc) (by dsimp only; omega) (by (try dsimp only); omega) ⟨congrArg (fun q => Value.slice vo (List.length q) vc) e1.symm, congrArg (Value.int .i64) (by simp), trivial⟩ ?_ (fun _ s => (by rw [e1]; exact (s.del 0)))
      repeat (first | exact kept_over | refine kept_upd rfl ?_ | refine kept_overS (by decide) ?_)
  · have hp1 := hb1
    (try simp only [decide_eq_true_eq, decide_eq_false_iff_not, Bool.not_eq_true', Bool.not_eq_false', ne_eq, Decidable.not_not] at hp1)
    refine cd_exit ?_
    refine px_thenE ?_
    refine px_thenE ?_
    refine px_blockE ?_
    refine px_then ?_
    refine cd_sr ?_   -- 8
    refine ol_q (wn_none rfl) (op_move (v := .slice _ _ _) rfl) rfl ?_
    refine ol_q (wn_none rfl) (op_assign (v := .slice _ _ _) rfl) rfl ?_
    refine ol_nil_then ?_
    refine cd_ret ?_
    have e : kidsTo t.nodes r i = t.kids r := by rw [← kidsTo_all]; congr 1; omega
    exact px_ret1 rfl (v := .slice _ _ _) (l' := Row 30 encRoot (.slice vo (t.kids r).length vc) (t.kids r) :: RTreeObj p t :: l) (congrArg (fun q => Value.slice vo (List.length q) vc) e) (fun _ s => by rw [e] at s; exact (Sat.rtreeMk hw hR rfl rfl rfl (((((s.del 1).pull 4).pull 4).pull 4).pull 4)).pull 1) ⟨vo, vc, rfl, rfl⟩
end Go.SL

import Derived.Test.YtdeemlgkckpedaaWeiR2
set_option linter.unusedVariables false
set_option linter.unusedSimpArgs false
namespace Go.SL
open Go.Proofs

set_option maxRecDepth 100000 in
set_option maxHeartbeats 1000000 in
theorem RBestW_calls {w0 w : World} {l : List HProp} (pm pr : Nat) (t : TreeS) (o : List Int) (r : Root) (hs : Sat w0 w ((RTreeObj pr t) :: (RWObj pm pr o) :: l)) (h1 : o.length ≤ t.nodes.length) (hok : OwnOK o) :
  Calls Try.prog 56 #[.pointer (some ⟨pm, 0, none⟩), .agg (rootC r).toArray] w (Ret w0 fun v l' => v = .tuple #[.agg (rootC (bestR t o r).1).toArray, .bool (bestR t o r).2] ∧ l' = RTreeObj pr t :: RWObj pm pr o :: l) := by
 have hne := hs.rtreeWF.ne
 obtain ⟨a1, c1, a2, c2, a3, c3, R, Sl, Pa, hw, hR, hs⟩ := hs.rtreeOpen
 obtain ⟨a4, c4, hs⟩ := (hs.pull 4).rwOpen
 have hle := hw.le; have hm2 := hw.m2; have hpa := hw.pa; have hnd := hw.nd
 have hRl : R.length = t.nodes.length := by rw [hR.r, List.length_map]
 have hSl : Sl.length = t.nodes.length := by rw [hR.s, List.length_map]
 have hPl : Pa.length = t.nodes.length := by rw [hR.p]; unfold parR; rw [List.length_map]
 have hpl : ∀ r, rplace R r = t.place r := fun r => by rw [hR.r, rplace_map]
 have hrp := ofF_rpl (t := t) (n := o.length) (f := (fun i => bestN t.nodes (oA (sumL t.nodes o)) o.length i + 1)) (r := r)
 have hRr : ∀ q (h : q < R.length), R[q] = rtA t.nodes q := fun q h => by simp only [hR.r, List.getElem_map]; exact (rtA_get (by omega)).symm
 refine calls_enter Try.func56 rfl rfl rfl hs ?_
 refine cd_sr ?_
 refine oi (os_boxa rfl) ?_; rintro _ _ ⟨bx1, rfl, rfl⟩
 refine oi (os_alloc (cs := (rootC Root.zero).toArray) zB_24 (by kernel_rfl)) ?_; rintro _ _ ⟨bx2, rfl, rfl⟩
 refine oq (op_assign (v := .bool _) rfl) ?_
 refine ol_nil_then ?_
 refine cd_sr ?_
 refine oq (op_move (v := .pointer _) rfl) ?_
 refine oq (op_lda (L := rootC _) 1 ag_24 rfl rfl (rootC_take' _) (by simp [rootC_len])) ?_
 refine ol_pull3 ?_
 refine ol_pull3 ?_
 refine ol_pull7 ?_
 refine ol_pull7 ?_
 refine ol_pull7 ?_
 refine ol_pull7 ?_
 refine oi (os_call cb_59 rfl (fun w s => RplW_calls _ _ _ _ _ _ _ _ _ _ _ _ _ _ _ _  s (by assumption) (by assumption) (by assumption))) ?_; rintro _ _ ⟨rfl, rfl⟩
 refine oq (op_assign (v := .int _ _) rfl) ?_
 refine ol_nil_then ?_
 refine cd_sr ?_
 refine oq (op_assign (v := .int _ _) rfl) ?_
 refine ol_nil_then ?_
 refine cd_seq ?_
 refine cd_sr ?_
 refine oq (op_move (v := .int _ _) rfl) ?_
 refine oq (op_lt rfl rfl) ?_
 refine ol_nil_then ?_
 refine cd_cond rfl (fun hb1 => ?_) (fun hb1 => ?_)
 ·have hp1 := hb1
  (try simp only [bn] at hp1)
  refine cd_sr ?_
  refine oq (op_buildr rfl rB_24 zBr_24) ?_
  refine ol_pull6 ?_
  refine oN (os_storera _ ag_24 rfl rfl (Free.zero _)) ?_; rintro _ _ ⟨rfl, rfl⟩
  refine oq (op_assign (v := .bool _) rfl) ?_
  refine ol_nil_then ?_
  refine cd_ret ?_
  refine px_thenR ?_
  have hR0 : bestR t o r = (Root.zero, false) := bestR_no (by unfold bestI; rcases hrp with ⟨_, h⟩ | ⟨q, h, _⟩ <;> omega)
  exact px_rv2 rfl (rv_cella 0 ag_24 rfl rfl (rootC_take' _) (by simp [rootC_len])) (rv_tmp (v := .bool _) rfl) (l' := RTreeObj pr t :: RWObj pm pr o :: l) (fun _ s => (by
   have s2 : Sat _ _ (RWObj pm pr o :: Blk pr (.cells #[.slice a1 R.length c1, .slice a2 Sl.length c2, .slice a3 Pa.length c3, .int .i64 t.most] 44 (0, 0)) :: Row 24 encRoot (.slice a1 R.length c1) R :: Row 3 encI64 (.slice a2 Sl.length c2) Sl :: Row 24 encRoot (.slice a3 Pa.length c3) Pa :: l) := Sat.rwMk rfl rfl ((((((((s.del 7).del 0).pull 3).pull 3).pull 3).pull 3).pull 5).pull 5)
   have s3 : Sat _ _ (Blk pr (.cells #[.slice a1 R.length c1, .slice a2 Sl.length c2, .slice a3 Pa.length c3, .int .i64 t.most] 44 (0, 0)) :: Row 24 encRoot (.slice a1 R.length c1) R :: Row 3 encI64 (.slice a2 Sl.length c2) Sl :: Row 24 encRoot (.slice a3 Pa.length c3) Pa :: RWObj pm pr o :: l) := (((s2.pull 4).pull 4).pull 4).pull 4
   exact Sat.rtreeMk hw hR rfl rfl rfl s3)) ⟨by rw [hR0] <;> rfl, rfl⟩
 ·have hp1 := hb1
  (try simp only [bn] at hp1)
  obtain ⟨i, hri, hin, hof⟩ : ∃ i : Nat, rplW t o.length r = i ∧ i < o.length ∧ ofF t o.length (fun i => bestN t.nodes (oA (sumL t.nodes o)) o.length i + 1) r = (fun i => bestN t.nodes (oA (sumL t.nodes o)) o.length i + 1) i := by
   rcases hrp with ⟨h, _⟩ | h
   ·omega
   ·exact h
  rw [hri]
  have hbc : bestN t.nodes (oA (sumL t.nodes o)) o.length i = bestF t.nodes (sumN t.nodes o) (kidsI t.nodes o.length i) := bestN_congr fun k hk => sumL_at hk
  have hkl := kidsI_len t.nodes o.length i
  refine cd_skip ?_
  refine px_then ?_
  refine cd_seq ?_
  refine cd_sr ?_
  refine oq (op_move (v := .pointer _) rfl) ?_
  refine oq (op_move (v := .int _ _) rfl) ?_
  refine ol_pull5 ?_
  refine ol_pull5 ?_
  refine ol_pull5 ?_
  refine ol_pull5 ?_
  refine ol_pull5 ?_
  refine ol_pull5 ?_
  refine oi (os_call cb_80 rfl (fun w s => RKidsW_calls _ _ _ _ _ _ _ _ _ _ _ _ _ _ _ _  s (by assumption) (by assumption) (by assumption) (by omega))) ?_; rintro _ _ ⟨ka2, kc2, rfl, rfl⟩
  refine oq (op_len_slice Try.underlying42 rfl) ?_
  refine oq (op_move (v := .int _ _) rfl) ?_
  refine ol_nil_then ?_
  refine cd_block ?_
  refine cd_loop2 (α := Nat) [(7, 7), (9, 9), (20, 68)] (fun x => [(7, .int .i64 (bestF t.nodes (sumN t.nodes o) ((kidsI t.nodes o.length i).take x))), (20, .int .i64 (x : Int))]) (fun _ => _) (fun x => x ≤ (castL (kidsI t.nodes o.length i)).length) (fun x => (castL (kidsI t.nodes o.length i)).length - x) 0 (Nat.zero_le _) ⟨rfl, rfl, trivial⟩ (fun _ s => s) ?_
  rintro j hj f; (try dsimp only at hj ⊢)
  refine cd_sr ?_
  refine oq (op_lt rfl rfl) ?_
  refine ol_nil_then ?_
  refine cd_seq ?_
  refine cd_cond rfl (fun hb2 => ?_) (fun hb2 => ?_)
  ·have hp2 := hb2
   (try simp only [bn] at hp2)
   have hj1 : j < (kidsI t.nodes o.length i).length := by rw [castL_len] at hp2; omega
   have hkg := kidsI_gt hpa (n := o.length) h1 (List.getElem_mem hj1)
   have hbi := bestF_is hnd (sumN t.nodes o) ((kidsI t.nodes o.length i).take j) (fun k hk => by have := kidsI_gt hpa (n := o.length) h1 (List.mem_of_mem_take hk); omega)
   have hsn := bestF_snoc t.nodes (sumN t.nodes o) ((kidsI t.nodes o.length i).take j) (kidsI t.nodes o.length i)[j]
   rw [← List.take_succ_eq_append_getElem hj1] at hsn
   refine cd_skip ?_
   refine px_then ?_
   refine cd_seq ?_
   refine cd_block ?_
   refine cd_sr ?_
   refine oq (op_index j sB_42 rfl rfl rfl (rds_row 0 rfl rfl) rfl (by rw [castL_len]; omega)) ?_
   refine oq (op_ldw sc_3 (rds_row 0 rfl rfl) rfl (by rw [castL_len]; omega) rfl) ?_
   refine oq (op_assign (v := .int _ _) rfl) ?_
   refine ol_nil_then ?_
   rw [castL_get (by rw [castL_len]; omega) hj1]
   refine cd_seq ?_
   refine cd_drawe (M := []) mx [5, 8, 14, 17, 40] ?_
   refine e_q 0 rfl (wn_none rfl) (op_move (v := .int _ _) rfl) ?_
   refine e_q 1 rfl (wn_none rfl) (op_lt rfl rfl) ?_
   refine e_q 2 rfl (wn_none rfl) (op_move (v := .bool _) rfl) ?_
   refine et_split 26 rfl (fun hb3 => ?_) (fun hb3 => ?_)
   ·have hp3 := hb3
    (try simp only [bn] at hp3)
    have hah : aheadN t.nodes (sumN t.nodes o) (kidsI t.nodes o.length i)[j] (bestF t.nodes (sumN t.nodes o) ((kidsI t.nodes o.length i).take j)) = true := by unfold aheadN; rw [decide_eq_true (show (bestF t.nodes (sumN t.nodes o) ((kidsI t.nodes o.length i).take j)) < 0 by omega)]; rfl
    refine et_skip 3 (by kernel_rfl) rfl (by kernel_rfl) (wn_some rfl rfl rfl hb3 rfl) rfl ?_
    refine et_skip 4 (by kernel_rfl) rfl (by kernel_rfl) (wn_some rfl rfl rfl hb3 rfl) rfl ?_
    refine et_skip 6 (by kernel_rfl) rfl (by kernel_rfl) (wn_some rfl rfl rfl hb3 rfl) rfl ?_
    refine et_skip 7 (by kernel_rfl) rfl (by kernel_rfl) (wn_some rfl rfl rfl hb3 rfl) rfl ?_
    refine et_1 (i := 5) (by kernel_rfl) ?_
    refine ei_skip rfl (wn_some rfl rfl rfl hb3 rfl) rfl ?_
    refine et_1 (i := 8) (by kernel_rfl) ?_
    refine ei_skip rfl (wn_some rfl rfl rfl hb3 rfl) rfl ?_
    refine et_skip 9 (by kernel_rfl) rfl (by kernel_rfl) (wn_some rfl rfl rfl hb3 rfl) rfl ?_
    refine e_q 10 rfl (wn_none rfl) (op_pick_t (v := .bool _) rfl hb3 rfl) ?_
    refine e_q 11 rfl (wn_none rfl) (op_move (v := .bool _) rfl) ?_
    refine et_skip 12 (by kernel_rfl) rfl (by kernel_rfl) (wn_some rfl rfl rfl rfl rfl) rfl ?_
    refine et_skip 13 (by kernel_rfl) rfl (by kernel_rfl) (wn_some rfl rfl rfl rfl rfl) rfl ?_
    refine et_skip 15 (by kernel_rfl) rfl (by kernel_rfl) (wn_some rfl rfl rfl rfl rfl) rfl ?_
    refine et_skip 16 (by kernel_rfl) rfl (by kernel_rfl) (wn_some rfl rfl rfl rfl rfl) rfl ?_
    refine et_1 (i := 14) (by kernel_rfl) ?_
    refine ei_skip rfl (wn_some rfl rfl rfl rfl rfl) rfl ?_
    refine et_1 (i := 17) (by kernel_rfl) ?_
    refine ei_skip rfl (wn_some rfl rfl rfl rfl rfl) rfl ?_
    refine et_skip 18 (by kernel_rfl) rfl (by kernel_rfl) (wn_some rfl rfl rfl rfl rfl) rfl ?_
    refine et_skip 19 (by kernel_rfl) rfl (by kernel_rfl) (wn_some rfl rfl rfl rfl rfl) rfl ?_
    refine et_skip 20 (by kernel_rfl) rfl (by kernel_rfl) (wn_undef rfl rfl rfl rfl) rfl ?_
    refine et_skip 21 (by kernel_rfl) rfl (by kernel_rfl) (wn_undef rfl rfl rfl rfl) rfl ?_
    refine et_skip 22 (by kernel_rfl) rfl (by kernel_rfl) (wn_undef rfl rfl rfl rfl) rfl ?_
    refine et_skip 23 (by kernel_rfl) rfl (by kernel_rfl) (wn_undef rfl rfl rfl rfl) rfl ?_
    refine et_skip 24 (by kernel_rfl) rfl (by kernel_rfl) (wn_undef rfl rfl rfl rfl) rfl ?_
    refine et_skip 25 (by kernel_rfl) rfl (by kernel_rfl) (wn_undef rfl rfl rfl rfl) rfl ?_
    refine et_skip 26 (by kernel_rfl) rfl (by kernel_rfl) (wn_undef rfl rfl rfl rfl) rfl ?_
    refine et_skip 27 (by kernel_rfl) rfl (by kernel_rfl) (wn_undef rfl rfl rfl rfl) rfl ?_
    refine et_skip 28 (by kernel_rfl) rfl (by kernel_rfl) (wn_undef rfl rfl rfl rfl) rfl ?_
    refine et_skip 29 (by kernel_rfl) rfl (by kernel_rfl) (wn_undef rfl rfl rfl rfl) rfl ?_
    refine et_skip 30 (by kernel_rfl) rfl (by kernel_rfl) (wn_undef rfl rfl rfl rfl) rfl ?_
    refine et_skip 31 (by kernel_rfl) rfl (by kernel_rfl) (wn_undef rfl rfl rfl rfl) rfl ?_
    refine et_skip 32 (by kernel_rfl) rfl (by kernel_rfl) (wn_undef rfl rfl rfl rfl) rfl ?_
    refine et_skip 33 (by kernel_rfl) rfl (by kernel_rfl) (wn_undef rfl rfl rfl rfl) rfl ?_
    refine et_skip 34 (by kernel_rfl) rfl (by kernel_rfl) (wn_undef rfl rfl rfl rfl) rfl ?_
    refine et_skip 35 (by kernel_rfl) rfl (by kernel_rfl) (wn_undef rfl rfl rfl rfl) rfl ?_
    refine et_skip 36 (by kernel_rfl) rfl (by kernel_rfl) (wn_undef rfl rfl rfl rfl) rfl ?_
    refine et_skip 37 (by kernel_rfl) rfl (by kernel_rfl) (wn_undef rfl rfl rfl rfl) rfl ?_
    refine et_skip 38 (by kernel_rfl) rfl (by kernel_rfl) (wn_undef rfl rfl rfl rfl) rfl ?_
    refine et_skip 39 (by kernel_rfl) rfl (by kernel_rfl) (wn_undef rfl rfl rfl rfl) rfl ?_
    refine et_1 (i := 40) (by kernel_rfl) ?_
    refine ei_skip rfl (wn_undef rfl rfl rfl rfl) rfl ?_
    refine et_skip 41 (by kernel_rfl) rfl (by kernel_rfl) (wn_some rfl rfl rfl rfl rfl) rfl ?_
    refine e_q 42 rfl (wn_none rfl) (op_pick_t (v := .bool _) rfl rfl rfl) ?_
    refine et_nil_then (by kernel_rfl) ?_
    refine cd_cond_t rfl rfl ?_
    refine cd_region ?_
    refine oq (op_move (v := .int _ _) rfl) ?_
    refine oq (op_assign (v := .int _ _) rfl) ?_
    refine ol_nil ?_
    refine px_blockN ?_
    refine px_then ?_
    refine cd_region ?_
    refine oq (op_add rfl rfl (by omega) (by omega)) ?_
    refine oq (op_move (v := .int _ _) rfl) ?_
    refine ol_nil ?_
    rw [hah] at hsn
    have eB : (bestF t.nodes (sumN t.nodes o) ((kidsI t.nodes o.length i).take (j + 1))) = (((kidsI t.nodes o.length i)[j] : Nat) : Int) := by rw [hsn]; rfl
    refine px_loop2 (j + 1) (by rw [castL_len]; omega) (by (try dsimp only); rw [castL_len]; omega) ⟨congrArg (Value.int .i64) eB.symm, congrArg (Value.int .i64) (by simp), trivial⟩ ?_ (fun _ s => s)
    repeat (first | exact kept_over | refine kept_upd rfl ?_ | refine kept_overS (by decide) ?_)
   ·have hp3 := hb3
    (try simp only [bn] at hp3)
    obtain ⟨b0, hb0, hb1⟩ : ∃ b0 : Nat, (bestF t.nodes (sumN t.nodes o) ((kidsI t.nodes o.length i).take j)) = b0 ∧ b0 < o.length := by
     rcases hbi with ⟨_, h⟩ | ⟨k, h, h2, _⟩
     ·omega
     ·exact ⟨k, h, (kidsI_gt hpa (n := o.length) h1 (List.mem_of_mem_take h2)).2⟩
    rw [hb0] at hb3 ⊢
    refine e_q 3 rfl (wn_some rfl rfl rfl hb3 rfl) (op_move (v := .pointer _) rfl) ?_
    refine e_q 4 rfl (wn_some rfl rfl rfl hb3 rfl) (op_move (v := .int _ _) rfl) ?_
    refine e_q 6 rfl (wn_some rfl rfl rfl hb3 rfl) (op_move (v := .pointer _) rfl) ?_
    refine e_q 7 rfl (wn_some rfl rfl rfl hb3 rfl) (op_move (v := .int _ _) rfl) ?_
    refine et_1 (i := 5) (by kernel_rfl) ?_
    refine ei_i rfl rfl (wn_some rfl rfl rfl hb3 rfl) (os_back (os_pull6 (os_pull6 (os_pull6 (os_pull6 (os_pull6 (os_pull6 (os_call cb_81 rfl (fun w s => RSum_calls _ _ _ _ _ _ _ _ _ _ _ _ _ _ _ _ _  s (by assumption) (by assumption) (by assumption) (by assumption) rfl (by omega))))))))) (fun _ s => (((((((((s.pull 8).pull 8).pull 7).pull 7).pull 7).pull 7).pull 7).pull 7).pull 8))) rfl ?_; rintro _ _ ⟨rfl, rfl⟩; refine ⟨[], rfl, ?_⟩
    refine et_1 (i := 8) (by kernel_rfl) ?_
    refine ei_i rfl rfl (wn_some rfl rfl rfl hb3 rfl) (os_back (os_pull6 (os_pull6 (os_pull6 (os_pull6 (os_pull6 (os_pull6 (os_call cb_81 rfl (fun w s => RSum_calls _ _ _ _ _ _ _ _ _ _ _ _ _ _ _ _ _  s (by assumption) (by assumption) (by assumption) (by assumption) rfl (by omega))))))))) (fun _ s => (((((((((s.pull 8).pull 8).pull 7).pull 7).pull 7).pull 7).pull 7).pull 7).pull 8))) rfl ?_; rintro _ _ ⟨rfl, rfl⟩; refine ⟨[], rfl, ?_⟩
    refine e_q 9 rfl (wn_some rfl rfl rfl hb3 rfl) (op_gt rfl rfl) ?_
    refine e_q 10 rfl (wn_none rfl) (op_pick_f (v := .bool _) rfl hb3 rfl) ?_
    refine e_q 11 rfl (wn_none rfl) (op_move (v := .bool _) rfl) ?_
    refine et_split 35 rfl (fun hb4 => ?_) (fun hb4 => ?_)
    ·have hp4 := hb4
     (try simp only [bn] at hp4)
     have hah : aheadN t.nodes (sumN t.nodes o) (kidsI t.nodes o.length i)[j] (bestF t.nodes (sumN t.nodes o) ((kidsI t.nodes o.length i).take j)) = true := by rw [hb0]; unfold aheadN beats; rw [Int.toNat_natCast, decide_eq_true (show sumN t.nodes o b0 < sumN t.nodes o (kidsI t.nodes o.length i)[j] by omega), Bool.true_or, Bool.or_true]
     refine et_skip 12 (by kernel_rfl) rfl (by kernel_rfl) (wn_some rfl rfl rfl hb4 rfl) rfl ?_
     refine et_skip 13 (by kernel_rfl) rfl (by kernel_rfl) (wn_some rfl rfl rfl hb4 rfl) rfl ?_
     refine et_skip 15 (by kernel_rfl) rfl (by kernel_rfl) (wn_some rfl rfl rfl hb4 rfl) rfl ?_
     refine et_skip 16 (by kernel_rfl) rfl (by kernel_rfl) (wn_some rfl rfl rfl hb4 rfl) rfl ?_
     refine et_1 (i := 14) (by kernel_rfl) ?_
     refine ei_skip rfl (wn_some rfl rfl rfl hb4 rfl) rfl ?_
     refine et_1 (i := 17) (by kernel_rfl) ?_
     refine ei_skip rfl (wn_some rfl rfl rfl hb4 rfl) rfl ?_
     refine et_skip 18 (by kernel_rfl) rfl (by kernel_rfl) (wn_some rfl rfl rfl hb4 rfl) rfl ?_
     refine et_skip 19 (by kernel_rfl) rfl (by kernel_rfl) (wn_some rfl rfl rfl hb4 rfl) rfl ?_
     refine et_skip 20 (by kernel_rfl) rfl (by kernel_rfl) (wn_undef rfl rfl rfl rfl) rfl ?_
     refine et_skip 21 (by kernel_rfl) rfl (by kernel_rfl) (wn_undef rfl rfl rfl rfl) rfl ?_
     refine et_skip 22 (by kernel_rfl) rfl (by kernel_rfl) (wn_undef rfl rfl rfl rfl) rfl ?_
     refine et_skip 23 (by kernel_rfl) rfl (by kernel_rfl) (wn_undef rfl rfl rfl rfl) rfl ?_
     refine et_skip 24 (by kernel_rfl) rfl (by kernel_rfl) (wn_undef rfl rfl rfl rfl) rfl ?_
     refine et_skip 25 (by kernel_rfl) rfl (by kernel_rfl) (wn_undef rfl rfl rfl rfl) rfl ?_
     refine et_skip 26 (by kernel_rfl) rfl (by kernel_rfl) (wn_undef rfl rfl rfl rfl) rfl ?_
     refine et_skip 27 (by kernel_rfl) rfl (by kernel_rfl) (wn_undef rfl rfl rfl rfl) rfl ?_
     refine et_skip 28 (by kernel_rfl) rfl (by kernel_rfl) (wn_undef rfl rfl rfl rfl) rfl ?_
     refine et_skip 29 (by kernel_rfl) rfl (by kernel_rfl) (wn_undef rfl rfl rfl rfl) rfl ?_
     refine et_skip 30 (by kernel_rfl) rfl (by kernel_rfl) (wn_undef rfl rfl rfl rfl) rfl ?_
     refine et_skip 31 (by kernel_rfl) rfl (by kernel_rfl) (wn_undef rfl rfl rfl rfl) rfl ?_
     refine et_skip 32 (by kernel_rfl) rfl (by kernel_rfl) (wn_undef rfl rfl rfl rfl) rfl ?_
     refine et_skip 33 (by kernel_rfl) rfl (by kernel_rfl) (wn_undef rfl rfl rfl rfl) rfl ?_
     refine et_skip 34 (by kernel_rfl) rfl (by kernel_rfl) (wn_undef rfl rfl rfl rfl) rfl ?_
     refine et_skip 35 (by kernel_rfl) rfl (by kernel_rfl) (wn_undef rfl rfl rfl rfl) rfl ?_
     refine et_skip 36 (by kernel_rfl) rfl (by kernel_rfl) (wn_undef rfl rfl rfl rfl) rfl ?_
     refine et_skip 37 (by kernel_rfl) rfl (by kernel_rfl) (wn_undef rfl rfl rfl rfl) rfl ?_
     refine et_skip 38 (by kernel_rfl) rfl (by kernel_rfl) (wn_undef rfl rfl rfl rfl) rfl ?_
     refine et_skip 39 (by kernel_rfl) rfl (by kernel_rfl) (wn_undef rfl rfl rfl rfl) rfl ?_
     refine et_1 (i := 40) (by kernel_rfl) ?_
     refine ei_skip rfl (wn_undef rfl rfl rfl rfl) rfl ?_
     refine et_skip 41 (by kernel_rfl) rfl (by kernel_rfl) (wn_some rfl rfl rfl hb4 rfl) rfl ?_
     refine e_q 42 rfl (wn_none rfl) (op_pick_t (v := .bool _) rfl hb4 rfl) ?_
     refine et_nil_then (by kernel_rfl) ?_
     refine cd_cond_t rfl rfl ?_
     refine cd_region ?_
     refine oq (op_move (v := .int _ _) rfl) ?_
     refine oq (op_assign (v := .int _ _) rfl) ?_
     refine ol_nil ?_
     refine px_blockN ?_
     refine px_then ?_
     refine cd_region ?_
     refine oq (op_add rfl rfl (by omega) (by omega)) ?_
     refine oq (op_move (v := .int _ _) rfl) ?_
     refine ol_nil ?_
     rw [hah] at hsn
     have eB : (bestF t.nodes (sumN t.nodes o) ((kidsI t.nodes o.length i).take (j + 1))) = (((kidsI t.nodes o.length i)[j] : Nat) : Int) := by rw [hsn]; rfl
     refine px_loop2 (j + 1) (by rw [castL_len]; omega) (by (try dsimp only); rw [castL_len]; omega) ⟨congrArg (Value.int .i64) eB.symm, congrArg (Value.int .i64) (by simp), trivial⟩ ?_ (fun _ s => s)
     repeat (first | exact kept_over | refine kept_upd rfl ?_ | refine kept_overS (by decide) ?_)
    ·have hp4 := hb4
     (try simp only [bn] at hp4)
     refine e_q 12 rfl (wn_some rfl rfl rfl hb4 rfl) (op_move (v := .pointer _) rfl) ?_
     refine e_q 13 rfl (wn_some rfl rfl rfl hb4 rfl) (op_move (v := .int _ _) rfl) ?_
     refine e_q 15 rfl (wn_some rfl rfl rfl hb4 rfl) (op_move (v := .pointer _) rfl) ?_
     refine e_q 16 rfl (wn_some rfl rfl rfl hb4 rfl) (op_move (v := .int _ _) rfl) ?_
     refine et_1 (i := 14) (by kernel_rfl) ?_
     refine ei_i rfl rfl (wn_some rfl rfl rfl hb4 rfl) (os_back (os_pull6 (os_pull6 (os_pull6 (os_pull6 (os_pull6 (os_pull6 (os_call cb_81 rfl (fun w s => RSum_calls _ _ _ _ _ _ _ _ _ _ _ _ _ _ _ _ _  s (by assumption) (by assumption) (by assumption) (by assumption) rfl (by omega))))))))) (fun _ s => (((((((((s.pull 8).pull 8).pull 7).pull 7).pull 7).pull 7).pull 7).pull 7).pull 8))) rfl ?_; rintro _ _ ⟨rfl, rfl⟩; refine ⟨[], rfl, ?_⟩
     refine et_1 (i := 17) (by kernel_rfl) ?_
     refine ei_i rfl rfl (wn_some rfl rfl rfl hb4 rfl) (os_back (os_pull6 (os_pull6 (os_pull6 (os_pull6 (os_pull6 (os_pull6 (os_call cb_81 rfl (fun w s => RSum_calls _ _ _ _ _ _ _ _ _ _ _ _ _ _ _ _ _  s (by assumption) (by assumption) (by assumption) (by assumption) rfl (by omega))))))))) (fun _ s => (((((((((s.pull 8).pull 8).pull 7).pull 7).pull 7).pull 7).pull 7).pull 7).pull 8))) rfl ?_; rintro _ _ ⟨rfl, rfl⟩; refine ⟨[], rfl, ?_⟩
     refine e_q 18 rfl (wn_some rfl rfl rfl hb4 rfl) (op_eq rfl rfl) ?_
     refine e_q 19 rfl (wn_some rfl rfl rfl hb4 rfl) (op_move (v := .bool _) rfl) ?_
     refine et_split 43 rfl (fun hb5 => ?_) (fun hb5 => ?_)
     ·have hp5 := hb5
      (try simp only [bn] at hp5)
      refine e_q 20 rfl (wn_some rfl rfl rfl hb5 rfl) (op_move (v := .pointer _) rfl) ?_
      refine e_q 21 rfl (wn_some rfl rfl rfl hb5 rfl) (op_nilck rfl) ?_
      refine e_q 22 rfl (wn_some rfl rfl rfl hb5 rfl) (op_field fld_47_0 rfl) ?_
      refine e_q 23 rfl (wn_some rfl rfl rfl hb5 rfl) (op_ld 5 sc_45 rfl rfl rfl) ?_
      refine e_q 24 rfl (wn_some rfl rfl rfl hb5 rfl) (op_nilck rfl) ?_
      refine e_q 25 rfl (wn_some rfl rfl rfl hb5 rfl) (op_field fld_44_0 rfl) ?_
      refine e_q 26 rfl (wn_some rfl rfl rfl hb5 rfl) (op_ld 1 sc_37 rfl rfl rfl) ?_
      refine e_q 27 rfl (wn_some rfl rfl rfl hb5 rfl) (op_move (v := .int _ _) rfl) ?_
      refine e_q 28 rfl (wn_some rfl rfl rfl hb5 rfl) (op_index b0 sB_37 rfl rfl rfl (rds_row 2 rfl rfl) rfl (by omega)) ?_
      refine e_q 29 rfl (wn_some rfl rfl rfl hb5 rfl) (op_ldaw (L := rootC _) ag_24 (rds_row 2 rfl rfl) rfl (by omega) rfl (rootC_ta _)) ?_
      refine e_q 30 rfl (wn_some rfl rfl rfl hb5 rfl) (op_move (v := .pointer _) rfl) ?_
      refine e_q 31 rfl (wn_some rfl rfl rfl hb5 rfl) (op_nilck rfl) ?_
      refine e_q 32 rfl (wn_some rfl rfl rfl hb5 rfl) (op_field fld_47_0 rfl) ?_
      refine e_q 33 rfl (wn_some rfl rfl rfl hb5 rfl) (op_ld 5 sc_45 rfl rfl rfl) ?_
      refine e_q 34 rfl (wn_some rfl rfl rfl hb5 rfl) (op_nilck rfl) ?_
      refine e_q 35 rfl (wn_some rfl rfl rfl hb5 rfl) (op_field fld_44_0 rfl) ?_
      refine e_q 36 rfl (wn_some rfl rfl rfl hb5 rfl) (op_ld 1 sc_37 rfl rfl rfl) ?_
      refine e_q 37 rfl (wn_some rfl rfl rfl hb5 rfl) (op_move (v := .int _ _) rfl) ?_
      refine e_q 38 rfl (wn_some rfl rfl rfl hb5 rfl) (op_index (kidsI t.nodes o.length i)[j] sB_37 rfl rfl rfl (rds_row 2 rfl rfl) rfl (by omega)) ?_
      refine e_q 39 rfl (wn_some rfl rfl rfl hb5 rfl) (op_ldaw (L := rootC _) ag_24 (rds_row 2 rfl rfl) rfl (by omega) rfl (rootC_ta _)) ?_
      refine et_1 (i := 40) (by kernel_rfl) ?_
      refine ei_i rfl rfl (wn_some rfl rfl rfl hb5 rfl) (os_call cb_82 rfl (fun w s => RLess_calls _ _  s )) rfl ?_; rintro _ l ⟨rfl, rfl⟩; rw [hRr, hRr]; refine ⟨[], rfl, ?_⟩
      refine e_q 41 rfl (wn_some rfl rfl rfl hb4 rfl) (op_pick_t (v := .bool _) rfl hb5 rfl) ?_
      refine e_q 42 rfl (wn_none rfl) (op_pick_f (v := .bool _) rfl hb4 rfl) ?_
      refine et_nil_then (by kernel_rfl) ?_
      refine cd_cond rfl (fun hb6 => ?_) (fun hb6 => ?_)
      ·have hp6 := hb6
       (try simp only [bn] at hp6)
       have hah : aheadN t.nodes (sumN t.nodes o) (kidsI t.nodes o.length i)[j] (bestF t.nodes (sumN t.nodes o) ((kidsI t.nodes o.length i).take j)) = true := by rw [hb0]; unfold aheadN beats; rw [Int.toNat_natCast, decide_eq_false (show ¬ ((b0 : Nat) : Int) < 0 by omega), decide_eq_false (show ¬ sumN t.nodes o b0 < sumN t.nodes o (kidsI t.nodes o.length i)[j] by omega), decide_eq_true (show sumN t.nodes o (kidsI t.nodes o.length i)[j] = sumN t.nodes o b0 by omega)]; exact hb6
       refine cd_region ?_
       refine oq (op_move (v := .int _ _) rfl) ?_
       refine oq (op_assign (v := .int _ _) rfl) ?_
       refine ol_nil ?_
       refine px_blockN ?_
       refine px_then ?_
       refine cd_region ?_
       refine oq (op_add rfl rfl (by omega) (by omega)) ?_
       refine oq (op_move (v := .int _ _) rfl) ?_
       refine ol_nil ?_
       rw [hah] at hsn
       have eB : (bestF t.nodes (sumN t.nodes o) ((kidsI t.nodes o.length i).take (j + 1))) = (((kidsI t.nodes o.length i)[j] : Nat) : Int) := by rw [hsn]; rfl
       refine px_loop2 (j + 1) (by rw [castL_len]; omega) (by (try dsimp only); rw [castL_len]; omega) ⟨congrArg (Value.int .i64) eB.symm, congrArg (Value.int .i64) (by simp), trivial⟩ ?_ (fun _ s => s)
       repeat (first | exact kept_over | refine kept_upd rfl ?_ | refine kept_overS (by decide) ?_)
      ·have hp6 := hb6
       (try simp only [bn] at hp6)
       have hah : aheadN t.nodes (sumN t.nodes o) (kidsI t.nodes o.length i)[j] (bestF t.nodes (sumN t.nodes o) ((kidsI t.nodes o.length i).take j)) = false := by rw [hb0]; unfold aheadN beats; rw [Int.toNat_natCast, decide_eq_false (show ¬ ((b0 : Nat) : Int) < 0 by omega), decide_eq_false (show ¬ sumN t.nodes o b0 < sumN t.nodes o (kidsI t.nodes o.length i)[j] by omega), decide_eq_true (show sumN t.nodes o (kidsI t.nodes o.length i)[j] = sumN t.nodes o b0 by omega)]; exact hb6
       refine cd_skip ?_
       refine px_blockN ?_
       refine px_then ?_
       refine cd_region ?_
       refine oq (op_add rfl rfl (by omega) (by omega)) ?_
       refine oq (op_move (v := .int _ _) rfl) ?_
       refine ol_nil ?_
       rw [hah] at hsn
       have eB : (bestF t.nodes (sumN t.nodes o) ((kidsI t.nodes o.length i).take (j + 1))) = (bestF t.nodes (sumN t.nodes o) ((kidsI t.nodes o.length i).take j)) := by rw [hsn]; rfl
       refine px_loop2 (j + 1) (by rw [castL_len]; omega) (by (try dsimp only); rw [castL_len]; omega) ⟨congrArg (Value.int .i64) (hb0.symm.trans eB.symm), congrArg (Value.int .i64) (by simp), trivial⟩ ?_ (fun _ s => s)
       repeat (first | exact kept_over | refine kept_upd rfl ?_ | refine kept_overS (by decide) ?_)
     ·have hp5 := hb5
      (try simp only [bn] at hp5)
      have hah : aheadN t.nodes (sumN t.nodes o) (kidsI t.nodes o.length i)[j] (bestF t.nodes (sumN t.nodes o) ((kidsI t.nodes o.length i).take j)) = false := by rw [hb0]; unfold aheadN beats; rw [Int.toNat_natCast, decide_eq_false (show ¬ ((b0 : Nat) : Int) < 0 by omega), decide_eq_false (show ¬ sumN t.nodes o b0 < sumN t.nodes o (kidsI t.nodes o.length i)[j] by omega), decide_eq_false (show ¬ sumN t.nodes o (kidsI t.nodes o.length i)[j] = sumN t.nodes o b0 by omega)]; rfl
      refine et_skip 20 (by kernel_rfl) rfl (by kernel_rfl) (wn_some rfl rfl rfl hb5 rfl) rfl ?_
      refine et_skip 21 (by kernel_rfl) rfl (by kernel_rfl) (wn_some rfl rfl rfl hb5 rfl) rfl ?_
      refine et_skip 22 (by kernel_rfl) rfl (by kernel_rfl) (wn_some rfl rfl rfl hb5 rfl) rfl ?_
      refine et_skip 23 (by kernel_rfl) rfl (by kernel_rfl) (wn_some rfl rfl rfl hb5 rfl) rfl ?_
      refine et_skip 24 (by kernel_rfl) rfl (by kernel_rfl) (wn_some rfl rfl rfl hb5 rfl) rfl ?_
      refine et_skip 25 (by kernel_rfl) rfl (by kernel_rfl) (wn_some rfl rfl rfl hb5 rfl) rfl ?_
      refine et_skip 26 (by kernel_rfl) rfl (by kernel_rfl) (wn_some rfl rfl rfl hb5 rfl) rfl ?_
      refine et_skip 27 (by kernel_rfl) rfl (by kernel_rfl) (wn_some rfl rfl rfl hb5 rfl) rfl ?_
      refine et_skip 28 (by kernel_rfl) rfl (by kernel_rfl) (wn_some rfl rfl rfl hb5 rfl) rfl ?_
      refine et_skip 29 (by kernel_rfl) rfl (by kernel_rfl) (wn_some rfl rfl rfl hb5 rfl) rfl ?_
      refine et_skip 30 (by kernel_rfl) rfl (by kernel_rfl) (wn_some rfl rfl rfl hb5 rfl) rfl ?_
      refine et_skip 31 (by kernel_rfl) rfl (by kernel_rfl) (wn_some rfl rfl rfl hb5 rfl) rfl ?_
      refine et_skip 32 (by kernel_rfl) rfl (by kernel_rfl) (wn_some rfl rfl rfl hb5 rfl) rfl ?_
      refine et_skip 33 (by kernel_rfl) rfl (by kernel_rfl) (wn_some rfl rfl rfl hb5 rfl) rfl ?_
      refine et_skip 34 (by kernel_rfl) rfl (by kernel_rfl) (wn_some rfl rfl rfl hb5 rfl) rfl ?_
      refine et_skip 35 (by kernel_rfl) rfl (by kernel_rfl) (wn_some rfl rfl rfl hb5 rfl) rfl ?_
      refine et_skip 36 (by kernel_rfl) rfl (by kernel_rfl) (wn_some rfl rfl rfl hb5 rfl) rfl ?_
      refine et_skip 37 (by kernel_rfl) rfl (by kernel_rfl) (wn_some rfl rfl rfl hb5 rfl) rfl ?_
      refine et_skip 38 (by kernel_rfl) rfl (by kernel_rfl) (wn_some rfl rfl rfl hb5 rfl) rfl ?_
      refine et_skip 39 (by kernel_rfl) rfl (by kernel_rfl) (wn_some rfl rfl rfl hb5 rfl) rfl ?_
      refine et_1 (i := 40) (by kernel_rfl) ?_
      refine ei_skip rfl (wn_some rfl rfl rfl hb5 rfl) rfl ?_
      refine e_q 41 rfl (wn_some rfl rfl rfl hb4 rfl) (op_pick_f (v := .bool _) rfl hb5 rfl) ?_
      refine e_q 42 rfl (wn_none rfl) (op_pick_f (v := .bool _) rfl hb4 rfl) ?_
      refine et_nil_then (by kernel_rfl) ?_
      refine cd_cond_f rfl rfl ?_
      refine cd_skip ?_
      refine px_blockN ?_
      refine px_then ?_
      refine cd_region ?_
      refine oq (op_add rfl rfl (by omega) (by omega)) ?_
      refine oq (op_move (v := .int _ _) rfl) ?_
      refine ol_nil ?_
      rw [hah] at hsn
      have eB : (bestF t.nodes (sumN t.nodes o) ((kidsI t.nodes o.length i).take (j + 1))) = (bestF t.nodes (sumN t.nodes o) ((kidsI t.nodes o.length i).take j)) := by rw [hsn]; rfl
      refine px_loop2 (j + 1) (by rw [castL_len]; omega) (by (try dsimp only); rw [castL_len]; omega) ⟨congrArg (Value.int .i64) (hb0.symm.trans eB.symm), congrArg (Value.int .i64) (by simp), trivial⟩ ?_ (fun _ s => s)
      repeat (first | exact kept_over | refine kept_upd rfl ?_ | refine kept_overS (by decide) ?_)
  ·have hp2 := hb2
   (try simp only [bn] at hp2)
   have hj1 : j = (kidsI t.nodes o.length i).length := by rw [castL_len] at hj hp2; omega
   rw [hj1, List.take_length]
   have hbi := bestF_is hnd (sumN t.nodes o) (kidsI t.nodes o.length i) (fun k hk => by have := kidsI_gt hpa (n := o.length) h1 hk; omega)
   refine cd_exit ?_
   refine px_thenE ?_
   refine px_thenE ?_
   refine px_blockE ?_
   refine px_then ?_
   refine cd_seq ?_
   refine cd_sr ?_
   refine oq (op_move (v := .int _ _) rfl) ?_
   refine oq (op_lt rfl rfl) ?_
   refine ol_nil_then ?_
   refine cd_cond rfl (fun hb7 => ?_) (fun hb7 => ?_)
   ·have hp7 := hb7
    (try simp only [bn] at hp7)
    refine cd_sr ?_
    refine oq (op_buildr rfl rB_24 zBr_24) ?_
    refine ol_pull7 ?_
    refine oN (os_storera _ ag_24 rfl rfl (Free.zero _)) ?_; rintro _ _ ⟨rfl, rfl⟩
    refine oq (op_assign (v := .bool _) rfl) ?_
    refine ol_nil_then ?_
    refine cd_ret ?_
    refine px_thenR ?_
    have hR0 : bestR t o r = (Root.zero, false) := bestR_no (by unfold bestI; rw [hof]; dsimp only; rw [hbc]; omega)
    exact px_rv2 rfl (rv_cella 0 ag_24 rfl rfl (rootC_take' _) (by simp [rootC_len])) (rv_tmp (v := .bool _) rfl) (l' := RTreeObj pr t :: RWObj pm pr o :: l) (fun _ s => (by
     have s2 : Sat _ _ (RWObj pm pr o :: Blk pr (.cells #[.slice a1 R.length c1, .slice a2 Sl.length c2, .slice a3 Pa.length c3, .int .i64 t.most] 44 (0, 0)) :: Row 24 encRoot (.slice a1 R.length c1) R :: Row 3 encI64 (.slice a2 Sl.length c2) Sl :: Row 24 encRoot (.slice a3 Pa.length c3) Pa :: l) := Sat.rwMk rfl rfl (((((((((s.del 8).del 1).del 0).pull 3).pull 3).pull 3).pull 3).pull 5).pull 5)
     have s3 : Sat _ _ (Blk pr (.cells #[.slice a1 R.length c1, .slice a2 Sl.length c2, .slice a3 Pa.length c3, .int .i64 t.most] 44 (0, 0)) :: Row 24 encRoot (.slice a1 R.length c1) R :: Row 3 encI64 (.slice a2 Sl.length c2) Sl :: Row 24 encRoot (.slice a3 Pa.length c3) Pa :: RWObj pm pr o :: l) := (((s2.pull 4).pull 4).pull 4).pull 4
     exact Sat.rtreeMk hw hR rfl rfl rfl s3)) ⟨by rw [hR0] <;> rfl, rfl⟩
   ·have hp7 := hb7
    (try simp only [bn] at hp7)
    obtain ⟨b9, hb9, hb8⟩ : ∃ b9 : Nat, bestF t.nodes (sumN t.nodes o) (kidsI t.nodes o.length i) = b9 ∧ b9 < o.length := by
     rcases hbi with ⟨_, h⟩ | ⟨k, h, h2, _⟩
     ·omega
     ·exact ⟨k, h, (kidsI_gt hpa (n := o.length) h1 h2).2⟩
    rw [hb9]
    refine cd_skip ?_
    refine px_then ?_
    refine cd_sr ?_
    refine oq (op_move (v := .pointer _) rfl) ?_
    refine oq (op_nilck rfl) ?_
    refine oq (op_field fld_47_0 rfl) ?_
    refine oq (op_ld 5 sc_45 rfl rfl rfl) ?_
    refine oq (op_nilck rfl) ?_
    refine oq (op_field fld_44_0 rfl) ?_
    refine oq (op_ld 1 sc_37 rfl rfl rfl) ?_
    refine oq (op_move (v := .int _ _) rfl) ?_
    refine oq (op_index b9 sB_37 rfl rfl rfl (rds_row 2 rfl rfl) rfl (by omega)) ?_
    refine oq (op_ldaw (L := rootC _) ag_24 (rds_row 2 rfl rfl) rfl (by omega) rfl (rootC_ta _)) ?_
    refine ol_pull7 ?_
    refine oN (os_storera _ ag_24 rfl rfl (Free.zero _)) ?_; rintro _ _ ⟨rfl, rfl⟩
    refine oq (op_assign (v := .bool _) rfl) ?_
    refine ol_nil_then ?_
    refine cd_ret ?_
    have hR0 : bestR t o r = (rtA t.nodes b9, true) := bestR_yes (by unfold bestI; rw [hof]; dsimp only; rw [hbc, hb9]; omega)
    have hRv : R[b9] = rtA t.nodes b9 := hRr _ _
    exact px_rv2 rfl (rv_cella 0 ag_24 rfl rfl (rootC_take' _) (by simp [rootC_len])) (rv_tmp (v := .bool _) rfl) (l' := RTreeObj pr t :: RWObj pm pr o :: l) (fun _ s => (by
     have s2 : Sat _ _ (RWObj pm pr o :: Blk pr (.cells #[.slice a1 R.length c1, .slice a2 Sl.length c2, .slice a3 Pa.length c3, .int .i64 t.most] 44 (0, 0)) :: Row 24 encRoot (.slice a1 R.length c1) R :: Row 3 encI64 (.slice a2 Sl.length c2) Sl :: Row 24 encRoot (.slice a3 Pa.length c3) Pa :: l) := Sat.rwMk rfl rfl (((((((((s.del 8).del 1).del 0).pull 3).pull 3).pull 3).pull 3).pull 5).pull 5)
     have s3 : Sat _ _ (Blk pr (.cells #[.slice a1 R.length c1, .slice a2 Sl.length c2, .slice a3 Pa.length c3, .int .i64 t.most] 44 (0, 0)) :: Row 24 encRoot (.slice a1 R.length c1) R :: Row 3 encI64 (.slice a2 Sl.length c2) Sl :: Row 24 encRoot (.slice a3 Pa.length c3) Pa :: RWObj pm pr o :: l) := (((s2.pull 4).pull 4).pull 4).pull 4
     exact Sat.rtreeMk hw hR rfl rfl rfl s3)) ⟨by rw [hR0] <;> (first | rfl | (rw [hRv])), rfl⟩

set_option maxRecDepth 100000 in
set_option maxHeartbeats 1000000 in
theorem RBestWO_calls {w0 w : World} {l : List HProp} (pm pr : Nat) (t : TreeS) (a1 a2 a3 a4 : Option Addr) (c1 c2 c3 c4 : Nat) (R : List Root) (Sl : List Int) (Pa : List Root) (o : List Int) (r : Root) (hs : Sat w0 w ((Blk pr (.cells #[.slice a1 R.length c1, .slice a2 Sl.length c2, .slice a3 Pa.length c3, .int .i64 t.most] 44 (0, 0))) :: (Row 24 encRoot (.slice a1 R.length c1) R) :: (Row 3 encI64 (.slice a2 Sl.length c2) Sl) :: (Row 24 encRoot (.slice a3 Pa.length c3) Pa) :: (Blk pm (.cells #[.pointer (some ⟨pr, 0, none⟩), .slice a4 o.length c4, .int .i64 (o.length : Int)] 47 (0, 0))) :: (Row 3 encI64 (.slice a4 o.length c4) o) :: l)) (hw : t.WF) (hR : RTreeOf t R Sl Pa) (h1 : o.length ≤ t.nodes.length) (hok : OwnOK o) :
  Calls Try.prog 56 #[.pointer (some ⟨pm, 0, none⟩), .agg (rootC r).toArray] w (Ret w0 fun v l' => v = .tuple #[.agg (rootC (bestR t o r).1).toArray, .bool (bestR t o r).2] ∧ l' = Blk pr (.cells #[.slice a1 R.length c1, .slice a2 Sl.length c2, .slice a3 Pa.length c3, .int .i64 t.most] 44 (0, 0)) :: Row 24 encRoot (.slice a1 R.length c1) R :: Row 3 encI64 (.slice a2 Sl.length c2) Sl :: Row 24 encRoot (.slice a3 Pa.length c3) Pa :: Blk pm (.cells #[.pointer (some ⟨pr, 0, none⟩), .slice a4 o.length c4, .int .i64 (o.length : Int)] 47 (0, 0)) :: Row 3 encI64 (.slice a4 o.length c4) o :: l) := by
 have hne := hw.ne
 have hle := hw.le; have hm2 := hw.m2; have hpa := hw.pa; have hnd := hw.nd
 have hRl : R.length = t.nodes.length := by rw [hR.r, List.length_map]
 have hSl : Sl.length = t.nodes.length := by rw [hR.s, List.length_map]
 have hPl : Pa.length = t.nodes.length := by rw [hR.p]; unfold parR; rw [List.length_map]
 have hpl : ∀ r, rplace R r = t.place r := fun r => by rw [hR.r, rplace_map]
 have hrp := ofF_rpl (t := t) (n := o.length) (f := (fun i => bestN t.nodes (oA (sumL t.nodes o)) o.length i + 1)) (r := r)
 have hRr : ∀ q (h : q < R.length), R[q] = rtA t.nodes q := fun q h => by simp only [hR.r, List.getElem_map]; exact (rtA_get (by omega)).symm
 refine calls_enter Try.func56 rfl rfl rfl hs ?_
 refine cd_sr ?_
 refine oi (os_boxa rfl) ?_; rintro _ _ ⟨bx1, rfl, rfl⟩
 refine oi (os_alloc (cs := (rootC Root.zero).toArray) zB_24 (by kernel_rfl)) ?_; rintro _ _ ⟨bx2, rfl, rfl⟩
 refine oq (op_assign (v := .bool _) rfl) ?_
 refine ol_nil_then ?_
 refine cd_sr ?_
 refine oq (op_move (v := .pointer _) rfl) ?_
 refine oq (op_lda (L := rootC _) 1 ag_24 rfl rfl (rootC_take' _) (by simp [rootC_len])) ?_
 refine ol_pull7 ?_
 refine ol_pull7 ?_
 refine ol_pull7 ?_
 refine ol_pull7 ?_
 refine ol_pull7 ?_
 refine ol_pull7 ?_
 refine oi (os_call cb_59 rfl (fun w s => RplW_calls _ _ _ _ _ _ _ _ _ _ _ _ _ _ _ _  s (by assumption) (by assumption) (by assumption))) ?_; rintro _ _ ⟨rfl, rfl⟩
 refine oq (op_assign (v := .int _ _) rfl) ?_
 refine ol_nil_then ?_
 refine cd_sr ?_
 refine oq (op_assign (v := .int _ _) rfl) ?_
 refine ol_nil_then ?_
 refine cd_seq ?_
 refine cd_sr ?_
 refine oq (op_move (v := .int _ _) rfl) ?_
 refine oq (op_lt rfl rfl) ?_
 refine ol_nil_then ?_
 refine cd_cond rfl (fun hb1 => ?_) (fun hb1 => ?_)
 ·have hp1 := hb1
  (try simp only [bn] at hp1)
  refine cd_sr ?_
  refine oq (op_buildr rfl rB_24 zBr_24) ?_
  refine ol_pull6 ?_
  refine oN (os_storera _ ag_24 rfl rfl (Free.zero _)) ?_; rintro _ _ ⟨rfl, rfl⟩
  refine oq (op_assign (v := .bool _) rfl) ?_
  refine ol_nil_then ?_
  refine cd_ret ?_
  refine px_thenR ?_
  have hR0 : bestR t o r = (Root.zero, false) := bestR_no (by unfold bestI; rcases hrp with ⟨_, h⟩ | ⟨q, h, _⟩ <;> omega)
  exact px_rv2 rfl (rv_cella 0 ag_24 rfl rfl (rootC_take' _) (by simp [rootC_len])) (rv_tmp (v := .bool _) rfl)  (fun _ s => ((s.del 7).del 0)) ⟨by rw [hR0] <;> rfl, rfl⟩
 ·have hp1 := hb1
  (try simp only [bn] at hp1)
  obtain ⟨i, hri, hin, hof⟩ : ∃ i : Nat, rplW t o.length r = i ∧ i < o.length ∧ ofF t o.length (fun i => bestN t.nodes (oA (sumL t.nodes o)) o.length i + 1) r = (fun i => bestN t.nodes (oA (sumL t.nodes o)) o.length i + 1) i := by
   rcases hrp with ⟨h, _⟩ | h
   ·omega
   ·exact h
  rw [hri]
  have hbc : bestN t.nodes (oA (sumL t.nodes o)) o.length i = bestF t.nodes (sumN t.nodes o) (kidsI t.nodes o.length i) := bestN_congr fun k hk => sumL_at hk
  have hkl := kidsI_len t.nodes o.length i
  refine cd_skip ?_
  refine px_then ?_
  refine cd_seq ?_
  refine cd_sr ?_
  refine oq (op_move (v := .pointer _) rfl) ?_
  refine oq (op_move (v := .int _ _) rfl) ?_
  refine ol_pull5 ?_
  refine ol_pull5 ?_
  refine ol_pull5 ?_
  refine ol_pull5 ?_
  refine ol_pull5 ?_
  refine ol_pull5 ?_
  refine oi (os_call cb_80 rfl (fun w s => RKidsW_calls _ _ _ _ _ _ _ _ _ _ _ _ _ _ _ _  s (by assumption) (by assumption) (by assumption) (by omega))) ?_; rintro _ _ ⟨ka2, kc2, rfl, rfl⟩
  refine oq (op_len_slice Try.underlying42 rfl) ?_
  refine oq (op_move (v := .int _ _) rfl) ?_
  refine ol_nil_then ?_
  refine cd_block ?_
  refine cd_loop2 (α := Nat) [(7, 7), (9, 9), (20, 68)] (fun x => [(7, .int .i64 (bestF t.nodes (sumN t.nodes o) ((kidsI t.nodes o.length i).take x))), (20, .int .i64 (x : Int))]) (fun _ => _) (fun x => x ≤ (castL (kidsI t.nodes o.length i)).length) (fun x => (castL (kidsI t.nodes o.length i)).length - x) 0 (Nat.zero_le _) ⟨rfl, rfl, trivial⟩ (fun _ s => s) ?_
  rintro j hj f; (try dsimp only at hj ⊢)
  refine cd_sr ?_
  refine oq (op_lt rfl rfl) ?_
  refine ol_nil_then ?_
  refine cd_seq ?_
  refine cd_cond rfl (fun hb2 => ?_) (fun hb2 => ?_)
  ·have hp2 := hb2
   (try simp only [bn] at hp2)
   have hj1 : j < (kidsI t.nodes o.length i).length := by rw [castL_len] at hp2; omega
   have hkg := kidsI_gt hpa (n := o.length) h1 (List.getElem_mem hj1)
   have hbi := bestF_is hnd (sumN t.nodes o) ((kidsI t.nodes o.length i).take j) (fun k hk => by have := kidsI_gt hpa (n := o.length) h1 (List.mem_of_mem_take hk); omega)
   have hsn := bestF_snoc t.nodes (sumN t.nodes o) ((kidsI t.nodes o.length i).take j) (kidsI t.nodes o.length i)[j]
   rw [← List.take_succ_eq_append_getElem hj1] at hsn
   refine cd_skip ?_
   refine px_then ?_
   refine cd_seq ?_
   refine cd_block ?_
   refine cd_sr ?_
   refine oq (op_index j sB_42 rfl rfl rfl (rds_row 0 rfl rfl) rfl (by rw [castL_len]; omega)) ?_
   refine oq (op_ldw sc_3 (rds_row 0 rfl rfl) rfl (by rw [castL_len]; omega) rfl) ?_
   refine oq (op_assign (v := .int _ _) rfl) ?_
   refine ol_nil_then ?_
   rw [castL_get (by rw [castL_len]; omega) hj1]
   refine cd_seq ?_
   refine cd_drawe (M := []) mx [5, 8, 14, 17, 40] ?_
   refine e_q 0 rfl (wn_none rfl) (op_move (v := .int _ _) rfl) ?_
   refine e_q 1 rfl (wn_none rfl) (op_lt rfl rfl) ?_
   refine e_q 2 rfl (wn_none rfl) (op_move (v := .bool _) rfl) ?_
   refine et_split 26 rfl (fun hb3 => ?_) (fun hb3 => ?_)
   ·have hp3 := hb3
    (try simp only [bn] at hp3)
    have hah : aheadN t.nodes (sumN t.nodes o) (kidsI t.nodes o.length i)[j] (bestF t.nodes (sumN t.nodes o) ((kidsI t.nodes o.length i).take j)) = true := by unfold aheadN; rw [decide_eq_true (show (bestF t.nodes (sumN t.nodes o) ((kidsI t.nodes o.length i).take j)) < 0 by omega)]; rfl
    refine et_skip 3 (by kernel_rfl) rfl (by kernel_rfl) (wn_some rfl rfl rfl hb3 rfl) rfl ?_
    refine et_skip 4 (by kernel_rfl) rfl (by kernel_rfl) (wn_some rfl rfl rfl hb3 rfl) rfl ?_
    refine et_skip 6 (by kernel_rfl) rfl (by kernel_rfl) (wn_some rfl rfl rfl hb3 rfl) rfl ?_
    refine et_skip 7 (by kernel_rfl) rfl (by kernel_rfl) (wn_some rfl rfl rfl hb3 rfl) rfl ?_
    refine et_1 (i := 5) (by kernel_rfl) ?_
    refine ei_skip rfl (wn_some rfl rfl rfl hb3 rfl) rfl ?_
    refine et_1 (i := 8) (by kernel_rfl) ?_
    refine ei_skip rfl (wn_some rfl rfl rfl hb3 rfl) rfl ?_
    refine et_skip 9 (by kernel_rfl) rfl (by kernel_rfl) (wn_some rfl rfl rfl hb3 rfl) rfl ?_
    refine e_q 10 rfl (wn_none rfl) (op_pick_t (v := .bool _) rfl hb3 rfl) ?_
    refine e_q 11 rfl (wn_none rfl) (op_move (v := .bool _) rfl) ?_
    refine et_skip 12 (by kernel_rfl) rfl (by kernel_rfl) (wn_some rfl rfl rfl rfl rfl) rfl ?_
    refine et_skip 13 (by kernel_rfl) rfl (by kernel_rfl) (wn_some rfl rfl rfl rfl rfl) rfl ?_
    refine et_skip 15 (by kernel_rfl) rfl (by kernel_rfl) (wn_some rfl rfl rfl rfl rfl) rfl ?_
    refine et_skip 16 (by kernel_rfl) rfl (by kernel_rfl) (wn_some rfl rfl rfl rfl rfl) rfl ?_
    refine et_1 (i := 14) (by kernel_rfl) ?_
    refine ei_skip rfl (wn_some rfl rfl rfl rfl rfl) rfl ?_
    refine et_1 (i := 17) (by kernel_rfl) ?_
    refine ei_skip rfl (wn_some rfl rfl rfl rfl rfl) rfl ?_
    refine et_skip 18 (by kernel_rfl) rfl (by kernel_rfl) (wn_some rfl rfl rfl rfl rfl) rfl ?_
    refine et_skip 19 (by kernel_rfl) rfl (by kernel_rfl) (wn_some rfl rfl rfl rfl rfl) rfl ?_
    refine et_skip 20 (by kernel_rfl) rfl (by kernel_rfl) (wn_undef rfl rfl rfl rfl) rfl ?_
    refine et_skip 21 (by kernel_rfl) rfl (by kernel_rfl) (wn_undef rfl rfl rfl rfl) rfl ?_
    refine et_skip 22 (by kernel_rfl) rfl (by kernel_rfl) (wn_undef rfl rfl rfl rfl) rfl ?_
    refine et_skip 23 (by kernel_rfl) rfl (by kernel_rfl) (wn_undef rfl rfl rfl rfl) rfl ?_
    refine et_skip 24 (by kernel_rfl) rfl (by kernel_rfl) (wn_undef rfl rfl rfl rfl) rfl ?_
    refine et_skip 25 (by kernel_rfl) rfl (by kernel_rfl) (wn_undef rfl rfl rfl rfl) rfl ?_
    refine et_skip 26 (by kernel_rfl) rfl (by kernel_rfl) (wn_undef rfl rfl rfl rfl) rfl ?_
    refine et_skip 27 (by kernel_rfl) rfl (by kernel_rfl) (wn_undef rfl rfl rfl rfl) rfl ?_
    refine et_skip 28 (by kernel_rfl) rfl (by kernel_rfl) (wn_undef rfl rfl rfl rfl) rfl ?_
    refine et_skip 29 (by kernel_rfl) rfl (by kernel_rfl) (wn_undef rfl rfl rfl rfl) rfl ?_
    refine et_skip 30 (by kernel_rfl) rfl (by kernel_rfl) (wn_undef rfl rfl rfl rfl) rfl ?_
    refine et_skip 31 (by kernel_rfl) rfl (by kernel_rfl) (wn_undef rfl rfl rfl rfl) rfl ?_
    refine et_skip 32 (by kernel_rfl) rfl (by kernel_rfl) (wn_undef rfl rfl rfl rfl) rfl ?_
    refine et_skip 33 (by kernel_rfl) rfl (by kernel_rfl) (wn_undef rfl rfl rfl rfl) rfl ?_
    refine et_skip 34 (by kernel_rfl) rfl (by kernel_rfl) (wn_undef rfl rfl rfl rfl) rfl ?_
    refine et_skip 35 (by kernel_rfl) rfl (by kernel_rfl) (wn_undef rfl rfl rfl rfl) rfl ?_
    refine et_skip 36 (by kernel_rfl) rfl (by kernel_rfl) (wn_undef rfl rfl rfl rfl) rfl ?_
    refine et_skip 37 (by kernel_rfl) rfl (by kernel_rfl) (wn_undef rfl rfl rfl rfl) rfl ?_
    refine et_skip 38 (by kernel_rfl) rfl (by kernel_rfl) (wn_undef rfl rfl rfl rfl) rfl ?_
    refine et_skip 39 (by kernel_rfl) rfl (by kernel_rfl) (wn_undef rfl rfl rfl rfl) rfl ?_
    refine et_1 (i := 40) (by kernel_rfl) ?_
    refine ei_skip rfl (wn_undef rfl rfl rfl rfl) rfl ?_
    refine et_skip 41 (by kernel_rfl) rfl (by kernel_rfl) (wn_some rfl rfl rfl rfl rfl) rfl ?_
    refine e_q 42 rfl (wn_none rfl) (op_pick_t (v := .bool _) rfl rfl rfl) ?_
    refine et_nil_then (by kernel_rfl) ?_
    refine cd_cond_t rfl rfl ?_
    refine cd_region ?_
    refine oq (op_move (v := .int _ _) rfl) ?_
    refine oq (op_assign (v := .int _ _) rfl) ?_
    refine ol_nil ?_
    refine px_blockN ?_
    refine px_then ?_
    refine cd_region ?_
    refine oq (op_add rfl rfl (by omega) (by omega)) ?_
    refine oq (op_move (v := .int _ _) rfl) ?_
    refine ol_nil ?_
    rw [hah] at hsn
    have eB : (bestF t.nodes (sumN t.nodes o) ((kidsI t.nodes o.length i).take (j + 1))) = (((kidsI t.nodes o.length i)[j] : Nat) : Int) := by rw [hsn]; rfl
    refine px_loop2 (j + 1) (by rw [castL_len]; omega) (by (try dsimp only); rw [castL_len]; omega) ⟨congrArg (Value.int .i64) eB.symm, congrArg (Value.int .i64) (by simp), trivial⟩ ?_ (fun _ s => s)
    repeat (first | exact kept_over | refine kept_upd rfl ?_ | refine kept_overS (by decide) ?_)
   ·have hp3 := hb3
    (try simp only [bn] at hp3)
    obtain ⟨b0, hb0, hb1⟩ : ∃ b0 : Nat, (bestF t.nodes (sumN t.nodes o) ((kidsI t.nodes o.length i).take j)) = b0 ∧ b0 < o.length := by
     rcases hbi with ⟨_, h⟩ | ⟨k, h, h2, _⟩
     ·omega
     ·exact ⟨k, h, (kidsI_gt hpa (n := o.length) h1 (List.mem_of_mem_take h2)).2⟩
    rw [hb0] at hb3 ⊢
    refine e_q 3 rfl (wn_some rfl rfl rfl hb3 rfl) (op_move (v := .pointer _) rfl) ?_
    refine e_q 4 rfl (wn_some rfl rfl rfl hb3 rfl) (op_move (v := .int _ _) rfl) ?_
    refine e_q 6 rfl (wn_some rfl rfl rfl hb3 rfl) (op_move (v := .pointer _) rfl) ?_
    refine e_q 7 rfl (wn_some rfl rfl rfl hb3 rfl) (op_move (v := .int _ _) rfl) ?_
    refine et_1 (i := 5) (by kernel_rfl) ?_
    refine ei_i rfl rfl (wn_some rfl rfl rfl hb3 rfl) (os_back (os_pull6 (os_pull6 (os_pull6 (os_pull6 (os_pull6 (os_pull6 (os_call cb_81 rfl (fun w s => RSum_calls _ _ _ _ _ _ _ _ _ _ _ _ _ _ _ _ _  s (by assumption) (by assumption) (by assumption) (by assumption) rfl (by omega))))))))) (fun _ s => (((((((((s.pull 8).pull 8).pull 7).pull 7).pull 7).pull 7).pull 7).pull 7).pull 8))) rfl ?_; rintro _ _ ⟨rfl, rfl⟩; refine ⟨[], rfl, ?_⟩
    refine et_1 (i := 8) (by kernel_rfl) ?_
    refine ei_i rfl rfl (wn_some rfl rfl rfl hb3 rfl) (os_back (os_pull6 (os_pull6 (os_pull6 (os_pull6 (os_pull6 (os_pull6 (os_call cb_81 rfl (fun w s => RSum_calls _ _ _ _ _ _ _ _ _ _ _ _ _ _ _ _ _  s (by assumption) (by assumption) (by assumption) (by assumption) rfl (by omega))))))))) (fun _ s => (((((((((s.pull 8).pull 8).pull 7).pull 7).pull 7).pull 7).pull 7).pull 7).pull 8))) rfl ?_; rintro _ _ ⟨rfl, rfl⟩; refine ⟨[], rfl, ?_⟩
    refine e_q 9 rfl (wn_some rfl rfl rfl hb3 rfl) (op_gt rfl rfl) ?_
    refine e_q 10 rfl (wn_none rfl) (op_pick_f (v := .bool _) rfl hb3 rfl) ?_
    refine e_q 11 rfl (wn_none rfl) (op_move (v := .bool _) rfl) ?_
    refine et_split 35 rfl (fun hb4 => ?_) (fun hb4 => ?_)
    ·have hp4 := hb4
     (try simp only [bn] at hp4)
     have hah : aheadN t.nodes (sumN t.nodes o) (kidsI t.nodes o.length i)[j] (bestF t.nodes (sumN t.nodes o) ((kidsI t.nodes o.length i).take j)) = true := by rw [hb0]; unfold aheadN beats; rw [Int.toNat_natCast, decide_eq_true (show sumN t.nodes o b0 < sumN t.nodes o (kidsI t.nodes o.length i)[j] by omega), Bool.true_or, Bool.or_true]
     refine et_skip 12 (by kernel_rfl) rfl (by kernel_rfl) (wn_some rfl rfl rfl hb4 rfl) rfl ?_
     refine et_skip 13 (by kernel_rfl) rfl (by kernel_rfl) (wn_some rfl rfl rfl hb4 rfl) rfl ?_
     refine et_skip 15 (by kernel_rfl) rfl (by kernel_rfl) (wn_some rfl rfl rfl hb4 rfl) rfl ?_
     refine et_skip 16 (by kernel_rfl) rfl (by kernel_rfl) (wn_some rfl rfl rfl hb4 rfl) rfl ?_
     refine et_1 (i := 14) (by kernel_rfl) ?_
     refine ei_skip rfl (wn_some rfl rfl rfl hb4 rfl) rfl ?_
     refine et_1 (i := 17) (by kernel_rfl) ?_
     refine ei_skip rfl (wn_some rfl rfl rfl hb4 rfl) rfl ?_
     refine et_skip 18 (by kernel_rfl) rfl (by kernel_rfl) (wn_some rfl rfl rfl hb4 rfl) rfl ?_
     refine et_skip 19 (by kernel_rfl) rfl (by kernel_rfl) (wn_some rfl rfl rfl hb4 rfl) rfl ?_
     refine et_skip 20 (by kernel_rfl) rfl (by kernel_rfl) (wn_undef rfl rfl rfl rfl) rfl ?_
     refine et_skip 21 (by kernel_rfl) rfl (by kernel_rfl) (wn_undef rfl rfl rfl rfl) rfl ?_
     refine et_skip 22 (by kernel_rfl) rfl (by kernel_rfl) (wn_undef rfl rfl rfl rfl) rfl ?_
     refine et_skip 23 (by kernel_rfl) rfl (by kernel_rfl) (wn_undef rfl rfl rfl rfl) rfl ?_
     refine et_skip 24 (by kernel_rfl) rfl (by kernel_rfl) (wn_undef rfl rfl rfl rfl) rfl ?_
     refine et_skip 25 (by kernel_rfl) rfl (by kernel_rfl) (wn_undef rfl rfl rfl rfl) rfl ?_
     refine et_skip 26 (by kernel_rfl) rfl (by kernel_rfl) (wn_undef rfl rfl rfl rfl) rfl ?_
     refine et_skip 27 (by kernel_rfl) rfl (by kernel_rfl) (wn_undef rfl rfl rfl rfl) rfl ?_
     refine et_skip 28 (by kernel_rfl) rfl (by kernel_rfl) (wn_undef rfl rfl rfl rfl) rfl ?_
     refine et_skip 29 (by kernel_rfl) rfl (by kernel_rfl) (wn_undef rfl rfl rfl rfl) rfl ?_
     refine et_skip 30 (by kernel_rfl) rfl (by kernel_rfl) (wn_undef rfl rfl rfl rfl) rfl ?_
     refine et_skip 31 (by kernel_rfl) rfl (by kernel_rfl) (wn_undef rfl rfl rfl rfl) rfl ?_
     refine et_skip 32 (by kernel_rfl) rfl (by kernel_rfl) (wn_undef rfl rfl rfl rfl) rfl ?_
     refine et_skip 33 (by kernel_rfl) rfl (by kernel_rfl) (wn_undef rfl rfl rfl rfl) rfl ?_
     refine et_skip 34 (by kernel_rfl) rfl (by kernel_rfl) (wn_undef rfl rfl rfl rfl) rfl ?_
     refine et_skip 35 (by kernel_rfl) rfl (by kernel_rfl) (wn_undef rfl rfl rfl rfl) rfl ?_
     refine et_skip 36 (by kernel_rfl) rfl (by kernel_rfl) (wn_undef rfl rfl rfl rfl) rfl ?_
     refine et_skip 37 (by kernel_rfl) rfl (by kernel_rfl) (wn_undef rfl rfl rfl rfl) rfl ?_
     refine et_skip 38 (by kernel_rfl) rfl (by kernel_rfl) (wn_undef rfl rfl rfl rfl) rfl ?_
     refine et_skip 39 (by kernel_rfl) rfl (by kernel_rfl) (wn_undef rfl rfl rfl rfl) rfl ?_
     refine et_1 (i := 40) (by kernel_rfl) ?_
     refine ei_skip rfl (wn_undef rfl rfl rfl rfl) rfl ?_
     refine et_skip 41 (by kernel_rfl) rfl (by kernel_rfl) (wn_some rfl rfl rfl hb4 rfl) rfl ?_
     refine e_q 42 rfl (wn_none rfl) (op_pick_t (v := .bool _) rfl hb4 rfl) ?_
     refine et_nil_then (by kernel_rfl) ?_
     refine cd_cond_t rfl rfl ?_
     refine cd_region ?_
     refine oq (op_move (v := .int _ _) rfl) ?_
     refine oq (op_assign (v := .int _ _) rfl) ?_
     refine ol_nil ?_
     refine px_blockN ?_
     refine px_then ?_
     refine cd_region ?_
     refine oq (op_add rfl rfl (by omega) (by omega)) ?_
     refine oq (op_move (v := .int _ _) rfl) ?_
     refine ol_nil ?_
     rw [hah] at hsn
     have eB : (bestF t.nodes (sumN t.nodes o) ((kidsI t.nodes o.length i).take (j + 1))) = (((kidsI t.nodes o.length i)[j] : Nat) : Int) := by rw [hsn]; rfl
     refine px_loop2 (j + 1) (by rw [castL_len]; omega) (by (try dsimp only); rw [castL_len]; omega) ⟨congrArg (Value.int .i64) eB.symm, congrArg (Value.int .i64) (by simp), trivial⟩ ?_ (fun _ s => s)
     repeat (first | exact kept_over | refine kept_upd rfl ?_ | refine kept_overS (by decide) ?_)
    ·have hp4 := hb4
     (try simp only [bn] at hp4)
     refine e_q 12 rfl (wn_some rfl rfl rfl hb4 rfl) (op_move (v := .pointer _) rfl) ?_
     refine e_q 13 rfl (wn_some rfl rfl rfl hb4 rfl) (op_move (v := .int _ _) rfl) ?_
     refine e_q 15 rfl (wn_some rfl rfl rfl hb4 rfl) (op_move (v := .pointer _) rfl) ?_
     refine e_q 16 rfl (wn_some rfl rfl rfl hb4 rfl) (op_move (v := .int _ _) rfl) ?_
     refine et_1 (i := 14) (by kernel_rfl) ?_
     refine ei_i rfl rfl (wn_some rfl rfl rfl hb4 rfl) (os_back (os_pull6 (os_pull6 (os_pull6 (os_pull6 (os_pull6 (os_pull6 (os_call cb_81 rfl (fun w s => RSum_calls _ _ _ _ _ _ _ _ _ _ _ _ _ _ _ _ _  s (by assumption) (by assumption) (by assumption) (by assumption) rfl (by omega))))))))) (fun _ s => (((((((((s.pull 8).pull 8).pull 7).pull 7).pull 7).pull 7).pull 7).pull 7).pull 8))) rfl ?_; rintro _ _ ⟨rfl, rfl⟩; refine ⟨[], rfl, ?_⟩
     refine et_1 (i := 17) (by kernel_rfl) ?_
     refine ei_i rfl rfl (wn_some rfl rfl rfl hb4 rfl) (os_back (os_pull6 (os_pull6 (os_pull6 (os_pull6 (os_pull6 (os_pull6 (os_call cb_81 rfl (fun w s => RSum_calls _ _ _ _ _ _ _ _ _ _ _ _ _ _ _ _ _  s (by assumption) (by assumption) (by assumption) (by assumption) rfl (by omega))))))))) (fun _ s => (((((((((s.pull 8).pull 8).pull 7).pull 7).pull 7).pull 7).pull 7).pull 7).pull 8))) rfl ?_; rintro _ _ ⟨rfl, rfl⟩; refine ⟨[], rfl, ?_⟩
     refine e_q 18 rfl (wn_some rfl rfl rfl hb4 rfl) (op_eq rfl rfl) ?_
     refine e_q 19 rfl (wn_some rfl rfl rfl hb4 rfl) (op_move (v := .bool _) rfl) ?_
     refine et_split 43 rfl (fun hb5 => ?_) (fun hb5 => ?_)
     ·have hp5 := hb5
      (try simp only [bn] at hp5)
      refine e_q 20 rfl (wn_some rfl rfl rfl hb5 rfl) (op_move (v := .pointer _) rfl) ?_
      refine e_q 21 rfl (wn_some rfl rfl rfl hb5 rfl) (op_nilck rfl) ?_
      refine e_q 22 rfl (wn_some rfl rfl rfl hb5 rfl) (op_field fld_47_0 rfl) ?_
      refine e_q 23 rfl (wn_some rfl rfl rfl hb5 rfl) (op_ld 5 sc_45 rfl rfl rfl) ?_
      refine e_q 24 rfl (wn_some rfl rfl rfl hb5 rfl) (op_nilck rfl) ?_
      refine e_q 25 rfl (wn_some rfl rfl rfl hb5 rfl) (op_field fld_44_0 rfl) ?_
      refine e_q 26 rfl (wn_some rfl rfl rfl hb5 rfl) (op_ld 1 sc_37 rfl rfl rfl) ?_
      refine e_q 27 rfl (wn_some rfl rfl rfl hb5 rfl) (op_move (v := .int _ _) rfl) ?_
      refine e_q 28 rfl (wn_some rfl rfl rfl hb5 rfl) (op_index b0 sB_37 rfl rfl rfl (rds_row 2 rfl rfl) rfl (by omega)) ?_
      refine e_q 29 rfl (wn_some rfl rfl rfl hb5 rfl) (op_ldaw (L := rootC _) ag_24 (rds_row 2 rfl rfl) rfl (by omega) rfl (rootC_ta _)) ?_
      refine e_q 30 rfl (wn_some rfl rfl rfl hb5 rfl) (op_move (v := .pointer _) rfl) ?_
      refine e_q 31 rfl (wn_some rfl rfl rfl hb5 rfl) (op_nilck rfl) ?_
      refine e_q 32 rfl (wn_some rfl rfl rfl hb5 rfl) (op_field fld_47_0 rfl) ?_
      refine e_q 33 rfl (wn_some rfl rfl rfl hb5 rfl) (op_ld 5 sc_45 rfl rfl rfl) ?_
      refine e_q 34 rfl (wn_some rfl rfl rfl hb5 rfl) (op_nilck rfl) ?_
      refine e_q 35 rfl (wn_some rfl rfl rfl hb5 rfl) (op_field fld_44_0 rfl) ?_
      refine e_q 36 rfl (wn_some rfl rfl rfl hb5 rfl) (op_ld 1 sc_37 rfl rfl rfl) ?_
      refine e_q 37 rfl (wn_some rfl rfl rfl hb5 rfl) (op_move (v := .int _ _) rfl) ?_
      refine e_q 38 rfl (wn_some rfl rfl rfl hb5 rfl) (op_index (kidsI t.nodes o.length i)[j] sB_37 rfl rfl rfl (rds_row 2 rfl rfl) rfl (by omega)) ?_
      refine e_q 39 rfl (wn_some rfl rfl rfl hb5 rfl) (op_ldaw (L := rootC _) ag_24 (rds_row 2 rfl rfl) rfl (by omega) rfl (rootC_ta _)) ?_
      refine et_1 (i := 40) (by kernel_rfl) ?_
      refine ei_i rfl rfl (wn_some rfl rfl rfl hb5 rfl) (os_call cb_82 rfl (fun w s => RLess_calls _ _  s )) rfl ?_; rintro _ l ⟨rfl, rfl⟩; rw [hRr, hRr]; refine ⟨[], rfl, ?_⟩
      refine e_q 41 rfl (wn_some rfl rfl rfl hb4 rfl) (op_pick_t (v := .bool _) rfl hb5 rfl) ?_
      refine e_q 42 rfl (wn_none rfl) (op_pick_f (v := .bool _) rfl hb4 rfl) ?_
      refine et_nil_then (by kernel_rfl) ?_
      refine cd_cond rfl (fun hb6 => ?_) (fun hb6 => ?_)
      ·have hp6 := hb6
       (try simp only [bn] at hp6)
       have hah : aheadN t.nodes (sumN t.nodes o) (kidsI t.nodes o.length i)[j] (bestF t.nodes (sumN t.nodes o) ((kidsI t.nodes o.length i).take j)) = true := by rw [hb0]; unfold aheadN beats; rw [Int.toNat_natCast, decide_eq_false (show ¬ ((b0 : Nat) : Int) < 0 by omega), decide_eq_false (show ¬ sumN t.nodes o b0 < sumN t.nodes o (kidsI t.nodes o.length i)[j] by omega), decide_eq_true (show sumN t.nodes o (kidsI t.nodes o.length i)[j] = sumN t.nodes o b0 by omega)]; exact hb6
       refine cd_region ?_
       refine oq (op_move (v := .int _ _) rfl) ?_
       refine oq (op_assign (v := .int _ _) rfl) ?_
       refine ol_nil ?_
       refine px_blockN ?_
       refine px_then ?_
       refine cd_region ?_
       refine oq (op_add rfl rfl (by omega) (by omega)) ?_
       refine oq (op_move (v := .int _ _) rfl) ?_
       refine ol_nil ?_
       rw [hah] at hsn
       have eB : (bestF t.nodes (sumN t.nodes o) ((kidsI t.nodes o.length i).take (j + 1))) = (((kidsI t.nodes o.length i)[j] : Nat) : Int) := by rw [hsn]; rfl
       refine px_loop2 (j + 1) (by rw [castL_len]; omega) (by (try dsimp only); rw [castL_len]; omega) ⟨congrArg (Value.int .i64) eB.symm, congrArg (Value.int .i64) (by simp), trivial⟩ ?_ (fun _ s => s)
       repeat (first | exact kept_over | refine kept_upd rfl ?_ | refine kept_overS (by decide) ?_)
      ·have hp6 := hb6
       (try simp only [bn] at hp6)
       have hah : aheadN t.nodes (sumN t.nodes o) (kidsI t.nodes o.length i)[j] (bestF t.nodes (sumN t.nodes o) ((kidsI t.nodes o.length i).take j)) = false := by rw [hb0]; unfold aheadN beats; rw [Int.toNat_natCast, decide_eq_false (show ¬ ((b0 : Nat) : Int) < 0 by omega), decide_eq_false (show ¬ sumN t.nodes o b0 < sumN t.nodes o (kidsI t.nodes o.length i)[j] by omega), decide_eq_true (show sumN t.nodes o (kidsI t.nodes o.length i)[j] = sumN t.nodes o b0 by omega)]; exact hb6
       refine cd_skip ?_
       refine px_blockN ?_
       refine px_then ?_
       refine cd_region ?_
       refine oq (op_add rfl rfl (by omega) (by omega)) ?_
       refine oq (op_move (v := .int _ _) rfl) ?_
       refine ol_nil ?_
       rw [hah] at hsn
       have eB : (bestF t.nodes (sumN t.nodes o) ((kidsI t.nodes o.length i).take (j + 1))) = (bestF t.nodes (sumN t.nodes o) ((kidsI t.nodes o.length i).take j)) := by rw [hsn]; rfl
       refine px_loop2 (j + 1) (by rw [castL_len]; omega) (by (try dsimp only); rw [castL_len]; omega) ⟨congrArg (Value.int .i64) (hb0.symm.trans eB.symm), congrArg (Value.int .i64) (by simp), trivial⟩ ?_ (fun _ s => s)
       repeat (first | exact kept_over | refine kept_upd rfl ?_ | refine kept_overS (by decide) ?_)
     ·have hp5 := hb5
      (try simp only [bn] at hp5)
      have hah : aheadN t.nodes (sumN t.nodes o) (kidsI t.nodes o.length i)[j] (bestF t.nodes (sumN t.nodes o) ((kidsI t.nodes o.length i).take j)) = false := by rw [hb0]; unfold aheadN beats; rw [Int.toNat_natCast, decide_eq_false (show ¬ ((b0 : Nat) : Int) < 0 by omega), decide_eq_false (show ¬ sumN t.nodes o b0 < sumN t.nodes o (kidsI t.nodes o.length i)[j] by omega), decide_eq_false (show ¬ sumN t.nodes o (kidsI t.nodes o.length i)[j] = sumN t.nodes o b0 by omega)]; rfl
      refine et_skip 20 (by kernel_rfl) rfl (by kernel_rfl) (wn_some rfl rfl rfl hb5 rfl) rfl ?_
      refine et_skip 21 (by kernel_rfl) rfl (by kernel_rfl) (wn_some rfl rfl rfl hb5 rfl) rfl ?_
      refine et_skip 22 (by kernel_rfl) rfl (by kernel_rfl) (wn_some rfl rfl rfl hb5 rfl) rfl ?_
      refine et_skip 23 (by kernel_rfl) rfl (by kernel_rfl) (wn_some rfl rfl rfl hb5 rfl) rfl ?_
      refine et_skip 24 (by kernel_rfl) rfl (by kernel_rfl) (wn_some rfl rfl rfl hb5 rfl) rfl ?_
      refine et_skip 25 (by kernel_rfl) rfl (by kernel_rfl) (wn_some rfl rfl rfl hb5 rfl) rfl ?_
      refine et_skip 26 (by kernel_rfl) rfl (by kernel_rfl) (wn_some rfl rfl rfl hb5 rfl) rfl ?_
      refine et_skip 27 (by kernel_rfl) rfl (by kernel_rfl) (wn_some rfl rfl rfl hb5 rfl) rfl ?_
      refine et_skip 28 (by kernel_rfl) rfl (by kernel_rfl) (wn_some rfl rfl rfl hb5 rfl) rfl ?_
      refine et_skip 29 (by kernel_rfl) rfl (by kernel_rfl) (wn_some rfl rfl rfl hb5 rfl) rfl ?_
      refine et_skip 30 (by kernel_rfl) rfl (by kernel_rfl) (wn_some rfl rfl rfl hb5 rfl) rfl ?_
      refine et_skip 31 (by kernel_rfl) rfl (by kernel_rfl) (wn_some rfl rfl rfl hb5 rfl) rfl ?_
      refine et_skip 32 (by kernel_rfl) rfl (by kernel_rfl) (wn_some rfl rfl rfl hb5 rfl) rfl ?_
      refine et_skip 33 (by kernel_rfl) rfl (by kernel_rfl) (wn_some rfl rfl rfl hb5 rfl) rfl ?_
      refine et_skip 34 (by kernel_rfl) rfl (by kernel_rfl) (wn_some rfl rfl rfl hb5 rfl) rfl ?_
      refine et_skip 35 (by kernel_rfl) rfl (by kernel_rfl) (wn_some rfl rfl rfl hb5 rfl) rfl ?_
      refine et_skip 36 (by kernel_rfl) rfl (by kernel_rfl) (wn_some rfl rfl rfl hb5 rfl) rfl ?_
      refine et_skip 37 (by kernel_rfl) rfl (by kernel_rfl) (wn_some rfl rfl rfl hb5 rfl) rfl ?_
      refine et_skip 38 (by kernel_rfl) rfl (by kernel_rfl) (wn_some rfl rfl rfl hb5 rfl) rfl ?_
      refine et_skip 39 (by kernel_rfl) rfl (by kernel_rfl) (wn_some rfl rfl rfl hb5 rfl) rfl ?_
      refine et_1 (i := 40) (by kernel_rfl) ?_
      refine ei_skip rfl (wn_some rfl rfl rfl hb5 rfl) rfl ?_
      refine e_q 41 rfl (wn_some rfl rfl rfl hb4 rfl) (op_pick_f (v := .bool _) rfl hb5 rfl) ?_
      refine e_q 42 rfl (wn_none rfl) (op_pick_f (v := .bool _) rfl hb4 rfl) ?_
      refine et_nil_then (by kernel_rfl) ?_
      refine cd_cond_f rfl rfl ?_
      refine cd_skip ?_
      refine px_blockN ?_
      refine px_then ?_
      refine cd_region ?_
      refine oq (op_add rfl rfl (by omega) (by omega)) ?_
      refine oq (op_move (v := .int _ _) rfl) ?_
      refine ol_nil ?_
      rw [hah] at hsn
      have eB : (bestF t.nodes (sumN t.nodes o) ((kidsI t.nodes o.length i).take (j + 1))) = (bestF t.nodes (sumN t.nodes o) ((kidsI t.nodes o.length i).take j)) := by rw [hsn]; rfl
      refine px_loop2 (j + 1) (by rw [castL_len]; omega) (by (try dsimp only); rw [castL_len]; omega) ⟨congrArg (Value.int .i64) (hb0.symm.trans eB.symm), congrArg (Value.int .i64) (by simp), trivial⟩ ?_ (fun _ s => s)
      repeat (first | exact kept_over | refine kept_upd rfl ?_ | refine kept_overS (by decide) ?_)
  ·have hp2 := hb2
   (try simp only [bn] at hp2)
   have hj1 : j = (kidsI t.nodes o.length i).length := by rw [castL_len] at hj hp2; omega
   rw [hj1, List.take_length]
   have hbi := bestF_is hnd (sumN t.nodes o) (kidsI t.nodes o.length i) (fun k hk => by have := kidsI_gt hpa (n := o.length) h1 hk; omega)
   refine cd_exit ?_
   refine px_thenE ?_
   refine px_thenE ?_
   refine px_blockE ?_
   refine px_then ?_
   refine cd_seq ?_
   refine cd_sr ?_
   refine oq (op_move (v := .int _ _) rfl) ?_
   refine oq (op_lt rfl rfl) ?_
   refine ol_nil_then ?_
   refine cd_cond rfl (fun hb7 => ?_) (fun hb7 => ?_)
   ·have hp7 := hb7
    (try simp only [bn] at hp7)
    refine cd_sr ?_
    refine oq (op_buildr rfl rB_24 zBr_24) ?_
    refine ol_pull7 ?_
    refine oN (os_storera _ ag_24 rfl rfl (Free.zero _)) ?_; rintro _ _ ⟨rfl, rfl⟩
    refine oq (op_assign (v := .bool _) rfl) ?_
    refine ol_nil_then ?_
    refine cd_ret ?_
    refine px_thenR ?_
    have hR0 : bestR t o r = (Root.zero, false) := bestR_no (by unfold bestI; rw [hof]; dsimp only; rw [hbc]; omega)
    exact px_rv2 rfl (rv_cella 0 ag_24 rfl rfl (rootC_take' _) (by simp [rootC_len])) (rv_tmp (v := .bool _) rfl)  (fun _ s => (((s.del 8).del 1).del 0)) ⟨by rw [hR0] <;> rfl, rfl⟩
   ·have hp7 := hb7
    (try simp only [bn] at hp7)
    obtain ⟨b9, hb9, hb8⟩ : ∃ b9 : Nat, bestF t.nodes (sumN t.nodes o) (kidsI t.nodes o.length i) = b9 ∧ b9 < o.length := by
     rcases hbi with ⟨_, h⟩ | ⟨k, h, h2, _⟩
     ·omega
     ·exact ⟨k, h, (kidsI_gt hpa (n := o.length) h1 h2).2⟩
    rw [hb9]
    refine cd_skip ?_
    refine px_then ?_
    refine cd_sr ?_
    refine oq (op_move (v := .pointer _) rfl) ?_
    refine oq (op_nilck rfl) ?_
    refine oq (op_field fld_47_0 rfl) ?_
    refine oq (op_ld 5 sc_45 rfl rfl rfl) ?_
    refine oq (op_nilck rfl) ?_
    refine oq (op_field fld_44_0 rfl) ?_
    refine oq (op_ld 1 sc_37 rfl rfl rfl) ?_
    refine oq (op_move (v := .int _ _) rfl) ?_
    refine oq (op_index b9 sB_37 rfl rfl rfl (rds_row 2 rfl rfl) rfl (by omega)) ?_
    refine oq (op_ldaw (L := rootC _) ag_24 (rds_row 2 rfl rfl) rfl (by omega) rfl (rootC_ta _)) ?_
    refine ol_pull7 ?_
    refine oN (os_storera _ ag_24 rfl rfl (Free.zero _)) ?_; rintro _ _ ⟨rfl, rfl⟩
    refine oq (op_assign (v := .bool _) rfl) ?_
    refine ol_nil_then ?_
    refine cd_ret ?_
    have hR0 : bestR t o r = (rtA t.nodes b9, true) := bestR_yes (by unfold bestI; rw [hof]; dsimp only; rw [hbc, hb9]; omega)
    have hRv : R[b9] = rtA t.nodes b9 := hRr _ _
    exact px_rv2 rfl (rv_cella 0 ag_24 rfl rfl (rootC_take' _) (by simp [rootC_len])) (rv_tmp (v := .bool _) rfl)  (fun _ s => (((s.del 8).del 1).del 0)) ⟨by rw [hR0] <;> (first | rfl | (rw [hRv])), rfl⟩
end Go.SL

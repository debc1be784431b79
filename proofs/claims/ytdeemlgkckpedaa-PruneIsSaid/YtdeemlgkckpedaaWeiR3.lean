import Derived.Test.YtdeemlgkckpedaaWeiR2
set_option linter.unusedVariables false
set_option linter.unusedSimpArgs false
namespace Go.SL
open Go.Proofs

set_option maxRecDepth 100000 in
set_option maxHeartbeats 1000000 in
theorem RApply_calls {w0 w : World} {l : List HProp} (pm pr : Nat) (t : TreeS) (o : List Int) (lo : Option Addr) (lc : Nat) (xs : List Delta) (hs : Sat w0 w ((RTreeObj pr t) :: (RWObj pm pr o) :: l)) (h1 : o.length ≤ t.nodes.length) (hok : OwnOK o) (hr : Rds w0 l encDelta lo xs) (hxl : xs.length ≤ 1000) :
  Calls Try.prog 53 #[.pointer (some ⟨pm, 0, none⟩), .slice lo xs.length lc] w (Ret w0 fun v l' => v = .int .i64 (applyO t.nodes o xs).1 ∧ l' = RTreeObj pr t :: RWObj pm pr (applyO t.nodes o xs).2 :: l) := by
 have hne := hs.rtreeWF.ne
 obtain ⟨a1, c1, a2, c2, a3, c3, R, Sl, Pa, hw, hR, hs⟩ := hs.rtreeOpen
 obtain ⟨a4, c4, hs⟩ := (hs.pull 4).rwOpen
 have hle := hw.le; have hm2 := hw.m2; have hpa := hw.pa; have hnd := hw.nd
 have hRl : R.length = t.nodes.length := by rw [hR.r, List.length_map]
 have hSl : Sl.length = t.nodes.length := by rw [hR.s, List.length_map]
 have hPl : Pa.length = t.nodes.length := by rw [hR.p]; unfold parR; rw [List.length_map]
 have hpl : ∀ r, rplace R r = t.place r := fun r => by rw [hR.r, rplace_map]
 have hgl := growO_len h1
 have hgo : OwnOK (growO t.nodes.length o) := hok.zeros _
 have hen := hgo.ent
 refine calls_enter Try.func53 rfl rfl rfl hs ?_
 refine cd_sr ?_
 refine oq (op_assign (v := .int _ _) rfl) ?_
 refine ol_nil_then ?_
 refine cd_seq ?_
 refine cd_block ?_
 refine cd_pull1 ?_
 refine cd_pull1 ?_
 refine cd_loop2 (α := Nat × Option Addr × Nat) [(12, 34)] (fun x => []) (fun x => Blk pm (.cells #[.pointer (some ⟨pr, 0, none⟩), .slice x.2.1 (o ++ List.replicate x.1 (0 : Int)).length x.2.2, .int .i64 (o.length : Int)] 47 (0, 0)) :: Row 3 encI64 (.slice x.2.1 (o ++ List.replicate x.1 (0 : Int)).length x.2.2) (o ++ List.replicate x.1 (0 : Int)) :: _) (fun x => x.1 ≤ (t.nodes.length - o.length)) (fun x => (t.nodes.length - o.length) - x.1) (0, a4, c4) (Nat.zero_le _) trivial (fun _ s => by (try dsimp only); simp only [List.replicate_zero, List.append_nil]; exact s) ?_
 rintro ⟨i, b4, d4⟩ hi f; (try dsimp only at hi ⊢)
 refine cd_seq ?_
 refine cd_seq ?_
 refine cd_draw (M := []) mx [] (by kernel_rfl) ?_
 refine rg_q (wn_none rfl) (op_move (v := .pointer _) rfl) rfl rfl ?_
 refine rg_q (wn_none rfl) (op_nilck rfl) rfl rfl ?_
 refine rg_q (wn_none rfl) (op_field fld_47_1 rfl) rfl rfl ?_
 refine rg_q (wn_none rfl) (op_ld 0 sc_42 rfl rfl rfl) rfl rfl ?_
 refine rg_q (wn_none rfl) (op_len_slice Try.underlying42 rfl) rfl rfl ?_
 refine rg_q (wn_none rfl) (op_move (v := .pointer _) rfl) rfl rfl ?_
 refine rg_q (wn_none rfl) (op_nilck rfl) rfl rfl ?_
 refine rg_q (wn_none rfl) (op_field fld_47_0 rfl) rfl rfl ?_
 refine rg_q (wn_none rfl) (op_ld 0 sc_45 rfl rfl rfl) rfl rfl ?_
 refine rg_q (wn_none rfl) (op_nilck rfl) rfl rfl ?_
 refine rg_q (wn_none rfl) (op_field fld_44_0 rfl) rfl rfl ?_
 refine rg_q (wn_none rfl) (op_ld 2 sc_37 rfl rfl rfl) rfl rfl ?_
 refine rg_q (wn_none rfl) (op_len_slice Try.underlying37 rfl) rfl rfl ?_
 refine rg_q (wn_none rfl) (op_lt rfl rfl) rfl rfl ?_
 refine rg_nil_then0 ?_
 refine cd_cond rfl (fun hb1 => ?_) (fun hb1 => ?_)
 ·have hp1 := hb1
  (try simp only [bn] at hp1)
  have hi1 : i < (t.nodes.length - o.length) := by rw [List.length_append, List.length_replicate] at hp1; omega
  refine cd_skip ?_
  refine px_then ?_
  refine cd_block ?_
  refine cd_region ?_
  refine oq (op_move (v := .pointer _) rfl) ?_
  refine oq (op_move (v := .pointer _) rfl) ?_
  refine oq (op_nilck rfl) ?_
  refine oq (op_field fld_47_1 rfl) ?_
  refine oq (op_ld 0 sc_42 rfl rfl rfl) ?_
  refine oi (os_bslice (E := encI64) [_] (ys := [_]) sB_42 zv_3 rfl rfl rfl rfl (by decide)) ?_; rintro _ _ ⟨ao1, rfl, rfl⟩
  refine ol_pull2 ?_
  refine oi (os_append (E := encI64) rfl sB_42 zv_3 rfl rfl rfl (fun w s => (rds_row 1 rfl rfl) [] w s) rfl (by simp; omega) (by unfold maxLen; simp; omega)) ?_; rintro _ _ ⟨ao2, ac2, rfl, rfl⟩
  refine oq (op_nilck rfl) ?_
  refine oq (op_field fld_47_1 rfl) ?_
  refine ol_pull2 ?_
  refine oN (os_store (v := .slice _ _ _) sc_42 rfl rfl rfl rfl (Free.zero _) rfl) ?_; rintro _ _ ⟨rfl, rfl⟩
  refine ol_nil ?_
  refine px_blockN ?_
  refine px_loop2 (i + 1, ao2, ac2) (by dsimp only; omega) (by (try dsimp only); omega) trivial ?_ (fun _ s => (by (try dsimp only); simp only [← rep_snoc]; exact (s.del 2)))
  repeat (first | exact kept_over | refine kept_upd rfl ?_ | refine kept_overS (by decide) ?_)
 ·have hp1 := hb1
  (try simp only [bn] at hp1)
  refine cd_exit ?_
  refine px_thenE ?_
  refine px_thenE ?_
  refine px_blockE ?_
  refine px_then ?_
  have ei : i = (t.nodes.length - o.length) := by rw [List.length_append, List.length_replicate] at hp1; omega
  subst ei
  rw [show o ++ List.replicate (t.nodes.length - o.length) (0 : Int) = growO t.nodes.length o from rfl]
  refine cd_sr ?_
  refine oq (op_move (v := .pointer _) rfl) ?_
  refine oq (op_move (v := .pointer _) rfl) ?_
  refine oq (op_nilck rfl) ?_
  refine oq (op_field fld_47_0 rfl) ?_
  refine oq (op_ld 0 sc_45 rfl rfl rfl) ?_
  refine oq (op_nilck rfl) ?_
  refine oq (op_field fld_44_0 rfl) ?_
  refine oq (op_ld 2 sc_37 rfl rfl rfl) ?_
  refine oq (op_len_slice Try.underlying37 rfl) ?_
  refine oq (op_nilck rfl) ?_
  refine oq (op_field fld_47_2 rfl) ?_
  refine oN (os_store (v := .int _ _) sc_3 rfl rfl rfl rfl (Free.zero _) rfl) ?_; rintro _ _ ⟨rfl, rfl⟩
  refine ol_nil_then ?_
  refine cd_sr ?_
  refine oi (os_bslice (E := encI64) [] (ys := ([] : List Int)) sB_42 zv_3 rfl rfl rfl rfl (by decide)) ?_; rintro _ _ ⟨ao3, rfl, rfl⟩
  refine oq (op_move (v := .pointer _) rfl) ?_
  refine oq (op_nilck rfl) ?_
  refine oq (op_field fld_47_1 rfl) ?_
  refine oq (op_ld 1 sc_42 rfl rfl rfl) ?_
  refine oi (os_append (E := encI64) rfl sB_42 zv_3 rfl rfl rfl (fun w s => (rds_row 2 rfl rfl) [] w s) rfl (by simp; omega) (by unfold maxLen; simp; omega)) ?_; rintro _ _ ⟨ao4, ac4, rfl, rfl⟩
  refine oq (op_assign (v := .slice _ _ _) rfl) ?_
  refine ol_nil_then ?_
  refine cd_seq ?_
  refine cd_sr ?_
  refine oq (op_move (v := .slice _ _ _) rfl) ?_
  refine oq (op_len_slice Try.underlying98 rfl) ?_
  refine oq (op_move (v := .int _ _) rfl) ?_
  refine ol_nil_then ?_
  refine cd_block ?_
  refine cd_loop2 (α := Nat × List Int) [(4, 4), (7, 8), (54, 97)] (fun x => [(54, .int .i64 (x.1 : Int))]) (fun x => Row 3 encI64 (.slice ao4 ([] ++ (growO t.nodes.length o)).length ac4) x.2 :: _) (fun x => x.1 ≤ xs.length ∧ runO t.nodes (growO t.nodes.length o) (xs.take x.1) = (0, x.2)) (fun x => xs.length - x.1) (0, [] ++ (growO t.nodes.length o)) ⟨Nat.zero_le _, by rw [List.take_zero]; rfl⟩ ⟨rfl, trivial⟩ (fun _ s => s) ?_
  rintro ⟨i, cur⟩ ⟨hi, hrun⟩ f; (try dsimp only at hi hrun ⊢)
  have hcl := runO_len t.nodes (xs.take i) (growO t.nodes.length o)
  have hent := runO_ent (ns := t.nodes) (xs.take i) hen
  rw [hrun] at hcl hent
  dsimp only at hcl hent
  have hcl0 : ([] ++ (growO t.nodes.length o)).length = cur.length := by rw [List.nil_append]; exact hcl.symm
  refine cd_sr ?_
  refine oq (op_lt rfl rfl) ?_
  refine ol_nil_then ?_
  refine cd_seq ?_
  refine cd_cond rfl (fun hb2 => ?_) (fun hb2 => ?_)
  ·have hp2 := hb2
   (try simp only [bn] at hp2)
   have hi1 : i < xs.length := by omega
   refine cd_skip ?_
   refine px_then ?_
   refine cd_seq ?_
   refine cd_block ?_
   refine cd_sr ?_
   refine oq (op_index i sB_98 rfl rfl rfl (((((((hr.cons _).cons _).cons _).cons _).cons _).cons _).cons _) rfl (by omega)) ?_
   refine oq (op_ldaw (L := deltaC _) ag_103 (((((((hr.cons _).cons _).cons _).cons _).cons _).cons _).cons _) rfl (by omega) rfl (deltaC_ta _)) ?_
   refine oi (os_alloc (cs := (deltaC Delta.zero).toArray) zB_103 (by kernel_rfl)) ?_; rintro _ _ ⟨bx1, rfl, rfl⟩
   refine oN (os_storew (deltaC _) ag_103 rfl rfl (deltaC_len _) (deltaC_one _) (by simp [deltaC_len]) (Free.zero _)) ?_; rintro _ _ ⟨rfl, rfl⟩
   refine ol_nil_then ?_
   refine cd_seq ?_
   refine cd_draw (M := []) mx [6] (by kernel_rfl) ?_
   refine rg_q (wn_none rfl) (op_move (v := .pointer _) rfl) rfl rfl ?_
   refine rg_q (wn_none rfl) (op_nilck rfl) rfl rfl ?_
   refine rg_q (wn_none rfl) (op_field fld_47_0 rfl) rfl rfl ?_
   refine rg_q (wn_none rfl) (op_ld 2 sc_45 rfl rfl rfl) rfl rfl ?_
   refine rg_q (wn_none rfl) (op_field fld_103_0 rfl) rfl rfl ?_
   refine rg_q (wn_none rfl) (op_lda (L := rootC _) 0 ag_24 rfl rfl (deltaC_af0 _) (by simp [deltaC_len])) rfl rfl ?_
   refine rg_i (wn_none rfl) (os_back (os_pull5 (os_pull5 (os_call cb_49 rfl (fun w s => RPlaceO_calls _ _ _ _ _ _ _ _  s )))) (fun _ s => ((((((((s.pull 7).pull 7).pull 3).pull 3).pull 7).pull 7).pull 7).pull 7))) rfl rfl ?_; rintro _ _ ⟨rfl, rfl⟩; rw [hpl]; refine ⟨[], rfl, ?_⟩
   refine rg_q (wn_none rfl) (op_assign (v := .int _ _) rfl) rfl rfl ?_
   refine rg_nil_then0 ?_
   refine cd_seq ?_
   refine cd_sr ?_
   refine oq (op_move (v := .int _ _) rfl) ?_
   refine oq (op_lt rfl rfl) ?_
   refine ol_nil_then ?_
   refine cd_cond rfl (fun hb3 => ?_) (fun hb3 => ?_)
   ·have hp3 := hb3
    (try simp only [bn] at hp3)
    have hno : idxOf t.nodes xs[i].root = none := TreeS.place_none (by omega)
    refine cd_sr ?_
    refine oq (op_assign (v := .int _ _) rfl) ?_
    refine ol_nil_then ?_
    refine cd_ret ?_
    refine px_thenR ?_
    refine px_blockR ?_
    refine px_thenR ?_
    refine px_thenR ?_
    refine px_blockR ?_
    refine px_thenR ?_
    have hnx : nextO t.nodes (growO t.nodes.length o) xs = 7 := runO_fail hi1 hrun (stepO_none hno) (by decide)
    rw [applyO_err (by rw [hnx]; decide), hnx]
    exact px_ret1 rfl (v := .int _ 7) (l' := RTreeObj pr t :: RWObj pm pr (growO t.nodes.length o) :: l) rfl (fun _ s => (by
     have s2 : Sat _ _ (RWObj pm pr (growO t.nodes.length o) :: Blk pr (.cells #[.slice a1 R.length c1, .slice a2 Sl.length c2, .slice a3 Pa.length c3, .int .i64 t.most] 44 (0, 0)) :: Row 24 encRoot (.slice a1 R.length c1) R :: Row 3 encI64 (.slice a2 Sl.length c2) Sl :: Row 24 encRoot (.slice a3 Pa.length c3) Pa :: l) := Sat.rwMk rfl (by rw [hRl]; exact hgl.symm) ((s.del 1).del 0)
     have s3 : Sat _ _ (Blk pr (.cells #[.slice a1 R.length c1, .slice a2 Sl.length c2, .slice a3 Pa.length c3, .int .i64 t.most] 44 (0, 0)) :: Row 24 encRoot (.slice a1 R.length c1) R :: Row 3 encI64 (.slice a2 Sl.length c2) Sl :: Row 24 encRoot (.slice a3 Pa.length c3) Pa :: RWObj pm pr (growO t.nodes.length o) :: l) := (((s2.pull 4).pull 4).pull 4).pull 4
     exact Sat.rtreeMk hw hR rfl rfl rfl s3)) ⟨rfl, rfl⟩
   ·have hp3 := hb3
    (try simp only [bn] at hp3)
    obtain ⟨j0, hij, hpj⟩ := TreeS.place_some (t := t) (r := xs[i].root) (by omega)
    have hjl := idxOf_lt hij
    have hej := hent j0
    rw [oA_get (show j0 < cur.length by omega)] at hej
    refine cd_skip ?_
    refine px_then ?_
    refine cd_seq ?_
    refine cd_sr ?_
    refine oq (op_field fld_103_1 rfl) ?_
    refine oq (op_ld 0 sc_3 rfl rfl (deltaC_a32 _)) ?_
    refine oq (op_le rfl rfl) ?_
    refine oq (op_move (v := .bool _) rfl) ?_
    refine ol_split 70 rfl (fun hb4 => ?_) (fun hb4 => ?_)
    ·have hp4 := hb4
     (try simp only [bn] at hp4)
     have hdd : xs[i].n ≤ -4611686018427387904 ∨ 4611686018427387904 ≤ xs[i].n := by omega
     refine ol_skip (wn_some rfl rfl rfl hb4 rfl) rfl ?_
     refine ol_skip (wn_some rfl rfl rfl hb4 rfl) rfl ?_
     refine ol_skip (wn_some rfl rfl rfl hb4 rfl) rfl ?_
     refine oq (op_pick_t (v := .bool _) rfl hb4 rfl) ?_
     refine ol_nil_then ?_
     refine cd_cond_t rfl rfl ?_
     refine cd_sr ?_
     refine oq (op_assign (v := .int _ _) rfl) ?_
     refine ol_nil_then ?_
     refine cd_ret ?_
     refine px_thenR ?_
     refine px_blockR ?_
     refine px_thenR ?_
     refine px_thenR ?_
     refine px_blockR ?_
     refine px_thenR ?_
     have hnx : nextO t.nodes (growO t.nodes.length o) xs = 1 := runO_fail hi1 hrun (stepO_arg hij hdd) (by decide)
     rw [applyO_err (by rw [hnx]; decide), hnx]
     exact px_ret1 rfl (v := .int _ 1) (l' := RTreeObj pr t :: RWObj pm pr (growO t.nodes.length o) :: l) rfl (fun _ s => (by
      have s2 : Sat _ _ (RWObj pm pr (growO t.nodes.length o) :: Blk pr (.cells #[.slice a1 R.length c1, .slice a2 Sl.length c2, .slice a3 Pa.length c3, .int .i64 t.most] 44 (0, 0)) :: Row 24 encRoot (.slice a1 R.length c1) R :: Row 3 encI64 (.slice a2 Sl.length c2) Sl :: Row 24 encRoot (.slice a3 Pa.length c3) Pa :: l) := Sat.rwMk rfl (by rw [hRl]; exact hgl.symm) ((s.del 1).del 0)
      have s3 : Sat _ _ (Blk pr (.cells #[.slice a1 R.length c1, .slice a2 Sl.length c2, .slice a3 Pa.length c3, .int .i64 t.most] 44 (0, 0)) :: Row 24 encRoot (.slice a1 R.length c1) R :: Row 3 encI64 (.slice a2 Sl.length c2) Sl :: Row 24 encRoot (.slice a3 Pa.length c3) Pa :: RWObj pm pr (growO t.nodes.length o) :: l) := (((s2.pull 4).pull 4).pull 4).pull 4
      exact Sat.rtreeMk hw hR rfl rfl rfl s3)) ⟨rfl, rfl⟩
    ·have hp4 := hb4
     (try simp only [bn] at hp4)
     refine ol_q (wn_some rfl rfl rfl hb4 rfl) (op_field fld_103_1 rfl) rfl ?_
     refine ol_q (wn_some rfl rfl rfl hb4 rfl) (op_ld 0 sc_3 rfl rfl (deltaC_a32 _)) rfl ?_
     refine ol_q (wn_some rfl rfl rfl hb4 rfl) (op_ge rfl rfl) rfl ?_
     refine oq (op_pick_f (v := .bool _) rfl hb4 rfl) ?_
     refine ol_nil_then ?_
     refine cd_cond rfl (fun hb5 => ?_) (fun hb5 => ?_)
     ·have hp5 := hb5
      (try simp only [bn] at hp5)
      have hdd : xs[i].n ≤ -4611686018427387904 ∨ 4611686018427387904 ≤ xs[i].n := by omega
      refine cd_sr ?_
      refine oq (op_assign (v := .int _ _) rfl) ?_
      refine ol_nil_then ?_
      refine cd_ret ?_
      refine px_thenR ?_
      refine px_blockR ?_
      refine px_thenR ?_
      refine px_thenR ?_
      refine px_blockR ?_
      refine px_thenR ?_
      have hnx : nextO t.nodes (growO t.nodes.length o) xs = 1 := runO_fail hi1 hrun (stepO_arg hij hdd) (by decide)
      rw [applyO_err (by rw [hnx]; decide), hnx]
      exact px_ret1 rfl (v := .int _ 1) (l' := RTreeObj pr t :: RWObj pm pr (growO t.nodes.length o) :: l) rfl (fun _ s => (by
       have s2 : Sat _ _ (RWObj pm pr (growO t.nodes.length o) :: Blk pr (.cells #[.slice a1 R.length c1, .slice a2 Sl.length c2, .slice a3 Pa.length c3, .int .i64 t.most] 44 (0, 0)) :: Row 24 encRoot (.slice a1 R.length c1) R :: Row 3 encI64 (.slice a2 Sl.length c2) Sl :: Row 24 encRoot (.slice a3 Pa.length c3) Pa :: l) := Sat.rwMk rfl (by rw [hRl]; exact hgl.symm) ((s.del 1).del 0)
       have s3 : Sat _ _ (Blk pr (.cells #[.slice a1 R.length c1, .slice a2 Sl.length c2, .slice a3 Pa.length c3, .int .i64 t.most] 44 (0, 0)) :: Row 24 encRoot (.slice a1 R.length c1) R :: Row 3 encI64 (.slice a2 Sl.length c2) Sl :: Row 24 encRoot (.slice a3 Pa.length c3) Pa :: RWObj pm pr (growO t.nodes.length o) :: l) := (((s2.pull 4).pull 4).pull 4).pull 4
       exact Sat.rtreeMk hw hR rfl rfl rfl s3)) ⟨rfl, rfl⟩
     ·have hp5 := hb5
      (try simp only [bn] at hp5)
      have hd : ¬ (xs[i].n ≤ -4611686018427387904 ∨ 4611686018427387904 ≤ xs[i].n) := by omega
      have hcj : oA cur j0 = cur[j0] := oA_get (by omega)
      refine cd_skip ?_
      refine px_then ?_
      refine cd_seq ?_
      refine cd_drawt (M := []) mx [4, 5, 9] 10 (by kernel_rfl) rfl rfl ?_
      dsimp only [List.take_succ_cons, List.take_zero, List.drop_succ_cons, List.drop_zero]
      refine rg_q (wn_none rfl) (op_move (v := .slice _ _ _) rfl) rfl rfl ?_
      refine rg_q (wn_none rfl) (op_move (v := .int _ _) rfl) rfl rfl ?_
      refine rg_q (wn_none rfl) (op_move (v := .slice _ _ _) rfl) rfl rfl ?_
      refine rg_q (wn_none rfl) (op_move (v := .int _ _) rfl) rfl rfl ?_
      refine rg_i (wn_none rfl) (os_q (op_index j0 sB_42 rfl rfl hpj (rds_row 1 rfl rfl) (by simp at hcl0 ⊢; omega) (by omega))) rfl rfl ?_; rintro _ _ ⟨rfl, rfl⟩; refine ⟨[], rfl, ?_⟩
      refine rg_i (wn_none rfl) (os_q (op_ldw sc_3 (rds_row 1 rfl rfl) rfl (by omega) rfl)) rfl rfl ?_; rintro _ _ ⟨rfl, rfl⟩; refine ⟨[], rfl, ?_⟩
      refine rg_q (wn_none rfl) (op_field fld_103_1 rfl) rfl rfl ?_
      refine rg_q (wn_none rfl) (op_ld 0 sc_3 rfl rfl (deltaC_a32 _)) rfl rfl ?_
      refine rg_q (wn_none rfl) (op_add rfl rfl (by omega) (by omega)) rfl rfl ?_
      refine rg_i (wn_none rfl) (os_q (op_index j0 sB_42 rfl rfl hpj (rds_row 1 rfl rfl) (by simp at hcl0 ⊢; omega) (by omega))) rfl rfl ?_; rintro _ _ ⟨rfl, rfl⟩; refine ⟨[], rfl, ?_⟩
      refine rg_tail0 ?_
      refine ol_pull1 ?_
      refine oN (os_stsw  sc_3 rfl rfl rfl (by omega) rfl rfl) ?_; rintro _ _ ⟨rfl, rfl⟩
      refine ol_nil_then ?_
      refine cd_sr ?_
      refine oq (op_move (v := .slice _ _ _) rfl) ?_
      refine oq (op_move (v := .int _ _) rfl) ?_
      refine oq (op_index j0 sB_42 rfl rfl hpj (rds_row 0 rfl rfl) (by simp at hcl0 ⊢; omega) (by rw [List.length_set]; omega)) ?_
      refine oq (op_ldw sc_3 (rds_row 0 rfl rfl) rfl (by rw [List.length_set]; omega) rfl) ?_
      refine oq (op_lt rfl rfl) ?_
      refine oq (op_move (v := .bool _) rfl) ?_
      refine ol_split 90 rfl (fun hb6 => ?_) (fun hb6 => ?_)
      ·have hp6 := hb6
       (try simp only [bn] at hp6)
       have hpS := hp6
       refine ol_skip (wn_some rfl rfl rfl hb6 rfl) rfl ?_
       refine ol_skip (wn_some rfl rfl rfl hb6 rfl) rfl ?_
       refine ol_skip (wn_some rfl rfl rfl hb6 rfl) rfl ?_
       refine ol_skip (wn_some rfl rfl rfl hb6 rfl) rfl ?_
       refine ol_skip (wn_some rfl rfl rfl hb6 rfl) rfl ?_
       refine oq (op_pick_t (v := .bool _) rfl hb6 rfl) ?_
       refine ol_nil_then ?_
       refine cd_cond_t rfl rfl ?_
       refine cd_sr ?_
       refine oq (op_assign (v := .int _ _) rfl) ?_
       refine ol_nil_then ?_
       refine cd_ret ?_
       refine px_blockR ?_
       refine px_thenR ?_
       refine px_thenR ?_
       refine px_blockR ?_
       refine px_thenR ?_
       have hnx : nextO t.nodes (growO t.nodes.length o) xs = 1 := runO_fail hi1 hrun (stepO_out hij hd (by rw [hcj]; have q9 := hpS; simp only [set_get] at q9; omega)) (by decide)
       rw [applyO_err (by rw [hnx]; decide), hnx]
       exact px_ret1 rfl (v := .int _ 1) (l' := RTreeObj pr t :: RWObj pm pr (growO t.nodes.length o) :: l) rfl (fun _ s => (by
        have s2 : Sat _ _ (RWObj pm pr (growO t.nodes.length o) :: Blk pr (.cells #[.slice a1 R.length c1, .slice a2 Sl.length c2, .slice a3 Pa.length c3, .int .i64 t.most] 44 (0, 0)) :: Row 24 encRoot (.slice a1 R.length c1) R :: Row 3 encI64 (.slice a2 Sl.length c2) Sl :: Row 24 encRoot (.slice a3 Pa.length c3) Pa :: l) := Sat.rwMk rfl (by rw [hRl]; exact hgl.symm) ((s.del 1).del 0)
        have s3 : Sat _ _ (Blk pr (.cells #[.slice a1 R.length c1, .slice a2 Sl.length c2, .slice a3 Pa.length c3, .int .i64 t.most] 44 (0, 0)) :: Row 24 encRoot (.slice a1 R.length c1) R :: Row 3 encI64 (.slice a2 Sl.length c2) Sl :: Row 24 encRoot (.slice a3 Pa.length c3) Pa :: RWObj pm pr (growO t.nodes.length o) :: l) := (((s2.pull 4).pull 4).pull 4).pull 4
        exact Sat.rtreeMk hw hR rfl rfl rfl s3)) ⟨rfl, rfl⟩
      ·have hp6 := hb6
       (try simp only [bn] at hp6)
       have hpF := hp6
       refine ol_q (wn_some rfl rfl rfl hb6 rfl) (op_move (v := .slice _ _ _) rfl) rfl ?_
       refine ol_q (wn_some rfl rfl rfl hb6 rfl) (op_move (v := .int _ _) rfl) rfl ?_
       refine ol_q (wn_some rfl rfl rfl hb6 rfl) (op_index j0 sB_42 rfl rfl hpj (rds_row 0 rfl rfl) (by simp at hcl0 ⊢; omega) (by rw [List.length_set]; omega)) rfl ?_
       refine ol_q (wn_some rfl rfl rfl hb6 rfl) (op_ldw sc_3 (rds_row 0 rfl rfl) rfl (by rw [List.length_set]; omega) rfl) rfl ?_
       refine ol_q (wn_some rfl rfl rfl hb6 rfl) (op_ge rfl rfl) rfl ?_
       refine oq (op_pick_f (v := .bool _) rfl hb6 rfl) ?_
       refine ol_nil_then ?_
       refine cd_cond rfl (fun hb7 => ?_) (fun hb7 => ?_)
       ·have hp7 := hb7
        (try simp only [bn] at hp7)
        have hpS := hp7
        refine cd_sr ?_
        refine oq (op_assign (v := .int _ _) rfl) ?_
        refine ol_nil_then ?_
        refine cd_ret ?_
        refine px_blockR ?_
        refine px_thenR ?_
        refine px_thenR ?_
        refine px_blockR ?_
        refine px_thenR ?_
        have hnx : nextO t.nodes (growO t.nodes.length o) xs = 1 := runO_fail hi1 hrun (stepO_out hij hd (by rw [hcj]; have q9 := hpS; simp only [set_get] at q9; omega)) (by decide)
        rw [applyO_err (by rw [hnx]; decide), hnx]
        exact px_ret1 rfl (v := .int _ 1) (l' := RTreeObj pr t :: RWObj pm pr (growO t.nodes.length o) :: l) rfl (fun _ s => (by
         have s2 : Sat _ _ (RWObj pm pr (growO t.nodes.length o) :: Blk pr (.cells #[.slice a1 R.length c1, .slice a2 Sl.length c2, .slice a3 Pa.length c3, .int .i64 t.most] 44 (0, 0)) :: Row 24 encRoot (.slice a1 R.length c1) R :: Row 3 encI64 (.slice a2 Sl.length c2) Sl :: Row 24 encRoot (.slice a3 Pa.length c3) Pa :: l) := Sat.rwMk rfl (by rw [hRl]; exact hgl.symm) ((s.del 1).del 0)
         have s3 : Sat _ _ (Blk pr (.cells #[.slice a1 R.length c1, .slice a2 Sl.length c2, .slice a3 Pa.length c3, .int .i64 t.most] 44 (0, 0)) :: Row 24 encRoot (.slice a1 R.length c1) R :: Row 3 encI64 (.slice a2 Sl.length c2) Sl :: Row 24 encRoot (.slice a3 Pa.length c3) Pa :: RWObj pm pr (growO t.nodes.length o) :: l) := (((s2.pull 4).pull 4).pull 4).pull 4
         exact Sat.rtreeMk hw hR rfl rfl rfl s3)) ⟨rfl, rfl⟩
       ·have hp7 := hb7
        (try simp only [bn] at hp7)
        have hst : stepO t.nodes cur xs[i] = (0, cur.set j0 (cur[j0] + xs[i].n)) := by
         rw [stepO_in hij hd (by rw [hcj]; have q9 := hp7; have q8 := hpF; simp only [set_get] at q9 q8; omega), hcj]
        refine cd_skip ?_
        refine px_blockN ?_
        refine px_then ?_
        refine cd_region ?_
        refine oq (op_add rfl rfl (by omega) (by omega)) ?_
        refine oq (op_move (v := .int _ _) rfl) ?_
        refine ol_nil ?_
        refine px_loop2 (i + 1, cur.set j0 (cur[j0] + xs[i].n)) ⟨by dsimp only; omega, runO_go hi1 hrun hst⟩ (by dsimp only; omega) ⟨congrArg (Value.int .i64) (by simp), trivial⟩ ?_ (fun _ s => (s.del 1))
        repeat (first | exact kept_over | refine kept_upd rfl ?_ | refine kept_overS (by decide) ?_)
  ·have hp2 := hb2
   (try simp only [bn] at hp2)
   have hi1 : i = xs.length := by omega
   refine cd_exit ?_
   refine px_thenE ?_
   refine px_thenE ?_
   refine px_blockE ?_
   refine px_then ?_
   refine cd_sr ?_
   refine oq (op_assign (v := .int _ _) rfl) ?_
   refine ol_nil_then ?_
   refine cd_seq ?_
   refine cd_sr ?_
   refine oq (op_move (v := .slice _ _ _) rfl) ?_
   refine oq (op_len_slice Try.underlying42 rfl) ?_
   refine oq (op_move (v := .int _ _) rfl) ?_
   refine ol_nil_then ?_
   refine cd_block ?_
   refine cd_loop2 (α := Nat) [(4, 4), (9, 9), (11, 11), (100, 110)] (fun x => [(9, .int .u64 (((sg (oA cur) x).toNat : Nat) : Int)), (100, .int .i64 (x : Int))]) (fun _ => _) (fun x => x ≤ cur.length ∧ sg (oA cur) x < 4611686018427387904) (fun x => cur.length - x) 0 ⟨Nat.zero_le _, by show (0 : Int) < _; decide⟩ ⟨rfl, rfl, trivial⟩ (fun _ s => s) ?_
   rintro j ⟨hj, hj0⟩ f; (try dsimp only at hj hj0 ⊢)
   refine cd_sr ?_
   refine oq (op_lt rfl rfl) ?_
   refine ol_nil_then ?_
   refine cd_seq ?_
   refine cd_cond rfl (fun hb8 => ?_) (fun hb8 => ?_)
   ·have hp8 := hb8
    (try simp only [bn] at hp8)
    have hj1 : j < cur.length := by omega
    have hcv := oA_get hj1
    have hej := hent j
    have hs0 := sg_nonneg (f := oA cur) (m := j) (fun q _ => (hent q).1)
    have hsg := sg_succ (f := oA cur) (m := j)
    have hju := u64N_nat (n := cur[j]) (by omega) (by omega)
    refine cd_skip ?_
    refine px_then ?_
    refine cd_seq ?_
    refine cd_block ?_
    refine cd_sr ?_
    refine oq (op_index j sB_42 rfl rfl rfl (rds_row 0 rfl rfl) (by simp at hcl0 ⊢; omega) (by omega)) ?_
    refine oq (op_ldw sc_3 (rds_row 0 rfl rfl) rfl (by omega) rfl) ?_
    refine oq (op_assign (v := .int _ _) rfl) ?_
    refine ol_nil_then ?_
    refine cd_sr ?_
    refine oq (op_move (v := .int _ _) rfl) ?_
    refine oq (op_move (v := .int _ _) rfl) ?_
    refine oq (op_conv64i Try.underlying142 (by rw [Try.underlying3]; rfl) rfl) ?_
    refine oq (op_addn rfl rfl (by omega)) ?_
    refine oq (op_assign (v := .int _ _) rfl) ?_
    refine ol_nil_then ?_
    refine cd_sr ?_
    refine oq (op_move (v := .int _ _) rfl) ?_
    refine oq (op_ge rfl rfl) ?_
    refine ol_nil_then ?_
    refine cd_cond rfl (fun hb9 => ?_) (fun hb9 => ?_)
    ·have hp9 := hb9
     (try simp only [bn] at hp9)
     refine cd_sr ?_
     refine oq (op_assign (v := .int _ _) rfl) ?_
     refine ol_nil_then ?_
     refine cd_ret ?_
     refine px_blockR ?_
     refine px_thenR ?_
     refine px_thenR ?_
     refine px_blockR ?_
     refine px_thenR ?_
     have hnx : nextO t.nodes (growO t.nodes.length o) xs = 1 := nextO_much (cur := cur) (by have := hrun; rwa [show i = xs.length by omega, List.take_length] at this) (by have := sg_mono (f := oA cur) (m := j + 1) (n := cur.length) (by omega) (fun q _ => (hent q).1); unfold tot; omega)
     rw [applyO_err (by rw [hnx]; decide), hnx]
     exact px_ret1 rfl (v := .int _ 1) (l' := RTreeObj pr t :: RWObj pm pr (growO t.nodes.length o) :: l) rfl (fun _ s => (by
      have s2 : Sat _ _ (RWObj pm pr (growO t.nodes.length o) :: Blk pr (.cells #[.slice a1 R.length c1, .slice a2 Sl.length c2, .slice a3 Pa.length c3, .int .i64 t.most] 44 (0, 0)) :: Row 24 encRoot (.slice a1 R.length c1) R :: Row 3 encI64 (.slice a2 Sl.length c2) Sl :: Row 24 encRoot (.slice a3 Pa.length c3) Pa :: l) := Sat.rwMk rfl (by rw [hRl]; exact hgl.symm) (s.del 0)
      have s3 : Sat _ _ (Blk pr (.cells #[.slice a1 R.length c1, .slice a2 Sl.length c2, .slice a3 Pa.length c3, .int .i64 t.most] 44 (0, 0)) :: Row 24 encRoot (.slice a1 R.length c1) R :: Row 3 encI64 (.slice a2 Sl.length c2) Sl :: Row 24 encRoot (.slice a3 Pa.length c3) Pa :: RWObj pm pr (growO t.nodes.length o) :: l) := (((s2.pull 4).pull 4).pull 4).pull 4
      exact Sat.rtreeMk hw hR rfl rfl rfl s3)) ⟨rfl, rfl⟩
    ·have hp9 := hb9
     (try simp only [bn] at hp9)
     refine cd_skip ?_
     refine px_blockN ?_
     refine px_then ?_
     refine cd_region ?_
     refine oq (op_add rfl rfl (by omega) (by omega)) ?_
     refine oq (op_move (v := .int _ _) rfl) ?_
     refine ol_nil ?_
     refine px_loop2 (j + 1) ⟨by omega, by omega⟩ (by (try dsimp only); omega) ⟨congrArg (Value.int .u64) (by omega), congrArg (Value.int .i64) (by simp), trivial⟩ ?_ (fun _ s => s)
     repeat (first | exact kept_over | refine kept_upd rfl ?_ | refine kept_overS (by decide) ?_)
   ·have hp8 := hb8
    (try simp only [bn] at hp8)
    refine cd_exit ?_
    refine px_thenE ?_
    refine px_thenE ?_
    refine px_blockE ?_
    refine px_then ?_
    refine cd_sr ?_
    refine oq (op_move (v := .pointer _) rfl) ?_
    refine oq (op_move (v := .slice _ _ _) rfl) ?_
    refine oq (op_nilck rfl) ?_
    refine oq (op_field fld_47_1 rfl) ?_
    refine ol_pull1 ?_
    refine oN (os_store (v := .slice _ _ _) sc_42 rfl rfl rfl rfl (Free.zero _) rfl) ?_; rintro _ _ ⟨rfl, rfl⟩
    refine ol_nil_then ?_
    refine cd_sr ?_
    refine oq (op_assign (v := .int _ _) rfl) ?_
    refine ol_nil_then ?_
    refine cd_ret ?_
    have hfin : runO t.nodes (growO t.nodes.length o) xs = (0, cur) := by have := hrun; rwa [show i = xs.length by omega, List.take_length] at this
    have htt : tot cur < 4611686018427387904 := by unfold tot; rw [show j = cur.length by omega] at hj0; omega
    have hnx : nextO t.nodes (growO t.nodes.length o) xs = 0 := nextO_ok hfin htt
    rw [applyO_run hnx, hfin]
    exact px_ret1 rfl (v := .int _ 0) (l' := RTreeObj pr t :: RWObj pm pr cur :: l) rfl (fun _ s => (by
     have s2 : Sat _ _ (RWObj pm pr cur :: Blk pr (.cells #[.slice a1 R.length c1, .slice a2 Sl.length c2, .slice a3 Pa.length c3, .int .i64 t.most] 44 (0, 0)) :: Row 24 encRoot (.slice a1 R.length c1) R :: Row 3 encI64 (.slice a2 Sl.length c2) Sl :: Row 24 encRoot (.slice a3 Pa.length c3) Pa :: l) := Sat.rwMk (by rw [hcl0]) (by rw [hRl]; omega) (s.del 2)
     have s3 : Sat _ _ (Blk pr (.cells #[.slice a1 R.length c1, .slice a2 Sl.length c2, .slice a3 Pa.length c3, .int .i64 t.most] 44 (0, 0)) :: Row 24 encRoot (.slice a1 R.length c1) R :: Row 3 encI64 (.slice a2 Sl.length c2) Sl :: Row 24 encRoot (.slice a3 Pa.length c3) Pa :: RWObj pm pr cur :: l) := (((s2.pull 4).pull 4).pull 4).pull 4
     exact Sat.rtreeMk hw hR rfl rfl rfl s3)) ⟨rfl, rfl⟩
end Go.SL

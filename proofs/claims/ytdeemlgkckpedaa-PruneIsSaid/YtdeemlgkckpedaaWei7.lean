import Derived.Test.YtdeemlgkckpedaaWei6
set_option linter.unusedVariables false
set_option linter.unusedSimpArgs false
namespace Go.SL
open Go.Proofs

set_option maxRecDepth 100000 in
set_option maxHeartbeats 1000000 in
theorem Best_calls {w0 w : World} {l : List HProp} (pw pt : Nat) (t : TreeS) (o : List Int) (r : Root) (hs : Sat w0 w ((TreeObj pt t) :: (WObj pw pt t.nodes o) :: l)) (h1 : o.length ≤ t.nodes.length) :
  Calls Try.prog 32 #[.pointer (some ⟨pw, 0, none⟩), .agg (rootC r).toArray] w (Ret w0 fun v l' => v = .tuple #[.agg (rootC (bestR t o r).1).toArray, .bool (bestR t o r).2] ∧ l' = TreeObj pt t :: WObj pw pt t.nodes o :: l) := by
 have hw := hs.treeWF
 have hm1 := hw.m1; have hm2 := hw.m2; have hle := hw.le; have hne := hw.ne; have hpa := hw.pa; have hnd := hw.nd
 have hsl := sumL_len t.nodes o
 have hbl := bestL_len t.nodes (sumL t.nodes o)
 have hll := leafL_len t.nodes (sumL t.nodes o)
 have hbi := bestI_rg hw h1 r
 unfold bestI at hbi
 have hbn := fun i => bestN_rg hnd hpa (oA (sumL t.nodes o)) h1 i
 refine calls_enter Try.func32 rfl rfl rfl hs ?_
 refine cd_sr ?_
 refine oi (os_box (v := .pointer _) rfl rfl) ?_; rintro _ _ ⟨bx1, rfl, rfl⟩
 refine oi (os_boxa rfl) ?_; rintro _ _ ⟨bx2, rfl, rfl⟩
 refine oi (os_alloc (cs := (rootC Root.zero).toArray) zB_24 (by kernel_rfl)) ?_; rintro _ _ ⟨bx3, rfl, rfl⟩
 refine oq (op_assign (v := .bool _) rfl) ?_
 refine ol_nil_then ?_
 refine cd_sr ?_
 refine oq (op_ld 2 sc_27 rfl rfl rfl) ?_
 refine oq (op_lda (L := rootC _) 1 ag_24 rfl rfl (rootC_take' _) (by simp [rootC_len])) ?_
 refine oq (op_makefunc (F := []) (C := [_]) rfl rfl) ?_
 refine ol_pull2 ?_
 refine ol_pull4 ?_
 refine ol_pull4 ?_
 refine oi (os_call cb_57 rfl (fun w s => ofBest_calls _ _ _ _ _ _ _ _ _  s (by omega) (fun i hi => by rw [bestL_at (by omega), hsl]; rcases hbn i with h | ⟨k, h, _, h3, _⟩ <;> omega))) ?_; rintro _ _ ⟨rfl, rfl⟩; rw [show ofF t o.length (fun i => oA (bestL t.nodes (sumL t.nodes o)) i + 1) r = ofF t o.length (fun i => bestN t.nodes (oA (sumL t.nodes o)) o.length i + 1) r from ofF_congr fun i hi => by rw [bestL_at (by omega), hsl]]
 refine oq (op_sub rfl rfl (by omega) (by omega)) ?_
 refine oq (op_assign (v := .int _ _) rfl) ?_
 refine ol_nil_then ?_
 refine cd_seq ?_
 refine cd_sr ?_
 refine oq (op_move (v := .int _ _) rfl) ?_
 refine oq (op_lt rfl rfl) ?_
 refine ol_nil_then ?_
 refine cd_cond rfl (fun hb1 => ?_) (fun hb1 => ?_)
 ·have hp1 := hb1
  (try simp only [bn] at hp1)
  refine cd_sr ?_
  refine oq (op_buildr rfl rB_24 zBr_24) ?_
  refine ol_pull3 ?_
  refine oN (os_storera _ ag_24 rfl rfl (Free.zero _)) ?_; rintro _ _ ⟨rfl, rfl⟩
  refine oq (op_assign (v := .bool _) rfl) ?_
  refine ol_nil_then ?_
  refine cd_ret ?_
  refine px_thenR ?_
  have hR : bestR t o r = (Root.zero, false) := bestR_no (by unfold bestI; omega)
  exact px_rv2 rfl (rv_cella 0 ag_24 rfl rfl (rootC_take' _) (by simp [rootC_len])) (rv_tmp (v := .bool _) rfl) (l' := TreeObj pt t :: WObj pw pt t.nodes o :: l) (fun _ s => (((s.del 4).del 3).del 0)) ⟨by rw [hR] <;> rfl, rfl⟩
 ·have hp1 := hb1
  (try simp only [bn] at hp1)
  obtain ⟨k0, hk0⟩ : ∃ k : Nat, ofF t o.length (fun i => bestN t.nodes (oA (sumL t.nodes o)) o.length i + 1) r - 1 = k := ⟨(ofF t o.length (fun i => bestN t.nodes (oA (sumL t.nodes o)) o.length i + 1) r - 1).toNat, by omega⟩
  refine cd_skip ?_
  refine px_then ?_
  refine cd_pull1 ?_
  refine cd_wrawOpen ?_; intro a1 c1 a2 c2 a3 c3 a4 c4
  refine cd_sr ?_
  refine oq (op_ld 6 sc_27 rfl rfl rfl) ?_
  refine oq (op_nilck rfl) ?_
  refine oq (op_field fld_116_0 rfl) ?_
  refine oq (op_ld 0 sc_26 rfl rfl rfl) ?_
  refine oq (op_move (v := .int _ _) rfl) ?_
  refine ol_pull5 ?_
  refine oi (os_call cb_24 rfl (fun w s => Node_calls _ _ _  s )) ?_; rintro _ _ ⟨rfl, rfl⟩; rw [hk0, TreeS.node_at]
  refine oq (op_move (v := .tuple _) rfl) ?_
  refine oq (op_extract (v := .agg _) rfl rfl) ?_
  refine oq (op_extract (v := .bool _) rfl rfl) ?_
  refine oi (os_alloc (cs := (nodeC Node.zero).toArray) zB_51 (by kernel_rfl)) ?_; rintro _ _ ⟨bx4, rfl, rfl⟩
  refine oN (os_storew (nodeC _) ag_51 rfl rfl (nodeC_len _) (nodeC_one _) (by simp [nodeC_len]) (Free.zero _)) ?_; rintro _ _ ⟨rfl, rfl⟩
  refine oq (op_assign (v := .bool _) rfl) ?_
  refine ol_nil_then ?_
  refine cd_sr ?_
  refine oq (op_field fld_51_0 rfl) ?_
  refine oq (op_lda (L := rootC _) 0 ag_24 rfl rfl (nodeC_af0 _) (by simp [nodeC_len])) ?_
  refine ol_pull8 ?_
  refine oN (os_storera _ ag_24 rfl rfl (Free.zero _)) ?_; rintro _ _ ⟨rfl, rfl⟩
  refine oq (op_assign (v := .bool _) rfl) ?_
  refine ol_nil_then ?_
  refine cd_ret ?_
  have hR : bestR t o r = (rtA t.nodes k0, true) := bestR_yes hk0
  exact px_rv2 rfl (rv_cella 0 ag_24 rfl rfl (rootC_take' _) (by simp [rootC_len])) (rv_tmp (v := .bool _) rfl) (l' := TreeObj pt t :: WObj pw pt t.nodes o :: l) (fun _ s => ((Sat.wrawMk rfl rfl rfl rfl (((((((((s.del 9).del 8).del 1).del 0).pull 5).pull 5).pull 5).pull 5).pull 5)).pull 1)) ⟨by rw [hR] <;> rfl, rfl⟩

set_option maxRecDepth 100000 in
set_option maxHeartbeats 1000000 in
theorem Best_nil {w0 w : World} {l : List HProp} (r : Root) (hs : Sat w0 w (l))  :
  Calls Try.prog 32 #[.pointer none, .agg (rootC r).toArray] w (Ret w0 fun v l' => v = .tuple #[.agg (rootC Root.zero).toArray, .bool false] ∧ l' = l) := by
 refine calls_enter Try.func32 rfl rfl rfl hs ?_
 refine cd_sr ?_
 refine oi (os_box (v := .pointer _) rfl rfl) ?_; rintro _ _ ⟨bx1, rfl, rfl⟩
 refine oi (os_boxa rfl) ?_; rintro _ _ ⟨bx2, rfl, rfl⟩
 refine oi (os_alloc (cs := (rootC Root.zero).toArray) zB_24 (by kernel_rfl)) ?_; rintro _ _ ⟨bx3, rfl, rfl⟩
 refine oq (op_assign (v := .bool _) rfl) ?_
 refine ol_nil_then ?_
 refine cd_sr ?_
 refine oq (op_ld 2 sc_27 rfl rfl rfl) ?_
 refine oq (op_lda (L := rootC _) 1 ag_24 rfl rfl (rootC_take' _) (by simp [rootC_len])) ?_
 refine oq (op_makefunc (F := []) (C := [_]) rfl rfl) ?_
 refine oi (os_call cb_57 rfl (fun w s => ofBest_nil _ _  s )) ?_; rintro _ l ⟨rfl, rfl⟩
 refine oq (op_sub rfl rfl (by omega) (by omega)) ?_
 refine oq (op_assign (v := .int _ _) rfl) ?_
 refine ol_nil_then ?_
 refine cd_seq ?_
 refine cd_sr ?_
 refine oq (op_move (v := .int _ _) rfl) ?_
 refine oq (op_lt rfl rfl) ?_
 refine ol_nil_then ?_
 refine cd_cond rfl (fun hb1 => ?_) (fun hb1 => ?_)
 ·have hp1 := hb1
  (try simp only [bn] at hp1)
  refine cd_sr ?_
  refine oq (op_buildr rfl rB_24 zBr_24) ?_
  refine oN (os_storera _ ag_24 rfl rfl (Free.zero _)) ?_; rintro _ _ ⟨rfl, rfl⟩
  refine oq (op_assign (v := .bool _) rfl) ?_
  refine ol_nil_then ?_
  refine cd_ret ?_
  refine px_thenR ?_
  exact px_rv2 rfl (rv_cella 0 ag_24 rfl rfl (rootC_take' _) (by simp [rootC_len])) (rv_tmp (v := .bool _) rfl) (fun _ s => (((s.del 2).del 1).del 0)) ⟨rfl, rfl⟩
 ·have hp1 := hb1
  (try simp only [bn] at hp1)
  exact absurd hb1 (by decide)

set_option maxRecDepth 100000 in
set_option maxHeartbeats 1000000 in
theorem Head_calls {w0 w : World} {l : List HProp} (pw pt : Nat) (t : TreeS) (o : List Int) (hs : Sat w0 w ((TreeObj pt t) :: (WObj pw pt t.nodes o) :: l)) (h1 : o.length ≤ t.nodes.length) (h0 : 0 < o.length) :
  Calls Try.prog 22 #[.pointer (some ⟨pw, 0, none⟩)] w (Ret w0 fun v l' => v = .agg (rootC (headW t.nodes o)).toArray ∧ l' = TreeObj pt t :: WObj pw pt t.nodes o :: l) := by
 have hw := hs.treeWF
 have hm1 := hw.m1; have hm2 := hw.m2; have hle := hw.le; have hne := hw.ne; have hpa := hw.pa; have hnd := hw.nd
 have hsl := sumL_len t.nodes o
 have hbl := bestL_len t.nodes (sumL t.nodes o)
 have hll := leafL_len t.nodes (sumL t.nodes o)
 have hl0 : (leafL t.nodes (sumL t.nodes o))[0]'(by omega) = ((leafN t.nodes (oA (sumL t.nodes o)) o.length 0 : Nat) : Int) := by rw [← oA_get, leafL_at (by omega), hsl]
 refine calls_enter Try.func22 rfl rfl rfl hs ?_
 refine cd_sr ?_
 refine oi (os_alloc (cs := (rootC Root.zero).toArray) zB_24 (by kernel_rfl)) ?_; rintro _ _ ⟨bx1, rfl, rfl⟩
 refine ol_nil_then ?_
 refine cd_seq ?_
 refine cd_sr ?_
 refine oq (op_move (v := .pointer _) rfl) ?_
 refine oq (op_eqnil Try.underlying27 rfl rfl) ?_
 refine ol_nil_then ?_
 refine cd_cond_f rfl rfl ?_
 refine cd_skip ?_
 refine px_then ?_
 refine cd_pull2 ?_
 refine cd_wrawOpen ?_; intro a1 c1 a2 c2 a3 c3 a4 c4
 refine cd_pull6 ?_
 refine cd_seq ?_
 refine cd_drawe (M := [_]) mx [10, 14, 15] ?_
 refine e_q 0 rfl (wn_none rfl) (op_move (v := .pointer _) rfl) ?_
 refine e_q 1 rfl (wn_none rfl) (op_nilck rfl) ?_
 refine e_q 2 rfl (wn_none rfl) (op_field fld_116_0 rfl) ?_
 refine e_q 3 rfl (wn_none rfl) (op_ld 0 sc_26 rfl rfl rfl) ?_
 refine e_q 4 rfl (wn_none rfl) (op_move (v := .pointer _) rfl) ?_
 refine e_q 5 rfl (wn_none rfl) (op_nilck rfl) ?_
 refine e_q 6 rfl (wn_none rfl) (op_field fld_116_4 rfl) ?_
 refine e_q 7 rfl (wn_none rfl) (op_ld 0 sc_42 rfl rfl rfl) ?_
 refine e_q 8 rfl (wn_none rfl) (op_index 0 sB_42 rfl rfl rfl (rds_row 4 rfl rfl) rfl (by omega)) ?_
 refine e_q 9 rfl (wn_none rfl) (op_ldw sc_3 (rds_row 4 rfl rfl) rfl (by omega) rfl) ?_
 refine et_2 (i1 := 10) (i2 := 14) (by kernel_rfl) ?_ ?_
 ·
  refine ei_i rfl rfl (wn_none rfl) (os_call cb_24 rfl (fun w s => Node_calls _ _ _  s )) rfl ?_; rintro _ _ ⟨rfl, rfl⟩; rw [hl0, TreeS.node_at]; refine ⟨[_], rfl, ?_⟩
  refine e_q 11 rfl (wn_none rfl) (op_move (v := .tuple _) rfl) ?_
  refine e_q 12 rfl (wn_none rfl) (op_extract (v := .agg _) rfl rfl) ?_
  refine e_q 13 rfl (wn_none rfl) (op_extract (v := .bool _) rfl rfl) ?_
  refine et_1 (i := 14) (by kernel_rfl) ?_
  refine ei_i rfl rfl (wn_none rfl) (os_alloc (cs := (nodeC Node.zero).toArray) zB_51 (by kernel_rfl)) rfl ?_; rintro _ _ ⟨bx2, rfl, rfl⟩; refine ⟨[_, _], rfl, ?_⟩
  refine et_1 (i := 15) (by kernel_rfl) ?_
  refine ei_iN rfl rfl (wn_none rfl) (os_storew (nodeC _) ag_51 rfl rfl (nodeC_len _) (nodeC_one _) (by simp [nodeC_len]) (Free.zero _)) ?_; rintro _ _ ⟨rfl, rfl⟩; refine ⟨[_, _], rfl, ?_⟩
  refine e_q 16 rfl (wn_none rfl) (op_assign (v := .bool _) rfl) ?_
  refine et_nil_then (by kernel_rfl) ?_
  refine cd_sr ?_
  refine oq (op_field fld_51_0 rfl) ?_
  refine oq (op_lda (L := rootC _) 0 ag_24 rfl rfl (nodeC_af0 _) (by simp [nodeC_len])) ?_
  refine ol_pull7 ?_
  refine oN (os_storera _ ag_24 rfl rfl (Free.zero _)) ?_; rintro _ _ ⟨rfl, rfl⟩
  refine ol_nil_then ?_
  refine cd_ret ?_
  exact px_rv1 rfl (rv_cella 0 ag_24 rfl rfl (rootC_take' _) (by simp [rootC_len])) (l' := TreeObj pt t :: WObj pw pt t.nodes o :: l) (fun _ s => ((Sat.wrawMk rfl rfl rfl rfl (((((((s.del 1).del 0).pull 5).pull 5).pull 5).pull 5).pull 5)).pull 1)) ⟨rfl, rfl⟩
 ·
  refine ei_i rfl rfl (wn_none rfl) (os_alloc (cs := (nodeC Node.zero).toArray) zB_51 (by kernel_rfl)) rfl ?_; rintro _ _ ⟨bx3, rfl, rfl⟩; refine ⟨[_, _], rfl, ?_⟩
  refine et_1 (i := 10) (by kernel_rfl) ?_
  refine ei_i rfl rfl (wn_none rfl) (os_pull1 (os_call cb_24 rfl (fun w s => Node_calls _ _ _  s ))) rfl ?_; rintro _ _ ⟨rfl, rfl⟩; rw [hl0, TreeS.node_at]; refine ⟨[_, _], rfl, ?_⟩
  refine e_q 11 rfl (wn_none rfl) (op_move (v := .tuple _) rfl) ?_
  refine e_q 12 rfl (wn_none rfl) (op_extract (v := .agg _) rfl rfl) ?_
  refine e_q 13 rfl (wn_none rfl) (op_extract (v := .bool _) rfl rfl) ?_
  refine et_1 (i := 15) (by kernel_rfl) ?_
  refine ei_iN rfl rfl (wn_none rfl) (os_pull1 (os_storew (nodeC _) ag_51 rfl rfl (nodeC_len _) (nodeC_one _) (by simp [nodeC_len]) (Free.zero _))) ?_; rintro _ _ ⟨rfl, rfl⟩; refine ⟨[_, _], rfl, ?_⟩
  refine e_q 16 rfl (wn_none rfl) (op_assign (v := .bool _) rfl) ?_
  refine et_nil_then (by kernel_rfl) ?_
  refine cd_sr ?_
  refine oq (op_field fld_51_0 rfl) ?_
  refine oq (op_lda (L := rootC _) 0 ag_24 rfl rfl (nodeC_af0 _) (by simp [nodeC_len])) ?_
  refine ol_pull7 ?_
  refine oN (os_storera _ ag_24 rfl rfl (Free.zero _)) ?_; rintro _ _ ⟨rfl, rfl⟩
  refine ol_nil_then ?_
  refine cd_ret ?_
  exact px_rv1 rfl (rv_cella 0 ag_24 rfl rfl (rootC_take' _) (by simp [rootC_len])) (l' := TreeObj pt t :: WObj pw pt t.nodes o :: l) (fun _ s => ((Sat.wrawMk rfl rfl rfl rfl (((((((s.del 1).del 0).pull 5).pull 5).pull 5).pull 5).pull 5)).pull 1)) ⟨rfl, rfl⟩

set_option maxRecDepth 100000 in
set_option maxHeartbeats 1000000 in
theorem Head_nil {w0 w : World} {l : List HProp}  (hs : Sat w0 w (l))  :
  Calls Try.prog 22 #[.pointer none] w (Ret w0 fun v l' => v = .agg (rootC Root.zero).toArray ∧ l' = l) := by
 refine calls_enter Try.func22 rfl rfl rfl hs ?_
 refine cd_sr ?_
 refine oi (os_alloc (cs := (rootC Root.zero).toArray) zB_24 (by kernel_rfl)) ?_; rintro _ _ ⟨bx1, rfl, rfl⟩
 refine ol_nil_then ?_
 refine cd_seq ?_
 refine cd_sr ?_
 refine oq (op_move (v := .pointer _) rfl) ?_
 refine oq (op_eqnil Try.underlying27 rfl rfl) ?_
 refine ol_nil_then ?_
 refine cd_cond_t rfl rfl ?_
 refine cd_sr ?_
 refine oq (op_buildr rfl rB_24 zBr_24) ?_
 refine oN (os_storera _ ag_24 rfl rfl (Free.zero _)) ?_; rintro _ _ ⟨rfl, rfl⟩
 refine ol_nil_then ?_
 refine cd_ret ?_
 refine px_thenR ?_
 exact px_rv1 rfl (rv_cella 0 ag_24 rfl rfl (rootC_take' _) (by simp [rootC_len])) (fun _ s => (s.del 0)) ⟨rfl, rfl⟩

set_option maxRecDepth 100000 in
set_option maxHeartbeats 1000000 in
theorem WNew_calls {w0 w : World} {l : List HProp} (pt : Nat) (t : TreeS) (hs : Sat w0 w ((TreeObj pt t) :: l))  :
  Calls Try.prog 50 #[.pointer (some ⟨pt, 0, none⟩)] w (Ret w0 fun v l' => ∃ pw, v = .pointer (some ⟨pw, 0, none⟩) ∧ l' = WObj pw pt t.nodes (growO t.nodes.length []) :: TreeObj pt t :: l) := by
 have hw := hs.treeWF
 have hm1 := hw.m1; have hm2 := hw.m2; have hle := hw.le; have hne := hw.ne
 refine calls_enter Try.func50 rfl rfl rfl hs ?_
 refine cd_sr ?_
 refine oq (op_assign (v := .pointer _) rfl) ?_
 refine ol_nil_then ?_
 refine cd_seq ?_
 refine cd_sr ?_
 refine oq (op_move (v := .pointer _) rfl) ?_
 refine oi (os_call cb_29 rfl (fun w s => Len_calls _ _  s )) ?_; rintro _ _ ⟨rfl, rfl⟩
 refine oq (op_eq rfl rfl) ?_
 refine ol_nil_then ?_
 refine cd_cond rfl (fun hb1 => ?_) (fun hb1 => ?_)
 ·have hp1 := hb1
  (try simp only [bn] at hp1)
  omega
 ·have hp1 := hb1
  (try simp only [bn] at hp1)
  refine cd_skip ?_
  refine px_then ?_
  refine cd_sr ?_
  refine oq (op_move (v := .pointer _) rfl) ?_
  refine oq (op_build (L := [_, _, _, _, _]) (vs := [(0, .pointer _)]) bB_116 rfl ⟨⟨rfl, rfl⟩, trivial⟩ rfl) ?_
  refine oi (os_boxa rfl) ?_; rintro _ _ ⟨bx1, rfl, rfl⟩
  refine oq (op_assign (v := .pointer _) rfl) ?_
  refine ol_nil_then ?_
  refine cd_imp (fun _ s => Sat.wrawMk (pw := bx1) (pt := pt) (o := []) (sm := []) (be := []) (lf := []) rfl rfl rfl rfl ((((s.rowNil (E := encI64) (e := 3)).rowNil (E := encI64) (e := 3)).rowNil (E := encI64) (e := 3)).rowNil (E := encI64) (e := 3) |>.pull 4)) ?_
  refine cd_sr ?_
  refine oq (op_move (v := .pointer _) rfl) ?_
  refine ol_pull1 ?_
  refine oi (os_call cb_76 rfl (fun w s => grow_calls _ _ _ _ _ _ _  s (Nat.zero_le _) (Nat.zero_le _) (Nat.zero_le _) (Nat.zero_le _))) ?_; rintro _ _ ⟨rfl, rfl⟩; rw [show ([] : List Int) ++ List.replicate (t.nodes.length - ([] : List Int).length) 0 = sumL t.nodes (growO t.nodes.length []) from sumL_grow t.nodes [] t.nodes.length]
  refine ol_nil_then ?_
  refine cd_sr ?_
  refine oq (op_move (v := .pointer _) rfl) ?_
  refine ol_pull1 ?_
  refine ol_pull1 ?_
  refine oi (os_call cb_77 rfl (fun w s => rank_calls _ _ _ _ _ _ _  s (by rw [sumL_len]; exact growO_len (Nat.zero_le _)) (by simp) (by simp))) ?_; rintro _ _ ⟨rfl, rfl⟩
  refine ol_nil_then ?_
  refine cd_sr ?_
  refine oq (op_move (v := .pointer _) rfl) ?_
  refine oq (op_assign (v := .pointer _) rfl) ?_
  refine ol_nil_then ?_
  refine cd_ret ?_
  exact px_ret1 rfl (v := .pointer _) rfl (fun _ s => (s.pull 1)) ⟨_, rfl, rfl⟩

set_option maxRecDepth 100000 in
set_option maxHeartbeats 1000000 in
theorem WNew_nil {w0 w : World} {l : List HProp}  (hs : Sat w0 w (l))  :
  Calls Try.prog 50 #[.pointer none] w (Ret w0 fun v l' => v = .pointer none ∧ l' = l) := by
 refine calls_enter Try.func50 rfl rfl rfl hs ?_
 refine cd_sr ?_
 refine oq (op_assign (v := .pointer _) rfl) ?_
 refine ol_nil_then ?_
 refine cd_seq ?_
 refine cd_sr ?_
 refine oq (op_move (v := .pointer _) rfl) ?_
 refine oi (os_call cb_29 rfl (fun w s => Len_nil  s )) ?_; rintro _ l ⟨rfl, rfl⟩
 refine oq (op_eq rfl rfl) ?_
 refine ol_nil_then ?_
 refine cd_cond rfl (fun hb1 => ?_) (fun hb1 => ?_)
 ·have hp1 := hb1
  (try simp only [bn] at hp1)
  refine cd_sr ?_
  refine oq (op_assign (v := .pointer _) rfl) ?_
  refine ol_nil_then ?_
  refine cd_ret ?_
  refine px_thenR ?_
  exact px_ret1 rfl (v := .pointer _) rfl (fun _ s => s) ⟨rfl, rfl⟩
 ·have hp1 := hb1
  (try simp only [bn] at hp1)
  exact absurd hb1 (by decide)
end Go.SL

import Derived.Test.YtdeemlgkckpedaaWei4
set_option linter.unusedVariables false
set_option linter.unusedSimpArgs false
namespace Go.SL
open Go.Proofs

/-- weights that are of their own ones -/
@[reducible] def WObj (pw pt : Nat) (ns : List Node) (o : List Int) : HProp := WRaw pw pt o (sumL ns o) (bestL ns (sumL ns o)) (leafL ns (sumL ns o))

set_option maxRecDepth 100000 in
set_option maxHeartbeats 1000000 in
theorem Apply_calls {w0 w : World} {l : List HProp} (pw pt : Nat) (t : TreeS) (o : List Int) (lo : Option Addr) (lc : Nat) (xs : List Delta) (hs : Sat w0 w ((TreeObj pt t) :: (WObj pw pt t.nodes o) :: l)) (h1 : o.length ≤ t.nodes.length) (hok : OwnOK o) (hr : Rds w0 l encDelta lo xs) (hxl : xs.length ≤ 1000) :
  Calls Try.prog 52 #[.pointer (some ⟨pw, 0, none⟩), .slice lo xs.length lc] w (Ret w0 fun v l' => v = .int .i64 (applyO t.nodes o xs).1 ∧ l' = TreeObj pt t :: WObj pw pt t.nodes (applyO t.nodes o xs).2 :: l) := by
 have hw := hs.treeWF
 have hm1 := hw.m1; have hm2 := hw.m2; have hle := hw.le; have hne := hw.ne; have hpa := hw.pa; have hnd := hw.nd
 have hgl := growO_len h1
 have hsl := sumL_len t.nodes o
 have hbl := bestL_len t.nodes (sumL t.nodes o)
 have hll := leafL_len t.nodes (sumL t.nodes o)
 have hgo : OwnOK (growO t.nodes.length o) := hok.zeros _
 have hsg := sumL_len t.nodes (growO t.nodes.length o)
 refine calls_enter Try.func52 rfl rfl rfl hs ?_
 refine cd_sr ?_
 refine oq (op_assign (v := .int _ _) rfl) ?_
 refine ol_nil_then ?_
 refine cd_seq ?_
 refine cd_sr ?_
 refine oq (op_move (v := .pointer _) rfl) ?_
 refine oq (op_eqnil Try.underlying27 rfl rfl) ?_
 refine ol_nil_then ?_
 refine cd_cond_f rfl rfl ?_
 refine cd_skip ?_
 refine px_then ?_
 refine cd_sr ?_
 refine oq (op_move (v := .pointer _) rfl) ?_
 refine ol_pull1 ?_
 refine ol_pull1 ?_
 refine oi (os_call cb_76 rfl (fun w s => grow_calls _ _ _ _ _ _ _  s (by omega) (by omega) (by omega) (by omega))) ?_; rintro _ _ ⟨rfl, rfl⟩; rw [sumL_grow]
 refine ol_nil_then ?_
 refine cd_sr ?_
 refine oq (op_move (v := .pointer _) rfl) ?_
 refine oq (op_move (v := .slice _ _ _) rfl) ?_
 refine ol_pull1 ?_
 refine ol_pull1 ?_
 refine oi (os_call cb_78 rfl (fun w s => next_calls _ _ _ _ _ _ _ _ _ _  s (by omega) hgo.ent hr (by omega))) ?_; rintro _ _ ⟨out2, oa2, oc2, rfl, rfl, ho2⟩
 refine oq (op_move (v := .tuple _) rfl) ?_
 refine oq (op_extract (v := .slice _ _ _) rfl rfl) ?_
 refine oq (op_extract (v := .int _ _) rfl rfl) ?_
 refine oq (op_assign (v := .slice _ _ _) rfl) ?_
 refine oq (op_assign (v := .int _ _) rfl) ?_
 refine ol_nil_then ?_
 refine cd_seq ?_
 refine cd_sr ?_
 refine oq (op_move (v := .int _ _) rfl) ?_
 refine oq (op_ne rfl rfl) ?_
 refine ol_nil_then ?_
 refine cd_cond rfl (fun hb1 => ?_) (fun hb1 => ?_)
 ·have hp1 := hb1
  (try simp only [bn] at hp1)
  refine cd_sr ?_
  refine oq (op_move (v := .pointer _) rfl) ?_
  refine ol_pull2 ?_
  refine ol_pull2 ?_
  refine oi (os_call cb_77 rfl (fun w s => rank_calls _ _ _ _ _ _ _  s (by omega) (by rw [List.length_append, List.length_replicate]; omega) (by rw [List.length_append, List.length_replicate]; omega))) ?_; rintro _ _ ⟨rfl, rfl⟩
  refine ol_nil_then ?_
  refine cd_sr ?_
  refine oq (op_move (v := .int _ _) rfl) ?_
  refine oq (op_assign (v := .int _ _) rfl) ?_
  refine ol_nil_then ?_
  refine cd_ret ?_
  refine px_thenR ?_
  have hne0 : nextO t.nodes (growO t.nodes.length o) xs ≠ 0 := of_decide_eq_true hb1
  rw [applyO_err hne0]
  exact px_ret1 rfl (v := .int _ _) rfl (fun _ s => (s.del 2)) ⟨rfl, rfl⟩
 ·have hp1 := hb1
  (try simp only [bn] at hp1)
  have hn0 : nextO t.nodes (growO t.nodes.length o) xs = 0 := by simpa using hb1
  have hz0 := nextO_zero hn0
  have hout := ho2 hn0
  have hul : (runO t.nodes (growO t.nodes.length o) xs).2.length = (growO t.nodes.length o).length := runO_len _ _ _
  have hun : ∀ j, 0 ≤ oA (runO t.nodes (growO t.nodes.length o) xs).2 j := fun j => (runO_ent (ns := t.nodes) xs hgo.ent j).1
  rw [hout]
  refine cd_skip ?_
  refine px_then ?_
  refine cd_seq ?_
  refine cd_pull2 ?_
  refine cd_wrawOpen ?_; intro a1 c1 a2 c2 a3 c3 a4 c4
  refine cd_sr ?_
  refine oq (op_move (v := .slice _ _ _) rfl) ?_
  refine oq (op_len_slice Try.underlying42 rfl) ?_
  refine oq (op_sub rfl rfl (by omega) (by omega)) ?_
  refine oq (op_assign (v := .int _ _) rfl) ?_
  refine ol_nil_then ?_
  refine cd_block ?_
  refine cd_pull2 ?_
  refine cd_loop2 (α := Int) [(7, 11), (30, 71)] (fun x => [(7, .int .i64 x)]) (fun x => Row 3 encI64 (.slice a2 (sumL t.nodes (growO t.nodes.length o)).length c2) (sumL t.nodes (mixO (growO t.nodes.length o) (runO t.nodes (growO t.nodes.length o) xs).2 ((t.nodes.length : Int) - 1 - x).toNat)) :: _) (fun x => -1 ≤ x ∧ x < t.nodes.length) (fun x => (x + 1).toNat) (((runO t.nodes (growO t.nodes.length o) xs).2.length : Int) - 1) (by omega) ⟨rfl, trivial⟩ (fun _ s => by (try dsimp only); rw [show ((t.nodes.length : Int) - 1 - (((runO t.nodes (growO t.nodes.length o) xs).2.length : Int) - 1)).toNat = 0 by omega, mixO_zero hul]; exact s) ?_
  rintro i ⟨hi0, hi⟩ f; (try dsimp only at hi0 hi ⊢)
  refine cd_seq ?_
  refine cd_sr ?_
  refine oq (op_move (v := .int _ _) rfl) ?_
  refine oq (op_ge rfl rfl) ?_
  refine ol_nil_then ?_
  refine cd_cond rfl (fun hb2 => ?_) (fun hb2 => ?_)
  ·have hp2 := hb2
   (try simp only [bn] at hp2)
   obtain ⟨i0, rfl⟩ : ∃ i0 : Nat, i = i0 := ⟨i.toNat, by omega⟩
   have hm0 : (growO t.nodes.length o).length - ((t.nodes.length : Int) - 1 - (i0 : Int)).toNat - 1 = i0 := by omega
   have hmm : ((t.nodes.length : Int) - 1 - ((i0 : Int) - 1)).toNat = ((t.nodes.length : Int) - 1 - (i0 : Int)).toNat + 1 := by omega
   have hml : ((t.nodes.length : Int) - 1 - (i0 : Int)).toNat < (growO t.nodes.length o).length := by omega
   have hvu : (runO t.nodes (growO t.nodes.length o) xs).2[i0]'(by omega) = oA (runO t.nodes (growO t.nodes.length o) xs).2 i0 := (oA_get _).symm
   have hvg : (growO t.nodes.length o)[i0]'(by omega) = oA (growO t.nodes.length o) i0 := (oA_get _).symm
   have hr1 := hgo.ent i0
   have hr2 := runO_ent (ns := t.nodes) xs hgo.ent i0
   refine cd_skip ?_
   refine px_then ?_
   refine cd_seq ?_
   refine cd_block ?_
   refine cd_seq ?_
   refine cd_draw (M := []) mx [] (by kernel_rfl) ?_
   refine rg_q (wn_none rfl) (op_move (v := .slice _ _ _) rfl) rfl rfl ?_
   refine rg_q (wn_none rfl) (op_move (v := .int _ _) rfl) rfl rfl ?_
   refine rg_q (wn_none rfl) (op_index i0 sB_42 rfl rfl rfl (rds_row 5 rfl rfl) rfl (by omega)) rfl rfl ?_
   refine rg_q (wn_none rfl) (op_ldw sc_3 (rds_row 5 rfl rfl) rfl (by omega) rfl) rfl rfl ?_
   refine rg_q (wn_none rfl) (op_move (v := .pointer _) rfl) rfl rfl ?_
   refine rg_q (wn_none rfl) (op_nilck rfl) rfl rfl ?_
   refine rg_q (wn_none rfl) (op_field fld_116_1 rfl) rfl rfl ?_
   refine rg_q (wn_none rfl) (op_ld 1 sc_42 rfl rfl rfl) rfl rfl ?_
   refine rg_q (wn_none rfl) (op_move (v := .int _ _) rfl) rfl rfl ?_
   refine rg_q (wn_none rfl) (op_index i0 sB_42 rfl rfl rfl (rds_row 2 rfl rfl) rfl (by omega)) rfl rfl ?_
   refine rg_q (wn_none rfl) (op_ldw sc_3 (rds_row 2 rfl rfl) rfl (by omega) rfl) rfl rfl ?_
   refine rg_q (wn_none rfl) (op_sub rfl rfl (by omega) (by omega)) rfl rfl ?_
   refine rg_q (wn_none rfl) (op_assign (v := .int _ _) rfl) rfl rfl ?_
   refine rg_nil_then0 ?_
   refine cd_seq ?_
   refine cd_sr ?_
   refine oq (op_move (v := .int _ _) rfl) ?_
   refine oq (op_eq rfl rfl) ?_
   refine ol_nil_then ?_
   refine cd_cond rfl (fun hb3 => ?_) (fun hb3 => ?_)
   ·have hp3 := hb3
    (try simp only [bn] at hp3)
    have hd0 : oA (runO t.nodes (growO t.nodes.length o) xs).2 i0 - oA (growO t.nodes.length o) i0 = 0 := by omega
    have eS : sumL t.nodes (mixO (growO t.nodes.length o) (runO t.nodes (growO t.nodes.length o) xs).2 ((t.nodes.length : Int) - 1 - (i0 : Int)).toNat) = sumL t.nodes (mixO (growO t.nodes.length o) (runO t.nodes (growO t.nodes.length o) xs).2 ((t.nodes.length : Int) - 1 - ((i0 : Int) - 1)).toNat) := by rw [hmm]; exact (mix_same hul hml (by rw [hm0]; exact hd0)).symm
    refine cd_exit ?_
    refine px_thenE ?_
    refine px_blockE ?_
    refine px_then ?_
    refine cd_region ?_
    refine oq (op_move (v := .int _ _) rfl) ?_
    refine oq (op_sub rfl rfl (by omega) (by omega)) ?_
    refine oq (op_assign (v := .int _ _) rfl) ?_
    refine ol_nil ?_
    refine px_loop2 ((i0 : Int) - 1) (by omega) (by (try dsimp only); omega) ⟨rfl, trivial⟩ ?_ (fun _ s => (by (try dsimp only); rw [← eS]; exact s))
    repeat (first | exact kept_over | refine kept_upd rfl ?_ | refine kept_overS (by decide) ?_)
   ·have hp3 := hb3
    (try simp only [bn] at hp3)
    rw [hvu, hvg]
    refine cd_skip ?_
    refine px_then ?_
    refine cd_sr ?_
    refine oq (op_move (v := .int _ _) rfl) ?_
    refine oq (op_assign (v := .int _ _) rfl) ?_
    refine ol_nil_then ?_
    refine cd_block ?_
    refine cd_loop2 (α := Int) [(9, 11), (49, 71)] (fun x => [(9, .int .i64 x)]) (fun x => Row 3 encI64 (.slice a2 (sumL t.nodes (growO t.nodes.length o)).length c2) (upL t.nodes (sumN t.nodes (mixO (growO t.nodes.length o) (runO t.nodes (growO t.nodes.length o) xs).2 ((t.nodes.length : Int) - 1 - (i0 : Int)).toNat)) (growO t.nodes.length o).length i0 x (oA (runO t.nodes (growO t.nodes.length o) xs).2 i0 - oA (growO t.nodes.length o) i0)) :: _) (fun x => x = -1 ∨ ∃ k : Nat, x = k ∧ k < t.nodes.length ∧ belI t.nodes k (i0 : Int) = true) (fun x => (x + 1).toNat) (i0 : Int) (.inr ⟨i0, rfl, by omega, belI_eq⟩) ⟨rfl, trivial⟩ (fun _ s => by (try dsimp only); rw [up_first hul]; exact s) ?_
    rintro k hkk f; (try dsimp only at hkk ⊢)
    refine cd_seq ?_
    refine cd_sr ?_
    refine oq (op_move (v := .int _ _) rfl) ?_
    refine oq (op_ge rfl rfl) ?_
    refine ol_nil_then ?_
    refine cd_cond rfl (fun hb4 => ?_) (fun hb4 => ?_)
    ·have hp4 := hb4
     (try simp only [bn] at hp4)
     obtain ⟨k0, rfl, hk1, hk2⟩ : ∃ k0 : Nat, k = k0 ∧ k0 < t.nodes.length ∧ belI t.nodes k0 (i0 : Int) = true := by
      rcases hkk with h | h
      ·omega
      ·exact h
     have hv0 : (upL t.nodes (sumN t.nodes (mixO (growO t.nodes.length o) (runO t.nodes (growO t.nodes.length o) xs).2 ((t.nodes.length : Int) - 1 - (i0 : Int)).toNat)) (growO t.nodes.length o).length i0 (k0 : Int) (oA (runO t.nodes (growO t.nodes.length o) xs).2 i0 - oA (growO t.nodes.length o) i0))[k0]'(by rw [upL_len]; omega) = sumN t.nodes (mixO (growO t.nodes.length o) (runO t.nodes (growO t.nodes.length o) xs).2 ((t.nodes.length : Int) - 1 - (i0 : Int)).toNat) k0 := by rw [← oA_get]; exact upL_at (by omega)
     have hms := mix_sum (ns := t.nodes) hul hml k0
     rw [hm0, if_pos hk2] at hms
     have hb1 := sumN_nonneg (ns := t.nodes) (a := k0) (mixO_nn hul hgo.nn hun (((t.nodes.length : Int) - 1 - (i0 : Int)).toNat + 1))
     have hb2 := sumN_tot (ns := t.nodes) (a := k0) (mixO_nn hul hgo.nn hun (((t.nodes.length : Int) - 1 - (i0 : Int)).toNat + 1))
     have hb3 := mixO_tot hul hgo.nn hun (((t.nodes.length : Int) - 1 - (i0 : Int)).toNat + 1)
     have hb4 := hgo.tt
     have hb5 := hz0.2
     have eU : (upL t.nodes (sumN t.nodes (mixO (growO t.nodes.length o) (runO t.nodes (growO t.nodes.length o) xs).2 ((t.nodes.length : Int) - 1 - (i0 : Int)).toNat)) (growO t.nodes.length o).length i0 (k0 : Int) (oA (runO t.nodes (growO t.nodes.length o) xs).2 i0 - oA (growO t.nodes.length o) i0)).set k0 (sumN t.nodes (mixO (growO t.nodes.length o) (runO t.nodes (growO t.nodes.length o) xs).2 ((t.nodes.length : Int) - 1 - (i0 : Int)).toNat) k0 + (oA (runO t.nodes (growO t.nodes.length o) xs).2 i0 - oA (growO t.nodes.length o) i0)) = upL t.nodes (sumN t.nodes (mixO (growO t.nodes.length o) (runO t.nodes (growO t.nodes.length o) xs).2 ((t.nodes.length : Int) - 1 - (i0 : Int)).toNat)) (growO t.nodes.length o).length i0 (prA t.nodes k0) (oA (runO t.nodes (growO t.nodes.length o) xs).2 i0 - oA (growO t.nodes.length o) i0) := upL_step hpa (by omega) (by omega) hk2
     refine cd_skip ?_
     refine px_then ?_
     refine cd_block ?_
     refine cd_sr ?_
     refine oq (op_move (v := .pointer _) rfl) ?_
     refine oq (op_nilck rfl) ?_
     refine oq (op_field fld_116_2 rfl) ?_
     refine oq (op_ld 1 sc_42 rfl rfl rfl) ?_
     refine oq (op_move (v := .int _ _) rfl) ?_
     refine oq (op_index k0 sB_42 rfl rfl rfl (rds_row 0 rfl rfl) (by rw [upL_len]; omega) (by rw [upL_len]; omega)) ?_
     refine oq (op_ldw sc_3 (rds_row 0 rfl rfl) rfl (by rw [upL_len]; omega) rfl) ?_
     refine oq (op_move (v := .int _ _) rfl) ?_
     refine oq (op_add rfl rfl (by rw [hv0]; omega) (by rw [hv0]; omega)) ?_
     refine oq (op_index k0 sB_42 rfl rfl rfl (rds_row 0 rfl rfl) (by rw [upL_len]; omega) (by rw [upL_len]; omega)) ?_
     refine oN (os_stsw  sc_3 rfl rfl rfl (by rw [upL_len]; omega) rfl rfl) ?_; rintro _ _ ⟨rfl, rfl⟩
     refine ol_nil_then ?_
     refine cd_sr ?_
     refine oq (op_move (v := .pointer _) rfl) ?_
     refine oq (op_nilck rfl) ?_
     refine oq (op_field fld_116_0 rfl) ?_
     refine oq (op_ld 1 sc_26 rfl rfl rfl) ?_
     refine oq (op_move (v := .int _ _) rfl) ?_
     refine ol_pull6 ?_
     refine oi (os_call cb_24 rfl (fun w s => Node_calls _ _ _  s )) ?_; rintro _ _ ⟨rfl, rfl⟩; rw [TreeS.node_at]
     refine oq (op_move (v := .tuple _) rfl) ?_
     refine oq (op_extract (v := .agg _) rfl rfl) ?_
     refine oq (op_extract (v := .bool _) rfl rfl) ?_
     refine oi (os_alloc (cs := (nodeC Node.zero).toArray) zB_51 (by kernel_rfl)) ?_; rintro _ _ ⟨bx1, rfl, rfl⟩
     refine oN (os_storew (nodeC _) ag_51 rfl rfl (nodeC_len _) (nodeC_one _) (by simp [nodeC_len]) (Free.zero _)) ?_; rintro _ _ ⟨rfl, rfl⟩
     refine oq (op_assign (v := .bool _) rfl) ?_
     refine ol_nil_then ?_
     refine cd_region ?_
     refine oq (op_field fld_51_2 rfl) ?_
     refine oq (op_ld 0 sc_3 rfl rfl (show (nodeC _).toArray[33]? = some (.int .i64 (prA t.nodes k0)) from nodeC_a33 _)) ?_
     refine oq (op_assign (v := .int _ _) rfl) ?_
     refine ol_nil ?_
     refine px_blockN ?_
     refine px_loop2 (prA t.nodes k0) (by rcases belI_step hpa (by omega) (by omega) hk2 with h | ⟨j, h, h3, h4⟩; exact .inl h; exact .inr ⟨j, h, by omega, h4⟩) (by (try dsimp only); rcases hpa.rg (show k0 < t.nodes.length by omega) with h | ⟨j, h, h3⟩ <;> omega) ⟨rfl, trivial⟩ ?_ (fun _ s => (by (try dsimp only); rw [← eU, ← hv0]; exact (((((((s.del 0).pull 6).pull 6).pull 6).pull 6).pull 6).pull 6)))
     repeat (first | exact kept_over | refine kept_upd rfl ?_ | refine kept_overS (by decide) ?_)
    ·have hp4 := hb4
     (try simp only [bn] at hp4)
     have eS : upL t.nodes (sumN t.nodes (mixO (growO t.nodes.length o) (runO t.nodes (growO t.nodes.length o) xs).2 ((t.nodes.length : Int) - 1 - (i0 : Int)).toNat)) (growO t.nodes.length o).length i0 k (oA (runO t.nodes (growO t.nodes.length o) xs).2 i0 - oA (growO t.nodes.length o) i0) = sumL t.nodes (mixO (growO t.nodes.length o) (runO t.nodes (growO t.nodes.length o) xs).2 ((t.nodes.length : Int) - 1 - ((i0 : Int) - 1)).toNat) := by rw [hmm]; exact mix_up hul hml (by omega) hm0.symm
     refine cd_exit ?_
     refine px_thenE ?_
     refine px_thenE ?_
     refine px_blockE ?_
     refine px_blockN ?_
     refine px_then ?_
     refine cd_region ?_
     refine oq (op_move (v := .int _ _) rfl) ?_
     refine oq (op_sub rfl rfl (by omega) (by omega)) ?_
     refine oq (op_assign (v := .int _ _) rfl) ?_
     refine ol_nil ?_
     refine px_loop2 ((i0 : Int) - 1) (by omega) (by (try dsimp only); omega) ⟨rfl, trivial⟩ ?_ (fun _ s => (by (try dsimp only); rw [← eS]; exact s))
     repeat (first | exact kept_over | refine kept_upd rfl ?_ | refine kept_overS (by decide) ?_)
  ·have hp2 := hb2
   (try simp only [bn] at hp2)
   refine cd_exit ?_
   refine px_thenE ?_
   refine px_thenE ?_
   refine px_blockE ?_
   refine px_then ?_
   refine cd_sr ?_
   refine oq (op_move (v := .pointer _) rfl) ?_
   refine oq (op_move (v := .slice _ _ _) rfl) ?_
   refine oq (op_nilck rfl) ?_
   refine oq (op_field fld_116_1 rfl) ?_
   refine ol_pull1 ?_
   refine oN (os_store (v := .slice _ _ _) sc_42 rfl rfl rfl rfl (Free.zero _) rfl) ?_; rintro _ _ ⟨rfl, rfl⟩
   refine ol_nil_then ?_
   have hei : i = -1 := by omega
   have hu : (mixO (growO t.nodes.length o) (runO t.nodes (growO t.nodes.length o) xs).2 ((t.nodes.length : Int) - 1 - i).toNat) = (runO t.nodes (growO t.nodes.length o) xs).2 := by rw [show ((t.nodes.length : Int) - 1 - i).toNat = (growO t.nodes.length o).length by omega]; exact mixO_all hul
   rw [hu]
   refine cd_imp (fun _ s => (Sat.wrawMk (o := (runO t.nodes (growO t.nodes.length o) xs).2) (sm := sumL t.nodes (runO t.nodes (growO t.nodes.length o) xs).2) (by rfl) (by simp only [sumL_len, hul]) (by rfl) (by rfl) (((((((s.del 2).pull 5).pull 4).pull 4).pull 4).pull 5).pull 5))) ?_
   refine cd_sr ?_
   refine oq (op_move (v := .pointer _) rfl) ?_
   refine ol_pull1 ?_
   refine oi (os_call cb_77 rfl (fun w s => rank_calls _ _ _ _ _ _ _  s (by rw [sumL_len, hul]; omega) (by rw [List.length_append, List.length_replicate]; omega) (by rw [List.length_append, List.length_replicate]; omega))) ?_; rintro _ _ ⟨rfl, rfl⟩
   refine ol_nil_then ?_
   refine cd_sr ?_
   refine oq (op_assign (v := .int _ _) rfl) ?_
   refine ol_nil_then ?_
   refine cd_ret ?_
   rw [applyO_run hn0]
   exact px_ret1 rfl (v := .int _ 0) rfl (fun _ s => s) ⟨rfl, rfl⟩

set_option maxRecDepth 100000 in
set_option maxHeartbeats 1000000 in
theorem Apply_nil {w0 w : World} {l : List HProp} (v0 : Value) (hs : Sat w0 w (l))  :
  Calls Try.prog 52 #[.pointer none, v0] w (Ret w0 fun v l' => v = .int .i64 2 ∧ l' = l) := by
 refine calls_enter Try.func52 rfl rfl rfl hs ?_
 refine cd_sr ?_
 refine oq (op_assign (v := .int _ _) rfl) ?_
 refine ol_nil_then ?_
 refine cd_seq ?_
 refine cd_sr ?_
 refine oq (op_move (v := .pointer _) rfl) ?_
 refine oq (op_eqnil Try.underlying27 rfl rfl) ?_
 refine ol_nil_then ?_
 refine cd_cond_t rfl rfl ?_
 refine cd_sr ?_
 refine oq (op_assign (v := .int _ _) rfl) ?_
 refine ol_nil_then ?_
 refine cd_ret ?_
 refine px_thenR ?_
 exact px_ret1 rfl (v := .int _ _) rfl (fun _ s => s) ⟨rfl, rfl⟩
end Go.SL

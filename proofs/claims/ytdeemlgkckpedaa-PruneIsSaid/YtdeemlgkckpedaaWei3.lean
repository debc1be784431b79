import Derived.Test.YtdeemlgkckpedaaWei
set_option linter.unusedVariables false
set_option linter.unusedSimpArgs false
namespace Go.SL
open Go.Proofs

set_option maxRecDepth 100000 in
set_option maxHeartbeats 1000000 in
theorem rank_calls {w0 w : World} {l : List HProp} (pw pt : Nat) (t : TreeS) (o sm be lf : List Int) (hs : Sat w0 w ((TreeObj pt t) :: (WRaw pw pt o sm be lf) :: l)) (h2 : sm.length = t.nodes.length) (h3 : be.length = t.nodes.length) (h4 : lf.length = t.nodes.length) :
  Calls Try.prog 77 #[.pointer (some ⟨pw, 0, none⟩)] w (Ret w0 fun v l' => v = .tuple #[] ∧ l' = TreeObj pt t :: WRaw pw pt o sm (bestL t.nodes sm) (leafL t.nodes sm) :: l) := by
 have hw := hs.treeWF
 have hm1 := hw.m1; have hm2 := hw.m2; have hle := hw.le; have hne := hw.ne; have hpa := hw.pa; have hnd := hw.nd
 obtain ⟨a1, c1, a2, c2, a3, c3, a4, c4, hs⟩ := (hs.pull 1).wrawOpen
 refine calls_enter Try.func77 rfl rfl rfl hs ?_
 refine cd_seq ?_
 refine cd_sr ?_
 refine oq (op_move (v := .pointer _) rfl) ?_
 refine oq (op_nilck rfl) ?_
 refine oq (op_field fld_116_3 rfl) ?_
 refine oq (op_ld 0 sc_42 rfl rfl rfl) ?_
 refine oq (op_len_slice Try.underlying42 rfl) ?_
 refine oq (op_move (v := .int _ _) rfl) ?_
 refine ol_nil_then ?_
 refine cd_block ?_
 refine cd_pull4 ?_
 refine cd_pull4 ?_
 refine cd_loop2 (α := Nat) [(2, 2), (13, 29)] (fun x => [(13, .int .i64 (x : Int))]) (fun x => Row 3 encI64 (.slice a3 be.length c3) (tab t.nodes.length (fun j => if j < x then (-1 : Int) else oA be j)) :: Row 3 encI64 (.slice a4 lf.length c4) (tab t.nodes.length (fun j => if j < x then (j : Int) else oA lf j)) :: _) (fun x => x ≤ t.nodes.length) (fun x => t.nodes.length - x) 0 (Nat.zero_le _) ⟨rfl, trivial⟩ (fun _ s => by (try dsimp only); rw [tab_start h3, tab_start h4]; exact s) ?_
 rintro i1 hi f; (try dsimp only at hi ⊢)
 refine cd_sr ?_
 refine oq (op_lt rfl rfl) ?_
 refine ol_nil_then ?_
 refine cd_seq ?_
 refine cd_cond rfl (fun hb1 => ?_) (fun hb1 => ?_)
 ·have hp1 := hb1
  (try simp only [bn] at hp1)
  have hi1 : i1 < t.nodes.length := by omega
  refine cd_skip ?_
  refine px_then ?_
  refine cd_seq ?_
  refine cd_block ?_
  refine cd_sr ?_
  refine oq (op_move (v := .int _ _) rfl) ?_
  refine oq (op_assign (v := .int _ _) rfl) ?_
  refine ol_nil_then ?_
  refine cd_pull1 ?_
  refine cd_draw (M := [_, _]) mx [11, 12, 13, 14] (by kernel_rfl) ?_
  refine rg_q (wn_none rfl) (op_move (v := .pointer _) rfl) rfl rfl ?_
  refine rg_q (wn_none rfl) (op_nilck rfl) rfl rfl ?_
  refine rg_q (wn_none rfl) (op_field fld_116_3 rfl) rfl rfl ?_
  refine rg_q (wn_none rfl) (op_ld 0 sc_42 rfl rfl rfl) rfl rfl ?_
  refine rg_q (wn_none rfl) (op_move (v := .int _ _) rfl) rfl rfl ?_
  refine rg_q (wn_none rfl) (op_move (v := .pointer _) rfl) rfl rfl ?_
  refine rg_q (wn_none rfl) (op_nilck rfl) rfl rfl ?_
  refine rg_q (wn_none rfl) (op_field fld_116_4 rfl) rfl rfl ?_
  refine rg_q (wn_none rfl) (op_ld 0 sc_42 rfl rfl rfl) rfl rfl ?_
  refine rg_q (wn_none rfl) (op_move (v := .int _ _) rfl) rfl rfl ?_
  refine rg_q (wn_none rfl) (op_move (v := .int _ _) rfl) rfl rfl ?_
  refine rg_i (wn_none rfl) (os_q (op_index i1 sB_42 rfl rfl rfl (rds_row 1 rfl rfl) (by first | rfl | (rw [tab_len]; omega) | (rw [hbl]; omega)) (by rw [tab_len]; omega))) rfl rfl ?_; rintro _ _ ⟨rfl, rfl⟩; refine ⟨[_, _], rfl, ?_⟩
  refine rg_iN (wn_none rfl) (os_pull1 (os_stsw  sc_3 rfl rfl rfl (by rw [tab_len]; omega) rfl rfl)) rfl ?_; rintro _ _ ⟨rfl, rfl⟩; refine ⟨[_, _], rfl, ?_⟩
  refine rg_i (wn_none rfl) (os_q (op_index i1 sB_42 rfl rfl rfl (rds_row 1 rfl rfl) (by first | rfl | (rw [tab_len]; omega) | (rw [hbl]; omega)) (by rw [tab_len]; omega))) rfl rfl ?_; rintro _ _ ⟨rfl, rfl⟩; refine ⟨[_, _], rfl, ?_⟩
  refine rg_iN (wn_none rfl) (os_pull1 (os_stsw  sc_3 rfl rfl rfl (by rw [tab_len]; omega) rfl rfl)) rfl ?_; rintro _ _ ⟨rfl, rfl⟩; refine ⟨[_, _], rfl, ?_⟩
  refine rg_nil2 ?_
  refine px_blockN ?_
  refine px_then ?_
  refine cd_region ?_
  refine oq (op_add rfl rfl (by omega) (by omega)) ?_
  refine oq (op_move (v := .int _ _) rfl) ?_
  refine ol_nil ?_
  have eB : (tab t.nodes.length (fun j => if j < i1 then (-1 : Int) else oA be j)).set i1 (-1) = tab t.nodes.length (fun j => if j < (i1 + 1) then (-1 : Int) else oA be j) := tab_upd fun j hj => by (repeat' split) <;> first | rfl | omega
  have eL : (tab t.nodes.length (fun j => if j < i1 then (j : Int) else oA lf j)).set i1 (i1 : Int) = tab t.nodes.length (fun j => if j < (i1 + 1) then (j : Int) else oA lf j) := tab_upd fun j hj => by (repeat' split) <;> first | rfl | omega
  refine px_loop2 (i1 + 1) (by omega) (by (try dsimp only); omega) ⟨congrArg (Value.int .i64) (by simp), trivial⟩ ?_ (fun _ s => (by (try dsimp only); rw [← eB, ← eL]; exact ((((((s.pull 5).pull 5).pull 5).pull 5).pull 4).pull 5)))
  repeat (first | exact kept_over | refine kept_upd rfl ?_ | refine kept_overS (by decide) ?_)
 ·have hp1 := hb1
  (try simp only [bn] at hp1)
  have hi1 : i1 = t.nodes.length := by omega
  refine cd_exit ?_
  refine px_thenE ?_
  refine px_thenE ?_
  refine px_blockE ?_
  refine px_then ?_
  refine cd_seq ?_
  refine cd_sr ?_
  refine oq (op_move (v := .pointer _) rfl) ?_
  refine oq (op_nilck rfl) ?_
  refine oq (op_field fld_116_3 rfl) ?_
  refine oq (op_ld 2 sc_42 rfl rfl rfl) ?_
  refine oq (op_len_slice Try.underlying42 rfl) ?_
  refine oq (op_sub rfl rfl (by omega) (by omega)) ?_
  refine oq (op_assign (v := .int _ _) rfl) ?_
  refine ol_nil_then ?_
  refine cd_block ?_
  refine cd_loop2 (α := Int) [(3, 5), (36, 67)] (fun x => [(3, .int .i64 x)]) (fun x => Row 3 encI64 (.slice a3 be.length c3) (tab t.nodes.length (fun p => bestD t.nodes (oA sm) t.nodes.length ((t.nodes.length : Int) - 1 - x).toNat p)) :: _) (fun x => 0 ≤ x ∧ x < t.nodes.length) (fun x => x.toNat) ((be.length : Int) - 1) (by omega) ⟨rfl, trivial⟩ (fun _ s => by (try dsimp only); rw [← show tab t.nodes.length (fun j => if j < i1 then (-1 : Int) else oA be j) = tab t.nodes.length (fun p => bestD t.nodes (oA sm) t.nodes.length ((t.nodes.length : Int) - 1 - ((be.length : Int) - 1)).toNat p) from tab_congr fun j hj => by rw [show ((t.nodes.length : Int) - 1 - ((be.length : Int) - 1)).toNat = 0 by omega, bestD_zero, if_pos (by omega)]]; exact s) ?_
  rintro i ⟨hi0, hi⟩ f; (try dsimp only at hi0 hi ⊢)
  refine cd_seq ?_
  refine cd_sr ?_
  refine oq (op_move (v := .int _ _) rfl) ?_
  refine oq (op_gt rfl rfl) ?_
  refine ol_nil_then ?_
  refine cd_cond rfl (fun hb2 => ?_) (fun hb2 => ?_)
  ·have hp2 := hb2
   (try simp only [bn] at hp2)
   obtain ⟨i0, rfl⟩ : ∃ i0 : Nat, i = i0 := ⟨i.toNat, by omega⟩
   obtain ⟨j0, hpj, hj0⟩ : ∃ j : Nat, prA t.nodes i0 = j ∧ j < i0 := by
    rcases hpa.rg (show i0 < t.nodes.length by omega) with ⟨h, _⟩ | h
    ·exact absurd h (by omega)
    ·exact h
   have hbr := bestD_rg hnd (oA sm) (m := ((t.nodes.length : Int) - 1 - (i0 : Int)).toNat) (n := t.nodes.length) (by omega) (Nat.le_refl _) j0
   refine cd_skip ?_
   refine px_then ?_
   refine cd_seq ?_
   refine cd_block ?_
   refine cd_sr ?_
   refine oq (op_move (v := .pointer _) rfl) ?_
   refine oq (op_nilck rfl) ?_
   refine oq (op_field fld_116_0 rfl) ?_
   refine oq (op_ld 2 sc_26 rfl rfl rfl) ?_
   refine oq (op_move (v := .int _ _) rfl) ?_
   refine ol_pull5 ?_
   refine oi (os_call cb_24 rfl (fun w s => Node_calls _ _ _  s )) ?_; rintro _ _ ⟨rfl, rfl⟩; rw [TreeS.node_at]
   refine oq (op_move (v := .tuple _) rfl) ?_
   refine oq (op_extract (v := .agg _) rfl rfl) ?_
   refine oq (op_extract (v := .bool _) rfl rfl) ?_
   refine oi (os_alloc (cs := (nodeC Node.zero).toArray) zB_51 (by kernel_rfl)) ?_; rintro _ _ ⟨bx1, rfl, rfl⟩
   refine oN (os_storew (nodeC _) ag_51 rfl rfl (nodeC_len _) (nodeC_one _) (by simp [nodeC_len]) (Free.zero _)) ?_; rintro _ _ ⟨rfl, rfl⟩
   refine oq (op_assign (v := .bool _) rfl) ?_
   refine ol_nil_then ?_
   refine cd_pull6 ?_
   refine cd_pull5 ?_
   refine cd_pull3 ?_
   refine cd_seq ?_
   refine cd_drawt (M := [_, _, _]) mx [5] 10 (by kernel_rfl) rfl rfl ?_
   dsimp only [List.take_succ_cons, List.take_zero, List.drop_succ_cons, List.drop_zero]
   refine rg_q (wn_none rfl) (op_move (v := .pointer _) rfl) rfl rfl ?_
   refine rg_q (wn_none rfl) (op_move (v := .int _ _) rfl) rfl rfl ?_
   refine rg_q (wn_none rfl) (op_move (v := .pointer _) rfl) rfl rfl ?_
   refine rg_q (wn_none rfl) (op_nilck rfl) rfl rfl ?_
   refine rg_q (wn_none rfl) (op_field fld_116_3 rfl) rfl rfl ?_
   refine rg_i (wn_none rfl) (os_q (op_ld 1 sc_42 rfl rfl rfl)) rfl rfl ?_; rintro _ _ ⟨rfl, rfl⟩; refine ⟨[_, _, _], rfl, ?_⟩
   refine rg_q (wn_none rfl) (op_field fld_51_2 rfl) rfl rfl ?_
   refine rg_q (wn_none rfl) (op_ld 0 sc_3 rfl rfl (show (nodeC _).toArray[33]? = some (.int .i64 (prA t.nodes i0)) from nodeC_a33 _)) rfl rfl ?_
   refine rg_q (wn_none rfl) (op_index j0 sB_42 rfl rfl hpj (rds_row 1 rfl rfl) (by first | rfl | (rw [tab_len]; omega) | (rw [hbl]; omega)) (by rw [tab_len]; omega)) rfl rfl ?_
   refine rg_q (wn_none rfl) (op_ldw sc_3 (rds_row 1 rfl rfl) rfl (by rw [tab_len]; omega) rfl) rfl rfl ?_
   refine rg_tail3 ?_
   refine ol_pull2 ?_
   refine ol_pull2 ?_
   refine ol_pull2 ?_
   refine oi (os_call cb_93 rfl (fun w s => ahead_calls _ _ _ _ _ _ _ _ _ _ _ _  s rfl (by omega) (by rw [tab_get]; rcases hbr with h | ⟨k, h, _, h3⟩ <;> omega))) ?_; rintro _ _ ⟨rfl, rfl⟩; rw [tab_get]
   refine ol_nil_then ?_
   refine cd_cond rfl (fun hb3 => ?_) (fun hb3 => ?_)
   ·have hp3 := hb3
    (try simp only [bn] at hp3)
    have eB : (tab t.nodes.length (fun p => bestD t.nodes (oA sm) t.nodes.length ((t.nodes.length : Int) - 1 - (i0 : Int)).toNat p)).set j0 (i0 : Int) = tab t.nodes.length (fun p => bestD t.nodes (oA sm) t.nodes.length ((t.nodes.length : Int) - 1 - ((i0 : Int) - 1)).toNat p) := tab_upd fun p hp => by
     rw [show ((t.nodes.length : Int) - 1 - ((i0 : Int) - 1)).toNat = ((t.nodes.length : Int) - 1 - (i0 : Int)).toNat + 1 by omega, bestD_succ, show t.nodes.length - ((t.nodes.length : Int) - 1 - (i0 : Int)).toNat - 1 = i0 by omega, hpj]
     by_cases e : p = j0
     ·subst e; rw [if_pos rfl, if_pos ⟨rfl, hb3⟩]
     ·rw [if_neg e, if_neg (fun h => e (by have := h.1; omega))]
    refine cd_drawt (M := []) mx [7] 8 (by kernel_rfl) rfl rfl ?_
    dsimp only [List.take_succ_cons, List.take_zero, List.drop_succ_cons, List.drop_zero]
    refine rg_q (wn_none rfl) (op_move (v := .pointer _) rfl) rfl rfl ?_
    refine rg_q (wn_none rfl) (op_nilck rfl) rfl rfl ?_
    refine rg_q (wn_none rfl) (op_field fld_116_3 rfl) rfl rfl ?_
    refine rg_q (wn_none rfl) (op_ld 1 sc_42 rfl rfl rfl) rfl rfl ?_
    refine rg_q (wn_none rfl) (op_field fld_51_2 rfl) rfl rfl ?_
    refine rg_q (wn_none rfl) (op_ld 3 sc_3 rfl rfl (show (nodeC _).toArray[33]? = some (.int .i64 (prA t.nodes i0)) from nodeC_a33 _)) rfl rfl ?_
    refine rg_q (wn_none rfl) (op_move (v := .int _ _) rfl) rfl rfl ?_
    refine rg_i (wn_none rfl) (os_q (op_index j0 sB_42 rfl rfl hpj (rds_row 4 rfl rfl) (by first | rfl | (rw [tab_len]; omega) | (rw [hbl]; omega)) (by rw [tab_len]; omega))) rfl rfl ?_; rintro _ _ ⟨rfl, rfl⟩; refine ⟨[], rfl, ?_⟩
    refine rg_tail0 ?_
    refine ol_pull4 ?_
    refine oN (os_stsw  sc_3 rfl rfl rfl (by rw [tab_len]; omega) rfl rfl) ?_; rintro _ _ ⟨rfl, rfl⟩
    refine ol_nil ?_
    refine px_blockN ?_
    refine px_then ?_
    refine cd_region ?_
    refine oq (op_move (v := .int _ _) rfl) ?_
    refine oq (op_sub rfl rfl (by omega) (by omega)) ?_
    refine oq (op_assign (v := .int _ _) rfl) ?_
    refine ol_nil ?_
    refine px_loop2 ((i0 : Int) - 1) (by omega) (by (try dsimp only); omega) ⟨rfl, trivial⟩ ?_ (fun _ s => (by (try dsimp only); rw [← eB]; exact (((((((s.del 4).pull 1).pull 3).pull 5).pull 4).pull 5).pull 5)))
    repeat (first | exact kept_over | refine kept_upd rfl ?_ | refine kept_overS (by decide) ?_)
   ·have hp3 := hb3
    (try simp only [bn] at hp3)
    have eB : tab t.nodes.length (fun p => bestD t.nodes (oA sm) t.nodes.length ((t.nodes.length : Int) - 1 - (i0 : Int)).toNat p) = tab t.nodes.length (fun p => bestD t.nodes (oA sm) t.nodes.length ((t.nodes.length : Int) - 1 - ((i0 : Int) - 1)).toNat p) := tab_congr fun p hp => by
     rw [show ((t.nodes.length : Int) - 1 - ((i0 : Int) - 1)).toNat = ((t.nodes.length : Int) - 1 - (i0 : Int)).toNat + 1 by omega, bestD_succ, show t.nodes.length - ((t.nodes.length : Int) - 1 - (i0 : Int)).toNat - 1 = i0 by omega, hpj]
     by_cases e : p = j0
     ·subst e; rw [if_neg (fun h => by rw [h.2] at hb3; cases hb3)]
     ·rw [if_neg (fun h => e (by have := h.1; omega))]
    refine cd_skip ?_
    refine px_blockN ?_
    refine px_then ?_
    refine cd_region ?_
    refine oq (op_move (v := .int _ _) rfl) ?_
    refine oq (op_sub rfl rfl (by omega) (by omega)) ?_
    refine oq (op_assign (v := .int _ _) rfl) ?_
    refine ol_nil ?_
    refine px_loop2 ((i0 : Int) - 1) (by omega) (by (try dsimp only); omega) ⟨rfl, trivial⟩ ?_ (fun _ s => (by (try dsimp only); rw [← eB]; exact ((((((s.del 3).pull 2).pull 5).pull 3).pull 5).pull 5)))
    repeat (first | exact kept_over | refine kept_upd rfl ?_ | refine kept_overS (by decide) ?_)
  ·have hp2 := hb2
   (try simp only [bn] at hp2)
   have hi0 : i = 0 := by omega
   have eB : tab t.nodes.length (fun p => bestD t.nodes (oA sm) t.nodes.length ((t.nodes.length : Int) - 1 - i).toNat p) = bestL t.nodes sm := by
    unfold bestL
    rw [h2]
    exact tab_congr fun p hp => by rw [show ((t.nodes.length : Int) - 1 - i).toNat = t.nodes.length - 1 by omega]; exact bestD_all hnd hpa _ (Nat.le_refl _) p
   rw [eB]
   have hbl : (bestL t.nodes sm).length = t.nodes.length := by unfold bestL; simp [h2]
   refine cd_exit ?_
   refine px_thenE ?_
   refine px_thenE ?_
   refine px_blockE ?_
   refine px_then ?_
   refine cd_sr ?_
   refine oq (op_move (v := .pointer _) rfl) ?_
   refine oq (op_nilck rfl) ?_
   refine oq (op_field fld_116_3 rfl) ?_
   refine oq (op_ld 2 sc_42 rfl rfl rfl) ?_
   refine oq (op_len_slice Try.underlying42 rfl) ?_
   refine oq (op_sub rfl rfl (by omega) (by omega)) ?_
   refine oq (op_assign (v := .int _ _) rfl) ?_
   refine ol_nil_then ?_
   refine cd_block ?_
   refine cd_pull1 ?_
   refine cd_loop2 (α := Int) [(6, 7), (74, 99)] (fun x => [(6, .int .i64 x)]) (fun x => Row 3 encI64 (.slice a4 lf.length c4) (tab t.nodes.length (fun j => if (j : Int) ≤ x then (j : Int) else ((leafN t.nodes (oA sm) t.nodes.length j : Nat) : Int))) :: _) (fun x => -1 ≤ x ∧ x < t.nodes.length) (fun x => (x + 1).toNat) ((be.length : Int) - 1) (by omega) ⟨rfl, trivial⟩ (fun _ s => by (try dsimp only); rw [← show tab t.nodes.length (fun j => if j < i1 then (j : Int) else oA lf j) = tab t.nodes.length (fun j => if (j : Int) ≤ ((be.length : Int) - 1) then (j : Int) else ((leafN t.nodes (oA sm) t.nodes.length j : Nat) : Int)) from tab_congr fun j hj => by rw [if_pos (by omega), if_pos (by omega)]]; exact s) ?_
   rintro i3 ⟨hi30, hi3⟩ f; (try dsimp only at hi30 hi3 ⊢)
   refine cd_seq ?_
   refine cd_sr ?_
   refine oq (op_move (v := .int _ _) rfl) ?_
   refine oq (op_ge rfl rfl) ?_
   refine ol_nil_then ?_
   refine cd_cond rfl (fun hb4 => ?_) (fun hb4 => ?_)
   ·have hp4 := hb4
    (try simp only [bn] at hp4)
    obtain ⟨i0, rfl⟩ : ∃ i0 : Nat, i3 = i0 := ⟨i3.toNat, by omega⟩
    have hbv : (bestL t.nodes sm)[i0]'(by rw [hbl]; omega) = bestN t.nodes (oA sm) sm.length i0 := by simp only [bestL, List.getElem_map, List.getElem_range]
    refine cd_skip ?_
    refine px_then ?_
    refine cd_seq ?_
    refine cd_block ?_
    refine cd_sr ?_
    refine oq (op_move (v := .pointer _) rfl) ?_
    refine oq (op_nilck rfl) ?_
    refine oq (op_field fld_116_3 rfl) ?_
    refine oq (op_ld 2 sc_42 rfl rfl rfl) ?_
    refine oq (op_move (v := .int _ _) rfl) ?_
    refine oq (op_index i0 sB_42 rfl rfl rfl (rds_row 1 rfl rfl) (by first | rfl | (rw [tab_len]; omega) | (rw [hbl]; omega)) (by rw [hbl]; omega)) ?_
    refine oq (op_ldw sc_3 (rds_row 1 rfl rfl) rfl (by rw [hbl]; omega) rfl) ?_
    refine oq (op_assign (v := .int _ _) rfl) ?_
    refine ol_nil_then ?_
    refine cd_sr ?_
    refine oq (op_move (v := .int _ _) rfl) ?_
    refine oq (op_ge rfl rfl) ?_
    refine ol_nil_then ?_
    refine cd_cond rfl (fun hb5 => ?_) (fun hb5 => ?_)
    ·have hp5 := hb5
     (try simp only [bn] at hp5)
     obtain ⟨k0, hk0, hk1, hk2⟩ : ∃ k0 : Nat, (bestL t.nodes sm)[i0]'(by rw [hbl]; omega) = (k0 : Int) ∧ i0 < k0 ∧ k0 < t.nodes.length := by
      rcases bestN_rg hnd hpa (oA sm) (Nat.le_of_eq h2) i0 with h | ⟨k, h, h5, h6, _⟩
      ·omega
      ·exact ⟨k, by omega, h5, by omega⟩
     have eL : (tab t.nodes.length (fun j => if (j : Int) ≤ (i0 : Int) then (j : Int) else ((leafN t.nodes (oA sm) t.nodes.length j : Nat) : Int))).set i0 ((tab t.nodes.length (fun j => if (j : Int) ≤ (i0 : Int) then (j : Int) else ((leafN t.nodes (oA sm) t.nodes.length j : Nat) : Int)))[k0]'(by rw [tab_len]; omega)) = tab t.nodes.length (fun j => if (j : Int) ≤ ((i0 : Int) - 1) then (j : Int) else ((leafN t.nodes (oA sm) t.nodes.length j : Nat) : Int)) := tab_upd fun j hj => by
      rw [tab_get]
      by_cases e : j = i0
      ·subst e
       rw [if_pos rfl, if_neg (by omega), if_neg (by omega), ← h2, leafN_yes hnd hpa (Nat.le_of_eq h2) (hbv.symm.trans hk0)]
      ·rw [if_neg e]
       by_cases q1 : (j : Int) ≤ (i0 : Int)
       ·rw [if_pos q1, if_pos (by omega)]
       ·rw [if_neg q1, if_neg (by omega)]
     refine cd_drawt (M := []) mx [10, 11, 12] 13 (by kernel_rfl) rfl rfl ?_
     dsimp only [List.take_succ_cons, List.take_zero, List.drop_succ_cons, List.drop_zero]
     refine rg_q (wn_none rfl) (op_move (v := .pointer _) rfl) rfl rfl ?_
     refine rg_q (wn_none rfl) (op_nilck rfl) rfl rfl ?_
     refine rg_q (wn_none rfl) (op_field fld_116_4 rfl) rfl rfl ?_
     refine rg_q (wn_none rfl) (op_ld 2 sc_42 rfl rfl rfl) rfl rfl ?_
     refine rg_q (wn_none rfl) (op_move (v := .int _ _) rfl) rfl rfl ?_
     refine rg_q (wn_none rfl) (op_move (v := .pointer _) rfl) rfl rfl ?_
     refine rg_q (wn_none rfl) (op_nilck rfl) rfl rfl ?_
     refine rg_q (wn_none rfl) (op_field fld_116_4 rfl) rfl rfl ?_
     refine rg_q (wn_none rfl) (op_ld 2 sc_42 rfl rfl rfl) rfl rfl ?_
     refine rg_q (wn_none rfl) (op_move (v := .int _ _) rfl) rfl rfl ?_
     refine rg_i (wn_none rfl) (os_q (op_index k0 sB_42 rfl rfl hk0 (rds_row 0 rfl rfl) (by first | rfl | (rw [tab_len]; omega) | (rw [hbl]; omega)) (by rw [tab_len]; omega))) rfl rfl ?_; rintro _ _ ⟨rfl, rfl⟩; refine ⟨[], rfl, ?_⟩
     refine rg_i (wn_none rfl) (os_q (op_ldw sc_3 (rds_row 0 rfl rfl) rfl (by rw [tab_len]; omega) rfl)) rfl rfl ?_; rintro _ _ ⟨rfl, rfl⟩; refine ⟨[], rfl, ?_⟩
     refine rg_i (wn_none rfl) (os_q (op_index i0 sB_42 rfl rfl rfl (rds_row 0 rfl rfl) (by first | rfl | (rw [tab_len]; omega) | (rw [hbl]; omega)) (by rw [tab_len]; omega))) rfl rfl ?_; rintro _ _ ⟨rfl, rfl⟩; refine ⟨[], rfl, ?_⟩
     refine rg_tail0 ?_
     refine oN (os_stsw  sc_3 rfl rfl rfl (by rw [tab_len]; omega) rfl rfl) ?_; rintro _ _ ⟨rfl, rfl⟩
     refine ol_nil ?_
     refine px_blockN ?_
     refine px_then ?_
     refine cd_region ?_
     refine oq (op_move (v := .int _ _) rfl) ?_
     refine oq (op_sub rfl rfl (by omega) (by omega)) ?_
     refine oq (op_assign (v := .int _ _) rfl) ?_
     refine ol_nil ?_
     refine px_loop2 ((i0 : Int) - 1) (by omega) (by (try dsimp only); omega) ⟨rfl, trivial⟩ ?_ (fun _ s => (by (try dsimp only); rw [← eL]; exact s))
     repeat (first | exact kept_over | refine kept_upd rfl ?_ | refine kept_overS (by decide) ?_)
    ·have hp5 := hb5
     (try simp only [bn] at hp5)
     have eL : tab t.nodes.length (fun j => if (j : Int) ≤ (i0 : Int) then (j : Int) else ((leafN t.nodes (oA sm) t.nodes.length j : Nat) : Int)) = tab t.nodes.length (fun j => if (j : Int) ≤ ((i0 : Int) - 1) then (j : Int) else ((leafN t.nodes (oA sm) t.nodes.length j : Nat) : Int)) := tab_congr fun j hj => by
      by_cases e : j = i0
      ·subst e
       rw [if_pos (by omega), if_neg (by omega), ← h2, leafN_no _ (by omega)]
      ·by_cases q1 : (j : Int) ≤ (i0 : Int)
       ·rw [if_pos q1, if_pos (by omega)]
       ·rw [if_neg q1, if_neg (by omega)]
     refine cd_skip ?_
     refine px_blockN ?_
     refine px_then ?_
     refine cd_region ?_
     refine oq (op_move (v := .int _ _) rfl) ?_
     refine oq (op_sub rfl rfl (by omega) (by omega)) ?_
     refine oq (op_assign (v := .int _ _) rfl) ?_
     refine ol_nil ?_
     refine px_loop2 ((i0 : Int) - 1) (by omega) (by (try dsimp only); omega) ⟨rfl, trivial⟩ ?_ (fun _ s => (by (try dsimp only); rw [← eL]; exact s))
     repeat (first | exact kept_over | refine kept_upd rfl ?_ | refine kept_overS (by decide) ?_)
   ·have hp4 := hb4
    (try simp only [bn] at hp4)
    refine cd_exit ?_
    refine px_thenE ?_
    refine px_thenE ?_
    refine px_blockE ?_
    have ei : i3 = -1 := by omega
    have eL : tab t.nodes.length (fun j => if (j : Int) ≤ i3 then (j : Int) else ((leafN t.nodes (oA sm) t.nodes.length j : Nat) : Int)) = leafL t.nodes sm := by
     unfold leafL
     rw [h2]
     exact tab_congr fun j hj => by rw [if_neg (by omega)]
    rw [eL]
    exact px_end0 (l' := TreeObj pt t :: WRaw pw pt o sm (bestL t.nodes sm) (leafL t.nodes sm) :: l) rfl (fun _ s => ((Sat.wrawMk rfl rfl (by rw [hbl]; omega) (by unfold leafL; simp; omega) ((((((s.pull 5).pull 1).pull 2).pull 5).pull 5).pull 5)).pull 1)) ⟨rfl, rfl⟩
end Go.SL
